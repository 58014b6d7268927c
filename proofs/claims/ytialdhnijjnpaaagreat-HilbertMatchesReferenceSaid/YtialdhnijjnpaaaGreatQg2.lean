/- Part 2 of the proof of hilbertMatchesReference_holds. No condition. -/
import Derived.BigQuiet
import Derived.ChangeAlike
import Derived.ChangeKeysEq
import Derived.Deep.Cut
import Derived.Deep.CutBlock
import Derived.Deep.DeepCutAuto
import Derived.Deep.LoopGhost
import Derived.Deep.QuietTactic
import Derived.Deep.RegionHeld3
import Derived.Laws.AppendOwnNone
import Derived.RegionTactic
import Derived.WalkKit
import Derived.WalkLawsBesides
import Derived.WalkSpells
import Derived.Test.YtialdhnijjnpaaaGreatQg1
set_option linter.unusedSimpArgs false
set_option linter.unusedVariables false
set_option maxRecDepth 100000
set_option maxHeartbeats 800000
namespace Go.Proofs.YtialdhnijjnpaaaGreat
open Go.RowKit
def c8(a:Nat->Int):Array Value:=#[.int .i64 (a 0),.int .i64 (a 1),.int .i64 (a 2),.int .i64 (a 3),.int .i64 (a 4),.int .i64 (a 5),.int .i64 (a 6),.int .i64 (a 7)]
theorem A07(a:Nat->Int)(k:Nat)(h:k<8):(c8 a)[k]? = some (.int .i64 (a k)):=by
 match k,h with
 | 0,_=>rfl
 | 1,_=>rfl
 | 2,_=>rfl
 | 3,_=>rfl
 | 4,_=>rfl
 | 5,_=>rfl
 | 6,_=>rfl
 | 7,_=>rfl
theorem lt8{k:Nat}(h:k<8):k=0\/k=1\/k=2\/k=3\/k=4\/k=5\/k=6\/k=7:=by omega
theorem Ez(a:Nat->Int)(k:Nat)(h:k<8)(W:World):(Instr.index 55 (.agg #[.int .i64 (a 0),.int .i64 (a 1),.int .i64 (a 2),.int .i64 (a 3),.int .i64 (a 4),.int .i64 (a 5),.int .i64 (a 6),.int .i64 (a 7)]) (.int .i64 (k:Int))).run Tryz.prog W = .ok (.int .i64 (a k)) W:=by
 rcases lt8 h with rfl | rfl | rfl | rfl | rfl | rfl | rfl | rfl<;>kernel_rfl
theorem OJ(a:Nat->Int)(k:Nat)(h:k<8)(W:World):(part 3 (c8 a) (k*Tryz.prog.cellsOf 3)).run Tryz.prog W = .ok (.int .i64 (a k)) W:=by
 rcases lt8 h with rfl | rfl | rfl | rfl | rfl | rfl | rfl | rfl<;>kernel_rfl
def HA(a b:Nat->Int):Bool:=(List.range 8).all λi=>a i==b i
theorem Da{a b:Nat->Int}:HA a b=true↔∀i,i<8->a i=b i:=by simp [HA]
theorem IW(d:Nat)(a b:Nat->Int)(W:World):∀is:List Nat,(∀i∈is,i<8)->(Op.eqItems (d+1) 3 (Tryz.prog.cellsOf 3) (c8 a) (c8 b) is).run Tryz.prog W = .ok (is.all λi=>a i==b i) W
 | [],_=>by simp [Op.eqItems]
 | i::is,h=>by
  have ih:=IW d a b W is λj hj=>h j (by simp [hj])
  have hi:=h i (by simp)
  simp only [Op.eqItems,Sem.run_bind,OJ a i hi,OJ b i hi,Result.andThen_ok,run_equalIn_int W d 3 .i64 .i64 _ _ (show Tryz.prog.underlying 3=some (.int .i64) by kernel_rfl)]
  cases hc:a i==b i
  .simp [hc]
  .simp only [Bool.not_true,Bool.false_eq_true,if_false,ih,List.all_cons,hc,Bool.true_and]
theorem DN(a b:Nat->Int)(W:World):(Op.equalIn 10000 55 (.agg #[.int .i64 (a 0),.int .i64 (a 1),.int .i64 (a 2),.int .i64 (a 3),.int .i64 (a 4),.int .i64 (a 5),.int .i64 (a 6),.int .i64 (a 7)]) (.agg #[.int .i64 (b 0),.int .i64 (b 1),.int .i64 (b 2),.int .i64 (b 3),.int .i64 (b 4),.int .i64 (b 5),.int .i64 (b 6),.int .i64 (b 7)])).run Tryz.prog W = .ok (HA a b) W:=by
 obtain ⟨i,hi⟩:∃i,Tryz.prog.info? 3=some i:=Option.isSome_iff_exists.1 (by kernel_rfl)
 have:=run_equalIn_array (P:=Tryz.prog) W 9999 (t:=55) (e:=3) (n:=8) (c8 a) (c8 b) (by kernel_rfl) hi
 rw [IW 9998 a b W (List.range 8) (by simp)] at this
 exact this
theorem Blk.at8{w:World}{g:Nat}{t:TypeId}{a:Nat->Int}(h:Blk w g t (c8 a)){k:Nat}(hk:k<8):w.cell? ⟨g,k,none⟩=some (.int .i64 (a k)):=by
 rw [h.cell,A07 a k hk]
def CZ(a:Nat->Int):Nat->Int
 | 0=>0
 | k+1=>CZ a k+a k
def In8(a:Nat->Int)(lo hi:Int):Prop:=∀i,i<8->lo<=a i/\a i<=hi
theorem In8.mono{a:Nat->Int}{lo hi lo' hi':Int}(h:In8 a lo hi)(h1:lo'<=lo)(h2:hi<=hi'):In8 a lo' hi':=λi hi=>by have:=h i hi;omega
theorem GQ{a:Nat->Int}{lo hi:Int}(h:In8 a lo hi):∀k,k<=8->lo*k<=CZ a k/\CZ a k<=hi*k
 | 0,_=>by simp [CZ]
 | k+1,hk=>by
  have ih:=GQ h k (by omega)
  have:=h k (by omega)
  simp only [CZ,Int.natCast_add,Int.mul_add]
  omega
theorem TY(a:Nat->Int)(w:World)(h:In8 a (-1000000) 1000000) :
  Calls Tryz.prog 94 #[.agg #[.int .i64 (a 0),.int .i64 (a 1),.int .i64 (a 2),.int .i64 (a 3),.int .i64 (a 4),.int .i64 (a 5),.int .i64 (a 6),.int .i64 (a 7)]] w λe w'=>e = .returned (.int .i64 (CZ a 8))/\Ext w w':=by
 replace h:=Ae h
 go_enter Tryz.func94,Tryz.ntmps94
 go_wp2
 go_loopw [3,7] (λs i wr=>∃k:Nat,k<=8/\i = .int .i64 k/\s = .int .i64 (CZ a k)/\Hid (Ext w wr)) (λ_ i _=>8-(intOf i).toNat)
 case atStart=>exact ⟨0,by omega,rfl,rfl,(Ext.refl _).alloc _⟩
 case round=>
  obtain ⟨k,hk,rfl,rfl,hE⟩:=hrel
  by_cases hlt:k<8
  .have hx:=λW=>Ez a k hlt W
   have hb:=GQ h.out k hk
   have hb':=h.out k hlt
   have hs:CZ a (k+1)=CZ a k+a k:=rfl
   generalize CZ a k=s at *
   generalize a k=x at *
   replace hs:=Ae hs
   go_wp2
   exact ⟨⟨k+1,hlt,by simp,by rw [hs.out],hE⟩,by simp [intOf];omega⟩
  .obtain rfl:k=8:=by omega
   go_wp2
   go_ret
   exact ⟨rfl,hE.out⟩
def EB(a b:Nat->Int):Nat->Nat->Int
 | _,0=>0
 | k,n+1=>if a k=b k then EB a b (k+1) n else if a k<b k then -1 else 1
def DY(a b:Nat->Int):Int:=EB a b 0 8
theorem Jj{a b:Nat->Int}:∀(n k:Nat),(∀i,k<=i->i<k+n->a i=b i)->EB a b k n=0
 | 0,_,_=>rfl
 | n+1,k,h=>by
  rw [EB,if_pos (h k (by omega) (by omega))]
  exact Jj n (k+1) λi h1 h2=>h i (by omega) (by omega)
theorem Zy(a b:Nat->Int)(w:World) :
  Calls Tryz.prog 74 #[.agg #[.int .i64 (a 0),.int .i64 (a 1),.int .i64 (a 2),.int .i64 (a 3),.int .i64 (a 4),.int .i64 (a 5),.int .i64 (a 6),.int .i64 (a 7)],.agg #[.int .i64 (b 0),.int .i64 (b 1),.int .i64 (b 2),.int .i64 (b 3),.int .i64 (b 4),.int .i64 (b 5),.int .i64 (b 6),.int .i64 (b 7)]] w λe w'=>e = .returned (.int .i64 (DY a b))/\Ext w w':=by
 have hq:=λW=>DN a b W
 cases he:HA a b with
 | true=>
  rw [he] at hq
  go_enter Tryz.func74,Tryz.ntmps74
  go_wp2
  go_ret
  refine ⟨?_,((Ext.refl _).alloc _).alloc _⟩
  rw [DY,Jj 8 0 λi _ h=>Da.1 he i (by omega)]
  rfl
 | false=>
  rw [he] at hq
  have hne:¬∀i,i<8->a i=b i:=λh=>by rw [Da.2 h] at he;cases he
  clear he
  replace hne:=Ae hne
  have hA:Hid (Blk ((w.alloc (.cells #[.int .i64 (a 0),.int .i64 (a 1),.int .i64 (a 2),.int .i64 (a 3),.int .i64 (a 4),.int .i64 (a 5),.int .i64 (a 6),.int .i64 (a 7)] 55)).alloc (.cells #[.int .i64 (b 0),.int .i64 (b 1),.int .i64 (b 2),.int .i64 (b 3),.int .i64 (b 4),.int .i64 (b 5),.int .i64 (b 6),.int .i64 (b 7)] 55)) w.heap.size 55 (c8 a)):=(Blk.new _ _ _).alloc _
  have hB:Hid (Blk ((w.alloc (.cells #[.int .i64 (a 0),.int .i64 (a 1),.int .i64 (a 2),.int .i64 (a 3),.int .i64 (a 4),.int .i64 (a 5),.int .i64 (a 6),.int .i64 (a 7)] 55)).alloc (.cells #[.int .i64 (b 0),.int .i64 (b 1),.int .i64 (b 2),.int .i64 (b 3),.int .i64 (b 4),.int .i64 (b 5),.int .i64 (b 6),.int .i64 (b 7)] 55)) (w.heap.size+1) 55 (c8 b)):=CU _ _ (by simp)
  have hE:Hid (Ext w ((w.alloc (.cells #[.int .i64 (a 0),.int .i64 (a 1),.int .i64 (a 2),.int .i64 (a 3),.int .i64 (a 4),.int .i64 (a 5),.int .i64 (a 6),.int .i64 (a 7)] 55)).alloc (.cells #[.int .i64 (b 0),.int .i64 (b 1),.int .i64 (b 2),.int .i64 (b 3),.int .i64 (b 4),.int .i64 (b 5),.int .i64 (b 6),.int .i64 (b 7)] 55))):=((Ext.refl _).alloc _).alloc _
  go_enter Tryz.func74,Tryz.ntmps74
  go_wp2
  generalize ((w.alloc (.cells #[.int .i64 (a 0),.int .i64 (a 1),.int .i64 (a 2),.int .i64 (a 3),.int .i64 (a 4),.int .i64 (a 5),.int .i64 (a 6),.int .i64 (a 7)] 55)).alloc (.cells #[.int .i64 (b 0),.int .i64 (b 1),.int .i64 (b 2),.int .i64 (b 3),.int .i64 (b 4),.int .i64 (b 5),.int .i64 (b 6),.int .i64 (b 7)] 55))=w1 at *
  go_loopw [5] (λi wr=>∃k:Nat,k<8/\i = .int .i64 k/\Hid ((¬∀i,k<=i->i<8->a i=b i)/\DY a b=EB a b k (8-k)/\Blk wr w.heap.size 55 (c8 a)/\Blk wr (w.heap.size+1) 55 (c8 b)/\Ext w wr)) (λi _=>8-(intOf i).toNat)
  case atStart=>exact ⟨0,by omega,rfl,λh=>hne.out λi hi=>h i (by omega) hi,rfl,hA.out,hB.out,hE.out⟩
  case round=>
   obtain ⟨k,hk,rfl,hR⟩:=hrel
   have xa:=hR.out.2.2.1.at8 hk
   have xb:=hR.out.2.2.2.1.at8 hk
   have hs:Hid (EB a b k (8-k)=if a k=b k then EB a b (k+1) (8-(k+1)) else if a k<b k then -1 else 1):=by
    rw [show 8-k=8-(k+1)+1 by omega];rfl
   have hn:Hid (a k=b k->k+1<8/\¬∀i,k+1<=i->i<8->a i=b i):=λh=>by
    have h1:¬∀i,k+1<=i->i<8->a i=b i:=λh2=>hR.out.1 λi h3 h4=>by
     by_cases e:i=k
     .rw [e];exact h
     .exact h2 i (by omega) h4
    refine ⟨?_,h1⟩
    by_cases hk':k+1<8
    .exact hk'
    .exact absurd (λi h3 h4=>by omega) h1
   generalize a k=x at *
   generalize b k=y at *
   by_cases hxy:x=y
   .have hn':=hn.out hxy
    have hs':=hs.out
    rw [if_pos hxy] at hs'
    replace hs':=Ae (hR.out.2.1.trans hs')
    have hk1:=hn'.1
    replace hn':=Ae hn'.2
    go_wp2
    go_quiet (fail)
    go_wp2
    exact ⟨⟨k+1,hk1,by simp,hn'.out,hs'.out,hR.out.2.2.1,hR.out.2.2.2.1,hR.out.2.2.2.2.drewN _⟩,by simp [intOf];omega⟩
   .have hs':=hs.out
    rw [if_neg hxy] at hs'
    replace hs':=Ae (hR.out.2.1.trans hs')
    by_cases hlt:x<y
    .rw [if_pos hlt] at hs'
     go_wp2
     go_quiet (fail)
     go_wp2
     go_quiet (fail)
     go_wp2
     go_ret
     exact ⟨by rw [hs'.out];rfl,(hR.out.2.2.2.2.drewN _).drewN _⟩
    .rw [if_neg hlt] at hs'
     go_wp2
     go_quiet (fail)
     go_wp2
     go_quiet (fail)
     go_wp2
     go_ret
     exact ⟨by rw [hs'.out];rfl,(hR.out.2.2.2.2.drewN _).drewN _⟩
def IX(R:List (Nat->Int))(k:Nat):Nat->Int:=R.getD k (λ_=>0)
def RowsAt(κ:IntKind)(t:TypeId)(w:World)(v:Value)(R:List (Nat->Int)):Prop:=
 ∃(A:Option Addr) (c:Nat),v = .slice A R.length c/\R.length<=c/\c<=9223372036854775807 /\
  (0<R.length->∃(b o:Nat) (cs:Array Value) (fz:Nat×Nat),A=some ⟨b,o,none⟩/\w.heap[b]? = some (.cells cs t fz)/\∀k j,k<R.length->j<8->cs[o+k*8+j]? = some (.int κ (IX R k j)))
theorem RowsAt.ext{κ:IntKind}{t:TypeId}{w w':World}{v:Value}{R:List (Nat->Int)}(h:RowsAt κ t w v R)(he:Ext w w'):RowsAt κ t w' v R:=by
 obtain ⟨A,c,h1,h2,h3,h4⟩:=h
 refine ⟨A,c,h1,h2,h3,λhp=>?_⟩
 obtain ⟨b,o,cs,fz,h5,h6,h7⟩:=h4 hp
 exact ⟨b,o,cs,fz,h5,(he.block (AG h6)).trans h6,h7⟩
theorem RowsAt.open_{κ:IntKind}{t:TypeId}{w:World}{v:Value}{R:List (Nat->Int)}(h:RowsAt κ t w v R):∃(A:Option Addr) (c:Nat),v = .slice A R.length c/\R.length<=c/\c<=9223372036854775807 /\
  (0<R.length->∃(b o:Nat),A=some ⟨b,o,none⟩/\b<w.heap.size/\∀k j,k<R.length->j<8->w.cell? ⟨b,o+k*8+j,none⟩=some (.int κ (IX R k j))):=by
 obtain ⟨A,c,h1,h2,h3,h4⟩:=h
 refine ⟨A,c,h1,h2,h3,λhp=>?_⟩
 obtain ⟨b,o,cs,fz,h5,h6,h7⟩:=h4 hp
 exact ⟨b,o,h5,AG h6,λk j hk hj=>(AU h6).trans (h7 k j hk hj)⟩
def Kp(r a b:Nat->Int)(k:Nat):Int:=CZ (λi=>r i*(a i-b i)) k
def Fo:List (Nat->Int)->(Nat->Int)->(Nat->Int)->Int
 | [],_,_=>0
 | r::R,a,b=>if Kp r a b 8<0 then -1 else if 0<Kp r a b 8 then 1 else Fo R a b
def FA(R:List (Nat->Int))(a b:Nat->Int):Int:=if Fo R a b=0 then DY a b else Fo R a b
theorem Lm{a:Nat->Int}:∀{k:Nat},(∀i,i<k->a i=0)->CZ a k=0
 | 0,_=>rfl
 | k+1,h=>by rw [CZ,Lm λi hi=>h i (by omega),h k (by omega)];rfl
theorem Me{a b:Nat->Int}(h:∀i,i<8->a i=b i):∀R,Fo R a b=0
 | []=>rfl
 | r::R=>by
  have:Kp r a b 8=0:=Lm λi hi=>by rw [h i hi,Int.sub_self,Int.mul_zero]
  rw [Fo,this,if_neg (by omega),if_neg (by omega),Me h R]
theorem A1p{a b:Nat->Int}(h:∀i,i<8->a i=b i)(R:List (Nat->Int)):FA R a b=0:=by
 rw [FA,Me h,if_pos rfl,DY,Jj 8 0 λi _ hi=>h i (by omega)]
def rl(R:List (Nat->Int)):List Value:=R.flatMap λa=>(c8 a).toList
theorem OG(a:Nat->Int)(R:List (Nat->Int)):rl (a::R)=(c8 a).toList++rl R:=rfl
theorem JL:∀R:List (Nat->Int),(rl R).length=R.length*8
 | []=>rfl
 | a::R=>by rw [OG,List.length_append,JL R];simp [c8];omega
theorem SG(a:Nat->Int)(R:List (Nat->Int))(k:Nat):IX (a::R) (k+1)=IX R k:=by simp [IX]
theorem YK:∀(R:List (Nat->Int)) (k j:Nat),k<R.length->j<8->(rl R)[k*8+j]? = some (.int .i64 (IX R k j))
 | [],k,j,h,_=>by simp at h
 | a::R,0,j,_,hj=>by
  rw [OG,List.getElem?_append_left (by simp [c8];omega),Nat.zero_mul,Nat.zero_add,Array.getElem?_toList,A07 a j hj]
  rfl
 | a::R,k+1,j,hk,hj=>by
  rw [OG,List.getElem?_append_right (by simp [c8];omega),SG,<-YK R k j (by simpa using hk) hj]
  congr 1
  simp [c8]
  omega
def OwnRows(t:TypeId)(base:Nat)(w:World)(v:Value)(R:List (Nat->Int)):Prop:=w.ownsRow base t 8 v R.length (rl R)
theorem OwnRows.nil(t:TypeId)(base:Nat)(w:World):OwnRows t base w (.slice none 0 0) []:=⟨rfl,.inl ⟨rfl,rfl⟩⟩
theorem OwnRows.ext{t:TypeId}{base:Nat}{w w':World}{v:Value}{R:List (Nat->Int)}(h:OwnRows t base w v R)(he:Ext w w'):OwnRows t base w' v R:=by
 obtain ⟨h1,h2⟩:=h
 refine ⟨h1,?_⟩
 rcases h2 with h2 | ⟨g,cap,cur,h3,h4,hg,h5⟩
 .exact .inl h2
 .exact .inr ⟨g,cap,cur,h3,h4,(he.block (AG hg)).trans hg,h5⟩
theorem Qv(a:Nat->Int)(w:World)(h:In8 a 0 65535) :
  Calls Tryz.prog 87 #[.agg #[.int .i64 (a 0),.int .i64 (a 1),.int .i64 (a 2),.int .i64 (a 3),.int .i64 (a 4),.int .i64 (a 5),.int .i64 (a 6),.int .i64 (a 7)]] w λe w'=>e = .returned (.bool true)/\Ext w w':=by
 replace h:=Ae h
 go_enter Tryz.func87,Tryz.ntmps87
 go_wp2
 go_loopw [6] (λi wr=>∃k:Nat,k<=8/\i = .int .i64 k/\Hid (Ext w wr)) (λi _=>8-(intOf i).toNat)
 case atStart=>exact ⟨0,by omega,rfl,(Ext.refl _).alloc _⟩
 case round=>
  obtain ⟨k,hk,rfl,hE⟩:=hrel
  by_cases hlt:k<8
  .have hx:=λW=>Ez a k hlt W
   have hb':=h.out k hlt
   generalize a k=x at *
   have h1:decide (x<0)=false:=by simp;omega
   have h2:decide (65535<x)=false:=by simp;omega
   go_wp2
   exact ⟨⟨k+1,hlt,by simp,hE⟩,by simp [intOf];omega⟩
  .obtain rfl:k=8:=by omega
   go_wp2
   go_ret
   exact ⟨rfl,hE.out⟩
theorem OS(a:Nat->Int)(w:World)(h:¬In8 a 0 65535) :
  Calls Tryz.prog 87 #[.agg #[.int .i64 (a 0),.int .i64 (a 1),.int .i64 (a 2),.int .i64 (a 3),.int .i64 (a 4),.int .i64 (a 5),.int .i64 (a 6),.int .i64 (a 7)]] w λe w'=>e = .returned (.bool false)/\Ext w w':=by
 replace h:=Ae h
 go_enter Tryz.func87,Tryz.ntmps87
 go_wp2
 go_loopw [6] (λi wr=>∃k:Nat,k<=8/\i = .int .i64 k/\Hid (Ext w wr/\∀i,i<k->0<=a i/\a i<=65535)) (λi _=>8-(intOf i).toNat)
 case atStart=>exact ⟨0,by omega,rfl,(Ext.refl _).alloc _,λi hi=>by omega⟩
 case round=>
  obtain ⟨k,hk,rfl,hE⟩:=hrel
  by_cases hlt:k<8
  .have hx:=λW=>Ez a k hlt W
   have hs:Hid (0<=a k/\a k<=65535->∀i,i<k+1->0<=a i/\a i<=65535):=λh i hi=>by
    by_cases e:i=k
    .rw [e];exact h
    .exact hE.out.2 i (by omega)
   generalize a k=x at *
   by_cases h1:x<0
   .have h1':decide (x<0)=true:=by simpa using h1
    go_wp2
    go_ret
    exact ⟨rfl,hE.out.1⟩
   .have h1':decide (x<0)=false:=by simpa using h1
    by_cases h2:65535<x
    .have h2':decide (65535<x)=true:=by simpa using h2
     go_wp2
     go_ret
     exact ⟨rfl,hE.out.1⟩
    .have h2':decide (65535<x)=false:=by simpa using h2
     go_wp2
     exact ⟨⟨k+1,hlt,by simp,hE.out.1,hs.out ⟨by omega,by omega⟩⟩,by simp [intOf];omega⟩
  .obtain rfl:k=8:=by omega
   exact absurd hE.out.2 h.out
def Pp(a b:Nat->Int)(i:Nat):Int:=a i+b i
theorem A1S:∀m:Nat,m<256->∀k:Nat,k<8->bits BinOp.or IntKind.u8 (m:Int) (2^k)=(m ||| 2^k:Nat):=by decide +kernel
def Bn(a:Nat->Int):Nat->Nat
 | 0=>0
 | k+1=>if 0<a k then Bn a k ||| 2^k else Bn a k
theorem CX(a:Nat->Int):∀k,Bn a k<2^k
 | 0=>by simp [Bn]
 | k+1=>by
  have ih:=CX a k
  have h2:2^k<2^(k+1):=Nat.pow_lt_pow_right (by omega) (by omega)
  rw [Bn]
  split
  .exact Nat.or_lt_two_pow (by omega) h2
  .omega
theorem Gp(a:Nat->Int):∀k i,i<k->(Bn a k).testBit i=decide (0<a i)
 | 0,i,h=>by omega
 | k+1,i,h=>by
  have hl:=CX a k
  rw [Bn]
  by_cases e:i=k
  .subst e
   split
   .rename_i h1;rw [Nat.testBit_or,Nat.testBit_two_pow_self,Bool.or_true];simp [h1]
   .rename_i h1;rw [Nat.testBit_lt_two_pow hl];simp [h1]
  .have ih:=Gp a k i (by omega)
   split
   .rw [Nat.testBit_or,Nat.testBit_two_pow_of_ne (λh=>e h.symm),Bool.or_false,ih]
   .exact ih
theorem Rr(a:Nat->Int)(w:World) :
  Calls Tryz.prog 88 #[.agg #[.int .i64 (a 0),.int .i64 (a 1),.int .i64 (a 2),.int .i64 (a 3),.int .i64 (a 4),.int .i64 (a 5),.int .i64 (a 6),.int .i64 (a 7)]] w λe w'=>e = .returned (.int .u8 (Bn a 8))/\Ext w w':=by
 go_enter Tryz.func88,Tryz.ntmps88
 go_wp2
 go_loopw [3,7] (λs i wr=>∃k:Nat,k<=8/\i = .int .i64 k/\s = .int .u8 (Bn a k)/\Hid (Ext w wr)) (λ_ i _=>8-(intOf i).toNat)
 case atStart=>exact ⟨0,by omega,rfl,rfl,(Ext.refl _).alloc _⟩
 case round=>
  obtain ⟨k,hk,rfl,rfl,hE⟩:=hrel
  by_cases hlt:k<8
  .have hx:=λW=>Ez a k hlt W
   have hb:=CX a k
   have hb2:Bn a k<256:=Nat.lt_of_lt_of_le hb (Nat.pow_le_pow_right (n:=2) (by omega) (show k<=8 by omega))
   clear hb
   have hs:Hid (Bn a (k+1)=if 0<a k then Bn a k ||| 2^k else Bn a k):=rfl
   generalize Bn a k=s at *
   generalize a k=x at *
   by_cases h1:0<x
   .have hs':=hs.out
    rw [if_pos h1] at hs'
    replace hs':=Ae hs'
    clear hs
    have hm:Hid ((2:Int)^k%256=2^k):=by
     rcases lt8 hlt with rfl | rfl | rfl | rfl | rfl | rfl | rfl | rfl<;>rfl
    go_wp2
    exact ⟨⟨k+1,hlt,by simp,by rw [hs'.out,hm.out,A1S s hb2 k hlt],hE⟩,by simp [intOf];omega⟩
   .have hs':=hs.out
    rw [if_neg h1] at hs'
    replace hs':=Ae hs'
    clear hs
    go_wp2
    exact ⟨⟨k+1,hlt,by simp,by rw [hs'.out],hE⟩,by simp [intOf];omega⟩
  .obtain rfl:k=8:=by omega
   go_wp2
   go_ret
   exact ⟨rfl,hE.out⟩
def GU(n:Nat)(f:Nat->Nat->Int):List (Nat->Int):=(List.range n).map f
theorem Ek(n:Nat)(f:Nat->Nat->Int):(GU n f).length=n:=by simp [GU]
theorem OF{n:Nat}(f:Nat->Nat->Int){k:Nat}(h:k<n):IX (GU n f) k=f k:=by
 simp [IX,GU,List.getD_eq_getElem?_getD,h]
def GridAt(w:World)(g c:Nat)(t:TypeId)(n:Nat)(f:Nat->Nat->Int):Prop:=
 ∃cur:Array Value,w.heap[g]? = some (.cells cur t (0,0))/\cur.size=c*8/\n<=c/\c<=maxLen/\∀i j,i<n->j<8->cur[i*8+j]? = some (.int .i64 (f i j))
theorem GridAt.cell{w:World}{g c:Nat}{t:TypeId}{n:Nat}{f:Nat->Nat->Int}(h:GridAt w g c t n f){i j:Nat}(hi:i<n)(hj:j<8):w.cell? ⟨g,i*8+j,none⟩=some (.int .i64 (f i j)):=by
 obtain ⟨cur,h1,_,_,_,h5⟩:=h
 exact (AU h1).trans (h5 i j hi hj)
theorem GridAt.set{w:World}{g c:Nat}{t:TypeId}{n:Nat}{f f':Nat->Nat->Int}(h:GridAt w g c t n f){i j:Nat}(hi:i<n)(hj:j<8){v:Int}(h1:v=f' i j)(h2:∀a b,a<n->b<8->¬(a=i/\b=j)->f' a b=f a b):GridAt (w.setCell ⟨g,i*8+j,none⟩ (.int .i64 v)) g c t n f':=by
 obtain ⟨cur,k1,k2,k3,k4,k5⟩:=h
 refine ⟨_,Blk.set (cs:=cur) k1 (i*8+j) (.int .i64 v),by simpa using k2,k3,k4,λa b ha hb=>?_⟩
 by_cases e:a=i/\b=j
 .obtain ⟨rfl,rfl⟩:=e
  rw [Array.getElem?_setIfInBounds_self_of_lt (by omega),h1]
 .rw [Array.getElem?_setIfInBounds_ne (by omega),k5 a b ha hb,h2 a b ha hb e]
theorem GridAt.ext{w w':World}{g c:Nat}{t:TypeId}{n:Nat}{f:Nat->Nat->Int}(h:GridAt w g c t n f)(he:Ext w w'):GridAt w' g c t n f:=by
 obtain ⟨cur,k1,k2⟩:=h
 exact ⟨cur,(he.block (AG k1)).trans k1,k2⟩
theorem GridAt.drewN{w:World}{g c:Nat}{t:TypeId}{n:Nat}{f:Nat->Nat->Int}(h:GridAt w g c t n f)(m:Nat):GridAt (w.drewN m) g c t n f:=h
theorem A1g(n:Nat)(f:Nat->Nat->Int){q:Nat}(h:q<n*8):(rl (GU n f))[q]? = some (.int .i64 (f (q/8) (q%8))):=by
 have:=YK (GU n f) (q/8) (q%8) (by rw [Ek];omega) (by omega)
 rw [show q/8*8+q%8=q by omega,OF f (show q/8<n by omega)] at this
 exact this
theorem GridAt.own{w:World}{g c:Nat}{t:TypeId}{n base:Nat}{f:Nat->Nat->Int}(h:GridAt w g c t n f)(hb:base<=g):OwnRows t base w (.slice (some ⟨g,0,none⟩) n c) (GU n f):=by
 obtain ⟨cur,k1,k2,k3,k4,k5⟩:=h
 refine ⟨by rw [JL],.inr ⟨g,c,cur,by rw [Ek],hb,k1,by rw [Ek];exact k3,k4,k2,?_⟩⟩
 rw [Ek]
 refine List.ext_getElem? λq=>?_
 rw [List.getElem?_take]
 by_cases hq:q<n*8
 .rw [if_pos hq,A1g n f hq,Array.getElem?_toList]
  have:=k5 (q/8) (q%8) (by omega) (by omega)
  rwa [show q/8*8+q%8=q by omega] at this
 .rw [if_neg hq,List.getElem?_eq_none (by rw [JL,Ek];omega)]
def OwnGrid(t:TypeId)(base:Nat)(w:World)(A:Option Addr)(c n:Nat)(f:Nat->Nat->Int):Prop:=
 (n=0/\OwnRows t base w (.slice A 0 c) [])\/(0<n/\∃g,A=some ⟨g,0,none⟩/\base<=g/\GridAt w g c t n f)
theorem OwnGrid.own{t:TypeId}{base:Nat}{w:World}{A:Option Addr}{c n:Nat}{f:Nat->Nat->Int}(h:OwnGrid t base w A c n f):OwnRows t base w (.slice A n c) (GU n f):=by
 rcases h with ⟨rfl,h⟩ | ⟨_,g,rfl,hb,h⟩
 .exact h
 .exact h.own hb
theorem OwnGrid.drewN{t:TypeId}{base:Nat}{w:World}{A:Option Addr}{c n:Nat}{f:Nat->Nat->Int}(h:OwnGrid t base w A c n f)(m:Nat):OwnGrid t base (w.drewN m) A c n f:=h
theorem OwnGrid.ext{t:TypeId}{base:Nat}{w w':World}{A:Option Addr}{c n:Nat}{f:Nat->Nat->Int}(h:OwnGrid t base w A c n f)(he:Ext w w'):OwnGrid t base w' A c n f:=by
 rcases h with ⟨rfl,h⟩ | ⟨h0,g,rfl,hb,h⟩
 .exact .inl ⟨rfl,h.ext he⟩
 .exact .inr ⟨h0,g,rfl,hb,h.ext he⟩
def RowsIn(κ:IntKind)(w:World)(v:Value)(R:List (Nat->Int)):Prop:=
 ∃(A:Option Addr) (c:Nat),v = .slice A R.length c/\R.length<=c/\c<=9223372036854775807 /\
  (0<R.length->∃(b o:Nat),A=some ⟨b,o,none⟩/\b<w.heap.size/\∀k j,k<R.length->j<8->w.cell? ⟨b,o+k*8+j,none⟩=some (.int κ (IX R k j)))
theorem RowsIn.ext{κ:IntKind}{w w':World}{v:Value}{R:List (Nat->Int)}(h:RowsIn κ w v R)(he:Ext w w'):RowsIn κ w' v R:=by
 obtain ⟨A,c,h1,h2,h3,h4⟩:=h
 refine ⟨A,c,h1,h2,h3,λhp=>?_⟩
 obtain ⟨b,o,h5,h6,h7⟩:=h4 hp
 exact ⟨b,o,h5,Nat.lt_of_lt_of_le h6 he.size,λk j hk hj=>he.cellv (h7 k j hk hj)⟩
def Ih(a b:Nat->Int)(i:Nat):Int:=a i-b i
def DD(d:Nat->Int):Nat->Nat->Int
 | _,0=>0
 | k,n+1=>if d k=0 then DD d (k+1) n else if d k<0 then -1 else 1
def EW(r d:Nat->Int):Int:=CZ (λi=>r i*d i) 8
def Ge:List (Nat->Int)->(Nat->Int)->Int
 | [],d=>DD d 0 8
 | r::R,d=>if EW r d<0 then -1 else if 0<EW r d then 1 else Ge R d
theorem Hz(a b:Nat->Int):∀(n k:Nat),EB a b k n=DD (Ih a b) k n
 | 0,_=>rfl
 | n+1,k=>by
  rw [EB,DD,Hz a b n (k+1)]
  have e:Ih a b k=a k-b k:=rfl
  generalize Ih a b k=d at *
  by_cases h:a k=b k
  .rw [if_pos h,if_pos (by omega)]
  .by_cases h1:a k<b k
   .simp only [if_neg h,if_pos h1];rw [if_neg (by omega),if_pos (by omega)]
   .simp only [if_neg h,if_neg h1];rw [if_neg (by omega),if_neg (by omega)]
theorem El(a b:Nat->Int):∀R:List (Nat->Int),FA R a b=Ge R (Ih a b)
 | []=>by rw [FA,Fo,if_pos rfl];exact Hz a b 8 0
 | r::R=>by
  have ih:=El a b R
  unfold FA at ih ⊢
  rw [Fo,Ge,<-ih]
  show (if (if Kp r a b 8<0 then _ else _)=0 then _ else _)=if Kp r a b 8<0 then _ else if 0<Kp r a b 8 then _ else _
  by_cases h1:Kp r a b 8<0
  .simp only [if_pos h1];rw [if_neg (by omega)]
  .simp only [if_neg h1]
   by_cases h2:0<Kp r a b 8
   .simp only [if_pos h2];rw [if_neg (by omega)]
   .simp only [if_neg h2]
theorem Nc(a b:Nat->Int):∀k,CZ (λi=>a i+b i) k=CZ a k+CZ b k
 | 0=>rfl
 | k+1=>by simp only [CZ,Nc a b k];omega
theorem Nb(a:Nat->Int):∀k,CZ (λi=>-(a i)) k = -(CZ a k)
 | 0=>rfl
 | k+1=>by simp only [CZ,Nb a k];omega
theorem FN{a b:Nat->Int}:∀{k:Nat},(∀i,i<k->a i=b i)->CZ a k=CZ b k
 | 0,_=>rfl
 | k+1,h=>by rw [CZ,CZ,FN λi hi=>h i (by omega),h k (by omega)]
theorem WV(r d e:Nat->Int):EW r (Pp d e)=EW r d+EW r e:=by
 unfold EW
 rw [<-Nc]
 exact FN λi _=>by simp only [Pp,Int.mul_add]
theorem WU(r d:Nat->Int):EW r (λi=>-(d i)) = -(EW r d):=by
 unfold EW
 rw [<-Nb]
 exact FN λi _=>by rw [Int.mul_neg]
theorem Rc{r d e:Nat->Int}(h:∀i,i<8->d i=e i):EW r d=EW r e:=FN λi hi=>by rw [h i hi]
theorem Kg{d e:Nat->Int}:∀(n k:Nat),(∀i,k<=i->i<k+n->d i=e i)->DD d k n=DD e k n
 | 0,_,_=>rfl
 | n+1,k,h=>by rw [DD,DD,h k (by omega) (by omega),Kg n (k+1) λi h1 h2=>h i (by omega) (by omega)]
theorem Gu{d e:Nat->Int}(h:∀i,i<8->d i=e i):∀R:List (Nat->Int),Ge R d=Ge R e
 | []=>Kg 8 0 λi _ hi=>h i (by omega)
 | r::R=>by rw [Ge,Ge,Rc h,Gu h R]
theorem Ni(d:Nat->Int):∀(n k:Nat),DD (λi=>-(d i)) k n = -(DD d k n)
 | 0,_=>rfl
 | n+1,k=>by
  simp only [DD]
  rw [Ni d n (k+1)]
  by_cases h:d k=0
  .rw [if_pos h,if_pos (by omega)]
  .rw [if_neg h, if_neg (by omega)]
   by_cases h1:d k<0
   .rw [if_pos h1,if_neg (by omega)];rfl
   .rw [if_neg h1,if_pos (by omega)]
theorem Qm(d:Nat->Int):∀R:List (Nat->Int),Ge R (λi=>-(d i)) = -(Ge R d)
 | []=>Ni d 8 0
 | r::R=>by
  simp only [Ge]
  rw [WU,Qm d R]
  by_cases h:EW r d<0
  .rw [if_pos h,if_neg (by omega),if_pos (by omega)];rfl
  .rw [if_neg h]
   by_cases h1:0<EW r d
   .rw [if_pos h1,if_pos (by omega)]
   .rw [if_neg h1,if_neg (by omega),if_neg (by omega)]
theorem Ls{d:Nat->Int}:∀(n k:Nat),DD d k n=0->∀i,k<=i->i<k+n->d i=0
 | 0,_,_,i,h1,h2=>by omega
 | n+1,k,h,i,h1,h2=>by
  rw [DD] at h
  split at h
  .rename_i h0
   by_cases e:i=k
   .rw [e];exact h0
   .exact Ls n (k+1) h i (by omega) (by omega)
  .split at h<;>omega
theorem Ns{d:Nat->Int}:∀{R:List (Nat->Int)},Ge R d=0->∀i,i<8->d i=0
 | [],h,i,hi=>Ls 8 0 h i (by omega) (by omega)
 | r::R,h,i,hi=>by
  rw [Ge] at h
  split at h
  .omega
  .split at h
   .omega
   .exact Ns h i hi
theorem Nj{d e:Nat->Int}:∀(n k:Nat),0<=DD d k n->0<=DD e k n->(0<=DD (Pp d e) k n/\(0<DD d k n\/0<DD e k n->0<DD (Pp d e) k n))
 | 0,_,_,_=>⟨by simp [DD],by simp [DD]⟩
 | n+1,k,h1,h2=>by
  rw [DD] at h1 h2
  simp only [DD]
  have ha:Pp d e k=d k+e k:=rfl
  by_cases hd:d k=0
  .rw [if_pos hd] at h1 ⊢
   by_cases he:e k=0
   .rw [if_pos he] at h2 ⊢
    rw [if_pos (by omega)]
    exact Nj n (k+1) h1 h2
   .rw [if_neg he] at h2 ⊢
    by_cases he':e k<0
    .rw [if_pos he'] at h2;omega
    .rw [if_neg he',if_neg (by omega),if_neg (by omega)];exact ⟨by omega,λ_=>by omega⟩
  .rw [if_neg hd] at h1 ⊢
   by_cases hd':d k<0
   .rw [if_pos hd'] at h1;omega
   .by_cases he:e k=0
    .rw [if_pos he,if_neg hd',if_neg (by omega),if_neg (by omega)];exact ⟨by omega,λ_=>by omega⟩
    .rw [if_neg he] at h2 ⊢
     by_cases he':e k<0
     .rw [if_pos he'] at h2;omega
     .rw [if_neg hd',if_neg he',if_neg (by omega),if_neg (by omega)];exact ⟨by omega,λ_=>by omega⟩
theorem Qn{d e:Nat->Int}:∀{R:List (Nat->Int)},0<=Ge R d->0<=Ge R e->(0<=Ge R (Pp d e)/\(0<Ge R d\/0<Ge R e->0<Ge R (Pp d e)))
 | [],h1,h2=>Nj 8 0 h1 h2
 | r::R,h1,h2=>by
  rw [Ge] at h1 h2
  simp only [Ge]
  rw [WV]
  by_cases a1:EW r d<0
  .rw [if_pos a1] at h1;omega
  .by_cases b1:EW r e<0
   .rw [if_pos b1] at h2;omega
   .rw [if_neg a1] at h1 ⊢
    rw [if_neg b1] at h2 ⊢
    rw [if_neg (by omega)]
    by_cases a2:0<EW r d
    .rw [if_pos a2,if_pos (by omega)];exact ⟨by omega,λ_=>by omega⟩
    .rw [if_neg a2] at h1 ⊢
     by_cases b2:0<EW r e
     .rw [if_pos b2,if_pos (by omega)];exact ⟨by omega,λ_=>by omega⟩
     .rw [if_neg b2] at h2 ⊢
      rw [if_neg (by omega)]
      exact Qn h1 h2
theorem Zd(R:List (Nat->Int))(a b:Nat->Int):FA R b a = -(FA R a b):=by
 rw [El,El,<-Qm]
 exact Gu (λi _=>by simp only [Ih];omega) R
theorem Ww{R:List (Nat->Int)}{a b:Nat->Int}:FA R a b=0↔∀i,i<8->a i=b i:=by
 constructor
 .intro h i hi
  rw [El] at h
  have:=Ns h i hi
  simp only [Ih] at this
  omega
 .intro h;exact A1p h R
theorem Io{R:List (Nat->Int)}{a b c:Nat->Int}(h1:0<=FA R a b)(h2:0<=FA R b c):0<=FA R a c/\(0<FA R a b\/0<FA R b c->0<FA R a c):=by
 rw [El] at h1 h2
 rw [El a c R,El a b R,El b c R]
 rw [Gu (d:=Ih a c) (e:=Pp (Ih a b) (Ih b c)) (λi _=>by simp only [Ih,Pp];omega) R]
 exact Qn h1 h2
theorem SP{R:List (Nat->Int)}{a b a' b':Nat->Int}(h1:∀i,i<8->a i=a' i)(h2:∀i,i<8->b i=b' i):FA R a b=FA R a' b':=by
 rw [El,El]
 exact Gu (λi hi=>by simp only [Ih,h1 i hi,h2 i hi]) R
def Eqv(a b:Nat->Int):Prop:=∀i,i<8->a i=b i
theorem Eqv.refl(a:Nat->Int):Eqv a a:=λ_ _=>rfl
theorem Eqv.symm{a b:Nat->Int}(h:Eqv a b):Eqv b a:=λi hi=>(h i hi).symm
theorem Eqv.trans{a b c:Nat->Int}(h:Eqv a b)(k:Eqv b c):Eqv a c:=λi hi=>(h i hi).trans (k i hi)
structure Tm where
 c:Rat
 m:Nat->Int
instance:Inhabited Tm:=⟨⟨0,λ_=>0⟩⟩
def lx(a b:Nat->Int):Int:=FA [] a b
theorem DR(a b:Nat->Int):lx b a = -(lx a b):=Zd _ _ _
theorem EO{a b:Nat->Int}:lx a b=0↔Eqv a b:=Ww
theorem Gf{a b a' b':Nat->Int}(h1:Eqv a a')(h2:Eqv b b'):lx a b=lx a' b':=SP h1 h2
theorem LJ{a b c:Nat->Int}(h1:0<lx a b)(h2:0<lx b c):0<lx a c:=(Io (Int.le_of_lt h1) (Int.le_of_lt h2)).2 (.inl h1)
theorem OU(a:Nat->Int):lx a a=0:=EO.2 (Eqv.refl a)
def dot(f:(Nat->Int)->Rat):List Tm->Rat
 | []=>0
 | t::P=>t.c*f t.m+dot f P
def A56(f:(Nat->Int)->Rat):Prop:=∀a b,Eqv a b->f a=f b
def Sim(P Q:List Tm):Prop:=∀f,A56 f->dot f P=dot f Q
theorem Sim.refl(P:List Tm):Sim P P:=λ_ _=>rfl
theorem Sim.trans{P Q R:List Tm}(h:Sim P Q)(k:Sim Q R):Sim P R:=λf hf=>(h f hf).trans (k f hf)
def SameL:List Tm->List Tm->Prop
 | [],[]=>True
 | s::P,t::Q=>s.c=t.c/\Eqv s.m t.m/\SameL P Q
 | _,_=>False
theorem SameL.refl:∀P:List Tm,SameL P P
 | []=>trivial
 | t::P=>⟨rfl,Eqv.refl _,SameL.refl P⟩
theorem SameL.length:∀{P Q:List Tm},SameL P Q->P.length=Q.length
 | [],[],_=>rfl
 | _::_,_::_,h=>by simp [SameL.length h.2.2]
 | [],_::_,h=>h.elim
 | _::_,[],h=>h.elim
def Ba:Nat->(Nat->Int)->Int
 | 0,_=>0
 | n+1,f=>Ba n f+f n
theorem Cb{f g:Nat->Int}:∀{n:Nat},(∀k,k<n->f k=g k)->Ba n f=Ba n g
 | 0,_=>rfl
 | n+1,h=>by rw [Ba,Ba,Cb λk hk=>h k (by omega),h n (by omega)]
theorem Ll(f g:Nat->Int):∀n,Ba n (λk=>f k-g k)=Ba n f-Ba n g
 | 0=>rfl
 | n+1=>by rw [Ba,Ba,Ba,Ll f g n];omega
theorem CF{f:Nat->Int}:∀{n:Nat},(∀k,k<n->f k=0)->Ba n f=0
 | 0,_=>rfl
 | n+1,h=>by rw [Ba,CF λk hk=>h k (by omega),h n (by omega)];rfl
theorem DM(f:Nat->Int)(a:Nat):∀n,Ba (a+n) f=Ba a f+Ba n λk=>f (a+k)
 | 0=>(Int.add_zero _).symm
 | n+1=>by rw [<-Nat.add_assoc,Ba,Ba,DM f a n];omega
theorem JJ(f:Nat->Int):∀n,Ba (n+1) f=f 0+Ba n λk=>f (k+1)
 | 0=>by simp [Ba]
 | n+1=>by rw [Ba,JJ f n,Ba];omega
theorem IQ(f:Nat->Int):∀n,Ba (n+1) (λe=>f (n-e))=Ba (n+1) f
 | 0=>rfl
 | n+1=>by
  rw [JJ]
  have h:Ba (n+1) (λk=>f (n+1-(k+1)))=Ba (n+1) λe=>f (n-e):=Cb λk _=>by congr 1;omega
  rw [h,IQ f n,Nat.sub_zero]
  show _=Ba (n+1) f+f (n+1)
  omega
def sM:Nat->Nat->Nat->((Nat->Int)->Int)->Int
 | 0,_,d,f=>if d=0 then f (λ_=>0) else 0
 | k+1,i,d,f=>Ba (d+1) λe=>sM k (i+1) (d-e) λm=>f (λj=>if j=i then (e:Int) else m j)
def InV(k i:Nat)(m:Nat->Int):Prop:=(∀j,0<=m j)/\∀j,(j<i\/i+k<=j)->m j=0
theorem ES:∀{k i d:Nat} {f g:(Nat->Int)->Int},(∀m,InV k i m->f m=g m)->sM k i d f=sM k i d g
 | 0,i,d,f,g,h=>by
  unfold sM
  rw [h _ ⟨λ_=>Int.le_refl 0,λ_ _=>rfl⟩]
 | k+1,i,d,f,g,h=>Cb λe _=>ES λm hm=>h _ ⟨λj=>by
   show 0<=if j=i then (e:Int) else m j
   split
   .omega
   .exact hm.1 j,λj hj=>by
   show (if j=i then (e:Int) else m j)=0
   rw [if_neg (by omega)]
   exact hm.2 j (by omega)⟩
theorem YG:∀(k i d:Nat) (f g:(Nat->Int)->Int),sM k i d (λm=>f m-g m)=sM k i d f-sM k i d g
 | 0,i,d,f,g=>by
  simp only [sM]
  split<;>omega
 | k+1,i,d,f,g=>by
  unfold sM
  rw [<-Ll]
  exact Cb λe _=>YG k (i+1) (d-e) _ _
theorem OE:∀{k i d:Nat} {f:(Nat->Int)->Int},(∀m,InV k i m->f m=0)->sM k i d f=0
 | 0,i,d,f,h=>by
  unfold sM
  rw [h _ ⟨λ_=>Int.le_refl 0,λ_ _=>rfl⟩,ite_self]
 | k+1,i,d,f,h=>CF λe _=>OE λm hm=>h _ ⟨λj=>by
   show 0<=if j=i then (e:Int) else m j
   split
   .omega
   .exact hm.1 j,λj hj=>by
   show (if j=i then (e:Int) else m j)=0
   rw [if_neg (by omega)]
   exact hm.2 j (by omega)⟩
def BQ:Nat->Nat->(Nat->Int)->Nat
 | 0,_,_=>0
 | k+1,i,m=>(m i).toNat+BQ k (i+1) m
def GH:Nat->Nat->(Nat->Int)->(Nat->Int)->Bool
 | 0,_,_,_=>true
 | k+1,i,a,x=>decide (a i<=x i)&&GH k (i+1) a x
theorem JV:∀{k i:Nat} {a x y:Nat->Int},(∀j,i<=j->x j=y j)->GH k i a x=GH k i a y
 | 0,_,_,_,_,_=>rfl
 | k+1,i,a,x,y,h=>by rw [GH,GH,h i (Nat.le_refl i),JV λj hj=>h j (by omega)]
theorem YI:∀(k i d:Nat) (a:Nat->Int) (f:(Nat->Int)->Int),(∀j,0<=a j) ->
  sM k i d (λx=>bif GH k i a x then f x else 0)=if BQ k i a<=d then sM k i (d-BQ k i a) (λu=>f λj=>if i<=j/\j<i+k then u j+a j else u j) else 0
 | 0,i,d,a,f,_=>by
  have he:(λj=>if i<=j/\j<i+0 then (0:Int)+a j else 0)=λ_=>0:=by
   funext j
   rw [if_neg (by omega)]
  show (if d=0 then f (λ_=>0) else 0)=if 0<=d then (if d=0 then f (λj=>if i<=j/\j<i+0 then (0:Int)+a j else 0) else 0) else 0
  rw [he,if_pos (Nat.zero_le d)]
 | k+1,i,d,a,f,ha=>by
  have hai:=ha i
  obtain ⟨n,hn⟩:∃n:Nat,a i=n:=⟨(a i).toNat,by omega⟩
  have hstep:∀e:Nat,sM k (i+1) (d-e) (λm=>bif GH (k+1) i a (λj=>if j=i then (e:Int) else m j) then f (λj=>if j=i then (e:Int) else m j) else 0)=if n<=e then (if BQ k (i+1) a<=d-e then sM k (i+1) (d-e-BQ k (i+1) a) (λu=>f λj=>if j=i then (e:Int) else if i+1<=j/\j<i+1+k then u j+a j else u j) else 0) else 0:=λe=>by
   have hdv:∀m:Nat->Int,GH (k+1) i a (λj=>if j=i then (e:Int) else m j)=(decide (n<=e)&&GH k (i+1) a m):=λm=>by
    rw [GH,if_pos rfl,hn,JV (y:=m) λj hj=>if_neg (by omega)]
    congr 1
    exact decide_eq_decide.2 (by omega)
   simp only [hdv]
   by_cases he:n<=e
   .rw [if_pos he,decide_eq_true he,<-YI k (i+1) (d-e) a (λx=>f λj=>if j=i then (e:Int) else x j) ha]
    rfl
   .rw [if_neg he,decide_eq_false he]
    exact OE λm _=>rfl
  show Ba (d+1) (λe=>sM k (i+1) (d-e) λm=>bif GH (k+1) i a (λj=>if j=i then (e:Int) else m j) then f (λj=>if j=i then (e:Int) else m j) else 0)=_
  rw [Cb λe _=>hstep e]
  have hdg:BQ (k+1) i a=n+BQ k (i+1) a:=by rw [BQ,hn];rfl
  rw [hdg]
  by_cases hle:n+BQ k (i+1) a<=d
  .rw [if_pos hle]
   obtain ⟨r,rfl⟩:∃r,d=n+BQ k (i+1) a+r:=⟨d-(n+BQ k (i+1) a),by omega⟩
   rw [show n+BQ k (i+1) a+r+1=n+(r+1+BQ k (i+1) a) by omega,DM,CF λe he=>if_neg (by omega),Int.zero_add,DM]
   rw [CF (n:=BQ k (i+1) a) λe he=>by rw [if_pos (by omega),if_neg (by omega)],Int.add_zero]
   rw [show n+BQ k (i+1) a+r-(n+BQ k (i+1) a)=r by omega]
   show _=Ba (r+1) _
   refine Cb λe he=>?_
   rw [if_pos (by omega),if_pos (by omega),show n+BQ k (i+1) a+r-(n+e)-BQ k (i+1) a=r-e by omega]
   refine ES λu _=>?_
   congr 1
   funext j
   by_cases hj:j=i
   .subst hj
    rw [if_pos rfl,if_pos (by omega)]
    show ((n+e:Nat):Int)=(if j=j then (e:Int) else u j)+a j
    rw [if_pos rfl]
    omega
   .rw [if_neg hj]
    by_cases hj2:i+1<=j/\j<i+1+k
    .rw [if_pos hj2, if_pos (by omega)]
     show _=(if j=i then (e:Int) else u j)+a j
     rw [if_neg hj]
    .rw [if_neg hj2, if_neg (by omega)]
     show _=(if j=i then (e:Int) else u j)
     rw [if_neg hj]
  .rw [if_neg hle]
   refine CF λe he=>?_
   by_cases h1:n<=e
   .rw [if_pos h1,if_neg (by omega)]
   .rw [if_neg h1]
def pS(f:Nat->Int)(d:Nat):Int:=Ba (d+1) f
def BU:Nat->(Nat->Int)->Nat->Int
 | 0,f=>f
 | n+1,f=>pS (BU n f)
def Fg(e:Nat)(f:Nat->Int)(d:Nat):Int:=if e<=d then f (d-e) else 0
theorem A33(f g:Nat->Int):pS (λd=>f d-g d)=λd=>pS f d-pS g d:=by
 funext d
 exact Ll f g (d+1)
theorem A4g(e:Nat)(f:Nat->Int):pS (Fg e f)=Fg e (pS f):=by
 funext d
 unfold pS Fg
 split
 .rename_i h
  obtain ⟨r,rfl⟩:∃r,d=e+r:=⟨d-e,by omega⟩
  rw [show e+r+1=e+(r+1) by omega,DM,CF λk hk=>if_neg (by omega),Int.zero_add,show e+r-e=r by omega]
  exact Cb λk _=>by rw [if_pos (by omega),show e+k-e=k by omega]
 .exact CF λk hk=>if_neg (by omega)
theorem US(f g:Nat->Int):∀n,BU n (λd=>f d-g d)=λd=>BU n f d-BU n g d
 | 0=>rfl
 | n+1=>by
  show pS (BU n _)=_
  rw [US f g n,A33]
  rfl
theorem SJ(e:Nat)(f:Nat->Int):∀n,BU n (Fg e f)=Fg e (BU n f)
 | 0=>rfl
 | n+1=>by
  show pS (BU n _)=_
  rw [SJ e f n,A4g]
  rfl
theorem A34{f g:Nat->Int}(h:pS f=pS g):f=g:=by
 funext d
 cases d with
 | zero=>
  have:=congrFun h 0
  simpa [pS,Ba] using this
 | succ d=>
  have h1:=congrFun h d
  have h2:=congrFun h (d+1)
  unfold pS at h1 h2
  rw [Ba,h1,Ba] at h2
  have h3:Ba (d+1) g+f (d+1)=Ba (d+1) g+g (d+1):=h2
  omega
theorem KI{f g:Nat->Int}:∀{n:Nat},BU n f=BU n g->f=g
 | 0,h=>h
 | n+1,h=>KI (A34 h)
theorem YH:∀(k i d:Nat),sM k i d (λ_=>1)=BU k (λd=>if d=0 then 1 else 0) d
 | 0,i,d=>rfl
 | k+1,i,d=>by
  show Ba (d+1) (λe=>sM k (i+1) (d-e) λ_=>1)=Ba (d+1) (BU k _)
  rw [<-IQ (BU k λd=>if d=0 then 1 else 0) d]
  exact Cb λe _=>YH k (i+1) (d-e)
abbrev Ai:=List (Nat->Int)
def inB(l:Ai)(x:Nat->Int):Bool:=l.any λa=>GH 8 0 a x
def GI(l:Ai)(x:Nat->Int):Int:=bif inB l x then 0 else 1
def hN(n d:Nat)(l:Ai):Int:=sM n 0 d (GI l)
def SupN(n:Nat)(a:Nat->Int):Prop:=∀j,j<8->0<=a j/\(n<=j->a j=0)
def qM(y m:Nat->Int):Nat->Int:=λj=>y j-min (y j) (m j)
def Num(l:Ai)(K:Nat->Int):Prop:=∀n,n<=8->(∀a∈l,SupN n a)->∀d,BU n K d=hN n d l
theorem FT:∀{k i:Nat} {a x:Nat->Int},GH k i a x=true↔∀j,i<=j->j<i+k->a j<=x j
 | 0,i,a,x=>⟨λ_ j h1 h2=>by omega,λ_=>rfl⟩
 | k+1,i,a,x=>by
  rw [GH,Bool.and_eq_true,decide_eq_true_iff,FT]
  constructor
  .intro ⟨h1,h2⟩ j h3 h4
   by_cases e:j=i
   .subst e;exact h1
   .exact h2 j (by omega) (by omega)
  .intro h
   exact ⟨h i (Nat.le_refl i) (by omega),λj h1 h2=>h j (by omega) (by omega)⟩
theorem MP{a x:Nat->Int}:GH 8 0 a x=true↔∀j,j<8->a j<=x j:=FT.trans ⟨λh j hj=>h j (Nat.zero_le j) (by omega),λh j _ hj=>h j (by omega)⟩
theorem bool_eq{p q:Bool}(h:p=true↔q=true):p=q:=by
 cases p<;>cases q<;>simp_all
theorem Dp{l:Ai}{x:Nat->Int}:inB l x=true↔∃a∈l,∀j,j<8->a j<=x j:=by
 unfold inB
 rw [List.any_eq_true]
 exact ⟨λ⟨a,h1,h2⟩=>⟨a,h1,MP.1 h2⟩,λ⟨a,h1,h2⟩=>⟨a,h1,MP.2 h2⟩⟩
theorem Num.ideal{l l':Ai}{K:Nat->Int}(h:Num l K)(hi:∀x,(∀j,0<=x j)->inB l' x=inB l x)(hs:∀n,(∀a∈l',SupN n a)->∀a∈l,SupN n a):Num l' K:=λn hn hl d=>by
 rw [h n hn (hs n hl) d]
 exact ES λm hm=>by rw [GI,GI,hi m hm.1]
theorem Num.nil:Num [] λd=>if d=0 then 1 else 0:=λn _ _ d=>(YH n 0 d).symm.trans (ES λ_ _=>rfl)
theorem UU:pS (λ_=>0)=λ_=>0:=by
 funext d
 exact CF λ_ _=>rfl
theorem LB:∀n,BU n (λ_=>0)=λ_=>0
 | 0=>rfl
 | n+1=>by
  show pS (BU n _)=_
  rw [LB n,UU]
theorem Num.one{l:Ai}{a:Nat->Int}(ha:a∈l)(h0:∀j,j<8->a j=0):Num l λ_=>0:=λn _ _ d=>by
 rw [LB]
 refine (OE λm hm=>?_).symm
 rw [GI,Dp.2 ⟨a,ha,λj hj=>by rw [h0 j hj];exact hm.1 j⟩]
 rfl
theorem Num.cons{rest:Ai}{a:Nat->Int}{K1 K2:Nat->Int}(h1:Num rest K1)(h2:Num (rest.map λy=>qM y a) K2):Num (a::rest) λd=>K1 d-Fg (BQ 8 0 a) K2 d:=λn hn hl d=>by
 have ha:=hl a List.mem_cons_self
 have hr:∀y∈rest,SupN n y:=λy hy=>hl y (List.mem_cons_of_mem _ hy)
 have hq:∀y∈rest.map (λy=>qM y a),SupN n y:=λy hy=>by
  obtain ⟨z,hz,rfl⟩:=List.mem_map.1 hy
  intro j hj
  have:=hr z hz j hj
  have:=ha j hj
  refine ⟨?_,λhnj=>?_⟩
  .show 0<=z j-min (z j) (a j)
   omega
  .show z j-min (z j) (a j)=0
   have:=(hr z hz j hj).2 hnj
   have:=(ha j hj).2 hnj
   omega
 have hdg:∀(k i:Nat),i+k=8->∀m,i+m=n\/(n<=i/\m=0)->BQ k i a=BQ m i a:=by
  intro k
  induction k with
  | zero=>
   intro i hi m hm
   obtain rfl:m=0:=by omega
   rfl
  | succ k ih=>
   intro i hi m hm
   cases m with
   | zero=>
    have h0:=(ha i (by omega)).2 (by omega)
    show (a i).toNat+BQ k (i+1) a=0
    rw [h0,ih (i+1) (by omega) 0 (.inr ⟨by omega,rfl⟩)]
    rfl
   | succ m=>rw [BQ,BQ,ih (i+1) (by omega) m (by omega)]
 have hd:BQ 8 0 a=BQ n 0 a:=hdg 8 0 rfl n (.inl (by omega))
 have hdv : ∀ x, InV n 0 x → GH 8 0 a x = GH n 0 a x := fun x hx => bool_eq (MP.trans (Iff.trans ⟨fun h j _ hj => h j (by omega), fun h j hj => by
  by_cases hjn:j<n
  .exact h j (Nat.zero_le j) (by omega)
  .rw [(ha j hj).2 (by omega)]
   exact hx.1 j⟩ FT.symm))
 let a':Nat->Int:=λj=>if j<8 then a j else 0
 have ha':∀j,0<=a' j:=λj=>by
  show 0<=if j<8 then a j else 0
  split
  .rename_i h;exact (ha j h).1
  .omega
 have hdv':∀x,GH n 0 a x=GH n 0 a' x:=λx=>bool_eq (FT.trans (Iff.trans ⟨λh j h1 h2=>by show (if j<8 then a j else 0)<=x j;rw [if_pos (by omega)];exact h j h1 h2,λh j h1 h2=>by have:(if j<8 then a j else 0)<=x j:=h j h1 h2;rwa [if_pos (by omega)] at this⟩ FT.symm))
 have hdg':∀(m i:Nat),i+m<=8->BQ m i a=BQ m i a':=by
  intro m
  induction m with
  | zero=>intro i _;rfl
  | succ m ih=>
   intro i hi
   rw [BQ,BQ,ih (i+1) (by omega)]
   congr 1
   show (a i).toNat=(if i<8 then a i else 0).toNat
   rw [if_pos (by omega)]
 rw [US,SJ]
 show BU n K1 d-Fg (BQ 8 0 a) (BU n K2) d=sM n 0 d (GI (a::rest))
 have hstd:sM n 0 d (GI (a::rest))=sM n 0 d (λx=>GI rest x-bif GH n 0 a' x then GI rest x else 0):=ES λx hx=>by
  rw [<-hdv',<-hdv x hx]
  unfold GI inB
  rw [List.any_cons]
  cases GH 8 0 a x<;>simp
 rw [hstd,YG,h1 n hn hr d,YI n 0 d a' (GI rest) ha',hd,hdg' n 0 (by omega)]
 congr 1
 unfold Fg
 split
 .rw [h2 n hn hq]
  refine ES λu hu=>?_
  unfold GI
  congr 1
  refine bool_eq (Dp.trans (Iff.trans ?_ Dp.symm))
  constructor
  .intro ⟨b,hb,h⟩
   obtain ⟨z,hz,rfl⟩:=List.mem_map.1 hb
   refine ⟨z,hz,λj hj=>?_⟩
   have h3:z j-min (z j) (a j)<=u j:=h j hj
   have h4:=ha j hj
   show z j<=if 0<=j/\j<0+n then u j+(if j<8 then a j else 0) else u j
   rw [if_pos hj]
   split
   .omega
   .have:=(hr z hz j hj).2 (by omega)
    have:=hu.1 j
    omega
  .intro ⟨z,hz,h⟩
   refine ⟨_,List.mem_map_of_mem hz,λj hj=>?_⟩
   have h3:z j<=if 0<=j/\j<0+n then u j+(if j<8 then a j else 0) else u j:=h j hj
   have h4:=ha j hj
   have h5:=hu.1 j
   show z j-min (z j) (a j)<=u j
   rw [if_pos hj] at h3
   split at h3<;>omega
 .rfl
theorem Num.inj{l:Ai}{K K':Nat->Int}(h:Num l K)(h':Num l K')(hl:∀a∈l,SupN 8 a):K=K':=KI (n:=8) (by
 funext d
 rw [h 8 (Nat.le_refl 8) hl d,h' 8 (Nat.le_refl 8) hl d])
def SameM:Ai->Ai->Prop
 | [],[]=>True
 | a::l,b::l'=>Eqv a b/\SameM l l'
 | _,_=>False
theorem SameM.refl:∀l:Ai,SameM l l
 | []=>trivial
 | a::l=>⟨Eqv.refl a,SameM.refl l⟩
theorem SameM.length:∀{l l':Ai},SameM l l'->l.length=l'.length
 | [],[],_=>rfl
 | _::_,_::_,h=>congrArg Nat.succ (SameM.length h.2)
 | [],_::_,h=>h.elim
 | _::_,[],h=>h.elim
def Rv(l:Ai):Prop:=l.Pairwise λa b=>0<lx a b
def MemE(x:Nat->Int)(l:Ai):Prop:=∃a∈l,Eqv a x
theorem MemE.congr{x y:Nat->Int}{l:Ai}(h:MemE x l)(e:Eqv x y):MemE y l:=by
 obtain ⟨a,h1,h2⟩:=h
 exact ⟨a,h1,h2.trans e⟩
theorem JK:∀{l l':Ai},Rv l->Rv l'->(∀x,MemE x l↔MemE x l')->SameM l l'
 | [],[],_,_,_=>trivial
 | [],b::l',_,_,h=>by
  obtain ⟨a,ha,_⟩:=(h b).2 ⟨b,List.mem_cons_self,Eqv.refl b⟩
  cases ha
 | a::l,[],_,_,h=>by
  obtain ⟨b,hb,_⟩:=(h a).1 ⟨a,List.mem_cons_self,Eqv.refl a⟩
  cases hb
 | a::l,b::l',h1,h2,h=>by
  obtain ⟨p1,p2⟩:=List.pairwise_cons.1 h1
  obtain ⟨q1,q2⟩:=List.pairwise_cons.1 h2
  have hab:Eqv a b:=by
   obtain ⟨c,hc,ec⟩:=(h a).1 ⟨a,List.mem_cons_self,Eqv.refl a⟩
   obtain ⟨e,he,ee⟩:=(h b).2 ⟨b,List.mem_cons_self,Eqv.refl b⟩
   rcases List.mem_cons.1 hc with rfl | hc
   .exact ec.symm
   .rcases List.mem_cons.1 he with rfl | he
    .exact ee
    .have g1:=q1 c hc
     have g2:=p1 e he
     rw [Gf (Eqv.refl b) ec] at g1
     rw [Gf (Eqv.refl a) ee,DR] at g2
     omega
  refine ⟨hab,JK p2 q2 λx=>⟨λ⟨c,hc,ec⟩=>?_,λ⟨c,hc,ec⟩=>?_⟩⟩
  .obtain ⟨e,he,ee⟩:=(h x).1 ⟨c,List.mem_cons_of_mem _ hc,ec⟩
   rcases List.mem_cons.1 he with rfl | he
   .have:=p1 c hc
    rw [Gf hab (ec.trans ee.symm),OU] at this
    omega
   .exact ⟨e,he,ee⟩
  .obtain ⟨e,he,ee⟩:=(h x).2 ⟨c,List.mem_cons_of_mem _ hc,ec⟩
   rcases List.mem_cons.1 he with rfl | he
   .have:=q1 c hc
    rw [Gf hab.symm (ec.trans ee.symm),OU] at this
    omega
   .exact ⟨e,he,ee⟩
def Dv(a x:Nat->Int):Prop:=∀j,j<8->a j<=x j
theorem Dv.refl(a:Nat->Int):Dv a a:=λ_ _=>Int.le_refl _
theorem Dv.trans{a b c:Nat->Int}(h:Dv a b)(k:Dv b c):Dv a c:=λj hj=>Int.le_trans (h j hj) (k j hj)
theorem Eqv.dv{a b:Nat->Int}(h:Eqv a b):Dv a b:=λj hj=>Int.le_of_eq (h j hj)
def A3M(l:Ai)(x:Nat->Int):Prop:=MemE x l/\∀y∈l,Dv y x->Eqv y x
def IsMin(l R:Ai):Prop:=Rv R/\∀x,MemE x R↔A3M l x
theorem IsMin.same{l R R':Ai}(h:IsMin l R)(h':IsMin l R'):SameM R R':=JK h.1 h'.1 λx=>(h.2 x).trans (h'.2 x).symm
def szN(a:Nat->Int):Nat:=BQ 8 0 a
theorem JW:∀{k i:Nat} {a b:Nat->Int},(∀j,i<=j->j<i+k->a j<=b j)->BQ k i a<=BQ k i b
 | 0,_,_,_,_=>Nat.le_refl 0
 | k+1,i,a,b,h=>by
  have h1:=h i (Nat.le_refl i) (by omega)
  have h2:=JW (k:=k) (i:=i+1) (a:=a) (b:=b) λj h1 h2=>h j (by omega) (by omega)
  rw [BQ,BQ]
  omega
theorem ZW:∀{k i:Nat} {a b:Nat->Int},(∀j,i<=j->j<i+k->0<=a j/\a j<=b j)->BQ k i a=BQ k i b->∀j,i<=j->j<i+k->a j=b j
 | 0,i,_,_,_,_,j,h1,h2=>by omega
 | k+1,i,a,b,h,he,j,h1,h2=>by
  have g1:=h i (Nat.le_refl i) (by omega)
  have g2:=JW (k:=k) (i:=i+1) (a:=a) (b:=b) λj h1 h2=>(h j (by omega) (by omega)).2
  rw [BQ,BQ] at he
  by_cases e:j=i
  .subst e
   omega
  .exact ZW (k:=k) (i:=i+1) (λj h1 h2=>h j (by omega) (by omega)) (by omega) j (by omega) (by omega)
theorem Hx{l:Ai}(hl:∀a∈l,∀j,j<8->0<=a j):∀(n:Nat) (x:Nat->Int),x∈l->szN x<=n->∃y,A3M l y/\Dv y x
 | n,x,hx,hn=>by
  by_cases h:∀y∈l,Dv y x->Eqv y x
  .exact ⟨x,⟨⟨x,hx,Eqv.refl x⟩,h⟩,Dv.refl x⟩
  .obtain ⟨y,h⟩:=Classical.not_forall.1 h
   obtain ⟨hy,h⟩:=Classical.not_imp.1 h
   obtain ⟨hd,hne⟩:=Classical.not_imp.1 h
   have h1:szN y<=szN x:=JW λj _ h2=>hd j (by omega)
   have h2:szN y≠szN x:=λe=>hne λj hj=>ZW (k:=8) (i:=0) (λj _ h2=>⟨hl y hy j (by omega),hd j (by omega)⟩) e j (Nat.zero_le j) (by omega)
   cases n with
   | zero=>omega
   | succ n=>
    obtain ⟨z,h3,h4⟩:=Hx hl n y hy (by omega)
    exact ⟨z,h3,h4.trans hd⟩
theorem IsMin.inB{l R:Ai}(h:IsMin l R)(hl:∀a∈l,∀j,j<8->0<=a j)(x:Nat->Int):Go.Proofs.YtialdhnijjnpaaaGreat.inB R x=Go.Proofs.YtialdhnijjnpaaaGreat.inB l x:=bool_eq (Dp.trans (Iff.trans ⟨λ⟨a,ha,hd⟩=>by
  obtain ⟨⟨b,hb,e⟩,_⟩:=(h.2 a).1 ⟨a,ha,Eqv.refl a⟩
  exact ⟨b,hb,e.dv.trans hd⟩,λ⟨a,ha,hd⟩=>by
  obtain ⟨y,hy,hyd⟩:=Hx hl (szN a) a ha (Nat.le_refl _)
  obtain ⟨b,hb,e⟩:=(h.2 y).2 hy
  exact ⟨b,hb,e.dv.trans (hyd.trans hd)⟩⟩ Dp.symm))
theorem IsMin.sup{l R:Ai}(h:IsMin l R){n:Nat}(hl:∀a∈l,SupN n a):∀a∈R,SupN n a:=λa ha=>by
 obtain ⟨⟨b,hb,e⟩,_⟩:=(h.2 a).1 ⟨a,ha,Eqv.refl a⟩
 intro j hj
 rw [<-e j hj]
 exact hl b hb j hj
def A5b(l:Ai):Prop:=∀a∈l,∀b∈l,Dv a b->Eqv a b
theorem IsMin.anti{l R:Ai}(h:IsMin l R):A5b R:=λa ha b hb hd=>by
 obtain ⟨⟨a',ha',ea⟩,_⟩:=(h.2 a).1 ⟨a,ha,Eqv.refl a⟩
 have:=((h.2 b).1 ⟨b,hb,Eqv.refl b⟩).2 a' ha' (ea.dv.trans hd)
 exact ea.symm.trans this
def EH:Ai->Ai->Ai
 | R,[]=>R
 | R,m::l=>if inB R m=true then EH R l else EH (R++[m]) l
theorem QF{a b:Nat->Int}:∀(n i:Nat),(∀j,i<=j->j<i+n->a j<=b j)->EB a b i n<=0
 | 0,_,_=>Int.le_refl 0
 | n+1,i,h=>by
  have h1:=h i (Nat.le_refl i) (by omega)
  rw [EB]
  split
  .exact QF n (i+1) λj h1 h2=>h j (by omega) (by omega)
  .split<;>omega
theorem A4j{a b:Nat->Int}(h:Dv a b):lx a b<=0:=by
 show FA [] a b<=0
 simp only [FA,Fo,if_pos]
 exact QF 8 0 λj _ hj=>h j (by omega)
theorem FB{x:Nat->Int}{l l':Ai}:MemE x (l++l')↔MemE x l\/MemE x l':=⟨λ⟨a,ha,e⟩=>(List.mem_append.1 ha).imp (λh=>⟨a,h,e⟩) λh=>⟨a,h,e⟩,λh=>h.elim (λ⟨a,ha,e⟩=>⟨a,List.mem_append_left _ ha,e⟩) λ⟨a,ha,e⟩=>⟨a,List.mem_append_right _ ha,e⟩⟩
theorem Ji{x m:Nat->Int}:MemE x [m]↔Eqv m x:=⟨λ⟨a,ha,e⟩=>by rwa [List.mem_singleton.1 ha] at e,λe=>⟨m,List.mem_singleton.2 rfl,e⟩⟩
structure Kept(done R:Ai):Prop where
 asc:R.Pairwise λa b=>lx a b<0
 mem:∀x,MemE x R↔A3M done x
theorem Kept.step{done R:Ai}{m:Nat->Int}(h:Kept done R)(hn:∀a∈done,∀j,j<8->0<=a j)(hs:∀a∈done,lx a m<=0):Kept (done++[m]) (if inB R m=true then R else R++[m]):=by
 have back:∀x,MemE x done->Dv m x->Eqv m x:=λx ⟨a,ha,e⟩ hd=>by
  have h1:=hs a ha
  rw [Gf e (Eqv.refl m)] at h1
  have h2:=A4j hd
  rw [DR] at h2
  exact (EO.1 (by omega:lx x m=0)).symm
 split
 .rename_i hin
  obtain ⟨r,hr,hd⟩:=Dp.1 hin
  obtain ⟨⟨r',hr',er⟩,_⟩:=(h.mem r).1 ⟨r,hr,Eqv.refl r⟩
  have hd':Dv r' m:=er.dv.trans hd
  refine ⟨h.asc,λx=>(h.mem x).trans ⟨λ⟨h1,h2⟩=>⟨FB.2 (.inl h1),λy hy hyd=>?_⟩,λ⟨h1,h2⟩=>⟨?_,λy hy=>h2 y (List.mem_append_left _ hy)⟩⟩⟩
  .rcases List.mem_append.1 hy with hy | hy
   .exact h2 y hy hyd
   .rw [List.mem_singleton.1 hy] at hyd ⊢
    exact back x h1 hyd
  .rcases FB.1 h1 with h1 | h1
   .exact h1
   .have e:=Ji.1 h1
    exact ⟨r',hr',h2 r' (List.mem_append_left _ hr') (hd'.trans e.dv)⟩
 .rename_i hin
  have hno:∀y∈done,¬Dv y m:=λy hy hd=>hin (by
   obtain ⟨z,hz,hzd⟩:=Hx hn (szN y) y hy (Nat.le_refl _)
   obtain ⟨b,hb,e⟩:=(h.mem z).2 hz
   exact Dp.2 ⟨b,hb,e.dv.trans (hzd.trans hd)⟩)
  refine ⟨List.pairwise_append.2 ⟨h.asc,List.pairwise_singleton _ _,λa ha b hb=>?_⟩,λx=>?_⟩
  .rw [List.mem_singleton.1 hb]
   obtain ⟨⟨a',ha',ea⟩,_⟩:=(h.mem a).1 ⟨a,ha,Eqv.refl a⟩
   have h1:=hs a' ha'
   rw [Gf ea (Eqv.refl m)] at h1
   have h2:lx a m≠0:=λe=>hno a' ha' (ea.dv.trans (EO.1 e).dv)
   omega
  .rw [FB,h.mem x,Ji]
   refine ⟨λh1=>?_,λ⟨h1,h2⟩=>?_⟩
   .rcases h1 with ⟨h1,h2⟩ | e
    .refine ⟨FB.2 (.inl h1),λy hy hyd=>?_⟩
     rcases List.mem_append.1 hy with hy | hy
     .exact h2 y hy hyd
     .rw [List.mem_singleton.1 hy] at hyd ⊢
      exact back x h1 hyd
    .refine ⟨FB.2 (.inr (Ji.2 e)),λy hy hyd=>?_⟩
     rcases List.mem_append.1 hy with hy | hy
     .exact absurd (hyd.trans e.symm.dv) (hno y hy)
     .rw [List.mem_singleton.1 hy]
      exact e
   .rcases FB.1 h1 with h1 | h1
    .exact .inl ⟨h1,λy hy=>h2 y (List.mem_append_left _ hy)⟩
    .exact .inr (Ji.1 h1)
theorem QK:∀{l done R:Ai},Kept done R->(∀a∈done++l,∀j,j<8->0<=a j)->(done++l).Pairwise (λa b=>lx a b<=0)->Kept (done++l) (EH R l)
 | [],done,R,h,_,_=>by rw [List.append_nil];exact h
 | m::l,done,R,h,hn,hs=>by
  have hst:=h.step (m:=m) (λa ha=>hn a (List.mem_append_left _ ha)) λa ha=>(List.pairwise_append.1 hs).2.2 a ha m List.mem_cons_self
  have e:done++m::l=(done++[m])++l:=by simp
  rw [e] at hn hs ⊢
  have:=QK (l:=l) hst hn hs
  rw [EH]
  split at this<;>split<;>first | exact this | (rename_i h1 h2;exact absurd h2 h1) | (rename_i h1 h2;exact absurd h1 h2)
theorem QJ{l s:Ai}(hp:∀x,x∈s↔x∈l)(hn:∀a∈l,∀j,j<8->0<=a j)(hs:s.Pairwise λa b=>lx a b<=0):IsMin l (EH [] s).reverse:=by
 have hk:=QK (l:=s) (done:=[]) (R:=[]) ⟨List.Pairwise.nil,λx=>⟨λ⟨a,ha,_⟩=>(by cases ha),λ⟨⟨a,ha,_⟩,_⟩=>(by cases ha)⟩⟩ (λa ha=>hn a ((hp a).1 ha)) hs
 refine ⟨List.pairwise_reverse.2 (hk.asc.imp λ{a b} h=>by rw [DR];omega),λx=>?_⟩
 have h1:MemE x (EH [] s).reverse↔MemE x (EH [] s):=⟨λ⟨a,ha,e⟩=>⟨a,List.mem_reverse.1 ha,e⟩,λ⟨a,ha,e⟩=>⟨a,List.mem_reverse.2 ha,e⟩⟩
 rw [h1,hk.mem x]
 exact ⟨λ⟨⟨a,ha,e⟩,h2⟩=>⟨⟨a,(hp a).1 ha,e⟩,λy hy=>h2 y ((hp y).2 hy)⟩,λ⟨⟨a,ha,e⟩,h2⟩=>⟨⟨a,(hp a).2 ha,e⟩,λy hy=>h2 y ((hp y).1 hy)⟩⟩
def FM(f:Nat->Int):Nat->Nat
 | 0=>0
 | n+1=>if f n=0 then FM f n else n+1
theorem Lj(f:Nat->Int):∀n,FM f n<=n
 | 0=>Nat.le_refl 0
 | n+1=>by
  rw [FM]
  split
  .exact Nat.le_succ_of_le (Lj f n)
  .exact Nat.le_refl _
theorem Ou(f:Nat->Int):∀n,FM f n=0\/f (FM f n-1)≠0
 | 0=>.inl rfl
 | n+1=>by
  rw [FM]
  split
  .exact Ou f n
  .rename_i h
   exact .inr h
theorem IM{f:Nat->Int}:∀{n:Nat},(∀i,n<=i->f i=0)->∀i,FM f n<=i->f i=0
 | 0,h,i,hi=>h i hi
 | n+1,h,i,hi=>by
  rw [FM] at hi
  split at hi
  .rename_i h0
   refine IM (n:=n) (λj hj=>?_) i hi
   by_cases e:j=n
   .subst e;exact h0
   .exact h j (by omega)
  .exact h i hi
structure NumL(l:Ai)(n:Nat)(f:Nat->Int):Prop where
 num:Num l f
 far:∀i,n<=i->f i=0
 last:n=0\/f (n-1)≠0
theorem NumL.inj{l:Ai}{n n':Nat}{f f':Nat->Int}(h:NumL l n f)(h':NumL l n' f')(hl:∀a∈l,SupN 8 a):n=n'/\f=f':=by
 have e:=h.num.inj h'.num hl
 subst e
 refine ⟨?_,rfl⟩
 rcases Nat.lt_trichotomy n n' with hlt | hlt | hlt
 .rcases h'.last with h0 | h0
  .omega
  .exact absurd (h.far (n'-1) (by omega)) h0
 .exact hlt
 .rcases h.last with h0 | h0
  .omega
  .exact absurd (h'.far (n-1) (by omega)) h0
theorem NumL.nil:NumL [] 1 λd=>if d=0 then 1 else 0:=⟨Num.nil,λi hi=>if_neg (by omega),.inr (by decide)⟩
theorem NumL.one{l:Ai}{a:Nat->Int}(ha:a∈l)(h0:∀j,j<8->a j=0):NumL l 0 λ_=>0:=⟨Num.one ha h0,λ_ _=>rfl,.inl rfl⟩
theorem NumL.whole{l:Ai}{f:Nat->Int}(h:NumL l 0 f)(hl:∀a∈l,SupN 8 a):∃a∈l,∀j,j<8->a j=0:=by
 have e:f=λ_=>0:=funext λi=>h.far i (Nat.zero_le i)
 have h1:=h.num 8 (Nat.le_refl 8) hl 0
 rw [e,LB] at h1
 have h2:hN 8 0 l=GI l λ_=>0:=by
  have hz:∀e:Nat->Nat->Int,(λj=>if j=0 then ((0:Nat):Int) else if j=1 then ((0:Nat):Int) else if j=2 then ((0:Nat):Int) else if j=3 then ((0:Nat):Int) else if j=4 then ((0:Nat):Int) else if j=5 then ((0:Nat):Int) else if j=6 then ((0:Nat):Int) else if j=7 then ((0:Nat):Int) else 0)=λ_=>0:=λ_=>by
   funext j
   simp
  unfold hN
  simp only [sM,Ba,Nat.sub_zero,Int.zero_add,Nat.zero_sub,if_true]
  congr 1
  funext j
  simp
 rw [h2] at h1
 unfold GI at h1
 cases hb:inB l (λ_=>0) with
 | false=>
  rw [hb] at h1
  exact absurd h1 (by decide)
 | true=>
  obtain ⟨a,ha,hd⟩:=Dp.1 hb
  refine ⟨a,ha,λj hj=>?_⟩
  have g1:=hd j hj
  have g2:=(hl a ha j hj).1
  omega
theorem NumL.cons{rest R:Ai}{a:Nat->Int}{n1 n2:Nat}{f1 f2:Nat->Int}(h1:NumL rest n1 f1)(h2:NumL R n2 f2)(hR:IsMin (rest.map λy=>qM y a) R)(hl:∀y∈rest,SupN 8 y)(ha:SupN 8 a)(N:Nat)(hN:n1<=N)(hN2:BQ 8 0 a+n2<=N\/n2=0):NumL (a::rest) (FM (λd=>f1 d-Fg (BQ 8 0 a) f2 d) N) λd=>f1 d-Fg (BQ 8 0 a) f2 d:=by
 have hq:∀y∈rest.map (λy=>qM y a),∀j,j<8->0<=y j:=λy hy j hj=>by
  obtain ⟨z,hz,rfl⟩:=List.mem_map.1 hy
  have g1:=(hl z hz j hj).1
  have g2:=(ha j hj).1
  show 0<=z j-min (z j) (a j)
  omega
 have hfar:∀i,N<=i->f1 i-Fg (BQ 8 0 a) f2 i=0:=λi hi=>by
  rw [h1.far i (by omega)]
  unfold Fg
  split
  .rw [h2.far _ (by omega)];rfl
  .rfl
 refine ⟨h1.num.cons (h2.num.ideal (λx _=>(hR.inB hq x).symm) λn hs y hy=>hR.sup hs y hy),IM hfar,Ou _ _⟩
theorem Wx{f1 f2:Nat->Int}{B1 B2:Int}(h1:∀i,-B1<=f1 i/\f1 i<=B1)(h2:∀i,-B2<=f2 i/\f2 i<=B2)(hB:0<=B2)(e i:Nat):-(B1+B2)<=f1 i-Fg e f2 i/\f1 i-Fg e f2 i<=B1+B2:=by
 have g1:=h1 i
 unfold Fg
 split
 .have g2:=h2 (i-e)
  omega
 .omega
def rM:Nat->Nat->Nat->Ai
 | 0,_,d=>if d=0 then [λ_=>0] else []
 | k+1,i,d=>(List.range (d+1)).flatMap λe=>(rM k (i+1) e).map λm j=>if j=i then ((d-e:Nat):Int) else m j
def Sm(f:(Nat->Int)->Int):Ai->Int
 | []=>0
 | m::l=>f m+Sm f l
theorem Vh(f:(Nat->Int)->Int):∀l l':Ai,Sm f (l++l')=Sm f l+Sm f l'
 | [],l'=>(Int.zero_add _).symm
 | m::l,l'=>by rw [List.cons_append,Sm,Sm,Vh f l l'];omega
theorem Vg(f:(Nat->Int)->Int)(g:(Nat->Int)->Nat->Int):∀l:Ai,Sm f (l.map g)=Sm (λm=>f (g m)) l
 | []=>rfl
 | m::l=>by rw [List.map_cons,Sm,Sm,Vg f g l]
theorem QB(f:(Nat->Int)->Int)(g:Nat->Ai):∀n,Sm f ((List.range n).flatMap g)=Ba n λe=>Sm f (g e)
 | 0=>rfl
 | n+1=>by rw [List.range_succ,List.flatMap_append,Vh,QB f g n,Ba];simp
theorem Zz:∀(k i d:Nat) (f:(Nat->Int)->Int),Sm f (rM k i d)=sM k i d f
 | 0,i,d,f=>by
  unfold rM sM
  split
  .exact Int.add_zero _
  .rfl
 | k+1,i,d,f=>by
  rw [rM,QB]
  show _=Ba (d+1) λe=>sM k (i+1) (d-e) λm=>f λj=>if j=i then (e:Int) else m j
  rw [<-IQ]
  refine Cb λe he=>?_
  rw [Vg,Zz k (i+1) (d-e),show d-(d-e)=e by omega]
theorem QT(n d:Nat)(l:Ai):Sm (GI l) (rM n 0 d)=hN n d l:=Zz n 0 d (GI l)
theorem A1q{l R:Ai}{a:Nat->Int}{fa fb fc:Nat->Int}(ha:Num l fa)(hb:Num (l++[a]) fb)(hc:Num R fc)(hR:IsMin (l.map λy=>qM y a) R)(hl:∀y∈l,SupN 8 y)(h8:SupN 8 a):fb=λd=>fa d-Fg (BQ 8 0 a) fc d:=by
 have hq:∀y∈l.map (λy=>qM y a),∀j,j<8->0<=y j:=λy hy j hj=>by
  obtain ⟨z,hz,rfl⟩:=List.mem_map.1 hy
  have g1:=(hl z hz j hj).1
  have g2:=(h8 j hj).1
  show 0<=z j-min (z j) (a j)
  omega
 have h1:=ha.cons (hc.ideal (λx _=>(hR.inB hq x).symm) λn hs y hy=>hR.sup hs y hy)
 have h2:Num (l++[a]) λd=>fa d-Fg (BQ 8 0 a) fc d:=h1.ideal (λx _=>by
  unfold inB
  rw [List.any_append,List.any_cons,List.any_cons,List.any_nil,Bool.or_false,Bool.or_comm]) λn hs y hy=>by
  rcases List.mem_cons.1 hy with rfl | hy
  .exact hs _ (List.mem_append_right _ (List.mem_singleton.2 rfl))
  .exact hs y (List.mem_append_left _ hy)
 exact hb.inj h2 λy hy=>by
  rcases List.mem_append.1 hy with hy | hy
  .exact hl y hy
  .rw [List.mem_singleton.1 hy]
   exact h8
theorem SK(f:Nat->Int):pS f 0=f 0:=by
 show Ba 1 f=f 0
 rw [JJ]
 show f 0+0=f 0
 omega
theorem Fi(f:Nat->Int)(d:Nat):pS f (d+1)=pS f d+f (d+1):=rfl
def kS(f:Nat->Int)(i t:Nat):Int:=if t<=i then pS f t else f t
theorem Vo(f:Nat->Int):kS f 0=f:=by
 funext t
 unfold kS
 split
 .rename_i h
  obtain rfl:t=0:=by omega
  exact SK f
 .rfl
theorem Vq(f:Nat->Int)(i:Nat):kS f i i=pS f i:=if_pos (Nat.le_refl i)
theorem OY(f:Nat->Int)(i:Nat):kS f i (i+1)=f (i+1):=if_neg (by omega)
theorem Vp(f:Nat->Int)(i:Nat):(λj=>if j=i+1 then kS f i (i+1)+kS f i i else kS f i j)=kS f (i+1):=by
 funext t
 by_cases h:t=i+1
 .subst h
  rw [if_pos rfl,OY,Vq,Vq,Fi]
  omega
 .rw [if_neg h,kS,kS]
  by_cases h2:t<=i
  .rw [if_pos h2,if_pos (by omega)]
  .rw [if_neg h2,if_neg (by omega)]
def Bnd(f:Nat->Int)(Dg:Nat)(B:Int):Prop:=∀t,t<=Dg->-B<=f t/\f t<=B
theorem Bnd.pos{f:Nat->Int}{Dg:Nat}{B:Int}(h:Bnd f Dg B):0<=B:=by
 have:=h 0 (Nat.zero_le Dg)
 omega
theorem Bnd.pS{f:Nat->Int}{Dg:Nat}{B:Int}(h:Bnd f Dg B):∀t,t<=Dg->-(B*(t+1))<=pS f t/\pS f t<=B*(t+1)
 | 0,ht=>by
  rw [SK]
  have:=h 0 ht
  simp only [Int.natCast_zero,Int.zero_add,Int.mul_one]
  exact this
 | t+1,ht=>by
  have h1:=h.pS t (by omega)
  have h2:=h (t+1) ht
  rw [Fi]
  have:B*(((t+1:Nat):Int)+1)=B*((t:Int)+1)+B:=by
   rw [Int.natCast_succ,Int.mul_add B ((t:Int)+1) 1,Int.mul_one]
  rw [this]
  omega
theorem Bnd.le{f:Nat->Int}{Dg:Nat}{B C:Int}(h:Bnd f Dg B)(hC:B<=C):Bnd f Dg C:=λt ht=>by
 have:=h t ht
 omega
theorem Bnd.sum{f:Nat->Int}{Dg:Nat}{B:Int}(h:Bnd f Dg B):Bnd (Go.Proofs.YtialdhnijjnpaaaGreat.pS f) Dg (B*(Dg+1)):=λt ht=>by
 have h1:=h.pS t ht
 have h2:B*((t:Int)+1)<=B*((Dg:Int)+1):=Int.mul_le_mul_of_nonneg_left (by omega) h.pos
 omega
theorem Bnd.sumn{f:Nat->Int}{Dg:Nat}{B:Int}(h:Bnd f Dg B):∀n,Bnd (BU n f) Dg (B*((Dg:Int)+1)^n)
 | 0=>by rw [Int.pow_zero,Int.mul_one];exact h
 | n+1=>by
  have:=(h.sumn n).sum
  rw [Int.pow_succ,<-Int.mul_assoc]
  exact this
theorem Bnd.kS{f:Nat->Int}{Dg:Nat}{B:Int}(h:Bnd f Dg B)(i:Nat):Bnd (Go.Proofs.YtialdhnijjnpaaaGreat.kS f i) Dg (B*(Dg+1)):=λt ht=>by
 unfold Go.Proofs.YtialdhnijjnpaaaGreat.kS
 split
 .exact h.sum t ht
 .have h1:=h t ht
  have h2:B*1<=B*((Dg:Int)+1):=Int.mul_le_mul_of_nonneg_left (by omega) h.pos
  omega
def cN(N:Nat)(f:Nat->Int):Nat->Nat×(Nat->Int)
 | 0=>(N,f)
 | j+1=>(FM (pS (cN N f j).2) (cN N f j).1,pS (cN N f j).2)
theorem Pj(N:Nat)(f:Nat->Int):∀j,(cN N f j).2=BU j f
 | 0=>rfl
 | j+1=>by
  show pS (cN N f j).2=_
  rw [Pj N f j]
  rfl
theorem Mi(N:Nat)(f:Nat->Int):∀j,(cN N f j).1<=N
 | 0=>Nat.le_refl N
 | j+1=>Nat.le_trans (Lj _ _) (Mi N f j)
theorem GZ(m:Nat)(f:Nat->Int):∀n,BU (n+m) f=BU n (BU m f)
 | 0=>by rw [Nat.zero_add];rfl
 | n+1=>by
  rw [show n+1+m=(n+m)+1 by omega]
  show pS (BU (n+m) f)=pS (BU n (BU m f))
  rw [GZ m f n]
theorem IR(f g:Nat->Int):∀n,Ba n (λk=>f k+g k)=Ba n f+Ba n g
 | 0=>rfl
 | n+1=>by rw [Ba,Ba,Ba,IR f g n];omega
theorem LC(f g:Nat->Int):∀n,BU n (λd=>f d+g d)=λd=>BU n f d+BU n g d
 | 0=>rfl
 | n+1=>by
  show pS (BU n _)=_
  rw [LC f g n]
  funext d
  exact IR _ _ (d+1)
def dZ(f:Nat->Int)(d:Nat):Int:=f d-(if d=0 then 0 else f (d-1))
theorem A2B(f:Nat->Int):pS (dZ f)=f:=by
 funext d
 induction d with
 | zero=>rw [SK,dZ,if_pos rfl,Int.sub_zero]
 | succ d ih=>rw [Fi,ih,dZ,if_neg (by omega),Nat.add_sub_cancel];omega
def dZn:Nat->(Nat->Int)->Nat->Int
 | 0,f=>f
 | n+1,f=>dZ (dZn n f)
theorem OL(f:Nat->Int):∀n,BU n (dZn n f)=f
 | 0=>rfl
 | n+1=>by
  rw [GZ 1]
  show BU n (pS (dZ (dZn n f)))=f
  rw [A2B,OL f n]
def FS(p:Nat->Int)(B:Nat)(c:Int):Prop:=(∀i,B<=i->p i=0)/\Ba B p=c
theorem FS.more{p:Nat->Int}{B B':Nat}{c:Int}(h:FS p B c)(hB:B<=B'):FS p B' c:=by
 obtain ⟨r,rfl⟩:∃r,B'=B+r:=⟨B'-B,by omega⟩
 refine ⟨λi hi=>h.1 i (by omega),?_⟩
 rw [DM,h.2,CF λk _=>h.1 _ (by omega),Int.add_zero]
theorem FS.add{p q:Nat->Int}{B B':Nat}{c c':Int}(h:FS p B c)(h':FS q B' c'):FS (λd=>p d+q d) (max B B') (c+c'):=by
 have h1:=h.more (B':=max B B') (by omega)
 have h2:=h'.more (B':=max B B') (by omega)
 refine ⟨λi hi=>?_,by rw [IR,h1.2,h2.2]⟩
 show p i+q i=0
 rw [h1.1 i hi,h2.1 i hi]
 rfl
theorem FS.dz{p:Nat->Int}{B:Nat}{c:Int}(h:FS p B c):FS (dZ p) (B+1) 0:=by
 refine ⟨λi hi=>?_,?_⟩
 .rw [dZ, h.1 i (by omega), if_neg (by omega), h.1 (i-1) (by omega)]
  rfl
 .show pS (dZ p) B=0
  rw [A2B,h.1 B (Nat.le_refl B)]
theorem FS.dzn{p:Nat->Int}{B:Nat}{c:Int}(h:FS p B c):∀r,FS (dZn r p) (B+r) (if r=0 then c else 0)
 | 0=>by rw [if_pos rfl];exact h
 | r+1=>by
  rw [if_neg (by omega)]
  exact (h.dzn r).dz
theorem FS.sh{p:Nat->Int}{B:Nat}{c:Int}(h:FS p B c)(e:Nat):FS (Fg e p) (e+B) c:=by
 refine ⟨λi hi=>?_,?_⟩
 .unfold Fg
  split
  .exact h.1 _ (by omega)
  .rfl
 .rw [DM, CF (f:=Fg e p) λk hk=>if_neg (by omega), Int.zero_add, <-h.2]
  exact Cb λk _=>by rw [Fg,if_pos (by omega),show e+k-e=k by omega]
def Ser(F:Nat->Int)(D c:Int):Prop:=(D = -1/\c=0/\F=λ_=>0)\/∃(n:Nat) (p:Nat->Int) (B:Nat),D=(n:Int)/\FS p B c/\0<c/\F=BU n p
theorem Ser.zero:Ser (λ_=>0) (-1) 0:=.inl ⟨rfl,rfl,rfl⟩
theorem Ser.ge{F:Nat->Int}{D c:Int}(h:Ser F D c):-1<=D/\0<=c:=by
 rcases h with ⟨h,h2,_⟩ | ⟨n,_,_,h,_,h2,_⟩<;>omega
theorem Ser.add_eq{F G:Nat->Int}{D c c':Int}(h:Ser F D c)(h':Ser G D c'):Ser (λd=>F d+G d) D (c+c'):=by
 rcases h with ⟨h1,h2,h3⟩ | ⟨n,p,B,h1,h2,h3,h4⟩
 .rcases h' with ⟨g1,g2,g3⟩ | ⟨m,q,B',g1,g2,g3,g4⟩
  .exact .inl ⟨h1,by omega,by rw [h3,g3];rfl⟩
  .omega
 .rcases h' with ⟨g1,g2,g3⟩ | ⟨m,q,B',g1,g2,g3,g4⟩
  .omega
  .obtain rfl:n=m:=by omega
   exact .inr ⟨n,_,_,h1,h2.add g2,by omega,by rw [LC,h4,g4]⟩
theorem Ser.add_lt{F G:Nat->Int}{D D' c c':Int}(hD:D<D')(h:Ser F D c)(h':Ser G D' c'):Ser (λd=>F d+G d) D' c':=by
 rcases h with ⟨h1,h2,h3⟩ | ⟨n,p,B,h1,h2,h3,h4⟩
 .have e:(λd=>F d+G d)=G:=by
   funext d
   rw [h3]
   exact Int.zero_add _
  rw [e]
  exact h'
 .rcases h' with ⟨g1,g2,g3⟩ | ⟨m,q,B',g1,g2,g3,g4⟩
  .omega
  .obtain ⟨r, rfl⟩:∃r, m=n+(r+1):=⟨m-n-1, by omega⟩
   have hf:=h2.dzn (r+1)
   rw [if_neg (by omega)] at hf
   have hs:=hf.add g2
   rw [Int.zero_add] at hs
   refine .inr ⟨n+(r+1),_,_,g1,hs,g3,?_⟩
   rw [LC,h4,g4,GZ (r+1) (dZn (r+1) p) n,OL]
theorem Ser.add{F G:Nat->Int}{D D' c c':Int}(h:Ser F D c)(h':Ser G D' c'):∃c2,Ser (λd=>F d+G d) (max D D') c2:=by
 rcases Int.lt_trichotomy D D' with hlt | rfl | hlt
 .rw [show max D D'=D' by omega]
  exact ⟨c',h.add_lt hlt h'⟩
 .rw [show max D D=D by omega]
  exact ⟨_,h.add_eq h'⟩
 .rw [show max D D'=D by omega]
  have:=h'.add_lt hlt h
  rw [show (λd=>G d+F d)=λd=>F d+G d by funext d;exact Int.add_comm _ _] at this
  exact ⟨c,this⟩
theorem YE(e:Nat):Fg e (λ_=>0)=λ_=>0:=by
 funext d
 unfold Fg
 split<;>rfl
theorem Ser.sh{F:Nat->Int}{D c:Int}(h:Ser F D c)(e:Nat):Ser (Fg e F) D c:=by
 rcases h with ⟨h1,h2,h3⟩ | ⟨n,p,B,h1,h2,h3,h4⟩
 .exact .inl ⟨h1,h2,by rw [h3,YE]⟩
 .exact .inr ⟨n,Fg e p,e+B,h1,h2.sh e,h3,by rw [SJ,h4]⟩
theorem Ser.ps{F:Nat->Int}{D c:Int}(h:Ser F D c):Ser (pS F) (if D = -1 then -1 else D+1) c:=by
 rcases h with ⟨h1,h2,h3⟩ | ⟨n,p,B,h1,h2,h3,h4⟩
 .rw [if_pos h1]
  exact .inl ⟨rfl,h2,by rw [h3,UU]⟩
 .rw [if_neg (by omega)]
  exact .inr ⟨n+1,p,B,by omega,h2,h3,by rw [h4];rfl⟩
theorem Ser.sum{G:Nat->Nat->Int}(D:Nat->Int)(h:∀e,∃c,Ser (G e) (D e) c):∀m,∃M c,Ser (λd=>Ba m λe=>Fg e (G e) d) M c/\(∀e,e<m->D e<=M)/\(M = -1\/∃e,e<m/\M=D e)
 | 0=>⟨-1,0,Ser.zero,λe he=>absurd he (Nat.not_lt_zero e),.inl rfl⟩
 | m+1=>by
  obtain ⟨M,c,h1,h2,h3⟩:=Ser.sum D h m
  obtain ⟨c',h4⟩:=h m
  obtain ⟨c2,h5⟩:=h1.add (h4.sh m)
  refine ⟨max M (D m),c2,h5,λe he=>?_,?_⟩
  .by_cases e1:e=m
   .subst e1;omega
   .have:=h2 e (by omega)
    omega
  .by_cases hm:D m<=M
   .rw [show max M (D m)=M by omega]
    exact h3.imp id λ⟨e,he,hM⟩=>⟨e,by omega,hM⟩
   .exact .inr ⟨m,by omega,by omega⟩
def Sx(k i:Nat)(l:Ai)(x:Nat->Int):Int:=bif l.any (λa=>GH k i a x) then 0 else 1
def FR(k i:Nat)(l:Ai)(d:Nat):Int:=sM k i d (Sx k i l)
def Ir(i:Nat)(l:Ai)(e:Nat):Ai:=l.filter λa=>decide (a i<=(e:Int))
theorem QD{i:Nat}{l:Ai}{e E:Nat}(h:∀a∈l,a i<=(E:Int))(he:E<=e):Ir i l e=l:=by
 unfold Ir
 rw [List.filter_eq_self]
 exact λa ha=>decide_eq_true (by have:=h a ha;omega)
theorem Wn(k i:Nat)(l:Ai)(e:Nat)(m:Nat->Int):Sx (k+1) i l (λj=>if j=i then (e:Int) else m j)=Sx k (i+1) (Ir i l e) m:=by
 unfold Sx Ir
 congr 1
 rw [List.any_filter]
 congr 1
 funext a
 rw [GH,if_pos rfl,JV (y:=m) λj hj=>if_neg (by omega)]
theorem A2j(k i:Nat)(l:Ai)(E:Nat)(hE:∀a∈l,a i<=(E:Int)):FR (k+1) i l=λd=>Ba E (λe=>Fg e (FR k (i+1) (Ir i l e)) d)+Fg E (pS (FR k (i+1) l)) d:=by
 funext d
 have h1:FR (k+1) i l d=Ba (d+1) λe=>FR k (i+1) (Ir i l e) (d-e):=Cb λe _=>by
  unfold FR
  congr 1
  funext m
  exact Wn k i l e m
 rw [h1]
 by_cases hd:d<E
 .rw [show Fg E (pS (FR k (i+1) l)) d=0 from if_neg (by omega), Int.add_zero]
  obtain ⟨r,hr⟩:∃r,E=d+1+r:=⟨E-(d+1),by omega⟩
  have h2:Ba E (λe=>Fg e (FR k (i+1) (Ir i l e)) d)=Ba (d+1) λe=>Fg e (FR k (i+1) (Ir i l e)) d:=by
   rw [hr,DM _ (d+1) r,CF (n:=r) (f:=λq=>Fg (d+1+q) (FR k (i+1) (Ir i l (d+1+q))) d) λq hq=>if_neg (by omega),Int.add_zero]
  rw [h2]
  exact Cb λe he=>(if_pos (by omega)).symm
 .obtain ⟨r, hr⟩:∃r, d=E+r:=⟨d-E, by omega⟩
  rw [hr,show E+r+1=E+(r+1) by omega,DM]
  congr 1
  .exact Cb λe he=>(if_pos (by omega)).symm
  .rw [Fg, if_pos (by omega), show E+r-E=r by omega]
   show _=Ba (r+1) (FR k (i+1) l)
   refine Eq.trans ?_ (IQ (FR k (i+1) l) r)
   exact Cb λe _=>by
    show FR k (i+1) (Ir i l (E+e)) (E+r-(E+e))=_
    rw [QD hE (by omega),show E+r-(E+e)=r-e by omega]
def MA(k i:Nat)(l:Ai)(S:Nat->Bool):Prop:=∀a∈l,∃j,i<=j/\j<i+k/\S j=false/\0<a j
def IH:Nat->Nat->(Nat->Bool)->Nat
 | 0,_,_=>0
 | k+1,i,S=>(if S i=true then 1 else 0)+IH k (i+1) S
theorem Ht{S S':Nat->Bool}:∀{k i:Nat},(∀j,i<=j->j<i+k->S j=S' j)->IH k i S=IH k i S'
 | 0,_,_=>rfl
 | k+1,i,h=>by rw [IH,IH,h i (Nat.le_refl i) (by omega),Ht λj h1 h2=>h j (by omega) (by omega)]
def IsDim(k i:Nat)(l:Ai)(D:Int):Prop:=(∀S,MA k i l S->((IH k i S:Nat):Int)<=D)/\(D = -1\/∃S,MA k i l S/\D=((IH k i S:Nat):Int))
theorem IsDim.uniq{k i:Nat}{l:Ai}{D D':Int}(h:IsDim k i l D)(h':IsDim k i l D')(hD:-1<=D)(hD':-1<=D'):D=D':=by
 have key:∀{D D':Int},IsDim k i l D->IsDim k i l D'->-1<=D'->D<=D':=λ{D D'} h h' hD'=>by
  rcases h.2 with h2 | ⟨S,h2,h3⟩
  .omega
  .have:=h'.1 S h2
   omega
 exact Int.le_antisymm (key h h' hD') (key h' h hD)
theorem QW(i:Nat):∀l:Ai,∃E:Nat,∀a∈l,a i<=(E:Int)
 | []=>⟨0,λa ha=>by cases ha⟩
 | a::l=>by
  obtain ⟨E,h⟩:=QW i l
  refine ⟨max E (a i).toNat,λb hb=>?_⟩
  rcases List.mem_cons.1 hb with rfl | hb
  .omega
  .have:=h b hb
   omega
theorem VS(i:Nat)(l:Ai):FR 0 i l=λd=>if d=0 then Sx 0 i l (λ_=>0) else 0:=rfl
theorem UF:∀(k i:Nat) (l:Ai),(∀a∈l,∀j,0<=a j)->∃D c,Ser (FR k i l) D c/\IsDim k i l D
 | 0,i,[],_=>by
  refine ⟨0,1,.inr ⟨0,FR 0 i [],1,rfl,⟨λd hd=>if_neg (by omega),?_⟩,by omega,rfl⟩,λS _=>Int.le_refl 0,.inr ⟨λ_=>true,⟨λa ha=>(by cases ha),rfl⟩⟩⟩
  show (0:Int)+FR 0 i [] 0=1
  rw [VS]
  rfl
 | 0,i,a::l,_=>by
  refine ⟨-1,0,.inl ⟨rfl,rfl,?_⟩,λS hS=>?_,.inl rfl⟩
  .funext d
   rw [VS]
   show (if d=0 then (0:Int) else 0)=0
   split<;>rfl
  .obtain ⟨j,h1,h2,_⟩:=hS a List.mem_cons_self
   omega
 | k+1,i,l,hl=>by
  obtain ⟨E,hE⟩:=QW i l
  have hsub:∀e,∀a∈Ir i l e,∀j,0<=a j:=λe a ha=>hl a (List.mem_filter.1 ha).1
  have ih:=λe=>UF k (i+1) (Ir i l e) (hsub e)
  let D:Nat->Int:=λe=>(ih e).choose
  have hD:∀e,∃c,Ser (FR k (i+1) (Ir i l e)) (D e) c/\IsDim k (i+1) (Ir i l e) (D e):=λe=>(ih e).choose_spec
  obtain ⟨M,c1,h1,h2,h3⟩:=Ser.sum D (λe=>(hD e).imp λc h=>h.1) E
  obtain ⟨c2,h4,h5⟩:=hD E
  have hge:=h4.ge
  rw [QD hE (Nat.le_refl E)] at h4 h5
  obtain ⟨c3,h6⟩:=h1.add (h4.ps.sh E)
  rw [<-A2j k i l E hE] at h6
  refine ⟨_,c3,h6,λS hS=>?_,?_⟩
  .cases hSi:S i with
   | true=>
    have hI:MA k (i+1) l S:=λa ha=>by
     obtain ⟨j,g1,g2,g3,g4⟩:=hS a ha
     refine ⟨j,?_,by omega,g3,g4⟩
     rcases Nat.eq_or_lt_of_le g1 with e | g
     .subst e
      rw [hSi] at g3
      cases g3
     .exact g
    have g:=h5.1 S hI
    rw [IH,if_pos hSi,if_neg (by omega)]
    omega
   | false=>
    have hI:MA k (i+1) (Ir i l 0) S:=λa ha=>by
     obtain ⟨ha,hz⟩:=List.mem_filter.1 ha
     have hz:=of_decide_eq_true hz
     obtain ⟨j,g1,g2,g3,g4⟩:=hS a ha
     refine ⟨j,?_,by omega,g3,g4⟩
     rcases Nat.eq_or_lt_of_le g1 with e | g
     .subst e
      omega
     .exact g
    obtain ⟨c0,_,g0⟩:=hD 0
    have g:=g0.1 S hI
    rw [IH,hSi,if_neg (by decide),Nat.zero_add]
    by_cases hE0:E=0
    .subst hE0
     split<;>omega
    .have:=h2 0 (by omega)
     omega
  .by_cases hM:(if D E = -1 then -1 else D E+1)<=M
   .rw [show max M (if D E = -1 then -1 else D E+1)=M by omega]
    rcases h3 with h3 | ⟨e,he,rfl⟩
    .exact .inl h3
    .obtain ⟨c0,_,g0⟩:=hD e
     rcases g0.2 with g | ⟨S,g1,g2⟩
     .exact .inl g
     .refine .inr ⟨λj=>if j=i then false else S j,λa ha=>?_,?_⟩
      .by_cases hae:a i<=(e:Int)
       .obtain ⟨j,q1,q2,q3,q4⟩:=g1 a (List.mem_filter.2 ⟨ha,decide_eq_true hae⟩)
        exact ⟨j,by omega,by omega,(if_neg (by omega)).trans q3,q4⟩
       .exact ⟨i,Nat.le_refl i,by omega,if_pos rfl,by omega⟩
      .rw [g2, IH, if_pos rfl, if_neg (by decide), Nat.zero_add]
       congr 1
       exact Ht λj q1 _=>(if_neg (by omega)).symm
   .rw [show max M (if D E = -1 then -1 else D E+1)=(if D E = -1 then -1 else D E+1) by omega]
    by_cases hDE:D E = -1
    .exact .inl (if_pos hDE)
    .rw [if_neg hDE]
     rcases h5.2 with g | ⟨S,g1,g2⟩
     .exact absurd g hDE
     .refine .inr ⟨λj=>if j=i then true else S j,λa ha=>?_,?_⟩
      .obtain ⟨j,q1,q2,q3,q4⟩:=g1 a ha
       exact ⟨j,by omega,by omega,(if_neg (by omega)).trans q3,q4⟩
      .rw [g2, IH, if_pos rfl, if_pos rfl, Ht (S:=λj=>if j=i then true else S j) (S':=S) λj q1 _=>if_neg (by omega)]
       omega
theorem Wu{K p:Nat->Int}{n m:Nat}(h:BU (m+n) K=BU m p):BU n K=p:=by
 rw [GZ] at h
 exact KI h
theorem A06{N:Nat}{f:Nat->Int}{r B:Nat}{c:Int}(far:∀i,N<=i->f i=0)(hf:FS (BU r f) B c):∀j,j<=r->∀i,(cN N f j).1<=i->BU j f i=0
 | 0,_=>far
 | j+1,hj=>by
  have ih:=A06 far hf j (by omega)
  obtain ⟨q,rfl⟩:∃q,r=q+(j+1):=⟨r-(j+1),by omega⟩
  have he:BU (j+1) f=dZn q (BU (q+(j+1)) f):=by
   refine KI (n:=q) ?_
   rw [OL,GZ (j+1) f q]
  have hfin:=hf.dzn q
  rw [<-he] at hfin
  have hconst:∀i,(cN N f j).1<=i->∀t,BU (j+1) f (i+t)=BU (j+1) f i:=λi hi t=>by
   induction t with
   | zero=>rfl
   | succ t iht=>
    show pS (BU j f) (i+t+1)=_
    rw [Fi,ih (i+t+1) (by omega),Int.add_zero]
    exact iht
  have hz:∀i,(cN N f j).1<=i->BU (j+1) f i=0:=λi hi=>by
   rw [<-hconst i hi (B+q),hfin.1 _ (by omega)]
  intro i hi
  have e:(cN N f (j+1)).1=FM (BU (j+1) f) (cN N f j).1:=by
   show FM (pS (cN N f j).2) _=_
   rw [Pj]
   rfl
  rw [e] at hi
  exact IM hz i hi
theorem A4k{l:Ai}{n:Nat}(hn:n<=8)(hl:∀a∈l,SupN n a):(λd=>hN n d l)=FR n 0 l:=by
 funext d
 refine ES λx hx=>?_
 unfold GI Sx inB
 congr 1
 refine bool_eq ?_
 rw [List.any_eq_true,List.any_eq_true]
 have key : ∀ a ∈ l, (GH 8 0 a x = true ↔ GH n 0 a x = true) := fun a ha => MP.trans (Iff.trans ⟨fun h j _ hj => h j (by omega), fun h j hj => by
  by_cases hjn:j<n
  .exact h j (Nat.zero_le j) (by omega)
  .rw [(hl a ha j hj).2 (by omega)]
   exact hx.1 j⟩ FT.symm)
 exact ⟨λ⟨a,ha,h⟩=>⟨a,ha,(key a ha).1 h⟩,λ⟨a,ha,h⟩=>⟨a,ha,(key a ha).2 h⟩⟩
def Vx(d:Nat):Int:=if d=0 then 1 else 0
def wB(n t:Nat):Int:=BU n Vx t
def cnv(f g:Nat->Int)(d:Nat):Int:=Ba (d+1) λi=>f i*g (d-i)
theorem A1Q(f:Nat->Int):cnv f Vx=f:=by
 funext d
 rw [cnv,Ba,CF λk hk=>by rw [Vx,if_neg (by omega),Int.mul_zero],Int.zero_add,Nat.sub_self]
 show f d*1=f d
 exact Int.mul_one _
theorem A3p(f g:Nat->Int):cnv f (pS g)=pS (cnv f g):=by
 funext d
 induction d with
 | zero=>
  rw [SK]
  show (0:Int)+f 0*pS g (0-0)=0+f 0*g (0-0)
  rw [Nat.sub_zero,SK]
 | succ d ih=>
  rw [Fi,<-ih]
  unfold cnv
  rw [Ba,Nat.sub_self,SK]
  have h:Ba (d+1) (λi=>f i*pS g (d+1-i))=Ba (d+1) (λi=>f i*pS g (d-i))+Ba (d+1) (λi=>f i*g (d+1-i)):=by
   rw [<-IR]
   refine Cb λi hi=>?_
   rw [<-Int.mul_add,show d+1-i=(d-i)+1 by omega,Fi]
  have h3:Ba (d+1+1) (λi=>f i*g (d+1-i))=Ba (d+1) (λi=>f i*g (d+1-i))+f (d+1)*g 0:=by
   rw [Ba,Nat.sub_self]
  rw [h,h3,Int.add_assoc]
theorem UT(f:Nat->Int):∀n,BU n f=cnv f (wB n)
 | 0=>(A1Q f).symm
 | n+1=>by
  show pS (BU n f)=cnv f (pS (wB n))
  rw [UT f n,A3p]
theorem Ol(i:Nat):wB (i+1) 0=1:=by
 induction i with
 | zero=>rfl
 | succ i ih=>
  show pS (wB (i+1)) 0=1
  rw [SK,ih]
theorem So(m:Nat):wB 1 m=1:=by
 induction m with
 | zero=>rfl
 | succ m ih=>
  show pS Vx (m+1)=1
  rw [Fi]
  show wB 1 m+0=1
  rw [ih]
  rfl
theorem Om(i m:Nat):wB (i+1) (m+1)=wB (i+1) m+wB i (m+1):=Fi _ _
theorem A13:∀i:Nat,(∀m:Nat,((m:Int)+1)*wB (i+1) (m+1)=((m:Int)+i+1)*wB (i+1) m)/\∀m:Nat,((i:Int)+1)*wB (i+2) m=((m:Int)+i+1)*wB (i+1) m:=by
 have pq:∀i:Nat,(∀m:Nat,((m:Int)+1)*wB (i+1) (m+1)=((m:Int)+i+1)*wB (i+1) m)->∀m:Nat,((i:Int)+1)*wB (i+2) m=((m:Int)+i+1)*wB (i+1) m:=λi hp m=>by
  induction m with
  | zero=>rw [Ol,Ol];simp
  | succ m ih=>
   have h1:=hp m
   rw [Om (i+1) m,Int.mul_add,ih]
   have h2:(((m+1:Nat):Int)+i+1)*wB (i+1) (m+1)=((m:Int)+1)*wB (i+1) (m+1)+((i:Int)+1)*wB (i+1) (m+1):=by
    rw [<-Int.add_mul]
    congr 1<;>omega
   rw [h2,h1]
 intro i
 induction i with
 | zero=>
  have h0:∀m:Nat,((m:Int)+1)*wB (0+1) (m+1)=((m:Int)+(0:Nat)+1)*wB (0+1) m:=λm=>by
   rw [So,So]
   simp
  exact ⟨h0,pq 0 h0⟩
 | succ i ih=>
  have hp:∀m:Nat,((m:Int)+1)*wB (i+1+1) (m+1)=((m:Int)+(i+1:Nat)+1)*wB (i+1+1) m:=λm=>by
   rw [Om (i+1) m,Int.mul_add,ih.1 m,<-ih.2 m,<-Int.add_mul]
   congr 1<;>omega
  exact ⟨hp,pq (i+1) hp⟩
theorem A12(i m:Nat):wB (i+2) m=wB (i+1) m*((m:Int)+i+1)/((i:Int)+1):=by
 rw [Int.mul_comm,<-(A13 i).2 m,Int.mul_comm,Int.mul_ediv_cancel _ (by omega)]
theorem Yk:∀(n t:Nat),0<=wB n t
 | 0,t=>by
  show 0<=Vx t
  unfold Vx
  split<;>omega
 | n+1,0=>by rw [Ol];omega
 | n+1,t+1=>by
  rw [Om]
  have:=Yk (n+1) t
  have:=Yk n (t+1)
  omega
end Go.Proofs.YtialdhnijjnpaaaGreat
