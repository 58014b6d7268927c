/- Part 4 of the proof of polynomialValid_holds. No condition. -/
import Derived.BigQuiet
import Derived.ChangeAlike
import Derived.ChangeKeysEq
import Derived.Deep.Cut
import Derived.Deep.CutBlock
import Derived.Deep.DeepCutAuto
import Derived.Deep.LoopGhost
import Derived.Deep.QuietTactic
import Derived.Deep.RegionHeld3
import Derived.Laws.AppendOwnNone
import Derived.RegionTactic
import Derived.WalkKit
import Derived.WalkLawsBesides
import Derived.WalkSpells
import Derived.Test.YtclmdofdjbdfiaaGreatVa1
set_option linter.unusedSimpArgs false
set_option linter.unusedVariables false
set_option maxRecDepth 100000
set_option maxHeartbeats 800000
namespace Go.Proofs.YtclmdofdjbdfiaaGreat
open Go.RowKit
def c8(a:Nat->Int):Array Value:=#[.int .i64 (a 0),.int .i64 (a 1),.int .i64 (a 2),.int .i64 (a 3),.int .i64 (a 4),.int .i64 (a 5),.int .i64 (a 6),.int .i64 (a 7)]
theorem Sa(a:Nat->Int)(k:Nat)(h:k<8):(c8 a)[k]? = some (.int .i64 (a k)):=by
 match k,h with
 | 0,_=>rfl
 | 1,_=>rfl
 | 2,_=>rfl
 | 3,_=>rfl
 | 4,_=>rfl
 | 5,_=>rfl
 | 6,_=>rfl
 | 7,_=>rfl
theorem Vq{k:Nat}(h:k<8):k=0\/k=1\/k=2\/k=3\/k=4\/k=5\/k=6\/k=7:=by omega
theorem Ey(a:Nat->Int)(k:Nat)(h:k<8)(W:World):(Instr.index 31 (.agg #[.int .i64 (a 0),.int .i64 (a 1),.int .i64 (a 2),.int .i64 (a 3),.int .i64 (a 4),.int .i64 (a 5),.int .i64 (a 6),.int .i64 (a 7)]) (.int .i64 (k:Int))).run Tryz.prog W = .ok (.int .i64 (a k)) W:=by
 rcases Vq h with rfl | rfl | rfl | rfl | rfl | rfl | rfl | rfl<;>kernel_rfl
theorem JO(a:Nat->Int)(k:Nat)(h:k<8)(W:World):(Instr.index 30 (.agg #[.int .i64 (a 0),.int .i64 (a 1),.int .i64 (a 2),.int .i64 (a 3),.int .i64 (a 4),.int .i64 (a 5),.int .i64 (a 6),.int .i64 (a 7)]) (.int .i64 (k:Int))).run Tryz.prog W = .ok (.int .i64 (a k)) W:=by
 rcases Vq h with rfl | rfl | rfl | rfl | rfl | rfl | rfl | rfl<;>kernel_rfl
theorem KU(a:Nat->Int)(k:Nat)(h:k<8)(W:World):(part 3 (c8 a) (k*Tryz.prog.cellsOf 3)).run Tryz.prog W = .ok (.int .i64 (a k)) W:=by
 rcases Vq h with rfl | rfl | rfl | rfl | rfl | rfl | rfl | rfl<;>kernel_rfl
def LH(a b:Nat->Int):Bool:=(List.range 8).all λi=>a i==b i
theorem CF{a b:Nat->Int}:LH a b=true↔∀i,i<8->a i=b i:=by simp [LH]
theorem Hc(d:Nat)(a b:Nat->Int)(W:World):∀is:List Nat,(∀i∈is,i<8)->(Op.eqItems (d+1) 3 (Tryz.prog.cellsOf 3) (c8 a) (c8 b) is).run Tryz.prog W = .ok (is.all λi=>a i==b i) W
 | [],_=>by simp [Op.eqItems]
 | i::is,h=>by
  have ih:=Hc d a b W is λj hj=>h j (by simp [hj])
  have hi:=h i (by simp)
  simp only [Op.eqItems,Sem.run_bind,KU a i hi,KU b i hi,Result.andThen_ok,run_equalIn_int W d 3 .i64 .i64 _ _ (show Tryz.prog.underlying 3=some (.int .i64) by kernel_rfl)]
  cases hc:a i==b i
  .simp [hc]
  .simp only [Bool.not_true,Bool.false_eq_true,if_false,ih,List.all_cons,hc,Bool.true_and]
theorem Dt(a b:Nat->Int)(W:World):(Op.equalIn 10000 31 (.agg #[.int .i64 (a 0),.int .i64 (a 1),.int .i64 (a 2),.int .i64 (a 3),.int .i64 (a 4),.int .i64 (a 5),.int .i64 (a 6),.int .i64 (a 7)]) (.agg #[.int .i64 (b 0),.int .i64 (b 1),.int .i64 (b 2),.int .i64 (b 3),.int .i64 (b 4),.int .i64 (b 5),.int .i64 (b 6),.int .i64 (b 7)])).run Tryz.prog W = .ok (LH a b) W:=by
 obtain ⟨i,hi⟩:∃i,Tryz.prog.info? 3=some i:=Option.isSome_iff_exists.1 (by kernel_rfl)
 have:=run_equalIn_array (P:=Tryz.prog) W 9999 (t:=31) (e:=3) (n:=8) (c8 a) (c8 b) (by kernel_rfl) hi
 rw [Hc 9998 a b W (List.range 8) (by simp)] at this
 exact this
theorem UA(a:Nat->Int)(k:Nat)(v:Int)(h:k<8):(c8 a).setIfInBounds k (.int .i64 v)=c8 (λi=>if i=k then v else a i):=by
 match k,h with
 | 0,_=>rfl
 | 1,_=>rfl
 | 2,_=>rfl
 | 3,_=>rfl
 | 4,_=>rfl
 | 5,_=>rfl
 | 6,_=>rfl
 | 7,_=>rfl
theorem Blk.at8{w:World}{g:Nat}{t:TypeId}{a:Nat->Int}(h:Blk w g t (c8 a)){k:Nat}(hk:k<8):w.cell? ⟨g,k,none⟩=some (.int .i64 (a k)):=by
 rw [h.cell,Sa a k hk]
theorem Blk.set8{w:World}{g:Nat}{t:TypeId}{a:Nat->Int}(h:Blk w g t (c8 a)){k:Nat}(hk:k<8)(v:Int):Blk (w.setCell ⟨g,k,none⟩ (.int .i64 v)) g t (c8 (λi=>if i=k then v else a i)):=by
 rw [<-UA a k v hk]
 exact h.set k _
def CE(a:Nat->Int):Nat->Int
 | 0=>0
 | k+1=>CE a k+a k
def In8(a:Nat->Int)(lo hi:Int):Prop:=∀i,i<8->lo<=a i/\a i<=hi
theorem In8.mono{a:Nat->Int}{lo hi lo' hi':Int}(h:In8 a lo hi)(h1:lo'<=lo)(h2:hi<=hi'):In8 a lo' hi':=λi hi=>by have:=h i hi;omega
theorem FH{a:Nat->Int}{lo hi:Int}(h:In8 a lo hi):∀k,k<=8->lo*k<=CE a k/\CE a k<=hi*k
 | 0,_=>by simp [CE]
 | k+1,hk=>by
  have ih:=FH h k (by omega)
  have:=h k (by omega)
  simp only [CE,Int.natCast_add,Int.mul_add]
  omega
theorem OO(a:Nat->Int)(w:World)(h:In8 a (-1000000) 1000000) :
  Calls Tryz.prog 47 #[.agg #[.int .i64 (a 0),.int .i64 (a 1),.int .i64 (a 2),.int .i64 (a 3),.int .i64 (a 4),.int .i64 (a 5),.int .i64 (a 6),.int .i64 (a 7)]] w λe w'=>e = .returned (.int .i64 (CE a 8))/\Ext w w':=by
 replace h:=Aa h
 go_enter Tryz.func47,Tryz.ntmps47
 go_wp2
 go_loopw [3,7] (λs i wr=>∃k:Nat,k<=8/\i = .int .i64 k/\s = .int .i64 (CE a k)/\Hid (Ext w wr)) (λ_ i _=>8-(intOf i).toNat)
 case atStart=>exact ⟨0,by omega,rfl,rfl,(Ext.refl _).alloc _⟩
 case round=>
  obtain ⟨k,hk,rfl,rfl,hE⟩:=hrel
  by_cases hlt:k<8
  .have hx:=λW=>Ey a k hlt W
   have hb:=FH h.out k hk
   have hb':=h.out k hlt
   have hs:CE a (k+1)=CE a k+a k:=rfl
   generalize CE a k=s at *
   generalize a k=x at *
   replace hs:=Aa hs
   go_wp2
   exact ⟨⟨k+1,hlt,by simp,by rw [hs.out],hE⟩,by simp [intOf];omega⟩
  .obtain rfl:k=8:=by omega
   go_wp2
   go_ret
   exact ⟨rfl,hE.out⟩
def DV(a b:Nat->Int):Nat->Nat->Int
 | _,0=>0
 | k,n+1=>if a k=b k then DV a b (k+1) n else if a k<b k then -1 else 1
def DQ(a b:Nat->Int):Int:=DV a b 0 8
theorem Hj{a b:Nat->Int}:∀(n k:Nat),(∀i,k<=i->i<k+n->a i=b i)->DV a b k n=0
 | 0,_,_=>rfl
 | n+1,k,h=>by
  rw [DV,if_pos (h k (by omega) (by omega))]
  exact Hj n (k+1) λi h1 h2=>h i (by omega) (by omega)
theorem Mj(a b:Nat->Int)(w:World) :
  Calls Tryz.prog 26 #[.agg #[.int .i64 (a 0),.int .i64 (a 1),.int .i64 (a 2),.int .i64 (a 3),.int .i64 (a 4),.int .i64 (a 5),.int .i64 (a 6),.int .i64 (a 7)],.agg #[.int .i64 (b 0),.int .i64 (b 1),.int .i64 (b 2),.int .i64 (b 3),.int .i64 (b 4),.int .i64 (b 5),.int .i64 (b 6),.int .i64 (b 7)]] w λe w'=>e = .returned (.int .i64 (DQ a b))/\Ext w w':=by
 have hq:=λW=>Dt a b W
 cases he:LH a b with
 | true=>
  rw [he] at hq
  go_enter Tryz.func26,Tryz.ntmps26
  go_wp2
  go_ret
  refine ⟨?_,((Ext.refl _).alloc _).alloc _⟩
  rw [DQ,Hj 8 0 λi _ h=>CF.1 he i (by omega)]
  rfl
 | false=>
  rw [he] at hq
  have hne:¬∀i,i<8->a i=b i:=λh=>by rw [CF.2 h] at he;cases he
  clear he
  replace hne:=Aa hne
  have hA:Hid (Blk ((w.alloc (.cells #[.int .i64 (a 0),.int .i64 (a 1),.int .i64 (a 2),.int .i64 (a 3),.int .i64 (a 4),.int .i64 (a 5),.int .i64 (a 6),.int .i64 (a 7)] 31)).alloc (.cells #[.int .i64 (b 0),.int .i64 (b 1),.int .i64 (b 2),.int .i64 (b 3),.int .i64 (b 4),.int .i64 (b 5),.int .i64 (b 6),.int .i64 (b 7)] 31)) w.heap.size 31 (c8 a)):=(Blk.new _ _ _).alloc _
  have hB:Hid (Blk ((w.alloc (.cells #[.int .i64 (a 0),.int .i64 (a 1),.int .i64 (a 2),.int .i64 (a 3),.int .i64 (a 4),.int .i64 (a 5),.int .i64 (a 6),.int .i64 (a 7)] 31)).alloc (.cells #[.int .i64 (b 0),.int .i64 (b 1),.int .i64 (b 2),.int .i64 (b 3),.int .i64 (b 4),.int .i64 (b 5),.int .i64 (b 6),.int .i64 (b 7)] 31)) (w.heap.size+1) 31 (c8 b)):=AW _ _ (by simp)
  have hE:Hid (Ext w ((w.alloc (.cells #[.int .i64 (a 0),.int .i64 (a 1),.int .i64 (a 2),.int .i64 (a 3),.int .i64 (a 4),.int .i64 (a 5),.int .i64 (a 6),.int .i64 (a 7)] 31)).alloc (.cells #[.int .i64 (b 0),.int .i64 (b 1),.int .i64 (b 2),.int .i64 (b 3),.int .i64 (b 4),.int .i64 (b 5),.int .i64 (b 6),.int .i64 (b 7)] 31))):=((Ext.refl _).alloc _).alloc _
  go_enter Tryz.func26,Tryz.ntmps26
  go_wp2
  generalize ((w.alloc (.cells #[.int .i64 (a 0),.int .i64 (a 1),.int .i64 (a 2),.int .i64 (a 3),.int .i64 (a 4),.int .i64 (a 5),.int .i64 (a 6),.int .i64 (a 7)] 31)).alloc (.cells #[.int .i64 (b 0),.int .i64 (b 1),.int .i64 (b 2),.int .i64 (b 3),.int .i64 (b 4),.int .i64 (b 5),.int .i64 (b 6),.int .i64 (b 7)] 31))=w1 at *
  go_loopw [5] (λi wr=>∃k:Nat,k<8/\i = .int .i64 k/\Hid ((¬∀i,k<=i->i<8->a i=b i)/\DQ a b=DV a b k (8-k)/\Blk wr w.heap.size 31 (c8 a)/\Blk wr (w.heap.size+1) 31 (c8 b)/\Ext w wr)) (λi _=>8-(intOf i).toNat)
  case atStart=>exact ⟨0,by omega,rfl,λh=>hne.out λi hi=>h i (by omega) hi,rfl,hA.out,hB.out,hE.out⟩
  case round=>
   obtain ⟨k,hk,rfl,hR⟩:=hrel
   have xa:=hR.out.2.2.1.at8 hk
   have xb:=hR.out.2.2.2.1.at8 hk
   have hs:Hid (DV a b k (8-k)=if a k=b k then DV a b (k+1) (8-(k+1)) else if a k<b k then -1 else 1):=by
    rw [show 8-k=8-(k+1)+1 by omega];rfl
   have hn:Hid (a k=b k->k+1<8/\¬∀i,k+1<=i->i<8->a i=b i):=λh=>by
    have h1:¬∀i,k+1<=i->i<8->a i=b i:=λh2=>hR.out.1 λi h3 h4=>by
     by_cases e:i=k
     .rw [e];exact h
     .exact h2 i (by omega) h4
    refine ⟨?_,h1⟩
    by_cases hk':k+1<8
    .exact hk'
    .exact absurd (λi h3 h4=>by omega) h1
   generalize a k=x at *
   generalize b k=y at *
   by_cases hxy:x=y
   .have hn':=hn.out hxy
    have hs':=hs.out
    rw [if_pos hxy] at hs'
    replace hs':=Aa (hR.out.2.1.trans hs')
    have hk1:=hn'.1
    replace hn':=Aa hn'.2
    go_wp2
    go_quiet (fail)
    go_wp2
    exact ⟨⟨k+1,hk1,by simp,hn'.out,hs'.out,hR.out.2.2.1,hR.out.2.2.2.1,hR.out.2.2.2.2.drewN _⟩,by simp [intOf];omega⟩
   .have hs':=hs.out
    rw [if_neg hxy] at hs'
    replace hs':=Aa (hR.out.2.1.trans hs')
    by_cases hlt:x<y
    .rw [if_pos hlt] at hs'
     go_wp2
     go_quiet (fail)
     go_wp2
     go_quiet (fail)
     go_wp2
     go_ret
     exact ⟨by rw [hs'.out];rfl,(hR.out.2.2.2.2.drewN _).drewN _⟩
    .rw [if_neg hlt] at hs'
     go_wp2
     go_quiet (fail)
     go_wp2
     go_quiet (fail)
     go_wp2
     go_ret
     exact ⟨by rw [hs'.out];rfl,(hR.out.2.2.2.2.drewN _).drewN _⟩
def DN(R:List (Nat->Int))(k:Nat):Nat->Int:=R.getD k (λ_=>0)
def RowsAt(κ:IntKind)(t:TypeId)(w:World)(v:Value)(R:List (Nat->Int)):Prop:=
 ∃(A:Option Addr) (c:Nat),v = .slice A R.length c/\R.length<=c/\c<=9223372036854775807 /\
  (0<R.length->∃(b o:Nat) (cs:Array Value) (fz:Nat×Nat),A=some ⟨b,o,none⟩/\w.heap[b]? = some (.cells cs t fz)/\∀k j,k<R.length->j<8->cs[o+k*8+j]? = some (.int κ (DN R k j)))
theorem RowsAt.open_{κ:IntKind}{t:TypeId}{w:World}{v:Value}{R:List (Nat->Int)}(h:RowsAt κ t w v R):∃(A:Option Addr) (c:Nat),v = .slice A R.length c/\R.length<=c/\c<=9223372036854775807 /\
  (0<R.length->∃(b o:Nat),A=some ⟨b,o,none⟩/\b<w.heap.size/\∀k j,k<R.length->j<8->w.cell? ⟨b,o+k*8+j,none⟩=some (.int κ (DN R k j))):=by
 obtain ⟨A,c,h1,h2,h3,h4⟩:=h
 refine ⟨A,c,h1,h2,h3,λhp=>?_⟩
 obtain ⟨b,o,cs,fz,h5,h6,h7⟩:=h4 hp
 exact ⟨b,o,h5,AK h6,λk j hk hj=>(BY h6).trans (h7 k j hk hj)⟩
def DF(r a b:Nat->Int)(k:Nat):Int:=CE (λi=>r i*(a i-b i)) k
def Dj:List (Nat->Int)->(Nat->Int)->(Nat->Int)->Int
 | [],_,_=>0
 | r::R,a,b=>if DF r a b 8<0 then -1 else if 0<DF r a b 8 then 1 else Dj R a b
def DB(R:List (Nat->Int))(a b:Nat->Int):Int:=if Dj R a b=0 then DQ a b else Dj R a b
theorem IK{a:Nat->Int}:∀{k:Nat},(∀i,i<k->a i=0)->CE a k=0
 | 0,_=>rfl
 | k+1,h=>by rw [CE,IK λi hi=>h i (by omega),h k (by omega)];rfl
theorem Jx{a b:Nat->Int}(h:∀i,i<8->a i=b i):∀R,Dj R a b=0
 | []=>rfl
 | r::R=>by
  have:DF r a b 8=0:=IK λi hi=>by rw [h i hi,Int.sub_self,Int.mul_zero]
  rw [Dj,this,if_neg (by omega),if_neg (by omega),Jx h R]
theorem Pq{a b:Nat->Int}(h:∀i,i<8->a i=b i)(R:List (Nat->Int)):DB R a b=0:=by
 rw [DB,Jx h,if_pos rfl,DQ,Hj 8 0 λi _ hi=>h i (by omega)]
theorem PV{R:List (Nat->Int)}{k:Nat}(h:k<R.length):DN R k∈R:=by
 simp [DN,List.getD_eq_getElem?_getD,List.getElem?_eq_getElem h]
theorem NZ{R:List (Nat->Int)}{k:Nat}(h:k<R.length):R.drop k=DN R k::R.drop (k+1):=by
 rw [List.drop_eq_getElem_cons h]
 simp [DN,List.getD_eq_getElem?_getD,List.getElem?_eq_getElem h]
theorem Pr{x y X Y:Int}(h1:-X<=x)(h2:x<=X)(h3:-Y<=y)(h4:y<=Y):-(X*Y)<=x*y/\x*y<=X*Y:=by
 have hX:0<=X:=by omega
 have hY:0<=Y:=by omega
 have:(x*y).natAbs<=(X*Y).natAbs:=by
  rw [Int.natAbs_mul,Int.natAbs_mul]
  exact Nat.mul_le_mul (by omega) (by omega)
 have:=Int.mul_nonneg hX hY
 omega
theorem Ux{r a b:Nat->Int}(hr:In8 r (-1000) 1000)(ha:In8 a (-1000000) 1000000)(hb:In8 b (-1000000) 1000000):In8 (λi=>r i*(a i-b i)) (-2000000000) 2000000000:=λi hi=>by
 have h1:=hr i hi
 have h2:=ha i hi
 have h3:=hb i hi
 have:=Pr (x:=r i) (y:=a i-b i) (X:=1000) (Y:=2000000) (by omega) (by omega) (by omega) (by omega)
 exact ⟨by simpa using this.1,by simpa using this.2⟩
theorem RM(v:Value)(R:List (Nat->Int))(a b:Nat->Int)(w:World)(h:RowsAt .i64 30 w v R)(hR:∀r∈R,In8 r (-1000) 1000)(ha:In8 a (-1000000) 1000000)(hb:In8 b (-1000000) 1000000) :
  Calls Tryz.prog 43 #[v,.agg #[.int .i64 (a 0),.int .i64 (a 1),.int .i64 (a 2),.int .i64 (a 3),.int .i64 (a 4),.int .i64 (a 5),.int .i64 (a 6),.int .i64 (a 7)],.agg #[.int .i64 (b 0),.int .i64 (b 1),.int .i64 (b 2),.int .i64 (b 3),.int .i64 (b 4),.int .i64 (b 5),.int .i64 (b 6),.int .i64 (b 7)]] w λe w'=>e = .returned (.int .i64 (DB R a b))/\Ext w w':=by
 obtain ⟨A,c,rfl,hc,hm,hx⟩:=h.open_
 clear h
 replace hx:=Aa hx
 replace hR:=Aa hR
 replace ha:=Aa ha
 replace hb:=Aa hb
 have hq:=λW=>Dt a b W
 cases he:LH a b with
 | true=>
  rw [he] at hq
  go_enter Tryz.func43,Tryz.ntmps43
  go_wp2
  go_ret
  refine ⟨?_,((Ext.refl _).alloc _).alloc _⟩
  rw [Pq (CF.1 he)]
  rfl
 | false=>
  rw [he] at hq
  have hA:Hid (Blk ((w.alloc (.cells #[.int .i64 (a 0),.int .i64 (a 1),.int .i64 (a 2),.int .i64 (a 3),.int .i64 (a 4),.int .i64 (a 5),.int .i64 (a 6),.int .i64 (a 7)] 31)).alloc (.cells #[.int .i64 (b 0),.int .i64 (b 1),.int .i64 (b 2),.int .i64 (b 3),.int .i64 (b 4),.int .i64 (b 5),.int .i64 (b 6),.int .i64 (b 7)] 31)) w.heap.size 31 (c8 a)):=(Blk.new _ _ _).alloc _
  have hB:Hid (Blk ((w.alloc (.cells #[.int .i64 (a 0),.int .i64 (a 1),.int .i64 (a 2),.int .i64 (a 3),.int .i64 (a 4),.int .i64 (a 5),.int .i64 (a 6),.int .i64 (a 7)] 31)).alloc (.cells #[.int .i64 (b 0),.int .i64 (b 1),.int .i64 (b 2),.int .i64 (b 3),.int .i64 (b 4),.int .i64 (b 5),.int .i64 (b 6),.int .i64 (b 7)] 31)) (w.heap.size+1) 31 (c8 b)):=AW _ _ (by simp)
  have hE:Hid (Ext w ((w.alloc (.cells #[.int .i64 (a 0),.int .i64 (a 1),.int .i64 (a 2),.int .i64 (a 3),.int .i64 (a 4),.int .i64 (a 5),.int .i64 (a 6),.int .i64 (a 7)] 31)).alloc (.cells #[.int .i64 (b 0),.int .i64 (b 1),.int .i64 (b 2),.int .i64 (b 3),.int .i64 (b 4),.int .i64 (b 5),.int .i64 (b 6),.int .i64 (b 7)] 31))):=((Ext.refl _).alloc _).alloc _
  go_enter Tryz.func43,Tryz.ntmps43
  go_wp2
  generalize ((w.alloc (.cells #[.int .i64 (a 0),.int .i64 (a 1),.int .i64 (a 2),.int .i64 (a 3),.int .i64 (a 4),.int .i64 (a 5),.int .i64 (a 6),.int .i64 (a 7)] 31)).alloc (.cells #[.int .i64 (b 0),.int .i64 (b 1),.int .i64 (b 2),.int .i64 (b 3),.int .i64 (b 4),.int .i64 (b 5),.int .i64 (b 6),.int .i64 (b 7)] 31))=w1 at *
  go_loopw [17] (λi wr=>∃k:Nat,k<=R.length/\i = .int .i64 k/\Hid (Dj R a b=Dj (R.drop k) a b/\Blk wr w.heap.size 31 (c8 a)/\Blk wr (w.heap.size+1) 31 (c8 b)/\Ext w wr)) (λi _=>R.length-(intOf i).toNat)
  case atStart=>exact ⟨0,by omega,rfl,rfl,hA.out,hB.out,hE.out⟩
  case round=>
   obtain ⟨k,hk,rfl,hI⟩:=hrel
   by_cases hlt:k<R.length
   .obtain ⟨g, o, rfl, hgl, hcl⟩:=hx.out (by omega)
    replace hcl:=Aa λj (hj:j<8)=>(hI.out.2.2.2.cell (p:=⟨g,o+k*8+j,none⟩) hgl).trans (hcl k j hlt hj)
    have hrb:Hid (In8 (DN R k) (-1000) 1000):=hR.out _ (PV hlt)
    have hdr:Hid (Dj (R.drop k) a b=if DF (DN R k) a b 8<0 then -1 else if 0<DF (DN R k) a b 8 then 1 else Dj (R.drop (k+1)) a b):=by rw [NZ hlt];rfl
    generalize DN R k=r at *
    have r0:(wr).cell? ⟨g,o+k*8,none⟩=some (.int .i64 (r 0)):=hcl.out 0 (by omega)
    have r1:(wr).cell? ⟨g,o+k*8+1,none⟩=some (.int .i64 (r 1)):=hcl.out 1 (by omega)
    have r2:(wr).cell? ⟨g,o+k*8+2,none⟩=some (.int .i64 (r 2)):=hcl.out 2 (by omega)
    have r3:(wr).cell? ⟨g,o+k*8+3,none⟩=some (.int .i64 (r 3)):=hcl.out 3 (by omega)
    have r4:(wr).cell? ⟨g,o+k*8+4,none⟩=some (.int .i64 (r 4)):=hcl.out 4 (by omega)
    have r5:(wr).cell? ⟨g,o+k*8+5,none⟩=some (.int .i64 (r 5)):=hcl.out 5 (by omega)
    have r6:(wr).cell? ⟨g,o+k*8+6,none⟩=some (.int .i64 (r 6)):=hcl.out 6 (by omega)
    have r7:(wr).cell? ⟨g,o+k*8+7,none⟩=some (.int .i64 (r 7)):=hcl.out 7 (by omega)
    have hA1:Hid (Blk (wr.alloc (.cells #[.int .i64 (r 0),.int .i64 (r 1),.int .i64 (r 2),.int .i64 (r 3),.int .i64 (r 4),.int .i64 (r 5),.int .i64 (r 6),.int .i64 (r 7)] 30)) w.heap.size 31 (c8 a)):=hI.out.2.1.alloc _
    have hB1:Hid (Blk (wr.alloc (.cells #[.int .i64 (r 0),.int .i64 (r 1),.int .i64 (r 2),.int .i64 (r 3),.int .i64 (r 4),.int .i64 (r 5),.int .i64 (r 6),.int .i64 (r 7)] 30)) (w.heap.size+1) 31 (c8 b)):=hI.out.2.2.1.alloc _
    have hE1:Hid (Ext w (wr.alloc (.cells #[.int .i64 (r 0),.int .i64 (r 1),.int .i64 (r 2),.int .i64 (r 3),.int .i64 (r 4),.int .i64 (r 5),.int .i64 (r 6),.int .i64 (r 7)] 30))):=hI.out.2.2.2.alloc _
    replace hI:=Aa hI.out.1
    have hdb:=Aa (FH (Ux hrb.out ha.out hb.out))
    go_wp2
    generalize (wr.alloc (.cells #[.int .i64 (r 0),.int .i64 (r 1),.int .i64 (r 2),.int .i64 (r 3),.int .i64 (r 4),.int .i64 (r 5),.int .i64 (r 6),.int .i64 (r 7)] 30))=w2 at *
    clear r0 r1 r2 r3 r4 r5 r6 r7 hcl
    go_loopw [9,22] (λs i wr=>∃j:Nat,j<=8/\i = .int .i64 j/\s = .int .i64 (DF r a b j)/\Hid (Blk wr w.heap.size 31 (c8 a)/\Blk wr (w.heap.size+1) 31 (c8 b)/\Ext w wr)) (λ_ i _=>8-(intOf i).toNat)
    case atStart=>exact ⟨0,by omega,rfl,rfl,hA1.out,hB1.out,hE1.out⟩
    case round=>
     obtain ⟨j,hj,rfl,rfl,hJ⟩:=hrel
     by_cases hj8:j<8
     .have hix:=λW=>JO r j hj8 W
      have xa:=hJ.out.1.at8 hj8
      have xb:=hJ.out.2.1.at8 hj8
      have b1:=ha.out j hj8
      have b2:=hb.out j hj8
      have b3:=hrb.out j hj8
      have b4:=hdb.out j hj
      have b5:=hdb.out (j+1) hj8
      have hst:Hid (DF r a b (j+1)=DF r a b j+r j*(a j-b j)):=rfl
      have b6:=Pr (x:=r j) (y:=a j-b j) (X:=1000) (Y:=2000000) (by omega) (by omega) (by omega) (by omega)
      change _<=DF r a b j/\DF r a b j<=_ at b4
      clear b5
      generalize DF r a b j=s at *
      generalize a j=x at *
      generalize b j=y at *
      generalize r j=z at *
      simp only [Int.reduceMul] at b6
      go_wp2
      go_quiet (fail)
      go_wp2
      exact ⟨⟨j+1,hj8,by simp,by rw [hst.out],hJ.out.1,hJ.out.2.1,hJ.out.2.2.drewN _⟩,by simp [intOf];omega⟩
     .obtain rfl:j=8:=by omega
      have b4:=hdb.out 8 (by omega)
      change _<=DF r a b 8/\DF r a b 8<=_ at b4
      generalize DF r a b 8=s at *
      have hdr':=hdr.out
      by_cases h1:s<0
      .rw [if_pos h1] at hdr'
       replace hdr':=Aa hdr'
       clear hdr
       go_wp2
       go_ret
       exact ⟨by rw [DB,hI.out,hdr'.out];rfl,hJ.out.2.2⟩
      .rw [if_neg h1] at hdr'
       by_cases h2:0<s
       .rw [if_pos h2] at hdr'
        replace hdr':=Aa hdr'
        clear hdr
        go_wp2
        go_ret
        exact ⟨by rw [DB,hI.out,hdr'.out];rfl,hJ.out.2.2⟩
       .rw [if_neg h2] at hdr'
        replace hdr':=Aa hdr'
        clear hdr
        go_wp2
        exact ⟨⟨k+1,hlt,by simp,by rw [hI.out,hdr'.out],hJ.out.1,hJ.out.2.1,hJ.out.2.2⟩,by simp [intOf];omega⟩
   .obtain rfl:k=R.length:=by omega
    have a0:(wr).cell? ⟨w.heap.size,0,none⟩=some (.int .i64 (a 0)):=(hI.out.2.1).cell 0
    have a1:(wr).cell? ⟨w.heap.size,1,none⟩=some (.int .i64 (a 1)):=(hI.out.2.1).cell 1
    have a2:(wr).cell? ⟨w.heap.size,2,none⟩=some (.int .i64 (a 2)):=(hI.out.2.1).cell 2
    have a3:(wr).cell? ⟨w.heap.size,3,none⟩=some (.int .i64 (a 3)):=(hI.out.2.1).cell 3
    have a4:(wr).cell? ⟨w.heap.size,4,none⟩=some (.int .i64 (a 4)):=(hI.out.2.1).cell 4
    have a5:(wr).cell? ⟨w.heap.size,5,none⟩=some (.int .i64 (a 5)):=(hI.out.2.1).cell 5
    have a6:(wr).cell? ⟨w.heap.size,6,none⟩=some (.int .i64 (a 6)):=(hI.out.2.1).cell 6
    have a7:(wr).cell? ⟨w.heap.size,7,none⟩=some (.int .i64 (a 7)):=(hI.out.2.1).cell 7
    have b0:(wr).cell? ⟨w.heap.size+1,0,none⟩=some (.int .i64 (b 0)):=(hI.out.2.2.1).cell 0
    have b1:(wr).cell? ⟨w.heap.size+1,1,none⟩=some (.int .i64 (b 1)):=(hI.out.2.2.1).cell 1
    have b2:(wr).cell? ⟨w.heap.size+1,2,none⟩=some (.int .i64 (b 2)):=(hI.out.2.2.1).cell 2
    have b3:(wr).cell? ⟨w.heap.size+1,3,none⟩=some (.int .i64 (b 3)):=(hI.out.2.2.1).cell 3
    have b4:(wr).cell? ⟨w.heap.size+1,4,none⟩=some (.int .i64 (b 4)):=(hI.out.2.2.1).cell 4
    have b5:(wr).cell? ⟨w.heap.size+1,5,none⟩=some (.int .i64 (b 5)):=(hI.out.2.2.1).cell 5
    have b6:(wr).cell? ⟨w.heap.size+1,6,none⟩=some (.int .i64 (b 6)):=(hI.out.2.2.1).cell 6
    have b7:(wr).cell? ⟨w.heap.size+1,7,none⟩=some (.int .i64 (b 7)):=(hI.out.2.2.1).cell 7
    have hz:Hid (Dj R a b=0):=by have:=hI.out.1;rw [List.drop_length] at this;exact this
    go_wp2_with fail
    refine (Mj a b _).mono ?_
    rintro e w2 ⟨rfl,hE2⟩
    go_wp2
    go_ret
    exact ⟨by rw [DB,hz.out];rfl,hI.out.2.2.2.trans hE2⟩
theorem MA{a b:Nat->Int}(h:∀i,i<8->a i=b i):c8 a=c8 b:=by
 simp only [c8,h 0 (by omega),h 1 (by omega),h 2 (by omega),h 3 (by omega),h 4 (by omega),h 5 (by omega),h 6 (by omega),h 7 (by omega)]
theorem Blk.set8'{w:World}{g:Nat}{t:TypeId}{a a':Nat->Int}(h:Blk w g t (c8 a)){k:Nat}(hk:k<8)(v:Int)(h1:a' k=v)(h2:∀i,i<8->i≠k->a' i=a i):Blk (w.setCell ⟨g,k,none⟩ (.int .i64 v)) g t (c8 a'):=by
 rw [show c8 a'=c8 (λi=>if i=k then v else a i) from MA λi hi=>by
  by_cases e:i=k
  .rw [if_pos e,e,h1]
  .rw [if_neg e,h2 i hi e]]
 exact h.set8 hk v
def put8(w:World)(b:Nat)(a:Nat->Int):World:=(((((((w.setCell ⟨b,0,none⟩ (.int .i64 (a 0))).setCell ⟨b,1,none⟩ (.int .i64 (a 1))).setCell ⟨b,2,none⟩ (.int .i64 (a 2))).setCell ⟨b,3,none⟩ (.int .i64 (a 3))).setCell ⟨b,4,none⟩ (.int .i64 (a 4))).setCell ⟨b,5,none⟩ (.int .i64 (a 5))).setCell ⟨b,6,none⟩ (.int .i64 (a 6))).setCell ⟨b,7,none⟩ (.int .i64 (a 7))
theorem Ext.put8{w w1:World}(h:Ext w w1){b:Nat}(hb:w.heap.size<=b)(a:Nat->Int):Ext w (put8 w1 b a):=
 (((((((h.set (p:=⟨b,0,none⟩) hb _).set (p:=⟨b,1,none⟩) hb _).set (p:=⟨b,2,none⟩) hb _).set (p:=⟨b,3,none⟩) hb _).set (p:=⟨b,4,none⟩) hb _).set (p:=⟨b,5,none⟩) hb _).set (p:=⟨b,6,none⟩) hb _).set (p:=⟨b,7,none⟩) hb _
def EW(m:Nat)(i:Nat):Int:=(m >>> i%2:Nat)
def rl(R:List (Nat->Int)):List Value:=R.flatMap λa=>(c8 a).toList
theorem KT(a:Nat->Int)(R:List (Nat->Int)):rl (a::R)=(c8 a).toList++rl R:=rfl
theorem Eq:∀R:List (Nat->Int),(rl R).length=R.length*8
 | []=>rfl
 | a::R=>by rw [KT,List.length_append,Eq R];simp [c8];omega
theorem NB(a:Nat->Int)(R:List (Nat->Int))(k:Nat):DN (a::R) (k+1)=DN R k:=by simp [DN]
theorem NC:∀(R:List (Nat->Int)) (k j:Nat),k<R.length->j<8->(rl R)[k*8+j]? = some (.int .i64 (DN R k j))
 | [],k,j,h,_=>by simp at h
 | a::R,0,j,_,hj=>by
  rw [KT,List.getElem?_append_left (by simp [c8];omega),Nat.zero_mul,Nat.zero_add,Array.getElem?_toList,Sa a j hj]
  rfl
 | a::R,k+1,j,hk,hj=>by
  rw [KT,List.getElem?_append_right (by simp [c8];omega),NB,<-NC R k j (by simpa using hk) hj]
  congr 1
  simp [c8]
  omega
def OwnRows(t:TypeId)(base:Nat)(w:World)(v:Value)(R:List (Nat->Int)):Prop:=w.ownsRow base t 8 v R.length (rl R)
theorem OwnRows.rows{t:TypeId}{base:Nat}{w:World}{v:Value}{R:List (Nat->Int)}(h:OwnRows t base w v R):RowsAt .i64 t w v R:=by
 obtain ⟨h1,h2⟩:=h
 rcases h2 with ⟨rfl,h0⟩ | ⟨g,cap,cur,rfl,_,hg,hc,hm,hsz,ht⟩
 .exact ⟨none,0,by rw [h0],by omega,by omega,λhp=>by omega⟩
 .refine ⟨_, cap, rfl, hc, by simpa [maxLen] using hm, λ_=>⟨g, 0, cur, (0, 0), rfl, hg, λk j hk hj=>?_⟩⟩
  have e1:(cur.toList.take (R.length*8))[k*8+j]? = (rl R)[k*8+j]?:=by rw [ht]
  rw [List.getElem?_take,if_pos (by omega),NC R k j hk hj] at e1
  rw [Nat.zero_add]
  simpa using e1
theorem OwnRows.blk{t:TypeId}{base g:Nat}{w:World}{R:List (Nat->Int)}{c:Nat}(hg:base<=g)(hb:Blk w g t (rl R).toArray)(hc:c=R.length)(hm:R.length<=1000000000000):OwnRows t base w (.slice (some ⟨g,0,none⟩) R.length c) R:=by
 subst hc
 exact ⟨Eq R,.inr ⟨g,_,_,rfl,hg,hb,Nat.le_refl _,by simp only [maxLen];omega,by simp [Eq],by rw [List.toList_toArray,List.take_of_length_le (by rw [Eq];omega)]⟩⟩
def MK(R:List (Nat->Int))(w:World)(e:Ending)(w':World):Prop:=
 ∃(A:Option Addr) (c:Nat),e = .returned (.slice A R.length c)/\OwnRows 30 w.heap.size w' (.slice A R.length c) R/\Ext w w'
theorem Ext.grown'{a w w':World}{row:Option Nat}(h:Ext a w)(hg:w.grownBy w' row)(hr:∀k,row=some k->a.heap.size<=k):Ext a w':=Below.grown h hg h.size hr
theorem Id(a:Nat->Int)(w:World)(h:In8 a 0 65535) :
  Calls Tryz.prog 25 #[.agg #[.int .i64 (a 0),.int .i64 (a 1),.int .i64 (a 2),.int .i64 (a 3),.int .i64 (a 4),.int .i64 (a 5),.int .i64 (a 6),.int .i64 (a 7)]] w λe w'=>e = .returned (.bool true)/\Ext w w':=by
 replace h:=Aa h
 go_enter Tryz.func25,Tryz.ntmps25
 go_wp2
 go_loopw [6] (λi wr=>∃k:Nat,k<=8/\i = .int .i64 k/\Hid (Ext w wr)) (λi _=>8-(intOf i).toNat)
 case atStart=>exact ⟨0,by omega,rfl,(Ext.refl _).alloc _⟩
 case round=>
  obtain ⟨k,hk,rfl,hE⟩:=hrel
  by_cases hlt:k<8
  .have hx:=λW=>Ey a k hlt W
   have hb':=h.out k hlt
   generalize a k=x at *
   have h1:decide (x<0)=false:=by simp;omega
   have h2:decide (65535<x)=false:=by simp;omega
   go_wp2
   exact ⟨⟨k+1,hlt,by simp,hE⟩,by simp [intOf];omega⟩
  .obtain rfl:k=8:=by omega
   go_wp2
   go_ret
   exact ⟨rfl,hE.out⟩
theorem KX(a:Nat->Int)(w:World)(h:¬In8 a 0 65535) :
  Calls Tryz.prog 25 #[.agg #[.int .i64 (a 0),.int .i64 (a 1),.int .i64 (a 2),.int .i64 (a 3),.int .i64 (a 4),.int .i64 (a 5),.int .i64 (a 6),.int .i64 (a 7)]] w λe w'=>e = .returned (.bool false)/\Ext w w':=by
 replace h:=Aa h
 go_enter Tryz.func25,Tryz.ntmps25
 go_wp2
 go_loopw [6] (λi wr=>∃k:Nat,k<=8/\i = .int .i64 k/\Hid (Ext w wr/\∀i,i<k->0<=a i/\a i<=65535)) (λi _=>8-(intOf i).toNat)
 case atStart=>exact ⟨0,by omega,rfl,(Ext.refl _).alloc _,λi hi=>by omega⟩
 case round=>
  obtain ⟨k,hk,rfl,hE⟩:=hrel
  by_cases hlt:k<8
  .have hx:=λW=>Ey a k hlt W
   have hs:Hid (0<=a k/\a k<=65535->∀i,i<k+1->0<=a i/\a i<=65535):=λh i hi=>by
    by_cases e:i=k
    .rw [e];exact h
    .exact hE.out.2 i (by omega)
   generalize a k=x at *
   by_cases h1:x<0
   .have h1':decide (x<0)=true:=by simpa using h1
    go_wp2
    go_ret
    exact ⟨rfl,hE.out.1⟩
   .have h1':decide (x<0)=false:=by simpa using h1
    by_cases h2:65535<x
    .have h2':decide (65535<x)=true:=by simpa using h2
     go_wp2
     go_ret
     exact ⟨rfl,hE.out.1⟩
    .have h2':decide (65535<x)=false:=by simpa using h2
     go_wp2
     exact ⟨⟨k+1,hlt,by simp,hE.out.1,hs.out ⟨by omega,by omega⟩⟩,by simp [intOf];omega⟩
  .obtain rfl:k=8:=by omega
   exact absurd hE.out.2 h.out
def Ij(a b:Nat->Int)(k i:Nat):Int:=if i<k then a i+b i else a i
def AP(a b:Nat->Int)(i:Nat):Int:=a i+b i
theorem Qg(a b:Nat->Int)(w:World)(ha:In8 a 0 65535)(hb:In8 b 0 65535)(h:In8 (AP a b) 0 65535) :
  Calls Tryz.prog 36 #[.agg #[.int .i64 (a 0),.int .i64 (a 1),.int .i64 (a 2),.int .i64 (a 3),.int .i64 (a 4),.int .i64 (a 5),.int .i64 (a 6),.int .i64 (a 7)],.agg #[.int .i64 (b 0),.int .i64 (b 1),.int .i64 (b 2),.int .i64 (b 3),.int .i64 (b 4),.int .i64 (b 5),.int .i64 (b 6),.int .i64 (b 7)]] w λe w'=>e = .returned (.tuple #[.agg #[.int .i64 (AP a b 0),.int .i64 (AP a b 1),.int .i64 (AP a b 2),.int .i64 (AP a b 3),.int .i64 (AP a b 4),.int .i64 (AP a b 5),.int .i64 (AP a b 6),.int .i64 (AP a b 7)],.int .i64 0])/\Ext w w':=by
 replace h:=Aa h
 replace ha:=Aa ha
 replace hb:=Aa hb
 go_enter Tryz.func36,Tryz.ntmps36
 go_wp2
 go_loopw [7] (λi wr=>∃k:Nat,k<=8/\i = .int .i64 k/\Hid (Blk wr w.heap.size 31 (c8 (Ij a b k))/\Blk wr (w.heap.size+1) 31 (c8 b)/\Blk wr (w.heap.size+2) 31 (c8 (λ_=>0))/\Ext w wr)) (λi _=>8-(intOf i).toNat)
 case atStart=>exact ⟨0,by omega,rfl,((Blk.new _ _ _).alloc _).alloc _,(AW _ _ (by simp)).alloc _,AW _ _ (by simp),(((Ext.refl _).alloc _).alloc _).alloc _⟩
 case round=>
  obtain ⟨k,hk,rfl,hI⟩:=hrel
  by_cases hlt:k<8
  .have hx:wr.cell? ⟨w.heap.size,k,none⟩=some (.int .i64 (a k)):=by
    rw [hI.out.1.at8 hlt];simp [Ij]
   have hz:=hI.out.1.frozen k
   have hy:=hI.out.2.1.at8 hlt
   have b1:=ha.out k hlt
   have b2:=hb.out k hlt
   have hn:Hid (Blk (wr.setCell ⟨w.heap.size,k,none⟩ (.int .i64 (a k+b k))) w.heap.size 31 (c8 (Ij a b (k+1)))):=by
    refine hI.out.1.set8' hlt _ (by simp [Ij]) λi hi hne=>?_
    by_cases h1:i<k
    .simp [Ij,h1,show i<k+1 by omega]
    .simp [Ij,h1,show ¬i<k+1 by omega]
   generalize a k=x at *
   generalize b k=y at *
   go_wp2
   go_region
   go_wp2
   exact ⟨⟨k+1,hlt,by simp,hn.out.drew,(hI.out.2.1.far (by dsimp only;omega) _).drew,(hI.out.2.2.1.far (by dsimp only;omega) _).drew,(hI.out.2.2.2.set (p:=⟨w.heap.size,k,none⟩) (Nat.le_refl _) _).drew⟩,by simp [intOf];omega⟩
  .obtain rfl:k=8:=by omega
   have hf:Blk wr w.heap.size 31 (c8 (AP a b)):=by
    rw [<-MA (a:=Ij a b 8) λi hi=>by simp [Ij,AP,hi]];exact hI.out.1
   have x0:(wr).cell? ⟨w.heap.size,0,none⟩=some (.int .i64 (AP a b 0)):=(hf).cell 0
   have x1:(wr).cell? ⟨w.heap.size,1,none⟩=some (.int .i64 (AP a b 1)):=(hf).cell 1
   have x2:(wr).cell? ⟨w.heap.size,2,none⟩=some (.int .i64 (AP a b 2)):=(hf).cell 2
   have x3:(wr).cell? ⟨w.heap.size,3,none⟩=some (.int .i64 (AP a b 3)):=(hf).cell 3
   have x4:(wr).cell? ⟨w.heap.size,4,none⟩=some (.int .i64 (AP a b 4)):=(hf).cell 4
   have x5:(wr).cell? ⟨w.heap.size,5,none⟩=some (.int .i64 (AP a b 5)):=(hf).cell 5
   have x6:(wr).cell? ⟨w.heap.size,6,none⟩=some (.int .i64 (AP a b 6)):=(hf).cell 6
   have x7:(wr).cell? ⟨w.heap.size,7,none⟩=some (.int .i64 (AP a b 7)):=(hf).cell 7
   go_wp2_with fail
   refine (Id _ _ h.out).mono ?_
   rintro e w1 ⟨rfl,hE1⟩
   have hf1:=hf.ext hE1
   have hd:=hI.out.2.2.1.ext hE1
   clear x0 x1 x2 x3 x4 x5 x6 x7
   have x0:(w1).cell? ⟨w.heap.size,0,none⟩=some (.int .i64 (AP a b 0)):=(hf1).cell 0
   have x1:(w1).cell? ⟨w.heap.size,1,none⟩=some (.int .i64 (AP a b 1)):=(hf1).cell 1
   have x2:(w1).cell? ⟨w.heap.size,2,none⟩=some (.int .i64 (AP a b 2)):=(hf1).cell 2
   have x3:(w1).cell? ⟨w.heap.size,3,none⟩=some (.int .i64 (AP a b 3)):=(hf1).cell 3
   have x4:(w1).cell? ⟨w.heap.size,4,none⟩=some (.int .i64 (AP a b 4)):=(hf1).cell 4
   have x5:(w1).cell? ⟨w.heap.size,5,none⟩=some (.int .i64 (AP a b 5)):=(hf1).cell 5
   have x6:(w1).cell? ⟨w.heap.size,6,none⟩=some (.int .i64 (AP a b 6)):=(hf1).cell 6
   have x7:(w1).cell? ⟨w.heap.size,7,none⟩=some (.int .i64 (AP a b 7)):=(hf1).cell 7
   have y0:(w1).cell? ⟨w.heap.size+2,0,none⟩=some (.int .i64 0):=(hd).cell 0
   have y1:(w1).cell? ⟨w.heap.size+2,1,none⟩=some (.int .i64 0):=(hd).cell 1
   have y2:(w1).cell? ⟨w.heap.size+2,2,none⟩=some (.int .i64 0):=(hd).cell 2
   have y3:(w1).cell? ⟨w.heap.size+2,3,none⟩=some (.int .i64 0):=(hd).cell 3
   have y4:(w1).cell? ⟨w.heap.size+2,4,none⟩=some (.int .i64 0):=(hd).cell 4
   have y5:(w1).cell? ⟨w.heap.size+2,5,none⟩=some (.int .i64 0):=(hd).cell 5
   have y6:(w1).cell? ⟨w.heap.size+2,6,none⟩=some (.int .i64 0):=(hd).cell 6
   have y7:(w1).cell? ⟨w.heap.size+2,7,none⟩=some (.int .i64 0):=(hd).cell 7
   have z0:=(hd).frozen 0
   have z1:=(hd).frozen 1
   have z2:=(hd).frozen 2
   have z3:=(hd).frozen 3
   have z4:=(hd).frozen 4
   have z5:=(hd).frozen 5
   have z6:=(hd).frozen 6
   have z7:=(hd).frozen 7
   replace hd:=Aa hd
   replace hf1:=Aa hf1
   replace hf:=Aa hf
   go_wp2
   refine bodyPost_ret (v:=.tuple #[.agg #[.int .i64 (AP a b 0),.int .i64 (AP a b 1),.int .i64 (AP a b 2),.int .i64 (AP a b 3),.int .i64 (AP a b 4),.int .i64 (AP a b 5),.int .i64 (AP a b 6),.int .i64 (AP a b 7)],.int .i64 0]) (by simp [results,Tryz.results36,go_sem,y0,y1,y2,y3,y4,y5,y6,y7]) rfl ⟨rfl,?_⟩
   exact (hI.out.2.2.2.trans hE1).put8 (b:=w.heap.size+2) (by omega) (AP a b)
def FK(n:Nat)(f:Nat->Nat->Int):List (Nat->Int):=(List.range n).map f
theorem Do(n:Nat)(f:Nat->Nat->Int):(FK n f).length=n:=by simp [FK]
theorem KS{n:Nat}(f:Nat->Nat->Int){k:Nat}(h:k<n):DN (FK n f) k=f k:=by
 simp [DN,FK,List.getD_eq_getElem?_getD,h]
def GridAt(w:World)(g c:Nat)(t:TypeId)(n:Nat)(f:Nat->Nat->Int):Prop:=
 ∃cur:Array Value,w.heap[g]? = some (.cells cur t (0,0))/\cur.size=c*8/\n<=c/\c<=maxLen/\∀i j,i<n->j<8->cur[i*8+j]? = some (.int .i64 (f i j))
theorem Tc(n:Nat)(f:Nat->Nat->Int){q:Nat}(h:q<n*8):(rl (FK n f))[q]? = some (.int .i64 (f (q/8) (q%8))):=by
 have:=NC (FK n f) (q/8) (q%8) (by rw [Do];omega) (by omega)
 rw [show q/8*8+q%8=q by omega,KS f (show q/8<n by omega)] at this
 exact this
theorem GridAt.own{w:World}{g c:Nat}{t:TypeId}{n base:Nat}{f:Nat->Nat->Int}(h:GridAt w g c t n f)(hb:base<=g):OwnRows t base w (.slice (some ⟨g,0,none⟩) n c) (FK n f):=by
 obtain ⟨cur,k1,k2,k3,k4,k5⟩:=h
 refine ⟨by rw [Eq],.inr ⟨g,c,cur,by rw [Do],hb,k1,by rw [Do];exact k3,k4,k2,?_⟩⟩
 rw [Do]
 refine List.ext_getElem? λq=>?_
 rw [List.getElem?_take]
 by_cases hq:q<n*8
 .rw [if_pos hq,Tc n f hq,Array.getElem?_toList]
  have:=k5 (q/8) (q%8) (by omega) (by omega)
  rwa [show q/8*8+q%8=q by omega] at this
 .rw [if_neg hq,List.getElem?_eq_none (by rw [Eq,Do];omega)]
def OwnGrid(t:TypeId)(base:Nat)(w:World)(A:Option Addr)(c n:Nat)(f:Nat->Nat->Int):Prop:=
 (n=0/\OwnRows t base w (.slice A 0 c) [])\/(0<n/\∃g,A=some ⟨g,0,none⟩/\base<=g/\GridAt w g c t n f)
theorem OwnGrid.own{t:TypeId}{base:Nat}{w:World}{A:Option Addr}{c n:Nat}{f:Nat->Nat->Int}(h:OwnGrid t base w A c n f):OwnRows t base w (.slice A n c) (FK n f):=by
 rcases h with ⟨rfl,h⟩ | ⟨_,g,rfl,hb,h⟩
 .exact h
 .exact h.own hb
def GA(a b:Nat->Int)(i:Nat):Int:=a i-b i
def CK(d:Nat->Int):Nat->Nat->Int
 | _,0=>0
 | k,n+1=>if d k=0 then CK d (k+1) n else if d k<0 then -1 else 1
def DY(r d:Nat->Int):Int:=CE (λi=>r i*d i) 8
def Ej:List (Nat->Int)->(Nat->Int)->Int
 | [],d=>CK d 0 8
 | r::R,d=>if DY r d<0 then -1 else if 0<DY r d then 1 else Ej R d
theorem Gp(a b:Nat->Int):∀(n k:Nat),DV a b k n=CK (GA a b) k n
 | 0,_=>rfl
 | n+1,k=>by
  rw [DV,CK,Gp a b n (k+1)]
  have e:GA a b k=a k-b k:=rfl
  generalize GA a b k=d at *
  by_cases h:a k=b k
  .rw [if_pos h,if_pos (by omega)]
  .by_cases h1:a k<b k
   .simp only [if_neg h,if_pos h1];rw [if_neg (by omega),if_pos (by omega)]
   .simp only [if_neg h,if_neg h1];rw [if_neg (by omega),if_neg (by omega)]
theorem CN(a b:Nat->Int):∀R:List (Nat->Int),DB R a b=Ej R (GA a b)
 | []=>by rw [DB,Dj,if_pos rfl];exact Gp a b 8 0
 | r::R=>by
  have ih:=CN a b R
  unfold DB at ih ⊢
  rw [Dj,Ej,<-ih]
  show (if (if DF r a b 8<0 then _ else _)=0 then _ else _)=if DF r a b 8<0 then _ else if 0<DF r a b 8 then _ else _
  by_cases h1:DF r a b 8<0
  .simp only [if_pos h1];rw [if_neg (by omega)]
  .simp only [if_neg h1]
   by_cases h2:0<DF r a b 8
   .simp only [if_pos h2];rw [if_neg (by omega)]
   .simp only [if_neg h2]
theorem Ke(a b:Nat->Int):∀k,CE (λi=>a i+b i) k=CE a k+CE b k
 | 0=>rfl
 | k+1=>by simp only [CE,Ke a b k];omega
theorem Kc(a:Nat->Int):∀k,CE (λi=>-(a i)) k = -(CE a k)
 | 0=>rfl
 | k+1=>by simp only [CE,Kc a k];omega
theorem EN{a b:Nat->Int}:∀{k:Nat},(∀i,i<k->a i=b i)->CE a k=CE b k
 | 0,_=>rfl
 | k+1,h=>by rw [CE,CE,EN λi hi=>h i (by omega),h k (by omega)]
theorem Qr(r d e:Nat->Int):DY r (AP d e)=DY r d+DY r e:=by
 unfold DY
 rw [<-Ke]
 exact EN λi _=>by simp only [AP,Int.mul_add]
theorem Qq(r d:Nat->Int):DY r (λi=>-(d i)) = -(DY r d):=by
 unfold DY
 rw [<-Kc]
 exact EN λi _=>by rw [Int.mul_neg]
theorem Mt{r d e:Nat->Int}(h:∀i,i<8->d i=e i):DY r d=DY r e:=EN λi hi=>by rw [h i hi]
theorem HX{d e:Nat->Int}:∀(n k:Nat),(∀i,k<=i->i<k+n->d i=e i)->CK d k n=CK e k n
 | 0,_,_=>rfl
 | n+1,k,h=>by rw [CK,CK,h k (by omega) (by omega),HX n (k+1) λi h1 h2=>h i (by omega) (by omega)]
theorem EA{d e:Nat->Int}(h:∀i,i<8->d i=e i):∀R:List (Nat->Int),Ej R d=Ej R e
 | []=>HX 8 0 λi _ hi=>h i (by omega)
 | r::R=>by rw [Ej,Ej,Mt h,EA h R]
theorem Kf(d:Nat->Int):∀(n k:Nat),CK d k n = -1\/CK d k n=0\/CK d k n=1
 | 0,_=>.inr (.inl rfl)
 | n+1,k=>by
  rw [CK]
  split
  .exact Kf d n (k+1)
  .split
   .exact .inl rfl
   .exact .inr (.inr rfl)
theorem Mc(d:Nat->Int):∀R:List (Nat->Int),Ej R d = -1\/Ej R d=0\/Ej R d=1
 | []=>Kf d 8 0
 | r::R=>by
  rw [Ej]
  split
  .exact .inl rfl
  .split
   .exact .inr (.inr rfl)
   .exact Mc d R
theorem Kg(d:Nat->Int):∀(n k:Nat),CK (λi=>-(d i)) k n = -(CK d k n)
 | 0,_=>rfl
 | n+1,k=>by
  simp only [CK]
  rw [Kg d n (k+1)]
  by_cases h:d k=0
  .rw [if_pos h,if_pos (by omega)]
  .rw [if_neg h, if_neg (by omega)]
   by_cases h1:d k<0
   .rw [if_pos h1,if_neg (by omega)];rfl
   .rw [if_neg h1,if_pos (by omega)]
theorem Md(d:Nat->Int):∀R:List (Nat->Int),Ej R (λi=>-(d i)) = -(Ej R d)
 | []=>Kg d 8 0
 | r::R=>by
  simp only [Ej]
  rw [Qq,Md d R]
  by_cases h:DY r d<0
  .rw [if_pos h,if_neg (by omega),if_pos (by omega)];rfl
  .rw [if_neg h]
   by_cases h1:0<DY r d
   .rw [if_pos h1,if_pos (by omega)]
   .rw [if_neg h1,if_neg (by omega),if_neg (by omega)]
theorem IQ{d:Nat->Int}:∀(n k:Nat),CK d k n=0->∀i,k<=i->i<k+n->d i=0
 | 0,_,_,i,h1,h2=>by omega
 | n+1,k,h,i,h1,h2=>by
  rw [CK] at h
  split at h
  .rename_i h0
   by_cases e:i=k
   .rw [e];exact h0
   .exact IQ n (k+1) h i (by omega) (by omega)
  .split at h<;>omega
theorem Kn{d:Nat->Int}:∀{R:List (Nat->Int)},Ej R d=0->∀i,i<8->d i=0
 | [],h,i,hi=>IQ 8 0 h i (by omega) (by omega)
 | r::R,h,i,hi=>by
  rw [Ej] at h
  split at h
  .omega
  .split at h
   .omega
   .exact Kn h i hi
theorem Kh{d e:Nat->Int}:∀(n k:Nat),0<=CK d k n->0<=CK e k n->(0<=CK (AP d e) k n/\(0<CK d k n\/0<CK e k n->0<CK (AP d e) k n))
 | 0,_,_,_=>⟨by simp [CK],by simp [CK]⟩
 | n+1,k,h1,h2=>by
  rw [CK] at h1 h2
  simp only [CK]
  have ha:AP d e k=d k+e k:=rfl
  by_cases hd:d k=0
  .rw [if_pos hd] at h1 ⊢
   by_cases he:e k=0
   .rw [if_pos he] at h2 ⊢
    rw [if_pos (by omega)]
    exact Kh n (k+1) h1 h2
   .rw [if_neg he] at h2 ⊢
    by_cases he':e k<0
    .rw [if_pos he'] at h2;omega
    .rw [if_neg he',if_neg (by omega),if_neg (by omega)];exact ⟨by omega,λ_=>by omega⟩
  .rw [if_neg hd] at h1 ⊢
   by_cases hd':d k<0
   .rw [if_pos hd'] at h1;omega
   .by_cases he:e k=0
    .rw [if_pos he,if_neg hd',if_neg (by omega),if_neg (by omega)];exact ⟨by omega,λ_=>by omega⟩
    .rw [if_neg he] at h2 ⊢
     by_cases he':e k<0
     .rw [if_pos he'] at h2;omega
     .rw [if_neg hd',if_neg he',if_neg (by omega),if_neg (by omega)];exact ⟨by omega,λ_=>by omega⟩
theorem Me{d e:Nat->Int}:∀{R:List (Nat->Int)},0<=Ej R d->0<=Ej R e->(0<=Ej R (AP d e)/\(0<Ej R d\/0<Ej R e->0<Ej R (AP d e)))
 | [],h1,h2=>Kh 8 0 h1 h2
 | r::R,h1,h2=>by
  rw [Ej] at h1 h2
  simp only [Ej]
  rw [Qr]
  by_cases a1:DY r d<0
  .rw [if_pos a1] at h1;omega
  .by_cases b1:DY r e<0
   .rw [if_pos b1] at h2;omega
   .rw [if_neg a1] at h1 ⊢
    rw [if_neg b1] at h2 ⊢
    rw [if_neg (by omega)]
    by_cases a2:0<DY r d
    .rw [if_pos a2,if_pos (by omega)];exact ⟨by omega,λ_=>by omega⟩
    .rw [if_neg a2] at h1 ⊢
     by_cases b2:0<DY r e
     .rw [if_pos b2,if_pos (by omega)];exact ⟨by omega,λ_=>by omega⟩
     .rw [if_neg b2] at h2 ⊢
      rw [if_neg (by omega)]
      exact Me h1 h2
theorem RK(R:List (Nat->Int))(a b:Nat->Int):DB R a b = -1\/DB R a b=0\/DB R a b=1:=by
 rw [CN];exact Mc _ _
theorem RL(R:List (Nat->Int))(a b:Nat->Int):DB R b a = -(DB R a b):=by
 rw [CN,CN,<-Md]
 exact EA (λi _=>by simp only [GA];omega) R
theorem Qd{R:List (Nat->Int)}{a b:Nat->Int}:DB R a b=0↔∀i,i<8->a i=b i:=by
 constructor
 .intro h i hi
  rw [CN] at h
  have:=Kn h i hi
  simp only [GA] at this
  omega
 .intro h;exact Pq h R
theorem IZ{R:List (Nat->Int)}{a b c:Nat->Int}(h1:0<=DB R a b)(h2:0<=DB R b c):0<=DB R a c/\(0<DB R a b\/0<DB R b c->0<DB R a c):=by
 rw [CN] at h1 h2
 rw [CN a c R,CN a b R,CN b c R]
 rw [EA (d:=GA a c) (e:=AP (GA a b) (GA b c)) (λi _=>by simp only [GA,AP];omega) R]
 exact Me h1 h2
theorem NO{R:List (Nat->Int)}{a b a' b':Nat->Int}(h1:∀i,i<8->a i=a' i)(h2:∀i,i<8->b i=b' i):DB R a b=DB R a' b':=by
 rw [CN,CN]
 exact EA (λi hi=>by simp only [GA,h1 i hi,h2 i hi]) R
theorem RN(R:List (Nat->Int))(a b c:Nat->Int):DB R (AP a c) (AP b c)=DB R a b:=by
 rw [CN,CN]
 exact EA (λi _=>by simp only [GA,AP];omega) R
def Eqv(a b:Nat->Int):Prop:=∀i,i<8->a i=b i
theorem Eqv.refl(a:Nat->Int):Eqv a a:=λ_ _=>rfl
theorem Eqv.symm{a b:Nat->Int}(h:Eqv a b):Eqv b a:=λi hi=>(h i hi).symm
theorem Eqv.trans{a b c:Nat->Int}(h:Eqv a b)(k:Eqv b c):Eqv a c:=λi hi=>(h i hi).trans (k i hi)
structure Tm where
 c:Rat
 m:Nat->Int
instance:Inhabited Tm:=⟨⟨0,λ_=>0⟩⟩
def lx(a b:Nat->Int):Int:=DB [] a b
theorem Jb(a b:Nat->Int):lx a b = -1\/lx a b=0\/lx a b=1:=RK _ _ _
theorem Jc(a b:Nat->Int):lx b a = -(lx a b):=RL _ _ _
theorem Gn{a b:Nat->Int}:lx a b=0↔Eqv a b:=Qd
theorem Mk{a b a' b':Nat->Int}(h1:Eqv a a')(h2:Eqv b b'):lx a b=lx a' b':=NO h1 h2
theorem FP{a b c:Nat->Int}(h1:0<lx a b)(h2:0<lx b c):0<lx a c:=(IZ (Int.le_of_lt h1) (Int.le_of_lt h2)).2 (.inl h1)
theorem Pu(a:Nat->Int):lx a a=0:=Gn.2 (Eqv.refl a)
theorem Uu(a b c:Nat->Int):lx (AP a c) (AP b c)=lx a b:=RN _ _ _ _
theorem Eqv.add{a b a' b':Nat->Int}(h1:Eqv a a')(h2:Eqv b b'):Eqv (AP a b) (AP a' b'):=λi hi=>by simp only [AP,h1 i hi,h2 i hi]
theorem KF(a b:Nat->Int):AP a b=AP b a:=by funext i;simp only [AP];omega
def dot(f:(Nat->Int)->Rat):List Tm->Rat
 | []=>0
 | t::P=>t.c*f t.m+dot f P
def Resp(f:(Nat->Int)->Rat):Prop:=∀a b,Eqv a b->f a=f b
def Sim(P Q:List Tm):Prop:=∀f,Resp f->dot f P=dot f Q
theorem Sim.refl(P:List Tm):Sim P P:=λ_ _=>rfl
theorem Sim.symm{P Q:List Tm}(h:Sim P Q):Sim Q P:=λf hf=>(h f hf).symm
theorem Sim.trans{P Q R:List Tm}(h:Sim P Q)(k:Sim Q R):Sim P R:=λf hf=>(h f hf).trans (k f hf)
theorem Df(f:(Nat->Int)->Rat):∀P Q:List Tm,dot f (P++Q)=dot f P+dot f Q
 | [],Q=>by simp [dot,Rat.zero_add]
 | t::P,Q=>by simp only [List.cons_append,dot,Df f P Q];grind
theorem RX{f:(Nat->Int)->Rat}{P Q:List Tm}(h:P.Perm Q):dot f P=dot f Q:=by
 induction h with
 | nil=>rfl
 | cons x _ ih=>simp only [dot,ih]
 | swap x y l=>simp only [dot];grind
 | trans _ _ h1 h2=>exact h1.trans h2
theorem RW(P:List Tm):dot (λ_=>0) P=0:=by
 induction P with
 | nil=>rfl
 | cons t P ih=>simp only [dot,ih];grind
theorem TA(f g:(Nat->Int)->Rat):∀P:List Tm,dot (λa=>f a+g a) P=dot f P+dot g P
 | []=>by simp [dot,Rat.zero_add]
 | t::P=>by simp only [dot,TA f g P];grind
theorem Gs{f g:(Nat->Int)->Rat}{P:List Tm}(h:∀t∈P,f t.m=g t.m):dot f P=dot g P:=by
 induction P with
 | nil=>rfl
 | cons t P ih=>
  simp only [dot,h t (by simp),ih λu hu=>h u (by simp [hu])]
theorem Py(f:(Nat->Int)->Rat)(c:Rat)(h:(Nat->Int)->(Nat->Int)):∀P:List Tm,dot f (P.map λt=>⟨c*t.c,h t.m⟩)=c*dot (λa=>f (h a)) P
 | []=>by simp [dot,Rat.mul_zero]
 | t::P=>by simp only [List.map_cons,dot,Py f c h P];grind
def EI(P Q:List Tm):List Tm:=P.flatMap λs=>Q.map λt=>⟨s.c*t.c,AP s.m t.m⟩
theorem Js(f:(Nat->Int)->Rat):∀P Q:List Tm,dot f (EI P Q)=dot (λa=>dot (λb=>f (AP a b)) Q) P
 | [],Q=>rfl
 | s::P,Q=>by
  have ih:=Js f P Q
  unfold EI at ih ⊢
  rw [List.flatMap_cons,Df,ih,Py f s.c (λb=>AP s.m b) Q]
  rfl
theorem Resp.left{f:(Nat->Int)->Rat}(h:Resp f)(a:Nat->Int):Resp λb=>f (AP a b):=λ_ _ e=>h _ _ ((Eqv.refl a).add e)
theorem Resp.dot{f:(Nat->Int)->Rat}(h:Resp f)(Q:List Tm):Resp λa=>dot (λb=>f (AP a b)) Q:=λa b e=>Gs λt _=>h _ _ (e.add (Eqv.refl t.m))
theorem Sim.mul{P P' Q Q':List Tm}(h1:Sim P P')(h2:Sim Q Q'):Sim (EI P Q) (EI P' Q'):=λf hf=>by
 rw [Js,Js,h1 _ (hf.dot Q)]
 exact Gs λt _=>h2 _ (hf.left t.m)
theorem Sim.append{P P' Q Q':List Tm}(h1:Sim P P')(h2:Sim Q Q'):Sim (P++Q) (P'++Q'):=λf hf=>by rw [Df,Df,h1 f hf,h2 f hf]
def SN(P:List Tm):Prop:=P.Pairwise λs t=>0<lx s.m t.m
def Canon(P:List Tm):Prop:=SN P/\∀t∈P,t.c≠0
def SameL:List Tm->List Tm->Prop
 | [],[]=>True
 | s::P,t::Q=>s.c=t.c/\Eqv s.m t.m/\SameL P Q
 | _,_=>False
theorem SameL.refl:∀P:List Tm,SameL P P
 | []=>trivial
 | t::P=>⟨rfl,Eqv.refl _,SameL.refl P⟩
theorem SameL.length:∀{P Q:List Tm},SameL P Q->P.length=Q.length
 | [],[],_=>rfl
 | _::_,_::_,h=>by simp [SameL.length h.2.2]
 | [],_::_,h=>h.elim
 | _::_,[],h=>h.elim
theorem SameL.sim:∀{P Q:List Tm},SameL P Q->Sim P Q
 | [],[],_=>Sim.refl _
 | _::_,_::_,h=>λf hf=>by simp only [dot];rw [h.1,hf _ _ h.2.1,SameL.sim h.2.2 f hf]
 | [],_::_,h=>h.elim
 | _::_,[],h=>h.elim
def Ui(a b:Nat->Int):Rat:=if LH a b=true then 1 else 0
theorem FU(a:Nat->Int):Resp (Ui a):=λb c e=>by
 unfold Ui
 by_cases h:LH a b=true
 .rw [if_pos h,if_pos (CF.2 (Eqv.trans (CF.1 h) e))]
 .rw [if_neg h,if_neg λh'=>h (CF.2 (Eqv.trans (CF.1 h') e.symm))]
theorem Oe{a b:Nat->Int}(h:Eqv a b):Ui a b=1:=if_pos (CF.2 h)
theorem Od{a b:Nat->Int}(h:¬Eqv a b):Ui a b=0:=if_neg λh'=>h (CF.1 h')
theorem Fu{a:Nat->Int}{P:List Tm}(h:∀t∈P,¬Eqv a t.m):dot (Ui a) P=0:=by
 rw [Gs (g:=λ_=>0) λt ht=>Od (h t ht),RW]
theorem FM{a b:Nat->Int}(h:0<lx a b):¬Eqv a b:=λe=>by rw [Gn.2 e] at h;exact absurd h (by decide)
theorem Di{t:Tm}{P:List Tm}(h:SN (t::P)):dot (Ui t.m) (t::P)=t.c:=by
 rw [dot,Oe (Eqv.refl _),Fu λu hu=>FM ((List.pairwise_cons.1 h).1 u hu)]
 grind
theorem Fw:∀{P Q:List Tm},Canon P->Canon Q->Sim P Q->SameL P Q
 | [],[],_,_,_=>trivial
 | [],t::Q,_,hQ,h=>by
  have h1:=h _ (FU t.m)
  rw [Di hQ.1] at h1
  exact absurd h1.symm (hQ.2 t (by simp))
 | s::P,[],hP,_,h=>by
  have h1:=h _ (FU s.m)
  rw [Di hP.1] at h1
  exact absurd h1 (hP.2 s (by simp))
 | s::P,t::Q,hP,hQ,h=>by
  have p1:=List.pairwise_cons.1 hP.1
  have q1:=List.pairwise_cons.1 hQ.1
  rcases Jb s.m t.m with hl | hl | hl
  .have hl':0<lx t.m s.m:=by rw [Jc, hl]; decide
   have h1:=h _ (FU t.m)
   rw [Di hQ.1,Fu λu hu=>?_] at h1
   .exact absurd h1.symm (hQ.2 t (by simp))
   .rcases List.mem_cons.1 hu with rfl | hu
    .exact FM hl'
    .exact FM (FP hl' (p1.1 u hu))
  .have he:=Gn.1 hl
   have h1:=h _ (FU s.m)
   have h2:dot (Ui s.m) (t::Q)=t.c:=by
    rw [Gs (g:=Ui t.m) λu _=>?_,Di hQ.1]
    by_cases e:Eqv s.m u.m
    .rw [Oe e,Oe (he.symm.trans e)]
    .rw [Od e,Od λe'=>e (he.trans e')]
   rw [Di hP.1,h2] at h1
   refine ⟨h1,he,Fw ⟨p1.2,λu hu=>hP.2 u (by simp [hu])⟩ ⟨q1.2,λu hu=>hQ.2 u (by simp [hu])⟩ λf hf=>?_⟩
   have h3:=h f hf
   simp only [dot] at h3
   rw [h1,hf _ _ he] at h3
   grind
  .have hl':0<lx s.m t.m:=by rw [hl]; decide
   have h1:=h _ (FU s.m)
   rw [Di hP.1,Fu λu hu=>?_] at h1
   .exact absurd h1 (hP.2 s (by simp))
   .rcases List.mem_cons.1 hu with rfl | hu
    .exact FM hl'
    .exact FM (FP hl' (q1.1 u hu))
def Dq:List Tm->List Tm->List Tm
 | [],Q=>Q
 | s::P,[]=>s::P
 | s::P,t::Q=>
  if 0<lx s.m t.m then s::Dq P (t::Q)
  else if lx s.m t.m<0 then t::Dq (s::P) Q
  else if s.c+t.c=0 then Dq P Q else ⟨s.c+t.c,s.m⟩::Dq P Q
termination_by P Q=>P.length+Q.length
theorem KW(P:List Tm):Dq P []=P:=by cases P<;>simp [Dq]
theorem EP:∀P Q:List Tm,Sim (Dq P Q) (P++Q)
 | [],Q=>by simp only [Dq,List.nil_append];exact Sim.refl _
 | s::P,[]=>by simp only [Dq,List.append_nil];exact Sim.refl _
 | s::P,t::Q=>λf hf=>by
  rw [Dq]
  by_cases h1:0<lx s.m t.m
  .rw [if_pos h1]
   have:=EP P (t::Q) f hf
   simp only [dot,List.cons_append] at this ⊢
   rw [this]
  .rw [if_neg h1]
   by_cases h2:lx s.m t.m<0
   .rw [if_pos h2]
    have:=EP (s::P) Q f hf
    simp only [dot,Df,List.cons_append] at this ⊢
    rw [this]
    grind
   .rw [if_neg h2]
    have he:Eqv s.m t.m:=Gn.1 (by rcases Jb s.m t.m with h | h | h<;>omega)
    have:=EP P Q f hf
    by_cases h3:s.c+t.c=0
    .rw [if_pos h3,this]
     simp only [dot,Df,List.cons_append]
     rw [hf _ _ he]
     have:s.c = -t.c:=by grind
     rw [this]
     grind
    .rw [if_neg h3]
     simp only [dot,Df,List.cons_append] at this ⊢
     rw [this,hf _ _ he]
     grind
termination_by P Q=>P.length+Q.length
theorem EQ:∀(P Q:List Tm) (u:Tm),u∈Dq P Q->(∃s∈P,s.m=u.m)\/∃t∈Q,t.m=u.m
 | [],Q,u,h=>by simp only [Dq] at h;exact .inr ⟨u,h,rfl⟩
 | s::P,[],u,h=>by simp only [Dq] at h;exact .inl ⟨u,h,rfl⟩
 | s::P,t::Q,u,h=>by
  rw [Dq] at h
  have up:((∃x∈P,x.m=u.m)\/∃x∈Q,x.m=u.m)->(∃x∈s::P,x.m=u.m)\/∃x∈t::Q,x.m=u.m:=λh=>by
   rcases h with ⟨x,hx,e⟩ | ⟨x,hx,e⟩
   .exact .inl ⟨x,by simp [hx],e⟩
   .exact .inr ⟨x,by simp [hx],e⟩
  split at h
  .rcases List.mem_cons.1 h with rfl | h
   .exact .inl ⟨u,by simp,rfl⟩
   .rcases EQ P (t::Q) u h with ⟨x,hx,e⟩ | h
    .exact .inl ⟨x,by simp [hx],e⟩
    .exact .inr h
  .split at h
   .rcases List.mem_cons.1 h with rfl | h
    .exact .inr ⟨u,by simp,rfl⟩
    .rcases EQ (s::P) Q u h with h | ⟨x,hx,e⟩
     .exact .inl h
     .exact .inr ⟨x,by simp [hx],e⟩
   .split at h
    .exact up (EQ P Q u h)
    .rcases List.mem_cons.1 h with rfl | h
     .exact .inl ⟨s,by simp,rfl⟩
     .exact up (EQ P Q u h)
termination_by P Q=>P.length+Q.length
theorem DO:∀{P Q:List Tm},Canon P->Canon Q->Canon (Dq P Q)
 | [],Q,_,h=>by simp only [Dq];exact h
 | s::P,[],h,_=>by simp only [Dq];exact h
 | s::P,t::Q,hP,hQ=>by
  have p1:=List.pairwise_cons.1 hP.1
  have q1:=List.pairwise_cons.1 hQ.1
  have hP':Canon P:=⟨p1.2,λu hu=>hP.2 u (by simp [hu])⟩
  have hQ':Canon Q:=⟨q1.2,λu hu=>hQ.2 u (by simp [hu])⟩
  have con:∀{x:Tm} {L:List Tm},x.c≠0->Canon L->(∀u∈L,0<lx x.m u.m)->Canon (x::L):=λhc hL hx=>⟨List.pairwise_cons.2 ⟨hx,hL.1⟩,λu hu=>by
   rcases List.mem_cons.1 hu with rfl | hu
   .exact hc
   .exact hL.2 u hu⟩
  rw [Dq]
  split
  .rename_i h1
   refine con (hP.2 s (by simp)) (DO hP' hQ) λu hu=>?_
   rcases EQ P (t::Q) u hu with ⟨x,hx,e⟩ | ⟨x,hx,e⟩
   .rw [<-e];exact p1.1 x hx
   .rw [<-e]
    rcases List.mem_cons.1 hx with rfl | hx
    .exact h1
    .exact FP h1 (q1.1 x hx)
  .split
   .rename_i h1 h2
    have h2':0<lx t.m s.m:=by rw [Jc];omega
    refine con (hQ.2 t (by simp)) (DO hP hQ') λu hu=>?_
    rcases EQ (s::P) Q u hu with ⟨x,hx,e⟩ | ⟨x,hx,e⟩
    .rw [<-e]
     rcases List.mem_cons.1 hx with rfl | hx
     .exact h2'
     .exact FP h2' (p1.1 x hx)
    .rw [<-e];exact q1.1 x hx
   .rename_i h1 h2
    have he:Eqv s.m t.m:=Gn.1 (by rcases Jb s.m t.m with h | h | h<;>omega)
    split
    .exact DO hP' hQ'
    .rename_i h3
     refine con h3 (DO hP' hQ') λu hu=>?_
     rcases EQ P Q u hu with ⟨x,hx,e⟩ | ⟨x,hx,e⟩
     .rw [<-e];exact p1.1 x hx
     .rw [<-e,Mk he (Eqv.refl _)];exact q1.1 x hx
termination_by P Q=>P.length+Q.length
theorem Fq:∀P Q:List Tm,(Dq P Q).length<=P.length+Q.length
 | [],Q=>by simp only [Dq];simp
 | s::P,[]=>by simp only [Dq];simp
 | s::P,t::Q=>by
  rw [Dq]
  have h1:=Fq P (t::Q)
  have h2:=Fq (s::P) Q
  have h3:=Fq P Q
  simp only [List.length_cons] at h1 h2 h3 ⊢
  split
  .simp only [List.length_cons];omega
  .split
   .simp only [List.length_cons];omega
   .split
    .omega
    .simp only [List.length_cons];omega
termination_by P Q=>P.length+Q.length
end Go.Proofs.YtclmdofdjbdfiaaGreat
