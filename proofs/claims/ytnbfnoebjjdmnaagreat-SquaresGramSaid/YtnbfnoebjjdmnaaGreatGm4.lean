/- Part 4 of the proof of squaresGram_holds. No condition. -/
import Derived.BigQuiet
import Derived.ChangeAlike
import Derived.ChangeKeysEq
import Derived.Deep.Cut
import Derived.Deep.CutBlock
import Derived.Deep.DeepCutAuto
import Derived.Deep.LoopGhost
import Derived.Deep.QuietTactic
import Derived.Deep.RegionHeld3
import Derived.Laws.AppendOwnNone
import Derived.RegionTactic
import Derived.WalkKit
import Derived.WalkLawsBesides
import Derived.WalkSpells
import Derived.Test.YtnbfnoebjjdmnaaGreatGm1
set_option linter.unusedSimpArgs false
set_option linter.unusedVariables false
set_option maxRecDepth 100000
set_option maxHeartbeats 800000
namespace Go.Proofs.YtnbfnoebjjdmnaaGreat
open Go.RowKit
def c8(a:Nat->Int):Array Value:=#[.int .i64 (a 0),.int .i64 (a 1),.int .i64 (a 2),.int .i64 (a 3),.int .i64 (a 4),.int .i64 (a 5),.int .i64 (a 6),.int .i64 (a 7)]
theorem Zi(a:Nat->Int)(k:Nat)(h:k<8):(c8 a)[k]? = some (.int .i64 (a k)):=by
 match k,h with
 | 0,_=>rfl
 | 1,_=>rfl
 | 2,_=>rfl
 | 3,_=>rfl
 | 4,_=>rfl
 | 5,_=>rfl
 | 6,_=>rfl
 | 7,_=>rfl
theorem lt8{k:Nat}(h:k<8):k=0\/k=1\/k=2\/k=3\/k=4\/k=5\/k=6\/k=7:=by omega
theorem LL(a:Nat->Int)(k:Nat)(h:k<8)(W:World):(Instr.index 60 (.agg #[.int .i64 (a 0),.int .i64 (a 1),.int .i64 (a 2),.int .i64 (a 3),.int .i64 (a 4),.int .i64 (a 5),.int .i64 (a 6),.int .i64 (a 7)]) (.int .i64 (k:Int))).run Tryz.prog W = .ok (.int .i64 (a k)) W:=by
 rcases lt8 h with rfl | rfl | rfl | rfl | rfl | rfl | rfl | rfl<;>kernel_rfl
theorem OR(a:Nat->Int)(k:Nat)(h:k<8)(W:World):(part 3 (c8 a) (k*Tryz.prog.cellsOf 3)).run Tryz.prog W = .ok (.int .i64 (a k)) W:=by
 rcases lt8 h with rfl | rfl | rfl | rfl | rfl | rfl | rfl | rfl<;>kernel_rfl
def Nj(a b:Nat->Int):Bool:=(List.range 8).all λi=>a i==b i
theorem CB{a b:Nat->Int}:Nj a b=true↔∀i,i<8->a i=b i:=by simp [Nj]
theorem Jk(d:Nat)(a b:Nat->Int)(W:World):∀is:List Nat,(∀i∈is,i<8)->(Op.eqItems (d+1) 3 (Tryz.prog.cellsOf 3) (c8 a) (c8 b) is).run Tryz.prog W = .ok (is.all λi=>a i==b i) W
 | [],_=>by simp [Op.eqItems]
 | i::is,h=>by
  have ih:=Jk d a b W is λj hj=>h j (by simp [hj])
  have hi:=h i (by simp)
  simp only [Op.eqItems,Sem.run_bind,OR a i hi,OR b i hi,Result.andThen_ok,run_equalIn_int W d 3 .i64 .i64 _ _ (show Tryz.prog.underlying 3=some (.int .i64) by kernel_rfl)]
  cases hc:a i==b i
  .simp [hc]
  .simp only [Bool.not_true,Bool.false_eq_true,if_false,ih,List.all_cons,hc,Bool.true_and]
theorem EJ(a b:Nat->Int)(W:World):(Op.equalIn 10000 60 (.agg #[.int .i64 (a 0),.int .i64 (a 1),.int .i64 (a 2),.int .i64 (a 3),.int .i64 (a 4),.int .i64 (a 5),.int .i64 (a 6),.int .i64 (a 7)]) (.agg #[.int .i64 (b 0),.int .i64 (b 1),.int .i64 (b 2),.int .i64 (b 3),.int .i64 (b 4),.int .i64 (b 5),.int .i64 (b 6),.int .i64 (b 7)])).run Tryz.prog W = .ok (Nj a b) W:=by
 obtain ⟨i,hi⟩:∃i,Tryz.prog.info? 3=some i:=Option.isSome_iff_exists.1 (by kernel_rfl)
 have:=run_equalIn_array (P:=Tryz.prog) W 9999 (t:=60) (e:=3) (n:=8) (c8 a) (c8 b) (by kernel_rfl) hi
 rw [Jk 9998 a b W (List.range 8) (by simp)] at this
 exact this
theorem A2s(a:Nat->Int)(k:Nat)(v:Int)(h:k<8):(c8 a).setIfInBounds k (.int .i64 v)=c8 (λi=>if i=k then v else a i):=by
 match k,h with
 | 0,_=>rfl
 | 1,_=>rfl
 | 2,_=>rfl
 | 3,_=>rfl
 | 4,_=>rfl
 | 5,_=>rfl
 | 6,_=>rfl
 | 7,_=>rfl
theorem Blk.at8{w:World}{g:Nat}{t:TypeId}{a:Nat->Int}(h:Blk w g t (c8 a)){k:Nat}(hk:k<8):w.cell? ⟨g,k,none⟩=some (.int .i64 (a k)):=by
 rw [h.cell,Zi a k hk]
theorem Blk.set8{w:World}{g:Nat}{t:TypeId}{a:Nat->Int}(h:Blk w g t (c8 a)){k:Nat}(hk:k<8)(v:Int):Blk (w.setCell ⟨g,k,none⟩ (.int .i64 v)) g t (c8 (λi=>if i=k then v else a i)):=by
 rw [<-A2s a k v hk]
 exact h.set k _
def CT(a:Nat->Int):Nat->Int
 | 0=>0
 | k+1=>CT a k+a k
def In8(a:Nat->Int)(lo hi:Int):Prop:=∀i,i<8->lo<=a i/\a i<=hi
theorem In8.mono{a:Nat->Int}{lo hi lo' hi':Int}(h:In8 a lo hi)(h1:lo'<=lo)(h2:hi<=hi'):In8 a lo' hi':=λi hi=>by have:=h i hi;omega
theorem Kq{a:Nat->Int}{lo hi:Int}(h:In8 a lo hi):∀k,k<=8->lo*k<=CT a k/\CT a k<=hi*k
 | 0,_=>by simp [CT]
 | k+1,hk=>by
  have ih:=Kq h k (by omega)
  have:=h k (by omega)
  simp only [CT,Int.natCast_add,Int.mul_add]
  omega
def EK(a b:Nat->Int):Nat->Nat->Int
 | _,0=>0
 | k,n+1=>if a k=b k then EK a b (k+1) n else if a k<b k then -1 else 1
def Fc(a b:Nat->Int):Int:=EK a b 0 8
theorem Jv{a b:Nat->Int}:∀(n k:Nat),(∀i,k<=i->i<k+n->a i=b i)->EK a b k n=0
 | 0,_,_=>rfl
 | n+1,k,h=>by
  rw [EK,if_pos (h k (by omega) (by omega))]
  exact Jv n (k+1) λi h1 h2=>h i (by omega) (by omega)
theorem YL(a b:Nat->Int)(w:World) :
  Calls Tryz.prog 110 #[.agg #[.int .i64 (a 0),.int .i64 (a 1),.int .i64 (a 2),.int .i64 (a 3),.int .i64 (a 4),.int .i64 (a 5),.int .i64 (a 6),.int .i64 (a 7)],.agg #[.int .i64 (b 0),.int .i64 (b 1),.int .i64 (b 2),.int .i64 (b 3),.int .i64 (b 4),.int .i64 (b 5),.int .i64 (b 6),.int .i64 (b 7)]] w λe w'=>e = .returned (.int .i64 (Fc a b))/\Ext w w':=by
 have hq:=λW=>EJ a b W
 cases he:Nj a b with
 | true=>
  rw [he] at hq
  go_enter Tryz.func110,Tryz.ntmps110
  go_wp2
  go_ret
  refine ⟨?_,((Ext.refl _).alloc _).alloc _⟩
  rw [Fc,Jv 8 0 λi _ h=>CB.1 he i (by omega)]
  rfl
 | false=>
  rw [he] at hq
  have hne:¬∀i,i<8->a i=b i:=λh=>by rw [CB.2 h] at he;cases he
  clear he
  replace hne:=Ac hne
  have hA:Hid (Blk ((w.alloc (.cells #[.int .i64 (a 0),.int .i64 (a 1),.int .i64 (a 2),.int .i64 (a 3),.int .i64 (a 4),.int .i64 (a 5),.int .i64 (a 6),.int .i64 (a 7)] 60)).alloc (.cells #[.int .i64 (b 0),.int .i64 (b 1),.int .i64 (b 2),.int .i64 (b 3),.int .i64 (b 4),.int .i64 (b 5),.int .i64 (b 6),.int .i64 (b 7)] 60)) w.heap.size 60 (c8 a)):=(Blk.new _ _ _).alloc _
  have hB:Hid (Blk ((w.alloc (.cells #[.int .i64 (a 0),.int .i64 (a 1),.int .i64 (a 2),.int .i64 (a 3),.int .i64 (a 4),.int .i64 (a 5),.int .i64 (a 6),.int .i64 (a 7)] 60)).alloc (.cells #[.int .i64 (b 0),.int .i64 (b 1),.int .i64 (b 2),.int .i64 (b 3),.int .i64 (b 4),.int .i64 (b 5),.int .i64 (b 6),.int .i64 (b 7)] 60)) (w.heap.size+1) 60 (c8 b)):=AW _ _ (by simp)
  have hE:Hid (Ext w ((w.alloc (.cells #[.int .i64 (a 0),.int .i64 (a 1),.int .i64 (a 2),.int .i64 (a 3),.int .i64 (a 4),.int .i64 (a 5),.int .i64 (a 6),.int .i64 (a 7)] 60)).alloc (.cells #[.int .i64 (b 0),.int .i64 (b 1),.int .i64 (b 2),.int .i64 (b 3),.int .i64 (b 4),.int .i64 (b 5),.int .i64 (b 6),.int .i64 (b 7)] 60))):=((Ext.refl _).alloc _).alloc _
  go_enter Tryz.func110,Tryz.ntmps110
  go_wp2
  generalize ((w.alloc (.cells #[.int .i64 (a 0),.int .i64 (a 1),.int .i64 (a 2),.int .i64 (a 3),.int .i64 (a 4),.int .i64 (a 5),.int .i64 (a 6),.int .i64 (a 7)] 60)).alloc (.cells #[.int .i64 (b 0),.int .i64 (b 1),.int .i64 (b 2),.int .i64 (b 3),.int .i64 (b 4),.int .i64 (b 5),.int .i64 (b 6),.int .i64 (b 7)] 60))=w1 at *
  go_loopw [5] (λi wr=>∃k:Nat,k<8/\i = .int .i64 k/\Hid ((¬∀i,k<=i->i<8->a i=b i)/\Fc a b=EK a b k (8-k)/\Blk wr w.heap.size 60 (c8 a)/\Blk wr (w.heap.size+1) 60 (c8 b)/\Ext w wr)) (λi _=>8-(intOf i).toNat)
  case atStart=>exact ⟨0,by omega,rfl,λh=>hne.out λi hi=>h i (by omega) hi,rfl,hA.out,hB.out,hE.out⟩
  case round=>
   obtain ⟨k,hk,rfl,hR⟩:=hrel
   have xa:=hR.out.2.2.1.at8 hk
   have xb:=hR.out.2.2.2.1.at8 hk
   have hs:Hid (EK a b k (8-k)=if a k=b k then EK a b (k+1) (8-(k+1)) else if a k<b k then -1 else 1):=by
    rw [show 8-k=8-(k+1)+1 by omega];rfl
   have hn:Hid (a k=b k->k+1<8/\¬∀i,k+1<=i->i<8->a i=b i):=λh=>by
    have h1:¬∀i,k+1<=i->i<8->a i=b i:=λh2=>hR.out.1 λi h3 h4=>by
     by_cases e:i=k
     .rw [e];exact h
     .exact h2 i (by omega) h4
    refine ⟨?_,h1⟩
    by_cases hk':k+1<8
    .exact hk'
    .exact absurd (λi h3 h4=>by omega) h1
   generalize a k=x at *
   generalize b k=y at *
   by_cases hxy:x=y
   .have hn':=hn.out hxy
    have hs':=hs.out
    rw [if_pos hxy] at hs'
    replace hs':=Ac (hR.out.2.1.trans hs')
    have hk1:=hn'.1
    replace hn':=Ac hn'.2
    go_wp2
    go_quiet (fail)
    go_wp2
    exact ⟨⟨k+1,hk1,by simp,hn'.out,hs'.out,hR.out.2.2.1,hR.out.2.2.2.1,hR.out.2.2.2.2.drewN _⟩,by simp [intOf];omega⟩
   .have hs':=hs.out
    rw [if_neg hxy] at hs'
    replace hs':=Ac (hR.out.2.1.trans hs')
    by_cases hlt:x<y
    .rw [if_pos hlt] at hs'
     go_wp2
     go_quiet (fail)
     go_wp2
     go_quiet (fail)
     go_wp2
     go_ret
     exact ⟨by rw [hs'.out];rfl,(hR.out.2.2.2.2.drewN _).drewN _⟩
    .rw [if_neg hlt] at hs'
     go_wp2
     go_quiet (fail)
     go_wp2
     go_quiet (fail)
     go_wp2
     go_ret
     exact ⟨by rw [hs'.out];rfl,(hR.out.2.2.2.2.drewN _).drewN _⟩
def NH(R:List (Nat->Int))(k:Nat):Nat->Int:=R.getD k (λ_=>0)
def KF(r a b:Nat->Int)(k:Nat):Int:=CT (λi=>r i*(a i-b i)) k
def FY:List (Nat->Int)->(Nat->Int)->(Nat->Int)->Int
 | [],_,_=>0
 | r::R,a,b=>if KF r a b 8<0 then -1 else if 0<KF r a b 8 then 1 else FY R a b
def FC(R:List (Nat->Int))(a b:Nat->Int):Int:=if FY R a b=0 then Fc a b else FY R a b
theorem Ly{a:Nat->Int}:∀{k:Nat},(∀i,i<k->a i=0)->CT a k=0
 | 0,_=>rfl
 | k+1,h=>by rw [CT,Ly λi hi=>h i (by omega),h k (by omega)];rfl
theorem ME{a b:Nat->Int}(h:∀i,i<8->a i=b i):∀R,FY R a b=0
 | []=>rfl
 | r::R=>by
  have:KF r a b 8=0:=Ly λi hi=>by rw [h i hi,Int.sub_self,Int.mul_zero]
  rw [FY,this,if_neg (by omega),if_neg (by omega),ME h R]
theorem A0D{a b:Nat->Int}(h:∀i,i<8->a i=b i)(R:List (Nat->Int)):FC R a b=0:=by
 rw [FC,ME h,if_pos rfl,Fc,Jv 8 0 λi _ hi=>h i (by omega)]
theorem Rm{a b:Nat->Int}(h:∀i,i<8->a i=b i):c8 a=c8 b:=by
 simp only [c8,h 0 (by omega),h 1 (by omega),h 2 (by omega),h 3 (by omega),h 4 (by omega),h 5 (by omega),h 6 (by omega),h 7 (by omega)]
theorem Blk.set8'{w:World}{g:Nat}{t:TypeId}{a a':Nat->Int}(h:Blk w g t (c8 a)){k:Nat}(hk:k<8)(v:Int)(h1:a' k=v)(h2:∀i,i<8->i≠k->a' i=a i):Blk (w.setCell ⟨g,k,none⟩ (.int .i64 v)) g t (c8 a'):=by
 rw [show c8 a'=c8 (λi=>if i=k then v else a i) from Rm λi hi=>by
  by_cases e:i=k
  .rw [if_pos e,e,h1]
  .rw [if_neg e,h2 i hi e]]
 exact h.set8 hk v
def put8(w:World)(b:Nat)(a:Nat->Int):World:=(((((((w.setCell ⟨b,0,none⟩ (.int .i64 (a 0))).setCell ⟨b,1,none⟩ (.int .i64 (a 1))).setCell ⟨b,2,none⟩ (.int .i64 (a 2))).setCell ⟨b,3,none⟩ (.int .i64 (a 3))).setCell ⟨b,4,none⟩ (.int .i64 (a 4))).setCell ⟨b,5,none⟩ (.int .i64 (a 5))).setCell ⟨b,6,none⟩ (.int .i64 (a 6))).setCell ⟨b,7,none⟩ (.int .i64 (a 7))
theorem Ext.put8{w w1:World}(h:Ext w w1){b:Nat}(hb:w.heap.size<=b)(a:Nat->Int):Ext w (put8 w1 b a):=
 (((((((h.set (p:=⟨b,0,none⟩) hb _).set (p:=⟨b,1,none⟩) hb _).set (p:=⟨b,2,none⟩) hb _).set (p:=⟨b,3,none⟩) hb _).set (p:=⟨b,4,none⟩) hb _).set (p:=⟨b,5,none⟩) hb _).set (p:=⟨b,6,none⟩) hb _).set (p:=⟨b,7,none⟩) hb _
def rl(R:List (Nat->Int)):List Value:=R.flatMap λa=>(c8 a).toList
theorem OP(a:Nat->Int)(R:List (Nat->Int)):rl (a::R)=(c8 a).toList++rl R:=rfl
theorem JT:∀R:List (Nat->Int),(rl R).length=R.length*8
 | []=>rfl
 | a::R=>by rw [OP,List.length_append,JT R];simp [c8];omega
theorem Sy(a:Nat->Int)(R:List (Nat->Int))(k:Nat):NH (a::R) (k+1)=NH R k:=by simp [NH]
theorem XX:∀(R:List (Nat->Int)) (k j:Nat),k<R.length->j<8->(rl R)[k*8+j]? = some (.int .i64 (NH R k j))
 | [],k,j,h,_=>by simp at h
 | a::R,0,j,_,hj=>by
  rw [OP,List.getElem?_append_left (by simp [c8];omega),Nat.zero_mul,Nat.zero_add,Array.getElem?_toList,Zi a j hj]
  rfl
 | a::R,k+1,j,hk,hj=>by
  rw [OP,List.getElem?_append_right (by simp [c8];omega),Sy,<-XX R k j (by simpa using hk) hj]
  congr 1
  simp [c8]
  omega
def OwnRows(t:TypeId)(base:Nat)(w:World)(v:Value)(R:List (Nat->Int)):Prop:=w.ownsRow base t 8 v R.length (rl R)
theorem OwnRows.nil(t:TypeId)(base:Nat)(w:World):OwnRows t base w (.slice none 0 0) []:=⟨rfl,.inl ⟨rfl,rfl⟩⟩
theorem Ext.grown'{a w w':World}{row:Option Nat}(h:Ext a w)(hg:w.grownBy w' row)(hr:∀k,row=some k->a.heap.size<=k):Ext a w':=Below.grown h hg h.size hr
theorem QR(a:Nat->Int)(w:World)(h:In8 a 0 65535) :
  Calls Tryz.prog 107 #[.agg #[.int .i64 (a 0),.int .i64 (a 1),.int .i64 (a 2),.int .i64 (a 3),.int .i64 (a 4),.int .i64 (a 5),.int .i64 (a 6),.int .i64 (a 7)]] w λe w'=>e = .returned (.bool true)/\Ext w w':=by
 replace h:=Ac h
 go_enter Tryz.func107,Tryz.ntmps107
 go_wp2
 go_loopw [6] (λi wr=>∃k:Nat,k<=8/\i = .int .i64 k/\Hid (Ext w wr)) (λi _=>8-(intOf i).toNat)
 case atStart=>exact ⟨0,by omega,rfl,(Ext.refl _).alloc _⟩
 case round=>
  obtain ⟨k,hk,rfl,hE⟩:=hrel
  by_cases hlt:k<8
  .have hx:=λW=>LL a k hlt W
   have hb':=h.out k hlt
   generalize a k=x at *
   have h1:decide (x<0)=false:=by simp;omega
   have h2:decide (65535<x)=false:=by simp;omega
   go_wp2
   exact ⟨⟨k+1,hlt,by simp,hE⟩,by simp [intOf];omega⟩
  .obtain rfl:k=8:=by omega
   go_wp2
   go_ret
   exact ⟨rfl,hE.out⟩
def KI(a b:Nat->Int)(k i:Nat):Int:=if i<k then a i+b i else a i
def Ba(a b:Nat->Int)(i:Nat):Int:=a i+b i
theorem NR(a b:Nat->Int)(w:World)(ha:In8 a 0 65535)(hb:In8 b 0 65535)(h:In8 (Ba a b) 0 65535) :
  Calls Tryz.prog 79 #[.agg #[.int .i64 (a 0),.int .i64 (a 1),.int .i64 (a 2),.int .i64 (a 3),.int .i64 (a 4),.int .i64 (a 5),.int .i64 (a 6),.int .i64 (a 7)],.agg #[.int .i64 (b 0),.int .i64 (b 1),.int .i64 (b 2),.int .i64 (b 3),.int .i64 (b 4),.int .i64 (b 5),.int .i64 (b 6),.int .i64 (b 7)]] w λe w'=>e = .returned (.tuple #[.agg #[.int .i64 (Ba a b 0),.int .i64 (Ba a b 1),.int .i64 (Ba a b 2),.int .i64 (Ba a b 3),.int .i64 (Ba a b 4),.int .i64 (Ba a b 5),.int .i64 (Ba a b 6),.int .i64 (Ba a b 7)],.int .i64 0])/\Ext w w':=by
 replace h:=Ac h
 replace ha:=Ac ha
 replace hb:=Ac hb
 go_enter Tryz.func79,Tryz.ntmps79
 go_wp2
 go_loopw [7] (λi wr=>∃k:Nat,k<=8/\i = .int .i64 k/\Hid (Blk wr w.heap.size 60 (c8 (KI a b k))/\Blk wr (w.heap.size+1) 60 (c8 b)/\Blk wr (w.heap.size+2) 60 (c8 (λ_=>0))/\Ext w wr)) (λi _=>8-(intOf i).toNat)
 case atStart=>exact ⟨0,by omega,rfl,((Blk.new _ _ _).alloc _).alloc _,(AW _ _ (by simp)).alloc _,AW _ _ (by simp),(((Ext.refl _).alloc _).alloc _).alloc _⟩
 case round=>
  obtain ⟨k,hk,rfl,hI⟩:=hrel
  by_cases hlt:k<8
  .have hx:wr.cell? ⟨w.heap.size,k,none⟩=some (.int .i64 (a k)):=by
    rw [hI.out.1.at8 hlt];simp [KI]
   have hz:=hI.out.1.frozen k
   have hy:=hI.out.2.1.at8 hlt
   have b1:=ha.out k hlt
   have b2:=hb.out k hlt
   have hn:Hid (Blk (wr.setCell ⟨w.heap.size,k,none⟩ (.int .i64 (a k+b k))) w.heap.size 60 (c8 (KI a b (k+1)))):=by
    refine hI.out.1.set8' hlt _ (by simp [KI]) λi hi hne=>?_
    by_cases h1:i<k
    .simp [KI,h1,show i<k+1 by omega]
    .simp [KI,h1,show ¬i<k+1 by omega]
   generalize a k=x at *
   generalize b k=y at *
   go_wp2
   go_region
   go_wp2
   exact ⟨⟨k+1,hlt,by simp,hn.out.drew,(hI.out.2.1.far (by dsimp only;omega) _).drew,(hI.out.2.2.1.far (by dsimp only;omega) _).drew,(hI.out.2.2.2.set (p:=⟨w.heap.size,k,none⟩) (Nat.le_refl _) _).drew⟩,by simp [intOf];omega⟩
  .obtain rfl:k=8:=by omega
   have hf:Blk wr w.heap.size 60 (c8 (Ba a b)):=by
    rw [<-Rm (a:=KI a b 8) λi hi=>by simp [KI,Ba,hi]];exact hI.out.1
   have x0:(wr).cell? ⟨w.heap.size,0,none⟩=some (.int .i64 (Ba a b 0)):=(hf).cell 0
   have x1:(wr).cell? ⟨w.heap.size,1,none⟩=some (.int .i64 (Ba a b 1)):=(hf).cell 1
   have x2:(wr).cell? ⟨w.heap.size,2,none⟩=some (.int .i64 (Ba a b 2)):=(hf).cell 2
   have x3:(wr).cell? ⟨w.heap.size,3,none⟩=some (.int .i64 (Ba a b 3)):=(hf).cell 3
   have x4:(wr).cell? ⟨w.heap.size,4,none⟩=some (.int .i64 (Ba a b 4)):=(hf).cell 4
   have x5:(wr).cell? ⟨w.heap.size,5,none⟩=some (.int .i64 (Ba a b 5)):=(hf).cell 5
   have x6:(wr).cell? ⟨w.heap.size,6,none⟩=some (.int .i64 (Ba a b 6)):=(hf).cell 6
   have x7:(wr).cell? ⟨w.heap.size,7,none⟩=some (.int .i64 (Ba a b 7)):=(hf).cell 7
   go_wp2_with fail
   refine (QR _ _ h.out).mono ?_
   rintro e w1 ⟨rfl,hE1⟩
   have hf1:=hf.ext hE1
   have hd:=hI.out.2.2.1.ext hE1
   clear x0 x1 x2 x3 x4 x5 x6 x7
   have x0:(w1).cell? ⟨w.heap.size,0,none⟩=some (.int .i64 (Ba a b 0)):=(hf1).cell 0
   have x1:(w1).cell? ⟨w.heap.size,1,none⟩=some (.int .i64 (Ba a b 1)):=(hf1).cell 1
   have x2:(w1).cell? ⟨w.heap.size,2,none⟩=some (.int .i64 (Ba a b 2)):=(hf1).cell 2
   have x3:(w1).cell? ⟨w.heap.size,3,none⟩=some (.int .i64 (Ba a b 3)):=(hf1).cell 3
   have x4:(w1).cell? ⟨w.heap.size,4,none⟩=some (.int .i64 (Ba a b 4)):=(hf1).cell 4
   have x5:(w1).cell? ⟨w.heap.size,5,none⟩=some (.int .i64 (Ba a b 5)):=(hf1).cell 5
   have x6:(w1).cell? ⟨w.heap.size,6,none⟩=some (.int .i64 (Ba a b 6)):=(hf1).cell 6
   have x7:(w1).cell? ⟨w.heap.size,7,none⟩=some (.int .i64 (Ba a b 7)):=(hf1).cell 7
   have y0:(w1).cell? ⟨w.heap.size+2,0,none⟩=some (.int .i64 0):=(hd).cell 0
   have y1:(w1).cell? ⟨w.heap.size+2,1,none⟩=some (.int .i64 0):=(hd).cell 1
   have y2:(w1).cell? ⟨w.heap.size+2,2,none⟩=some (.int .i64 0):=(hd).cell 2
   have y3:(w1).cell? ⟨w.heap.size+2,3,none⟩=some (.int .i64 0):=(hd).cell 3
   have y4:(w1).cell? ⟨w.heap.size+2,4,none⟩=some (.int .i64 0):=(hd).cell 4
   have y5:(w1).cell? ⟨w.heap.size+2,5,none⟩=some (.int .i64 0):=(hd).cell 5
   have y6:(w1).cell? ⟨w.heap.size+2,6,none⟩=some (.int .i64 0):=(hd).cell 6
   have y7:(w1).cell? ⟨w.heap.size+2,7,none⟩=some (.int .i64 0):=(hd).cell 7
   have z0:=(hd).frozen 0
   have z1:=(hd).frozen 1
   have z2:=(hd).frozen 2
   have z3:=(hd).frozen 3
   have z4:=(hd).frozen 4
   have z5:=(hd).frozen 5
   have z6:=(hd).frozen 6
   have z7:=(hd).frozen 7
   replace hd:=Ac hd
   replace hf1:=Ac hf1
   replace hf:=Ac hf
   go_wp2
   refine bodyPost_ret (v:=.tuple #[.agg #[.int .i64 (Ba a b 0),.int .i64 (Ba a b 1),.int .i64 (Ba a b 2),.int .i64 (Ba a b 3),.int .i64 (Ba a b 4),.int .i64 (Ba a b 5),.int .i64 (Ba a b 6),.int .i64 (Ba a b 7)],.int .i64 0]) (by simp [results,Tryz.results79,go_sem,y0,y1,y2,y3,y4,y5,y6,y7]) rfl ⟨rfl,?_⟩
   exact (hI.out.2.2.2.trans hE1).put8 (b:=w.heap.size+2) (by omega) (Ba a b)
def Hr(n:Nat)(f:Nat->Nat->Int):List (Nat->Int):=(List.range n).map f
theorem DV(n:Nat)(f:Nat->Nat->Int):(Hr n f).length=n:=by simp [Hr]
theorem OO{n:Nat}(f:Nat->Nat->Int){k:Nat}(h:k<n):NH (Hr n f) k=f k:=by
 simp [NH,Hr,List.getD_eq_getElem?_getD,h]
def GridAt(w:World)(g c:Nat)(t:TypeId)(n:Nat)(f:Nat->Nat->Int):Prop:=
 ∃cur:Array Value,w.heap[g]? = some (.cells cur t (0,0))/\cur.size=c*8/\n<=c/\c<=maxLen/\∀i j,i<n->j<8->cur[i*8+j]? = some (.int .i64 (f i j))
theorem A0o(n:Nat)(f:Nat->Nat->Int){q:Nat}(h:q<n*8):(rl (Hr n f))[q]? = some (.int .i64 (f (q/8) (q%8))):=by
 have:=XX (Hr n f) (q/8) (q%8) (by rw [DV];omega) (by omega)
 rw [show q/8*8+q%8=q by omega,OO f (show q/8<n by omega)] at this
 exact this
theorem GridAt.own{w:World}{g c:Nat}{t:TypeId}{n base:Nat}{f:Nat->Nat->Int}(h:GridAt w g c t n f)(hb:base<=g):OwnRows t base w (.slice (some ⟨g,0,none⟩) n c) (Hr n f):=by
 obtain ⟨cur,k1,k2,k3,k4,k5⟩:=h
 refine ⟨by rw [JT],.inr ⟨g,c,cur,by rw [DV],hb,k1,by rw [DV];exact k3,k4,k2,?_⟩⟩
 rw [DV]
 refine List.ext_getElem? λq=>?_
 rw [List.getElem?_take]
 by_cases hq:q<n*8
 .rw [if_pos hq,A0o n f hq,Array.getElem?_toList]
  have:=k5 (q/8) (q%8) (by omega) (by omega)
  rwa [show q/8*8+q%8=q by omega] at this
 .rw [if_neg hq,List.getElem?_eq_none (by rw [JT,DV];omega)]
def OwnGrid(t:TypeId)(base:Nat)(w:World)(A:Option Addr)(c n:Nat)(f:Nat->Nat->Int):Prop:=
 (n=0/\OwnRows t base w (.slice A 0 c) [])\/(0<n/\∃g,A=some ⟨g,0,none⟩/\base<=g/\GridAt w g c t n f)
theorem OwnGrid.own{t:TypeId}{base:Nat}{w:World}{A:Option Addr}{c n:Nat}{f:Nat->Nat->Int}(h:OwnGrid t base w A c n f):OwnRows t base w (.slice A n c) (Hr n f):=by
 rcases h with ⟨rfl,h⟩ | ⟨_,g,rfl,hb,h⟩
 .exact h
 .exact h.own hb
def Im(a b:Nat->Int)(i:Nat):Int:=a i-b i
def CX(d:Nat->Int):Nat->Nat->Int
 | _,0=>0
 | k,n+1=>if d k=0 then CX d (k+1) n else if d k<0 then -1 else 1
def EP(r d:Nat->Int):Int:=CT (λi=>r i*d i) 8
def EZ:List (Nat->Int)->(Nat->Int)->Int
 | [],d=>CX d 0 8
 | r::R,d=>if EP r d<0 then -1 else if 0<EP r d then 1 else EZ R d
theorem If(a b:Nat->Int):∀(n k:Nat),EK a b k n=CX (Im a b) k n
 | 0,_=>rfl
 | n+1,k=>by
  rw [EK,CX,If a b n (k+1)]
  have e:Im a b k=a k-b k:=rfl
  generalize Im a b k=d at *
  by_cases h:a k=b k
  .rw [if_pos h,if_pos (by omega)]
  .by_cases h1:a k<b k
   .simp only [if_neg h,if_pos h1];rw [if_neg (by omega),if_pos (by omega)]
   .simp only [if_neg h,if_neg h1];rw [if_neg (by omega),if_neg (by omega)]
theorem Da(a b:Nat->Int):∀R:List (Nat->Int),FC R a b=EZ R (Im a b)
 | []=>by rw [FC,FY,if_pos rfl];exact If a b 8 0
 | r::R=>by
  have ih:=Da a b R
  unfold FC at ih ⊢
  rw [FY,EZ,<-ih]
  show (if (if KF r a b 8<0 then _ else _)=0 then _ else _)=if KF r a b 8<0 then _ else if 0<KF r a b 8 then _ else _
  by_cases h1:KF r a b 8<0
  .simp only [if_pos h1];rw [if_neg (by omega)]
  .simp only [if_neg h1]
   by_cases h2:0<KF r a b 8
   .simp only [if_pos h2];rw [if_neg (by omega)]
   .simp only [if_neg h2]
theorem Nw(a b:Nat->Int):∀k,CT (λi=>a i+b i) k=CT a k+CT b k
 | 0=>rfl
 | k+1=>by simp only [CT,Nw a b k];omega
theorem Nv(a:Nat->Int):∀k,CT (λi=>-(a i)) k = -(CT a k)
 | 0=>rfl
 | k+1=>by simp only [CT,Nv a k];omega
theorem FU{a b:Nat->Int}:∀{k:Nat},(∀i,i<k->a i=b i)->CT a k=CT b k
 | 0,_=>rfl
 | k+1,h=>by rw [CT,CT,FU λi hi=>h i (by omega),h k (by omega)]
theorem Wl(r d e:Nat->Int):EP r (Ba d e)=EP r d+EP r e:=by
 unfold EP
 rw [<-Nw]
 exact FU λi _=>by simp only [Ba,Int.mul_add]
theorem Wk(r d:Nat->Int):EP r (λi=>-(d i)) = -(EP r d):=by
 unfold EP
 rw [<-Nv]
 exact FU λi _=>by rw [Int.mul_neg]
theorem Rf{r d e:Nat->Int}(h:∀i,i<8->d i=e i):EP r d=EP r e:=FU λi hi=>by rw [h i hi]
theorem Kt{d e:Nat->Int}:∀(n k:Nat),(∀i,k<=i->i<k+n->d i=e i)->CX d k n=CX e k n
 | 0,_,_=>rfl
 | n+1,k,h=>by rw [CX,CX,h k (by omega) (by omega),Kt n (k+1) λi h1 h2=>h i (by omega) (by omega)]
theorem FB{d e:Nat->Int}(h:∀i,i<8->d i=e i):∀R:List (Nat->Int),EZ R d=EZ R e
 | []=>Kt 8 0 λi _ hi=>h i (by omega)
 | r::R=>by rw [EZ,EZ,Rf h,FB h R]
theorem Nz(d:Nat->Int):∀(n k:Nat),CX d k n = -1\/CX d k n=0\/CX d k n=1
 | 0,_=>.inr (.inl rfl)
 | n+1,k=>by
  rw [CX]
  split
  .exact Nz d n (k+1)
  .split
   .exact .inl rfl
   .exact .inr (.inr rfl)
theorem QL(d:Nat->Int):∀R:List (Nat->Int),EZ R d = -1\/EZ R d=0\/EZ R d=1
 | []=>Nz d 8 0
 | r::R=>by
  rw [EZ]
  split
  .exact .inl rfl
  .split
   .exact .inr (.inr rfl)
   .exact QL d R
theorem NA(d:Nat->Int):∀(n k:Nat),CX (λi=>-(d i)) k n = -(CX d k n)
 | 0,_=>rfl
 | n+1,k=>by
  simp only [CX]
  rw [NA d n (k+1)]
  by_cases h:d k=0
  .rw [if_pos h,if_pos (by omega)]
  .rw [if_neg h, if_neg (by omega)]
   by_cases h1:d k<0
   .rw [if_pos h1,if_neg (by omega)];rfl
   .rw [if_neg h1,if_pos (by omega)]
theorem QM(d:Nat->Int):∀R:List (Nat->Int),EZ R (λi=>-(d i)) = -(EZ R d)
 | []=>NA d 8 0
 | r::R=>by
  simp only [EZ]
  rw [Wk,QM d R]
  by_cases h:EP r d<0
  .rw [if_pos h,if_neg (by omega),if_pos (by omega)];rfl
  .rw [if_neg h]
   by_cases h1:0<EP r d
   .rw [if_pos h1,if_pos (by omega)]
   .rw [if_neg h1,if_neg (by omega),if_neg (by omega)]
theorem LI{d:Nat->Int}:∀(n k:Nat),CX d k n=0->∀i,k<=i->i<k+n->d i=0
 | 0,_,_,i,h1,h2=>by omega
 | n+1,k,h,i,h1,h2=>by
  rw [CX] at h
  split at h
  .rename_i h0
   by_cases e:i=k
   .rw [e];exact h0
   .exact LI n (k+1) h i (by omega) (by omega)
  .split at h<;>omega
theorem NM{d:Nat->Int}:∀{R:List (Nat->Int)},EZ R d=0->∀i,i<8->d i=0
 | [],h,i,hi=>LI 8 0 h i (by omega) (by omega)
 | r::R,h,i,hi=>by
  rw [EZ] at h
  split at h
  .omega
  .split at h
   .omega
   .exact NM h i hi
theorem NB{d e:Nat->Int}:∀(n k:Nat),0<=CX d k n->0<=CX e k n->(0<=CX (Ba d e) k n/\(0<CX d k n\/0<CX e k n->0<CX (Ba d e) k n))
 | 0,_,_,_=>⟨by simp [CX],by simp [CX]⟩
 | n+1,k,h1,h2=>by
  rw [CX] at h1 h2
  simp only [CX]
  have ha:Ba d e k=d k+e k:=rfl
  by_cases hd:d k=0
  .rw [if_pos hd] at h1 ⊢
   by_cases he:e k=0
   .rw [if_pos he] at h2 ⊢
    rw [if_pos (by omega)]
    exact NB n (k+1) h1 h2
   .rw [if_neg he] at h2 ⊢
    by_cases he':e k<0
    .rw [if_pos he'] at h2;omega
    .rw [if_neg he',if_neg (by omega),if_neg (by omega)];exact ⟨by omega,λ_=>by omega⟩
  .rw [if_neg hd] at h1 ⊢
   by_cases hd':d k<0
   .rw [if_pos hd'] at h1;omega
   .by_cases he:e k=0
    .rw [if_pos he,if_neg hd',if_neg (by omega),if_neg (by omega)];exact ⟨by omega,λ_=>by omega⟩
    .rw [if_neg he] at h2 ⊢
     by_cases he':e k<0
     .rw [if_pos he'] at h2;omega
     .rw [if_neg hd',if_neg he',if_neg (by omega),if_neg (by omega)];exact ⟨by omega,λ_=>by omega⟩
theorem QN{d e:Nat->Int}:∀{R:List (Nat->Int)},0<=EZ R d->0<=EZ R e->(0<=EZ R (Ba d e)/\(0<EZ R d\/0<EZ R e->0<EZ R (Ba d e)))
 | [],h1,h2=>NB 8 0 h1 h2
 | r::R,h1,h2=>by
  rw [EZ] at h1 h2
  simp only [EZ]
  rw [Wl]
  by_cases a1:EP r d<0
  .rw [if_pos a1] at h1;omega
  .by_cases b1:EP r e<0
   .rw [if_pos b1] at h2;omega
   .rw [if_neg a1] at h1 ⊢
    rw [if_neg b1] at h2 ⊢
    rw [if_neg (by omega)]
    by_cases a2:0<EP r d
    .rw [if_pos a2,if_pos (by omega)];exact ⟨by omega,λ_=>by omega⟩
    .rw [if_neg a2] at h1 ⊢
     by_cases b2:0<EP r e
     .rw [if_pos b2,if_pos (by omega)];exact ⟨by omega,λ_=>by omega⟩
     .rw [if_neg b2] at h2 ⊢
      rw [if_neg (by omega)]
      exact QN h1 h2
theorem Yy(R:List (Nat->Int))(a b:Nat->Int):FC R a b = -1\/FC R a b=0\/FC R a b=1:=by
 rw [Da];exact QL _ _
theorem Yz(R:List (Nat->Int))(a b:Nat->Int):FC R b a = -(FC R a b):=by
 rw [Da,Da,<-QM]
 exact FB (λi _=>by simp only [Im];omega) R
theorem Vz{R:List (Nat->Int)}{a b:Nat->Int}:FC R a b=0↔∀i,i<8->a i=b i:=by
 constructor
 .intro h i hi
  rw [Da] at h
  have:=NM h i hi
  simp only [Im] at this
  omega
 .intro h;exact A0D h R
theorem LY{R:List (Nat->Int)}{a b c:Nat->Int}(h1:0<=FC R a b)(h2:0<=FC R b c):0<=FC R a c/\(0<FC R a b\/0<FC R b c->0<FC R a c):=by
 rw [Da] at h1 h2
 rw [Da a c R,Da a b R,Da b c R]
 rw [FB (d:=Im a c) (e:=Ba (Im a b) (Im b c)) (λi _=>by simp only [Im,Ba];omega) R]
 exact QN h1 h2
theorem SE{R:List (Nat->Int)}{a b a' b':Nat->Int}(h1:∀i,i<8->a i=a' i)(h2:∀i,i<8->b i=b' i):FC R a b=FC R a' b':=by
 rw [Da,Da]
 exact FB (λi hi=>by simp only [Im,h1 i hi,h2 i hi]) R
theorem YA(R:List (Nat->Int))(a b c:Nat->Int):FC R (Ba a c) (Ba b c)=FC R a b:=by
 rw [Da,Da]
 exact FB (λi _=>by simp only [Im,Ba];omega) R
def Eqv(a b:Nat->Int):Prop:=∀i,i<8->a i=b i
theorem Eqv.refl(a:Nat->Int):Eqv a a:=λ_ _=>rfl
theorem Eqv.symm{a b:Nat->Int}(h:Eqv a b):Eqv b a:=λi hi=>(h i hi).symm
theorem Eqv.trans{a b c:Nat->Int}(h:Eqv a b)(k:Eqv b c):Eqv a c:=λi hi=>(h i hi).trans (k i hi)
structure Tm where
 c:Rat
 m:Nat->Int
instance:Inhabited Tm:=⟨⟨0,λ_=>0⟩⟩
def lx(a b:Nat->Int):Int:=FC [] a b
theorem JZ(a b:Nat->Int):lx a b = -1\/lx a b=0\/lx a b=1:=Yy _ _ _
theorem Md(a b:Nat->Int):lx b a = -(lx a b):=Yz _ _ _
theorem FX{a b:Nat->Int}:lx a b=0↔Eqv a b:=Vz
theorem QT{a b a' b':Nat->Int}(h1:Eqv a a')(h2:Eqv b b'):lx a b=lx a' b':=SE h1 h2
theorem HC{a b c:Nat->Int}(h1:0<lx a b)(h2:0<lx b c):0<lx a c:=(LY (Int.le_of_lt h1) (Int.le_of_lt h2)).2 (.inl h1)
theorem Ux(a:Nat->Int):lx a a=0:=FX.2 (Eqv.refl a)
theorem A2a(a b c:Nat->Int):lx (Ba a c) (Ba b c)=lx a b:=YA _ _ _ _
theorem Og(a b:Nat->Int):Ba a b=Ba b a:=by funext i;simp only [Ba];omega
def Dl(f:(Nat->Int)->Rat):List Tm->Rat
 | []=>0
 | t::P=>t.c*f t.m+Dl f P
def IT(f:(Nat->Int)->Rat):Prop:=∀a b,Eqv a b->f a=f b
def Sim(P Q:List Tm):Prop:=∀f,IT f->Dl f P=Dl f Q
theorem Sim.refl(P:List Tm):Sim P P:=λ_ _=>rfl
theorem Sim.symm{P Q:List Tm}(h:Sim P Q):Sim Q P:=λf hf=>(h f hf).symm
theorem Sim.trans{P Q R:List Tm}(h:Sim P Q)(k:Sim Q R):Sim P R:=λf hf=>(h f hf).trans (k f hf)
theorem Dk(f:(Nat->Int)->Rat):∀P Q:List Tm,Dl f (P++Q)=Dl f P+Dl f Q
 | [],Q=>by simp [Dl,Rat.zero_add]
 | t::P,Q=>by simp only [List.cons_append,Dl,Dk f P Q];grind
theorem YX{f:(Nat->Int)->Rat}{P Q:List Tm}(h:P.Perm Q):Dl f P=Dl f Q:=by
 induction h with
 | nil=>rfl
 | cons x _ ih=>simp only [Dl,ih]
 | swap x y l=>simp only [Dl];grind
 | trans _ _ h1 h2=>exact h1.trans h2
theorem YW(P:List Tm):Dl (λ_=>0) P=0:=by
 induction P with
 | nil=>rfl
 | cons t P ih=>simp only [Dl,ih];grind
theorem A0R(f g:(Nat->Int)->Rat):∀P:List Tm,Dl (λa=>f a+g a) P=Dl f P+Dl g P
 | []=>by simp [Dl,Rat.zero_add]
 | t::P=>by simp only [Dl,A0R f g P];grind
theorem Ki{f g:(Nat->Int)->Rat}{P:List Tm}(h:∀t∈P,f t.m=g t.m):Dl f P=Dl g P:=by
 induction P with
 | nil=>rfl
 | cons t P ih=>
  simp only [Dl,h t (by simp),ih λu hu=>h u (by simp [hu])]
theorem Pm(f:(Nat->Int)->Rat)(c:Rat)(h:(Nat->Int)->(Nat->Int)):∀P:List Tm,Dl f (P.map λt=>⟨c*t.c,h t.m⟩)=c*Dl (λa=>f (h a)) P
 | []=>by simp [Dl,Rat.mul_zero]
 | t::P=>by simp only [List.map_cons,Dl,Pm f c h P];grind
def Hk(P Q:List Tm):List Tm:=P.flatMap λs=>Q.map λt=>⟨s.c*t.c,Ba s.m t.m⟩
theorem Mv(f:(Nat->Int)->Rat):∀P Q:List Tm,Dl f (Hk P Q)=Dl (λa=>Dl (λb=>f (Ba a b)) Q) P
 | [],Q=>rfl
 | s::P,Q=>by
  have ih:=Mv f P Q
  unfold Hk at ih ⊢
  rw [List.flatMap_cons,Dk,ih,Pm f s.c (λb=>Ba s.m b) Q]
  rfl
theorem Sim.append{P P' Q Q':List Tm}(h1:Sim P P')(h2:Sim Q Q'):Sim (P++Q) (P'++Q'):=λf hf=>by rw [Dk,Dk,h1 f hf,h2 f hf]
def scl(c:Rat)(P:List Tm):List Tm:=P.map λt=>⟨c*t.c,t.m⟩
theorem UD(f:(Nat->Int)->Rat)(c:Rat)(P:List Tm):Dl f (scl c P)=c*Dl f P:=Pm f c (λa=>a) P
def ZX(P:List Tm):Prop:=P.Pairwise λs t=>0<lx s.m t.m
def Canon(P:List Tm):Prop:=ZX P/\∀t∈P,t.c≠0
def SameL:List Tm->List Tm->Prop
 | [],[]=>True
 | s::P,t::Q=>s.c=t.c/\Eqv s.m t.m/\SameL P Q
 | _,_=>False
theorem SameL.refl:∀P:List Tm,SameL P P
 | []=>trivial
 | t::P=>⟨rfl,Eqv.refl _,SameL.refl P⟩
theorem SameL.length:∀{P Q:List Tm},SameL P Q->P.length=Q.length
 | [],[],_=>rfl
 | _::_,_::_,h=>by simp [SameL.length h.2.2]
 | [],_::_,h=>h.elim
 | _::_,[],h=>h.elim
theorem SameL.sim:∀{P Q:List Tm},SameL P Q->Sim P Q
 | [],[],_=>Sim.refl _
 | _::_,_::_,h=>λf hf=>by simp only [Dl];rw [h.1,hf _ _ h.2.1,SameL.sim h.2.2 f hf]
 | [],_::_,h=>h.elim
 | _::_,[],h=>h.elim
def del(a b:Nat->Int):Rat:=if Nj a b=true then 1 else 0
theorem HN(a:Nat->Int):IT (del a):=λb c e=>by
 unfold del
 by_cases h:Nj a b=true
 .rw [if_pos h,if_pos (CB.2 (Eqv.trans (CB.1 h) e))]
 .rw [if_neg h,if_neg λh'=>h (CB.2 (Eqv.trans (CB.1 h') e.symm))]
theorem SV{a b:Nat->Int}(h:Eqv a b):del a b=1:=if_pos (CB.2 h)
theorem SU{a b:Nat->Int}(h:¬Eqv a b):del a b=0:=if_neg λh'=>h (CB.1 h')
theorem GT{a:Nat->Int}{P:List Tm}(h:∀t∈P,¬Eqv a t.m):Dl (del a) P=0:=by
 rw [Ki (g:=λ_=>0) λt ht=>SU (h t ht),YW]
theorem Hv{a b:Nat->Int}(h:0<lx a b):¬Eqv a b:=λe=>by rw [FX.2 e] at h;exact absurd h (by decide)
theorem DN{t:Tm}{P:List Tm}(h:ZX (t::P)):Dl (del t.m) (t::P)=t.c:=by
 rw [Dl,SV (Eqv.refl _),GT λu hu=>Hv ((List.pairwise_cons.1 h).1 u hu)]
 grind
theorem Ff:∀{P Q:List Tm},Canon P->Canon Q->Sim P Q->SameL P Q
 | [],[],_,_,_=>trivial
 | [],t::Q,_,hQ,h=>by
  have h1:=h _ (HN t.m)
  rw [DN hQ.1] at h1
  exact absurd h1.symm (hQ.2 t (by simp))
 | s::P,[],hP,_,h=>by
  have h1:=h _ (HN s.m)
  rw [DN hP.1] at h1
  exact absurd h1 (hP.2 s (by simp))
 | s::P,t::Q,hP,hQ,h=>by
  have p1:=List.pairwise_cons.1 hP.1
  have q1:=List.pairwise_cons.1 hQ.1
  rcases JZ s.m t.m with hl | hl | hl
  .have hl':0<lx t.m s.m:=by rw [Md, hl]; decide
   have h1:=h _ (HN t.m)
   rw [DN hQ.1,GT λu hu=>?_] at h1
   .exact absurd h1.symm (hQ.2 t (by simp))
   .rcases List.mem_cons.1 hu with rfl | hu
    .exact Hv hl'
    .exact Hv (HC hl' (p1.1 u hu))
  .have he:=FX.1 hl
   have h1:=h _ (HN s.m)
   have h2:Dl (del s.m) (t::Q)=t.c:=by
    rw [Ki (g:=del t.m) λu _=>?_,DN hQ.1]
    by_cases e:Eqv s.m u.m
    .rw [SV e,SV (he.symm.trans e)]
    .rw [SU e,SU λe'=>e (he.trans e')]
   rw [DN hP.1,h2] at h1
   refine ⟨h1,he,Ff ⟨p1.2,λu hu=>hP.2 u (by simp [hu])⟩ ⟨q1.2,λu hu=>hQ.2 u (by simp [hu])⟩ λf hf=>?_⟩
   have h3:=h f hf
   simp only [Dl] at h3
   rw [h1,hf _ _ he] at h3
   grind
  .have hl':0<lx s.m t.m:=by rw [hl]; decide
   have h1:=h _ (HN s.m)
   rw [DN hP.1,GT λu hu=>?_] at h1
   .exact absurd h1 (hP.2 s (by simp))
   .rcases List.mem_cons.1 hu with rfl | hu
    .exact Hv hl'
    .exact Hv (HC hl' (q1.1 u hu))
def CV:List Tm->List Tm->List Tm
 | [],Q=>Q
 | s::P,[]=>s::P
 | s::P,t::Q=>
  if 0<lx s.m t.m then s::CV P (t::Q)
  else if lx s.m t.m<0 then t::CV (s::P) Q
  else if s.c+t.c=0 then CV P Q else ⟨s.c+t.c,s.m⟩::CV P Q
termination_by P Q=>P.length+Q.length
theorem Pc(P:List Tm):CV P []=P:=by cases P<;>simp [CV]
theorem GL:∀P Q:List Tm,Sim (CV P Q) (P++Q)
 | [],Q=>by simp only [CV,List.nil_append];exact Sim.refl _
 | s::P,[]=>by simp only [CV,List.append_nil];exact Sim.refl _
 | s::P,t::Q=>λf hf=>by
  rw [CV]
  by_cases h1:0<lx s.m t.m
  .rw [if_pos h1]
   have:=GL P (t::Q) f hf
   simp only [Dl,List.cons_append] at this ⊢
   rw [this]
  .rw [if_neg h1]
   by_cases h2:lx s.m t.m<0
   .rw [if_pos h2]
    have:=GL (s::P) Q f hf
    simp only [Dl,Dk,List.cons_append] at this ⊢
    rw [this]
    grind
   .rw [if_neg h2]
    have he:Eqv s.m t.m:=FX.1 (by rcases JZ s.m t.m with h | h | h<;>omega)
    have:=GL P Q f hf
    by_cases h3:s.c+t.c=0
    .rw [if_pos h3,this]
     simp only [Dl,Dk,List.cons_append]
     rw [hf _ _ he]
     have:s.c = -t.c:=by grind
     rw [this]
     grind
    .rw [if_neg h3]
     simp only [Dl,Dk,List.cons_append] at this ⊢
     rw [this,hf _ _ he]
     grind
termination_by P Q=>P.length+Q.length
theorem Fb:∀(P Q:List Tm) (u:Tm),u∈CV P Q->(∃s∈P,s.m=u.m)\/∃t∈Q,t.m=u.m
 | [],Q,u,h=>by simp only [CV] at h;exact .inr ⟨u,h,rfl⟩
 | s::P,[],u,h=>by simp only [CV] at h;exact .inl ⟨u,h,rfl⟩
 | s::P,t::Q,u,h=>by
  rw [CV] at h
  have up:((∃x∈P,x.m=u.m)\/∃x∈Q,x.m=u.m)->(∃x∈s::P,x.m=u.m)\/∃x∈t::Q,x.m=u.m:=λh=>by
   rcases h with ⟨x,hx,e⟩ | ⟨x,hx,e⟩
   .exact .inl ⟨x,by simp [hx],e⟩
   .exact .inr ⟨x,by simp [hx],e⟩
  split at h
  .rcases List.mem_cons.1 h with rfl | h
   .exact .inl ⟨u,by simp,rfl⟩
   .rcases Fb P (t::Q) u h with ⟨x,hx,e⟩ | h
    .exact .inl ⟨x,by simp [hx],e⟩
    .exact .inr h
  .split at h
   .rcases List.mem_cons.1 h with rfl | h
    .exact .inr ⟨u,by simp,rfl⟩
    .rcases Fb (s::P) Q u h with h | ⟨x,hx,e⟩
     .exact .inl h
     .exact .inr ⟨x,by simp [hx],e⟩
   .split at h
    .exact up (Fb P Q u h)
    .rcases List.mem_cons.1 h with rfl | h
     .exact .inl ⟨s,by simp,rfl⟩
     .exact up (Fb P Q u h)
termination_by P Q=>P.length+Q.length
theorem Ey:∀{P Q:List Tm},Canon P->Canon Q->Canon (CV P Q)
 | [],Q,_,h=>by simp only [CV];exact h
 | s::P,[],h,_=>by simp only [CV];exact h
 | s::P,t::Q,hP,hQ=>by
  have p1:=List.pairwise_cons.1 hP.1
  have q1:=List.pairwise_cons.1 hQ.1
  have hP':Canon P:=⟨p1.2,λu hu=>hP.2 u (by simp [hu])⟩
  have hQ':Canon Q:=⟨q1.2,λu hu=>hQ.2 u (by simp [hu])⟩
  have con:∀{x:Tm} {L:List Tm},x.c≠0->Canon L->(∀u∈L,0<lx x.m u.m)->Canon (x::L):=λhc hL hx=>⟨List.pairwise_cons.2 ⟨hx,hL.1⟩,λu hu=>by
   rcases List.mem_cons.1 hu with rfl | hu
   .exact hc
   .exact hL.2 u hu⟩
  rw [CV]
  split
  .rename_i h1
   refine con (hP.2 s (by simp)) (Ey hP' hQ) λu hu=>?_
   rcases Fb P (t::Q) u hu with ⟨x,hx,e⟩ | ⟨x,hx,e⟩
   .rw [<-e];exact p1.1 x hx
   .rw [<-e]
    rcases List.mem_cons.1 hx with rfl | hx
    .exact h1
    .exact HC h1 (q1.1 x hx)
  .split
   .rename_i h1 h2
    have h2':0<lx t.m s.m:=by rw [Md];omega
    refine con (hQ.2 t (by simp)) (Ey hP hQ') λu hu=>?_
    rcases Fb (s::P) Q u hu with ⟨x,hx,e⟩ | ⟨x,hx,e⟩
    .rw [<-e]
     rcases List.mem_cons.1 hx with rfl | hx
     .exact h2'
     .exact HC h2' (p1.1 x hx)
    .rw [<-e];exact q1.1 x hx
   .rename_i h1 h2
    have he:Eqv s.m t.m:=FX.1 (by rcases JZ s.m t.m with h | h | h<;>omega)
    split
    .exact Ey hP' hQ'
    .rename_i h3
     refine con h3 (Ey hP' hQ') λu hu=>?_
     rcases Fb P Q u hu with ⟨x,hx,e⟩ | ⟨x,hx,e⟩
     .rw [<-e];exact p1.1 x hx
     .rw [<-e,QT he (Eqv.refl _)];exact q1.1 x hx
termination_by P Q=>P.length+Q.length
theorem GM:∀P Q:List Tm,(CV P Q).length<=P.length+Q.length
 | [],Q=>by simp only [CV];simp
 | s::P,[]=>by simp only [CV];simp
 | s::P,t::Q=>by
  rw [CV]
  have h1:=GM P (t::Q)
  have h2:=GM (s::P) Q
  have h3:=GM P Q
  simp only [List.length_cons] at h1 h2 h3 ⊢
  split
  .simp only [List.length_cons];omega
  .split
   .simp only [List.length_cons];omega
   .split
    .omega
    .simp only [List.length_cons];omega
termination_by P Q=>P.length+Q.length
end Go.Proofs.YtnbfnoebjjdmnaaGreat
