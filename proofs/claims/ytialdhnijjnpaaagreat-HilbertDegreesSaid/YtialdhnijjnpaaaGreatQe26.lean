/- Part 26 of the proof of hilbertDegrees_holds. No condition. -/
import Derived.Test.YtialdhnijjnpaaaGreatQe21
import Derived.Test.YtialdhnijjnpaaaGreatQe24
import Derived.Test.YtialdhnijjnpaaaGreatQe25
set_option linter.unusedSimpArgs false
set_option linter.unusedVariables false
set_option maxRecDepth 100000
set_option maxHeartbeats 4000000
namespace Go.Proofs.YtialdhnijjnpaaaGreat
open Go.RowKit
def mz : Nat→Int:=fun _=>0
def ZB : Nat→Int
 | 0=>2
 | _=>0
def Wy : Nat→Int
 | 0=>1
 | 1=>1
 | _=>0
def mx : Nat→Int
 | 0=>1
 | _=>0
def my2 : Nat→Int
 | 0=>0
 | 1=>2
 | _=>0
def my : Nat→Int
 | 0=>0
 | 1=>1
 | _=>0
abbrev lA : Ae:=[ZB,Wy]
abbrev lB : Ae:=[mx,my2]
theorem j8 {p : Nat→Prop} (h0:p 0) (h1:p 1) (h2:p 2) (h3:p 3) (h4:p 4) (h5:p 5) (h6:p 6) (h7:p 7) (j:Nat) (hj:j<8):p j:=by
 have:j = 0∨j = 1∨j = 2∨j = 3∨j = 4∨j = 5∨j = 6∨j = 7:=by omega
 rcases this with rfl | rfl | rfl | rfl | rfl | rfl | rfl | rfl <;> assumption
theorem IZ : ∀ y∈lA,In8 y 0 2∧SupN 2 y∧Cs 8 0 y≤2:=fun y hy=>by
 simp only [List.mem_cons,List.not_mem_nil,or_false] at hy
 rcases hy with rfl | rfl
 ·exact ⟨j8 (by decide) (by decide) (by decide) (by decide) (by decide) (by decide) (by decide) (by decide),j8 (by decide) (by decide) (by decide) (by decide) (by decide) (by decide) (by decide) (by decide),by decide⟩
 ·exact ⟨j8 (by decide) (by decide) (by decide) (by decide) (by decide) (by decide) (by decide) (by decide),j8 (by decide) (by decide) (by decide) (by decide) (by decide) (by decide) (by decide) (by decide),by decide⟩
theorem On : ∀ y∈lB,In8 y 0 2∧SupN 2 y∧Cs 8 0 y≤2:=fun y hy=>by
 simp only [List.mem_cons,List.not_mem_nil,or_false] at hy
 rcases hy with rfl | rfl
 ·exact ⟨j8 (by decide) (by decide) (by decide) (by decide) (by decide) (by decide) (by decide) (by decide),j8 (by decide) (by decide) (by decide) (by decide) (by decide) (by decide) (by decide) (by decide),by decide⟩
 ·exact ⟨j8 (by decide) (by decide) (by decide) (by decide) (by decide) (by decide) (by decide) (by decide),j8 (by decide) (by decide) (by decide) (by decide) (by decide) (by decide) (by decide) (by decide),by decide⟩
theorem In8.big {y : Nat→Int} {a b:Int} (h:In8 y 0 a) (hab:a≤b):In8 y 0 b:=fun j hj=>by
 have:=h j hj
 omega
theorem A0J : ∃ N f,HilC lA 2 N f:=Jx 2 2 2 lA (by decide) (by decide) (by decide) (by decide) (fun y hy=>(IZ y hy).1.big (by decide)) (fun y hy=>(IZ y hy).2.1) (fun y hy=>(IZ y hy).2.2) (by decide)
theorem A0I : ∃ N f,HilC lB 2 N f:=Jx 2 2 2 lB (by decide) (by decide) (by decide) (by decide) (fun y hy=>(On y hy).1.big (by decide)) (fun y hy=>(On y hy).2.1) (fun y hy=>(On y hy).2.2) (by decide)
theorem SB (q : Nat→Int):IsMin [q] [q]:=⟨List.pairwise_singleton _ _,fun x=>⟨fun h=>⟨h,fun y hy hd=>by
 rw [List.mem_singleton.1 hy] at hd ⊢
 obtain ⟨a,ha,e⟩:=h
 rwa [List.mem_singleton.1 ha] at e⟩,fun h=>h.1⟩⟩
theorem SC : IsMin [] []:=⟨List.Pairwise.nil,fun x=>⟨fun ⟨a,ha,_⟩=>(by cases ha),fun ⟨⟨a,ha,_⟩,_⟩=>(by cases ha)⟩⟩
def fA : Nat→Int
 | 0=>1
 | 2=>-2
 | 3=>1
 | _=>0
theorem Rn (a : Nat→Int) (N:Nat) (h8:SupN 8 a) (hN:Cs 8 0 a+1≤N):NumL [a] (HM (fun d=>dlt d - Et (Cs 8 0 a) dlt d) N) fun d=>dlt d - Et (Cs 8 0 a) dlt d :=
 NumL.cons NumL.nil NumL.nil SC (fun y hy=>by cases hy) h8 N (by omega) (.inl hN)
theorem VZ {n : Nat} {a:Nat→Int} (h:SupN n a):SupN 8 a:=fun j hj=>⟨(h j hj).1,fun h=>by omega⟩
theorem A0G : ∃ F:Nat→Int,NumL lA 4 F∧∀ i,i<4→F i = fA i:=by
 have h1:=Rn Wy 3 (VZ (IZ Wy (by simp)).2.1) (by decide)
 have h2:=Rn (qM Wy ZB) 2 (fun j hj=>⟨XO Wy ZB (fun j hj=>((IZ Wy (by simp)).2.1 j hj).1) j hj,fun h=>by omega⟩) (by decide)
 have h3:=NumL.cons (rest:=[Wy]) (R:=[qM Wy ZB]) (a:=ZB) h1 h2 (SB _) (fun y hy=>by rw [List.mem_singleton.1 hy];exact VZ (IZ Wy (by simp)).2.1) (VZ (IZ ZB (by simp)).2.1) 4 (by decide) (.inl (by decide))
 refine ⟨_,h3,fun i hi=>?_⟩
 have:i = 0∨i = 1∨i = 2∨i = 3:=by omega
 rcases this with rfl | rfl | rfl | rfl <;> decide
theorem Abs.le_ {P : Program} {f:FuncId} {ds:List D} {r r':D} (h:Abs P f ds r) (hr:D.le r r'):Abs P f ds r' :=
 ⟨h.1,fun s vs h1 h2 h3=>(h.2 s vs h1 h2 h3).mono fun e w' ⟨v,he,s',hw,hl,hv⟩=>⟨v,he,s',hw,hl,hr s' v hv⟩⟩
theorem dmA : Fa lA 2 = 1:=by decide +kernel
theorem dmB : Fa lB 2 = 0:=by decide +kernel
theorem mxA : Yx lA (2 ^ 2) = [2]:=by decide +kernel
theorem A0E : (Abs Tryz.prog 14 [BT lA,ex (.int .i64 2)] (DV [nD 4 fA,ex (.int .i64 0)]))∧(Abs Tryz.prog 22 [BT lA,ex (.int .i64 2)] (DV [ex (.int .i64 1),ex (.int .i64 0)]))∧(Abs Tryz.prog 24 [BT lA,ex (.int .i64 2)] (DV [ex (.int .i64 1),ex (.int .i64 0)]))∧(∃ F:Nat→Rat,F 0 = ((1:Int):Rat)∧Abs Tryz.prog 26 [BT lA,ex (.int .i64 2)] (DV [DU 1 F,ex (.int .i64 0)]))∧(Abs Tryz.prog 16 [BT lA,ex (.int .i64 2),ex (.int .i64 3)] (DV [ex (.int .i64 1),ex (.int .i64 0)]))∧(Abs Tryz.prog 18 [BT lA,ex (.int .i64 2)] (DV [Sd [2],ex (.int .i64 0)]))∧(Abs Tryz.prog 28 [BT lA,ex (.int .i64 2)] (DV [ex (.slice none 0 0),ex (.int .i64 160)])):=by
 obtain ⟨N,f,hc⟩:=A0J
 obtain ⟨F,hF,hFv⟩:=A0G
 have h8:∀ a∈lA,SupN 8 a:=fun a ha=>VZ (IZ a ha).2.1
 obtain ⟨rfl,rfl⟩:=hc.num.inj hF h8
 have e0:f = fun i=>fA i:=funext fun i=>by
  by_cases hi:i<4
  ·exact hFv i hi
  ·rw [hF.far i (by omega)]
   match i,hi with
   | i+4,_=>rfl
 have e0:f = fA:=e0
 subst e0
 have d1:Fa lA 2 = ((1:Nat):Int):=dmA
 have hq:=hc.qb 1 d1
 have hcc:=hc.cc 1 d1
 have hcd:=hc.cd
 rw [dmA] at hcd
 have hcg:=hc.cg
 have eg:PV lA 2 4 fA = 1:=by
  unfold PV
  rw [dmA]
  decide +kernel
 rw [eg] at hcg
 refine ⟨To lA 2 4 fA hc.ck hc.cn,IS lA 2 1 hc.ck hcd,KV lA 2 1 hc.ck hcg,?_,?_,?_,Mf lA 2 1 (by decide) hc.ck hcd⟩
 ·have hp := Tk lA 2 1 (cN 4 fA (2 - 1)).1 (Cj (2 - 1) fA) (by decide) (by decide) (by decide) hq hc.ck hcd hcc
  have e1:(pH (Cj (2 - 1) fA) 1 (cN 4 fA (2 - 1)).1).1 = 1:=by decide +kernel
  rw [e1] at hp
  exact ⟨_,by decide +kernel,hp⟩
 ·have hp := Ts lA 2 3 4 fA 4096 (by decide) (by decide) hc.ck hc.cn hc.num.far (fun t _ => hc.bnd t) (by decide)
  have e1:Cj 2 fA 3 = 1:=by decide +kernel
  rw [e1] at hp
  exact hp
 ·have hp := Tq lA 2 (by decide) (by decide) hc.ck
  rw [mxA] at hp
  exact hp
theorem A0C : IsStd lB 2 [mz,my]:=by
 refine ⟨?_,fun x=>⟨fun ⟨a,ha,e⟩=>?_,fun hx=>?_⟩⟩
 ·rw [List.pairwise_cons]
  refine ⟨fun b hb=>?_,List.pairwise_singleton _ _⟩
  rw [List.mem_singleton.1 hb]
  decide +kernel
 ·simp only [List.mem_cons,List.not_mem_nil,or_false] at ha
  have key:StdX lB 2 a:=by
   rcases ha with rfl | rfl
   ·exact ⟨j8 (by decide) (by decide) (by decide) (by decide) (by decide) (by decide) (by decide) (by decide),by decide +kernel⟩
   ·exact ⟨j8 (by decide) (by decide) (by decide) (by decide) (by decide) (by decide) (by decide) (by decide),by decide +kernel⟩
  exact key.congr e
 ·have h1:¬ Dv mx x:=fun hd=>by
   have:=(CN (l:=lB)).2 ⟨mx,List.mem_cons_self,hd⟩
   rw [hx.2] at this
   cases this
  have h2:¬ Dv my2 x:=fun hd=>by
   have:=(CN (l:=lB)).2 ⟨my2,List.mem_cons_of_mem _ List.mem_cons_self,hd⟩
   rw [hx.2] at this
   cases this
  have hn:∀ j,j<8→0≤x j:=fun j hj=>(hx.1 j hj).1
  have hz:∀ j,j<8→2≤j→x j = 0:=fun j hj h=>(hx.1 j hj).2 h
  have h0:x 0 = 0:=by
   refine Classical.byContradiction fun hne=>h1 fun j hj=>?_
   by_cases e:j = 0
   ·subst e
    have:=hn 0 (by omega)
    show (1:Int)≤x 0
    omega
   ·have:mx j = 0:=by
     match j,e with
     | j+1,_=>rfl
    rw [this]
    exact hn j hj
  have h3:x 1<2:=by
   refine Classical.byContradiction fun hne=>h2 fun j hj=>?_
   by_cases e:j = 1
   ·subst e
    show (2:Int)≤x 1
    omega
   ·have:my2 j = 0:=by
     match j,e with
     | 0,_=>rfl
     | j+2,_=>rfl
    rw [this]
    exact hn j hj
  have h4:=hn 1 (by omega)
  by_cases h5:x 1 = 0
  ·exact ⟨mz, by simp, fun j hj => by
    show 0 = x j
    by_cases e:2≤j
    ·exact (hz j hj e).symm
    ·have : j = 0 ∨ j = 1 := by omega
     rcases this with rfl | rfl <;> omega⟩
  ·refine ⟨my, by simp, fun j hj => ?_⟩
   match j,hj with
   | 0,_=>exact h0.symm
   | 1,_=>show (1:Int) = x 1;omega
   | j+2,hj=>exact (hz (j+2) hj (by omega)).symm
theorem A0D : Abs Tryz.prog 28 [BT lB,ex (.int .i64 2)] (DV [BT [mz,my],ex (.int .i64 0)]):=by
 obtain ⟨N,f,hc⟩:=A0I
 have h:=OX (E:=1) hc (by decide) (by decide) (fun y hy=>(On y hy).2.1) (fun a ha j hj=>((On a ha).1 j hj).2) (by decide) (by rw [dmB];decide) (by decide)
 exact h.le_ (Cv (fun s v ⟨S,hS,hv⟩=>by rw [← hS.same A0C];exact hv) (D.le.refl _))
theorem Hr : Abs Tryz.prog 11 [] (ex (.bool true)):=by
 obtain ⟨c1,c2,c3,⟨F,hF,c4⟩,c5,c6,c8⟩:=A0E
 have c7:=A0D
 have cq:Abs Tryz.prog 41 [BX (CF (F 0)),BX (CF q1)] (ex (.bool true)):=by
  have:=Qk (F 0) q1
  rwa [decide_eq_true hF] at this
 refine Ab Tryz.func11 fun s0=>?_
 rw [Tryz.ntmps11]
 refine Y1<|Wa<|Y0<|Y1 ?_;(refine CM rfl rfl ?_;(refine Em (Aa rfl) (Aa rfl) rfl rfl ?_;(repeat ((first | refine ⟨_,Bp (ao rfl),?_⟩ | refine ⟨_,Po rfl,?_⟩);refine ⟨_,rfl,?_⟩));refine ⟨_,rfl,?_⟩));(refine CM rfl rfl ?_;(refine Em (Aa rfl) (Aa rfl) rfl rfl ?_;(repeat ((first | refine ⟨_,Bp (ao rfl),?_⟩ | refine ⟨_,Po rfl,?_⟩);refine ⟨_,rfl,?_⟩));refine ⟨_,rfl,?_⟩));(refine CM rfl rfl ?_;(refine DD (Aa rfl) (Aa rfl) rfl rfl rfl rfl rfl ?_;(repeat ((first | refine ⟨_,Bp (ao rfl),?_⟩ | refine ⟨_,Po rfl,?_⟩);refine ⟨_,rfl,?_⟩));refine ⟨_,rfl,?_⟩));refine Wa<|Y0<|Y1<|Wm ?_;refine Wq (Ak (c1)) ?_;refine Wm ?_;refine Wq AW ?_;refine Wq AW ?_;refine Wa<|Wa<|Y0<|Y1<|Wm ?_;refine Wq (Ak (c2)) ?_;refine Wm ?_;refine Wq AW ?_;refine Wq AW ?_;refine Wa<|Wa<|Y0<|Y1<|Wm ?_;refine Wq (Ak (c3)) ?_;refine Wm ?_;refine Wq AW ?_;refine Wq AW ?_;refine Wa<|Wa<|Y0<|Y1<|Wm ?_;refine Wq (Ak (c4)) ?_;refine Wm ?_;refine Wq AW ?_;refine Wq AW ?_;refine Wa<|Wa<|Y0<|Y1<|Wm ?_;refine Wq (Ak (c5)) ?_;refine Wm ?_;refine Wq AW ?_;refine Wq AW ?_;refine Wa<|Wa<|Y0<|Y1<|Wm ?_;refine Wq (Ak (c6)) ?_;refine Wm ?_;refine Wq AW ?_;refine Wq AW ?_;refine Wa<|Wa<|Y0<|Y1 ?_;(refine CM rfl rfl ?_;(refine Em (Aa rfl) (Aa rfl) rfl rfl ?_;(repeat ((first | refine ⟨_,Bp (ao rfl),?_⟩ | refine ⟨_,Po rfl,?_⟩);refine ⟨_,rfl,?_⟩));refine ⟨_,rfl,?_⟩));(refine CM rfl rfl ?_;(refine Em (Aa rfl) (Aa rfl) rfl rfl ?_;(repeat ((first | refine ⟨_,Bp (ao rfl),?_⟩ | refine ⟨_,Po rfl,?_⟩);refine ⟨_,rfl,?_⟩));refine ⟨_,rfl,?_⟩));(refine CM rfl rfl ?_;(refine DD (Aa rfl) (Aa rfl) rfl rfl rfl rfl rfl ?_;(repeat ((first | refine ⟨_,Bp (ao rfl),?_⟩ | refine ⟨_,Po rfl,?_⟩);refine ⟨_,rfl,?_⟩));refine ⟨_,rfl,?_⟩));refine Wq (Ak (c7)) ?_;refine Wm ?_;refine Wq AW ?_;refine Wq AW ?_;refine Wa<|Wa<|Y0<|Y1<|Wm ?_;refine Wq (Ak (c8)) ?_;refine Wm ?_;refine Wq AW ?_;refine Wq AW ?_;refine Wa<|Wa<|Y0<|Y1<|Wm ?_;refine Wq Am ?_;refine Wm ?_;refine Wg Af ?_;refine Wg Am ?_;refine Wq AN ?_;refine Wm ?_;refine Wg Af ?_;refine Wg Am ?_;refine Wq AN ?_;refine Wm ?_;refine Wg Af ?_;refine Wg Am ?_;refine Wq AN ?_;refine Wm ?_;refine Wg Af ?_;refine Wg Am ?_;refine Wq AN ?_;refine Wm ?_;refine Wg Af ?_;refine Wg Am ?_;refine Wq AN ?_;refine Wm ?_;refine Wg Af ?_;refine Wg Am ?_;refine Wq AN ?_;refine Wm ?_;refine Wg Af ?_;refine Wg Am ?_;refine Wq AN ?_;refine Wa<|Y0<|Ac ?_
 refine Dr [[],[(94,0)],[],[],[(96,2),(97,3)],[(95,1),(98,4)],[(99,5)],[],[(101,7)],[(100,6),(102,8)],[(103,9)],[],[(105,11)],[(104,10),(106,12)],[(107,13)],[],[(109,15)],[(110,16)],[(108,14),(111,17)],[(112,18)],[],[(114,20)],[(115,21)],[],[(116,22),(117,23)],[(113,19),(118,24)],[(119,25)],[],[(121,27)],[(120,26),(122,28)],[(123,29)],[],[],[(125,31),(126,32)],[(124,30),(127,33)],[(128,34)],[],[],[],[(131,37),(132,38)],[(130,36),(133,39)],[(129,35),(134,40)]] [[],[0],[0,1],[0,1],[0,1,2,3],[0,1,2,3,4],[0,1,2,3,4,5],[0,1,2,3,4,5,6],[0,1,2,3,4,5,6,7],[0,1,2,3,4,5,6,7,8],[0,1,2,3,4,5,6,7,8,9],[0,1,2,3,4,5,6,7,8,9,10],[0,1,2,3,4,5,6,7,8,9,10,11],[0,1,2,3,4,5,6,7,8,9,10,11,12],[0,1,2,3,4,5,6,7,8,9,10,11,12,13],[0,1,2,3,4,5,6,7,8,9,10,11,12,13,14],[0,1,2,3,4,5,6,7,8,9,10,11,12,13,14,15],[0,1,2,3,4,5,6,7,8,9,10,11,12,13,14,15,16],[0,1,2,3,4,5,6,7,8,9,10,11,12,13,14,15,16,17],[0,1,2,3,4,5,6,7,8,9,10,11,12,13,14,15,16,17,18],[0,1,2,3,4,5,6,7,8,9,10,11,12,13,14,15,16,17,18,19],[0,1,2,3,4,5,6,7,8,9,10,11,12,13,14,15,16,17,18,19,20],[0,1,2,3,4,5,6,7,8,9,10,11,12,13,14,15,16,17,18,19,20,21],[0,1,2,3,4,5,6,7,8,9,10,11,12,13,14,15,16,17,18,19],[0,1,2,3,4,5,6,7,8,9,10,11,12,13,14,15,16,17,18,19,20,21,22,23],[0,1,2,3,4,5,6,7,8,9,10,11,12,13,14,15,16,17,18,19,20,21,22,23,24],[0,1,2,3,4,5,6,7,8,9,10,11,12,13,14,15,16,17,18,19,20,21,22,23,24,25],[0,1,2,3,4,5,6,7,8,9,10,11,12,13,14,15,16,17,18,19,20,21,22,23,24,25,26],[0,1,2,3,4,5,6,7,8,9,10,11,12,13,14,15,16,17,18,19,20,21,22,23,24,25,26,27],[0,1,2,3,4,5,6,7,8,9,10,11,12,13,14,15,16,17,18,19,20,21,22,23,24,25,26,27,28],[0,1,2,3,4,5,6,7,8,9,10,11,12,13,14,15,16,17,18,19,20,21,22,23,24,25,26,27,28,29],[0,1,2,3,4,5,6,7,8,9,10,11,12,13,14,15,16,17,18,19,20,21,22,23,24,25,26,27,28,29,30],[0,1,2,3,4,5,6,7,8,9,10,11,12,13,14,15,16,17,18,19,20,21,22,23,24,25,26,27,28,29,30],[0,1,2,3,4,5,6,7,8,9,10,11,12,13,14,15,16,17,18,19,20,21,22,23,24,25,26,27,28,29,30,31,32],[0,1,2,3,4,5,6,7,8,9,10,11,12,13,14,15,16,17,18,19,20,21,22,23,24,25,26,27,28,29,30,31,32,33],[0,1,2,3,4,5,6,7,8,9,10,11,12,13,14,15,16,17,18,19,20,21,22,23,24,25,26,27,28,29,30,31,32,33,34],[0,1,2,3,4,5,6,7,8,9,10,11,12,13,14,15,16,17,18,19,20,21,22,23,24,25,26,27,28,29,30,31,32,33,34,35],[0,1,2,3,4,5,6,7,8,9,10,11,12,13,14,15,16,17,18,19,20,21,22,23,24,25,26,27,28,29,30,31,32,33,34,35],[0,1,2,3,4,5,6,7,8,9,10,11,12,13,14,15,16,17,18,19,20,21,22,23,24,25,26,27,28,29,30,31,32,33,34,35],[0,1,2,3,4,5,6,7,8,9,10,11,12,13,14,15,16,17,18,19,20,21,22,23,24,25,26,27,28,29,30,31,32,33,34,35,37,38],[0,1,2,3,4,5,6,7,8,9,10,11,12,13,14,15,16,17,18,19,20,21,22,23,24,25,26,27,28,29,30,31,32,33,34,35,36,37,38,39],[0,1,2,3,4,5,6,7,8,9,10,11,12,13,14,15,16,17,18,19,20,21,22,23,24,25,26,27,28,29,30,31,32,33,34,35,36,37,38,39,40]] ?_
 refine Xq Af ?_;refine Xq Af ?_;refine Xg Af ?_;(refine HqG rfl rfl ?_;refine DD (Aa rfl) (Aa rfl) rfl rfl rfl rfl rfl ?_;(repeat ((first | refine ⟨_,Bp (ah rfl),?_⟩ | refine ⟨_,Po rfl,?_⟩);refine ⟨_,rfl,?_⟩));refine ⟨_,rfl,?_⟩;refine ⟨_,rfl,?_⟩);refine Xg (Ak (Xd 4 fA (by decide))) ?_;refine Xq AN ?_;refine Xq Af ?_;refine Xg Af ?_;refine Xg Am ?_;refine Xq AN ?_;refine Xq Af ?_;refine Xg Af ?_;refine Xg Am ?_;refine Xq AN ?_;refine Xq Af ?_;refine Xg Af ?_;(refine ⟨_,Iv rfl rfl (DG (F:=CL F) rfl (Aa rfl)),?_⟩;refine ⟨_,rfl,?_⟩);refine Xg Am ?_;refine Xq AN ?_;refine Xq Af ?_;refine Xg Af ?_;(refine ⟨_,Iv rfl rfl (Nn (F:=CL F) (k:=0) rfl (ah rfl) (Aa rfl) (Aa rfl) rfl (by decide)),?_⟩;refine ⟨_,rfl,?_⟩);refine Xg Bw ?_;refine Xg (Ak (Qi 1 (by omega) (by omega))) ?_;refine Xg (Ak (cq)) ?_;refine Xq AN ?_;refine Xq Af ?_;refine Xg Af ?_;refine Xg Am ?_;refine Xq AN ?_;refine Xq Af ?_;refine Xg Af ?_;(refine HqG rfl rfl ?_;refine DD (Aa rfl) (Aa rfl) rfl rfl rfl rfl rfl ?_;(repeat ((first | refine ⟨_,Bp (ah rfl),?_⟩ | refine ⟨_,Po rfl,?_⟩);refine ⟨_,rfl,?_⟩));refine ⟨_,rfl,?_⟩;refine ⟨_,rfl,?_⟩);refine Xg (Ak (Xc [2])) ?_;refine Xq AN ?_;refine Xq Af ?_;refine Xg Af ?_;(refine HqG rfl rfl ?_;refine Em (Aa rfl) (Aa rfl) rfl rfl ?_;(repeat ((first | refine ⟨_,Bp (ah rfl),?_⟩ | refine ⟨_,Po rfl,?_⟩);refine ⟨_,rfl,?_⟩));refine ⟨_,rfl,?_⟩;refine ⟨_,rfl,?_⟩);(refine HqG rfl rfl ?_;refine Em (Aa rfl) (Aa rfl) rfl rfl ?_;(repeat ((first | refine ⟨_,Bp (ah rfl),?_⟩ | refine ⟨_,Po rfl,?_⟩);refine ⟨_,rfl,?_⟩));refine ⟨_,rfl,?_⟩;refine ⟨_,rfl,?_⟩);(refine HqG rfl rfl ?_;refine DD (Aa rfl) (Aa rfl) rfl rfl rfl rfl rfl ?_;(repeat ((first | refine ⟨_,Bp (ah rfl),?_⟩ | refine ⟨_,Po rfl,?_⟩);refine ⟨_,rfl,?_⟩));refine ⟨_,rfl,?_⟩;refine ⟨_,rfl,?_⟩);refine Xg (Ak (Xe [mz,my] (by decide))) ?_;refine Xq AN ?_;refine ⟨_,rfl,?_⟩
 refine Wa<|Y0 ?_;apply Aw
 exact Yf
theorem DF {P : Program} {hp:List Ow} {arg:Operand→AV} {dd:Option Tmp} {ty:TypeId} {ps:String} {af:Array Edge} {gd:Option (Nat × Bool)} {T U:TypeId} {x y:Operand} {k:IntKind} {a b:Nat} (hx:arg x = .d (ex (.int k (a:Nat)))) (hy:arg y = .d (ex (.int k (b:Nat)))) (hb:0<b):Quiet P hp ⟨dd,.binOp .rem T x y U,ty,ps,af,gd⟩ arg (.d (ex (.int k ((a % b:Nat):Int)))):=by
 have:=YU (dd:=dd) (T:=T) (U:=U) (ty:=ty) (ps:=ps) (af:=af) (gd:=gd) (hp:=hp) (P:=P) hx hy (by omega) (by omega)
 rwa [← Int.natCast_emod] at this
def Mz (k : Nat) (e:Int):Nat→Int:=Hq (fun _=>0) k e
theorem Gw (k : Nat) (e:Int) (j:Nat):Mz k e j = if j = k then e else 0:=rfl
theorem Ui {F : Nat→Int} {n:Nat} (h:Cj n F = fun _=>0):F = fun _=>0:=Fi (h.trans (Id n).symm)
theorem Ser.uniq {F : Nat→Int} {D D' c c':Int} (h:Ser F D c) (h':Ser F D' c'):D = D'∧c = c':=by
 have none:∀ {p:Nat→Int} {n B:Nat} {c:Int},FS p B c→0<c→Cj n p = (fun _=>0)→False:=fun {p n B c} hp hc h=>by
  have e:=Ui h
  have:=hp.2
  rw [e,Cn fun _ _=>rfl] at this
  omega
 have lt:∀ {n m B B':Nat} {p q:Nat→Int} {c c':Int},n<m→FS p B c→FS q B' c'→0<c'→Cj n p = Cj m q→False:=fun {n m B B' p q c c'} hlt hp hq hc' e=>by
  obtain ⟨r,rfl⟩:∃ r,m = n+r:=⟨m - n,by omega⟩
  rw [EO] at e
  have e2:p = Cj r q:=Fi e
  have e3:q = YH r p:=Fi (n:=r) (by rw [Jq,e2])
  have h1:=hp.dzn r
  rw [if_neg (by omega),← e3] at h1
  have h2:=h1.sum_eq (M:=B') hq.1
  rw [hq.2] at h2
  omega
 rcases h with ⟨h1,h2,h3⟩ | ⟨n,p,B,h1,h2,h3,h4⟩
 ·rcases h' with ⟨g1,g2,g3⟩ | ⟨m,q,B',g1,g2,g3,g4⟩
  ·exact ⟨by omega,by omega⟩
  ·exact (none g2 g3 (g4.symm.trans h3)).elim
 ·rcases h' with ⟨g1,g2,g3⟩ | ⟨m,q,B',g1,g2,g3,g4⟩
  ·exact (none h2 h3 (h4.symm.trans g3)).elim
  ·rcases Nat.lt_trichotomy n m with hlt | rfl | hlt
   ·exact (lt hlt h2 g2 g3 (h4.symm.trans g4)).elim
   ·have e:p = q:=Fi (h4.symm.trans g4)
    subst e
    have:=h2.sum_eq (M:=B') g2.1
    rw [g2.2] at this
    exact ⟨by omega,by omega⟩
   ·exact (lt hlt g2 h2 h3 (g4.symm.trans h4)).elim
theorem TH (p : Nat→Int) (c d:Nat):pS (Et c p) d - pS (Et (c+1) p) d = Et c p d:=by
 rw [Uj,Uj]
 unfold Et
 by_cases h1:c≤d
 ·rw [if_pos h1,if_pos h1]
  by_cases h2:c+1≤d
  ·rw [if_pos h2]
   obtain ⟨r,rfl⟩:∃ r,d = c+1+r:=⟨d - (c+1),by omega⟩
   rw [show c+1+r - c = r+1 by omega,show c+1+r - (c+1) = r by omega,GO]
   omega
  ·rw [if_neg h2]
   obtain rfl:d = c:=by omega
   rw [Nat.sub_self,Wt]
   omega
 ·rw [if_neg h1, if_neg h1, if_neg (by omega)]
  rfl
theorem TI {p : Nat→Int} {B:Nat} {s:Int} (h:FS p B s):∀ c:Nat,∃ B',FS (pS fun d=>p d - Et c p d) B' (c*s)
 | 0=>by
  refine ⟨0,fun i _=>?_,by show (0:Int) = ((0:Nat):Int)*s;omega⟩
  have e:(fun d=>p d - Et 0 p d) = fun _=>0:=funext fun d=>by
   show p d - (if 0≤d then p (d - 0) else 0) = 0
   rw [if_pos (Nat.zero_le d),Nat.sub_zero]
   omega
  rw [e]
  exact Cn fun _ _=>rfl
 | c+1=>by
  obtain ⟨B',ih⟩:=TI h c
  refine ⟨max B' (c+B),?_⟩
  have h2:=ih.add (h.sh c)
  have e:(fun d=>(pS fun d=>p d - Et c p d) d+Et c p d) = pS fun d=>p d - Et (c+1) p d:=by
   funext d
   rw [PL,PL]
   have:=TH p c d
   show pS p d - pS (Et c p) d+Et c p d = pS p d - pS (Et (c+1) p) d
   omega
  rw [e] at h2
  have e2:(c:Int)*s+s = ((c+1:Nat):Int)*s:=by
   rw [Int.natCast_add,Int.add_mul]
   show _ = _+1*s
   rw [Int.one_mul]
  rw [← e2]
  exact h2
def Fg (r : Nat→Nat):Nat→Ae
 | 0=>[]
 | k+1=>if 0<r k then Fg r k ++ [Mz k ((r k:Nat):Int)] else Fg r k
def FU (r : Nat→Nat):Nat→Nat
 | 0=>0
 | k+1=>if 0<r k then FU r k+1 else FU r k
def EZ (r : Nat→Nat):Nat→Nat
 | 0=>1
 | k+1=>if 0<r k then EZ r k*r k else EZ r k
theorem IE (r : Nat→Nat):∀ k,FU r k≤k
 | 0=>Nat.le_refl 0
 | k+1=>by
  have:=IE r k
  unfold FU
  split <;> omega
theorem Ib (r : Nat→Nat):∀ k,(Fg r k).length≤k
 | 0=>Nat.le_refl 0
 | k+1=>by
  have:=Ib r k
  unfold Fg
  split
  ·rw [List.length_append]
   show (Fg r k).length+1≤k+1
   omega
  ·omega
theorem Rh (r : Nat→Nat):∀ k,0<EZ r k
 | 0=>Nat.zero_lt_one
 | k+1=>by
  have:=Rh r k
  unfold EZ
  split
  ·rename_i h
   exact Nat.mul_pos this h
  ·exact this
theorem My {r : Nat→Nat} (hr:∀ k,r k≤3):∀ k,EZ r k≤3 ^ k
 | 0=>Nat.le_refl 1
 | k+1=>by
  have:=My hr k
  unfold EZ
  rw [Nat.pow_succ]
  split
  ·exact Nat.mul_le_mul this (hr k)
  ·omega
theorem GN {r : Nat→Nat}:∀ {k} {y:Nat→Int},y∈Fg r k→∃ i,i<k∧y = Mz i ((r i:Nat):Int)
 | 0,y,h=>by cases h
 | k+1,y,h=>by
  unfold Fg at h
  split at h
  ·rcases List.mem_append.1 h with h | h
   ·obtain ⟨i,hi,e⟩:=GN h
    exact ⟨i,by omega,e⟩
   ·exact ⟨k,by omega,List.mem_singleton.1 h⟩
  ·obtain ⟨i,hi,e⟩:=GN h
   exact ⟨i,by omega,e⟩
theorem ZM {i k:Nat} {e c:Nat} (h:i ≠ k):qM (Mz i ((e:Nat):Int)) (Mz k ((c:Nat):Int)) = Mz i ((e:Nat):Int):=by
 funext j
 unfold qM
 rw [Gw,Gw]
 by_cases h1:j = i
 ·rw [if_pos h1, if_neg (by omega)]
  omega
 ·rw [if_neg h1]
  split <;> omega
theorem XX {k c:Nat} (h:k<4):Cs 8 0 (Mz k ((c:Nat):Int)) = c:=by
 have:k = 0∨k = 1∨k = 2∨k = 3:=by omega
 rcases this with rfl | rfl | rfl | rfl <;> simp [Cs,Gw]
theorem PK {r : Nat→Nat} {n:Nat}:∀ y∈Fg r n,SupN n y:=fun y hy j hj=>by
 obtain ⟨i,hi,rfl⟩:=GN hy
 rw [Gw]
 split
 ·exact ⟨by omega,fun h=>by omega⟩
 ·exact ⟨Int.le_refl 0,fun _=>rfl⟩
theorem ZO {r : Nat→Nat} (hr:∀ k,r k≤3) {n:Nat}:∀ y∈Fg r n,In8 y 0 64:=fun y hy j hj=>by
 obtain ⟨i,hi,rfl⟩:=GN hy
 have:=hr i
 rw [Gw]
 split <;> omega
theorem Yl {r : Nat→Nat} (hr:∀ k,r k≤3) {n:Nat} (hn:n≤4):∀ y∈Fg r n,Cs 8 0 y≤16:=fun y hy=>by
 obtain ⟨i,hi,rfl⟩:=GN hy
 have:=hr i
 rw [XX (by omega)]
 omega
theorem Ub (r : Nat→Nat):∀ k,k≤4→∃ f B,Num (Fg r k) f∧FS (Cj (FU r k) f) B ((EZ r k:Nat):Int)
 | 0,_=>⟨_,1,Num.nil,fun i hi=>if_neg (by omega),rfl⟩
 | k+1,hk=>by
  obtain ⟨f,B,h1,h2⟩:=Ub r k (by omega)
  unfold Fg FU EZ
  by_cases h:0<r k
  ·rw [if_pos h,if_pos h,if_pos h]
   have e:(Fg r k).map (fun y=>qM y (Mz k ((r k:Nat):Int))) = Fg r k:=by
    refine (List.map_congr_left fun y hy=>?_).trans (List.map_id _)
    obtain ⟨i,hi,rfl⟩:=GN hy
    exact ZM (by omega)
   have h3:=h1.cons (a:=Mz k ((r k:Nat):Int)) (by rw [e];exact h1)
   rw [XX (by omega)] at h3
   have h4:Num (Fg r k ++ [Mz k ((r k:Nat):Int)]) fun d=>f d - Et (r k) f d:=h3.ideal (fun x _=>by
    unfold inB
    rw [List.any_append,List.any_cons,List.any_cons,List.any_nil,Bool.or_false,Bool.or_comm]) fun n hs y hy=>by
    rcases List.mem_cons.1 hy with rfl | hy
    ·exact hs _ (List.mem_append_right _ (List.mem_singleton.2 rfl))
    ·exact hs y (List.mem_append_left _ hy)
   obtain ⟨B',h5⟩:=TI h2 (r k)
   refine ⟨_,B',h4,?_⟩
   have e2:Cj (FU r k+1) (fun d=>f d - Et (r k) f d) = pS fun d=>Cj (FU r k) f d - Et (r k) (Cj (FU r k) f) d:=by
    show pS (Cj (FU r k) _) = _
    rw [MB,MC]
   rw [e2,Int.natCast_mul,Int.mul_comm]
   exact h5
  ·rw [if_neg h,if_neg h,if_neg h]
   exact ⟨f,B,h1,h2⟩
theorem Yk {r : Nat→Nat} {n N:Nat} {f:Nat→Int} (hn:n≤4) (hc:HilC (Fg r n) n N f):Fa (Fg r n) n = ((n:Nat):Int) - ((FU r n:Nat):Int)∧PV (Fg r n) n N f = ((EZ r n:Nat):Int):=by
 obtain ⟨g,B,h1,h2⟩:=Ub r n hn
 have s8:∀ y∈Fg r n,SupN 8 y:=fun y hy j hj=>⟨(PK y hy j hj).1,fun h=>by omega⟩
 have e:f = g:=hc.num.num.inj h1 s8
 subst e
 have hle:=IE r n
 have hpos:=Rh r n
 obtain ⟨c0,hser⟩:=MH (by omega) PK hc.num.num
 have hs2:Ser (Cj n f) (((n - FU r n:Nat):Int)) ((EZ r n:Nat):Int):=.inr ⟨n - FU r n,Cj (FU r n) f,B,rfl,h2,by omega,by rw [← EO,Nat.sub_add_cancel hle]⟩
 obtain ⟨e1,_⟩:=hser.uniq hs2
 have e1:Fa (Fg r n) n = ((n - FU r n:Nat):Int):=e1
 refine ⟨by rw [e1];omega,?_⟩
 unfold PV
 rw [if_neg (by omega),e1,Int.toNat_natCast]
 have e3:n - (n - FU r n) = FU r n:=by omega
 have hf:=hc.far (n - FU r n) e1
 rw [e3] at hf ⊢
 exact h2.sum_eq hf
abbrev R4 := Nat→Nat
def TE (r : R4):List D:=[ex (.int .u8 ((r 0:Nat):Int)),ex (.int .u8 ((r 1:Nat):Int)),ex (.int .u8 ((r 2:Nat):Int)),ex (.int .u8 ((r 3:Nat):Int))]
def Wo (T : Nat) (X:List R4):D:=slD T 4 (X.map TE)
instance A0v : Inhabited R4:=⟨fun _=>0⟩
abbrev PJ (X : List R4) (k:Nat):R4:=X.getD k default
def KL (r : R4):Prop:=∀ j,j<4→r j<256
theorem QD {r : R4} {k:Nat} (h:k<4):CellAt ((TE r).drop (k*1)) 0 (ex (.int .u8 ((r k:Nat):Int))):=by
 have:k = 0∨k = 1∨k = 2∨k = 3:=by omega
 rcases this with rfl | rfl | rfl | rfl <;> exact ⟨by simp [TE],rfl⟩
theorem Tj {P : Program} {hp:List Ow} {arg:Operand→AV} {dd:Option Tmp} {ty:TypeId} {ps:String} {af:Array Edge} {gd:Option (Nat × Bool)} {S T:TypeId} {x:Operand} {k:IntKind} {a:Nat} {d:TypeDesc} {n b n' b':Nat} {z z':Value} (hx:arg x = .d (ex (.int k (a:Nat)))) (hS:Tab P S d n b z) (hT:Tab P T (.int .i64) n' b' z') (h:a<256):Quiet P hp ⟨dd,.convert S T x,ty,ps,af,gd⟩ arg (.d (ex (.int .i64 (a:Nat)))):=Hc hx hS hT (by omega) (by omega)
def VW (n top:Nat) (r:R4) (j:Nat):Int:=if j<n∧j<4 then ((r j % (top+1):Nat):Int) else 0
def Yw (top : Nat) (r:R4) (k j:Nat):Int:=if j<k then ((r j % (top+1):Nat):Int) else 0
theorem UB (top : Nat) (r:R4):Yw top r 0 = fun _=>0:=funext fun j=>if_neg (by omega)
theorem WD (top : Nat) (r:R4) (k:Nat):Hq (Yw top r k) k ((r k % (top+1):Nat):Int) = Yw top r (k+1):=by
 funext j
 unfold Hq Yw
 by_cases h:j = k
 ·subst h
  rw [if_pos rfl,if_pos (by omega)]
 ·rw [if_neg h]
  by_cases h2:j<k
  ·rw [if_pos h2,if_pos (by omega)]
  ·rw [if_neg h2,if_neg (by omega)]
theorem Rq (n top:Nat) (r:R4):Yw top r (min n 4) = VW n top r:=by
 funext j
 unfold Yw VW
 by_cases h:j<n∧j<4
 ·rw [if_pos h,if_pos (by omega)]
 ·rw [if_neg h,if_neg (by omega)]
def Ki (X : List R4) (n most top:Nat):Ae:=(X.take most).map (VW n top)
theorem Oc {X : List R4} {n top k:Nat} (h:k<X.length):Ki X n k top ++ [VW n top (PJ X k)] = Ki X n (k+1) top:=by
 unfold Ki
 rw [List.take_add_one,List.getElem?_eq_getElem h,List.map_append]
 have:PJ X k = X[k]:=by
  rw [PJ,List.getD_eq_getElem?_getD,List.getElem?_eq_getElem h]
  rfl
 rw [this]
 rfl
theorem MK (X : List R4) (n k top:Nat):(Ki X n k top).length≤k:=by
 unfold Ki
 rw [List.length_map,List.length_take]
 exact Nat.min_le_left _ _
theorem VI (T : Nat) (X:List R4) (n most top:Nat) (hX:∀ r∈X,KL r) (hn:n≤1000) (hm:most≤1000) (ht:top≤1000):Abs Tryz.prog 13 [Wo T X,ex (.int .i64 (n:Nat)),ex (.int .i64 (most:Nat)),ex (.int .i64 (top:Nat))] (BT (Ki X n most top)):=by
 have hd:D.le (slD 55 8 ((Ki X n (min X.length most) top).map AL)) (BT (Ki X n most top)):=by
  refine HH ?_
  have:Ki X n (min X.length most) top = Ki X n most top:=by
   unfold Ki
   by_cases h:X.length≤most
   ·rw [Nat.min_eq_left h,List.take_of_length_le (Nat.le_refl _),List.take_of_length_le h]
   ·rw [Nat.min_eq_right (by omega)]
  rw [this]
  rfl
 refine Ab Tryz.func13 fun s0=>?_
 rw [Tryz.ntmps13]
 refine Y1<|Wa<|Y0<|Y1 ?_;refine HK (Aa rfl) (Aa rfl) rfl rfl rfl rfl rfl ?_;refine Wa<|Y0<|Ac<|Y1<|Wa<|Y0<|AWp.block ?_
 refine AO (fun mz σ=>∃ k,k≤min X.length most∧mz = min X.length most - k∧σ = ⟨[(0,.d (Wo T X)),(1,.d (ex (.int .i64 (n:Nat)))),(2,.d (ex (.int .i64 (most:Nat)))),(3,.d (ex (.int .i64 (top:Nat)))),(9,.own 0),(10,.d (ex (.int .i64 (k:Nat))))],[.row 55 8 ((Ki X n k top).map AL)]⟩) ?le ⟨0,by omega,rfl,rfl⟩ ?round
 case le=>exact Aj (by exact Yd<|Yd<|Yd<|Yd<|FrLe.cons rfl (AVle.own rfl)<|Yd<|FrLe.nil) (by exact Yr<|HpLe.nil)
 case round =>
  rintro mz _ ⟨k,hk,rfl,rfl⟩
  by_cases hlt:k<min X.length most
  ·have hkl : k < X.length := by omega
   have hkm:((k:Nat):Int)<((most:Nat):Int):=by omega
   have hkx:((k:Nat):Int)<((X.length:Nat):Int):=by omega
   have hml:=MK X n k top
   have hr:KL (PJ X k):=hX _ (by
    rw [PJ,List.getD_eq_getElem?_getD,List.getElem?_eq_getElem hkl]
    exact List.getElem_mem hkl)
   refine Ac<|Y1<|Wm<|Wm ?_;refine Wq Dl ?_;refine Wq Am ?_;refine Wm ?_;refine Wg Af ?_;refine Wg Af ?_;refine Wg Am ?_;refine Wq AN ?_;apply Y0;refine Ct ?_;refine Ys<|Ac<|AWp.block<|Y1 ?_;(refine CM rfl rfl ?_;(refine Em (Aa rfl) (Aa rfl) rfl rfl ?_;(repeat ((first | refine ⟨_,Bp (ao rfl),?_⟩ | refine ⟨_,Po rfl,?_⟩);refine ⟨_,rfl,?_⟩));refine ⟨_,rfl,?_⟩));refine Al ?_;refine Sf ?_;refine Y0<|Ac<|Y1<|Wa<|Y0<|AWp.block ?_
   refine AO (fun mz σ=>∃ i,i≤min n 4∧mz = min n 4 - i∧σ = ⟨[(0,.d (Wo T X)),(1,.d (ex (.int .i64 (n:Nat)))),(2,.d (ex (.int .i64 (most:Nat)))),(3,.d (ex (.int .i64 (top:Nat)))),(9,.own 0),(10,.d (ex (.int .i64 (k:Nat)))),(11,.ptr 1 0),(12,.d (ex (.int .i64 (i:Nat))))],[.row 55 8 ((Ki X n k top).map AL),.var 55 ((AL (Yw top (PJ X k) i)).map .d)]⟩) ?lei ⟨0,by omega,rfl,rfl⟩ ?roundi
   case lei=>exact Aj (by exact Yd<|Yd<|Yd<|Yd<|FrLe.cons rfl (AVle.own rfl)<|Yd<|Yp<|Yd<|FrLe.nil) (by apply Yr;(refine HpLe.cons (Dp (by rw [UB];rfl)) ?_);exact HpLe.nil)
   case roundi =>
    rintro mz _ ⟨i,hi,rfl,rfl⟩
    by_cases hlti:i<min n 4
    ·have hi4 : i < 4 := by omega
     have hi8:i<8:=by omega
     have hin:((i:Nat):Int)<((n:Nat):Int):=by omega
     have hr1:=hr i hi4
     refine Ac<|Y1<|Wm<|Wm ?_;refine Wq Am ?_;refine Wm ?_;refine Wg Af ?_;refine Wg Am ?_;refine Wq AN ?_;apply Y0;refine Ct ?_;refine Ys<|Ac<|AWp.block<|AWp.region<|Wm<|Wm<|Wm<|Wm ?_;refine Wq BE ?_;refine Wq YQ ?_;refine Wq (Vy (ao rfl) (Aa rfl) rfl (QD hi4)) ?_;refine Wq (Tj (ao rfl) (Aa rfl) (Aa rfl) hr1) ?_;refine Wm ?_;refine Wq AM ?_;refine Wq (DF (a:=PJ X k i) (b:=top+1) (ao rfl) (ao rfl) (by omega)) ?_;refine Wq BG ?_;(refine ED (ao rfl) (ao rfl) rfl (Aa rfl) (by first | exact CH rfl | exact One.sl | exact Fw) (SetAt.mon (by first | omega | (simp;omega))) rfl ?_);apply AWl.nil;apply Aq;refine Yn<|AWp.region<|Wm ?_;refine Wq AM ?_;refine Wa ?_;apply AWl.nil
     refine ALoop.next (min n 4 - (i+1)) (by omega) ⟨i+1,by omega,rfl,rfl⟩ ?_
     exact Aj (by exact Yd<|Yd<|Yd<|Yd<|FrLe.cons rfl (AVle.own rfl)<|Yd<|Yp<|Yd<|FrLe.nil) (by exact Yr<|HpLe.cons (Dp (by rw [WD]))<|HpLe.nil)
    ·have hi8 : ¬ (((i : Nat) : Int) < ((n : Nat) : Int) ∧ ((i : Nat) : Int) < 4) := by omega
     obtain rfl:i = min n 4:=by omega
     by_cases h4:n≤4
     ·have h5 : ¬ ((min n 4 : Nat) : Int) < ((n : Nat) : Int) := by omega
      refine Ac<|Y1<|Wm<|Wm ?_;refine Wq Ar ?_;refine Wm ?_;refine Ws ?_;refine Ws ?_;refine Wq Bi ?_;apply Y0;refine Cf ?_;apply AK;apply AA;apply AB;apply AC;refine Yn<|AWp.region<|Wm ?_;refine Wq AQ ?_;refine Wq (Ds (ao rfl) (Aa rfl) (Aa rfl) rfl rfl rfl rfl rfl) ?_;(refine Ap ?_);refine Wa ?_;apply AWl.nil;apply Aq;refine Yn<|AWp.region<|Wm ?_;refine Wq AM ?_;refine Wa ?_;apply AWl.nil
      rw [Rq]
      skip
      refine ALoop.next (min X.length most - (k+1)) (by omega) ⟨k+1,by omega,rfl,rfl⟩ ?_
      exact Aj (by exact Yd<|Yd<|Yd<|Yd<|FrLe.cons rfl (AVle.own rfl)<|Yd<|FrLe.nil) (by refine HpLe.cons (CB ((FE AL _ _).trans (by rw [Oc hkl]))) ?_;exact HpLe.nil)
     ·have h5 : ((min n 4 : Nat) : Int) < ((n : Nat) : Int) := by omega
      have h6:¬ ((min n 4:Nat):Int)<4:=by omega
      refine Ac<|Y1<|Wm<|Wm ?_;refine Wq Am ?_;refine Wm ?_;refine Wg Af ?_;refine Wg Ar ?_;refine Wq AN ?_;apply Y0;refine Cf ?_;apply AK;apply AA;apply AB;apply AC;refine Yn<|AWp.region<|Wm ?_;refine Wq AQ ?_;refine Wq (Ds (ao rfl) (Aa rfl) (Aa rfl) rfl rfl rfl rfl rfl) ?_;(refine Ap ?_);refine Wa ?_;apply AWl.nil;apply Aq;refine Yn<|AWp.region<|Wm ?_;refine Wq AM ?_;refine Wa ?_;apply AWl.nil
      rw [Rq]
      skip
      refine ALoop.next (min X.length most - (k+1)) (by omega) ⟨k+1,by omega,rfl,rfl⟩ ?_
      exact Aj (by exact Yd<|Yd<|Yd<|Yd<|FrLe.cons rfl (AVle.own rfl)<|Yd<|FrLe.nil) (by refine HpLe.cons (CB ((FE AL _ _).trans (by rw [Oc hkl]))) ?_;exact HpLe.nil)
  ·obtain rfl : k = min X.length most := by omega
   by_cases h4:X.length≤most
   ·have h5 : ¬ ((min X.length most : Nat) : Int) < ((X.length : Nat) : Int) := by omega
    refine Ac<|Y1<|Wm<|Wm ?_;refine Wq Dl ?_;refine Wq Ar ?_;refine Wm ?_;refine Ws ?_;refine Ws ?_;refine Ws ?_;refine Wq Bi ?_;apply Y0;refine Cf ?_;apply AK;apply AA;apply AB;apply AC;refine Yn<|Y1<|Wm<|Wa<|Y0 ?_;apply Aw
    exact BZ (Rets.of1 (ResV.tmp rfl rfl) (hd))
   ·have h5 : ((min X.length most : Nat) : Int) < ((X.length : Nat) : Int) := by omega
    have h6:¬ ((min X.length most:Nat):Int)<((most:Nat):Int):=by omega
    refine Ac<|Y1<|Wm<|Wm ?_;refine Wq Dl ?_;refine Wq Am ?_;refine Wm ?_;refine Wg Af ?_;refine Wg Af ?_;refine Wg Ar ?_;refine Wq AN ?_;apply Y0;refine Cf ?_;apply AK;apply AA;apply AB;apply AC;refine Yn<|Y1<|Wm<|Wa<|Y0 ?_;apply Aw
    exact BZ (Rets.of1 (ResV.tmp rfl rfl) (hd))
def inD (T : Nat) (X:List R4) (m:Nat):D:=BX [Wo T X,ex (.int .u8 (m:Nat))]
theorem FL {P : Program} {hp:List Ow} {arg:Operand→AV} {dd:Option Tmp} {ty:TypeId} {ps:String} {af:Array Edge} {gd:Option (Nat × Bool)} {S T:TypeId} {x:Operand} {k:IntKind} {a c:Nat} {d:TypeDesc} {n b n' b':Nat} {z z':Value} (hx:arg x = .d (ex (.int k ((a % c:Nat):Int)))) (hS:Tab P S d n b z) (hT:Tab P T (.int .i64) n' b' z') (h:a<256):Quiet P hp ⟨dd,.convert S T x,ty,ps,af,gd⟩ arg (.d (ex (.int .i64 ((a % c:Nat):Int)))):=Hc hx hS hT (by omega) (by have:=Nat.mod_le a c;omega)
theorem TJ (T : Nat) (X:List R4) (m:Nat) (hm:m<256):Abs Tryz.prog 12 [inD T X m] (ex (.int .i64 ((m % 5:Nat):Int))):=by
 refine Ab Tryz.func12 fun s0=>?_
 rw [Tryz.ntmps12]
 apply Y1;refine Bx ?_;refine Wa<|Y0<|Y1 ?_;refine Wq Nd ?_;refine Wq BL ?_;refine Wq (DF (a:=m) (b:=5) (ao rfl) (ao rfl) (by decide)) ?_;refine Wq (FL (ao rfl) (Aa rfl) (Aa rfl) hm) ?_;refine Wa<|Y0 ?_;apply Aw
 exact Yf
theorem UC (T : Nat) (X:List R4) (m:Nat) (hm:m<256) (hX:∀ r∈X,KL r):Abs Tryz.prog 32 [inD T X m] (BT (Ki X (m % 5) 5 4)):=by
 have c:=VI T X (m % 5) 5 4 hX (by omega) (by decide) (by decide)
 refine Ab Tryz.func32 fun s0=>?_
 rw [Tryz.ntmps32]
 apply Y1;refine Bx ?_;refine Wa<|Y0<|Y1 ?_;refine Wq Nd ?_;refine Wq BL ?_;refine Wq Nd ?_;refine Wq BL ?_;refine Wq (DF (a:=m) (b:=5) (ao rfl) (ao rfl) (by decide)) ?_;refine Wq (FL (ao rfl) (Aa rfl) (Aa rfl) hm) ?_;refine Wq (Ak (c)) ?_;refine Wa<|Y0 ?_;apply Aw
 exact Yf
theorem Ob (n : Nat) (r:R4) (j:Nat):0≤VW n 4 r j∧VW n 4 r j≤4∧((n≤j∨4≤j)→VW n 4 r j = 0):=by
 unfold VW
 have:=Nat.mod_lt (r j) (show 0<4+1 by decide)
 split
 ·exact ⟨by omega,by omega,fun h=>by omega⟩
 ·exact ⟨by omega,by omega,fun _=>rfl⟩
theorem Ju {X : List R4} {n most top:Nat} {y:Nat→Int} (h:y∈Ki X n most top):∃ r∈X,y = VW n top r:=by
 obtain ⟨r,hr,rfl⟩:=List.mem_map.1 h
 exact ⟨r,List.mem_of_mem_take hr,rfl⟩
theorem ZR (n : Nat) (r:R4):Cs 8 0 (VW n 4 r)≤16:=by
 have h:=Ob n r
 simp only [Cs]
 have h0:=h 0;have h1:=h 1;have h2:=h 2;have h3:=h 3
 have e4:=(h 4).2.2 (.inr (by decide));have e5:=(h 5).2.2 (.inr (by decide));have e6:=(h 6).2.2 (.inr (by decide));have e7:=(h 7).2.2 (.inr (by decide))
 simp only [Nat.zero_add,Nat.reduceAdd,e4,e5,e6,e7]
 omega
theorem UA {X : List R4} {n most:Nat}:∀ y∈Ki X n most 4,SupN n y:=fun y hy j hj=>by
 obtain ⟨r,_,rfl⟩:=Ju hy
 exact ⟨(Ob n r j).1,fun h=>(Ob n r j).2.2 (.inl h)⟩
theorem ZQ {X : List R4} {n most:Nat}:∀ y∈Ki X n most 4,In8 y 0 64:=fun y hy j hj=>by
 obtain ⟨r,_,rfl⟩:=Ju hy
 have:=Ob n r j
 exact ⟨this.1,by omega⟩
theorem Yu {X : List R4} {n most:Nat}:∀ y∈Ki X n most 4,Cs 8 0 y≤16:=fun y hy=>by
 obtain ⟨r,_,rfl⟩:=Ju hy
 exact ZR n r
theorem Ud {n k:Nat} (hn:n≤4) (hk:k≤12):(2:Int) ^ k*(((16*k:Nat):Int)+1) ^ (n+1)≤9223372036854775807:=by
 have h1:(16*k+1) ^ (n+1)≤193 ^ 5:=Nat.le_trans (Nat.pow_le_pow_left (by omega) _) (Nat.pow_le_pow_right (by decide) (by omega))
 have h0:2 ^ k≤2 ^ 12:=Nat.pow_le_pow_right (by decide) hk
 have h2:(2:Int) ^ k*(((16*k:Nat):Int)+1) ^ (n+1) = ((2 ^ k*(16*k+1) ^ (n+1):Nat):Int):=by
  push_cast
  rfl
 have h3:2 ^ k*(16*k+1) ^ (n+1)≤2 ^ 12*193 ^ 5:=Nat.mul_le_mul h0 h1
 have h4:2 ^ 12*193 ^ 5≤9223372036854775807:=by decide
 rw [h2]
 omega
theorem YD (X : List R4) (n most:Nat) (hn:n≤4) (hm:most≤12):∃ N f,HilC (Ki X n most 4) n N f:=Jx most 16 n _ (by omega) hm (MK X n most 4) (by decide) ZQ UA Yu (Ud hn hm)
theorem Dq {r : R4} {k:Nat} (h:k<4):CellAt (TE r) (0+k*1) (ex (.int .u8 ((r k:Nat):Int))):=by
 have:k = 0∨k = 1∨k = 2∨k = 3:=by omega
 rcases this with rfl | rfl | rfl | rfl <;> exact ⟨by simp [TE],rfl⟩
theorem WC {X : List R4} {n most:Nat}:∀ y∈Ki X n most 4,∀ j,j<8→y j≤((3:Nat):Int)+1:=fun y hy j hj=>by
 obtain ⟨r,_,rfl⟩:=Ju hy
 have:=Ob n r j
 omega
theorem Nk {P : Program} {hp:List Ow} {arg:Operand→AV} {dd:Option Tmp} {ty:TypeId} {ps:String} {af:Array Edge} {gd:Option (Nat × Bool)} {T U:TypeId} {x y:Operand} {a b:Nat} {z:Int} (hx:arg x = .d (ex (.int .i64 (a:Nat)))) (hy:arg y = .d (ex (.int .i64 z))) (hz:z = ((b:Nat):Int)) (h:a*b≤81*3):Quiet P hp ⟨dd,.binOp .mul T x y U,ty,ps,af,gd⟩ arg (.d (ex (.int .i64 ((a*b:Nat):Int)))):=by
 have e:(((a*b:Nat):Int)) = (a:Int)*(b:Int):=Int.natCast_mul _ _
 subst hz
 rw [e]
 exact YX hx hy (by rw [← e];omega) (by rw [← e];omega)
theorem SP (T : Nat) (X:List R4) (m:Nat) (r:R4) (hX:∀ r∈X,KL r) (hm:m<256) (hr:KL r):Abs Tryz.prog 8 [inD T X m,BX (TE r)] (ex (.bool true)):=by
 obtain ⟨Na,f,hc⟩:=YD X (m % 5) 5 (by omega) (by decide)
 have cm:=UC T X m hm hX
 have cv:=TJ T X m hm
 have h2:∀ y∈Ki X (m % 5) 5 4,SupN (m % 5) y:=UA
 have hE:∀ y∈Ki X (m % 5) 5 4,∀ j,j<8→y j≤((3:Nat):Int)+1:=WC
 have hlen:=MK X (m % 5) 5 4
 obtain ⟨n,hn⟩:∃ n,n = m % 5:=⟨_,rfl⟩
 have hn4:n≤4:=by omega
 rw [← hn] at hc cm cv h2 hE hlen
 obtain ⟨l,hl⟩:∃ l,l = Ki X n 5 4:=⟨_,rfl⟩
 rw [← hl] at hc cm h2 hE hlen
 obtain ⟨rr,hrr⟩:∃ rr:Nat→Nat,rr = fun k=>r k % 4:=⟨_,rfl⟩
 have hr3:∀ k,rr k≤3:=fun k=>by rw [hrr];show r k % 4≤3;omega
 obtain ⟨Np,fp,hp⟩:=Jx 5 16 n (Fg rr n) (by omega) (by decide) (Nat.le_trans (Ib rr n) (by omega)) (by decide) (ZO hr3) PK (Yl hr3 hn4) (Ud hn4 (by decide))
 obtain ⟨p1,p2⟩:=Yk hn4 hp
 have cpd:=IS (Fg rr n) n _ hp.ck hp.cd
 have cpg:=KV (Fg rr n) n _ hp.ck hp.cg
 rw [p1] at cpd
 rw [p2] at cpg
 have hpn:=IE rr n
 have hf:=QZ (E:=3) hc (by omega) h2 hE
 have hpos:=hc.pos
 have cd:=IS l n _ hc.ck hc.cd
 have cg:=KV l n _ hc.ck hc.cg
 have cs1:=fun h=>Mf l n (Fa l n) h hc.ck hc.cd
 have hbox:(3+1) ^ n≤1000:=Nat.le_trans (Nat.pow_le_pow_right (n:=4) (j:=4) (by decide) hn4) (by decide)
 have cs2:=OX hc (E:=3) (by omega) (by omega) h2 hE (by decide)
 have hdg:(Fa l n<0→PV l n Na f = 0)∧(0≤Fa l n→0<PV l n Na f):=by
  unfold PV
  refine ⟨fun h=>if_pos h,fun h=>?_⟩
  rw [if_neg (by omega)]
  exact hpos _ (by omega)
 have hd0:-1≤Fa l n:=(Jy (DJ l (2 ^ n))).1
 obtain ⟨dz,hdz⟩:∃ dz,dz = Fa l n:=⟨_,rfl⟩
 obtain ⟨dg,hdg2⟩:∃ dg,dg = PV l n Na f:=⟨_,rfl⟩
 rw [← hdz] at cd cs1 cs2 hdg hf hd0
 rw [← hdg2] at cg hdg hf
 have hcase:0<dz∧0<dg∨dz = 0∧0<dg∨dz = -1∧dg = 0:=by
  by_cases h1:0<dz
  ·exact .inl ⟨h1,hdg.2 (by omega)⟩
  ·by_cases h3:dz = 0
   ·exact .inr (.inl ⟨h3,hdg.2 (by omega)⟩)
   ·exact .inr (.inr ⟨by omega,hdg.1 (by omega)⟩)
 rcases hcase with ⟨h1,h3⟩ | ⟨h1,h3⟩ | ⟨h1,h3⟩
 ·refine Ab Tryz.func8 fun s0 => ?_
  rw [Tryz.ntmps8]
  apply Y1;refine Bx ?_;refine Bx ?_;refine Wa<|Y0<|Y1 ?_;refine Wq (Ak (Hr)) ?_;refine Wa<|Y0<|Ac<|Y1<|Wm ?_;refine Wq Ec ?_;apply Y0;refine Cf ?_;refine Ys<|Ac ?_
  refine Dr [[],[(26,0)],[],[(28,2)]] [[],[0],[],[0,1,2]] ?_
  refine Xq AQ ?_;refine Xq (Ak (cm)) ?_;refine Xq AQ ?_;refine Xq (Ak (cv)) ?_;refine ⟨_,rfl,?_⟩
  have cs:=cs1 h1
  refine Wa<|Wa<|Y0<|Y1<|Wm<|Wm ?_;refine Wq (Ak (cd)) ?_;refine Wm ?_;refine Wq AW ?_;refine Wq AW ?_;refine Wa<|Wa<|Y0<|Y1<|Wm<|Wm ?_;refine Wq (Ak (cg)) ?_;refine Wm ?_;refine Wq AW ?_;refine Wq AW ?_;refine Wa<|Wa<|Y0<|Y1<|Wm<|Wm ?_;refine Wq (Ak (cs)) ?_;refine Wm ?_;refine Wq AW ?_;refine Wq AW ?_;refine Wa<|Wa<|Y0<|Ac<|Y1<|Wm ?_;refine Wq Ar ?_;refine Wm ?_;refine Wg Af ?_;refine Wg Ar ?_;refine Wq Bi ?_;refine Wm ?_;refine Wg Af ?_;refine Wg Am ?_;refine Wg Af ?_;refine Wg Am ?_;refine Wg EL ?_;refine Wq Bi ?_;refine Wm ?_;refine Wg Af ?_;refine Wg Ar ?_;refine Wq Bi ?_;refine Wm ?_;refine Wg Af ?_;refine Wg Ar ?_;refine Wg Af ?_;refine Wg Ar ?_;refine Wg EL ?_;refine Wq Bi ?_;refine Wm ?_;refine Wg Af ?_;refine Wg Ar ?_;refine Wg Af ?_;refine Ws ?_;refine Ws ?_;refine Ws ?_;refine Ws ?_;refine Wg Bi ?_;refine Wq Bi ?_;apply Y0;refine Cf ?_;refine Ys<|Y1 ?_;refine HK (Aa rfl) (Aa rfl) rfl rfl rfl rfl rfl ?_;refine Wa<|Y0<|Y1<|Wa<|Wa<|Y0<|Ac<|Y1<|Wa<|Y0<|AWp.block ?_
  refine AO (fun mz σ=>∃ k,k≤n∧mz = n - k∧σ = ⟨[(3,.ptr 1 0),(5,.d (ex (.bool true))),(7,.d (ex (.int .i64 (n:Nat)))),(14,.own 2),(15,.d (ex (.int .i64 (EZ rr k:Nat)))),(16,.d (ex (.int .i64 (FU rr k:Nat)))),(17,.d (ex (.int .i64 (k:Nat))))],[.var 25 ([Wo T X,ex (.int .u8 (m:Nat))].map .d),.var 57 ((TE r).map .d),.row 55 8 ((Fg rr k).map AL)]⟩) ?le ⟨0,by omega,rfl,rfl⟩ ?round
  case le=>exact Aj (by exact Yp<|Yd<|Yd<|FrLe.cons rfl (AVle.own rfl)<|Yd<|Yd<|Yd<|FrLe.nil) (by exact Yv<|Yv<|Yr<|HpLe.nil)
  case round =>
   rintro mz _ ⟨k,hk,rfl,rfl⟩
   by_cases hlt:k<n
   ·have hk4 : k < 4 := by omega
    have hk8:k<8:=by omega
    have hrk:rr k = r k % 4:=by rw [hrr]
    have hr256:=hr k hk4
    have hml:=Ib rr k
    have hmn:=IE rr k
    have hpp:EZ rr k≤3 ^ 4:=Nat.le_trans (My hr3 k) (Nat.pow_le_pow_right (by decide) (by omega))
    have hpp2:EZ rr k*(r k % 4)≤81*3:=Nat.mul_le_mul hpp (by omega)
    have hpp3:(((EZ rr k:Nat):Int))*((r k % 4:Nat):Int) = ((EZ rr k*(r k % 4):Nat):Int):=(Int.natCast_mul _ _).symm
    by_cases hz:0<r k % 4
    ·have e1 : Fg rr k ++ [Mz k ((r k % 4 : Nat) : Int)] = Fg rr (k + 1) := by rw [Fg, if_pos (by omega), hrk]
     have e2:EZ rr k*(r k % 4) = EZ rr (k+1):=by rw [EZ,if_pos (by omega),hrk]
     have e3:FU rr k+1 = FU rr (k+1):=by rw [FU,if_pos (by omega)]
     refine Ac<|Y1<|Wm<|Wm ?_;refine Wq Am ?_;apply Y0;refine Ct ?_;refine Ys<|Ac<|AWp.block<|Y1<|Wm ?_;refine Wq BG ?_;refine Wq (Es (ao rfl) rfl (Aa rfl) rfl (Dq (r:=r) (k:=k) hk4)) ?_;refine Wq (DF (a:=r k) (b:=4) (ao rfl) (ao rfl) (by decide)) ?_;refine Wq Am ?_;apply Y0;refine Ct ?_;apply Y1;(refine CM rfl rfl ?_;(refine Em (Aa rfl) (Aa rfl) rfl rfl ?_;(repeat ((first | refine ⟨_,Bp (ao rfl),?_⟩ | refine ⟨_,Po rfl,?_⟩);refine ⟨_,rfl,?_⟩));refine ⟨_,rfl,?_⟩));refine Al ?_;refine Sf ?_;refine Y0<|Y1<|Wm<|Wm ?_;refine Wq BG ?_;refine Wq (Es (ao rfl) rfl (Aa rfl) rfl (Dq (r:=r) (k:=k) hk4)) ?_;refine Wq (DF (a:=r k) (b:=4) (ao rfl) (ao rfl) (by decide)) ?_;refine Wq (FL (a:=r k) (c:=4) (ao rfl) (Aa rfl) (Aa rfl) hr256) ?_;refine Wq BG ?_;refine ED (ao rfl) (ao rfl) rfl (Aa rfl) (CH rfl) (show SetAt (AL fun _=>0) (0+k*1) [ex (.int .i64 ((r k % 4:Nat):Int))] (AL (Mz k ((r k % 4:Nat):Int))) from SetAt.mon hk8) rfl ?_;refine Y0<|Y1<|Wm ?_;refine Wq AQ ?_;refine Wq (Ds (ao rfl) (Aa rfl) (Aa rfl) rfl rfl rfl rfl rfl) ?_;(refine Ap ?_);refine Wa<|Y0<|Y1<|Wm<|Wm ?_;refine Wq BG ?_;refine Wq CO ?_;refine Wq (Nk (a:=EZ rr k) (b:=r k % 4) (ao rfl) (ao rfl) ((Gw k _ k).trans (if_pos rfl)) hpp2) ?_;refine Wa<|Y0<|AWp.region<|Wm ?_;refine Wq AM ?_;refine Wa ?_;apply AWl.nil;apply Aq;refine Yn<|AWp.region<|Wm ?_;refine Wq AM ?_;refine Wa ?_;apply AWl.nil
     refine ALoop.next (n - (k+1)) (by omega) ⟨k+1,by omega,rfl,rfl⟩ ?_
     exact Aj (by exact Yp<|Yd<|Yd<|FrLe.cons rfl (AVle.own rfl)<|FrLe.cons rfl (AVle.int (by rw [← e2]))<|FrLe.cons rfl (AVle.int (by rw [← e3]))<|Yd<|FrLe.nil) (by apply Yv;apply Yv;refine HpLe.cons (CB ((FE AL _ (Mz k ((r k % 4:Nat):Int))).trans (by rw [e1]))) ?_;exact HpLe.nil)
    ·have e1 : Fg rr k = Fg rr (k + 1) := by rw [Fg, if_neg (by omega)]
     have e2:EZ rr k = EZ rr (k+1):=by rw [EZ,if_neg (by omega)]
     have e3:FU rr k = FU rr (k+1):=by rw [FU,if_neg (by omega)]
     refine Ac<|Y1<|Wm<|Wm ?_;refine Wq Am ?_;apply Y0;refine Ct ?_;refine Ys<|Ac<|AWp.block<|Y1<|Wm ?_;refine Wq BG ?_;refine Wq (Es (ao rfl) rfl (Aa rfl) rfl (Dq (r:=r) (k:=k) hk4)) ?_;refine Wq (DF (a:=r k) (b:=4) (ao rfl) (ao rfl) (by decide)) ?_;refine Wq Ar ?_;apply Y0;refine Cf ?_;apply Bv;apply Aq;refine Yn<|AWp.region<|Wm ?_;refine Wq AM ?_;refine Wa ?_;apply AWl.nil
     refine ALoop.next (n - (k+1)) (by omega) ⟨k+1,by omega,rfl,rfl⟩ ?_
     exact Aj (by exact Yp<|Yd<|Yd<|FrLe.cons rfl (AVle.own rfl)<|FrLe.cons rfl (AVle.int (by rw [← e2]))<|FrLe.cons rfl (AVle.int (by rw [← e3]))<|Yd<|FrLe.nil) (by exact Yv<|Yv<|HpLe.cons (CB (by rw [← e1]))<|HpLe.nil)
   ·obtain rfl : k = n := by omega
    refine Ac<|Y1<|Wm<|Wm ?_;refine Wq Ar ?_;apply Y0;refine Cf ?_;apply AK;apply AA;apply AB;apply AC;refine Yn<|Y1<|Wm<|Wm ?_;refine Wq (Ak (cpg)) ?_;refine Wm ?_;refine Wq AW ?_;refine Wq AW ?_;refine Wa<|Wa<|Y0<|Y1<|Wm<|Wm ?_;refine Wq (Ak (cpd)) ?_;refine Wm ?_;refine Wq AW ?_;refine Wq AW ?_;refine Wa<|Wa<|Y0<|Y1<|Wm ?_;refine Wq Am ?_;refine Wm ?_;refine Wg Af ?_;refine Wg Am ?_;refine Wq AN ?_;refine Wm ?_;refine Wg Af ?_;refine Wg Af ?_;refine Wg Am ?_;refine Wq AN ?_;refine Wm ?_;refine Wg Af ?_;refine Wg Af ?_;refine Wg Af ?_;refine Wg Fv ?_;refine Wg Am ?_;refine Wq AN ?_;refine Wm ?_;refine Wg Af ?_;refine Wq AN ?_;refine Wa<|Y0 ?_;apply Aw
    exact Yf
 ·refine Ab Tryz.func8 fun s0 => ?_
  rw [Tryz.ntmps8]
  apply Y1;refine Bx ?_;refine Bx ?_;refine Wa<|Y0<|Y1 ?_;refine Wq (Ak (Hr)) ?_;refine Wa<|Y0<|Ac<|Y1<|Wm ?_;refine Wq Ec ?_;apply Y0;refine Cf ?_;refine Ys<|Ac ?_
  refine Dr [[],[(26,0)],[],[(28,2)]] [[],[0],[],[0,1,2]] ?_
  refine Xq AQ ?_;refine Xq (Ak (cm)) ?_;refine Xq AQ ?_;refine Xq (Ak (cv)) ?_;refine ⟨_,rfl,?_⟩
  have cs:=cs2 (by omega) hbox
  refine Wa<|Wa<|Y0<|Y1<|Wm<|Wm ?_;refine Wq (Ak (cd)) ?_;refine Wm ?_;refine Wq AW ?_;refine Wq AW ?_;refine Wa<|Wa<|Y0<|Y1<|Wm<|Wm ?_;refine Wq (Ak (cg)) ?_;refine Wm ?_;refine Wq AW ?_;refine Wq AW ?_;refine Wa<|Wa<|Y0<|Y1<|Wm<|Wm ?_;refine Wq (Ak (cs)) ?_;refine Wm ?_;refine Wq AW ?_;refine Wq AW ?_;refine Wa<|Wa<|Y0<|Ac<|Y1<|Wm ?_;refine Wq Ar ?_;refine Wm ?_;refine Wg Af ?_;refine Wg Ar ?_;refine Wq Bi ?_;refine Wm ?_;refine Wg Af ?_;refine Wg Am ?_;refine Wg Af ?_;refine Wg Am ?_;refine Wg EL ?_;refine Wq Bi ?_;refine Wm ?_;refine Wg Af ?_;refine Wg Ar ?_;refine Wq Bi ?_;refine Wm ?_;refine Wg Af ?_;refine Wg Am ?_;refine Wg Af ?_;refine Wg Am ?_;refine Wg EL ?_;refine Wq Bi ?_;refine Wm ?_;refine Wg Af ?_;refine Wg Am ?_;refine Wg Af ?_;refine Wg Af ?_
  refine Mo (t:=76) rfl fun K hK=>?_
  have hKl:=(hf (by omega)).1 K hK
  refine Wg Dl ?_;refine Wg Af ?_;refine Wg Ar ?_;refine Wg AN ?_;refine Wq Bi ?_;apply Y0;refine Cf ?_;refine Ys<|Y1 ?_;refine HK (Aa rfl) (Aa rfl) rfl rfl rfl rfl rfl ?_;refine Wa<|Y0<|Y1<|Wa<|Wa<|Y0<|Ac<|Y1<|Wa<|Y0<|AWp.block ?_
  refine AO (fun mz σ=>∃ k,k≤n∧mz = n - k∧σ = ⟨[(3,.ptr 1 0),(5,.d (ex (.bool true))),(7,.d (ex (.int .i64 (n:Nat)))),(14,.own 2),(15,.d (ex (.int .i64 (EZ rr k:Nat)))),(16,.d (ex (.int .i64 (FU rr k:Nat)))),(17,.d (ex (.int .i64 (k:Nat))))],[.var 25 ([Wo T X,ex (.int .u8 (m:Nat))].map .d),.var 57 ((TE r).map .d),.row 55 8 ((Fg rr k).map AL)]⟩) ?le ⟨0,by omega,rfl,rfl⟩ ?round
  case le=>exact Aj (by exact Yp<|Yd<|Yd<|FrLe.cons rfl (AVle.own rfl)<|Yd<|Yd<|Yd<|FrLe.nil) (by exact Yv<|Yv<|Yr<|HpLe.nil)
  case round =>
   rintro mz _ ⟨k,hk,rfl,rfl⟩
   by_cases hlt:k<n
   ·have hk4 : k < 4 := by omega
    have hk8:k<8:=by omega
    have hrk:rr k = r k % 4:=by rw [hrr]
    have hr256:=hr k hk4
    have hml:=Ib rr k
    have hmn:=IE rr k
    have hpp:EZ rr k≤3 ^ 4:=Nat.le_trans (My hr3 k) (Nat.pow_le_pow_right (by decide) (by omega))
    have hpp2:EZ rr k*(r k % 4)≤81*3:=Nat.mul_le_mul hpp (by omega)
    have hpp3:(((EZ rr k:Nat):Int))*((r k % 4:Nat):Int) = ((EZ rr k*(r k % 4):Nat):Int):=(Int.natCast_mul _ _).symm
    by_cases hz:0<r k % 4
    ·have e1 : Fg rr k ++ [Mz k ((r k % 4 : Nat) : Int)] = Fg rr (k + 1) := by rw [Fg, if_pos (by omega), hrk]
     have e2:EZ rr k*(r k % 4) = EZ rr (k+1):=by rw [EZ,if_pos (by omega),hrk]
     have e3:FU rr k+1 = FU rr (k+1):=by rw [FU,if_pos (by omega)]
     refine Ac<|Y1<|Wm<|Wm ?_;refine Wq Am ?_;apply Y0;refine Ct ?_;refine Ys<|Ac<|AWp.block<|Y1<|Wm ?_;refine Wq BG ?_;refine Wq (Es (ao rfl) rfl (Aa rfl) rfl (Dq (r:=r) (k:=k) hk4)) ?_;refine Wq (DF (a:=r k) (b:=4) (ao rfl) (ao rfl) (by decide)) ?_;refine Wq Am ?_;apply Y0;refine Ct ?_;apply Y1;(refine CM rfl rfl ?_;(refine Em (Aa rfl) (Aa rfl) rfl rfl ?_;(repeat ((first | refine ⟨_,Bp (ao rfl),?_⟩ | refine ⟨_,Po rfl,?_⟩);refine ⟨_,rfl,?_⟩));refine ⟨_,rfl,?_⟩));refine Al ?_;refine Sf ?_;refine Y0<|Y1<|Wm<|Wm ?_;refine Wq BG ?_;refine Wq (Es (ao rfl) rfl (Aa rfl) rfl (Dq (r:=r) (k:=k) hk4)) ?_;refine Wq (DF (a:=r k) (b:=4) (ao rfl) (ao rfl) (by decide)) ?_;refine Wq (FL (a:=r k) (c:=4) (ao rfl) (Aa rfl) (Aa rfl) hr256) ?_;refine Wq BG ?_;refine ED (ao rfl) (ao rfl) rfl (Aa rfl) (CH rfl) (show SetAt (AL fun _=>0) (0+k*1) [ex (.int .i64 ((r k % 4:Nat):Int))] (AL (Mz k ((r k % 4:Nat):Int))) from SetAt.mon hk8) rfl ?_;refine Y0<|Y1<|Wm ?_;refine Wq AQ ?_;refine Wq (Ds (ao rfl) (Aa rfl) (Aa rfl) rfl rfl rfl rfl rfl) ?_;(refine Ap ?_);refine Wa<|Y0<|Y1<|Wm<|Wm ?_;refine Wq BG ?_;refine Wq CO ?_;refine Wq (Nk (a:=EZ rr k) (b:=r k % 4) (ao rfl) (ao rfl) ((Gw k _ k).trans (if_pos rfl)) hpp2) ?_;refine Wa<|Y0<|AWp.region<|Wm ?_;refine Wq AM ?_;refine Wa ?_;apply AWl.nil;apply Aq;refine Yn<|AWp.region<|Wm ?_;refine Wq AM ?_;refine Wa ?_;apply AWl.nil
     refine ALoop.next (n - (k+1)) (by omega) ⟨k+1,by omega,rfl,rfl⟩ ?_
     exact Aj (by exact Yp<|Yd<|Yd<|FrLe.cons rfl (AVle.own rfl)<|FrLe.cons rfl (AVle.int (by rw [← e2]))<|FrLe.cons rfl (AVle.int (by rw [← e3]))<|Yd<|FrLe.nil) (by apply Yv;apply Yv;refine HpLe.cons (CB ((FE AL _ (Mz k ((r k % 4:Nat):Int))).trans (by rw [e1]))) ?_;exact HpLe.nil)
    ·have e1 : Fg rr k = Fg rr (k + 1) := by rw [Fg, if_neg (by omega)]
     have e2:EZ rr k = EZ rr (k+1):=by rw [EZ,if_neg (by omega)]
     have e3:FU rr k = FU rr (k+1):=by rw [FU,if_neg (by omega)]
     refine Ac<|Y1<|Wm<|Wm ?_;refine Wq Am ?_;apply Y0;refine Ct ?_;refine Ys<|Ac<|AWp.block<|Y1<|Wm ?_;refine Wq BG ?_;refine Wq (Es (ao rfl) rfl (Aa rfl) rfl (Dq (r:=r) (k:=k) hk4)) ?_;refine Wq (DF (a:=r k) (b:=4) (ao rfl) (ao rfl) (by decide)) ?_;refine Wq Ar ?_;apply Y0;refine Cf ?_;apply Bv;apply Aq;refine Yn<|AWp.region<|Wm ?_;refine Wq AM ?_;refine Wa ?_;apply AWl.nil
     refine ALoop.next (n - (k+1)) (by omega) ⟨k+1,by omega,rfl,rfl⟩ ?_
     exact Aj (by exact Yp<|Yd<|Yd<|FrLe.cons rfl (AVle.own rfl)<|FrLe.cons rfl (AVle.int (by rw [← e2]))<|FrLe.cons rfl (AVle.int (by rw [← e3]))<|Yd<|FrLe.nil) (by exact Yv<|Yv<|HpLe.cons (CB (by rw [← e1]))<|HpLe.nil)
   ·obtain rfl : k = n := by omega
    refine Ac<|Y1<|Wm<|Wm ?_;refine Wq Ar ?_;apply Y0;refine Cf ?_;apply AK;apply AA;apply AB;apply AC;refine Yn<|Y1<|Wm<|Wm ?_;refine Wq (Ak (cpg)) ?_;refine Wm ?_;refine Wq AW ?_;refine Wq AW ?_;refine Wa<|Wa<|Y0<|Y1<|Wm<|Wm ?_;refine Wq (Ak (cpd)) ?_;refine Wm ?_;refine Wq AW ?_;refine Wq AW ?_;refine Wa<|Wa<|Y0<|Y1<|Wm ?_;refine Wq Am ?_;refine Wm ?_;refine Wg Af ?_;refine Wg Am ?_;refine Wq AN ?_;refine Wm ?_;refine Wg Af ?_;refine Wg Af ?_;refine Wg Am ?_;refine Wq AN ?_;refine Wm ?_;refine Wg Af ?_;refine Wg Af ?_;refine Wg Af ?_;refine Wg Fv ?_;refine Wg Am ?_;refine Wq AN ?_;refine Wm ?_;refine Wg Af ?_;refine Wq AN ?_;refine Wa<|Y0 ?_;apply Aw
    exact Yf
 ·refine Ab Tryz.func8 fun s0 => ?_
  rw [Tryz.ntmps8]
  apply Y1;refine Bx ?_;refine Bx ?_;refine Wa<|Y0<|Y1 ?_;refine Wq (Ak (Hr)) ?_;refine Wa<|Y0<|Ac<|Y1<|Wm ?_;refine Wq Ec ?_;apply Y0;refine Cf ?_;refine Ys<|Ac ?_
  refine Dr [[],[(26,0)],[],[(28,2)]] [[],[0],[],[0,1,2]] ?_
  refine Xq AQ ?_;refine Xq (Ak (cm)) ?_;refine Xq AQ ?_;refine Xq (Ak (cv)) ?_;refine ⟨_,rfl,?_⟩
  have cs:=cs2 (by omega) hbox
  refine Wa<|Wa<|Y0<|Y1<|Wm<|Wm ?_;refine Wq (Ak (cd)) ?_;refine Wm ?_;refine Wq AW ?_;refine Wq AW ?_;refine Wa<|Wa<|Y0<|Y1<|Wm<|Wm ?_;refine Wq (Ak (cg)) ?_;refine Wm ?_;refine Wq AW ?_;refine Wq AW ?_;refine Wa<|Wa<|Y0<|Y1<|Wm<|Wm ?_;refine Wq (Ak (cs)) ?_;refine Wm ?_;refine Wq AW ?_;refine Wq AW ?_;refine Wa<|Wa<|Y0<|Ac<|Y1<|Wm ?_;refine Wq Ar ?_;refine Wm ?_;refine Wg Af ?_;refine Wg Ar ?_;refine Wq Bi ?_;refine Wm ?_;refine Wg Af ?_;refine Wg Ar ?_;refine Wg Af ?_;refine Wg Ar ?_;refine Wg EL ?_;refine Wq Bi ?_;refine Wm ?_;refine Wg Af ?_;refine Wg Ar ?_;refine Wq Bi ?_;refine Wm ?_;refine Wg Af ?_;refine Wg Am ?_;refine Wg Af ?_;refine Wg Am ?_;refine Wg EL ?_;refine Wq Bi ?_;refine Wm ?_;refine Wg Af ?_;refine Wg Am ?_;refine Wg Af ?_;refine Wg Af ?_
  refine Mo (t:=76) rfl fun K hK=>?_
  have hKl:=(hf (by omega)).1 K hK
  refine Wg Dl ?_;refine Wg Af ?_;refine Wg Ar ?_;refine Wg AN ?_;refine Wq Bi ?_;apply Y0;refine Cf ?_;refine Ys<|Y1 ?_;refine HK (Aa rfl) (Aa rfl) rfl rfl rfl rfl rfl ?_;refine Wa<|Y0<|Y1<|Wa<|Wa<|Y0<|Ac<|Y1<|Wa<|Y0<|AWp.block ?_
  refine AO (fun mz σ=>∃ k,k≤n∧mz = n - k∧σ = ⟨[(3,.ptr 1 0),(5,.d (ex (.bool true))),(7,.d (ex (.int .i64 (n:Nat)))),(14,.own 2),(15,.d (ex (.int .i64 (EZ rr k:Nat)))),(16,.d (ex (.int .i64 (FU rr k:Nat)))),(17,.d (ex (.int .i64 (k:Nat))))],[.var 25 ([Wo T X,ex (.int .u8 (m:Nat))].map .d),.var 57 ((TE r).map .d),.row 55 8 ((Fg rr k).map AL)]⟩) ?le ⟨0,by omega,rfl,rfl⟩ ?round
  case le=>exact Aj (by exact Yp<|Yd<|Yd<|FrLe.cons rfl (AVle.own rfl)<|Yd<|Yd<|Yd<|FrLe.nil) (by exact Yv<|Yv<|Yr<|HpLe.nil)
  case round =>
   rintro mz _ ⟨k,hk,rfl,rfl⟩
   by_cases hlt:k<n
   ·have hk4 : k < 4 := by omega
    have hk8:k<8:=by omega
    have hrk:rr k = r k % 4:=by rw [hrr]
    have hr256:=hr k hk4
    have hml:=Ib rr k
    have hmn:=IE rr k
    have hpp:EZ rr k≤3 ^ 4:=Nat.le_trans (My hr3 k) (Nat.pow_le_pow_right (by decide) (by omega))
    have hpp2:EZ rr k*(r k % 4)≤81*3:=Nat.mul_le_mul hpp (by omega)
    have hpp3:(((EZ rr k:Nat):Int))*((r k % 4:Nat):Int) = ((EZ rr k*(r k % 4):Nat):Int):=(Int.natCast_mul _ _).symm
    by_cases hz:0<r k % 4
    ·have e1 : Fg rr k ++ [Mz k ((r k % 4 : Nat) : Int)] = Fg rr (k + 1) := by rw [Fg, if_pos (by omega), hrk]
     have e2:EZ rr k*(r k % 4) = EZ rr (k+1):=by rw [EZ,if_pos (by omega),hrk]
     have e3:FU rr k+1 = FU rr (k+1):=by rw [FU,if_pos (by omega)]
     refine Ac<|Y1<|Wm<|Wm ?_;refine Wq Am ?_;apply Y0;refine Ct ?_;refine Ys<|Ac<|AWp.block<|Y1<|Wm ?_;refine Wq BG ?_;refine Wq (Es (ao rfl) rfl (Aa rfl) rfl (Dq (r:=r) (k:=k) hk4)) ?_;refine Wq (DF (a:=r k) (b:=4) (ao rfl) (ao rfl) (by decide)) ?_;refine Wq Am ?_;apply Y0;refine Ct ?_;apply Y1;(refine CM rfl rfl ?_;(refine Em (Aa rfl) (Aa rfl) rfl rfl ?_;(repeat ((first | refine ⟨_,Bp (ao rfl),?_⟩ | refine ⟨_,Po rfl,?_⟩);refine ⟨_,rfl,?_⟩));refine ⟨_,rfl,?_⟩));refine Al ?_;refine Sf ?_;refine Y0<|Y1<|Wm<|Wm ?_;refine Wq BG ?_;refine Wq (Es (ao rfl) rfl (Aa rfl) rfl (Dq (r:=r) (k:=k) hk4)) ?_;refine Wq (DF (a:=r k) (b:=4) (ao rfl) (ao rfl) (by decide)) ?_;refine Wq (FL (a:=r k) (c:=4) (ao rfl) (Aa rfl) (Aa rfl) hr256) ?_;refine Wq BG ?_;refine ED (ao rfl) (ao rfl) rfl (Aa rfl) (CH rfl) (show SetAt (AL fun _=>0) (0+k*1) [ex (.int .i64 ((r k % 4:Nat):Int))] (AL (Mz k ((r k % 4:Nat):Int))) from SetAt.mon hk8) rfl ?_;refine Y0<|Y1<|Wm ?_;refine Wq AQ ?_;refine Wq (Ds (ao rfl) (Aa rfl) (Aa rfl) rfl rfl rfl rfl rfl) ?_;(refine Ap ?_);refine Wa<|Y0<|Y1<|Wm<|Wm ?_;refine Wq BG ?_;refine Wq CO ?_;refine Wq (Nk (a:=EZ rr k) (b:=r k % 4) (ao rfl) (ao rfl) ((Gw k _ k).trans (if_pos rfl)) hpp2) ?_;refine Wa<|Y0<|AWp.region<|Wm ?_;refine Wq AM ?_;refine Wa ?_;apply AWl.nil;apply Aq;refine Yn<|AWp.region<|Wm ?_;refine Wq AM ?_;refine Wa ?_;apply AWl.nil
     refine ALoop.next (n - (k+1)) (by omega) ⟨k+1,by omega,rfl,rfl⟩ ?_
     exact Aj (by exact Yp<|Yd<|Yd<|FrLe.cons rfl (AVle.own rfl)<|FrLe.cons rfl (AVle.int (by rw [← e2]))<|FrLe.cons rfl (AVle.int (by rw [← e3]))<|Yd<|FrLe.nil) (by apply Yv;apply Yv;refine HpLe.cons (CB ((FE AL _ (Mz k ((r k % 4:Nat):Int))).trans (by rw [e1]))) ?_;exact HpLe.nil)
    ·have e1 : Fg rr k = Fg rr (k + 1) := by rw [Fg, if_neg (by omega)]
     have e2:EZ rr k = EZ rr (k+1):=by rw [EZ,if_neg (by omega)]
     have e3:FU rr k = FU rr (k+1):=by rw [FU,if_neg (by omega)]
     refine Ac<|Y1<|Wm<|Wm ?_;refine Wq Am ?_;apply Y0;refine Ct ?_;refine Ys<|Ac<|AWp.block<|Y1<|Wm ?_;refine Wq BG ?_;refine Wq (Es (ao rfl) rfl (Aa rfl) rfl (Dq (r:=r) (k:=k) hk4)) ?_;refine Wq (DF (a:=r k) (b:=4) (ao rfl) (ao rfl) (by decide)) ?_;refine Wq Ar ?_;apply Y0;refine Cf ?_;apply Bv;apply Aq;refine Yn<|AWp.region<|Wm ?_;refine Wq AM ?_;refine Wa ?_;apply AWl.nil
     refine ALoop.next (n - (k+1)) (by omega) ⟨k+1,by omega,rfl,rfl⟩ ?_
     exact Aj (by exact Yp<|Yd<|Yd<|FrLe.cons rfl (AVle.own rfl)<|FrLe.cons rfl (AVle.int (by rw [← e2]))<|FrLe.cons rfl (AVle.int (by rw [← e3]))<|Yd<|FrLe.nil) (by exact Yv<|Yv<|HpLe.cons (CB (by rw [← e1]))<|HpLe.nil)
   ·obtain rfl : k = n := by omega
    refine Ac<|Y1<|Wm<|Wm ?_;refine Wq Ar ?_;apply Y0;refine Cf ?_;apply AK;apply AA;apply AB;apply AC;refine Yn<|Y1<|Wm<|Wm ?_;refine Wq (Ak (cpg)) ?_;refine Wm ?_;refine Wq AW ?_;refine Wq AW ?_;refine Wa<|Wa<|Y0<|Y1<|Wm<|Wm ?_;refine Wq (Ak (cpd)) ?_;refine Wm ?_;refine Wq AW ?_;refine Wq AW ?_;refine Wa<|Wa<|Y0<|Y1<|Wm ?_;refine Wq Am ?_;refine Wm ?_;refine Wg Af ?_;refine Wg Am ?_;refine Wq AN ?_;refine Wm ?_;refine Wg Af ?_;refine Wg Af ?_;refine Wg Am ?_;refine Wq AN ?_;refine Wm ?_;refine Wg Af ?_;refine Wg Af ?_;refine Wg Af ?_;refine Wg Fv ?_;refine Wg Am ?_;refine Wq AN ?_;refine Wm ?_;refine Wg Af ?_;refine Wq AN ?_;refine Wa<|Y0 ?_;apply Aw
    exact Yf
end Go.Proofs.YtialdhnijjnpaaaGreat
