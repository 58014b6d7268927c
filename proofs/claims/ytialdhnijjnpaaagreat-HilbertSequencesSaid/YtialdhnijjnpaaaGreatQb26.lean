/- Part 26 of the proof of hilbertSequences_holds. No condition. -/
import Derived.Test.YtialdhnijjnpaaaGreatQb21
import Derived.Test.YtialdhnijjnpaaaGreatQb24
import Derived.Test.YtialdhnijjnpaaaGreatQb25
set_option linter.unusedSimpArgs false
set_option linter.unusedVariables false
set_option maxRecDepth 100000
namespace Go.Proofs.YtialdhnijjnpaaaGreat
open Go.RowKit
def mz : Nat→Int:=fun _=>0
def ZX : Nat→Int
 | 0=>2
 | _=>0
def WN : Nat→Int
 | 0=>1
 | 1=>1
 | _=>0
def mx : Nat→Int
 | 0=>1
 | _=>0
def my2 : Nat→Int
 | 0=>0
 | 1=>2
 | _=>0
def my : Nat→Int
 | 0=>0
 | 1=>1
 | _=>0
abbrev lA : Ae:=[ZX,WN]
abbrev lB : Ae:=[mx,my2]
theorem j8 {p : Nat→Prop} (h0:p 0) (h1:p 1) (h2:p 2) (h3:p 3) (h4:p 4) (h5:p 5) (h6:p 6) (h7:p 7) (j:Nat) (hj:j<8):p j:=by
 have:j = 0∨j = 1∨j = 2∨j = 3∨j = 4∨j = 5∨j = 6∨j = 7:=by omega
 rcases this with rfl | rfl | rfl | rfl | rfl | rfl | rfl | rfl <;> assumption
theorem Jb : ∀ y∈lA,In8 y 0 2∧SupN 2 y∧Cd 8 0 y≤2:=fun y hy=>by
 simp only [List.mem_cons,List.not_mem_nil,or_false] at hy
 rcases hy with rfl | rfl
 ·exact ⟨j8 (by decide) (by decide) (by decide) (by decide) (by decide) (by decide) (by decide) (by decide),j8 (by decide) (by decide) (by decide) (by decide) (by decide) (by decide) (by decide) (by decide),by decide⟩
 ·exact ⟨j8 (by decide) (by decide) (by decide) (by decide) (by decide) (by decide) (by decide) (by decide),j8 (by decide) (by decide) (by decide) (by decide) (by decide) (by decide) (by decide) (by decide),by decide⟩
theorem On : ∀ y∈lB,In8 y 0 2∧SupN 2 y∧Cd 8 0 y≤2:=fun y hy=>by
 simp only [List.mem_cons,List.not_mem_nil,or_false] at hy
 rcases hy with rfl | rfl
 ·exact ⟨j8 (by decide) (by decide) (by decide) (by decide) (by decide) (by decide) (by decide) (by decide),j8 (by decide) (by decide) (by decide) (by decide) (by decide) (by decide) (by decide) (by decide),by decide⟩
 ·exact ⟨j8 (by decide) (by decide) (by decide) (by decide) (by decide) (by decide) (by decide) (by decide),j8 (by decide) (by decide) (by decide) (by decide) (by decide) (by decide) (by decide) (by decide),by decide⟩
theorem In8.big {y : Nat→Int} {a b:Int} (h:In8 y 0 a) (hab:a≤b):In8 y 0 b:=fun j hj=>by
 have:=h j hj
 omega
theorem A13 : ∃ N f,HilC lA 2 N f:=Id 2 2 2 lA (by decide) (by decide) (by decide) (by decide) (fun y hy=>(Jb y hy).1.big (by decide)) (fun y hy=>(Jb y hy).2.1) (fun y hy=>(Jb y hy).2.2) (by decide)
theorem A12 : ∃ N f,HilC lB 2 N f:=Id 2 2 2 lB (by decide) (by decide) (by decide) (by decide) (fun y hy=>(On y hy).1.big (by decide)) (fun y hy=>(On y hy).2.1) (fun y hy=>(On y hy).2.2) (by decide)
theorem SM (q : Nat→Int):IsMin [q] [q]:=⟨List.pairwise_singleton _ _,fun x=>⟨fun h=>⟨h,fun y hy hd=>by
 rw [List.mem_singleton.1 hy] at hd ⊢
 obtain ⟨a,ha,e⟩:=h
 rwa [List.mem_singleton.1 ha] at e⟩,fun h=>h.1⟩⟩
theorem SN : IsMin [] []:=⟨List.Pairwise.nil,fun x=>⟨fun ⟨a,ha,_⟩=>(by cases ha),fun ⟨⟨a,ha,_⟩,_⟩=>(by cases ha)⟩⟩
def fA : Nat→Int
 | 0=>1
 | 2=>-2
 | 3=>1
 | _=>0
theorem Rx (a : Nat→Int) (N:Nat) (h8:SupN 8 a) (hN:Cd 8 0 a+1≤N):NumL [a] (HF (fun d=>dlt d - EZ (Cd 8 0 a) dlt d) N) fun d=>dlt d - EZ (Cd 8 0 a) dlt d :=
 NumL.cons NumL.nil NumL.nil SN (fun y hy=>by cases hy) h8 N (by omega) (.inl hN)
theorem Wp {n : Nat} {a:Nat→Int} (h:SupN n a):SupN 8 a:=fun j hj=>⟨(h j hj).1,fun h=>by omega⟩
theorem A10 : ∃ F:Nat→Int,NumL lA 4 F∧∀ i,i<4→F i = fA i:=by
 have h1:=Rx WN 3 (Wp (Jb WN (by simp)).2.1) (by decide)
 have h2:=Rx (qM WN ZX) 2 (fun j hj=>⟨Yk WN ZX (fun j hj=>((Jb WN (by simp)).2.1 j hj).1) j hj,fun h=>by omega⟩) (by decide)
 have h3:=NumL.cons (rest:=[WN]) (R:=[qM WN ZX]) (a:=ZX) h1 h2 (SM _) (fun y hy=>by rw [List.mem_singleton.1 hy];exact Wp (Jb WN (by simp)).2.1) (Wp (Jb ZX (by simp)).2.1) 4 (by decide) (.inl (by decide))
 refine ⟨_,h3,fun i hi=>?_⟩
 have:i = 0∨i = 1∨i = 2∨i = 3:=by omega
 rcases this with rfl | rfl | rfl | rfl <;> decide
theorem Abs.le_ {P : Program} {f:FuncId} {ds:List D} {r r':D} (h:Abs P f ds r) (hr:D.le r r'):Abs P f ds r' :=
 ⟨h.1,fun s vs h1 h2 h3=>(h.2 s vs h1 h2 h3).mono fun e w' ⟨v,he,s',hw,hl,hv⟩=>⟨v,he,s',hw,hl,hr s' v hv⟩⟩
theorem dmA : FX lA 2 = 1:=by decide +kernel
theorem dmB : FX lB 2 = 0:=by decide +kernel
theorem mxA : YU lA (2 ^ 2) = [2]:=by decide +kernel
theorem A0Z : (Abs Tryz.prog 14 [BF lA,ex (.int .i64 2)] (DC [nD 4 fA,ex (.int .i64 0)]))∧(Abs Tryz.prog 22 [BF lA,ex (.int .i64 2)] (DC [ex (.int .i64 1),ex (.int .i64 0)]))∧(Abs Tryz.prog 24 [BF lA,ex (.int .i64 2)] (DC [ex (.int .i64 1),ex (.int .i64 0)]))∧(∃ F:Nat→Rat,F 0 = ((1:Int):Rat)∧Abs Tryz.prog 26 [BF lA,ex (.int .i64 2)] (DC [DZ 1 F,ex (.int .i64 0)]))∧(Abs Tryz.prog 16 [BF lA,ex (.int .i64 2),ex (.int .i64 3)] (DC [ex (.int .i64 1),ex (.int .i64 0)]))∧(Abs Tryz.prog 18 [BF lA,ex (.int .i64 2)] (DC [Sr [2],ex (.int .i64 0)]))∧(Abs Tryz.prog 28 [BF lA,ex (.int .i64 2)] (DC [ex (.slice none 0 0),ex (.int .i64 160)])):=by
 obtain ⟨N,f,hc⟩:=A13
 obtain ⟨F,hF,hFv⟩:=A10
 have h8:∀ a∈lA,SupN 8 a:=fun a ha=>Wp (Jb a ha).2.1
 obtain ⟨rfl,rfl⟩:=hc.num.inj hF h8
 have e0:f = fun i=>fA i:=funext fun i=>by
  by_cases hi:i<4
  ·exact hFv i hi
  ·rw [hF.far i (by omega)]
   match i,hi with
   | i+4,_=>rfl
 have e0:f = fA:=e0
 subst e0
 have d1:FX lA 2 = ((1:Nat):Int):=dmA
 have hq:=hc.qb 1 d1
 have hcc:=hc.cc 1 d1
 have hcd:=hc.cd
 rw [dmA] at hcd
 have hcg:=hc.cg
 have eg:Xh lA 2 4 fA = 1:=by
  unfold Xh
  rw [dmA]
  decide +kernel
 rw [eg] at hcg
 refine ⟨GX lA 2 4 fA hc.ck hc.cn,TD lA 2 1 hc.ck hcd,VX lA 2 1 hc.ck hcg,?_,?_,?_,Tg lA 2 1 (by decide) hc.ck hcd⟩
 ·have hp := Tw lA 2 1 (cN 4 fA (2 - 1)).1 (Cy (2 - 1) fA) (by decide) (by decide) (by decide) hq hc.ck hcd hcc
  have e1:(pH (Cy (2 - 1) fA) 1 (cN 4 fA (2 - 1)).1).1 = 1:=by decide +kernel
  rw [e1] at hp
  exact ⟨_,by decide +kernel,hp⟩
 ·have hp := TE lA 2 3 4 fA 4096 (by decide) (by decide) hc.ck hc.cn hc.num.far (fun t _ => hc.bnd t) (by decide)
  have e1:Cy 2 fA 3 = 1:=by decide +kernel
  rw [e1] at hp
  exact hp
 ·have hp := TB lA 2 (by decide) (by decide) hc.ck
  rw [mxA] at hp
  exact hp
theorem A0X : IsStd lB 2 [mz,my]:=by
 refine ⟨?_,fun x=>⟨fun ⟨a,ha,e⟩=>?_,fun hx=>?_⟩⟩
 ·rw [List.pairwise_cons]
  refine ⟨fun b hb=>?_,List.pairwise_singleton _ _⟩
  rw [List.mem_singleton.1 hb]
  decide +kernel
 ·simp only [List.mem_cons,List.not_mem_nil,or_false] at ha
  have key:StdX lB 2 a:=by
   rcases ha with rfl | rfl
   ·exact ⟨j8 (by decide) (by decide) (by decide) (by decide) (by decide) (by decide) (by decide) (by decide),by decide +kernel⟩
   ·exact ⟨j8 (by decide) (by decide) (by decide) (by decide) (by decide) (by decide) (by decide) (by decide),by decide +kernel⟩
  exact key.congr e
 ·have h1:¬ Dv mx x:=fun hd=>by
   have:=(CS (l:=lB)).2 ⟨mx,List.mem_cons_self,hd⟩
   rw [hx.2] at this
   cases this
  have h2:¬ Dv my2 x:=fun hd=>by
   have:=(CS (l:=lB)).2 ⟨my2,List.mem_cons_of_mem _ List.mem_cons_self,hd⟩
   rw [hx.2] at this
   cases this
  have hn:∀ j,j<8→0≤x j:=fun j hj=>(hx.1 j hj).1
  have hz:∀ j,j<8→2≤j→x j = 0:=fun j hj h=>(hx.1 j hj).2 h
  have h0:x 0 = 0:=by
   refine Classical.byContradiction fun hne=>h1 fun j hj=>?_
   by_cases e:j = 0
   ·subst e
    have:=hn 0 (by omega)
    show (1:Int)≤x 0
    omega
   ·have:mx j = 0:=by
     match j,e with
     | j+1,_=>rfl
    rw [this]
    exact hn j hj
  have h3:x 1<2:=by
   refine Classical.byContradiction fun hne=>h2 fun j hj=>?_
   by_cases e:j = 1
   ·subst e
    show (2:Int)≤x 1
    omega
   ·have:my2 j = 0:=by
     match j,e with
     | 0,_=>rfl
     | j+2,_=>rfl
    rw [this]
    exact hn j hj
  have h4:=hn 1 (by omega)
  by_cases h5:x 1 = 0
  ·exact ⟨mz, by simp, fun j hj => by
    show 0 = x j
    by_cases e:2≤j
    ·exact (hz j hj e).symm
    ·have : j = 0 ∨ j = 1 := by omega
     rcases this with rfl | rfl <;> omega⟩
  ·refine ⟨my, by simp, fun j hj => ?_⟩
   match j,hj with
   | 0,_=>exact h0.symm
   | 1,_=>show (1:Int) = x 1;omega
   | j+2,hj=>exact (hz (j+2) hj (by omega)).symm
theorem A0Y : Abs Tryz.prog 28 [BF lB,ex (.int .i64 2)] (DC [BF [mz,my],ex (.int .i64 0)]):=by
 obtain ⟨N,f,hc⟩:=A12
 have h:=Vy (E:=1) hc (by decide) (by decide) (fun y hy=>(On y hy).2.1) (fun a ha j hj=>((On a ha).1 j hj).2) (by decide) (by rw [dmB];decide) (by decide)
 exact h.le_ (Cr (fun s v ⟨S,hS,hv⟩=>by rw [← hS.same A0X];exact hv) (D.le.refl _))
theorem PM : Abs Tryz.prog 11 [] (ex (.bool true)):=by
 obtain ⟨c1,c2,c3,⟨F,hF,c4⟩,c5,c6,c8⟩:=A0Z
 have c7:=A0Y
 have cq:Abs Tryz.prog 41 [By (CJ (F 0)),By (CJ q1)] (ex (.bool true)):=by
  have:=Qu (F 0) q1
  rwa [decide_eq_true hF] at this
 refine Ab Tryz.func11 fun s0=>?_
 rw [Tryz.ntmps11]
 refine Y1<|Wa<|Y0<|Y1 ?_;(refine Dq rfl rfl ?_;(refine Fv (Ac rfl) (Ac rfl) rfl rfl ?_;(repeat ((first | refine ⟨_,Bw (ao rfl),?_⟩ | refine ⟨_,Po rfl,?_⟩);refine ⟨_,rfl,?_⟩));refine ⟨_,rfl,?_⟩));(refine Dq rfl rfl ?_;(refine Fv (Ac rfl) (Ac rfl) rfl rfl ?_;(repeat ((first | refine ⟨_,Bw (ao rfl),?_⟩ | refine ⟨_,Po rfl,?_⟩);refine ⟨_,rfl,?_⟩));refine ⟨_,rfl,?_⟩));(refine Dq rfl rfl ?_;(refine DL (Ac rfl) (Ac rfl) rfl rfl rfl rfl rfl ?_;(repeat ((first | refine ⟨_,Bw (ao rfl),?_⟩ | refine ⟨_,Po rfl,?_⟩);refine ⟨_,rfl,?_⟩));refine ⟨_,rfl,?_⟩));refine Wa<|Y0<|Y1<|Wm ?_;refine Wq (Am (c1)) ?_;refine Wm ?_;refine Wq BY ?_;refine Wq BY ?_;refine Wa<|Wa<|Y0<|Y1<|Wm ?_;refine Wq (Am (c2)) ?_;refine Wm ?_;refine Wq BY ?_;refine Wq BY ?_;refine Wa<|Wa<|Y0<|Y1<|Wm ?_;refine Wq (Am (c3)) ?_;refine Wm ?_;refine Wq BY ?_;refine Wq BY ?_;refine Wa<|Wa<|Y0<|Y1<|Wm ?_;refine Wq (Am (c4)) ?_;refine Wm ?_;refine Wq BY ?_;refine Wq BY ?_;refine Wa<|Wa<|Y0<|Y1<|Wm ?_;refine Wq (Am (c5)) ?_;refine Wm ?_;refine Wq BY ?_;refine Wq BY ?_;refine Wa<|Wa<|Y0<|Y1<|Wm ?_;refine Wq (Am (c6)) ?_;refine Wm ?_;refine Wq BY ?_;refine Wq BY ?_;refine Wa<|Wa<|Y0<|Y1 ?_;(refine Dq rfl rfl ?_;(refine Fv (Ac rfl) (Ac rfl) rfl rfl ?_;(repeat ((first | refine ⟨_,Bw (ao rfl),?_⟩ | refine ⟨_,Po rfl,?_⟩);refine ⟨_,rfl,?_⟩));refine ⟨_,rfl,?_⟩));(refine Dq rfl rfl ?_;(refine Fv (Ac rfl) (Ac rfl) rfl rfl ?_;(repeat ((first | refine ⟨_,Bw (ao rfl),?_⟩ | refine ⟨_,Po rfl,?_⟩);refine ⟨_,rfl,?_⟩));refine ⟨_,rfl,?_⟩));(refine Dq rfl rfl ?_;(refine DL (Ac rfl) (Ac rfl) rfl rfl rfl rfl rfl ?_;(repeat ((first | refine ⟨_,Bw (ao rfl),?_⟩ | refine ⟨_,Po rfl,?_⟩);refine ⟨_,rfl,?_⟩));refine ⟨_,rfl,?_⟩));refine Wq (Am (c7)) ?_;refine Wm ?_;refine Wq BY ?_;refine Wq BY ?_;refine Wa<|Wa<|Y0<|Y1<|Wm ?_;refine Wq (Am (c8)) ?_;refine Wm ?_;refine Wq BY ?_;refine Wq BY ?_;refine Wa<|Wa<|Y0<|Y1<|Wm ?_;refine Wq Aq ?_;refine Wm ?_;refine Wg Af ?_;refine Wg Aq ?_;refine Wq AZ ?_;refine Wm ?_;refine Wg Af ?_;refine Wg Aq ?_;refine Wq AZ ?_;refine Wm ?_;refine Wg Af ?_;refine Wg Aq ?_;refine Wq AZ ?_;refine Wm ?_;refine Wg Af ?_;refine Wg Aq ?_;refine Wq AZ ?_;refine Wm ?_;refine Wg Af ?_;refine Wg Aq ?_;refine Wq AZ ?_;refine Wm ?_;refine Wg Af ?_;refine Wg Aq ?_;refine Wq AZ ?_;refine Wm ?_;refine Wg Af ?_;refine Wg Aq ?_;refine Wq AZ ?_;refine Wa<|Y0<|Aa ?_
 refine Dr [[],[(94,0)],[],[],[(96,2),(97,3)],[(95,1),(98,4)],[(99,5)],[],[(101,7)],[(100,6),(102,8)],[(103,9)],[],[(105,11)],[(104,10),(106,12)],[(107,13)],[],[(109,15)],[(110,16)],[(108,14),(111,17)],[(112,18)],[],[(114,20)],[(115,21)],[],[(116,22),(117,23)],[(113,19),(118,24)],[(119,25)],[],[(121,27)],[(120,26),(122,28)],[(123,29)],[],[],[(125,31),(126,32)],[(124,30),(127,33)],[(128,34)],[],[],[],[(131,37),(132,38)],[(130,36),(133,39)],[(129,35),(134,40)]] [[],[0],[0,1],[0,1],[0,1,2,3],[0,1,2,3,4],[0,1,2,3,4,5],[0,1,2,3,4,5,6],[0,1,2,3,4,5,6,7],[0,1,2,3,4,5,6,7,8],[0,1,2,3,4,5,6,7,8,9],[0,1,2,3,4,5,6,7,8,9,10],[0,1,2,3,4,5,6,7,8,9,10,11],[0,1,2,3,4,5,6,7,8,9,10,11,12],[0,1,2,3,4,5,6,7,8,9,10,11,12,13],[0,1,2,3,4,5,6,7,8,9,10,11,12,13,14],[0,1,2,3,4,5,6,7,8,9,10,11,12,13,14,15],[0,1,2,3,4,5,6,7,8,9,10,11,12,13,14,15,16],[0,1,2,3,4,5,6,7,8,9,10,11,12,13,14,15,16,17],[0,1,2,3,4,5,6,7,8,9,10,11,12,13,14,15,16,17,18],[0,1,2,3,4,5,6,7,8,9,10,11,12,13,14,15,16,17,18,19],[0,1,2,3,4,5,6,7,8,9,10,11,12,13,14,15,16,17,18,19,20],[0,1,2,3,4,5,6,7,8,9,10,11,12,13,14,15,16,17,18,19,20,21],[0,1,2,3,4,5,6,7,8,9,10,11,12,13,14,15,16,17,18,19],[0,1,2,3,4,5,6,7,8,9,10,11,12,13,14,15,16,17,18,19,20,21,22,23],[0,1,2,3,4,5,6,7,8,9,10,11,12,13,14,15,16,17,18,19,20,21,22,23,24],[0,1,2,3,4,5,6,7,8,9,10,11,12,13,14,15,16,17,18,19,20,21,22,23,24,25],[0,1,2,3,4,5,6,7,8,9,10,11,12,13,14,15,16,17,18,19,20,21,22,23,24,25,26],[0,1,2,3,4,5,6,7,8,9,10,11,12,13,14,15,16,17,18,19,20,21,22,23,24,25,26,27],[0,1,2,3,4,5,6,7,8,9,10,11,12,13,14,15,16,17,18,19,20,21,22,23,24,25,26,27,28],[0,1,2,3,4,5,6,7,8,9,10,11,12,13,14,15,16,17,18,19,20,21,22,23,24,25,26,27,28,29],[0,1,2,3,4,5,6,7,8,9,10,11,12,13,14,15,16,17,18,19,20,21,22,23,24,25,26,27,28,29,30],[0,1,2,3,4,5,6,7,8,9,10,11,12,13,14,15,16,17,18,19,20,21,22,23,24,25,26,27,28,29,30],[0,1,2,3,4,5,6,7,8,9,10,11,12,13,14,15,16,17,18,19,20,21,22,23,24,25,26,27,28,29,30,31,32],[0,1,2,3,4,5,6,7,8,9,10,11,12,13,14,15,16,17,18,19,20,21,22,23,24,25,26,27,28,29,30,31,32,33],[0,1,2,3,4,5,6,7,8,9,10,11,12,13,14,15,16,17,18,19,20,21,22,23,24,25,26,27,28,29,30,31,32,33,34],[0,1,2,3,4,5,6,7,8,9,10,11,12,13,14,15,16,17,18,19,20,21,22,23,24,25,26,27,28,29,30,31,32,33,34,35],[0,1,2,3,4,5,6,7,8,9,10,11,12,13,14,15,16,17,18,19,20,21,22,23,24,25,26,27,28,29,30,31,32,33,34,35],[0,1,2,3,4,5,6,7,8,9,10,11,12,13,14,15,16,17,18,19,20,21,22,23,24,25,26,27,28,29,30,31,32,33,34,35],[0,1,2,3,4,5,6,7,8,9,10,11,12,13,14,15,16,17,18,19,20,21,22,23,24,25,26,27,28,29,30,31,32,33,34,35,37,38],[0,1,2,3,4,5,6,7,8,9,10,11,12,13,14,15,16,17,18,19,20,21,22,23,24,25,26,27,28,29,30,31,32,33,34,35,36,37,38,39],[0,1,2,3,4,5,6,7,8,9,10,11,12,13,14,15,16,17,18,19,20,21,22,23,24,25,26,27,28,29,30,31,32,33,34,35,36,37,38,39,40]] ?_
 refine Xq Af ?_;refine Xq Af ?_;refine Xg Af ?_;(refine HqG rfl rfl ?_;refine DL (Ac rfl) (Ac rfl) rfl rfl rfl rfl rfl ?_;(repeat ((first | refine ⟨_,Bw (ah rfl),?_⟩ | refine ⟨_,Po rfl,?_⟩);refine ⟨_,rfl,?_⟩));refine ⟨_,rfl,?_⟩;refine ⟨_,rfl,?_⟩);refine Xg (Am (Xz 4 fA (by decide))) ?_;refine Xq AZ ?_;refine Xq Af ?_;refine Xg Af ?_;refine Xg Aq ?_;refine Xq AZ ?_;refine Xq Af ?_;refine Xg Af ?_;refine Xg Aq ?_;refine Xq AZ ?_;refine Xq Af ?_;refine Xg Af ?_;(refine ⟨_,Is rfl rfl (DN (F:=CQ F) rfl (Ac rfl)),?_⟩;refine ⟨_,rfl,?_⟩);refine Xg Aq ?_;refine Xq AZ ?_;refine Xq Af ?_;refine Xg Af ?_;(refine ⟨_,Is rfl rfl (No (F:=CQ F) (k:=0) rfl (ah rfl) (Ac rfl) (Ac rfl) rfl (by decide)),?_⟩;refine ⟨_,rfl,?_⟩);refine Xg AI ?_;refine Xg (Am (Qr 1 (by omega) (by omega))) ?_;refine Xg (Am (cq)) ?_;refine Xq AZ ?_;refine Xq Af ?_;refine Xg Af ?_;refine Xg Aq ?_;refine Xq AZ ?_;refine Xq Af ?_;refine Xg Af ?_;(refine HqG rfl rfl ?_;refine DL (Ac rfl) (Ac rfl) rfl rfl rfl rfl rfl ?_;(repeat ((first | refine ⟨_,Bw (ah rfl),?_⟩ | refine ⟨_,Po rfl,?_⟩);refine ⟨_,rfl,?_⟩));refine ⟨_,rfl,?_⟩;refine ⟨_,rfl,?_⟩);refine Xg (Am (Xy [2])) ?_;refine Xq AZ ?_;refine Xq Af ?_;refine Xg Af ?_;(refine HqG rfl rfl ?_;refine Fv (Ac rfl) (Ac rfl) rfl rfl ?_;(repeat ((first | refine ⟨_,Bw (ah rfl),?_⟩ | refine ⟨_,Po rfl,?_⟩);refine ⟨_,rfl,?_⟩));refine ⟨_,rfl,?_⟩;refine ⟨_,rfl,?_⟩);(refine HqG rfl rfl ?_;refine Fv (Ac rfl) (Ac rfl) rfl rfl ?_;(repeat ((first | refine ⟨_,Bw (ah rfl),?_⟩ | refine ⟨_,Po rfl,?_⟩);refine ⟨_,rfl,?_⟩));refine ⟨_,rfl,?_⟩;refine ⟨_,rfl,?_⟩);(refine HqG rfl rfl ?_;refine DL (Ac rfl) (Ac rfl) rfl rfl rfl rfl rfl ?_;(repeat ((first | refine ⟨_,Bw (ah rfl),?_⟩ | refine ⟨_,Po rfl,?_⟩);refine ⟨_,rfl,?_⟩));refine ⟨_,rfl,?_⟩;refine ⟨_,rfl,?_⟩);refine Xg (Am (XA [mz,my] (by decide))) ?_;refine Xq AZ ?_;refine ⟨_,rfl,?_⟩
 refine Wa<|Y0 ?_;apply At
 exact Yf
theorem Nl {P : Program} {hp:List Ow} {arg:Operand→AV} {dd:Option Tmp} {ty:TypeId} {ps:String} {af:Array Edge} {gd:Option (Nat × Bool)} {T U:TypeId} {x y:Operand} {k:IntKind} {a b:Nat} (hx:arg x = .d (ex (.int k (a:Nat)))) (hy:arg y = .d (ex (.int k (b:Nat)))) (hb:0<b):Quiet P hp ⟨dd,.binOp .rem T x y U,ty,ps,af,gd⟩ arg (.d (ex (.int k ((a % b:Nat):Int)))):=by
 have:=Zp (dd:=dd) (T:=T) (U:=U) (ty:=ty) (ps:=ps) (af:=af) (gd:=gd) (hp:=hp) (P:=P) hx hy (by omega) (by omega)
 rwa [← Int.natCast_emod] at this
abbrev R4 := Nat→Nat
def YL (r : R4):List D:=[ex (.int .u8 ((r 0:Nat):Int)),ex (.int .u8 ((r 1:Nat):Int)),ex (.int .u8 ((r 2:Nat):Int)),ex (.int .u8 ((r 3:Nat):Int))]
def ZW (T : Nat) (X:List R4):D:=slD T 4 (X.map YL)
instance A0Q : Inhabited R4:=⟨fun _=>0⟩
abbrev PO (X : List R4) (k:Nat):R4:=X.getD k default
def KJ (r : R4):Prop:=∀ j,j<4→r j<256
theorem QM {r : R4} {k:Nat} (h:k<4):CellAt ((YL r).drop (k*1)) 0 (ex (.int .u8 ((r k:Nat):Int))):=by
 have:k = 0∨k = 1∨k = 2∨k = 3:=by omega
 rcases this with rfl | rfl | rfl | rfl <;> exact ⟨by simp [YL],rfl⟩
theorem Tv {P : Program} {hp:List Ow} {arg:Operand→AV} {dd:Option Tmp} {ty:TypeId} {ps:String} {af:Array Edge} {gd:Option (Nat × Bool)} {S T:TypeId} {x:Operand} {k:IntKind} {a:Nat} {d:TypeDesc} {n b n' b':Nat} {z z':Value} (hx:arg x = .d (ex (.int k (a:Nat)))) (hS:Tab P S d n b z) (hT:Tab P T (.int .i64) n' b' z') (h:a<256):Quiet P hp ⟨dd,.convert S T x,ty,ps,af,gd⟩ arg (.d (ex (.int .i64 (a:Nat)))):=GV hx hS hT (by omega) (by omega)
def UK (n top:Nat) (r:R4) (j:Nat):Int:=if j<n∧j<4 then ((r j % (top+1):Nat):Int) else 0
def YT (top : Nat) (r:R4) (k j:Nat):Int:=if j<k then ((r j % (top+1):Nat):Int) else 0
theorem UJ (top : Nat) (r:R4):YT top r 0 = fun _=>0:=funext fun j=>if_neg (by omega)
theorem WT (top : Nat) (r:R4) (k:Nat):HM (YT top r k) k ((r k % (top+1):Nat):Int) = YT top r (k+1):=by
 funext j
 unfold HM YT
 by_cases h:j = k
 ·subst h
  rw [if_pos rfl,if_pos (by omega)]
 ·rw [if_neg h]
  by_cases h2:j<k
  ·rw [if_pos h2,if_pos (by omega)]
  ·rw [if_neg h2,if_neg (by omega)]
theorem RB (n top:Nat) (r:R4):YT top r (min n 4) = UK n top r:=by
 funext j
 unfold YT UK
 by_cases h:j<n∧j<4
 ·rw [if_pos h,if_pos (by omega)]
 ·rw [if_neg h,if_neg (by omega)]
def LQ (X : List R4) (n most top:Nat):Ae:=(X.take most).map (UK n top)
theorem Ob {X : List R4} {n top k:Nat} (h:k<X.length):LQ X n k top ++ [UK n top (PO X k)] = LQ X n (k+1) top:=by
 unfold LQ
 rw [List.take_add_one,List.getElem?_eq_getElem h,List.map_append]
 have:PO X k = X[k]:=by
  rw [PO,List.getD_eq_getElem?_getD,List.getElem?_eq_getElem h]
  rfl
 rw [this]
 rfl
theorem RC (X : List R4) (n k top:Nat):(LQ X n k top).length≤k:=by
 unfold LQ
 rw [List.length_map,List.length_take]
 exact Nat.min_le_left _ _
theorem Pq (T : Nat) (X:List R4) (n most top:Nat) (hX:∀ r∈X,KJ r) (hn:n≤1000) (hm:most≤1000) (ht:top≤1000):Abs Tryz.prog 13 [ZW T X,ex (.int .i64 (n:Nat)),ex (.int .i64 (most:Nat)),ex (.int .i64 (top:Nat))] (BF (LQ X n most top)):=by
 have hd:D.le (slD 55 8 ((LQ X n (min X.length most) top).map AC)) (BF (LQ X n most top)):=by
  refine Es ?_
  have:LQ X n (min X.length most) top = LQ X n most top:=by
   unfold LQ
   by_cases h:X.length≤most
   ·rw [Nat.min_eq_left h,List.take_of_length_le (Nat.le_refl _),List.take_of_length_le h]
   ·rw [Nat.min_eq_right (by omega)]
  rw [this]
  rfl
 refine Ab Tryz.func13 fun s0=>?_
 rw [Tryz.ntmps13]
 refine Y1<|Wa<|Y0<|Y1 ?_;refine GH (Ac rfl) (Ac rfl) rfl rfl rfl rfl rfl ?_;refine Wa<|Y0<|Aa<|Y1<|Wa<|Y0<|AWp.block ?_
 refine AK (fun mz σ=>∃ k,k≤min X.length most∧mz = min X.length most - k∧σ = ⟨[(0,.d (ZW T X)),(1,.d (ex (.int .i64 (n:Nat)))),(2,.d (ex (.int .i64 (most:Nat)))),(3,.d (ex (.int .i64 (top:Nat)))),(9,.own 0),(10,.d (ex (.int .i64 (k:Nat))))],[.row 55 8 ((LQ X n k top).map AC)]⟩) ?le ⟨0,by omega,rfl,rfl⟩ ?round
 case le=>exact Ag (by exact Yd<|Yd<|Yd<|Yd<|FrLe.cons rfl (AVle.own rfl)<|Yd<|FrLe.nil) (by exact Yr<|HpLe.nil)
 case round =>
  rintro mz _ ⟨k,hk,rfl,rfl⟩
  by_cases hlt:k<min X.length most
  ·have hkl : k < X.length := by omega
   have hkm:((k:Nat):Int)<((most:Nat):Int):=by omega
   have hkx:((k:Nat):Int)<((X.length:Nat):Int):=by omega
   have hml:=RC X n k top
   have hr:KJ (PO X k):=hX _ (by
    rw [PO,List.getD_eq_getElem?_getD,List.getElem?_eq_getElem hkl]
    exact List.getElem_mem hkl)
   refine Aa<|Y1<|Wm<|Wm ?_;refine Wq Bz ?_;refine Wq Aq ?_;refine Wm ?_;refine Wg Af ?_;refine Wg Af ?_;refine Wg Aq ?_;refine Wq AZ ?_;apply Y0;refine Ct ?_;refine Ys<|Aa<|AWp.block<|Y1 ?_;(refine Dq rfl rfl ?_;(refine Fv (Ac rfl) (Ac rfl) rfl rfl ?_;(repeat ((first | refine ⟨_,Bw (ao rfl),?_⟩ | refine ⟨_,Po rfl,?_⟩);refine ⟨_,rfl,?_⟩));refine ⟨_,rfl,?_⟩));refine Al ?_;refine Sf ?_;refine Y0<|Aa<|Y1<|Wa<|Y0<|AWp.block ?_
   refine AK (fun mz σ=>∃ i,i≤min n 4∧mz = min n 4 - i∧σ = ⟨[(0,.d (ZW T X)),(1,.d (ex (.int .i64 (n:Nat)))),(2,.d (ex (.int .i64 (most:Nat)))),(3,.d (ex (.int .i64 (top:Nat)))),(9,.own 0),(10,.d (ex (.int .i64 (k:Nat)))),(11,.ptr 1 0),(12,.d (ex (.int .i64 (i:Nat))))],[.row 55 8 ((LQ X n k top).map AC),.var 55 ((AC (YT top (PO X k) i)).map .d)]⟩) ?lei ⟨0,by omega,rfl,rfl⟩ ?roundi
   case lei=>exact Ag (by exact Yd<|Yd<|Yd<|Yd<|FrLe.cons rfl (AVle.own rfl)<|Yd<|Yp<|Yd<|FrLe.nil) (by apply Yr;(refine HpLe.cons (CO (by rw [UJ];rfl)) ?_);exact HpLe.nil)
   case roundi =>
    rintro mz _ ⟨i,hi,rfl,rfl⟩
    by_cases hlti:i<min n 4
    ·have hi4 : i < 4 := by omega
     have hi8:i<8:=by omega
     have hin:((i:Nat):Int)<((n:Nat):Int):=by omega
     have hr1:=hr i hi4
     refine Aa<|Y1<|Wm<|Wm ?_;refine Wq Aq ?_;refine Wm ?_;refine Wg Af ?_;refine Wg Aq ?_;refine Wq AZ ?_;apply Y0;refine Ct ?_;refine Ys<|Aa<|AWp.block<|AWp.region<|Wm<|Wm<|Wm<|Wm ?_;refine Wq AQ ?_;refine Wq Zl ?_;refine Wq (VK (ao rfl) (Ac rfl) rfl (QM hi4)) ?_;refine Wq (Tv (ao rfl) (Ac rfl) (Ac rfl) hr1) ?_;refine Wm ?_;refine Wq AL ?_;refine Wq (Nl (a:=PO X k i) (b:=top+1) (ao rfl) (ao rfl) (by omega)) ?_;refine Wq BX ?_;(refine EX (ao rfl) (ao rfl) rfl (Ac rfl) (by first | exact CV rfl | exact One.sl | exact EG) (SetAt.mon (by first | omega | (simp;omega))) rfl ?_);apply AWl.nil;apply Aj;refine Yn<|AWp.region<|Wm ?_;refine Wq AL ?_;refine Wa ?_;apply AWl.nil
     refine ALoop.next (min n 4 - (i+1)) (by omega) ⟨i+1,by omega,rfl,rfl⟩ ?_
     exact Ag (by exact Yd<|Yd<|Yd<|Yd<|FrLe.cons rfl (AVle.own rfl)<|Yd<|Yp<|Yd<|FrLe.nil) (by exact Yr<|HpLe.cons (CO (by rw [WT]))<|HpLe.nil)
    ·have hi8 : ¬ (((i : Nat) : Int) < ((n : Nat) : Int) ∧ ((i : Nat) : Int) < 4) := by omega
     obtain rfl:i = min n 4:=by omega
     by_cases h4:n≤4
     ·have h5 : ¬ ((min n 4 : Nat) : Int) < ((n : Nat) : Int) := by omega
      refine Aa<|Y1<|Wm<|Wm ?_;refine Wq Ar ?_;refine Wm ?_;refine Ws ?_;refine Ws ?_;refine Wq BW ?_;apply Y0;refine Cf ?_;apply AD;apply Az;apply AA;apply ABlock.hit;refine Yn<|AWp.region<|Wm ?_;refine Wq AJ ?_;refine Wq (Cs (ao rfl) (Ac rfl) (Ac rfl) rfl rfl rfl rfl rfl) ?_;(refine Ap ?_);refine Wa ?_;apply AWl.nil;apply Aj;refine Yn<|AWp.region<|Wm ?_;refine Wq AL ?_;refine Wa ?_;apply AWl.nil
      rw [RB]
      skip
      refine ALoop.next (min X.length most - (k+1)) (by omega) ⟨k+1,by omega,rfl,rfl⟩ ?_
      exact Ag (by exact Yd<|Yd<|Yd<|Yd<|FrLe.cons rfl (AVle.own rfl)<|Yd<|FrLe.nil) (by refine HpLe.cons (CP ((DI AC _ _).trans (by rw [Ob hkl]))) ?_;exact HpLe.nil)
     ·have h5 : ((min n 4 : Nat) : Int) < ((n : Nat) : Int) := by omega
      have h6:¬ ((min n 4:Nat):Int)<4:=by omega
      refine Aa<|Y1<|Wm<|Wm ?_;refine Wq Aq ?_;refine Wm ?_;refine Wg Af ?_;refine Wg Ar ?_;refine Wq AZ ?_;apply Y0;refine Cf ?_;apply AD;apply Az;apply AA;apply ABlock.hit;refine Yn<|AWp.region<|Wm ?_;refine Wq AJ ?_;refine Wq (Cs (ao rfl) (Ac rfl) (Ac rfl) rfl rfl rfl rfl rfl) ?_;(refine Ap ?_);refine Wa ?_;apply AWl.nil;apply Aj;refine Yn<|AWp.region<|Wm ?_;refine Wq AL ?_;refine Wa ?_;apply AWl.nil
      rw [RB]
      skip
      refine ALoop.next (min X.length most - (k+1)) (by omega) ⟨k+1,by omega,rfl,rfl⟩ ?_
      exact Ag (by exact Yd<|Yd<|Yd<|Yd<|FrLe.cons rfl (AVle.own rfl)<|Yd<|FrLe.nil) (by refine HpLe.cons (CP ((DI AC _ _).trans (by rw [Ob hkl]))) ?_;exact HpLe.nil)
  ·obtain rfl : k = min X.length most := by omega
   by_cases h4:X.length≤most
   ·have h5 : ¬ ((min X.length most : Nat) : Int) < ((X.length : Nat) : Int) := by omega
    refine Aa<|Y1<|Wm<|Wm ?_;refine Wq Bz ?_;refine Wq Ar ?_;refine Wm ?_;refine Ws ?_;refine Ws ?_;refine Ws ?_;refine Wq BW ?_;apply Y0;refine Cf ?_;apply AD;apply Az;apply AA;apply ABlock.hit;refine Yn<|Y1<|Wm<|Wa<|Y0 ?_;apply At
    exact BA (Rets.of1 (ResV.tmp rfl rfl) (hd))
   ·have h5 : ((min X.length most : Nat) : Int) < ((X.length : Nat) : Int) := by omega
    have h6:¬ ((min X.length most:Nat):Int)<((most:Nat):Int):=by omega
    refine Aa<|Y1<|Wm<|Wm ?_;refine Wq Bz ?_;refine Wq Aq ?_;refine Wm ?_;refine Wg Af ?_;refine Wg Af ?_;refine Wg Ar ?_;refine Wq AZ ?_;apply Y0;refine Cf ?_;apply AD;apply Az;apply AA;apply ABlock.hit;refine Yn<|Y1<|Wm<|Wa<|Y0 ?_;apply At
    exact BA (Rets.of1 (ResV.tmp rfl rfl) (hd))
def inD (T : Nat) (X:List R4) (m:Nat):D:=By [ZW T X,ex (.int .u8 (m:Nat))]
theorem Mm {P : Program} {hp:List Ow} {arg:Operand→AV} {dd:Option Tmp} {ty:TypeId} {ps:String} {af:Array Edge} {gd:Option (Nat × Bool)} {S T:TypeId} {x:Operand} {k:IntKind} {a c:Nat} {d:TypeDesc} {n b n' b':Nat} {z z':Value} (hx:arg x = .d (ex (.int k ((a % c:Nat):Int)))) (hS:Tab P S d n b z) (hT:Tab P T (.int .i64) n' b' z') (h:a<256):Quiet P hp ⟨dd,.convert S T x,ty,ps,af,gd⟩ arg (.d (ex (.int .i64 ((a % c:Nat):Int)))):=GV hx hS hT (by omega) (by have:=Nat.mod_le a c;omega)
theorem TT (T : Nat) (X:List R4) (m:Nat) (hm:m<256):Abs Tryz.prog 12 [inD T X m] (ex (.int .i64 ((m % 5:Nat):Int))):=by
 refine Ab Tryz.func12 fun s0=>?_
 rw [Tryz.ntmps12]
 apply Y1;refine Bx ?_;refine Wa<|Y0<|Y1 ?_;refine Wq Ne ?_;refine Wq BM ?_;refine Wq (Nl (a:=m) (b:=5) (ao rfl) (ao rfl) (by decide)) ?_;refine Wq (Mm (ao rfl) (Ac rfl) (Ac rfl) hm) ?_;refine Wa<|Y0 ?_;apply At
 exact Yf
theorem UL (T : Nat) (X:List R4) (m:Nat) (hm:m<256) (hX:∀ r∈X,KJ r):Abs Tryz.prog 32 [inD T X m] (BF (LQ X (m % 5) 5 4)):=by
 have c:=Pq T X (m % 5) 5 4 hX (by omega) (by decide) (by decide)
 refine Ab Tryz.func32 fun s0=>?_
 rw [Tryz.ntmps32]
 apply Y1;refine Bx ?_;refine Wa<|Y0<|Y1 ?_;refine Wq Ne ?_;refine Wq BM ?_;refine Wq Ne ?_;refine Wq BM ?_;refine Wq (Nl (a:=m) (b:=5) (ao rfl) (ao rfl) (by decide)) ?_;refine Wq (Mm (ao rfl) (Ac rfl) (Ac rfl) hm) ?_;refine Wq (Am (c)) ?_;refine Wa<|Y0 ?_;apply At
 exact Yf
def Wl (m z:Nat→Int):Bool:=HG z m || !Ge 8 0 z m
def Lf (m : Nat→Int) (L:Ae):Bool:=L.all (Wl m)
theorem WW {m : Nat→Int} {L:Ae} (h:∀ j,j<L.length→Wl m (AH L j) = true):Lf m L = true:=by
 unfold Lf
 rw [List.all_eq_true]
 intro z hz
 obtain ⟨j,hj,rfl⟩:=List.getElem_of_mem hz
 have:=h j hj
 rwa [AH,List.getD_eq_getElem?_getD,List.getElem?_eq_getElem hj] at this
theorem YW {m : Nat→Int} {L:Ae} {j:Nat} (hj:j<L.length) (h:Wl m (AH L j) = false):Lf m L = false:=by
 rw [AH,List.getD_eq_getElem?_getD,List.getElem?_eq_getElem hj] at h
 have h:Wl m L[j] = false:=h
 refine Bool.eq_false_iff.2 fun h2=>?_
 have:=List.all_eq_true.1 h2 L[j] (List.getElem_mem hj)
 rw [h] at this
 cases this
theorem PX (m : Nat→Int) (L:Ae) (hL:L.length≤1000000):Abs Tryz.prog 99 [By (AC m),BF L] (ex (.bool (Lf m L))):=by
 refine Ab Tryz.func99 fun s0=>?_
 rw [Tryz.ntmps99]
 apply Y1;refine Bx ?_;refine Wa<|Y0<|Aa<|Y1<|Wa<|Y0<|AWp.block ?_
 refine AK (fun mz σ=>∃ k,k≤L.length∧(∀ j,j<k→Wl m (AH L j) = true)∧mz = L.length - k∧σ = ⟨[(1,.d (BF L)),(2,.ptr 0 0),(5,.d (ex (.int .i64 (k:Nat))))],[.var 55 ((AC m).map .d)]⟩) ?le ⟨0,by omega,fun j hj=>absurd hj (Nat.not_lt_zero j),rfl,rfl⟩ ?round
 case le=>exact Ag (by exact Yd<|Yp<|Yd<|FrLe.nil) (by exact Yv<|HpLe.nil)
 case round =>
  rintro mz _ ⟨k,hk,hok,rfl,rfl⟩
  by_cases hlt:k<L.length
  ·have cd:=WE (AH L k) m
   cases he:HG (AH L k) m
   ·cases hd:Ge 8 0 (AH L k) m
    ·rw [hd] at cd
     refine Aa<|Y1<|Wm<|Wm ?_;refine Wq Bz ?_;refine Wq Aq ?_;apply Y0;refine Ct ?_;refine Ys<|Aa<|AWp.block<|Aa ?_
     refine Dr [[],[],[(12,0),(13,1)],[(14,2)],[],[(15,3),(16,4)],[(17,5)],[],[],[(19,7),(20,8)],[(21,9)],[],[(22,10),(23,11)],[(18,6),(24,12)]] [[],[],[0,1],[0,1,2],[],[0,1,2,3,4],[0,1,2,3,4,5],[0,1,2,3,4,5,6],[0,1,2,3,4,5,6],[0,1,2,3,4,5,6,7,8],[0,1,2,3,4,5,6,7,8,9],[0,1,2,3,4,5,6],[0,1,2,3,4,5,6,7,8,9,10,11],[0,1,2,3,4,5,6,7,8,9,10,11,12]] ?_
     refine Xq Af ?_;refine Xq Af ?_;refine Xq AQ ?_;refine Xq AI ?_;refine Xq AJ ?_;(refine Xq (IR (a:=AH L k) (b:=m) (ah rfl) (ah rfl) he) ?_);refine Xq Af ?_;refine Xg Af ?_;refine Xg Af ?_;refine Xg AQ ?_;refine Xg AI ?_;refine Xg AJ ?_;refine Xg (Am (cd)) ?_;refine Xq AZ ?_;refine ⟨_,rfl,?_⟩
     apply Y0;refine Cf ?_;apply Bk;apply Aj;refine Yn<|AWp.region<|Wm ?_;refine Wq AL ?_;refine Wa ?_;apply AWl.nil
     refine ALoop.next (L.length - (k+1)) (by omega) ⟨k+1,by omega,?_,rfl,rfl⟩ ?_
     ·intro j hj
      by_cases hjk:j = k
      ·subst hjk
       rw [Wl,he,hd]
       rfl
      ·exact hok j (by omega)
     ·exact Ag (by exact Yd<|Yp<|Yd<|FrLe.nil) (by exact Yv<|HpLe.nil)
    ·rw [hd] at cd
     have hno:Lf m L = false:=YW hlt (by rw [Wl,he,hd];rfl)
     rw [hno]
     refine Aa<|Y1<|Wm<|Wm ?_;refine Wq Bz ?_;refine Wq Aq ?_;apply Y0;refine Ct ?_;refine Ys<|Aa<|AWp.block<|Aa ?_
     refine Dr [[],[],[(12,0),(13,1)],[(14,2)],[],[(15,3),(16,4)],[(17,5)],[],[],[(19,7),(20,8)],[(21,9)],[],[(22,10),(23,11)],[(18,6),(24,12)]] [[],[],[0,1],[0,1,2],[],[0,1,2,3,4],[0,1,2,3,4,5],[0,1,2,3,4,5,6],[0,1,2,3,4,5,6],[0,1,2,3,4,5,6,7,8],[0,1,2,3,4,5,6,7,8,9],[0,1,2,3,4,5,6],[0,1,2,3,4,5,6,7,8,9,10,11],[0,1,2,3,4,5,6,7,8,9,10,11,12]] ?_
     refine Xq Af ?_;refine Xq Af ?_;refine Xq AQ ?_;refine Xq AI ?_;refine Xq AJ ?_;(refine Xq (IR (a:=AH L k) (b:=m) (ah rfl) (ah rfl) he) ?_);refine Xq Af ?_;refine Xg Af ?_;refine Xg Af ?_;refine Xg AQ ?_;refine Xg AI ?_;refine Xg AJ ?_;refine Xg (Am (cd)) ?_;refine Xq AZ ?_;refine ⟨_,rfl,?_⟩
     apply Y0;refine Ct ?_;refine Y1<|Wa<|Y0 ?_;apply At;apply Bv;apply AW;apply DA;apply Bv;apply AW
     exact Yf
   ·refine Aa<|Y1<|Wm<|Wm ?_;refine Wq Bz ?_;refine Wq Aq ?_;apply Y0;refine Ct ?_;refine Ys<|Aa<|AWp.block<|Aa ?_
    refine Dr [[],[],[(12,0),(13,1)],[(14,2)],[],[(15,3),(16,4)],[(17,5)],[],[],[(19,7),(20,8)],[(21,9)],[],[(22,10),(23,11)],[(18,6),(24,12)]] [[],[],[0,1],[0,1,2],[],[0,1,2,3,4],[0,1,2,3,4,5],[0,1,2,3,4,5,6],[0,1,2,3,4,5,6],[0,1,2,3,4,5,6,7,8],[0,1,2,3,4,5,6,7,8,9],[0,1,2,3,4,5,6],[0,1,2,3,4,5,6,7,8,9,10,11],[0,1,2,3,4,5,6,7,8,9,10,11,12]] ?_
    refine Xq Af ?_;refine Xq Af ?_;refine Xq AQ ?_;refine Xq AI ?_;refine Xq AJ ?_;(refine Xq (IS (a:=AH L k) (b:=m) (ah rfl) (ah rfl) he) ?_);refine Xq Af ?_;refine Xs ?_;refine Xs ?_;refine Xs ?_;refine Xs ?_;refine Xs ?_;refine Xs ?_;refine Xq BW ?_;refine ⟨_,rfl,?_⟩
    apply Y0;refine Cf ?_;apply Bk;apply Aj;refine Yn<|AWp.region<|Wm ?_;refine Wq AL ?_;refine Wa ?_;apply AWl.nil
    refine ALoop.next (L.length - (k+1)) (by omega) ⟨k+1,by omega,?_,rfl,rfl⟩ ?_
    ·intro j hj
     by_cases hjk:j = k
     ·subst hjk
      rw [Wl,he]
      rfl
     ·exact hok j (by omega)
    ·exact Ag (by exact Yd<|Yp<|Yd<|FrLe.nil) (by exact Yv<|HpLe.nil)
  ·obtain rfl : k = L.length := by omega
   rw [WW hok]
   refine Aa<|Y1<|Wm<|Wm ?_;refine Wq Bz ?_;refine Wq Ar ?_;apply Y0;refine Cf ?_;apply AD;apply Az;apply AA;apply ABlock.hit;refine Yn<|Y1<|Wa<|Y0 ?_;apply At
   exact Yf
def CR (m : Nat→Int):Ae→Ae
 | []=>[m]
 | y :: l=>if 0≤Eh m y then (if HG y m = true then y :: l else m :: y :: l) else y :: CR m l
theorem Oy (m : Nat→Int):∀ L:Ae,(CR m L).length≤L.length+1
 | []=>Nat.le_refl 1
 | y :: l=>by
  have:=Oy m l
  unfold CR
  split
  ·split <;> simp
  ·simp only [List.length_cons]
   omega
theorem Jy {L : Ae} {k:Nat} (h:k<L.length):L.drop k = AH L k :: L.drop (k+1):=by
 rw [List.drop_eq_getElem_cons h,AH,List.getD_eq_getElem?_getD,List.getElem?_eq_getElem h]
 rfl
def InsI (m : Nat→Int) (L:Ae) (k:Nat) (d:Bool) (o:Ae):Prop:=if d = true then o ++ L.drop k = CR m L else o ++ CR m (L.drop k) = CR m L
theorem InsI.keepT {m : Nat→Int} {L o:Ae} {k:Nat} (h:InsI m L k true o) (hk:k<L.length):InsI m L (k+1) true (o ++ [AH L k]):=by
 have h:o ++ L.drop k = CR m L:=h
 show o ++ [AH L k] ++ L.drop (k+1) = CR m L
 rw [List.append_assoc,List.singleton_append,← Jy hk,h]
theorem InsI.keepF {m : Nat→Int} {L o:Ae} {k:Nat} (h:InsI m L k false o) (hk:k<L.length) (hc:Eh m (AH L k)<0):InsI m L (k+1) false (o ++ [AH L k]):=by
 have h:o ++ CR m (L.drop k) = CR m L:=h
 rw [Jy hk,CR,if_neg (by omega)] at h
 show o ++ [AH L k] ++ CR m (L.drop (k+1)) = CR m L
 rw [List.append_assoc,List.singleton_append,h]
theorem InsI.hit {m : Nat→Int} {L o:Ae} {k:Nat} (h:InsI m L k false o) (hk:k<L.length) (hc:0≤Eh m (AH L k)) (he:HG (AH L k) m = true):InsI m L (k+1) true (o ++ [AH L k]):=by
 have h:o ++ CR m (L.drop k) = CR m L:=h
 rw [Jy hk,CR,if_pos hc,if_pos he] at h
 show o ++ [AH L k] ++ L.drop (k+1) = CR m L
 rw [List.append_assoc,List.singleton_append,h]
theorem InsI.put {m : Nat→Int} {L o:Ae} {k:Nat} (h:InsI m L k false o) (hk:k<L.length) (hc:0≤Eh m (AH L k)) (he:HG (AH L k) m = false):InsI m L (k+1) true (o ++ [m] ++ [AH L k]):=by
 have h:o ++ CR m (L.drop k) = CR m L:=h
 rw [Jy hk,CR,if_pos hc,if_neg (by rw [he];exact Bool.false_ne_true)] at h
 show o ++ [m] ++ [AH L k] ++ L.drop (k+1) = CR m L
 rw [← h]
 simp
theorem InsI.doneT {m : Nat→Int} {L o:Ae} (h:InsI m L L.length true o):o = CR m L:=by
 have h:o ++ L.drop L.length = CR m L:=h
 rwa [List.drop_length,List.append_nil] at h
theorem InsI.doneF {m : Nat→Int} {L o:Ae} (h:InsI m L L.length false o):o ++ [m] = CR m L:=by
 have h:o ++ CR m (L.drop L.length) = CR m L:=h
 rwa [List.drop_length] at h
theorem Qa (m : Nat→Int) (L:Ae) (hL:L.length≤1000000):Abs Tryz.prog 100 [BF L,By (AC m)] (BF (CR m L)):=by
 refine Ab Tryz.func100 fun s0=>?_
 rw [Tryz.ntmps100]
 apply Y1;refine Bx ?_;refine Wa<|Y0<|Y1 ?_;refine GH (Ac rfl) (Ac rfl) rfl rfl rfl rfl rfl ?_;refine Wa<|Y0<|Y1<|Wa<|Y0<|Aa<|Y1<|Wa<|Y0<|AWp.block ?_
 refine AK (fun mz σ=>∃ k d o,k≤L.length∧o.length≤k+d.toNat∧InsI m L k d o∧mz = L.length - k∧σ = ⟨[(0,.d (BF L)),(3,.ptr 0 0),(5,.own 1),(6,.d (ex (.bool d))),(7,.d (ex (.int .i64 (k:Nat))))],[.var 55 ((AC m).map .d),.row 55 8 (o.map AC)]⟩) ?le ⟨0,false,[],by omega,by simp,rfl,rfl,rfl⟩ ?round
 case le=>exact Ag (by exact Yd<|Yp<|FrLe.cons rfl (AVle.own rfl)<|Yd<|Yd<|FrLe.nil) (by exact Yv<|Yr<|HpLe.nil)
 case round =>
  rintro mz _ ⟨k,d,o,hk,ho,hi,rfl,rfl⟩
  by_cases hlt:k<L.length
  ·have cc:=Tl m (AH L k)
   cases d
   ·have ho:o.length≤k:=ho
    by_cases hc:0≤Eh m (AH L k)
    ·cases he:HG (AH L k) m
     ·refine Aa<|Y1<|Wm<|Wm ?_;refine Wq Bz ?_;refine Wq Aq ?_;apply Y0;refine Ct ?_;refine Ys<|Aa<|AWp.block<|Aa<|Aa ?_
      refine Dr [[],[(15,0)],[(16,1)],[],[],[],[(19,4),(20,5)],[(21,6)],[(18,3),(22,7)],[(23,8)],[(17,2),(24,9)]] [[],[0],[0,1],[0,1,2],[0,1,2],[0,1,2],[0,1,2,4,5],[0,1,2,4,5,6],[0,1,2,3,4,5,6,7],[0,1,2,3,4,5,6,7,8],[0,1,2,3,4,5,6,7,8,9]] ?_
      refine Xq Af ?_;refine Xq CT ?_;refine Xq Af ?_;refine Xg AJ ?_;refine Xg Af ?_;refine Xg Af ?_;refine Xg AQ ?_;refine Xg AI ?_;refine Xg (Am (cc)) ?_;refine Xg Aq ?_;refine Xq AZ ?_;refine ⟨_,rfl,?_⟩
      apply Y0;refine Ct ?_;refine Y1<|Wa<|Y0<|Aa ?_
      refine Dr [[],[],[(26,0),(27,1)],[(28,2)],[],[(29,3),(30,4)]] [[],[],[0,1],[0,1,2],[],[0,1,2,3,4]] ?_
      refine Xq Af ?_;refine Xq Af ?_;refine Xq AQ ?_;refine Xq AI ?_;refine Xq AJ ?_;(refine Xq (IR (a:=AH L k) (b:=m) (ah rfl) (ah rfl) he) ?_);refine ⟨_,rfl,?_⟩
      apply Y0;refine Ct ?_;refine AWp.region<|Wm ?_;refine Wq AJ ?_;refine Wq (Cs (ao rfl) (Ac rfl) (Ac rfl) rfl rfl rfl rfl rfl) ?_;(refine Ap ?_);refine Wa<|Y0<|AWp.region<|Wm<|Wm<|Wm ?_;refine Wq AQ ?_;refine Wq AI ?_;refine Wq (Cs (ao rfl) (Ac rfl) (Ac rfl) rfl rfl rfl rfl rfl) ?_;(refine Ap ?_);refine Wa ?_;apply AWl.nil;apply Aj;refine Yn<|AWp.region<|Wm ?_;refine Wq AL ?_;refine Wa ?_;apply AWl.nil
      refine ALoop.next (L.length - (k+1)) (by omega) ⟨k+1,true,o ++ [m] ++ [AH L k],by omega,by simp;omega,hi.put hlt hc he,rfl,rfl⟩ ?_
      exact Ag (by exact Yd<|Yp<|FrLe.cons rfl (AVle.own rfl)<|Yd<|Yd<|FrLe.nil) (by apply Yv;refine HpLe.cons (CP ((congrArg (· ++ [AC (AH L k)]) (DI AC o m)).trans (DI AC _ (AH L k)))) ?_;exact HpLe.nil)
     ·refine Aa<|Y1<|Wm<|Wm ?_;refine Wq Bz ?_;refine Wq Aq ?_;apply Y0;refine Ct ?_;refine Ys<|Aa<|AWp.block<|Aa<|Aa ?_
      refine Dr [[],[(15,0)],[(16,1)],[],[],[],[(19,4),(20,5)],[(21,6)],[(18,3),(22,7)],[(23,8)],[(17,2),(24,9)]] [[],[0],[0,1],[0,1,2],[0,1,2],[0,1,2],[0,1,2,4,5],[0,1,2,4,5,6],[0,1,2,3,4,5,6,7],[0,1,2,3,4,5,6,7,8],[0,1,2,3,4,5,6,7,8,9]] ?_
      refine Xq Af ?_;refine Xq CT ?_;refine Xq Af ?_;refine Xg AJ ?_;refine Xg Af ?_;refine Xg Af ?_;refine Xg AQ ?_;refine Xg AI ?_;refine Xg (Am (cc)) ?_;refine Xg Aq ?_;refine Xq AZ ?_;refine ⟨_,rfl,?_⟩
      apply Y0;refine Ct ?_;refine Y1<|Wa<|Y0<|Aa ?_
      refine Dr [[],[],[(26,0),(27,1)],[(28,2)],[],[(29,3),(30,4)]] [[],[],[0,1],[0,1,2],[],[0,1,2,3,4]] ?_
      refine Xq Af ?_;refine Xq Af ?_;refine Xq AQ ?_;refine Xq AI ?_;refine Xq AJ ?_;(refine Xq (IS (a:=AH L k) (b:=m) (ah rfl) (ah rfl) he) ?_);refine ⟨_,rfl,?_⟩
      apply Y0;refine Cf ?_;refine Ys<|AWp.region<|Wm<|Wm<|Wm ?_;refine Wq AQ ?_;refine Wq AI ?_;refine Wq (Cs (ao rfl) (Ac rfl) (Ac rfl) rfl rfl rfl rfl rfl) ?_;(refine Ap ?_);refine Wa ?_;apply AWl.nil;apply Aj;refine Yn<|AWp.region<|Wm ?_;refine Wq AL ?_;refine Wa ?_;apply AWl.nil
      refine ALoop.next (L.length - (k+1)) (by omega) ⟨k+1,true,o ++ [AH L k],by omega,by simp;omega,hi.hit hlt hc he,rfl,rfl⟩ ?_
      exact Ag (by exact Yd<|Yp<|FrLe.cons rfl (AVle.own rfl)<|Yd<|Yd<|FrLe.nil) (by apply Yv;refine HpLe.cons (CP (DI AC _ (AH L k))) ?_;exact HpLe.nil)
    ·refine Aa<|Y1<|Wm<|Wm ?_;refine Wq Bz ?_;refine Wq Aq ?_;apply Y0;refine Ct ?_;refine Ys<|Aa<|AWp.block<|Aa<|Aa ?_
     refine Dr [[],[(15,0)],[(16,1)],[],[],[],[(19,4),(20,5)],[(21,6)],[(18,3),(22,7)],[(23,8)],[(17,2),(24,9)]] [[],[0],[0,1],[0,1,2],[0,1,2],[0,1,2],[0,1,2,4,5],[0,1,2,4,5,6],[0,1,2,3,4,5,6,7],[0,1,2,3,4,5,6,7,8],[0,1,2,3,4,5,6,7,8,9]] ?_
     refine Xq Af ?_;refine Xq CT ?_;refine Xq Af ?_;refine Xg AJ ?_;refine Xg Af ?_;refine Xg Af ?_;refine Xg AQ ?_;refine Xg AI ?_;refine Xg (Am (cc)) ?_;refine Xg Ar ?_;refine Xq AZ ?_;refine ⟨_,rfl,?_⟩
     apply Y0;refine Cf ?_;refine Ys<|AWp.region<|Wm<|Wm<|Wm ?_;refine Wq AQ ?_;refine Wq AI ?_;refine Wq (Cs (ao rfl) (Ac rfl) (Ac rfl) rfl rfl rfl rfl rfl) ?_;(refine Ap ?_);refine Wa ?_;apply AWl.nil;apply Aj;refine Yn<|AWp.region<|Wm ?_;refine Wq AL ?_;refine Wa ?_;apply AWl.nil
     refine ALoop.next (L.length - (k+1)) (by omega) ⟨k+1,false,o ++ [AH L k],by omega,by simp;omega,hi.keepF hlt (by omega),rfl,rfl⟩ ?_
     exact Ag (by exact Yd<|Yp<|FrLe.cons rfl (AVle.own rfl)<|Yd<|Yd<|FrLe.nil) (by apply Yv;refine HpLe.cons (CP (DI AC _ (AH L k))) ?_;exact HpLe.nil)
   ·have ho:o.length≤k+1:=ho
    refine Aa<|Y1<|Wm<|Wm ?_;refine Wq Bz ?_;refine Wq Aq ?_;apply Y0;refine Ct ?_;refine Ys<|Aa<|AWp.block<|Aa<|Aa ?_
    refine Dr [[],[(15,0)],[(16,1)],[],[],[],[(19,4),(20,5)],[(21,6)],[(18,3),(22,7)],[(23,8)],[(17,2),(24,9)]] [[],[0],[0,1],[0,1,2],[0,1,2],[0,1,2],[0,1,2,4,5],[0,1,2,4,5,6],[0,1,2,3,4,5,6,7],[0,1,2,3,4,5,6,7,8],[0,1,2,3,4,5,6,7,8,9]] ?_
    refine Xq Af ?_;refine Xq CT ?_;refine Xq Af ?_;refine Xs ?_;refine Xs ?_;refine Xs ?_;refine Xs ?_;refine Xs ?_;refine Xs ?_;refine Xs ?_;refine Xq BW ?_;refine ⟨_,rfl,?_⟩
    apply Y0;refine Cf ?_;refine Ys<|AWp.region<|Wm<|Wm<|Wm ?_;refine Wq AQ ?_;refine Wq AI ?_;refine Wq (Cs (ao rfl) (Ac rfl) (Ac rfl) rfl rfl rfl rfl rfl) ?_;(refine Ap ?_);refine Wa ?_;apply AWl.nil;apply Aj;refine Yn<|AWp.region<|Wm ?_;refine Wq AL ?_;refine Wa ?_;apply AWl.nil
    refine ALoop.next (L.length - (k+1)) (by omega) ⟨k+1,true,o ++ [AH L k],by omega,by simp;omega,hi.keepT hlt,rfl,rfl⟩ ?_
    exact Ag (by exact Yd<|Yp<|FrLe.cons rfl (AVle.own rfl)<|Yd<|Yd<|FrLe.nil) (by apply Yv;refine HpLe.cons (CP (DI AC _ (AH L k))) ?_;exact HpLe.nil)
  ·obtain rfl : k = L.length := by omega
   cases d
   ·have ho:o.length≤L.length:=ho
    refine Aa<|Y1<|Wm<|Wm ?_;refine Wq Bz ?_;refine Wq Ar ?_;apply Y0;refine Cf ?_;apply AD;apply Az;apply AA;apply ABlock.hit;refine Yn<|Aa<|Y1<|Wm ?_;refine Wq CT ?_;apply Y0;refine Ct ?_;refine AWp.region<|Wm ?_;refine Wq AJ ?_;refine Wq (Cs (ao rfl) (Ac rfl) (Ac rfl) rfl rfl rfl rfl rfl) ?_;(refine Ap ?_);refine Wa<|Y0<|Y1<|Wm<|Wa<|Y0 ?_;apply At
    have hd:D.le (slD 55 8 (o.map AC ++ [AC m])) (BF (CR m L)):=Es (by rw [← hi.doneF,DI];rfl)
    exact BA (Rets.of1 (ResV.tmp rfl rfl) (hd))
   ·have hd : D.le (slD 55 8 (o.map AC)) (BF (CR m L)) := Es (by rw [hi.doneT]; rfl)
    refine Aa<|Y1<|Wm<|Wm ?_;refine Wq Bz ?_;refine Wq Ar ?_;apply Y0;refine Cf ?_;apply AD;apply Az;apply AA;apply ABlock.hit;refine Yn<|Aa<|Y1<|Wm ?_;refine Wq CT ?_;apply Y0;refine Cf ?_;refine Ys<|Y1<|Wm<|Wa<|Y0 ?_;apply At
    exact BA (Rets.of1 (ResV.tmp rfl rfl) (hd))
def Fo (L : Ae):Nat→Ae
 | 0=>[]
 | k+1=>if Lf (AH L k) L = true then CR (AH L k) (Fo L k) else Fo L k
theorem Ki (L : Ae):∀ k,(Fo L k).length≤k
 | 0=>Nat.le_refl 0
 | k+1=>by
  have h1:=Ki L k
  have h2:=Oy (AH L k) (Fo L k)
  unfold Fo
  split <;> omega
theorem Nd (L : Ae) (hL:L.length≤100000):Abs Tryz.prog 50 [BF L] (BF (Fo L L.length)):=by
 refine Ab Tryz.func50 fun s0=>?_
 rw [Tryz.ntmps50]
 refine Y1<|Wa<|Y0<|Y1 ?_;refine GH (Ac rfl) (Ac rfl) rfl rfl rfl rfl rfl ?_;refine Wa<|Y0<|Aa<|Y1<|Wa<|Y0<|AWp.block ?_
 refine AK (fun mz σ=>∃ k,k≤L.length∧mz = L.length - k∧σ = ⟨[(0,.d (BF L)),(3,.d (BF (Fo L k))),(4,.d (ex (.int .i64 (k:Nat))))],[]⟩) ?le ⟨0,by omega,rfl,rfl⟩ ?round
 case le=>exact Ag (by exact Yd<|FrLe.cons rfl (TO rfl (D.le.refl _))<|Yd<|FrLe.nil) (by exact HpLe.nil)
 case round =>
  rintro mz _ ⟨k,hk,rfl,rfl⟩
  by_cases hlt:k<L.length
  ·have c1 := PX (AH L k) L (by omega)
   have hm:=Ki L k
   have c2:=Qa (AH L k) (Fo L k) (by omega)
   cases hb:Lf (AH L k) L
   ·have e : Fo L (k + 1) = Fo L k := by rw [Fo, if_neg (by rw [hb]; exact Bool.false_ne_true)]
    rw [hb] at c1
    refine Aa<|Y1<|Wm<|Wm ?_;refine Wq Bz ?_;refine Wq Aq ?_;apply Y0;refine Ct ?_;refine Ys<|Aa<|AWp.block<|Y1<|Wm<|Wm ?_;refine Wq AQ ?_;refine Wq AI ?_;refine Wm ?_;refine Wq (Am (c1)) ?_;apply Y0;refine Cf ?_;apply Bk;apply Aj;refine Yn<|AWp.region<|Wm ?_;refine Wq AL ?_;refine Wa ?_;apply AWl.nil
    refine ALoop.next (L.length - (k+1)) (by omega) ⟨k+1,by omega,rfl,rfl⟩ ?_
    exact Ag (by exact Yd<|FrLe.cons rfl (AVle.d (by rw [e]))<|Yd<|FrLe.nil) (by exact HpLe.nil)
   ·have e : Fo L (k + 1) = CR (AH L k) (Fo L k) := by rw [Fo, if_pos hb]
    rw [hb] at c1
    refine Aa<|Y1<|Wm<|Wm ?_;refine Wq Bz ?_;refine Wq Aq ?_;apply Y0;refine Ct ?_;refine Ys<|Aa<|AWp.block<|Y1<|Wm<|Wm ?_;refine Wq AQ ?_;refine Wq AI ?_;refine Wm ?_;refine Wq (Am (c1)) ?_;apply Y0;refine Ct ?_;refine AWp.region<|Wm<|Wm<|Wm ?_;refine Wq AQ ?_;refine Wq AI ?_;refine Wq (Am (c2)) ?_;refine Wa ?_;apply AWl.nil;apply Aj;refine Yn<|AWp.region<|Wm ?_;refine Wq AL ?_;refine Wa ?_;apply AWl.nil
    refine ALoop.next (L.length - (k+1)) (by omega) ⟨k+1,by omega,rfl,rfl⟩ ?_
    exact Ag (by exact Yd<|FrLe.cons rfl (AVle.d (by rw [e]))<|Yd<|FrLe.nil) (by exact HpLe.nil)
  ·obtain rfl : k = L.length := by omega
   refine Aa<|Y1<|Wm<|Wm ?_;refine Wq Bz ?_;refine Wq Ar ?_;apply Y0;refine Cf ?_;apply AD;apply Az;apply AA;apply ABlock.hit;refine Yn<|Y1<|Wm<|Wa<|Y0 ?_;apply At
   exact Yf
theorem YM {a b:Nat→Int} (ha:In8 a 0 100000) (hb:In8 b 0 100000):Abs Tryz.prog 78 [By (AC a),By (AC (Oa a b))] (DC [By (AC (qM a b)),ex (.bool true)]) :=
 Ul a (Oa a b) (fun j hj=>Int.min_le_left _ _) (fun j hj=>⟨Int.le_min.2 ⟨(ha j hj).1,(hb j hj).1⟩,Int.le_trans (Int.min_le_left _ _) (ha j hj).2⟩) ha
theorem Ld {a : Nat→Int} {l:Ae} {k:Nat} (h:k<l.length):(l.take k).map (fun y=>qM y a) ++ [qM (AH l k) a] = (l.take (k+1)).map fun y=>qM y a:=by
 rw [List.take_add_one,List.getElem?_eq_getElem h,List.map_append,AH,List.getD_eq_getElem?_getD,List.getElem?_eq_getElem h]
 rfl
theorem TH (L : Ae) (m:Nat→Int) (hL:L.length≤100000) (h1:∀ y∈L,In8 y 0 100000) (h2:In8 m 0 100000):Abs Tryz.prog 35 [BF L,By (AC m)] (BF (Fo (L.map fun y=>qM y m) (L.map fun y=>qM y m).length)):=by
 have cm:=Nd (L.map fun y=>qM y m) (by rw [List.length_map];exact hL)
 refine Ab Tryz.func35 fun s0=>?_
 rw [Tryz.ntmps35]
 apply Y1;refine Bx ?_;refine Wa<|Y0<|Y1 ?_;refine GH (Ac rfl) (Ac rfl) rfl rfl rfl rfl rfl ?_;refine Wa<|Y0<|Aa<|Y1<|Wa<|Y0<|AWp.block ?_
 refine AK (fun mz σ=>∃ k,k≤L.length∧mz = L.length - k∧σ = ⟨[(0,.d (BF L)),(3,.ptr 0 0),(5,.own 1),(6,.d (ex (.int .i64 (k:Nat))))],[.var 55 ((AC m).map .d),.row 55 8 (((L.take k).map fun y=>qM y m).map AC)]⟩) ?le ⟨0,by omega,rfl,rfl⟩ ?round
 case le=>exact Ag (by exact Yd<|Yp<|FrLe.cons rfl (AVle.own rfl)<|Yd<|FrLe.nil) (by exact Yv<|Yr<|HpLe.nil)
 case round =>
  rintro mz _ ⟨k,hk,rfl,rfl⟩
  by_cases hlt:k<L.length
  ·have cg:=Um (AH L k) m
   have hy:AH L k∈L:=by
    rw [AH,List.getD_eq_getElem?_getD,List.getElem?_eq_getElem hlt]
    exact List.getElem_mem hlt
   have cq:=YM (h1 _ hy) h2
   have hl:((L.take k).map fun y=>qM y m).length≤100000:=by
    rw [List.length_map,List.length_take]
    omega
   refine Aa<|Y1<|Wm<|Wm ?_;refine Wq Bz ?_;refine Wq Aq ?_;apply Y0;refine Ct ?_;refine Ys<|Aa<|AWp.block<|Aa ?_
   refine JD (It (e:=13) (by kernel_rfl) (K4 (K4 (K4 (AddE.keep (AddE.keep (AddE.keep (AddE.add (AddE.keep AddE.nil)))))))) (by kernel_rfl)) [[],[],[(17,0),(18,1)],[(19,2)],[],[],[(21,4),(22,5)],[(23,6)],[],[(24,7),(25,8)],[(20,3),(26,9)],[(27,10)],[(16,11)],[(16,11)],[]] [[],[],[0,1],[0,1,2],[],[],[4,5],[4,5,6],[],[4,5,6,7,8],[0,1,2,3,4,5,6,7,8,9],[0,1,2,3,4,5,6,7,8,9,10],[0,1,2,3,4,5,6,7,8,9,10,11],[0,1,2,3,4,5,6,7,8,9,10,11],[]] rfl (by kernel_rfl) (by kernel_rfl) (by kernel_rfl) ?_
   refine Xq Af ?_;refine Xq Af ?_;refine Xq AQ ?_;refine Xq AI ?_;refine Xq Af ?_;refine Xq Af ?_;refine Xq AQ ?_;refine Xq AI ?_;refine Xq AJ ?_;refine Xq (Am (cg)) ?_;refine Xq (Am (cq)) ?_;refine Xq Af ?_;refine Xq BY ?_;refine Xq BY ?_;refine Xn ?_;refine ⟨_,rfl,?_⟩
   refine Sf ?_;refine Wa ?_;apply AWl.nil;apply OnlyN.mk';refine Yn<|AWp.region<|Wm ?_;refine Wq AJ ?_;refine Wq (Cs (ao rfl) (Ac rfl) (Ac rfl) rfl rfl rfl rfl rfl) ?_;(refine Ap ?_);refine Wa ?_;apply AWl.nil;apply Aj;refine Yn<|AWp.region<|Wm ?_;refine Wq AL ?_;refine Wa ?_;apply AWl.nil
   refine ALoop.next (L.length - (k+1)) (by omega) ⟨k+1,by omega,rfl,rfl⟩ ?_
   exact Ag (by exact Yd<|Yp<|FrLe.cons rfl (AVle.own rfl)<|Yd<|FrLe.nil) (by apply Yv;refine HpLe.cons (CP ((DI AC _ (qM (AH L k) m)).trans (by rw [Ld hlt]))) ?_;exact HpLe.nil)
  ·obtain rfl : k = L.length := by omega
   rw [List.take_length]
   refine Aa<|Y1<|Wm<|Wm ?_;refine Wq Bz ?_;refine Wq Ar ?_;apply Y0;refine Cf ?_;apply AD;apply Az;apply AA;apply ABlock.hit;refine Yn<|Y1<|Wm ?_;refine Wq (Am (cm)) ?_;refine Wa<|Y0 ?_;apply At
   exact Yf
theorem MN {m : Nat→Int}:∀ {L:Ae} {z:Nat→Int},z∈CR m L→z = m∨z∈L
 | [],z,h=>.inl (List.mem_singleton.1 h)
 | y :: l,z,h=>by
  unfold CR at h
  split at h
  ·split at h
   ·exact .inr h
   ·rcases List.mem_cons.1 h with h | h
    ·exact .inl h
    ·exact .inr h
  ·rcases List.mem_cons.1 h with h | h
   ·exact .inr (h ▸ List.mem_cons_self)
   ·rcases MN h with h | h
    ·exact .inl h
    ·exact .inr (List.mem_cons_of_mem _ h)
theorem Ov {m : Nat→Int}:∀ {L:Ae} {z:Nat→Int},z∈L→z∈CR m L
 | y :: l,z,h=>by
  unfold CR
  split
  ·split
   ·exact h
   ·exact List.mem_cons_of_mem _ h
  ·rcases List.mem_cons.1 h with h | h
   ·exact h ▸ List.mem_cons_self
   ·exact List.mem_cons_of_mem _ (Ov h)
theorem Ox {m : Nat→Int}:∀ {L:Ae},MemE m (CR m L)
 | []=>⟨m,List.mem_singleton.2 rfl,Eqv.refl m⟩
 | y :: l=>by
  unfold CR
  split
  ·split
   ·rename_i h
    exact ⟨y,List.mem_cons_self,CX.1 h⟩
   ·exact ⟨m,List.mem_cons_self,Eqv.refl m⟩
  ·obtain ⟨a,h1,h2⟩:=Ox (m:=m) (L:=l)
   exact ⟨a,List.mem_cons_of_mem _ h1,h2⟩
theorem UT {m x:Nat→Int} {L:Ae}:MemE x (CR m L)↔MemE x L∨Eqv m x:=by
 constructor
 ·intro ⟨a,h1,h2⟩
  rcases MN h1 with rfl | h
  ·exact .inr h2
  ·exact .inl ⟨a,h,h2⟩
 ·rintro (⟨a,h1,h2⟩ | h)
  ·exact ⟨a,Ov h1,h2⟩
  ·exact Ox.congr h
theorem LS {m : Nat→Int}:∀ {L:Ae},Pa L→Pa (CR m L)
 | [],_=>List.pairwise_cons.2 ⟨fun z hz=>(by cases hz),List.Pairwise.nil⟩
 | y :: l,h=>by
  have h0:=h
  obtain ⟨h1,h2⟩:=List.pairwise_cons.1 h
  unfold CR
  split
  ·rename_i hc
   split
   ·exact h
   ·rename_i he
    have hc2:0<lx m y:=by
     have h3:lx m y ≠ 0:=fun e=>he (CX.2 fun j hj=>(Fi.1 e j hj).symm)
     rw [← Ja] at hc
     omega
    refine List.pairwise_cons.2 ⟨fun z hz=>?_,h0⟩
    rcases List.mem_cons.1 hz with rfl | hz
    ·exact hc2
    ·exact Og hc2 (h1 z hz)
  ·rename_i hc
   refine List.pairwise_cons.2 ⟨fun z hz=>?_,LS h2⟩
   rcases MN hz with rfl | hz
   ·rw [← Ja] at hc
    rw [Ef]
    omega
   ·exact h1 z hz
theorem RF {m : Nat→Int} {L:Ae}:Lf m L = true↔∀ z∈L,Dv z m→Eqv z m:=by
 unfold Lf
 rw [List.all_eq_true]
 refine ⟨fun h z hz hd=>?_,fun h z hz=>?_⟩
 ·have:=h z hz
  rw [Wl,Li.2 hd,Bool.not_true,Bool.or_false] at this
  exact CX.1 this
 ·unfold Wl
  cases hd:Ge 8 0 z m
  ·simp
  ·rw [CX.2 (h z hz (Li.1 hd))]
   rfl
theorem IF (L : Ae):∀ k,Pa (Fo L k)
 | 0=>List.Pairwise.nil
 | k+1=>by
  unfold Fo
  split
  ·exact LS (IF L k)
  ·exact IF L k
theorem Kh {L : Ae} {x:Nat→Int}:∀ {k},MemE x (Fo L k)↔∃ i,i<k∧Lf (AH L i) L = true∧Eqv (AH L i) x
 | 0=>by
  constructor
  ·intro ⟨_,h,_⟩
   cases h
  ·intro ⟨i,h,_⟩
   omega
 | k+1=>by
  unfold Fo
  split
  ·rename_i hb
   rw [UT,Kh]
   constructor
   ·rintro (⟨i,h1,h2⟩ | h)
    ·exact ⟨i,by omega,h2⟩
    ·exact ⟨k,by omega,hb,h⟩
   ·rintro ⟨i,h1,h2,h3⟩
    by_cases e:i = k
    ·subst e
     exact .inr h3
    ·exact .inl ⟨i,by omega,h2,h3⟩
  ·rename_i hb
   rw [Kh]
   constructor
   ·rintro ⟨i,h1,h2⟩
    exact ⟨i,by omega,h2⟩
   ·rintro ⟨i,h1,h2,h3⟩
    by_cases e:i = k
    ·subst e
     exact absurd h2 hb
    ·exact ⟨i,by omega,h2,h3⟩
theorem WQ (L : Ae):IsMin L (Fo L L.length):=by
 refine ⟨IF L _,fun x=>Kh.trans ⟨?_,?_⟩⟩
 ·rintro ⟨i,h1,h2,h3⟩
  refine ⟨⟨_,FC h1,h3⟩,fun y hy hd=>?_⟩
  exact (RF.1 h2 y hy (hd.trans h3.symm.dv)).trans h3
 ·rintro ⟨⟨a,h1,h2⟩,h3⟩
  obtain ⟨i,hi,rfl⟩:=List.getElem_of_mem h1
  have e:AH L i = L[i]:=by
   rw [AH,List.getD_eq_getElem?_getD,List.getElem?_eq_getElem hi]
   rfl
  refine ⟨i,hi,?_,e ▸ h2⟩
  rw [e,RF]
  intro z hz hd
  exact (h3 z hz (hd.trans h2.dv)).trans h2.symm
theorem RA (n : Nat) (r:R4) (j:Nat):0≤UK n 4 r j∧UK n 4 r j≤4∧((n≤j∨4≤j)→UK n 4 r j = 0):=by
 unfold UK
 have:=Nat.mod_lt (r j) (show 0<4+1 by decide)
 split
 ·exact ⟨by omega,by omega,fun h=>by omega⟩
 ·exact ⟨by omega,by omega,fun _=>rfl⟩
theorem MG {X : List R4} {n most top:Nat} {y:Nat→Int} (h:y∈LQ X n most top):∃ r∈X,y = UK n top r:=by
 obtain ⟨r,hr,rfl⟩:=List.mem_map.1 h
 exact ⟨r,List.mem_of_mem_take hr,rfl⟩
theorem A0d (n : Nat) (r:R4):Cd 8 0 (UK n 4 r)≤16:=by
 have h:=RA n r
 simp only [Cd]
 have h0:=h 0;have h1:=h 1;have h2:=h 2;have h3:=h 3
 have e4:=(h 4).2.2 (.inr (by decide));have e5:=(h 5).2.2 (.inr (by decide));have e6:=(h 6).2.2 (.inr (by decide));have e7:=(h 7).2.2 (.inr (by decide))
 simp only [Nat.zero_add,Nat.reduceAdd,e4,e5,e6,e7]
 omega
theorem UH {X : List R4} {n most:Nat}:∀ y∈LQ X n most 4,SupN n y:=fun y hy j hj=>by
 obtain ⟨r,_,rfl⟩:=MG hy
 exact ⟨(RA n r j).1,fun h=>(RA n r j).2.2 (.inl h)⟩
theorem Yu {X : List R4} {n most:Nat}:∀ y∈LQ X n most 4,In8 y 0 64:=fun y hy j hj=>by
 obtain ⟨r,_,rfl⟩:=MG hy
 have:=RA n r j
 exact ⟨this.1,by omega⟩
theorem UI {X : List R4} {n most:Nat}:∀ y∈LQ X n most 4,Cd 8 0 y≤16:=fun y hy=>by
 obtain ⟨r,_,rfl⟩:=MG hy
 exact A0d n r
theorem PQ {n k:Nat} (hn:n≤4) (hk:k≤12):(2:Int) ^ k*(((16*k:Nat):Int)+1) ^ (n+1)≤9223372036854775807:=by
 have h1:(16*k+1) ^ (n+1)≤193 ^ 5:=Nat.le_trans (Nat.pow_le_pow_left (by omega) _) (Nat.pow_le_pow_right (by decide) (by omega))
 have h0:2 ^ k≤2 ^ 12:=Nat.pow_le_pow_right (by decide) hk
 have h2:(2:Int) ^ k*(((16*k:Nat):Int)+1) ^ (n+1) = ((2 ^ k*(16*k+1) ^ (n+1):Nat):Int):=by
  push_cast
  rfl
 have h3:2 ^ k*(16*k+1) ^ (n+1)≤2 ^ 12*193 ^ 5:=Nat.mul_le_mul h0 h1
 have h4:2 ^ 12*193 ^ 5≤9223372036854775807:=by decide
 rw [h2]
 omega
theorem VB (a : Nat→Int) (h:In8 a 0 1000000):Abs Tryz.prog 36 [By (AC a)] (ex (.int .i64 (Cd 8 0 a:Nat))):=by
 have hb:=Gp h
 refine Ab Tryz.func36 fun s0=>?_
 rw [Tryz.ntmps36]
 apply Y1;refine Bx ?_;refine Wa<|Y0<|Y1<|Wa<|Y0<|Aa<|Y1<|Wa<|Y0<|AWp.block ?_
 refine AK (fun mz σ=>∃ k,k≤8∧mz = 8 - k∧σ = ⟨[(1,.ptr 0 0),(3,.d (ex (.int .i64 (CF a k)))),(4,.d (ex (.int .i64 (k:Nat))))],[.var 55 ((AC a).map .d)]⟩) ?le ⟨0,by omega,rfl,rfl⟩ ?round
 case le=>exact Ag (by exact Yp<|Yd<|Yd<|FrLe.nil) (by exact Yv<|HpLe.nil)
 case round =>
  rintro mz _ ⟨k,hk,rfl,rfl⟩
  by_cases hlt:k<8
  ·have h1 := hb k (by omega)
   have h2:=h k hlt
   refine Aa<|Y1<|Wm ?_;refine Wq Aq ?_;apply Y0;refine Ct ?_;refine Ys<|Aa<|AWp.block<|AWp.region<|Wm<|Wm ?_;refine Wq BX ?_;refine Wq Cc ?_;refine Wq CH ?_;refine Wa ?_;apply AWl.nil;apply Aj;refine Yn<|AWp.region<|Wm ?_;refine Wq AL ?_;refine Wa ?_;apply AWl.nil
   refine ALoop.next (8 - (k+1)) (by omega) ⟨k+1,by omega,rfl,rfl⟩ ?_
   exact Ag (by exact Yp<|Yd<|Yd<|FrLe.nil) (by exact Yv<|HpLe.nil)
  ·obtain rfl : k = 8 := by omega
   rw [RT fun j hj=>(h j hj).1]
   refine Aa<|Y1<|Wm ?_;refine Wq Ar ?_;apply Y0;refine Cf ?_;apply AD;apply Az;apply AA;apply ABlock.hit;refine Yn<|Y1<|Wm<|Wa<|Y0 ?_;apply At
   exact Yf
theorem Qk (N : Nat) (f:Nat→Int) (z i:Nat) (hz:z = i) (hN:N≤1000000) (far:∀ i,N≤i→f i = 0):Abs Tryz.prog 37 [nD N f,ex (.int .i64 (z:Nat))] (ex (.int .i64 (f i))):=by
 subst hz
 by_cases h:z<N
 ·have hr : (List.range N).getD z default = z := by simp [List.getD_eq_getElem?_getD, h]
  refine Ab Tryz.func37 fun s0=>?_
  rw [Tryz.ntmps37]
  refine Y1<|Wa<|Y0<|Aa<|Y1<|Wm ?_;refine Wq Aq ?_;refine Wm ?_;refine Wg Af ?_;refine Wg Af ?_;refine Wg Bz ?_;refine Wg Aq ?_;refine Wq AZ ?_;apply Y0;refine Ct ?_;refine Y1<|Wm<|Wm ?_;refine Wq AQ ?_;refine Wq Dy ?_;refine Wa<|Y0 ?_;apply At;apply AW
  exact BA (Rets.of1 (ResV.tmp rfl rfl) (Es (by rw [hr])))
 ·rw [far z (by omega)]
  refine Ab Tryz.func37 fun s0=>?_
  rw [Tryz.ntmps37]
  refine Y1<|Wa<|Y0<|Aa<|Y1<|Wm ?_;refine Wq Aq ?_;refine Wm ?_;refine Wg Af ?_;refine Wg Af ?_;refine Wg Bz ?_;refine Wg Ar ?_;refine Wq AZ ?_;apply Y0;refine Cf ?_;refine Ys<|Y1<|Wa<|Y0 ?_;apply At
  exact Yf
theorem Xt (N : Nat) (f:Nat→Int) (z:Int) (hz:z<0):Abs Tryz.prog 37 [nD N f,ex (.int .i64 z)] (ex (.int .i64 0)):=by
 have h:¬ 0≤z:=by omega
 refine Ab Tryz.func37 fun s0=>?_
 rw [Tryz.ntmps37]
 refine Y1<|Wa<|Y0<|Aa<|Y1<|Wm ?_;refine Wq Ar ?_;refine Wm ?_;refine Ws ?_;refine Ws ?_;refine Ws ?_;refine Ws ?_;refine Wq BW ?_;apply Y0;refine Cf ?_;refine Ys<|Y1<|Wa<|Y0 ?_;apply At
 exact Yf
theorem Zi (N : Nat) (f:Nat→Int) (i e:Nat) (hN:N≤1000000) (far:∀ i,N≤i→f i = 0):Abs Tryz.prog 37 [nD N f,ex (.int .i64 (((i:Nat):Int) - ((e:Nat):Int)))] (ex (.int .i64 (EZ e f i))):=by
 unfold EZ
 by_cases h:e≤i
 ·rw [if_pos h]
  have:=Qk N f (i - e) (i - e) rfl hN far
  rwa [Int.ofNat_sub h] at this
 ·rw [if_neg h]
  exact Xt N f _ (by omega)
theorem WS {L R:Ae} (h:IsMin L R) {z:Nat→Int} (hz:z∈R):∃ y∈L,Eqv y z:=((h.2 z).1 ⟨z,hz,Eqv.refl z⟩).1
theorem PP {y a:Nat→Int} {j:Nat} (hy:0≤y j) (ha:0≤a j):0≤qM y a j∧qM y a j≤y j:=by
 unfold qM
 omega
theorem WF {n : Nat} {y a:Nat→Int} (hy:SupN n y) (ha:∀ j,j<8→0≤a j):SupN n (qM y a):=fun j hj=>by
 have h:=PP (hy j hj).1 (ha j hj)
 exact ⟨h.1,fun hn=>by have:=(hy j hj).2 hn;omega⟩
theorem Uc (T : Nat) (X:List R4) (m:Nat) (r:R4) (hX:∀ r∈X,KJ r) (hm:m<256) (hr:KJ r):Abs Tryz.prog 5 [inD T X m,By (YL r)] (ex (.bool true)):=by
 have hn4:m % 5≤4:=by omega
 have hn8:m % 5≤8:=by omega
 obtain ⟨a,ha⟩:∃ a,a = UK (m % 5) 4 r:=⟨_,rfl⟩
 obtain ⟨l,hl⟩:∃ l,l = LQ X (m % 5) 5 4:=⟨_,rfl⟩
 have eL:LQ [r] (m % 5) 1 4 = [a]:=by rw [ha];rfl
 have hll:l.length≤5:=hl ▸ RC X (m % 5) 5 4
 have l1:∀ y∈l,In8 y 0 64:=hl ▸ Yu
 have l2:∀ y∈l,SupN (m % 5) y:=hl ▸ UH
 have l3:∀ y∈l,Cd 8 0 y≤16:=hl ▸ UI
 have a1:In8 a 0 64:=Yu (X:=[r]) (n:=m % 5) (most:=1) a (by rw [eL];exact List.mem_singleton.2 rfl)
 have a2:SupN (m % 5) a:=UH (X:=[r]) (n:=m % 5) (most:=1) a (by rw [eL];exact List.mem_singleton.2 rfl)
 have a3:Cd 8 0 a≤16:=UI (X:=[r]) (n:=m % 5) (most:=1) a (by rw [eL];exact List.mem_singleton.2 rfl)
 have a0:∀ j,j<8→0≤a j:=fun j hj=>(a1 j hj).1
 obtain ⟨Q,hQ⟩:∃ Q,Q = l.map fun y=>qM y a:=⟨_,rfl⟩
 obtain ⟨R,hR⟩:∃ R,R = Fo Q Q.length:=⟨_,rfl⟩
 have hQl:Q.length≤5:=by rw [hQ,List.length_map];exact hll
 have hRl:R.length≤5:=Nat.le_trans (hR ▸ Ki Q Q.length) hQl
 have hmin:IsMin Q R:=hR ▸ WQ Q
 have hRm:∀ z∈R,∃ y∈l,Eqv (qM y a) z:=fun z hz=>by
  obtain ⟨y,hy,e⟩:=WS hmin hz
  rw [hQ] at hy
  obtain ⟨y',hy',rfl⟩:=List.mem_map.1 hy
  exact ⟨y',hy',e⟩
 have r2:∀ z∈R,SupN (m % 5) z:=hmin.sup fun y hy=>by
  rw [hQ] at hy
  obtain ⟨y',hy',rfl⟩:=List.mem_map.1 hy
  exact WF (l2 y' hy') a0
 have r1:∀ z∈R,In8 z 0 64:=fun z hz j hj=>by
  obtain ⟨y,hy,e⟩:=hRm z hz
  have h1:=l1 y hy j hj
  have h2:=PP h1.1 (a0 j hj)
  rw [← e j hj]
  omega
 have r3:∀ z∈R,Cd 8 0 z≤16:=fun z hz=>by
  obtain ⟨y,hy,e⟩:=hRm z hz
  have h1:Cd 8 0 z = Cd 8 0 (qM y a):=Ij fun j _ hj=>(e j (by omega)).symm
  have h2:Cd 8 0 (qM y a)≤Cd 8 0 y:=IJ fun j _ hj=>(PP (l1 y hy j (by omega)).1 (a0 j (by omega))).2
  have:=l3 y hy
  omega
 obtain ⟨Na,fa,Ha⟩:=Id 5 16 (m % 5) l hn8 (by decide) hll (by decide) l1 l2 l3 (PQ hn4 (by decide))
 have hmem:∀ y∈l ++ [a],y∈l∨y = a:=fun y hy=>(List.mem_append.1 hy).imp id List.mem_singleton.1
 obtain ⟨Nb, fb, Hb⟩ := Id 6 16 (m % 5) (l ++ [a]) hn8 (by decide) (by rw [List.length_append]; show l.length + 1 ≤ 6; omega) (by decide)
  (fun y hy=>(hmem y hy).elim (l1 y) fun e=>e ▸ a1) (fun y hy=>(hmem y hy).elim (l2 y) fun e=>e ▸ a2) (fun y hy=>(hmem y hy).elim (l3 y) fun e=>e ▸ a3) (PQ hn4 (by decide))
 obtain ⟨Nc,fc,Hc⟩:=Id 5 16 (m % 5) R hn8 (by decide) hRl (by decide) r1 r2 r3 (PQ hn4 (by decide))
 have s8:∀ {y:Nat→Int},SupN (m % 5) y→SupN 8 y:=fun h j hj=>⟨(h j hj).1,fun h8=>by omega⟩
 have hseq:=WL Ha.num.num Hb.num.num Hc.num.num (hQ ▸ hmin) (fun y hy=>s8 (l2 y hy)) (s8 a2)
 have na:=Ha.nle;have nb:=Hb.nle;have nc:=Hc.nle
 have c1:=GX l (m % 5) Na fa Ha.ck Ha.cn
 have c2:=GX (l ++ [a]) (m % 5) Nb fb Hb.ck Hb.cn
 have c3:=GX R (m % 5) Nc fc Hc.ck Hc.cn
 have cq:=TH l a (by omega) (fun y hy j hj=>⟨(l1 y hy j hj).1,by have:=(l1 y hy j hj).2;omega⟩) fun j hj=>⟨(a1 j hj).1,by have:=(a1 j hj).2;omega⟩
 rw [← hQ,← hR] at cq
 have cg:=VB a fun j hj=>⟨(a1 j hj).1,by have:=(a1 j hj).2;omega⟩
 have cm:=UL T X m hm hX
 rw [← hl] at cm
 have cv:=TT T X m hm
 have cd:=Pq 57 [r] (m % 5) 1 4 (fun x hx=>by rw [List.mem_singleton.1 hx];exact hr) (by omega) (by decide) (by decide)
 rw [eL] at cd
 have c2':Abs Tryz.prog 14 [slD 55 8 (l.map AC ++ [AC a]),ex (.int .i64 (m % 5:Nat))] (DC [nD Nb fb,ex (.int .i64 0)]):=by
  have:=c2
  rwa [BF,List.map_append] at this
 have hlast:=Hb.num.last
 refine Ab Tryz.func5 fun s0=>?_
 rw [Tryz.ntmps5]
 apply Y1;refine Bx ?_;refine Bx ?_;refine Wa<|Y0<|Y1 ?_;refine Wq (Am (PM)) ?_;refine Wa<|Y0<|Aa<|Y1<|Wm ?_;refine Wq CT ?_;apply Y0;refine Cf ?_;refine Ys<|Aa ?_
 refine Dr [[],[(20,0)],[],[(22,2)]] [[],[0],[],[0,1,2]] ?_
 refine Xq AJ ?_;refine Xq (Am (cm)) ?_;refine Xq AJ ?_;refine Xq (Am (cv)) ?_;refine ⟨_,rfl,?_⟩
 refine Wa<|Wa<|Y0<|Y1 ?_;refine Wq AJ ?_;refine Wq (Cs (ao rfl) (Ac rfl) (Ac rfl) rfl rfl rfl rfl rfl) ?_;refine Wm ?_;refine Wq (Am (cd)) ?_;refine Wa<|Y0<|Y1<|Wm<|Wm ?_;refine Wq (Am (c1)) ?_;refine Wm ?_;refine Wq BY ?_;refine Wq BY ?_;refine Wa<|Wa<|Y0<|Y1 ?_;refine GH (Ac rfl) (Ac rfl) rfl rfl rfl rfl rfl ?_;refine Wm ?_;(refine Ap ?_);refine Wm ?_;(refine Ap ?_);refine Wm ?_;refine Wq (Am (c2')) ?_;refine Wm ?_;refine Wq BY ?_;refine Wq BY ?_;refine Wa<|Wa<|Y0<|Y1<|Wm<|Wm ?_;refine Wq GT ?_;refine Wq AI ?_;refine Wq (Am (cq)) ?_;refine Wm ?_;refine Wq (Am (c3)) ?_;refine Wm ?_;refine Wq BY ?_;refine Wq BY ?_;refine Wa<|Wa<|Y0<|Aa<|Y1<|Wm ?_;refine Wq Ar ?_;refine Wm ?_;refine Wg Af ?_;refine Wg Ar ?_;refine Wq BW ?_;refine Wm ?_;refine Wg Af ?_;refine Wg Ar ?_;refine Wq BW ?_;apply Y0;refine Cf ?_;refine Ys<|Y1<|Wm ?_;refine Wq GT ?_;refine Wq AI ?_;refine Wq (Am (cg)) ?_;refine Wa<|Y0<|Aa<|Y1<|Wa<|Y0<|AWp.block ?_
 refine AK (fun mz σ=>∃ k,k≤Na+Nb+Nc+Cd 8 0 a∧mz = Na+Nb+Nc+Cd 8 0 a - k∧σ = ⟨[(5,.d (ex (.bool true))),(9,.d (nD Na fa)),(11,.d (nD Nb fb)),(13,.d (nD Nc fc)),(15,.d (ex (.int .i64 (Cd 8 0 a:Nat)))),(16,.d (ex (.int .i64 (k:Nat))))],[]⟩) ?le ⟨0,by omega,rfl,rfl⟩ ?round
 case le=>exact Ag (by exact Yd<|Yd<|Yd<|Yd<|Yd<|Yd<|FrLe.nil) (by exact HpLe.nil)
 case round =>
  rintro mz _ ⟨k,hk,rfl,rfl⟩
  by_cases hlt:k<Na+Nb+Nc+Cd 8 0 a
  ·have ca := Qk Na fa k k rfl (by omega) Ha.num.far
   have cb:=Qk Nb fb k k rfl (by omega) Hb.num.far
   have cc:=Zi Nc fc k (Cd 8 0 a) (by omega) Hc.num.far
   have ba:=Ha.bnd k
   have bc:-4096≤EZ (Cd 8 0 a) fc k∧EZ (Cd 8 0 a) fc k≤4096:=by
    unfold EZ
    split
    ·exact Hc.bnd _
    ·omega
   have he:fb k = fa k - EZ (Cd 8 0 a) fc k:=congrFun hseq k
   have hkN:((k:Nat):Int)<((Na:Nat):Int)+((Nb:Nat):Int)+((Nc:Nat):Int)+((Cd 8 0 a:Nat):Int):=by omega
   refine Aa<|Y1<|Wm<|Wm ?_;refine Wq (Cq (n:=Na) (f:=fa) rfl (Ac rfl)) ?_;refine Wm ?_;refine Wq (Cq (n:=Nb) (f:=fb) rfl (Ac rfl)) ?_;refine Wq CH ?_;refine Wm ?_;refine Wq (Cq (n:=Nc) (f:=fc) rfl (Ac rfl)) ?_;refine Wq CH ?_;refine Wm ?_;refine Wq CH ?_;refine Wq Aq ?_;apply Y0;refine Ct ?_;refine Ys<|Aa<|AWp.block<|Y1<|Wm<|Wm ?_;refine Wq (Am (cb)) ?_;refine Wm<|Wm ?_;refine Wq (Am (ca)) ?_;refine Wm<|Wm<|Wm ?_;refine Wq Ft ?_;refine Wq (Am (cc)) ?_;refine Wq Ft ?_;refine Wq Ar ?_;apply Y0;refine Cf ?_;apply Bk;apply Aj;refine Yn<|AWp.region<|Wm ?_;refine Wq AL ?_;refine Wa ?_;apply AWl.nil
   refine ALoop.next (Na+Nb+Nc+Cd 8 0 a - (k+1)) (by omega) ⟨k+1,by omega,rfl,rfl⟩ ?_
   exact Ag (by exact Yd<|Yd<|Yd<|Yd<|Yd<|Yd<|FrLe.nil) (by exact HpLe.nil)
  ·have hkN : ¬ ((k : Nat) : Int) < ((Na : Nat) : Int) + ((Nb : Nat) : Int) + ((Nc : Nat) : Int) + ((Cd 8 0 a : Nat) : Int) := by omega
   by_cases h0:Nb = 0
   ·subst h0
    refine Aa<|Y1<|Wm<|Wm ?_;refine Wq (Cq (n:=Na) (f:=fa) rfl (Ac rfl)) ?_;refine Wm ?_;refine Wq (Cq (n:=0) (f:=fb) rfl (Ac rfl)) ?_;refine Wq CH ?_;refine Wm ?_;refine Wq (Cq (n:=Nc) (f:=fc) rfl (Ac rfl)) ?_;refine Wq CH ?_;refine Wm ?_;refine Wq CH ?_;refine Wq Ar ?_;apply Y0;refine Cf ?_;apply AD;apply Az;apply AA;apply ABlock.hit;refine Yn<|Y1<|Wm ?_;refine Wq (Cq (n:=0) (f:=fb) rfl (Ac rfl)) ?_;refine Wq Aq ?_;refine Wm ?_;refine Ws ?_;refine Ws ?_;refine Ws ?_;refine Ws ?_;refine Ws ?_;refine Ws ?_;refine Ws ?_;refine Wq AZ ?_;refine Wm ?_;refine Wg Af ?_;refine Wq AZ ?_;refine Wa<|Y0 ?_;apply At
    exact Yf
   ·have h1:fb (Nb - 1) ≠ 0:=hlast.resolve_left h0
    refine Aa<|Y1<|Wm<|Wm ?_;refine Wq (Cq (n:=Na) (f:=fa) rfl (Ac rfl)) ?_;refine Wm ?_;refine Wq (Cq (n:=Nb) (f:=fb) rfl (Ac rfl)) ?_;refine Wq CH ?_;refine Wm ?_;refine Wq (Cq (n:=Nc) (f:=fc) rfl (Ac rfl)) ?_;refine Wq CH ?_;refine Wm ?_;refine Wq CH ?_;refine Wq Ar ?_;apply Y0;refine Cf ?_;apply AD;apply Az;apply AA;apply ABlock.hit;refine Yn<|Y1<|Wm ?_;refine Wq (Cq (n:=Nb) (f:=fb) rfl (Ac rfl)) ?_;refine Wq Ar ?_;refine Wm ?_;refine Wg Af ?_;refine Wg Af ?_;refine Wg (Cq (n:=Nb) (f:=fb) rfl (Ac rfl)) ?_;refine Wg Ej ?_;refine Wg (IT (m:=Nb) (k:=Nb - 1) (f:=fb) rfl (ao rfl) (Ac rfl) (Ac rfl) rfl (by omega)) ?_;refine Wg Dy ?_;refine Wg Aq ?_;refine Wq BW ?_;refine Wm ?_;refine Wg Af ?_;refine Wq AZ ?_;refine Wa<|Y0 ?_;apply At
    exact Yf
end Go.Proofs.YtialdhnijjnpaaaGreat
