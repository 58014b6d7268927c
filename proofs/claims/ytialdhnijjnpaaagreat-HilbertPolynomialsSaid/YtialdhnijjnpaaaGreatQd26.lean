/- Part 26 of the proof of hilbertPolynomials_holds. No condition. -/
import Derived.Test.YtialdhnijjnpaaaGreatQd18
import Derived.Test.YtialdhnijjnpaaaGreatQd21
import Derived.Test.YtialdhnijjnpaaaGreatQd24
import Derived.Test.YtialdhnijjnpaaaGreatQd25
set_option linter.unusedSimpArgs false
set_option linter.unusedVariables false
set_option maxRecDepth 100000
namespace Go.Proofs.YtialdhnijjnpaaaGreat
open Go.RowKit
def mz : Nat→Int:=fun _=>0
def mx2 : Nat→Int
 | 0=>2
 | _=>0
def Yj : Nat→Int
 | 0=>1
 | 1=>1
 | _=>0
def mx : Nat→Int
 | 0=>1
 | _=>0
def my2 : Nat→Int
 | 0=>0
 | 1=>2
 | _=>0
def my : Nat→Int
 | 0=>0
 | 1=>1
 | _=>0
abbrev lA : Af:=[mx2,Yj]
abbrev lB : Af:=[mx,my2]
theorem j8 {p : Nat→Prop} (h0:p 0) (h1:p 1) (h2:p 2) (h3:p 3) (h4:p 4) (h5:p 5) (h6:p 6) (h7:p 7) (j:Nat) (hj:j<8):p j:=by
 have:j = 0∨j = 1∨j = 2∨j = 3∨j = 4∨j = 5∨j = 6∨j = 7:=by omega
 rcases this with rfl | rfl | rfl | rfl | rfl | rfl | rfl | rfl <;> assumption
theorem Jn : ∀ y∈lA,In8 y 0 2∧SupN 2 y∧CK 8 0 y≤2:=fun y hy=>by
 simp only [List.mem_cons,List.not_mem_nil,or_false] at hy
 rcases hy with rfl | rfl
 ·exact ⟨j8 (by decide) (by decide) (by decide) (by decide) (by decide) (by decide) (by decide) (by decide),j8 (by decide) (by decide) (by decide) (by decide) (by decide) (by decide) (by decide) (by decide),by decide⟩
 ·exact ⟨j8 (by decide) (by decide) (by decide) (by decide) (by decide) (by decide) (by decide) (by decide),j8 (by decide) (by decide) (by decide) (by decide) (by decide) (by decide) (by decide) (by decide),by decide⟩
theorem Pi : ∀ y∈lB,In8 y 0 2∧SupN 2 y∧CK 8 0 y≤2:=fun y hy=>by
 simp only [List.mem_cons,List.not_mem_nil,or_false] at hy
 rcases hy with rfl | rfl
 ·exact ⟨j8 (by decide) (by decide) (by decide) (by decide) (by decide) (by decide) (by decide) (by decide),j8 (by decide) (by decide) (by decide) (by decide) (by decide) (by decide) (by decide) (by decide),by decide⟩
 ·exact ⟨j8 (by decide) (by decide) (by decide) (by decide) (by decide) (by decide) (by decide) (by decide),j8 (by decide) (by decide) (by decide) (by decide) (by decide) (by decide) (by decide) (by decide),by decide⟩
theorem In8.big {y : Nat→Int} {a b:Int} (h:In8 y 0 a) (hab:a≤b):In8 y 0 b:=fun j hj=>by
 have:=h j hj
 omega
theorem A2p : ∃ N f,HilC lA 2 N f:=NC 2 2 2 lA (by decide) (by decide) (by decide) (by decide) (fun y hy=>(Jn y hy).1.big (by decide)) (fun y hy=>(Jn y hy).2.1) (fun y hy=>(Jn y hy).2.2) (by decide)
theorem A2o : ∃ N f,HilC lB 2 N f:=NC 2 2 2 lB (by decide) (by decide) (by decide) (by decide) (fun y hy=>(Pi y hy).1.big (by decide)) (fun y hy=>(Pi y hy).2.1) (fun y hy=>(Pi y hy).2.2) (by decide)
theorem Uc (q : Nat→Int):IsMin [q] [q]:=⟨List.pairwise_singleton _ _,fun x=>⟨fun h=>⟨h,fun y hy hd=>by
 rw [List.mem_singleton.1 hy] at hd ⊢
 obtain ⟨a,ha,e⟩:=h
 rwa [List.mem_singleton.1 ha] at e⟩,fun h=>h.1⟩⟩
theorem Ud : IsMin [] []:=⟨List.Pairwise.nil,fun x=>⟨fun ⟨a,ha,_⟩=>(by cases ha),fun ⟨⟨a,ha,_⟩,_⟩=>(by cases ha)⟩⟩
def fA : Nat→Int
 | 0=>1
 | 2=>-2
 | 3=>1
 | _=>0
theorem SI (a : Nat→Int) (N:Nat) (h8:SupN 8 a) (hN:CK 8 0 a+1≤N):NumL [a] (Ib (fun d=>ZW d - Gx (CK 8 0 a) ZW d) N) fun d=>ZW d - Gx (CK 8 0 a) ZW d :=
 NumL.cons NumL.nil NumL.nil Ud (fun y hy=>by cases hy) h8 N (by omega) (.inl hN)
theorem XR {n : Nat} {a:Nat→Int} (h:SupN n a):SupN 8 a:=fun j hj=>⟨(h j hj).1,fun h=>by omega⟩
theorem A2m : ∃ F:Nat→Int,NumL lA 4 F∧∀ i,i<4→F i = fA i:=by
 have h1:=SI Yj 3 (XR (Jn Yj (by simp)).2.1) (by decide)
 have h2:=SI (qM Yj mx2) 2 (fun j hj=>⟨ZM Yj mx2 (fun j hj=>((Jn Yj (by simp)).2.1 j hj).1) j hj,fun h=>by omega⟩) (by decide)
 have h3:=NumL.cons (rest:=[Yj]) (R:=[qM Yj mx2]) (a:=mx2) h1 h2 (Uc _) (fun y hy=>by rw [List.mem_singleton.1 hy];exact XR (Jn Yj (by simp)).2.1) (XR (Jn mx2 (by simp)).2.1) 4 (by decide) (.inl (by decide))
 refine ⟨_,h3,fun i hi=>?_⟩
 have:i = 0∨i = 1∨i = 2∨i = 3:=by omega
 rcases this with rfl | rfl | rfl | rfl <;> decide
theorem Abs.le_ {P : Program} {f:FuncId} {ds:List D} {r r':D} (h:Abs P f ds r) (hr:D.le r r'):Abs P f ds r' :=
 ⟨h.1,fun s vs h1 h2 h3=>(h.2 s vs h1 h2 h3).mono fun e w' ⟨v,he,s',hw,hl,hv⟩=>⟨v,he,s',hw,hl,hr s' v hv⟩⟩
theorem dmA : FF lA 2 = 1:=by decide +kernel
theorem dmB : FF lB 2 = 0:=by decide +kernel
theorem mxA : A0i lA (2 ^ 2) = [2]:=by decide +kernel
theorem A2j : (Abs Tryz.prog 14 [BW lA,ex (.int .i64 2)] (DM [nD 4 fA,ex (.int .i64 0)]))∧(Abs Tryz.prog 22 [BW lA,ex (.int .i64 2)] (DM [ex (.int .i64 1),ex (.int .i64 0)]))∧(Abs Tryz.prog 24 [BW lA,ex (.int .i64 2)] (DM [ex (.int .i64 1),ex (.int .i64 0)]))∧(∃ F:Nat→Rat,F 0 = ((1:Int):Rat)∧Abs Tryz.prog 26 [BW lA,ex (.int .i64 2)] (DM [Dp 1 F,ex (.int .i64 0)]))∧(Abs Tryz.prog 16 [BW lA,ex (.int .i64 2),ex (.int .i64 3)] (DM [ex (.int .i64 1),ex (.int .i64 0)]))∧(Abs Tryz.prog 18 [BW lA,ex (.int .i64 2)] (DM [TE [2],ex (.int .i64 0)]))∧(Abs Tryz.prog 28 [BW lA,ex (.int .i64 2)] (DM [ex (.slice none 0 0),ex (.int .i64 160)])):=by
 obtain ⟨N,f,hc⟩:=A2p
 obtain ⟨F,hF,hFv⟩:=A2m
 have h8:∀ a∈lA,SupN 8 a:=fun a ha=>XR (Jn a ha).2.1
 obtain ⟨rfl,rfl⟩:=hc.num.inj hF h8
 have e0:f = fun i=>fA i:=funext fun i=>by
  by_cases hi:i<4
  ·exact hFv i hi
  ·rw [hF.far i (by omega)]
   match i,hi with
   | i+4,_=>rfl
 have e0:f = fA:=e0
 subst e0
 have d1:FF lA 2 = ((1:Nat):Int):=dmA
 have hq:=hc.qb 1 d1
 have hcc:=hc.cc 1 d1
 have hcd:=hc.cd
 rw [dmA] at hcd
 have hcg:=hc.cg
 have eg:YF lA 2 4 fA = 1:=by
  unfold YF
  rw [dmA]
  decide +kernel
 rw [eg] at hcg
 refine ⟨MR lA 2 4 fA hc.ck hc.cn,Va lA 2 1 hc.ck hcd,XA lA 2 1 hc.ck hcg,?_,?_,?_,Uy lA 2 1 (by decide) hc.ck hcd⟩
 ·have hp := MQ lA 2 1 (cN 4 fA (2 - 1)).1 (Cr (2 - 1) fA) (by decide) (by decide) (by decide) hq hc.ck hcd hcc
  have e1:(pH (Cr (2 - 1) fA) 1 (cN 4 fA (2 - 1)).1).1 = 1:=by decide +kernel
  rw [e1] at hp
  exact ⟨_,by decide +kernel,hp⟩
 ·have hp := MU lA 2 3 4 fA 4096 (by decide) (by decide) hc.ck hc.cn hc.num.far (fun t _ => hc.bnd t) (by decide)
  have e1:Cr 2 fA 3 = 1:=by decide +kernel
  rw [e1] at hp
  exact hp
 ·have hp := UY lA 2 (by decide) (by decide) hc.ck
  rw [mxA] at hp
  exact hp
theorem A2h : IsStd lB 2 [mz,my]:=by
 refine ⟨?_,fun x=>⟨fun ⟨a,ha,e⟩=>?_,fun hx=>?_⟩⟩
 ·rw [List.pairwise_cons]
  refine ⟨fun b hb=>?_,List.pairwise_singleton _ _⟩
  rw [List.mem_singleton.1 hb]
  decide +kernel
 ·simp only [List.mem_cons,List.not_mem_nil,or_false] at ha
  have key:StdX lB 2 a:=by
   rcases ha with rfl | rfl
   ·exact ⟨j8 (by decide) (by decide) (by decide) (by decide) (by decide) (by decide) (by decide) (by decide),by decide +kernel⟩
   ·exact ⟨j8 (by decide) (by decide) (by decide) (by decide) (by decide) (by decide) (by decide) (by decide),by decide +kernel⟩
  exact key.congr e
 ·have h1:¬ Dv mx x:=fun hd=>by
   have:=(Da (l:=lB)).2 ⟨mx,List.mem_cons_self,hd⟩
   rw [hx.2] at this
   cases this
  have h2:¬ Dv my2 x:=fun hd=>by
   have:=(Da (l:=lB)).2 ⟨my2,List.mem_cons_of_mem _ List.mem_cons_self,hd⟩
   rw [hx.2] at this
   cases this
  have hn:∀ j,j<8→0≤x j:=fun j hj=>(hx.1 j hj).1
  have hz:∀ j,j<8→2≤j→x j = 0:=fun j hj h=>(hx.1 j hj).2 h
  have h0:x 0 = 0:=by
   refine Classical.byContradiction fun hne=>h1 fun j hj=>?_
   by_cases e:j = 0
   ·subst e
    have:=hn 0 (by omega)
    show (1:Int)≤x 0
    omega
   ·have:mx j = 0:=by
     match j,e with
     | j+1,_=>rfl
    rw [this]
    exact hn j hj
  have h3:x 1<2:=by
   refine Classical.byContradiction fun hne=>h2 fun j hj=>?_
   by_cases e:j = 1
   ·subst e
    show (2:Int)≤x 1
    omega
   ·have:my2 j = 0:=by
     match j,e with
     | 0,_=>rfl
     | j+2,_=>rfl
    rw [this]
    exact hn j hj
  have h4:=hn 1 (by omega)
  by_cases h5:x 1 = 0
  ·exact ⟨mz, by simp, fun j hj => by
    show 0 = x j
    by_cases e:2≤j
    ·exact (hz j hj e).symm
    ·have : j = 0 ∨ j = 1 := by omega
     rcases this with rfl | rfl <;> omega⟩
  ·refine ⟨my, by simp, fun j hj => ?_⟩
   match j,hj with
   | 0,_=>exact h0.symm
   | 1,_=>show (1:Int) = x 1;omega
   | j+2,hj=>exact (hz (j+2) hj (by omega)).symm
theorem A2i : Abs Tryz.prog 28 [BW lB,ex (.int .i64 2)] (DM [BW [mz,my],ex (.int .i64 0)]):=by
 obtain ⟨N,f,hc⟩:=A2o
 have h:=WR (E:=1) hc (by decide) (by decide) (fun y hy=>(Pi y hy).2.1) (fun a ha j hj=>((Pi a ha).1 j hj).2) (by decide) (by rw [dmB];decide) (by decide)
 exact h.le_ (Cy (fun s v ⟨S,hS,hv⟩=>by rw [← hS.same A2h];exact hv) (D.le.refl _))
theorem Kr : Abs Tryz.prog 11 [] (ex (.bool true)):=by
 obtain ⟨c1,c2,c3,⟨F,hF,c4⟩,c5,c6,c8⟩:=A2j
 have c7:=A2i
 have cq:Abs Tryz.prog 41 [BO (Cp (F 0)),BO (Cp q1)] (ex (.bool true)):=by
  have:=Ln (F 0) q1
  rwa [decide_eq_true hF] at this
 refine Ab Tryz.func11 fun s0=>?_
 rw [Tryz.ntmps11]
 refine Y1<|Wa<|Y0<|Y1 ?_;(refine DB rfl rfl ?_;(refine FJ (Ae rfl) (Ae rfl) rfl rfl ?_;(repeat ((first | refine ⟨_,BL (ao rfl),?_⟩ | refine ⟨_,Po rfl,?_⟩);refine ⟨_,rfl,?_⟩));refine ⟨_,rfl,?_⟩));(refine DB rfl rfl ?_;(refine FJ (Ae rfl) (Ae rfl) rfl rfl ?_;(repeat ((first | refine ⟨_,BL (ao rfl),?_⟩ | refine ⟨_,Po rfl,?_⟩);refine ⟨_,rfl,?_⟩));refine ⟨_,rfl,?_⟩));(refine DB rfl rfl ?_;(refine DS (Ae rfl) (Ae rfl) rfl rfl rfl rfl rfl ?_;(repeat ((first | refine ⟨_,BL (ao rfl),?_⟩ | refine ⟨_,Po rfl,?_⟩);refine ⟨_,rfl,?_⟩));refine ⟨_,rfl,?_⟩));refine Wa<|Y0<|Y1<|Wm ?_;refine Wq (Ai (c1)) ?_;refine Wm ?_;refine Wq BP ?_;refine Wq BP ?_;refine Wa<|Wa<|Y0<|Y1<|Wm ?_;refine Wq (Ai (c2)) ?_;refine Wm ?_;refine Wq BP ?_;refine Wq BP ?_;refine Wa<|Wa<|Y0<|Y1<|Wm ?_;refine Wq (Ai (c3)) ?_;refine Wm ?_;refine Wq BP ?_;refine Wq BP ?_;refine Wa<|Wa<|Y0<|Y1<|Wm ?_;refine Wq (Ai (c4)) ?_;refine Wm ?_;refine Wq BP ?_;refine Wq BP ?_;refine Wa<|Wa<|Y0<|Y1<|Wm ?_;refine Wq (Ai (c5)) ?_;refine Wm ?_;refine Wq BP ?_;refine Wq BP ?_;refine Wa<|Wa<|Y0<|Y1<|Wm ?_;refine Wq (Ai (c6)) ?_;refine Wm ?_;refine Wq BP ?_;refine Wq BP ?_;refine Wa<|Wa<|Y0<|Y1 ?_;(refine DB rfl rfl ?_;(refine FJ (Ae rfl) (Ae rfl) rfl rfl ?_;(repeat ((first | refine ⟨_,BL (ao rfl),?_⟩ | refine ⟨_,Po rfl,?_⟩);refine ⟨_,rfl,?_⟩));refine ⟨_,rfl,?_⟩));(refine DB rfl rfl ?_;(refine FJ (Ae rfl) (Ae rfl) rfl rfl ?_;(repeat ((first | refine ⟨_,BL (ao rfl),?_⟩ | refine ⟨_,Po rfl,?_⟩);refine ⟨_,rfl,?_⟩));refine ⟨_,rfl,?_⟩));(refine DB rfl rfl ?_;(refine DS (Ae rfl) (Ae rfl) rfl rfl rfl rfl rfl ?_;(repeat ((first | refine ⟨_,BL (ao rfl),?_⟩ | refine ⟨_,Po rfl,?_⟩);refine ⟨_,rfl,?_⟩));refine ⟨_,rfl,?_⟩));refine Wq (Ai (c7)) ?_;refine Wm ?_;refine Wq BP ?_;refine Wq BP ?_;refine Wa<|Wa<|Y0<|Y1<|Wm ?_;refine Wq (Ai (c8)) ?_;refine Wm ?_;refine Wq BP ?_;refine Wq BP ?_;refine Wa<|Wa<|Y0<|Y1<|Wm ?_;refine Wq AA ?_;refine Wm ?_;refine Wg Ar ?_;refine Wg AA ?_;refine Wq AW ?_;refine Wm ?_;refine Wg Ar ?_;refine Wg AA ?_;refine Wq AW ?_;refine Wm ?_;refine Wg Ar ?_;refine Wg AA ?_;refine Wq AW ?_;refine Wm ?_;refine Wg Ar ?_;refine Wg AA ?_;refine Wq AW ?_;refine Wm ?_;refine Wg Ar ?_;refine Wg AA ?_;refine Wq AW ?_;refine Wm ?_;refine Wg Ar ?_;refine Wg AA ?_;refine Wq AW ?_;refine Wm ?_;refine Wg Ar ?_;refine Wg AA ?_;refine Wq AW ?_;refine Wa<|Y0<|Ac ?_
 refine Dr [[],[(94,0)],[],[],[(96,2),(97,3)],[(95,1),(98,4)],[(99,5)],[],[(101,7)],[(100,6),(102,8)],[(103,9)],[],[(105,11)],[(104,10),(106,12)],[(107,13)],[],[(109,15)],[(110,16)],[(108,14),(111,17)],[(112,18)],[],[(114,20)],[(115,21)],[],[(116,22),(117,23)],[(113,19),(118,24)],[(119,25)],[],[(121,27)],[(120,26),(122,28)],[(123,29)],[],[],[(125,31),(126,32)],[(124,30),(127,33)],[(128,34)],[],[],[],[(131,37),(132,38)],[(130,36),(133,39)],[(129,35),(134,40)]] [[],[0],[0,1],[0,1],[0,1,2,3],[0,1,2,3,4],[0,1,2,3,4,5],[0,1,2,3,4,5,6],[0,1,2,3,4,5,6,7],[0,1,2,3,4,5,6,7,8],[0,1,2,3,4,5,6,7,8,9],[0,1,2,3,4,5,6,7,8,9,10],[0,1,2,3,4,5,6,7,8,9,10,11],[0,1,2,3,4,5,6,7,8,9,10,11,12],[0,1,2,3,4,5,6,7,8,9,10,11,12,13],[0,1,2,3,4,5,6,7,8,9,10,11,12,13,14],[0,1,2,3,4,5,6,7,8,9,10,11,12,13,14,15],[0,1,2,3,4,5,6,7,8,9,10,11,12,13,14,15,16],[0,1,2,3,4,5,6,7,8,9,10,11,12,13,14,15,16,17],[0,1,2,3,4,5,6,7,8,9,10,11,12,13,14,15,16,17,18],[0,1,2,3,4,5,6,7,8,9,10,11,12,13,14,15,16,17,18,19],[0,1,2,3,4,5,6,7,8,9,10,11,12,13,14,15,16,17,18,19,20],[0,1,2,3,4,5,6,7,8,9,10,11,12,13,14,15,16,17,18,19,20,21],[0,1,2,3,4,5,6,7,8,9,10,11,12,13,14,15,16,17,18,19],[0,1,2,3,4,5,6,7,8,9,10,11,12,13,14,15,16,17,18,19,20,21,22,23],[0,1,2,3,4,5,6,7,8,9,10,11,12,13,14,15,16,17,18,19,20,21,22,23,24],[0,1,2,3,4,5,6,7,8,9,10,11,12,13,14,15,16,17,18,19,20,21,22,23,24,25],[0,1,2,3,4,5,6,7,8,9,10,11,12,13,14,15,16,17,18,19,20,21,22,23,24,25,26],[0,1,2,3,4,5,6,7,8,9,10,11,12,13,14,15,16,17,18,19,20,21,22,23,24,25,26,27],[0,1,2,3,4,5,6,7,8,9,10,11,12,13,14,15,16,17,18,19,20,21,22,23,24,25,26,27,28],[0,1,2,3,4,5,6,7,8,9,10,11,12,13,14,15,16,17,18,19,20,21,22,23,24,25,26,27,28,29],[0,1,2,3,4,5,6,7,8,9,10,11,12,13,14,15,16,17,18,19,20,21,22,23,24,25,26,27,28,29,30],[0,1,2,3,4,5,6,7,8,9,10,11,12,13,14,15,16,17,18,19,20,21,22,23,24,25,26,27,28,29,30],[0,1,2,3,4,5,6,7,8,9,10,11,12,13,14,15,16,17,18,19,20,21,22,23,24,25,26,27,28,29,30,31,32],[0,1,2,3,4,5,6,7,8,9,10,11,12,13,14,15,16,17,18,19,20,21,22,23,24,25,26,27,28,29,30,31,32,33],[0,1,2,3,4,5,6,7,8,9,10,11,12,13,14,15,16,17,18,19,20,21,22,23,24,25,26,27,28,29,30,31,32,33,34],[0,1,2,3,4,5,6,7,8,9,10,11,12,13,14,15,16,17,18,19,20,21,22,23,24,25,26,27,28,29,30,31,32,33,34,35],[0,1,2,3,4,5,6,7,8,9,10,11,12,13,14,15,16,17,18,19,20,21,22,23,24,25,26,27,28,29,30,31,32,33,34,35],[0,1,2,3,4,5,6,7,8,9,10,11,12,13,14,15,16,17,18,19,20,21,22,23,24,25,26,27,28,29,30,31,32,33,34,35],[0,1,2,3,4,5,6,7,8,9,10,11,12,13,14,15,16,17,18,19,20,21,22,23,24,25,26,27,28,29,30,31,32,33,34,35,37,38],[0,1,2,3,4,5,6,7,8,9,10,11,12,13,14,15,16,17,18,19,20,21,22,23,24,25,26,27,28,29,30,31,32,33,34,35,36,37,38,39],[0,1,2,3,4,5,6,7,8,9,10,11,12,13,14,15,16,17,18,19,20,21,22,23,24,25,26,27,28,29,30,31,32,33,34,35,36,37,38,39,40]] ?_
 refine Xq Ar ?_;refine Xq Ar ?_;refine Xg Ar ?_;(refine HqG rfl rfl ?_;refine DS (Ae rfl) (Ae rfl) rfl rfl rfl rfl rfl ?_;(repeat ((first | refine ⟨_,BL (ah rfl),?_⟩ | refine ⟨_,Po rfl,?_⟩);refine ⟨_,rfl,?_⟩));refine ⟨_,rfl,?_⟩;refine ⟨_,rfl,?_⟩);refine Xg (Ai (YX 4 fA (by decide))) ?_;refine Xq AW ?_;refine Xq Ar ?_;refine Xg Ar ?_;refine Xg AA ?_;refine Xq AW ?_;refine Xq Ar ?_;refine Xg Ar ?_;refine Xg AA ?_;refine Xq AW ?_;refine Xq Ar ?_;refine Xg Ar ?_;(refine ⟨_,IK rfl rfl (CC (F:=CA F) rfl (Ae rfl)),?_⟩;refine ⟨_,rfl,?_⟩);refine Xg AA ?_;refine Xq AW ?_;refine Xq Ar ?_;refine Xg Ar ?_;(refine ⟨_,IK rfl rfl (HW (F:=CA F) (k:=0) rfl (ah rfl) (Ae rfl) (Ae rfl) rfl (by decide)),?_⟩;refine ⟨_,rfl,?_⟩);refine Xg BE ?_;refine Xg (Ai (Gq 1 (by omega) (by omega))) ?_;refine Xg (Ai (cq)) ?_;refine Xq AW ?_;refine Xq Ar ?_;refine Xg Ar ?_;refine Xg AA ?_;refine Xq AW ?_;refine Xq Ar ?_;refine Xg Ar ?_;(refine HqG rfl rfl ?_;refine DS (Ae rfl) (Ae rfl) rfl rfl rfl rfl rfl ?_;(repeat ((first | refine ⟨_,BL (ah rfl),?_⟩ | refine ⟨_,Po rfl,?_⟩);refine ⟨_,rfl,?_⟩));refine ⟨_,rfl,?_⟩;refine ⟨_,rfl,?_⟩);refine Xg (Ai (YW [2])) ?_;refine Xq AW ?_;refine Xq Ar ?_;refine Xg Ar ?_;(refine HqG rfl rfl ?_;refine FJ (Ae rfl) (Ae rfl) rfl rfl ?_;(repeat ((first | refine ⟨_,BL (ah rfl),?_⟩ | refine ⟨_,Po rfl,?_⟩);refine ⟨_,rfl,?_⟩));refine ⟨_,rfl,?_⟩;refine ⟨_,rfl,?_⟩);(refine HqG rfl rfl ?_;refine FJ (Ae rfl) (Ae rfl) rfl rfl ?_;(repeat ((first | refine ⟨_,BL (ah rfl),?_⟩ | refine ⟨_,Po rfl,?_⟩);refine ⟨_,rfl,?_⟩));refine ⟨_,rfl,?_⟩;refine ⟨_,rfl,?_⟩);(refine HqG rfl rfl ?_;refine DS (Ae rfl) (Ae rfl) rfl rfl rfl rfl rfl ?_;(repeat ((first | refine ⟨_,BL (ah rfl),?_⟩ | refine ⟨_,Po rfl,?_⟩);refine ⟨_,rfl,?_⟩));refine ⟨_,rfl,?_⟩;refine ⟨_,rfl,?_⟩);refine Xg (Ai (YY [mz,my] (by decide))) ?_;refine Xq AW ?_;refine ⟨_,rfl,?_⟩
 refine Wa<|Y0 ?_;apply Aw
 exact Yf
theorem IG {P : Program} {hp:List Ow} {arg:Operand→AV} {dd:Option Tmp} {ty:TypeId} {ps:String} {af:Array Edge} {gd:Option (Nat × Bool)} {T U:TypeId} {x y:Operand} {k:IntKind} {a b:Nat} (hx:arg x = .d (ex (.int k (a:Nat)))) (hy:arg y = .d (ex (.int k (b:Nat)))) (hb:0<b):Quiet P hp ⟨dd,.binOp .rem T x y U,ty,ps,af,gd⟩ arg (.d (ex (.int k ((a % b:Nat):Int)))):=by
 have:=A0H (dd:=dd) (T:=T) (U:=U) (ty:=ty) (ps:=ps) (af:=af) (gd:=gd) (hp:=hp) (P:=P) hx hy (by omega) (by omega)
 rwa [← Int.natCast_emod] at this
abbrev R4 := Nat→Nat
def r4C (r : R4):List D:=[ex (.int .u8 ((r 0:Nat):Int)),ex (.int .u8 ((r 1:Nat):Int)),ex (.int .u8 ((r 2:Nat):Int)),ex (.int .u8 ((r 3:Nat):Int))]
def r4D (T : Nat) (X:List R4):D:=slD T 4 (X.map r4C)
instance A2a : Inhabited R4:=⟨fun _=>0⟩
abbrev QU (X : List R4) (k:Nat):R4:=X.getD k default
def Qe (r : R4):Prop:=∀ j,j<4→r j<256
theorem RN {r : R4} {k:Nat} (h:k<4):CellAt ((r4C r).drop (k*1)) 0 (ex (.int .u8 ((r k:Nat):Int))):=by
 have:k = 0∨k = 1∨k = 2∨k = 3:=by omega
 rcases this with rfl | rfl | rfl | rfl <;> exact ⟨by simp [r4C],rfl⟩
theorem UU {P : Program} {hp:List Ow} {arg:Operand→AV} {dd:Option Tmp} {ty:TypeId} {ps:String} {af:Array Edge} {gd:Option (Nat × Bool)} {S T:TypeId} {x:Operand} {k:IntKind} {a:Nat} {d:TypeDesc} {n b n' b':Nat} {z z':Value} (hx:arg x = .d (ex (.int k (a:Nat)))) (hS:Tab P S d n b z) (hT:Tab P T (.int .i64) n' b' z') (h:a<256):Quiet P hp ⟨dd,.convert S T x,ty,ps,af,gd⟩ arg (.d (ex (.int .i64 (a:Nat)))):=Ho hx hS hT (by omega) (by omega)
def XM (n top:Nat) (r:R4) (j:Nat):Int:=if j<n∧j<4 then ((r j % (top+1):Nat):Int) else 0
def mdT (top : Nat) (r:R4) (k j:Nat):Int:=if j<k then ((r j % (top+1):Nat):Int) else 0
theorem VZ (top : Nat) (r:R4):mdT top r 0 = fun _=>0:=funext fun j=>if_neg (by omega)
theorem Yo (top : Nat) (r:R4) (k:Nat):Ij (mdT top r k) k ((r k % (top+1):Nat):Int) = mdT top r (k+1):=by
 funext j
 unfold Ij mdT
 by_cases h:j = k
 ·subst h
  rw [if_pos rfl,if_pos (by omega)]
 ·rw [if_neg h]
  by_cases h2:j<k
  ·rw [if_pos h2,if_pos (by omega)]
  ·rw [if_neg h2,if_neg (by omega)]
theorem SM (n top:Nat) (r:R4):mdT top r (min n 4) = XM n top r:=by
 funext j
 unfold mdT XM
 by_cases h:j<n∧j<4
 ·rw [if_pos h,if_pos (by omega)]
 ·rw [if_neg h,if_neg (by omega)]
def LK (X : List R4) (n most top:Nat):Af:=(X.take most).map (XM n top)
theorem OY {X : List R4} {n top k:Nat} (h:k<X.length):LK X n k top ++ [XM n top (QU X k)] = LK X n (k+1) top:=by
 unfold LK
 rw [List.take_add_one,List.getElem?_eq_getElem h,List.map_append]
 have:QU X k = X[k]:=by
  rw [QU,List.getD_eq_getElem?_getD,List.getElem?_eq_getElem h]
  rfl
 rw [this]
 rfl
theorem SN (X : List R4) (n k top:Nat):(LK X n k top).length≤k:=by
 unfold LK
 rw [List.length_map,List.length_take]
 exact Nat.min_le_left _ _
theorem Xw (T : Nat) (X:List R4) (n most top:Nat) (hX:∀ r∈X,Qe r) (hn:n≤1000) (hm:most≤1000) (ht:top≤1000):Abs Tryz.prog 13 [r4D T X,ex (.int .i64 (n:Nat)),ex (.int .i64 (most:Nat)),ex (.int .i64 (top:Nat))] (BW (LK X n most top)):=by
 have hd:D.le (slD 55 8 ((LK X n (min X.length most) top).map Ba)) (BW (LK X n most top)):=by
  refine Fm ?_
  have:LK X n (min X.length most) top = LK X n most top:=by
   unfold LK
   by_cases h:X.length≤most
   ·rw [Nat.min_eq_left h,List.take_of_length_le (Nat.le_refl _),List.take_of_length_le h]
   ·rw [Nat.min_eq_right (by omega)]
  rw [this]
  rfl
 refine Ab Tryz.func13 fun s0=>?_
 rw [Tryz.ntmps13]
 refine Y1<|Wa<|Y0<|Y1 ?_;refine Od (Ae rfl) (Ae rfl) rfl rfl rfl rfl rfl ?_;refine Wa<|Y0<|Ac<|Y1<|Wa<|Y0<|AWp.block ?_
 refine AT (fun mz σ=>∃ k,k≤min X.length most∧mz = min X.length most - k∧σ = ⟨[(0,.d (r4D T X)),(1,.d (ex (.int .i64 (n:Nat)))),(2,.d (ex (.int .i64 (most:Nat)))),(3,.d (ex (.int .i64 (top:Nat)))),(9,.own 0),(10,.d (ex (.int .i64 (k:Nat))))],[.row 55 8 ((LK X n k top).map Ba)]⟩) ?le ⟨0,by omega,rfl,rfl⟩ ?round
 case le=>exact Ao (by exact Yd<|Yd<|Yd<|Yd<|FrLe.cons rfl (AVle.own rfl)<|Yd<|FrLe.nil) (by exact Yr<|HpLe.nil)
 case round =>
  rintro mz _ ⟨k,hk,rfl,rfl⟩
  by_cases hlt:k<min X.length most
  ·have hkl : k < X.length := by omega
   have hkm:((k:Nat):Int)<((most:Nat):Int):=by omega
   have hkx:((k:Nat):Int)<((X.length:Nat):Int):=by omega
   have hml:=SN X n k top
   have hr:Qe (QU X k):=hX _ (by
    rw [QU,List.getD_eq_getElem?_getD,List.getElem?_eq_getElem hkl]
    exact List.getElem_mem hkl)
   refine Ac<|Y1<|Wm<|Wm ?_;refine Wq En ?_;refine Wq AA ?_;refine Wm ?_;refine Wg Ar ?_;refine Wg Ar ?_;refine Wg AA ?_;refine Wq AW ?_;apply Y0;refine Ct ?_;refine Ys<|Ac<|AWp.block<|Y1 ?_;(refine DB rfl rfl ?_;(refine FJ (Ae rfl) (Ae rfl) rfl rfl ?_;(repeat ((first | refine ⟨_,BL (ao rfl),?_⟩ | refine ⟨_,Po rfl,?_⟩);refine ⟨_,rfl,?_⟩));refine ⟨_,rfl,?_⟩));refine Al ?_;refine Sf ?_;refine Y0<|Ac<|Y1<|Wa<|Y0<|AWp.block ?_
   refine AT (fun mz σ=>∃ i,i≤min n 4∧mz = min n 4 - i∧σ = ⟨[(0,.d (r4D T X)),(1,.d (ex (.int .i64 (n:Nat)))),(2,.d (ex (.int .i64 (most:Nat)))),(3,.d (ex (.int .i64 (top:Nat)))),(9,.own 0),(10,.d (ex (.int .i64 (k:Nat)))),(11,.ptr 1 0),(12,.d (ex (.int .i64 (i:Nat))))],[.row 55 8 ((LK X n k top).map Ba),.var 55 ((Ba (mdT top (QU X k) i)).map .d)]⟩) ?lei ⟨0,by omega,rfl,rfl⟩ ?roundi
   case lei=>exact Ao (by exact Yd<|Yd<|Yd<|Yd<|FrLe.cons rfl (AVle.own rfl)<|Yd<|Yp<|Yd<|FrLe.nil) (by apply Yr;(refine HpLe.cons (DJ (by rw [VZ];rfl)) ?_);exact HpLe.nil)
   case roundi =>
    rintro mz _ ⟨i,hi,rfl,rfl⟩
    by_cases hlti:i<min n 4
    ·have hi4 : i < 4 := by omega
     have hi8:i<8:=by omega
     have hin:((i:Nat):Int)<((n:Nat):Int):=by omega
     have hr1:=hr i hi4
     refine Ac<|Y1<|Wm<|Wm ?_;refine Wq AA ?_;refine Wm ?_;refine Wg Ar ?_;refine Wg AA ?_;refine Wq AW ?_;apply Y0;refine Ct ?_;refine Ys<|Ac<|AWp.block<|AWp.region<|Wm<|Wm<|Wm<|Wm ?_;refine Wq BU ?_;refine Wq A0D ?_;refine Wq (Xk (ao rfl) (Ae rfl) rfl (RN hi4)) ?_;refine Wq (UU (ao rfl) (Ae rfl) (Ae rfl) hr1) ?_;refine Wm ?_;refine Wq Bd ?_;refine Wq (IG (a:=QU X k i) (b:=top+1) (ao rfl) (ao rfl) (by omega)) ?_;refine Wq Dz ?_;(refine GZ (ao rfl) (ao rfl) rfl (Ae rfl) (by first | exact DK rfl | exact One.sl | exact FH) (SetAt.mon (by first | omega | (simp;omega))) rfl ?_);apply AWl.nil;apply As;refine Yn<|AWp.region<|Wm ?_;refine Wq Bd ?_;refine Wa ?_;apply AWl.nil
     refine ALoop.next (min n 4 - (i+1)) (by omega) ⟨i+1,by omega,rfl,rfl⟩ ?_
     exact Ao (by exact Yd<|Yd<|Yd<|Yd<|FrLe.cons rfl (AVle.own rfl)<|Yd<|Yp<|Yd<|FrLe.nil) (by exact Yr<|HpLe.cons (DJ (by rw [Yo]))<|HpLe.nil)
    ·have hi8 : ¬ (((i : Nat) : Int) < ((n : Nat) : Int) ∧ ((i : Nat) : Int) < 4) := by omega
     obtain rfl:i = min n 4:=by omega
     by_cases h4:n≤4
     ·have h5 : ¬ ((min n 4 : Nat) : Int) < ((n : Nat) : Int) := by omega
      refine Ac<|Y1<|Wm<|Wm ?_;refine Wq At ?_;refine Wm ?_;refine Ws ?_;refine Ws ?_;refine Wq Bz ?_;apply Y0;refine Cf ?_;apply AP;apply AF;apply AG;apply AH;refine Yn<|AWp.region<|Wm ?_;refine Wq AN ?_;refine Wq (EV (ao rfl) (Ae rfl) (Ae rfl) rfl rfl rfl rfl rfl) ?_;(refine Ap ?_);refine Wa ?_;apply AWl.nil;apply As;refine Yn<|AWp.region<|Wm ?_;refine Wq Bd ?_;refine Wa ?_;apply AWl.nil
      rw [SM]
      skip
      refine ALoop.next (min X.length most - (k+1)) (by omega) ⟨k+1,by omega,rfl,rfl⟩ ?_
      exact Ao (by exact Yd<|Yd<|Yd<|Yd<|FrLe.cons rfl (AVle.own rfl)<|Yd<|FrLe.nil) (by refine HpLe.cons (EG ((KH Ba _ _).trans (by rw [OY hkl]))) ?_;exact HpLe.nil)
     ·have h5 : ((min n 4 : Nat) : Int) < ((n : Nat) : Int) := by omega
      have h6:¬ ((min n 4:Nat):Int)<4:=by omega
      refine Ac<|Y1<|Wm<|Wm ?_;refine Wq AA ?_;refine Wm ?_;refine Wg Ar ?_;refine Wg At ?_;refine Wq AW ?_;apply Y0;refine Cf ?_;apply AP;apply AF;apply AG;apply AH;refine Yn<|AWp.region<|Wm ?_;refine Wq AN ?_;refine Wq (EV (ao rfl) (Ae rfl) (Ae rfl) rfl rfl rfl rfl rfl) ?_;(refine Ap ?_);refine Wa ?_;apply AWl.nil;apply As;refine Yn<|AWp.region<|Wm ?_;refine Wq Bd ?_;refine Wa ?_;apply AWl.nil
      rw [SM]
      skip
      refine ALoop.next (min X.length most - (k+1)) (by omega) ⟨k+1,by omega,rfl,rfl⟩ ?_
      exact Ao (by exact Yd<|Yd<|Yd<|Yd<|FrLe.cons rfl (AVle.own rfl)<|Yd<|FrLe.nil) (by refine HpLe.cons (EG ((KH Ba _ _).trans (by rw [OY hkl]))) ?_;exact HpLe.nil)
  ·obtain rfl : k = min X.length most := by omega
   by_cases h4:X.length≤most
   ·have h5 : ¬ ((min X.length most : Nat) : Int) < ((X.length : Nat) : Int) := by omega
    refine Ac<|Y1<|Wm<|Wm ?_;refine Wq En ?_;refine Wq At ?_;refine Wm ?_;refine Ws ?_;refine Ws ?_;refine Ws ?_;refine Wq Bz ?_;apply Y0;refine Cf ?_;apply AP;apply AF;apply AG;apply AH;refine Yn<|Y1<|Wm<|Wa<|Y0 ?_;apply Aw
    exact BQ (Rets.of1 (ResV.tmp rfl rfl) (hd))
   ·have h5 : ((min X.length most : Nat) : Int) < ((X.length : Nat) : Int) := by omega
    have h6:¬ ((min X.length most:Nat):Int)<((most:Nat):Int):=by omega
    refine Ac<|Y1<|Wm<|Wm ?_;refine Wq En ?_;refine Wq AA ?_;refine Wm ?_;refine Wg Ar ?_;refine Wg Ar ?_;refine Wg At ?_;refine Wq AW ?_;apply Y0;refine Cf ?_;apply AP;apply AF;apply AG;apply AH;refine Yn<|Y1<|Wm<|Wa<|Y0 ?_;apply Aw
    exact BQ (Rets.of1 (ResV.tmp rfl rfl) (hd))
def inD (T : Nat) (X:List R4) (m:Nat):D:=BO [r4D T X,ex (.int .u8 (m:Nat))]
theorem Hn {P : Program} {hp:List Ow} {arg:Operand→AV} {dd:Option Tmp} {ty:TypeId} {ps:String} {af:Array Edge} {gd:Option (Nat × Bool)} {S T:TypeId} {x:Operand} {k:IntKind} {a c:Nat} {d:TypeDesc} {n b n' b':Nat} {z z':Value} (hx:arg x = .d (ex (.int k ((a % c:Nat):Int)))) (hS:Tab P S d n b z) (hT:Tab P T (.int .i64) n' b' z') (h:a<256):Quiet P hp ⟨dd,.convert S T x,ty,ps,af,gd⟩ arg (.d (ex (.int .i64 ((a % c:Nat):Int)))):=Ho hx hS hT (by omega) (by have:=Nat.mod_le a c;omega)
theorem Vm (T : Nat) (X:List R4) (m:Nat) (hm:m<256):Abs Tryz.prog 12 [inD T X m] (ex (.int .i64 ((m % 5:Nat):Int))):=by
 refine Ab Tryz.func12 fun s0=>?_
 rw [Tryz.ntmps12]
 apply Y1;refine Bx ?_;refine Wa<|Y0<|Y1 ?_;refine Wq BF ?_;refine Wq Bb ?_;refine Wq (IG (a:=m) (b:=5) (ao rfl) (ao rfl) (by decide)) ?_;refine Wq (Hn (ao rfl) (Ae rfl) (Ae rfl) hm) ?_;refine Wa<|Y0 ?_;apply Aw
 exact Yf
theorem Wb (T : Nat) (X:List R4) (m:Nat) (hm:m<256) (hX:∀ r∈X,Qe r):Abs Tryz.prog 32 [inD T X m] (BW (LK X (m % 5) 5 4)):=by
 have c:=Xw T X (m % 5) 5 4 hX (by omega) (by decide) (by decide)
 refine Ab Tryz.func32 fun s0=>?_
 rw [Tryz.ntmps32]
 apply Y1;refine Bx ?_;refine Wa<|Y0<|Y1 ?_;refine Wq BF ?_;refine Wq Bb ?_;refine Wq BF ?_;refine Wq Bb ?_;refine Wq (IG (a:=m) (b:=5) (ao rfl) (ao rfl) (by decide)) ?_;refine Wq (Hn (ao rfl) (Ae rfl) (Ae rfl) hm) ?_;refine Wq (Ai (c)) ?_;refine Wa<|Y0 ?_;apply Aw
 exact Yf
def Pp (m : Nat→Int):Af→Af
 | []=>[m]
 | y :: l=>if 0≤Gk m y then (if JO y m = true then y :: l else m :: y :: l) else y :: Pp m l
theorem YC {L : Af} {k:Nat} (h:k<L.length):L.drop k = Bn L k :: L.drop (k+1):=by
 rw [List.drop_eq_getElem_cons h,Bn,List.getD_eq_getElem?_getD,List.getElem?_eq_getElem h]
 rfl
def InsI (m : Nat→Int) (L:Af) (k:Nat) (d:Bool) (o:Af):Prop:=if d = true then o ++ L.drop k = Pp m L else o ++ Pp m (L.drop k) = Pp m L
theorem InsI.put {m : Nat→Int} {L o:Af} {k:Nat} (h:InsI m L k false o) (hk:k<L.length) (hc:0≤Gk m (Bn L k)) (he:JO (Bn L k) m = false):InsI m L (k+1) true (o ++ [m] ++ [Bn L k]):=by
 have h:o ++ Pp m (L.drop k) = Pp m L:=h
 rw [YC hk,Pp,if_pos hc,if_neg (by rw [he];exact Bool.false_ne_true)] at h
 show o ++ [m] ++ [Bn L k] ++ L.drop (k+1) = Pp m L
 rw [← h]
 simp
theorem SL (n : Nat) (r:R4) (j:Nat):0≤XM n 4 r j∧XM n 4 r j≤4∧((n≤j∨4≤j)→XM n 4 r j = 0):=by
 unfold XM
 have:=Nat.mod_lt (r j) (show 0<4+1 by decide)
 split
 ·exact ⟨by omega,by omega,fun h=>by omega⟩
 ·exact ⟨by omega,by omega,fun _=>rfl⟩
theorem Ns {X : List R4} {n most top:Nat} {y:Nat→Int} (h:y∈LK X n most top):∃ r∈X,y = XM n top r:=by
 obtain ⟨r,hr,rfl⟩:=List.mem_map.1 h
 exact ⟨r,List.mem_of_mem_take hr,rfl⟩
theorem A1x (n : Nat) (r:R4):CK 8 0 (XM n 4 r)≤16:=by
 have h:=SL n r
 simp only [CK]
 have h0:=h 0;have h1:=h 1;have h2:=h 2;have h3:=h 3
 have e4:=(h 4).2.2 (.inr (by decide));have e5:=(h 5).2.2 (.inr (by decide));have e6:=(h 6).2.2 (.inr (by decide));have e7:=(h 7).2.2 (.inr (by decide))
 simp only [Nat.zero_add,Nat.reduceAdd,e4,e5,e6,e7]
 omega
theorem VY {X : List R4} {n most:Nat}:∀ y∈LK X n most 4,SupN n y:=fun y hy j hj=>by
 obtain ⟨r,_,rfl⟩:=Ns hy
 exact ⟨(SL n r j).1,fun h=>(SL n r j).2.2 (.inl h)⟩
theorem A1w {X : List R4} {n most:Nat}:∀ y∈LK X n most 4,In8 y 0 64:=fun y hy j hj=>by
 obtain ⟨r,_,rfl⟩:=Ns hy
 have:=SL n r j
 exact ⟨this.1,by omega⟩
theorem A0g {X : List R4} {n most:Nat}:∀ y∈LK X n most 4,CK 8 0 y≤16:=fun y hy=>by
 obtain ⟨r,_,rfl⟩:=Ns hy
 exact A1x n r
theorem A09 {n k:Nat} (hn:n≤4) (hk:k≤12):(2:Int) ^ k*(((16*k:Nat):Int)+1) ^ (n+1)≤9223372036854775807:=by
 have h1:(16*k+1) ^ (n+1)≤193 ^ 5:=Nat.le_trans (Nat.pow_le_pow_left (by omega) _) (Nat.pow_le_pow_right (by decide) (by omega))
 have h0:2 ^ k≤2 ^ 12:=Nat.pow_le_pow_right (by decide) hk
 have h2:(2:Int) ^ k*(((16*k:Nat):Int)+1) ^ (n+1) = ((2 ^ k*(16*k+1) ^ (n+1):Nat):Int):=by
  push_cast
  rfl
 have h3:2 ^ k*(16*k+1) ^ (n+1)≤2 ^ 12*193 ^ 5:=Nat.mul_le_mul h0 h1
 have h4:2 ^ 12*193 ^ 5≤9223372036854775807:=by decide
 rw [h2]
 omega
theorem A0p (X : List R4) (n most:Nat) (hn:n≤4) (hm:most≤12):∃ N f,HilC (LK X n most 4) n N f:=NC most 16 n _ (by omega) hm (SN X n most 4) (by decide) A1w VY A0g (A09 hn hm)
theorem WB {n d:Nat} (hn:n≤4) (hd:d≤64):(4096:Int)*(((d:Nat):Int)+1) ^ n≤9223372036854775807:=by
 have h:(d+1) ^ n≤65 ^ 4:=Nat.le_trans (Nat.pow_le_pow_left (by omega) _) (Nat.pow_le_pow_right (by decide) hn)
 have h2:(4096:Int)*(((d:Nat):Int)+1) ^ n = ((4096*(d+1) ^ n:Nat):Int):=by
  push_cast
  rfl
 have h3:4096*(d+1) ^ n≤4096*65 ^ 4:=Nat.mul_le_mul_left _ h
 have h4:4096*65 ^ 4≤9223372036854775807:=by decide
 rw [h2]
 omega
theorem HilC.count {l : Af} {n N d:Nat} {f:Nat→Int} (hc:HilC l n N f) (hn:n≤4) (hd:d≤64) (h2:∀ y∈l,SupN n y):Abs Tryz.prog 16 [BW l,ex (.int .i64 (n:Nat)),ex (.int .i64 (d:Nat))] (DM [ex (.int .i64 (hN n d l)),ex (.int .i64 0)]):=by
 rw [← hc.num.num n (by omega) h2 d]
 exact MU l n d N f 4096 (by omega) hd hc.ck hc.cn hc.num.far (fun t _=>hc.bnd t) (WB hn hd)
theorem Qq (l : Af) (n d:Int) (F:Nat→Rat) (hd:d≤0) (ck:Abs Tryz.prog 46 [BW l,ex (.int .i64 n)] (ex (.int .i64 0))) (cd:Abs Tryz.prog 55 [BW l,ex (.int .i64 n)] (ex (.int .i64 d))):Abs Tryz.prog 26 [BW l,ex (.int .i64 n)] (DM [Dp 0 F,ex (.int .i64 0)]):=by
 refine Ab Tryz.func26 fun s0=>?_
 rw [Tryz.ntmps26]
 refine Y1<|Wa<|Wa<|Y0<|Ac<|Y1<|Wm<|Wm ?_;refine Wq (Ai (ck)) ?_;refine Wa<|Y0<|Y1<|Wm ?_;refine Wq At ?_;apply Y0;refine Cf ?_;refine Ys<|Y1<|Wm<|Wm ?_;refine Wq (Ai (cd)) ?_;refine Wa<|Y0<|Ac<|Y1<|Wm ?_;refine Wq AA ?_;apply Y0;refine Ct ?_;refine Y1<|Wa<|Wa<|Y0 ?_;apply Aw;apply AR
 exact BQ (CW (ResV.tmp rfl rfl) (ResV.tmp rfl rfl) (Cy (Eo) (D.le.refl _)))
open Classical in
theorem NN (q : Rat) (N:Nat) (h:RSz q N) (hN:N≤1000000000):Abs Tryz.prog 81 [BO (Cp q)] (ex (.bool true)):=by
 have hq:QOk (decide (q.num<0)) (Ah q.num.natAbs) (decide ((q.den:Int)<0)) (Ah (q.den:Int).natAbs):=⟨q,rfl,rfl,rfl,rfl⟩
 have:=PU (decide (q.num<0)) (Ah q.num.natAbs) (decide ((q.den:Int)<0)) (Ah (q.den:Int).natAbs) (Bp _) (Bp _) (Nat.le_trans h.1 hN) (Nat.le_trans h.2 hN)
 rw [decide_eq_true hq] at this
 exact this
theorem Qd (n S:Nat) (F:Nat→Rat) (hn:n≤100000) (hF:∀ k,RSz (F k) S) (hS:S≤1000000000) (h0:n = 0∨F (n - 1) ≠ 0):Abs Tryz.prog 40 [Dp n F] (ex (.bool true)):=by
 refine Ab Tryz.func40 fun s0=>?_
 rw [Tryz.ntmps40]
 refine Y1<|Wa<|Y0<|Ac<|Y1<|Wa<|Y0<|AWp.block ?_
 refine AT (fun mz σ=>∃ k,k≤n∧mz = n - k∧σ = ⟨[(0,.d (Dp n F)),(3,.d (ex (.int .i64 (k:Nat))))],[]⟩) ?le ⟨0,by omega,rfl,rfl⟩ ?round
 case le=>exact Ao (by exact Yd<|Yd<|FrLe.nil) (by exact HpLe.nil)
 case round =>
  rintro mz _ ⟨k,hk,rfl,rfl⟩
  by_cases hlt:k<n
  ·have cv:=NN (F k) S (hF k) hS
   refine Ac<|Y1<|Wm<|Wm ?_;refine Wq (CC (F:=CA F) rfl (Ae rfl)) ?_;refine Wq AA ?_;apply Y0;refine Ct ?_;refine Ys<|Ac<|AWp.block<|Y1<|Wm<|Wm ?_;refine Wq (HW (F:=CA F) (k:=k) rfl (ao rfl) (Ae rfl) (Ae rfl) rfl hlt) ?_;refine Wq BE ?_;refine Wq (Ai (cv)) ?_;refine Wq Ci ?_;apply Y0;refine Cf ?_;apply BJ;apply As;refine Yn<|AWp.region<|Wm ?_;refine Wq Bd ?_;refine Wa ?_;apply AWl.nil
   refine ALoop.next (n - (k+1)) (by omega) ⟨k+1,by omega,rfl,rfl⟩ ?_
   exact Ao (by exact Yd<|Yd<|FrLe.nil) (by exact HpLe.nil)
  ·obtain rfl : k = n := by omega
   by_cases hk:k = 0
   ·refine Ac<|Y1<|Wm<|Wm ?_;refine Wq (CC (F:=CA F) rfl (Ae rfl)) ?_;refine Wq At ?_;apply Y0;refine Cf ?_;apply AP;apply AF;apply AG;apply AH;refine Yn<|Y1<|Wm ?_;refine Wq (CC (F:=CA F) rfl (Ae rfl)) ?_;refine Wq AA ?_;refine Wm ?_;refine Ws ?_;refine Ws ?_;refine Ws ?_;refine Ws ?_;refine Ws ?_;refine Ws ?_;refine Ws ?_;refine Ws ?_;refine Wq AW ?_;refine Wa<|Y0 ?_;apply Aw
    exact Yf
   ·have hs:¬ (F (k - 1)).num.sign = 0:=fun h=>h0.resolve_left hk (DD.1 h)
    have cs:=UH (F (k - 1))
    refine Ac<|Y1<|Wm<|Wm ?_;refine Wq (CC (F:=CA F) rfl (Ae rfl)) ?_;refine Wq At ?_;apply Y0;refine Cf ?_;apply AP;apply AF;apply AG;apply AH;refine Yn<|Y1<|Wm ?_;refine Wq (CC (F:=CA F) rfl (Ae rfl)) ?_;refine Wq At ?_;refine Wm ?_;refine Wg Ar ?_;refine Wg Ar ?_;refine Wg (CC (F:=CA F) rfl (Ae rfl)) ?_;refine Wg DT ?_;refine Wg (HW (F:=CA F) (k:=k - 1) rfl (ao rfl) (Ae rfl) (Ae rfl) rfl (by omega)) ?_;refine Wg BE ?_;refine Wg (Ai (cs)) ?_;refine Wg AA ?_;refine Wq Bz ?_;refine Wa<|Y0 ?_;apply Aw
    exact Yf
theorem ZS {F : Nat→Rat} {x:Rat} {S Sx:Nat} (hF:∀ k,RSz (F k) S) (hx:RSz x Sx):∀ k m,RSz (gH F x m k) (1+k*(S+Sx+1))
 | 0,_=>by
  rw [Nat.zero_mul]
  exact OE (x:=0) (by omega) (by omega)
 | k+1,m=>by
  have h:=((ZS hF hx k (m+1)).mul hx).add (hF m)
  refine h.mono ?_
  rw [Nat.succ_mul]
  omega
theorem UI (n S:Nat) (F:Nat→Rat) (x:Rat) (hn:n≤8) (hF:∀ k,RSz (F k) S) (hS:S≤1000000000) (hx:RSz x 1):Abs Tryz.prog 42 [Dp n F,BO (Cp x)] (BO (Cp (JN n F x))):=by
 rw [← A0q]
 refine Ab Tryz.func42 fun s0=>?_
 rw [Tryz.ntmps42]
 apply Y1;refine Bx ?_;refine Al ?_;refine Y0<|Y1 ?_;refine Wq (Ai (Gq 0 (by omega) (by omega))) ?_;refine Al ?_;refine Sf ?_;refine Y0<|Ac<|Y1<|Wm ?_;refine Wq (CC (F:=CA F) rfl (Ae rfl)) ?_;refine Wq Gr ?_;refine Wa<|Y0<|AWp.block ?_
 refine AT (fun mz σ=>∃ k,k≤n∧mz = n - k∧σ = ⟨[(0,.d (Dp n F)),(3,.ptr 0 0),(4,.ptr 1 0),(5,.ptr 2 0),(6,.d (ex (.int .i64 ((n:Nat) - 1 - (k:Nat):Int))))],[.var 71 ((Cp x).map .d),.var 71 (zz.map .d),.var 71 ((Cp (gH F x (n - k) k)).map .d)]⟩) ?le ⟨0,by omega,rfl,rfl⟩ ?round
 case le=>exact Ao (by exact Yd<|Yp<|Yp<|Yp<|FrLe.cons rfl (AVle.int (by first | rfl | omega))<|FrLe.nil) (by exact Yv<|Yv<|Yv<|HpLe.nil)
 case round =>
  rintro mz _ ⟨k,hk,rfl,rfl⟩
  by_cases hlt:k<n
  ·have e : (((n : Nat) : Int) - 1 - ((k : Nat) : Int)) = ((n - 1 - k : Nat) : Int) := by omega
   have hs:=ZS hF hx k (n - k)
   have hb:k*(S+1+1)≤8*1000000002:=Nat.mul_le_mul (by omega) (by omega)
   have c1:=WZ (gH F x (n - k) k) x _ 1 hs hx (by omega)
   have c2:=Xb (gH F x (n - k) k*x) (F (n - 1 - k)) _ S (hs.mul hx) (hF _) (by omega)
   have hstep:gH F x (n - k) k*x+F (n - 1 - k) = gH F x (n - (k+1)) (k+1):=by
    rw [gH,show n - (k+1)+1 = n - k by omega,show n - (k+1) = n - 1 - k by omega]
   rw [hstep] at c2
   rw [e]
   refine Ac<|Y1<|Wm ?_;refine Wq AA ?_;apply Y0;refine Ct ?_;refine Ys<|Ac<|AWp.block ?_
   refine Dr [[],[],[(15,0),(16,1)],[],[],[(18,3),(19,4)],[(20,5)],[(17,2),(21,6)]] [[],[],[0,1],[],[],[3,4],[3,4,5],[0,1,2,3,4,5,6]] ?_
   refine Xq AN ?_;refine Xq AN ?_;refine Xq (Ai (c1)) ?_;refine Xq Ar ?_;refine Xq Ar ?_;(refine Xq (HW (F:=CA F) (k:=n - 1 - k) rfl (ah rfl) (Ae rfl) (Ae rfl) rfl (by omega)) ?_);refine Xq BE ?_;refine Xq (Ai (c2)) ?_;refine ⟨_,rfl,?_⟩
   refine Sf ?_;apply AWl.nil;apply As;refine Yn<|AWp.region<|Wm ?_;refine Wq Gr ?_;refine Wa ?_;apply AWl.nil
   refine ALoop.next (n - (k+1)) (by omega) ⟨k+1,by omega,rfl,rfl⟩ ?_
   exact Ao (by exact Yd<|Yp<|Yp<|Yp<|FrLe.cons rfl (AVle.int (by first | rfl | omega))<|FrLe.nil) (by exact Yv<|Yv<|Yv<|HpLe.nil)
  ·obtain rfl : k = n := by omega
   have e:(((k:Nat):Int) - 1 - ((k:Nat):Int)) = -1:=by omega
   rw [e,Nat.sub_self]
   refine Ac<|Y1<|Wm ?_;refine Wq At ?_;apply Y0;refine Cf ?_;apply AP;apply AF;apply AG;apply AH;refine Yn<|Y1 ?_;refine Wq AN ?_;refine Sf ?_;apply Y0;apply Aw
   exact BQ (Rets.of1 (ResV.cell rfl rfl (Ae rfl) rfl rfl rfl) (D.le.refl _))
theorem HilC.polyV {l : Af} {n N:Nat} {f:Nat→Int} (hc:HilC l n N f) (hn:n≤8) (h2:∀ y∈l,SupN n y):∃ (p:Nat) (F:Nat→Rat),p≤8∧(∀ k,RSz (F k) 1000000000)∧(p = 0∨F (p - 1) ≠ 0)∧(∀ d:Nat,N≤d→JN p F ((d:Int):Rat) = ((hN n d l:Int):Rat))∧Abs Tryz.prog 26 [BW l,ex (.int .i64 (n:Nat))] (DM [Dp p F,ex (.int .i64 0)]):=by
 by_cases h:FF l n≤0
 ·refine ⟨0, fun _ => ((0 : Int) : Rat), by omega, fun _ => (OE (x := 0) (by omega) (by omega)).mono (by omega), .inl rfl, fun d hd => ?_, Qq l n _ _ h hc.ck hc.cd⟩
  have e:hN n d l = 0:=by
   rw [← hc.num.num n hn h2 d]
   obtain ⟨c0,hser⟩:=Np hn h2 hc.num.num
   rcases hser with ⟨_,_,g⟩ | ⟨m,p,B,g1,_,_,_⟩
   ·rw [g]
   ·have g1:FF l n = (m:Int):=g1
    have h0:=hc.far 0 (by omega) d
    rw [Nat.sub_zero] at h0
    exact h0 (Nat.le_trans (PP N f n) hd)
  rw [e]
  rfl
 ·obtain ⟨Dm, hDm⟩ : ∃ Dm : Nat, FF l n = Dm := ⟨(FF l n).toNat, by omega⟩
  have hd:=hc.dle
  have cd:=hc.cd
  rw [hDm] at cd
  have hM:=PP N f (n - Dm)
  have hN:=hc.nle
  have hp:=hc.pos Dm hDm
  have hD:0<Dm:=by omega
  have h1:=MQ l n Dm _ _ hD (by omega) (by omega) (hc.qb Dm hDm) hc.ck cd (hc.cc Dm hDm)
  refine ⟨_,_,Nat.le_trans (OS _ hD _) (by omega),fun k=>?_,.inr ?_,fun d hd2=>?_,h1⟩
  ·have hsz : Oh (Dm - 1) ≤ 100000 := QL (by omega)
   refine (VI (Dg:=Dm) (by omega) (fun j=>OC (hc.qb Dm hDm j).1 (hc.qb Dm hDm j).2) (cN N f (n - Dm)).1 (by omega) k).mono ?_
   have:(cN N f (n - Dm)).1*(Oh (Dm - 1)+2)≤6145*100002:=Nat.mul_le_mul (by omega) (by omega)
   omega
  ·have h3:=Nl (Cr (n - Dm) f) Dm (cN N f (n - Dm)).1
   have h4:(pH (Cr (n - Dm) f) Dm (cN N f (n - Dm)).1).1 = Dm:=A0c hD (by omega)
   rw [h4]
   have h5:VH (Cr (n - Dm) f) Dm (cN N f (n - Dm)).1 (Dm - 1) = (pH (Cr (n - Dm) f) Dm (cN N f (n - Dm)).1).2 (Dm - 1):=if_pos (by omega)
   rw [← h5,h3]
   intro h6
   rcases Rat.mul_eq_zero.1 h6 with h7 | h7
   ·have : Bv (cN N f (n - Dm)).1 (Cr (n - Dm) f) = 0 := by exact_mod_cast h7
    omega
   ·exact Vl _ h7
  ·rw [YB _ _ _ d hD (by omega) (hc.far Dm hDm),← FM,show Dm+(n - Dm) = n by omega,hc.num.num n hn h2 d]
theorem TM (T : Nat) (X:List R4) (m u:Nat) (hX:∀ r∈X,Qe r) (hm:m<256) (hu:u<256):Abs Tryz.prog 7 [inD T X m,ex (.int .u8 (u:Nat))] (ex (.bool true)):=by
 obtain ⟨Na,f,hc⟩:=A0p X (m % 5) 5 (by omega) (by decide)
 have cm:=Wb T X m hm hX
 have cv:=Vm T X m hm
 have h2:∀ y∈LK X (m % 5) 5 4,SupN (m % 5) y:=VY
 obtain ⟨p,F,hp8,hsz,hlast,hev,cp⟩:=hc.polyV (by omega) h2
 obtain ⟨n,hn⟩:∃ n,n = m % 5:=⟨_,rfl⟩
 have hn4:n≤4:=by omega
 rw [← hn] at hc cm cv h2 hev cp
 obtain ⟨l,hl⟩:∃ l,l = LK X n 5 4:=⟨_,rfl⟩
 rw [← hl] at hc cm h2 hev cp
 have ck:=MR l n Na f hc.ck hc.cn
 have na:=hc.nle
 obtain ⟨d,hd⟩:∃ d,d = max (u % 61) Na:=⟨_,rfl⟩
 have hd1:max ((u % 61:Nat):Int) ((Na:Nat):Int) = ((d:Nat):Int):=by omega
 have hd2:min ((d:Nat):Int) 64 = ((min d 64:Nat):Int):=by omega
 have cc:=hc.count (d:=min d 64) hn4 (by omega) h2
 rw [← hd2,← hd1] at cc
 have cva:=Qd p 1000000000 F (by omega) hsz (by omega) hlast
 by_cases h64:(64:Int)<max ((u % 61:Nat):Int) ((Na:Nat):Int)
 ·refine Ab Tryz.func7 fun s0 => ?_
  rw [Tryz.ntmps7]
  apply Y1;refine Bx ?_;refine Wa<|Y0<|Y1 ?_;refine Wq (Ai (Kr)) ?_;refine Wa<|Y0<|Ac<|Y1<|Wm ?_;refine Wq Ci ?_;apply Y0;refine Cf ?_;refine Ys<|Ac ?_
  refine Dr [[],[(18,0)],[],[(20,2)]] [[],[0],[],[0,1,2]] ?_
  refine Xq AN ?_;refine Xq (Ai (cm)) ?_;refine Xq AN ?_;refine Xq (Ai (cv)) ?_;refine ⟨_,rfl,?_⟩
  refine Wa<|Wa<|Y0<|Y1<|Wm<|Wm ?_;refine Wq (Ai (ck)) ?_;refine Wm ?_;refine Wq BP ?_;refine Wq BP ?_;refine Wa<|Wa<|Y0<|Y1<|Wm<|Wm ?_;refine Wq (Ai (cp)) ?_;refine Wm ?_;refine Wq BP ?_;refine Wq BP ?_;refine Wa<|Wa<|Y0<|Y1<|Wm ?_;refine Wq (IG (a:=u) (b:=61) (ao rfl) (ao rfl) (by decide)) ?_;refine Wq (Hn (ao rfl) (Ae rfl) (Ae rfl) hu) ?_;refine Wm ?_;refine Wq (Ex (n:=Na) (f:=f) rfl (Ae rfl)) ?_;refine Wq Lo ?_;refine Wa<|Y0<|Y1<|Wm<|Wm<|Wm ?_;refine Wq Rx ?_;refine Wq (Ai (cc)) ?_;refine Wm ?_;refine Wq BP ?_;refine Wq BP ?_;refine Wa<|Wa<|Y0<|Ac<|Y1<|Wm ?_;refine Wq At ?_;refine Wm ?_;refine Wg Ar ?_;refine Wg At ?_;refine Wq Bz ?_;refine Wm ?_;refine Wg Ar ?_;refine Wg At ?_;refine Wq Bz ?_;refine Wm ?_;refine Wg Ar ?_;refine Wg (Ai (cva)) ?_;refine Wg Ci ?_;refine Wq Bz ?_;apply Y0;refine Cf ?_;refine Ys<|Y1<|Wm ?_;refine Wq AA ?_;refine Wm ?_;refine Ws ?_;refine Ws ?_;refine Ws ?_;refine Ws ?_;refine Ws ?_;refine Ws ?_;refine Ws ?_;refine Wq AW ?_;refine Wm ?_;refine Wg Ar ?_;refine Wq AW ?_;refine Wa<|Y0 ?_;apply Aw
  exact Yf
 ·have hd64 : d ≤ 64 := by omega
  have hb:=Bnd.sumn (f:=f) (Dg:=d) (B:=4096) (fun t _=>hc.bnd t) n d (Nat.le_refl d)
  have hc4:=WB hn4 hd64
  have hx:RSz (((max ((u % 61:Nat):Int) ((Na:Nat):Int):Int):Rat)) 1:=OE (by omega) (by omega)
  have hme:hN n (min d 64) l = Cr n f d:=by
   rw [Nat.min_eq_left hd64,hc.num.num n (by omega) h2 d]
  have w1:=Gq (max ((u % 61:Nat):Int) ((Na:Nat):Int)) (by omega) (by omega)
  have w2:=Gq (hN n (min d 64) l) (by rw [hme];omega) (by rw [hme];omega)
  have w3:=UI p 1000000000 F _ hp8 hsz (by omega) hx
  have w4:=Ln (JN p F ((max ((u % 61:Nat):Int) ((Na:Nat):Int):Int):Rat)) ((hN n (min d 64) l:Int):Rat)
  rw [decide_eq_true (by rw [hd1,hev d (by omega),Nat.min_eq_left hd64])] at w4
  refine Ab Tryz.func7 fun s0=>?_
  rw [Tryz.ntmps7]
  apply Y1;refine Bx ?_;refine Wa<|Y0<|Y1 ?_;refine Wq (Ai (Kr)) ?_;refine Wa<|Y0<|Ac<|Y1<|Wm ?_;refine Wq Ci ?_;apply Y0;refine Cf ?_;refine Ys<|Ac ?_
  refine Dr [[],[(18,0)],[],[(20,2)]] [[],[0],[],[0,1,2]] ?_
  refine Xq AN ?_;refine Xq (Ai (cm)) ?_;refine Xq AN ?_;refine Xq (Ai (cv)) ?_;refine ⟨_,rfl,?_⟩
  refine Wa<|Wa<|Y0<|Y1<|Wm<|Wm ?_;refine Wq (Ai (ck)) ?_;refine Wm ?_;refine Wq BP ?_;refine Wq BP ?_;refine Wa<|Wa<|Y0<|Y1<|Wm<|Wm ?_;refine Wq (Ai (cp)) ?_;refine Wm ?_;refine Wq BP ?_;refine Wq BP ?_;refine Wa<|Wa<|Y0<|Y1<|Wm ?_;refine Wq (IG (a:=u) (b:=61) (ao rfl) (ao rfl) (by decide)) ?_;refine Wq (Hn (ao rfl) (Ae rfl) (Ae rfl) hu) ?_;refine Wm ?_;refine Wq (Ex (n:=Na) (f:=f) rfl (Ae rfl)) ?_;refine Wq Lo ?_;refine Wa<|Y0<|Y1<|Wm<|Wm<|Wm ?_;refine Wq Rx ?_;refine Wq (Ai (cc)) ?_;refine Wm ?_;refine Wq BP ?_;refine Wq BP ?_;refine Wa<|Wa<|Y0<|Ac<|Y1<|Wm ?_;refine Wq At ?_;refine Wm ?_;refine Wg Ar ?_;refine Wg At ?_;refine Wq Bz ?_;refine Wm ?_;refine Wg Ar ?_;refine Wg At ?_;refine Wq Bz ?_;refine Wm ?_;refine Wg Ar ?_;refine Wg (Ai (cva)) ?_;refine Wg Ci ?_;refine Wq Bz ?_;apply Y0;refine Cf ?_;refine Ys<|Y1<|Wm ?_;refine Wq At ?_;refine Wm ?_;refine Wg Ar ?_;refine Wg Ar ?_;refine Wg (Ai (w1)) ?_;refine Wg (Ai (w3)) ?_;refine Wg Ar ?_;refine Wg (Ai (w2)) ?_;refine Wg (Ai (w4)) ?_;refine Wq Bz ?_;refine Wm ?_;refine Wg Ar ?_;refine Wq AW ?_;refine Wa<|Y0 ?_;apply Aw
  exact Yf
end Go.Proofs.YtialdhnijjnpaaaGreat
