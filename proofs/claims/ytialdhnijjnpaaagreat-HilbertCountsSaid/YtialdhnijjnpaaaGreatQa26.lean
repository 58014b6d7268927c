/- Part 26 of the proof of hilbertCounts_holds. No condition. -/
import Derived.Test.YtialdhnijjnpaaaGreatQa21
import Derived.Test.YtialdhnijjnpaaaGreatQa24
import Derived.Test.YtialdhnijjnpaaaGreatQa25
set_option linter.unusedSimpArgs false
set_option linter.unusedVariables false
set_option maxRecDepth 100000
namespace Go.Proofs.YtialdhnijjnpaaaGreat
open Go.RowKit
def mz : Nat→Int:=fun _=>0
def Zs : Nat→Int
 | 0=>2
 | _=>0
def Wf : Nat→Int
 | 0=>1
 | 1=>1
 | _=>0
def mx : Nat→Int
 | 0=>1
 | _=>0
def my2 : Nat→Int
 | 0=>0
 | 1=>2
 | _=>0
def my : Nat→Int
 | 0=>0
 | 1=>1
 | _=>0
abbrev lA : Ae:=[Zs,Wf]
abbrev lB : Ae:=[mx,my2]
theorem j8 {p : Nat→Prop} (h0:p 0) (h1:p 1) (h2:p 2) (h3:p 3) (h4:p 4) (h5:p 5) (h6:p 6) (h7:p 7) (j:Nat) (hj:j<8):p j:=by
 have:j = 0∨j = 1∨j = 2∨j = 3∨j = 4∨j = 5∨j = 6∨j = 7:=by omega
 rcases this with rfl | rfl | rfl | rfl | rfl | rfl | rfl | rfl <;> assumption
theorem IL : ∀ y∈lA,In8 y 0 2∧SupN 2 y∧Cx 8 0 y≤2:=fun y hy=>by
 simp only [List.mem_cons,List.not_mem_nil,or_false] at hy
 rcases hy with rfl | rfl
 ·exact ⟨j8 (by decide) (by decide) (by decide) (by decide) (by decide) (by decide) (by decide) (by decide),j8 (by decide) (by decide) (by decide) (by decide) (by decide) (by decide) (by decide) (by decide),by decide⟩
 ·exact ⟨j8 (by decide) (by decide) (by decide) (by decide) (by decide) (by decide) (by decide) (by decide),j8 (by decide) (by decide) (by decide) (by decide) (by decide) (by decide) (by decide) (by decide),by decide⟩
theorem NU : ∀ y∈lB,In8 y 0 2∧SupN 2 y∧Cx 8 0 y≤2:=fun y hy=>by
 simp only [List.mem_cons,List.not_mem_nil,or_false] at hy
 rcases hy with rfl | rfl
 ·exact ⟨j8 (by decide) (by decide) (by decide) (by decide) (by decide) (by decide) (by decide) (by decide),j8 (by decide) (by decide) (by decide) (by decide) (by decide) (by decide) (by decide) (by decide),by decide⟩
 ·exact ⟨j8 (by decide) (by decide) (by decide) (by decide) (by decide) (by decide) (by decide) (by decide),j8 (by decide) (by decide) (by decide) (by decide) (by decide) (by decide) (by decide) (by decide),by decide⟩
theorem In8.big {y : Nat→Int} {a b:Int} (h:In8 y 0 a) (hab:a≤b):In8 y 0 b:=fun j hj=>by
 have:=h j hj
 omega
theorem A0z : ∃ N f,HilC lA 2 N f:=MC 2 2 2 lA (by decide) (by decide) (by decide) (by decide) (fun y hy=>(IL y hy).1.big (by decide)) (fun y hy=>(IL y hy).2.1) (fun y hy=>(IL y hy).2.2) (by decide)
theorem A0y : ∃ N f,HilC lB 2 N f:=MC 2 2 2 lB (by decide) (by decide) (by decide) (by decide) (fun y hy=>(NU y hy).1.big (by decide)) (fun y hy=>(NU y hy).2.1) (fun y hy=>(NU y hy).2.2) (by decide)
theorem Sl (q : Nat→Int):IsMin [q] [q]:=⟨List.pairwise_singleton _ _,fun x=>⟨fun h=>⟨h,fun y hy hd=>by
 rw [List.mem_singleton.1 hy] at hd ⊢
 obtain ⟨a,ha,e⟩:=h
 rwa [List.mem_singleton.1 ha] at e⟩,fun h=>h.1⟩⟩
theorem Sm : IsMin [] []:=⟨List.Pairwise.nil,fun x=>⟨fun ⟨a,ha,_⟩=>(by cases ha),fun ⟨⟨a,ha,_⟩,_⟩=>(by cases ha)⟩⟩
def fA : Nat→Int
 | 0=>1
 | 2=>-2
 | 3=>1
 | _=>0
theorem QX (a : Nat→Int) (N:Nat) (h8:SupN 8 a) (hN:Cx 8 0 a+1≤N):NumL [a] (Hu (fun d=>dlt d - FV (Cx 8 0 a) dlt d) N) fun d=>dlt d - FV (Cx 8 0 a) dlt d :=
 NumL.cons NumL.nil NumL.nil Sm (fun y hy=>by cases hy) h8 N (by omega) (.inl hN)
theorem VK {n : Nat} {a:Nat→Int} (h:SupN n a):SupN 8 a:=fun j hj=>⟨(h j hj).1,fun h=>by omega⟩
theorem A0w : ∃ F:Nat→Int,NumL lA 4 F∧∀ i,i<4→F i = fA i:=by
 have h1:=QX Wf 3 (VK (IL Wf (by simp)).2.1) (by decide)
 have h2:=QX (qM Wf Zs) 2 (fun j hj=>⟨XD Wf Zs (fun j hj=>((IL Wf (by simp)).2.1 j hj).1) j hj,fun h=>by omega⟩) (by decide)
 have h3:=NumL.cons (rest:=[Wf]) (R:=[qM Wf Zs]) (a:=Zs) h1 h2 (Sl _) (fun y hy=>by rw [List.mem_singleton.1 hy];exact VK (IL Wf (by simp)).2.1) (VK (IL Zs (by simp)).2.1) 4 (by decide) (.inl (by decide))
 refine ⟨_,h3,fun i hi=>?_⟩
 have:i = 0∨i = 1∨i = 2∨i = 3:=by omega
 rcases this with rfl | rfl | rfl | rfl <;> decide
theorem Abs.le_ {P : Program} {f:FuncId} {ds:List D} {r r':D} (h:Abs P f ds r) (hr:D.le r r'):Abs P f ds r' :=
 ⟨h.1,fun s vs h1 h2 h3=>(h.2 s vs h1 h2 h3).mono fun e w' ⟨v,he,s',hw,hl,hv⟩=>⟨v,he,s',hw,hl,hr s' v hv⟩⟩
theorem dmA : FM lA 2 = 1:=by decide +kernel
theorem dmB : FM lB 2 = 0:=by decide +kernel
theorem mxA : Yj lA (2 ^ 2) = [2]:=by decide +kernel
theorem A0u : (Abs Tryz.prog 14 [BD lA,ex (.int .i64 2)] (Dw [nD 4 fA,ex (.int .i64 0)]))∧(Abs Tryz.prog 22 [BD lA,ex (.int .i64 2)] (Dw [ex (.int .i64 1),ex (.int .i64 0)]))∧(Abs Tryz.prog 24 [BD lA,ex (.int .i64 2)] (Dw [ex (.int .i64 1),ex (.int .i64 0)]))∧(∃ F:Nat→Rat,F 0 = ((1:Int):Rat)∧Abs Tryz.prog 26 [BD lA,ex (.int .i64 2)] (Dw [DS 1 F,ex (.int .i64 0)]))∧(Abs Tryz.prog 16 [BD lA,ex (.int .i64 2),ex (.int .i64 3)] (Dw [ex (.int .i64 1),ex (.int .i64 0)]))∧(Abs Tryz.prog 18 [BD lA,ex (.int .i64 2)] (Dw [RO [2],ex (.int .i64 0)]))∧(Abs Tryz.prog 28 [BD lA,ex (.int .i64 2)] (Dw [ex (.slice none 0 0),ex (.int .i64 160)])):=by
 obtain ⟨N,f,hc⟩:=A0z
 obtain ⟨F,hF,hFv⟩:=A0w
 have h8:∀ a∈lA,SupN 8 a:=fun a ha=>VK (IL a ha).2.1
 obtain ⟨rfl,rfl⟩:=hc.num.inj hF h8
 have e0:f = fun i=>fA i:=funext fun i=>by
  by_cases hi:i<4
  ·exact hFv i hi
  ·rw [hF.far i (by omega)]
   match i,hi with
   | i+4,_=>rfl
 have e0:f = fA:=e0
 subst e0
 have d1:FM lA 2 = ((1:Nat):Int):=dmA
 have hq:=hc.qb 1 d1
 have hcc:=hc.cc 1 d1
 have hcd:=hc.cd
 rw [dmA] at hcd
 have hcg:=hc.cg
 have eg:WA lA 2 4 fA = 1:=by
  unfold WA
  rw [dmA]
  decide +kernel
 rw [eg] at hcg
 refine ⟨SY lA 2 4 fA hc.ck hc.cn,Tc lA 2 1 hc.ck hcd,Vv lA 2 1 hc.ck hcg,?_,?_,?_,SH lA 2 1 (by decide) hc.ck hcd⟩
 ·have hp := SV lA 2 1 (cN 4 fA (2 - 1)).1 (Cu (2 - 1) fA) (by decide) (by decide) (by decide) hq hc.ck hcd hcc
  have e1:(pH (Cu (2 - 1) fA) 1 (cN 4 fA (2 - 1)).1).1 = 1:=by decide +kernel
  rw [e1] at hp
  exact ⟨_,by decide +kernel,hp⟩
 ·have hp := Mb lA 2 3 4 fA 4096 (by decide) (by decide) hc.ck hc.cn hc.num.far (fun t _ => hc.bnd t) (by decide)
  have e1:Cu 2 fA 3 = 1:=by decide +kernel
  rw [e1] at hp
  exact hp
 ·have hp := Ta lA 2 (by decide) (by decide) hc.ck
  rw [mxA] at hp
  exact hp
theorem A0s : IsStd lB 2 [mz,my]:=by
 refine ⟨?_,fun x=>⟨fun ⟨a,ha,e⟩=>?_,fun hx=>?_⟩⟩
 ·rw [List.pairwise_cons]
  refine ⟨fun b hb=>?_,List.pairwise_singleton _ _⟩
  rw [List.mem_singleton.1 hb]
  decide +kernel
 ·simp only [List.mem_cons,List.not_mem_nil,or_false] at ha
  have key:StdX lB 2 a:=by
   rcases ha with rfl | rfl
   ·exact ⟨j8 (by decide) (by decide) (by decide) (by decide) (by decide) (by decide) (by decide) (by decide),by decide +kernel⟩
   ·exact ⟨j8 (by decide) (by decide) (by decide) (by decide) (by decide) (by decide) (by decide) (by decide),by decide +kernel⟩
  exact key.congr e
 ·have h1:¬ Dv mx x:=fun hd=>by
   have:=(CN (l:=lB)).2 ⟨mx,List.mem_cons_self,hd⟩
   rw [hx.2] at this
   cases this
  have h2:¬ Dv my2 x:=fun hd=>by
   have:=(CN (l:=lB)).2 ⟨my2,List.mem_cons_of_mem _ List.mem_cons_self,hd⟩
   rw [hx.2] at this
   cases this
  have hn:∀ j,j<8→0≤x j:=fun j hj=>(hx.1 j hj).1
  have hz:∀ j,j<8→2≤j→x j = 0:=fun j hj h=>(hx.1 j hj).2 h
  have h0:x 0 = 0:=by
   refine Classical.byContradiction fun hne=>h1 fun j hj=>?_
   by_cases e:j = 0
   ·subst e
    have:=hn 0 (by omega)
    show (1:Int)≤x 0
    omega
   ·have:mx j = 0:=by
     match j,e with
     | j+1,_=>rfl
    rw [this]
    exact hn j hj
  have h3:x 1<2:=by
   refine Classical.byContradiction fun hne=>h2 fun j hj=>?_
   by_cases e:j = 1
   ·subst e
    show (2:Int)≤x 1
    omega
   ·have:my2 j = 0:=by
     match j,e with
     | 0,_=>rfl
     | j+2,_=>rfl
    rw [this]
    exact hn j hj
  have h4:=hn 1 (by omega)
  by_cases h5:x 1 = 0
  ·exact ⟨mz, by simp, fun j hj => by
    show 0 = x j
    by_cases e:2≤j
    ·exact (hz j hj e).symm
    ·have : j = 0 ∨ j = 1 := by omega
     rcases this with rfl | rfl <;> omega⟩
  ·refine ⟨my, by simp, fun j hj => ?_⟩
   match j,hj with
   | 0,_=>exact h0.symm
   | 1,_=>show (1:Int) = x 1;omega
   | j+2,hj=>exact (hz (j+2) hj (by omega)).symm
theorem A0t : Abs Tryz.prog 28 [BD lB,ex (.int .i64 2)] (Dw [BD [mz,my],ex (.int .i64 0)]):=by
 obtain ⟨N,f,hc⟩:=A0y
 have h:=UW (E:=1) hc (by decide) (by decide) (fun y hy=>(NU y hy).2.1) (fun a ha j hj=>((NU a ha).1 j hj).2) (by decide) (by rw [dmB];decide) (by decide)
 exact h.le_ (Cn (fun s v ⟨S,hS,hv⟩=>by rw [← hS.same A0s];exact hv) (D.le.refl _))
theorem Pq : Abs Tryz.prog 11 [] (ex (.bool true)):=by
 obtain ⟨c1,c2,c3,⟨F,hF,c4⟩,c5,c6,c8⟩:=A0u
 have c7:=A0t
 have cq:Abs Tryz.prog 41 [BU (CG (F 0)),BU (CG q1)] (ex (.bool true)):=by
  have:=PU (F 0) q1
  rwa [decide_eq_true hF] at this
 refine Ab Tryz.func11 fun s0=>?_
 rw [Tryz.ntmps11]
 refine Y1<|Wa<|Y0<|Y1 ?_;(refine Da rfl rfl ?_;(refine ER (Ac rfl) (Ac rfl) rfl rfl ?_;(repeat ((first | refine ⟨_,Bv (ao rfl),?_⟩ | refine ⟨_,Po rfl,?_⟩);refine ⟨_,rfl,?_⟩));refine ⟨_,rfl,?_⟩));(refine Da rfl rfl ?_;(refine ER (Ac rfl) (Ac rfl) rfl rfl ?_;(repeat ((first | refine ⟨_,Bv (ao rfl),?_⟩ | refine ⟨_,Po rfl,?_⟩);refine ⟨_,rfl,?_⟩));refine ⟨_,rfl,?_⟩));(refine Da rfl rfl ?_;(refine DD (Ac rfl) (Ac rfl) rfl rfl rfl rfl rfl ?_;(repeat ((first | refine ⟨_,Bv (ao rfl),?_⟩ | refine ⟨_,Po rfl,?_⟩);refine ⟨_,rfl,?_⟩));refine ⟨_,rfl,?_⟩));refine Wa<|Y0<|Y1<|Wm ?_;refine Wq (Ao (c1)) ?_;refine Wm ?_;refine Wq Cj ?_;refine Wq Cj ?_;refine Wa<|Wa<|Y0<|Y1<|Wm ?_;refine Wq (Ao (c2)) ?_;refine Wm ?_;refine Wq Cj ?_;refine Wq Cj ?_;refine Wa<|Wa<|Y0<|Y1<|Wm ?_;refine Wq (Ao (c3)) ?_;refine Wm ?_;refine Wq Cj ?_;refine Wq Cj ?_;refine Wa<|Wa<|Y0<|Y1<|Wm ?_;refine Wq (Ao (c4)) ?_;refine Wm ?_;refine Wq Cj ?_;refine Wq Cj ?_;refine Wa<|Wa<|Y0<|Y1<|Wm ?_;refine Wq (Ao (c5)) ?_;refine Wm ?_;refine Wq Cj ?_;refine Wq Cj ?_;refine Wa<|Wa<|Y0<|Y1<|Wm ?_;refine Wq (Ao (c6)) ?_;refine Wm ?_;refine Wq Cj ?_;refine Wq Cj ?_;refine Wa<|Wa<|Y0<|Y1 ?_;(refine Da rfl rfl ?_;(refine ER (Ac rfl) (Ac rfl) rfl rfl ?_;(repeat ((first | refine ⟨_,Bv (ao rfl),?_⟩ | refine ⟨_,Po rfl,?_⟩);refine ⟨_,rfl,?_⟩));refine ⟨_,rfl,?_⟩));(refine Da rfl rfl ?_;(refine ER (Ac rfl) (Ac rfl) rfl rfl ?_;(repeat ((first | refine ⟨_,Bv (ao rfl),?_⟩ | refine ⟨_,Po rfl,?_⟩);refine ⟨_,rfl,?_⟩));refine ⟨_,rfl,?_⟩));(refine Da rfl rfl ?_;(refine DD (Ac rfl) (Ac rfl) rfl rfl rfl rfl rfl ?_;(repeat ((first | refine ⟨_,Bv (ao rfl),?_⟩ | refine ⟨_,Po rfl,?_⟩);refine ⟨_,rfl,?_⟩));refine ⟨_,rfl,?_⟩));refine Wq (Ao (c7)) ?_;refine Wm ?_;refine Wq Cj ?_;refine Wq Cj ?_;refine Wa<|Wa<|Y0<|Y1<|Wm ?_;refine Wq (Ao (c8)) ?_;refine Wm ?_;refine Wq Cj ?_;refine Wq Cj ?_;refine Wa<|Wa<|Y0<|Y1<|Wm ?_;refine Wq Aq ?_;refine Wm ?_;refine Wg Am ?_;refine Wg Aq ?_;refine Wq Bh ?_;refine Wm ?_;refine Wg Am ?_;refine Wg Aq ?_;refine Wq Bh ?_;refine Wm ?_;refine Wg Am ?_;refine Wg Aq ?_;refine Wq Bh ?_;refine Wm ?_;refine Wg Am ?_;refine Wg Aq ?_;refine Wq Bh ?_;refine Wm ?_;refine Wg Am ?_;refine Wg Aq ?_;refine Wq Bh ?_;refine Wm ?_;refine Wg Am ?_;refine Wg Aq ?_;refine Wq Bh ?_;refine Wm ?_;refine Wg Am ?_;refine Wg Aq ?_;refine Wq Bh ?_;refine Wa<|Y0<|Aa ?_
 refine Dr [[],[(94,0)],[],[],[(96,2),(97,3)],[(95,1),(98,4)],[(99,5)],[],[(101,7)],[(100,6),(102,8)],[(103,9)],[],[(105,11)],[(104,10),(106,12)],[(107,13)],[],[(109,15)],[(110,16)],[(108,14),(111,17)],[(112,18)],[],[(114,20)],[(115,21)],[],[(116,22),(117,23)],[(113,19),(118,24)],[(119,25)],[],[(121,27)],[(120,26),(122,28)],[(123,29)],[],[],[(125,31),(126,32)],[(124,30),(127,33)],[(128,34)],[],[],[],[(131,37),(132,38)],[(130,36),(133,39)],[(129,35),(134,40)]] [[],[0],[0,1],[0,1],[0,1,2,3],[0,1,2,3,4],[0,1,2,3,4,5],[0,1,2,3,4,5,6],[0,1,2,3,4,5,6,7],[0,1,2,3,4,5,6,7,8],[0,1,2,3,4,5,6,7,8,9],[0,1,2,3,4,5,6,7,8,9,10],[0,1,2,3,4,5,6,7,8,9,10,11],[0,1,2,3,4,5,6,7,8,9,10,11,12],[0,1,2,3,4,5,6,7,8,9,10,11,12,13],[0,1,2,3,4,5,6,7,8,9,10,11,12,13,14],[0,1,2,3,4,5,6,7,8,9,10,11,12,13,14,15],[0,1,2,3,4,5,6,7,8,9,10,11,12,13,14,15,16],[0,1,2,3,4,5,6,7,8,9,10,11,12,13,14,15,16,17],[0,1,2,3,4,5,6,7,8,9,10,11,12,13,14,15,16,17,18],[0,1,2,3,4,5,6,7,8,9,10,11,12,13,14,15,16,17,18,19],[0,1,2,3,4,5,6,7,8,9,10,11,12,13,14,15,16,17,18,19,20],[0,1,2,3,4,5,6,7,8,9,10,11,12,13,14,15,16,17,18,19,20,21],[0,1,2,3,4,5,6,7,8,9,10,11,12,13,14,15,16,17,18,19],[0,1,2,3,4,5,6,7,8,9,10,11,12,13,14,15,16,17,18,19,20,21,22,23],[0,1,2,3,4,5,6,7,8,9,10,11,12,13,14,15,16,17,18,19,20,21,22,23,24],[0,1,2,3,4,5,6,7,8,9,10,11,12,13,14,15,16,17,18,19,20,21,22,23,24,25],[0,1,2,3,4,5,6,7,8,9,10,11,12,13,14,15,16,17,18,19,20,21,22,23,24,25,26],[0,1,2,3,4,5,6,7,8,9,10,11,12,13,14,15,16,17,18,19,20,21,22,23,24,25,26,27],[0,1,2,3,4,5,6,7,8,9,10,11,12,13,14,15,16,17,18,19,20,21,22,23,24,25,26,27,28],[0,1,2,3,4,5,6,7,8,9,10,11,12,13,14,15,16,17,18,19,20,21,22,23,24,25,26,27,28,29],[0,1,2,3,4,5,6,7,8,9,10,11,12,13,14,15,16,17,18,19,20,21,22,23,24,25,26,27,28,29,30],[0,1,2,3,4,5,6,7,8,9,10,11,12,13,14,15,16,17,18,19,20,21,22,23,24,25,26,27,28,29,30],[0,1,2,3,4,5,6,7,8,9,10,11,12,13,14,15,16,17,18,19,20,21,22,23,24,25,26,27,28,29,30,31,32],[0,1,2,3,4,5,6,7,8,9,10,11,12,13,14,15,16,17,18,19,20,21,22,23,24,25,26,27,28,29,30,31,32,33],[0,1,2,3,4,5,6,7,8,9,10,11,12,13,14,15,16,17,18,19,20,21,22,23,24,25,26,27,28,29,30,31,32,33,34],[0,1,2,3,4,5,6,7,8,9,10,11,12,13,14,15,16,17,18,19,20,21,22,23,24,25,26,27,28,29,30,31,32,33,34,35],[0,1,2,3,4,5,6,7,8,9,10,11,12,13,14,15,16,17,18,19,20,21,22,23,24,25,26,27,28,29,30,31,32,33,34,35],[0,1,2,3,4,5,6,7,8,9,10,11,12,13,14,15,16,17,18,19,20,21,22,23,24,25,26,27,28,29,30,31,32,33,34,35],[0,1,2,3,4,5,6,7,8,9,10,11,12,13,14,15,16,17,18,19,20,21,22,23,24,25,26,27,28,29,30,31,32,33,34,35,37,38],[0,1,2,3,4,5,6,7,8,9,10,11,12,13,14,15,16,17,18,19,20,21,22,23,24,25,26,27,28,29,30,31,32,33,34,35,36,37,38,39],[0,1,2,3,4,5,6,7,8,9,10,11,12,13,14,15,16,17,18,19,20,21,22,23,24,25,26,27,28,29,30,31,32,33,34,35,36,37,38,39,40]] ?_
 refine Xq Am ?_;refine Xq Am ?_;refine Xg Am ?_;(refine ZX rfl rfl ?_;refine DD (Ac rfl) (Ac rfl) rfl rfl rfl rfl rfl ?_;(repeat ((first | refine ⟨_,Bv (ah rfl),?_⟩ | refine ⟨_,Po rfl,?_⟩);refine ⟨_,rfl,?_⟩));refine ⟨_,rfl,?_⟩;refine ⟨_,rfl,?_⟩);refine Xg (Ao (WQ 4 fA (by decide))) ?_;refine Xq Bh ?_;refine Xq Am ?_;refine Xg Am ?_;refine Xg Aq ?_;refine Xq Bh ?_;refine Xq Am ?_;refine Xg Am ?_;refine Xg Aq ?_;refine Xq Bh ?_;refine Xq Am ?_;refine Xg Am ?_;(refine ⟨_,Ig rfl rfl (DF (F:=CM F) rfl (Ac rfl)),?_⟩;refine ⟨_,rfl,?_⟩);refine Xg Aq ?_;refine Xq Bh ?_;refine Xq Am ?_;refine Xg Am ?_;(refine ⟨_,Ig rfl rfl (MW (F:=CM F) (k:=0) rfl (ah rfl) (Ac rfl) (Ac rfl) rfl (by decide)),?_⟩;refine ⟨_,rfl,?_⟩);refine Xg Bc ?_;refine Xg (Ao (PS 1 (by omega) (by omega))) ?_;refine Xg (Ao (cq)) ?_;refine Xq Bh ?_;refine Xq Am ?_;refine Xg Am ?_;refine Xg Aq ?_;refine Xq Bh ?_;refine Xq Am ?_;refine Xg Am ?_;(refine ZX rfl rfl ?_;refine DD (Ac rfl) (Ac rfl) rfl rfl rfl rfl rfl ?_;(repeat ((first | refine ⟨_,Bv (ah rfl),?_⟩ | refine ⟨_,Po rfl,?_⟩);refine ⟨_,rfl,?_⟩));refine ⟨_,rfl,?_⟩;refine ⟨_,rfl,?_⟩);refine Xg (Ao (WP [2])) ?_;refine Xq Bh ?_;refine Xq Am ?_;refine Xg Am ?_;(refine ZX rfl rfl ?_;refine ER (Ac rfl) (Ac rfl) rfl rfl ?_;(repeat ((first | refine ⟨_,Bv (ah rfl),?_⟩ | refine ⟨_,Po rfl,?_⟩);refine ⟨_,rfl,?_⟩));refine ⟨_,rfl,?_⟩;refine ⟨_,rfl,?_⟩);(refine ZX rfl rfl ?_;refine ER (Ac rfl) (Ac rfl) rfl rfl ?_;(repeat ((first | refine ⟨_,Bv (ah rfl),?_⟩ | refine ⟨_,Po rfl,?_⟩);refine ⟨_,rfl,?_⟩));refine ⟨_,rfl,?_⟩;refine ⟨_,rfl,?_⟩);(refine ZX rfl rfl ?_;refine DD (Ac rfl) (Ac rfl) rfl rfl rfl rfl rfl ?_;(repeat ((first | refine ⟨_,Bv (ah rfl),?_⟩ | refine ⟨_,Po rfl,?_⟩);refine ⟨_,rfl,?_⟩));refine ⟨_,rfl,?_⟩;refine ⟨_,rfl,?_⟩);refine Xg (Ao (WR [mz,my] (by decide))) ?_;refine Xq Bh ?_;refine ⟨_,rfl,?_⟩
 refine Wa<|Y0 ?_;apply Aw
 exact Yf
theorem Jn {P : Program} {hp:List Ow} {arg:Operand→AV} {dd:Option Tmp} {ty:TypeId} {ps:String} {af:Array Edge} {gd:Option (Nat × Bool)} {T U:TypeId} {x y:Operand} {k:IntKind} {a b:Nat} (hx:arg x = .d (ex (.int k (a:Nat)))) (hy:arg y = .d (ex (.int k (b:Nat)))) (hb:0<b):Quiet P hp ⟨dd,.binOp .rem T x y U,ty,ps,af,gd⟩ arg (.d (ex (.int k ((a % b:Nat):Int)))):=by
 have:=YL (dd:=dd) (T:=T) (U:=U) (ty:=ty) (ps:=ps) (af:=af) (gd:=gd) (hp:=hp) (P:=P) hx hy (by omega) (by omega)
 rwa [← Int.natCast_emod] at this
abbrev R4 := Nat→Nat
def r4C (r : R4):List D:=[ex (.int .u8 ((r 0:Nat):Int)),ex (.int .u8 ((r 1:Nat):Int)),ex (.int .u8 ((r 2:Nat):Int)),ex (.int .u8 ((r 3:Nat):Int))]
def Zr (T : Nat) (X:List R4):D:=slD T 4 (X.map r4C)
instance A0l : Inhabited R4:=⟨fun _=>0⟩
abbrev Pt (X : List R4) (k:Nat):R4:=X.getD k default
def OH (r : R4):Prop:=∀ j,j<4→r j<256
theorem Qk {r : R4} {k:Nat} (h:k<4):CellAt ((r4C r).drop (k*1)) 0 (ex (.int .u8 ((r k:Nat):Int))):=by
 have:k = 0∨k = 1∨k = 2∨k = 3:=by omega
 rcases this with rfl | rfl | rfl | rfl <;> exact ⟨by simp [r4C],rfl⟩
theorem SU {P : Program} {hp:List Ow} {arg:Operand→AV} {dd:Option Tmp} {ty:TypeId} {ps:String} {af:Array Edge} {gd:Option (Nat × Bool)} {S T:TypeId} {x:Operand} {k:IntKind} {a:Nat} {d:TypeDesc} {n b n' b':Nat} {z z':Value} (hx:arg x = .d (ex (.int k (a:Nat)))) (hS:Tab P S d n b z) (hT:Tab P T (.int .i64) n' b' z') (h:a<256):Quiet P hp ⟨dd,.convert S T x,ty,ps,af,gd⟩ arg (.d (ex (.int .i64 (a:Nat)))):=GN hx hS hT (by omega) (by omega)
def VH (n top:Nat) (r:R4) (j:Nat):Int:=if j<n∧j<4 then ((r j % (top+1):Nat):Int) else 0
def Yi (top : Nat) (r:R4) (k j:Nat):Int:=if j<k then ((r j % (top+1):Nat):Int) else 0
theorem Ui (top : Nat) (r:R4):Yi top r 0 = fun _=>0:=funext fun j=>if_neg (by omega)
theorem Wk (top : Nat) (r:R4) (k:Nat):FX (Yi top r k) k ((r k % (top+1):Nat):Int) = Yi top r (k+1):=by
 funext j
 unfold FX Yi
 by_cases h:j = k
 ·subst h
  rw [if_pos rfl,if_pos (by omega)]
 ·rw [if_neg h]
  by_cases h2:j<k
  ·rw [if_pos h2,if_pos (by omega)]
  ·rw [if_neg h2,if_neg (by omega)]
theorem Rb (n top:Nat) (r:R4):Yi top r (min n 4) = VH n top r:=by
 funext j
 unfold Yi VH
 by_cases h:j<n∧j<4
 ·rw [if_pos h,if_pos (by omega)]
 ·rw [if_neg h,if_neg (by omega)]
def IJ (X : List R4) (n most top:Nat):Ae:=(X.take most).map (VH n top)
theorem NK {X : List R4} {n top k:Nat} (h:k<X.length):IJ X n k top ++ [VH n top (Pt X k)] = IJ X n (k+1) top:=by
 unfold IJ
 rw [List.take_add_one,List.getElem?_eq_getElem h,List.map_append]
 have:Pt X k = X[k]:=by
  rw [Pt,List.getD_eq_getElem?_getD,List.getElem?_eq_getElem h]
  rfl
 rw [this]
 rfl
theorem Mu (X : List R4) (n k top:Nat):(IJ X n k top).length≤k:=by
 unfold IJ
 rw [List.length_map,List.length_take]
 exact Nat.min_le_left _ _
theorem Vs (T : Nat) (X:List R4) (n most top:Nat) (hX:∀ r∈X,OH r) (hn:n≤1000) (hm:most≤1000) (ht:top≤1000):Abs Tryz.prog 13 [Zr T X,ex (.int .i64 (n:Nat)),ex (.int .i64 (most:Nat)),ex (.int .i64 (top:Nat))] (BD (IJ X n most top)):=by
 have hd:D.le (slD 55 8 ((IJ X n (min X.length most) top).map AM)) (BD (IJ X n most top)):=by
  refine Hq ?_
  have:IJ X n (min X.length most) top = IJ X n most top:=by
   unfold IJ
   by_cases h:X.length≤most
   ·rw [Nat.min_eq_left h,List.take_of_length_le (Nat.le_refl _),List.take_of_length_le h]
   ·rw [Nat.min_eq_right (by omega)]
  rw [this]
  rfl
 refine Ab Tryz.func13 fun s0=>?_
 rw [Tryz.ntmps13]
 refine Y1<|Wa<|Y0<|Y1 ?_;refine KG (Ac rfl) (Ac rfl) rfl rfl rfl rfl rfl ?_;refine Wa<|Y0<|Aa<|Y1<|Wa<|Y0<|AWp.block ?_
 refine AK (fun mz σ=>∃ k,k≤min X.length most∧mz = min X.length most - k∧σ = ⟨[(0,.d (Zr T X)),(1,.d (ex (.int .i64 (n:Nat)))),(2,.d (ex (.int .i64 (most:Nat)))),(3,.d (ex (.int .i64 (top:Nat)))),(9,.own 0),(10,.d (ex (.int .i64 (k:Nat))))],[.row 55 8 ((IJ X n k top).map AM)]⟩) ?le ⟨0,by omega,rfl,rfl⟩ ?round
 case le=>exact Ah (by exact Yd<|Yd<|Yd<|Yd<|FrLe.cons rfl (AVle.own rfl)<|Yd<|FrLe.nil) (by exact Yr<|HpLe.nil)
 case round =>
  rintro mz _ ⟨k,hk,rfl,rfl⟩
  by_cases hlt:k<min X.length most
  ·have hkl : k < X.length := by omega
   have hkm:((k:Nat):Int)<((most:Nat):Int):=by omega
   have hkx:((k:Nat):Int)<((X.length:Nat):Int):=by omega
   have hml:=Mu X n k top
   have hr:OH (Pt X k):=hX _ (by
    rw [Pt,List.getD_eq_getElem?_getD,List.getElem?_eq_getElem hkl]
    exact List.getElem_mem hkl)
   refine Aa<|Y1<|Wm<|Wm ?_;refine Wq Cm ?_;refine Wq Aq ?_;refine Wm ?_;refine Wg Am ?_;refine Wg Am ?_;refine Wg Aq ?_;refine Wq Bh ?_;apply Y0;refine Ct ?_;refine Ys<|Aa<|AWp.block<|Y1 ?_;(refine Da rfl rfl ?_;(refine ER (Ac rfl) (Ac rfl) rfl rfl ?_;(repeat ((first | refine ⟨_,Bv (ao rfl),?_⟩ | refine ⟨_,Po rfl,?_⟩);refine ⟨_,rfl,?_⟩));refine ⟨_,rfl,?_⟩));refine Al ?_;refine Sf ?_;refine Y0<|Aa<|Y1<|Wa<|Y0<|AWp.block ?_
   refine AK (fun mz σ=>∃ i,i≤min n 4∧mz = min n 4 - i∧σ = ⟨[(0,.d (Zr T X)),(1,.d (ex (.int .i64 (n:Nat)))),(2,.d (ex (.int .i64 (most:Nat)))),(3,.d (ex (.int .i64 (top:Nat)))),(9,.own 0),(10,.d (ex (.int .i64 (k:Nat)))),(11,.ptr 1 0),(12,.d (ex (.int .i64 (i:Nat))))],[.row 55 8 ((IJ X n k top).map AM),.var 55 ((AM (Yi top (Pt X k) i)).map .d)]⟩) ?lei ⟨0,by omega,rfl,rfl⟩ ?roundi
   case lei=>exact Ah (by exact Yd<|Yd<|Yd<|Yd<|FrLe.cons rfl (AVle.own rfl)<|Yd<|Yp<|Yd<|FrLe.nil) (by apply Yr;(refine HpLe.cons (Dp (by rw [Ui];rfl)) ?_);exact HpLe.nil)
   case roundi =>
    rintro mz _ ⟨i,hi,rfl,rfl⟩
    by_cases hlti:i<min n 4
    ·have hi4 : i < 4 := by omega
     have hi8:i<8:=by omega
     have hin:((i:Nat):Int)<((n:Nat):Int):=by omega
     have hr1:=hr i hi4
     refine Aa<|Y1<|Wm<|Wm ?_;refine Wq Aq ?_;refine Wm ?_;refine Wg Am ?_;refine Wg Aq ?_;refine Wq Bh ?_;apply Y0;refine Ct ?_;refine Ys<|Aa<|AWp.block<|AWp.region<|Wm<|Wm<|Wm<|Wm ?_;refine Wq Bk ?_;refine Wq YH ?_;refine Wq (Vi (ao rfl) (Ac rfl) rfl (Qk hi4)) ?_;refine Wq (SU (ao rfl) (Ac rfl) (Ac rfl) hr1) ?_;refine Wm ?_;refine Wq AN ?_;refine Wq (Jn (a:=Pt X k i) (b:=top+1) (ao rfl) (ao rfl) (by omega)) ?_;refine Wq Cq ?_;(refine Fy (ao rfl) (ao rfl) rfl (Ac rfl) (by first | exact CZ rfl | exact One.sl | exact EQ) (SetAt.mon (by first | omega | (simp;omega))) rfl ?_);apply AWl.nil;apply Aj;refine Yn<|AWp.region<|Wm ?_;refine Wq AN ?_;refine Wa ?_;apply AWl.nil
     refine ALoop.next (min n 4 - (i+1)) (by omega) ⟨i+1,by omega,rfl,rfl⟩ ?_
     exact Ah (by exact Yd<|Yd<|Yd<|Yd<|FrLe.cons rfl (AVle.own rfl)<|Yd<|Yp<|Yd<|FrLe.nil) (by exact Yr<|HpLe.cons (Dp (by rw [Wk]))<|HpLe.nil)
    ·have hi8 : ¬ (((i : Nat) : Int) < ((n : Nat) : Int) ∧ ((i : Nat) : Int) < 4) := by omega
     obtain rfl:i = min n 4:=by omega
     by_cases h4:n≤4
     ·have h5 : ¬ ((min n 4 : Nat) : Int) < ((n : Nat) : Int) := by omega
      refine Aa<|Y1<|Wm<|Wm ?_;refine Wq As ?_;refine Wm ?_;refine Ws ?_;refine Ws ?_;refine Wq Ci ?_;apply Y0;refine Cf ?_;apply AH;apply AA;apply AB;apply AC;refine Yn<|AWp.region<|Wm ?_;refine Wq AR ?_;refine Wq (DR (ao rfl) (Ac rfl) (Ac rfl) rfl rfl rfl rfl rfl) ?_;(refine Ap ?_);refine Wa ?_;apply AWl.nil;apply Aj;refine Yn<|AWp.region<|Wm ?_;refine Wq AN ?_;refine Wa ?_;apply AWl.nil
      rw [Rb]
      skip
      refine ALoop.next (min X.length most - (k+1)) (by omega) ⟨k+1,by omega,rfl,rfl⟩ ?_
      exact Ah (by exact Yd<|Yd<|Yd<|Yd<|FrLe.cons rfl (AVle.own rfl)<|Yd<|FrLe.nil) (by refine HpLe.cons (Dh ((HP AM _ _).trans (by rw [NK hkl]))) ?_;exact HpLe.nil)
     ·have h5 : ((min n 4 : Nat) : Int) < ((n : Nat) : Int) := by omega
      have h6:¬ ((min n 4:Nat):Int)<4:=by omega
      refine Aa<|Y1<|Wm<|Wm ?_;refine Wq Aq ?_;refine Wm ?_;refine Wg Am ?_;refine Wg As ?_;refine Wq Bh ?_;apply Y0;refine Cf ?_;apply AH;apply AA;apply AB;apply AC;refine Yn<|AWp.region<|Wm ?_;refine Wq AR ?_;refine Wq (DR (ao rfl) (Ac rfl) (Ac rfl) rfl rfl rfl rfl rfl) ?_;(refine Ap ?_);refine Wa ?_;apply AWl.nil;apply Aj;refine Yn<|AWp.region<|Wm ?_;refine Wq AN ?_;refine Wa ?_;apply AWl.nil
      rw [Rb]
      skip
      refine ALoop.next (min X.length most - (k+1)) (by omega) ⟨k+1,by omega,rfl,rfl⟩ ?_
      exact Ah (by exact Yd<|Yd<|Yd<|Yd<|FrLe.cons rfl (AVle.own rfl)<|Yd<|FrLe.nil) (by refine HpLe.cons (Dh ((HP AM _ _).trans (by rw [NK hkl]))) ?_;exact HpLe.nil)
  ·obtain rfl : k = min X.length most := by omega
   by_cases h4:X.length≤most
   ·have h5 : ¬ ((min X.length most : Nat) : Int) < ((X.length : Nat) : Int) := by omega
    refine Aa<|Y1<|Wm<|Wm ?_;refine Wq Cm ?_;refine Wq As ?_;refine Wm ?_;refine Ws ?_;refine Ws ?_;refine Ws ?_;refine Wq Ci ?_;apply Y0;refine Cf ?_;apply AH;apply AA;apply AB;apply AC;refine Yn<|Y1<|Wm<|Wa<|Y0 ?_;apply Aw
    exact BL (Rets.of1 (ResV.tmp rfl rfl) (hd))
   ·have h5 : ((min X.length most : Nat) : Int) < ((X.length : Nat) : Int) := by omega
    have h6:¬ ((min X.length most:Nat):Int)<((most:Nat):Int):=by omega
    refine Aa<|Y1<|Wm<|Wm ?_;refine Wq Cm ?_;refine Wq Aq ?_;refine Wm ?_;refine Wg Am ?_;refine Wg Am ?_;refine Wg As ?_;refine Wq Bh ?_;apply Y0;refine Cf ?_;apply AH;apply AA;apply AB;apply AC;refine Yn<|Y1<|Wm<|Wa<|Y0 ?_;apply Aw
    exact BL (Rets.of1 (ResV.tmp rfl rfl) (hd))
def In (k i d e:Nat):Ae:=(rM k (i+1) e).map fun m=>FX m i ((d - e:Nat):Int)
def Ip (k i d s:Nat):Ae:=(List.range s).flatMap (In k i d)
theorem TJ (k i d:Nat):Ip k i d (d+1) = rM (k+1) i d:=rfl
theorem Lu (k i d s:Nat):Ip k i d s ++ In k i d s = Ip k i d (s+1):=by
 unfold Ip
 rw [List.range_succ,List.flatMap_append]
 simp
theorem TK : ∀ (k i d:Nat),(rM k i d).length≤(d+1) ^ k
 | 0,i,d=>by
  unfold rM
  split <;> simp
 | k+1,i,d=>by
  have h:∀ s,s≤d+1→((List.range s).flatMap (In k i d)).length≤s*(d+1) ^ k:=by
   intro s
   induction s with
   | zero=>intro _;simp
   | succ s ih =>
    intro hs
    rw [List.range_succ,List.flatMap_append,List.length_append]
    have h1:=ih (by omega)
    have h2:=TK k (i+1) s
    have h3:(s+1) ^ k≤(d+1) ^ k:=Nat.pow_le_pow_left (by omega) k
    have h4:([s].flatMap (In k i d)).length = (rM k (i+1) s).length:=by simp [In]
    rw [h4,Nat.add_mul,Nat.one_mul]
    omega
  have:=h (d+1) (Nat.le_refl _)
  rw [Nat.pow_succ,Nat.mul_comm]
  exact this
theorem JM {k i d:Nat} (hk:k≤8) (hd:d≤12):(rM k i d).length≤815730721:=by
 refine Nat.le_trans (TK k i d) (Nat.le_trans (Nat.pow_le_pow_left (show d+1≤13 by omega) k) (Nat.le_trans (Nat.pow_le_pow_right (by decide) hk) (by decide)))
theorem Ps {k i d s:Nat} (hk:k<8) (hd:d≤12) (hs:s≤d+1):(Ip k i d s).length≤815730721:=by
 have h:∀ t,(Ip k i d s).length≤(Ip k i d (s+t)).length:=by
  intro t
  induction t with
  | zero=>exact Nat.le_refl _
  | succ t ih =>
   refine Nat.le_trans ih ?_
   rw [← Nat.add_assoc,← Lu,List.length_append]
   omega
 have:=h (d+1 - s)
 rw [show s+(d+1 - s) = d+1 by omega,TJ] at this
 exact Nat.le_trans this (JM (by omega) hd)
theorem Uq {k i d s j:Nat} (h:j<(rM k (i+1) s).length) (hs:s≤d):(Ip k i d s ++ (In k i d s).take j) ++ [FX (AW (rM k (i+1) s) j) i (((d:Nat):Int) - ((s:Nat):Int))] = Ip k i d s ++ (In k i d s).take (j+1):=by
 have hl:j<(In k i d s).length:=by
  unfold In
  rw [List.length_map]
  exact h
 rw [List.take_add_one,List.getElem?_eq_getElem hl,List.append_assoc]
 congr 2
 have e:(In k i d s)[j] = FX ((rM k (i+1) s)[j]) i ((d - s:Nat):Int):=List.getElem_map _
 rw [e,AW,List.getD_eq_getElem?_getD,List.getElem?_eq_getElem h,← Int.ofNat_sub hs]
 rfl
theorem Wp {k i d s:Nat}:Ip k i d s ++ (In k i d s).take (rM k (i+1) s).length = Ip k i d (s+1):=by
 rw [List.take_of_length_le (by unfold In;rw [List.length_map];exact Nat.le_refl _),Lu]
theorem Nx : ∀ (k i d n:Nat),n = i+k→n≤8→d≤12→Abs Tryz.prog 76 [ex (.int .i64 (i:Nat)),ex (.int .i64 (n:Nat)),ex (.int .i64 (d:Nat))] (BD (rM k i d))
 | 0,i,d,n,hn,hn8,hd=>by
  obtain rfl:n = i:=hn
  by_cases h:d = 0
  ·subst h
   refine Ab Tryz.func76 fun s0=>?_
   rw [Tryz.ntmps76]
   refine Y1<|Wa<|Y0<|Aa<|Y1<|Wm<|Wm ?_;refine Wq Aq ?_;apply Y0;refine Ct ?_;refine Aa<|Y1<|Wm ?_;refine Wq Aq ?_;apply Y0;refine Ct ?_;apply Y1;(refine Da rfl rfl ?_;(refine ER (Ac rfl) (Ac rfl) rfl rfl ?_;(repeat ((first | refine ⟨_,Bv (ao rfl),?_⟩ | refine ⟨_,Po rfl,?_⟩);refine ⟨_,rfl,?_⟩));refine ⟨_,rfl,?_⟩));refine Wq (DR (ao rfl) (Ac rfl) (Ac rfl) rfl rfl rfl rfl rfl) ?_;refine Wa<|Y0 ?_;apply Aw;apply AP;apply AP
   exact Yf
  ·have h1 : ¬ ((d : Nat) : Int) = 0 := by omega
   have h2:D.le (ex (.slice none 0 0)) (BD (rM 0 n d)):=by
    rw [rM,if_neg h]
    exact Ec
   refine Ab Tryz.func76 fun s0=>?_
   rw [Tryz.ntmps76]
   refine Y1<|Wa<|Y0<|Aa<|Y1<|Wm<|Wm ?_;refine Wq Aq ?_;apply Y0;refine Ct ?_;refine Aa<|Y1<|Wm ?_;refine Wq As ?_;apply Y0;refine Cf ?_;refine Ys<|Y1<|Wa<|Y0 ?_;apply Aw;apply AP
   exact BL (Rets.of1 (ResV.tmp rfl rfl) (h2))
 | k+1,i,d,n,hn,hn8,hd=>by
  have h0:¬ ((i:Nat):Int) = ((n:Nat):Int):=by omega
  have hi8:i<8:=by omega
  refine Ab Tryz.func76 fun s0=>?_
  rw [Tryz.ntmps76]
  refine Y1<|Wa<|Y0<|Aa<|Y1<|Wm<|Wm ?_;refine Wq As ?_;apply Y0;refine Cf ?_;refine Ys<|Y1 ?_;refine KG (Ac rfl) (Ac rfl) rfl rfl rfl rfl rfl ?_;refine Wa<|Y0<|Aa<|Y1<|Wm<|Wa<|Y0<|AWp.block ?_
  refine AK (fun mz σ=>∃ s,s≤d+1∧mz = d+1 - s∧σ = ⟨[(0,.d (ex (.int .i64 (i:Nat)))),(1,.d (ex (.int .i64 (n:Nat)))),(2,.d (ex (.int .i64 (d:Nat)))),(7,.own 0),(8,.d (ex (.int .i64 ((d:Nat) - (s:Nat):Int))))],[.row 55 8 ((Ip k i d s).map AM)]⟩) ?les ⟨0,by omega,rfl,rfl⟩ ?rounds
  case les=>exact Ah (by exact Yd<|Yd<|Yd<|FrLe.cons rfl (AVle.own rfl)<|Yd<|FrLe.nil) (by exact Yr<|HpLe.nil)
  case rounds =>
   rintro mz _ ⟨s,hs,rfl,rfl⟩
   by_cases hlts:s<d+1
   ·have hs0 : (0 : Int) ≤ ((d : Nat) : Int) - ((s : Nat) : Int) := by omega
    have hsd:s≤d:=by omega
    have ih:=Nx k (i+1) s n (by omega) hn8 (by omega)
    rw [show ((s:Nat):Int) = ((d:Nat):Int) - (((d:Nat):Int) - ((s:Nat):Int)) by omega] at ih
    have hl1:=JM (k:=k) (i:=i+1) (d:=s) (by omega) (by omega)
    have hl2:=Ps (k:=k) (i:=i) (d:=d) (s:=s) (by omega) hd (by omega)
    refine Aa<|Y1<|Wm ?_;refine Wq Aq ?_;apply Y0;refine Ct ?_;refine Ys<|Aa<|AWp.block<|Y1<|Wm ?_;refine Wq AN ?_;refine Wm<|Wm<|Wm ?_;refine Wq FO ?_;refine Wq (Ao (ih)) ?_;refine Wa<|Y0<|Y1<|Wa<|Y0<|AWp.block ?_
    refine AK (fun mz σ=>∃ j,j≤(rM k (i+1) s).length∧mz = (rM k (i+1) s).length - j∧σ = ⟨[(0,.d (ex (.int .i64 (i:Nat)))),(1,.d (ex (.int .i64 (n:Nat)))),(2,.d (ex (.int .i64 (d:Nat)))),(7,.own 0),(8,.d (ex (.int .i64 ((d:Nat) - (s:Nat):Int)))),(9,.d (BD (rM k (i+1) s))),(10,.d (ex (.int .i64 (j:Nat))))],[.row 55 8 ((Ip k i d s ++ (In k i d s).take j).map AM)]⟩) ?lej ⟨0,by omega,rfl,rfl⟩ ?roundj
    case lej=>exact Ah (by exact Yd<|Yd<|Yd<|FrLe.cons rfl (AVle.own rfl)<|Yd<|Yd<|Yd<|FrLe.nil) (by exact HpLe.cons (Dh (by rw [List.take_zero,List.append_nil]))<|HpLe.nil)
    case roundj =>
     rintro mz _ ⟨j,hj,rfl,rfl⟩
     by_cases hltj:j<(rM k (i+1) s).length
     ·have hlj : j < (rM k (i + 1) s).length := by omega
      refine Aa<|Y1<|Wm<|Wm ?_;refine Wq Cm ?_;refine Wq Aq ?_;apply Y0;refine Ct ?_;refine Ys<|Aa<|AWp.block<|Y1<|Wm<|Wm ?_;refine Wq Bk ?_;refine Wq Bc ?_;refine Al ?_;refine Sf ?_;refine Y0<|Y1<|Wm<|Wm ?_;refine Wq Cq ?_;(refine Fy (ao rfl) (ao rfl) rfl (Ac rfl) (by first | exact CZ rfl | exact One.sl | exact EQ) (SetAt.mon (by first | omega | (simp;omega))) rfl ?_);refine Y0<|AWp.region<|Wm ?_;refine Wq AR ?_;refine Wq (DR (ao rfl) (Ac rfl) (Ac rfl) rfl rfl rfl rfl rfl) ?_;(refine Ap ?_);refine Wa ?_;apply AWl.nil;apply Aj;refine Yn<|AWp.region<|Wm ?_;refine Wq AN ?_;refine Wa ?_;apply AWl.nil
      refine ALoop.next ((rM k (i+1) s).length - (j+1)) (by omega) ⟨j+1,by omega,rfl,rfl⟩ ?_
      exact Ah (by exact Yd<|Yd<|Yd<|FrLe.cons rfl (AVle.own rfl)<|Yd<|Yd<|Yd<|FrLe.nil) (by refine HpLe.cons (Dh ((HP AM _ (FX (AW (rM k (i+1) s) j) i (((d:Nat):Int) - ((s:Nat):Int)))).trans (by rw [Uq hlj hsd]))) ?_;exact HpLe.nil)
     ·obtain rfl : j = (rM k (i + 1) s).length := by omega
      refine Aa<|Y1<|Wm<|Wm ?_;refine Wq Cm ?_;refine Wq As ?_;apply Y0;refine Cf ?_;apply AH;apply AA;apply AB;apply AC;apply Aj;refine Yn<|AWp.region<|Wm ?_;refine Wq FO ?_;refine Wa ?_;apply AWl.nil
      refine ALoop.next (d+1 - (s+1)) (by omega) ⟨s+1,by omega,rfl,rfl⟩ ?_
      exact Ah (by exact Yd<|Yd<|Yd<|FrLe.cons rfl (AVle.own rfl)<|FrLe.cons rfl (AVle.int (by first | rfl | omega))<|FrLe.nil) (by exact HpLe.cons (Dh (by rw [Wp]))<|HpLe.nil)
   ·obtain rfl : s = d + 1 := by omega
    have hs0:¬ (0:Int)≤((d:Nat):Int) - ((d+1:Nat):Int):=by omega
    refine Aa<|Y1<|Wm ?_;refine Wq As ?_;apply Y0;refine Cf ?_;apply AH;apply AA;apply AB;apply AC;refine Yn<|Y1<|Wm<|Wa<|Y0 ?_;apply Aw
    exact Yf
theorem Xk (n d:Nat) (hn:n≤8) (hd:d≤12):Abs Tryz.prog 33 [ex (.int .i64 (n:Nat)),ex (.int .i64 (d:Nat))] (Dw [BD (rM n 0 d),ex (.int .i64 0)]):=by
 have c:=Nx n 0 d n (by omega) hn hd
 have h1:¬ ((n:Nat):Int)<0:=by omega
 have h2:¬ ((d:Nat):Int)<0:=by omega
 have h3:¬ (8:Int)<((n:Nat):Int):=by omega
 have h4:¬ (12:Int)<((d:Nat):Int):=by omega
 refine Ab Tryz.func33 fun s0=>?_
 rw [Tryz.ntmps33]
 refine Y1<|Wa<|Wa<|Y0<|Aa<|Y1<|Wm ?_;refine Wq As ?_;refine Wm ?_;refine Wg Am ?_;refine Wg As ?_;refine Wq Ci ?_;refine Wm ?_;refine Wg Am ?_;refine Wg As ?_;refine Wq Ci ?_;refine Wm ?_;refine Wg Am ?_;refine Wg As ?_;refine Wq Ci ?_;apply Y0;refine Cf ?_;refine Ys<|Y1<|Wm<|Wm ?_;refine Wq (Ao (c)) ?_;refine Wa<|Wa<|Y0 ?_;apply Aw
 exact BL (CL (ResV.tmp rfl rfl) (ResV.tmp rfl rfl) (Cn (D.le.refl _) (D.le.refl _)))
def inD (T : Nat) (X:List R4) (m:Nat):D:=BU [Zr T X,ex (.int .u8 (m:Nat))]
theorem LY {P : Program} {hp:List Ow} {arg:Operand→AV} {dd:Option Tmp} {ty:TypeId} {ps:String} {af:Array Edge} {gd:Option (Nat × Bool)} {S T:TypeId} {x:Operand} {k:IntKind} {a c:Nat} {d:TypeDesc} {n b n' b':Nat} {z z':Value} (hx:arg x = .d (ex (.int k ((a % c:Nat):Int)))) (hS:Tab P S d n b z) (hT:Tab P T (.int .i64) n' b' z') (h:a<256):Quiet P hp ⟨dd,.convert S T x,ty,ps,af,gd⟩ arg (.d (ex (.int .i64 ((a % c:Nat):Int)))):=GN hx hS hT (by omega) (by have:=Nat.mod_le a c;omega)
theorem Tq (T : Nat) (X:List R4) (m:Nat) (hm:m<256):Abs Tryz.prog 12 [inD T X m] (ex (.int .i64 ((m % 5:Nat):Int))):=by
 refine Ab Tryz.func12 fun s0=>?_
 rw [Tryz.ntmps12]
 apply Y1;refine Bx ?_;refine Wa<|Y0<|Y1 ?_;refine Wq MN ?_;refine Wq BK ?_;refine Wq (Jn (a:=m) (b:=5) (ao rfl) (ao rfl) (by decide)) ?_;refine Wq (LY (ao rfl) (Ac rfl) (Ac rfl) hm) ?_;refine Wa<|Y0 ?_;apply Aw
 exact Yf
theorem Uj (T : Nat) (X:List R4) (m:Nat) (hm:m<256) (hX:∀ r∈X,OH r):Abs Tryz.prog 32 [inD T X m] (BD (IJ X (m % 5) 5 4)):=by
 have c:=Vs T X (m % 5) 5 4 hX (by omega) (by decide) (by decide)
 refine Ab Tryz.func32 fun s0=>?_
 rw [Tryz.ntmps32]
 apply Y1;refine Bx ?_;refine Wa<|Y0<|Y1 ?_;refine Wq MN ?_;refine Wq BK ?_;refine Wq MN ?_;refine Wq BK ?_;refine Wq (Jn (a:=m) (b:=5) (ao rfl) (ao rfl) (by decide)) ?_;refine Wq (LY (ao rfl) (Ac rfl) (Ac rfl) hm) ?_;refine Wq (Ao (c)) ?_;refine Wa<|Y0 ?_;apply Aw
 exact Yf
theorem Ra (n : Nat) (r:R4) (j:Nat):0≤VH n 4 r j∧VH n 4 r j≤4∧((n≤j∨4≤j)→VH n 4 r j = 0):=by
 unfold VH
 have:=Nat.mod_lt (r j) (show 0<4+1 by decide)
 split
 ·exact ⟨by omega,by omega,fun h=>by omega⟩
 ·exact ⟨by omega,by omega,fun _=>rfl⟩
theorem Mt {X : List R4} {n most top:Nat} {y:Nat→Int} (h:y∈IJ X n most top):∃ r∈X,y = VH n top r:=by
 obtain ⟨r,hr,rfl⟩:=List.mem_map.1 h
 exact ⟨r,List.mem_of_mem_take hr,rfl⟩
theorem ZI (n : Nat) (r:R4):Cx 8 0 (VH n 4 r)≤16:=by
 have h:=Ra n r
 simp only [Cx]
 have h0:=h 0;have h1:=h 1;have h2:=h 2;have h3:=h 3
 have e4:=(h 4).2.2 (.inr (by decide));have e5:=(h 5).2.2 (.inr (by decide));have e6:=(h 6).2.2 (.inr (by decide));have e7:=(h 7).2.2 (.inr (by decide))
 simp only [Nat.zero_add,Nat.reduceAdd,e4,e5,e6,e7]
 omega
theorem Uh {X : List R4} {n most:Nat}:∀ y∈IJ X n most 4,SupN n y:=fun y hy j hj=>by
 obtain ⟨r,_,rfl⟩:=Mt hy
 exact ⟨(Ra n r j).1,fun h=>(Ra n r j).2.2 (.inl h)⟩
theorem ZH {X : List R4} {n most:Nat}:∀ y∈IJ X n most 4,In8 y 0 64:=fun y hy j hj=>by
 obtain ⟨r,_,rfl⟩:=Mt hy
 have:=Ra n r j
 exact ⟨this.1,by omega⟩
theorem Yh {X : List R4} {n most:Nat}:∀ y∈IJ X n most 4,Cx 8 0 y≤16:=fun y hy=>by
 obtain ⟨r,_,rfl⟩:=Mt hy
 exact ZI n r
theorem XY {n k:Nat} (hn:n≤4) (hk:k≤12):(2:Int) ^ k*(((16*k:Nat):Int)+1) ^ (n+1)≤9223372036854775807:=by
 have h1:(16*k+1) ^ (n+1)≤193 ^ 5:=Nat.le_trans (Nat.pow_le_pow_left (by omega) _) (Nat.pow_le_pow_right (by decide) (by omega))
 have h0:2 ^ k≤2 ^ 12:=Nat.pow_le_pow_right (by decide) hk
 have h2:(2:Int) ^ k*(((16*k:Nat):Int)+1) ^ (n+1) = ((2 ^ k*(16*k+1) ^ (n+1):Nat):Int):=by
  push_cast
  rfl
 have h3:2 ^ k*(16*k+1) ^ (n+1)≤2 ^ 12*193 ^ 5:=Nat.mul_le_mul h0 h1
 have h4:2 ^ 12*193 ^ 5≤9223372036854775807:=by decide
 rw [h2]
 omega
theorem Yt (X : List R4) (n most:Nat) (hn:n≤4) (hm:most≤12):∃ N f,HilC (IJ X n most 4) n N f:=MC most 16 n _ (by omega) hm (Mu X n most 4) (by decide) ZH Uh Yh (XY hn hm)
theorem YC {n d:Nat} (hn:n≤4) (hd:d≤64):(4096:Int)*(((d:Nat):Int)+1) ^ n≤9223372036854775807:=by
 have h:(d+1) ^ n≤65 ^ 4:=Nat.le_trans (Nat.pow_le_pow_left (by omega) _) (Nat.pow_le_pow_right (by decide) hn)
 have h2:(4096:Int)*(((d:Nat):Int)+1) ^ n = ((4096*(d+1) ^ n:Nat):Int):=by
  push_cast
  rfl
 have h3:4096*(d+1) ^ n≤4096*65 ^ 4:=Nat.mul_le_mul_left _ h
 have h4:4096*65 ^ 4≤9223372036854775807:=by decide
 rw [h2]
 omega
theorem HilC.count {l : Ae} {n N d:Nat} {f:Nat→Int} (hc:HilC l n N f) (hn:n≤4) (hd:d≤64) (h2:∀ y∈l,SupN n y):Abs Tryz.prog 16 [BD l,ex (.int .i64 (n:Nat)),ex (.int .i64 (d:Nat))] (Dw [ex (.int .i64 (hN n d l)),ex (.int .i64 0)]):=by
 rw [← hc.num.num n (by omega) h2 d]
 exact Mb l n d N f 4096 (by omega) hd hc.ck hc.cn hc.num.far (fun t _=>hc.bnd t) (YC hn hd)
def Oz (l L:Ae) (k:Nat):Nat:=((L.take k).filter fun m => !inB l m).length
theorem WF (l L:Ae) (k:Nat):Oz l L k≤k:=by
 unfold Oz
 refine Nat.le_trans (List.length_filter_le _ _) ?_
 rw [List.length_take]
 exact Nat.min_le_left _ _
theorem SC {l L:Ae} {k:Nat} (h:k<L.length):Oz l L (k+1) = Oz l L k+if inB l (AW L k) = true then 0 else 1:=by
 unfold Oz
 rw [List.take_add_one,List.getElem?_eq_getElem h,List.filter_append,List.length_append,AW,List.getD_eq_getElem?_getD,List.getElem?_eq_getElem h]
 show _+(List.filter _ [L[k]]).length = _+if inB l (L[k]) = true then 0 else 1
 cases hb:inB l L[k]
 ·have : List.filter (fun m => !inB l m) [L[k]] = [L[k]] := by simp [hb]
  rw [this,if_neg Bool.false_ne_true]
  rfl
 ·have : List.filter (fun m => !inB l m) [L[k]] = [] := by simp [hb]
  rw [this,if_pos rfl]
  rfl
theorem UG (l : Ae) (n d:Nat):((Oz l (rM n 0 d) (rM n 0 d).length:Nat):Int) = hN n d l:=by
 unfold Oz
 rw [List.take_length,← Ji,Ka]
theorem Ou (T : Nat) (X:List R4) (m u:Nat) (hX:∀ r∈X,OH r) (hm:m<256) (hu:u<256):Abs Tryz.prog 4 [inD T X m,ex (.int .u8 (u:Nat))] (ex (.bool true)):=by
 obtain ⟨N,f,hc⟩:=Yt X (m % 5) 5 (by omega) (by decide)
 have hu9:u % 9≤8:=by omega
 have cm:=Uj T X m hm hX
 have cv:=Tq T X m hm
 have ca:=Xk (m % 5) (u % 9) (by omega) (by omega)
 have cc:=hc.count (d:=u % 9) (by omega) (by omega) Uh
 have hl:=JM (k:=m % 5) (i:=0) (d:=u % 9) (by omega) (by omega)
 have hend:=UG (IJ X (m % 5) 5 4) (m % 5) (u % 9)
 have hlen:=Mu X (m % 5) 5 4
 refine Ab Tryz.func4 fun s0=>?_
 rw [Tryz.ntmps4]
 apply Y1;refine Bx ?_;refine Wa<|Y0<|Y1 ?_;refine Wq (Ao (Pq)) ?_;refine Wa<|Y0<|Aa<|Y1<|Wm ?_;refine Wq Ea ?_;apply Y0;refine Cf ?_;refine Ys<|Aa ?_
 refine Dr [[],[(18,0)],[],[(20,2)],[],[(22,4)],[(23,5)],[(19,1)],[(21,3)]] [[],[0],[],[0,1,2],[],[4],[4,5],[0,1,2,3],[0,1,2,3,7]] ?_
 refine Xq AR ?_;refine Xq (Ao (cm)) ?_;refine Xq AR ?_;refine Xq (Ao (cv)) ?_;refine Xq Am ?_;(refine Xq (Jn (a:=u) (b:=9) (ah rfl) (ah rfl) (by decide)) ?_);refine Xq IC ?_;refine Xq LU ?_;refine Xq LU ?_;refine ⟨_,rfl,?_⟩
 refine Wa<|Y0<|Y1<|Wm<|Wm ?_;refine Wq (Ao (ca)) ?_;refine Wm ?_;refine Wq Cj ?_;refine Wq Cj ?_;refine Wa<|Wa<|Y0<|Y1<|Wa<|Y0<|Aa<|Y1<|Wa<|Y0<|AWp.block ?_
 refine AK (fun mz σ=>∃ k,k≤(rM (m % 5) 0 (u % 9)).length∧mz = (rM (m % 5) 0 (u % 9)).length - k∧σ = ⟨[(1,.d (ex (.int .u8 (u:Nat)))),(5,.d (ex (.bool true))),(6,.d (BD (IJ X (m % 5) 5 4))),(7,.d (ex (.int .i64 (m % 5:Nat)))),(8,.d (ex (.int .i64 (u % 9:Nat)))),(9,.d (BD (rM (m % 5) 0 (u % 9)))),(11,.d (ex (.int .i64 (Oz (IJ X (m % 5) 5 4) (rM (m % 5) 0 (u % 9)) k:Nat)))),(12,.d (ex (.int .i64 (k:Nat))))],[]⟩) ?le ⟨0,by omega,rfl,rfl⟩ ?round
 case le=>exact Ah (by exact Yd<|Yd<|Yd<|Yd<|Yd<|Yd<|Yd<|Yd<|FrLe.nil) (by exact HpLe.nil)
 case round =>
  rintro mz _ ⟨k,hk,rfl,rfl⟩
  by_cases hlt:k<(rM (m % 5) 0 (u % 9)).length
  ·have ci := VX (AW (rM (m % 5) 0 (u % 9)) k) (IJ X (m % 5) 5 4) (by omega)
   have hle:=WF (IJ X (m % 5) 5 4) (rM (m % 5) 0 (u % 9)) k
   have hnx:=SC (l:=IJ X (m % 5) 5 4) hlt
   cases hb:inB (IJ X (m % 5) 5 4) (AW (rM (m % 5) 0 (u % 9)) k)
   ·rw [hb] at ci hnx
    rw [if_neg Bool.false_ne_true] at hnx
    refine Aa<|Y1<|Wm<|Wm ?_;refine Wq Cm ?_;refine Wq Aq ?_;apply Y0;refine Ct ?_;refine Ys<|Aa<|AWp.block<|Y1<|Wm<|Wm ?_;refine Wq Bk ?_;refine Wq Bc ?_;refine Wm ?_;refine Wq (Ao (ci)) ?_;refine Wq Ea ?_;apply Y0;refine Ct ?_;refine AWp.region<|Wm ?_;refine Wq AN ?_;refine Wa ?_;apply AWl.nil;apply Aj;refine Yn<|AWp.region<|Wm ?_;refine Wq AN ?_;refine Wa ?_;apply AWl.nil
    refine ALoop.next ((rM (m % 5) 0 (u % 9)).length - (k+1)) (by omega) ⟨k+1,by omega,rfl,rfl⟩ ?_
    exact Ah (by exact Yd<|Yd<|Yd<|Yd<|Yd<|Yd<|FrLe.cons rfl (AVle.d (by rw [hnx]))<|Yd<|FrLe.nil) (by exact HpLe.nil)
   ·rw [hb] at ci hnx
    rw [if_pos rfl] at hnx
    refine Aa<|Y1<|Wm<|Wm ?_;refine Wq Cm ?_;refine Wq Aq ?_;apply Y0;refine Ct ?_;refine Ys<|Aa<|AWp.block<|Y1<|Wm<|Wm ?_;refine Wq Bk ?_;refine Wq Bc ?_;refine Wm ?_;refine Wq (Ao (ci)) ?_;refine Wq Ea ?_;apply Y0;refine Cf ?_;apply Bp;apply Aj;refine Yn<|AWp.region<|Wm ?_;refine Wq AN ?_;refine Wa ?_;apply AWl.nil
    refine ALoop.next ((rM (m % 5) 0 (u % 9)).length - (k+1)) (by omega) ⟨k+1,by omega,rfl,rfl⟩ ?_
    exact Ah (by exact Yd<|Yd<|Yd<|Yd<|Yd<|Yd<|FrLe.cons rfl (AVle.d (by rw [hnx,Nat.add_zero]))<|Yd<|FrLe.nil) (by exact HpLe.nil)
  ·obtain rfl : k = (rM (m % 5) 0 (u % 9)).length := by omega
   rw [hend]
   refine Aa<|Y1<|Wm<|Wm ?_;refine Wq Cm ?_;refine Wq As ?_;apply Y0;refine Cf ?_;apply AH;apply AA;apply AB;apply AC;refine Yn<|Y1<|Wm<|Wm<|Wm ?_;refine Wq (Ao (cc)) ?_;refine Wm ?_;refine Wq Cj ?_;refine Wq Cj ?_;refine Wa<|Wa<|Y0<|Y1<|Wm ?_;refine Wq Aq ?_;refine Wm ?_;refine Wg Am ?_;refine Wg Am ?_;refine Wg Aq ?_;refine Wq Bh ?_;refine Wm ?_;refine Wg Am ?_;refine Wq Bh ?_;refine Wa<|Y0 ?_;apply Aw
   exact Yf
end Go.Proofs.YtialdhnijjnpaaaGreat
