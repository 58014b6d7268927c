/- Part 26 of the proof of hilbertErrors_holds. No condition. -/
import Derived.Test.YtialdhnijjnpaaaGreatHe24
import Derived.Test.YtialdhnijjnpaaaGreatHe25
set_option linter.unusedSimpArgs false
set_option linter.unusedVariables false
set_option maxRecDepth 100000
namespace Go.Proofs.YtialdhnijjnpaaaGreat
open Go.RowKit
def mz : Nat→Int:=fun _=>0
def YA : Nat→Int
 | 0=>2
 | _=>0
def VD : Nat→Int
 | 0=>1
 | 1=>1
 | _=>0
def mx : Nat→Int
 | 0=>1
 | _=>0
def Zv : Nat→Int
 | 0=>0
 | 1=>2
 | _=>0
def my : Nat→Int
 | 0=>0
 | 1=>1
 | _=>0
abbrev lA : Af:=[YA,VD]
abbrev lB : Af:=[mx,Zv]
theorem j8 {p : Nat→Prop} (h0:p 0) (h1:p 1) (h2:p 2) (h3:p 3) (h4:p 4) (h5:p 5) (h6:p 6) (h7:p 7) (j:Nat) (hj:j<8):p j:=by
 have:j = 0∨j = 1∨j = 2∨j = 3∨j = 4∨j = 5∨j = 6∨j = 7:=by omega
 rcases this with rfl | rfl | rfl | rfl | rfl | rfl | rfl | rfl <;> assumption
theorem IH : ∀ y∈lA,In8 y 0 2∧SupN 2 y∧Cx 8 0 y≤2:=fun y hy=>by
 simp only [List.mem_cons,List.not_mem_nil,or_false] at hy
 rcases hy with rfl | rfl
 ·exact ⟨j8 (by decide) (by decide) (by decide) (by decide) (by decide) (by decide) (by decide) (by decide),j8 (by decide) (by decide) (by decide) (by decide) (by decide) (by decide) (by decide) (by decide),by decide⟩
 ·exact ⟨j8 (by decide) (by decide) (by decide) (by decide) (by decide) (by decide) (by decide) (by decide),j8 (by decide) (by decide) (by decide) (by decide) (by decide) (by decide) (by decide) (by decide),by decide⟩
theorem NO : ∀ y∈lB,In8 y 0 2∧SupN 2 y∧Cx 8 0 y≤2:=fun y hy=>by
 simp only [List.mem_cons,List.not_mem_nil,or_false] at hy
 rcases hy with rfl | rfl
 ·exact ⟨j8 (by decide) (by decide) (by decide) (by decide) (by decide) (by decide) (by decide) (by decide),j8 (by decide) (by decide) (by decide) (by decide) (by decide) (by decide) (by decide) (by decide),by decide⟩
 ·exact ⟨j8 (by decide) (by decide) (by decide) (by decide) (by decide) (by decide) (by decide) (by decide),j8 (by decide) (by decide) (by decide) (by decide) (by decide) (by decide) (by decide) (by decide),by decide⟩
theorem In8.big {y : Nat→Int} {a b:Int} (h:In8 y 0 a) (hab:a≤b):In8 y 0 b:=fun j hj=>by
 have:=h j hj
 omega
theorem ZK : ∃ N f,HilC lA 2 N f:=MC 2 2 2 lA (by decide) (by decide) (by decide) (by decide) (fun y hy=>(IH y hy).1.big (by decide)) (fun y hy=>(IH y hy).2.1) (fun y hy=>(IH y hy).2.2) (by decide)
theorem ZJ : ∃ N f,HilC lB 2 N f:=MC 2 2 2 lB (by decide) (by decide) (by decide) (by decide) (fun y hy=>(NO y hy).1.big (by decide)) (fun y hy=>(NO y hy).2.1) (fun y hy=>(NO y hy).2.2) (by decide)
theorem RZ (q : Nat→Int):IsMin [q] [q]:=⟨List.pairwise_singleton _ _,fun x=>⟨fun h=>⟨h,fun y hy hd=>by
 rw [List.mem_singleton.1 hy] at hd ⊢
 obtain ⟨a,ha,e⟩:=h
 rwa [List.mem_singleton.1 ha] at e⟩,fun h=>h.1⟩⟩
theorem Sa : IsMin [] []:=⟨List.Pairwise.nil,fun x=>⟨fun ⟨a,ha,_⟩=>(by cases ha),fun ⟨⟨a,ha,_⟩,_⟩=>(by cases ha)⟩⟩
def fA : Nat→Int
 | 0=>1
 | 2=>-2
 | 3=>1
 | _=>0
theorem QP (a : Nat→Int) (N:Nat) (h8:SupN 8 a) (hN:Cx 8 0 a+1≤N):NumL [a] (Hz (fun d=>Zx d - FV (Cx 8 0 a) Zx d) N) fun d=>Zx d - FV (Cx 8 0 a) Zx d :=
 NumL.cons NumL.nil NumL.nil Sa (fun y hy=>by cases hy) h8 N (by omega) (.inl hN)
theorem Vk {n : Nat} {a:Nat→Int} (h:SupN n a):SupN 8 a:=fun j hj=>⟨(h j hj).1,fun h=>by omega⟩
theorem ZH : ∃ F:Nat→Int,NumL lA 4 F∧∀ i,i<4→F i = fA i:=by
 have h1:=QP VD 3 (Vk (IH VD (by simp)).2.1) (by decide)
 have h2:=QP (qM VD YA) 2 (fun j hj=>⟨WU VD YA (fun j hj=>((IH VD (by simp)).2.1 j hj).1) j hj,fun h=>by omega⟩) (by decide)
 have h3:=NumL.cons (rest:=[VD]) (R:=[qM VD YA]) (a:=YA) h1 h2 (RZ _) (fun y hy=>by rw [List.mem_singleton.1 hy];exact Vk (IH VD (by simp)).2.1) (Vk (IH YA (by simp)).2.1) 4 (by decide) (.inl (by decide))
 refine ⟨_,h3,fun i hi=>?_⟩
 have:i = 0∨i = 1∨i = 2∨i = 3:=by omega
 rcases this with rfl | rfl | rfl | rfl <;> decide
theorem Abs.le_ {P : Program} {f:FuncId} {ds:List D} {r r':D} (h:Abs P f ds r) (hr:D.le r r'):Abs P f ds r' :=
 ⟨h.1,fun s vs h1 h2 h3=>(h.2 s vs h1 h2 h3).mono fun e w' ⟨v,he,s',hw,hl,hv⟩=>⟨v,he,s',hw,hl,hr s' v hv⟩⟩
theorem ZL : Fl lA 2 = 1:=by decide +kernel
theorem dmB : Fl lB 2 = 0:=by decide +kernel
theorem mxA : Xw lA (2 ^ 2) = [2]:=by decide +kernel
theorem ZF : (Abs Tryz.prog 14 [Bt lA,ex (.int .i64 2)] (Cs [nD 4 fA,ex (.int .i64 0)]))∧(Abs Tryz.prog 22 [Bt lA,ex (.int .i64 2)] (Cs [ex (.int .i64 1),ex (.int .i64 0)]))∧(Abs Tryz.prog 24 [Bt lA,ex (.int .i64 2)] (Cs [ex (.int .i64 1),ex (.int .i64 0)]))∧(∃ F:Nat→Rat,F 0 = ((1:Int):Rat)∧Abs Tryz.prog 26 [Bt lA,ex (.int .i64 2)] (Cs [DN 1 F,ex (.int .i64 0)]))∧(Abs Tryz.prog 16 [Bt lA,ex (.int .i64 2),ex (.int .i64 3)] (Cs [ex (.int .i64 1),ex (.int .i64 0)]))∧(Abs Tryz.prog 18 [Bt lA,ex (.int .i64 2)] (Cs [RD [2],ex (.int .i64 0)]))∧(Abs Tryz.prog 28 [Bt lA,ex (.int .i64 2)] (Cs [ex (.slice none 0 0),ex (.int .i64 160)])):=by
 obtain ⟨N,f,hc⟩:=ZK
 obtain ⟨F,hF,hFv⟩:=ZH
 have h8:∀ a∈lA,SupN 8 a:=fun a ha=>Vk (IH a ha).2.1
 obtain ⟨rfl,rfl⟩:=hc.num.inj hF h8
 have e0:f = fun i=>fA i:=funext fun i=>by
  by_cases hi:i<4
  ·exact hFv i hi
  ·rw [hF.far i (by omega)]
   match i,hi with
   | i+4,_=>rfl
 have e0:f = fA:=e0
 subst e0
 have d1:Fl lA 2 = ((1:Nat):Int):=ZL
 have hq:=hc.qb 1 d1
 have hcc:=hc.cc 1 d1
 have hcd:=hc.cd
 rw [ZL] at hcd
 have hcg:=hc.cg
 have eg:VT lA 2 4 fA = 1:=by
  unfold VT
  rw [ZL]
  decide +kernel
 rw [eg] at hcg
 refine ⟨LW lA 2 4 fA hc.ck hc.cn,LZ lA 2 1 hc.ck hcd,OQ lA 2 1 hc.ck hcg,?_,?_,?_,Sv lA 2 1 (by decide) hc.ck hcd⟩
 ·have hp := LV lA 2 1 (cN 4 fA (2 - 1)).1 (Cu (2 - 1) fA) (by decide) (by decide) (by decide) hq hc.ck hcd hcc
  have e1:(pH (Cu (2 - 1) fA) 1 (cN 4 fA (2 - 1)).1).1 = 1:=by decide +kernel
  rw [e1] at hp
  exact ⟨_,by decide +kernel,hp⟩
 ·have hp := Ma lA 2 3 4 fA 4096 (by decide) (by decide) hc.ck hc.cn hc.num.far (fun t _ => hc.bnd t) (by decide)
  have e1:Cu 2 fA 3 = 1:=by decide +kernel
  rw [e1] at hp
  exact hp
 ·have hp := LX lA 2 (by decide) (by decide) hc.ck
  rw [mxA] at hp
  exact hp
theorem ZD : IsStd lB 2 [mz,my]:=by
 refine ⟨?_,fun x=>⟨fun ⟨a,ha,e⟩=>?_,fun hx=>?_⟩⟩
 ·rw [List.pairwise_cons]
  refine ⟨fun b hb=>?_,List.pairwise_singleton _ _⟩
  rw [List.mem_singleton.1 hb]
  decide +kernel
 ·simp only [List.mem_cons,List.not_mem_nil,or_false] at ha
  have key:StdX lB 2 a:=by
   rcases ha with rfl | rfl
   ·exact ⟨j8 (by decide) (by decide) (by decide) (by decide) (by decide) (by decide) (by decide) (by decide),by decide +kernel⟩
   ·exact ⟨j8 (by decide) (by decide) (by decide) (by decide) (by decide) (by decide) (by decide) (by decide),by decide +kernel⟩
  exact key.congr e
 ·have h1:¬ Dv mx x:=fun hd=>by
   have:=(CL (l:=lB)).2 ⟨mx,List.mem_cons_self,hd⟩
   rw [hx.2] at this
   cases this
  have h2:¬ Dv Zv x:=fun hd=>by
   have:=(CL (l:=lB)).2 ⟨Zv,List.mem_cons_of_mem _ List.mem_cons_self,hd⟩
   rw [hx.2] at this
   cases this
  have hn:∀ j,j<8→0≤x j:=fun j hj=>(hx.1 j hj).1
  have hz:∀ j,j<8→2≤j→x j = 0:=fun j hj h=>(hx.1 j hj).2 h
  have h0:x 0 = 0:=by
   refine Classical.byContradiction fun hne=>h1 fun j hj=>?_
   by_cases e:j = 0
   ·subst e
    have:=hn 0 (by omega)
    show (1:Int)≤x 0
    omega
   ·have:mx j = 0:=by
     match j,e with
     | j+1,_=>rfl
    rw [this]
    exact hn j hj
  have h3:x 1<2:=by
   refine Classical.byContradiction fun hne=>h2 fun j hj=>?_
   by_cases e:j = 1
   ·subst e
    show (2:Int)≤x 1
    omega
   ·have:Zv j = 0:=by
     match j,e with
     | 0,_=>rfl
     | j+2,_=>rfl
    rw [this]
    exact hn j hj
  have h4:=hn 1 (by omega)
  by_cases h5:x 1 = 0
  ·exact ⟨mz, by simp, fun j hj => by
    show 0 = x j
    by_cases e:2≤j
    ·exact (hz j hj e).symm
    ·have : j = 0 ∨ j = 1 := by omega
     rcases this with rfl | rfl <;> omega⟩
  ·refine ⟨my, by simp, fun j hj => ?_⟩
   match j,hj with
   | 0,_=>exact h0.symm
   | 1,_=>show (1:Int) = x 1;omega
   | j+2,hj=>exact (hz (j+2) hj (by omega)).symm
theorem ZE : Abs Tryz.prog 28 [Bt lB,ex (.int .i64 2)] (Cs [Bt [mz,my],ex (.int .i64 0)]):=by
 obtain ⟨N,f,hc⟩:=ZJ
 have h:=Uz (E:=1) hc (by decide) (by decide) (fun y hy=>(NO y hy).2.1) (fun a ha j hj=>((NO a ha).1 j hj).2) (by decide) (by rw [dmB];decide) (by decide)
 exact h.le_ (Bv (fun s v ⟨S,hS,hv⟩=>by rw [← hS.same ZD];exact hv) (D.le.refl _))
theorem Pk : Abs Tryz.prog 11 [] (ex (.bool true)):=by
 obtain ⟨c1,c2,c3,⟨F,hF,c4⟩,c5,c6,c8⟩:=ZF
 have c7:=ZE
 have cq:Abs Tryz.prog 41 [Cc (CF (F 0)),Cc (CF q1)] (ex (.bool true)):=by
  have:=PM (F 0) q1
  rwa [decide_eq_true hF] at this
 refine Ab Tryz.func11 fun s0=>?_
 rw [Tryz.ntmps11]
 refine Y1<|Wa<|Y0<|Y1 ?_;(refine De rfl rfl ?_;(refine Fj (Ad rfl) (Ad rfl) rfl rfl ?_;(repeat ((first | refine ⟨_,BD (ao rfl),?_⟩ | refine ⟨_,Po rfl,?_⟩);refine ⟨_,rfl,?_⟩));refine ⟨_,rfl,?_⟩));(refine De rfl rfl ?_;(refine Fj (Ad rfl) (Ad rfl) rfl rfl ?_;(repeat ((first | refine ⟨_,BD (ao rfl),?_⟩ | refine ⟨_,Po rfl,?_⟩);refine ⟨_,rfl,?_⟩));refine ⟨_,rfl,?_⟩));(refine De rfl rfl ?_;(refine Dz (Ad rfl) (Ad rfl) rfl rfl rfl rfl rfl ?_;(repeat ((first | refine ⟨_,BD (ao rfl),?_⟩ | refine ⟨_,Po rfl,?_⟩);refine ⟨_,rfl,?_⟩));refine ⟨_,rfl,?_⟩));refine Wa<|Y0<|Y1<|Wm ?_;refine Wq (Ak (c1)) ?_;refine Wm ?_;refine Wq AZ ?_;refine Wq AZ ?_;refine Wa<|Wa<|Y0<|Y1<|Wm ?_;refine Wq (Ak (c2)) ?_;refine Wm ?_;refine Wq AZ ?_;refine Wq AZ ?_;refine Wa<|Wa<|Y0<|Y1<|Wm ?_;refine Wq (Ak (c3)) ?_;refine Wm ?_;refine Wq AZ ?_;refine Wq AZ ?_;refine Wa<|Wa<|Y0<|Y1<|Wm ?_;refine Wq (Ak (c4)) ?_;refine Wm ?_;refine Wq AZ ?_;refine Wq AZ ?_;refine Wa<|Wa<|Y0<|Y1<|Wm ?_;refine Wq (Ak (c5)) ?_;refine Wm ?_;refine Wq AZ ?_;refine Wq AZ ?_;refine Wa<|Wa<|Y0<|Y1<|Wm ?_;refine Wq (Ak (c6)) ?_;refine Wm ?_;refine Wq AZ ?_;refine Wq AZ ?_;refine Wa<|Wa<|Y0<|Y1 ?_;(refine De rfl rfl ?_;(refine Fj (Ad rfl) (Ad rfl) rfl rfl ?_;(repeat ((first | refine ⟨_,BD (ao rfl),?_⟩ | refine ⟨_,Po rfl,?_⟩);refine ⟨_,rfl,?_⟩));refine ⟨_,rfl,?_⟩));(refine De rfl rfl ?_;(refine Fj (Ad rfl) (Ad rfl) rfl rfl ?_;(repeat ((first | refine ⟨_,BD (ao rfl),?_⟩ | refine ⟨_,Po rfl,?_⟩);refine ⟨_,rfl,?_⟩));refine ⟨_,rfl,?_⟩));(refine De rfl rfl ?_;(refine Dz (Ad rfl) (Ad rfl) rfl rfl rfl rfl rfl ?_;(repeat ((first | refine ⟨_,BD (ao rfl),?_⟩ | refine ⟨_,Po rfl,?_⟩);refine ⟨_,rfl,?_⟩));refine ⟨_,rfl,?_⟩));refine Wq (Ak (c7)) ?_;refine Wm ?_;refine Wq AZ ?_;refine Wq AZ ?_;refine Wa<|Wa<|Y0<|Y1<|Wm ?_;refine Wq (Ak (c8)) ?_;refine Wm ?_;refine Wq AZ ?_;refine Wq AZ ?_;refine Wa<|Wa<|Y0<|Y1<|Wm ?_;refine Wq Ah ?_;refine Wm ?_;refine Wg Ae ?_;refine Wg Ah ?_;refine Wq Az ?_;refine Wm ?_;refine Wg Ae ?_;refine Wg Ah ?_;refine Wq Az ?_;refine Wm ?_;refine Wg Ae ?_;refine Wg Ah ?_;refine Wq Az ?_;refine Wm ?_;refine Wg Ae ?_;refine Wg Ah ?_;refine Wq Az ?_;refine Wm ?_;refine Wg Ae ?_;refine Wg Ah ?_;refine Wq Az ?_;refine Wm ?_;refine Wg Ae ?_;refine Wg Ah ?_;refine Wq Az ?_;refine Wm ?_;refine Wg Ae ?_;refine Wg Ah ?_;refine Wq Az ?_;refine Wa<|Y0<|Aa ?_
 refine Dr [[],[(94,0)],[],[],[(96,2),(97,3)],[(95,1),(98,4)],[(99,5)],[],[(101,7)],[(100,6),(102,8)],[(103,9)],[],[(105,11)],[(104,10),(106,12)],[(107,13)],[],[(109,15)],[(110,16)],[(108,14),(111,17)],[(112,18)],[],[(114,20)],[(115,21)],[],[(116,22),(117,23)],[(113,19),(118,24)],[(119,25)],[],[(121,27)],[(120,26),(122,28)],[(123,29)],[],[],[(125,31),(126,32)],[(124,30),(127,33)],[(128,34)],[],[],[],[(131,37),(132,38)],[(130,36),(133,39)],[(129,35),(134,40)]] [[],[0],[0,1],[0,1],[0,1,2,3],[0,1,2,3,4],[0,1,2,3,4,5],[0,1,2,3,4,5,6],[0,1,2,3,4,5,6,7],[0,1,2,3,4,5,6,7,8],[0,1,2,3,4,5,6,7,8,9],[0,1,2,3,4,5,6,7,8,9,10],[0,1,2,3,4,5,6,7,8,9,10,11],[0,1,2,3,4,5,6,7,8,9,10,11,12],[0,1,2,3,4,5,6,7,8,9,10,11,12,13],[0,1,2,3,4,5,6,7,8,9,10,11,12,13,14],[0,1,2,3,4,5,6,7,8,9,10,11,12,13,14,15],[0,1,2,3,4,5,6,7,8,9,10,11,12,13,14,15,16],[0,1,2,3,4,5,6,7,8,9,10,11,12,13,14,15,16,17],[0,1,2,3,4,5,6,7,8,9,10,11,12,13,14,15,16,17,18],[0,1,2,3,4,5,6,7,8,9,10,11,12,13,14,15,16,17,18,19],[0,1,2,3,4,5,6,7,8,9,10,11,12,13,14,15,16,17,18,19,20],[0,1,2,3,4,5,6,7,8,9,10,11,12,13,14,15,16,17,18,19,20,21],[0,1,2,3,4,5,6,7,8,9,10,11,12,13,14,15,16,17,18,19],[0,1,2,3,4,5,6,7,8,9,10,11,12,13,14,15,16,17,18,19,20,21,22,23],[0,1,2,3,4,5,6,7,8,9,10,11,12,13,14,15,16,17,18,19,20,21,22,23,24],[0,1,2,3,4,5,6,7,8,9,10,11,12,13,14,15,16,17,18,19,20,21,22,23,24,25],[0,1,2,3,4,5,6,7,8,9,10,11,12,13,14,15,16,17,18,19,20,21,22,23,24,25,26],[0,1,2,3,4,5,6,7,8,9,10,11,12,13,14,15,16,17,18,19,20,21,22,23,24,25,26,27],[0,1,2,3,4,5,6,7,8,9,10,11,12,13,14,15,16,17,18,19,20,21,22,23,24,25,26,27,28],[0,1,2,3,4,5,6,7,8,9,10,11,12,13,14,15,16,17,18,19,20,21,22,23,24,25,26,27,28,29],[0,1,2,3,4,5,6,7,8,9,10,11,12,13,14,15,16,17,18,19,20,21,22,23,24,25,26,27,28,29,30],[0,1,2,3,4,5,6,7,8,9,10,11,12,13,14,15,16,17,18,19,20,21,22,23,24,25,26,27,28,29,30],[0,1,2,3,4,5,6,7,8,9,10,11,12,13,14,15,16,17,18,19,20,21,22,23,24,25,26,27,28,29,30,31,32],[0,1,2,3,4,5,6,7,8,9,10,11,12,13,14,15,16,17,18,19,20,21,22,23,24,25,26,27,28,29,30,31,32,33],[0,1,2,3,4,5,6,7,8,9,10,11,12,13,14,15,16,17,18,19,20,21,22,23,24,25,26,27,28,29,30,31,32,33,34],[0,1,2,3,4,5,6,7,8,9,10,11,12,13,14,15,16,17,18,19,20,21,22,23,24,25,26,27,28,29,30,31,32,33,34,35],[0,1,2,3,4,5,6,7,8,9,10,11,12,13,14,15,16,17,18,19,20,21,22,23,24,25,26,27,28,29,30,31,32,33,34,35],[0,1,2,3,4,5,6,7,8,9,10,11,12,13,14,15,16,17,18,19,20,21,22,23,24,25,26,27,28,29,30,31,32,33,34,35],[0,1,2,3,4,5,6,7,8,9,10,11,12,13,14,15,16,17,18,19,20,21,22,23,24,25,26,27,28,29,30,31,32,33,34,35,37,38],[0,1,2,3,4,5,6,7,8,9,10,11,12,13,14,15,16,17,18,19,20,21,22,23,24,25,26,27,28,29,30,31,32,33,34,35,36,37,38,39],[0,1,2,3,4,5,6,7,8,9,10,11,12,13,14,15,16,17,18,19,20,21,22,23,24,25,26,27,28,29,30,31,32,33,34,35,36,37,38,39,40]] ?_
 refine Xq Ae ?_;refine Xq Ae ?_;refine Xg Ae ?_;(refine Ze rfl rfl ?_;refine Dz (Ad rfl) (Ad rfl) rfl rfl rfl rfl rfl ?_;(repeat ((first | refine ⟨_,BD (ah rfl),?_⟩ | refine ⟨_,Po rfl,?_⟩);refine ⟨_,rfl,?_⟩));refine ⟨_,rfl,?_⟩;refine ⟨_,rfl,?_⟩);refine Xg (Ak (Wk 4 fA (by decide))) ?_;refine Xq Az ?_;refine Xq Ae ?_;refine Xg Ae ?_;refine Xg Ah ?_;refine Xq Az ?_;refine Xq Ae ?_;refine Xg Ae ?_;refine Xg Ah ?_;refine Xq Az ?_;refine Xq Ae ?_;refine Xg Ae ?_;(refine ⟨_,If rfl rfl (DC (F:=CK F) rfl (Ad rfl)),?_⟩;refine ⟨_,rfl,?_⟩);refine Xg Ah ?_;refine Xq Az ?_;refine Xq Ae ?_;refine Xg Ae ?_;(refine ⟨_,If rfl rfl (MS (F:=CK F) (k:=0) rfl (ah rfl) (Ad rfl) (Ad rfl) rfl (by decide)),?_⟩;refine ⟨_,rfl,?_⟩);refine Xg Bu ?_;refine Xg (Ak (PK 1 (by omega) (by omega))) ?_;refine Xg (Ak (cq)) ?_;refine Xq Az ?_;refine Xq Ae ?_;refine Xg Ae ?_;refine Xg Ah ?_;refine Xq Az ?_;refine Xq Ae ?_;refine Xg Ae ?_;(refine Ze rfl rfl ?_;refine Dz (Ad rfl) (Ad rfl) rfl rfl rfl rfl rfl ?_;(repeat ((first | refine ⟨_,BD (ah rfl),?_⟩ | refine ⟨_,Po rfl,?_⟩);refine ⟨_,rfl,?_⟩));refine ⟨_,rfl,?_⟩;refine ⟨_,rfl,?_⟩);refine Xg (Ak (Wj [2])) ?_;refine Xq Az ?_;refine Xq Ae ?_;refine Xg Ae ?_;(refine Ze rfl rfl ?_;refine Fj (Ad rfl) (Ad rfl) rfl rfl ?_;(repeat ((first | refine ⟨_,BD (ah rfl),?_⟩ | refine ⟨_,Po rfl,?_⟩);refine ⟨_,rfl,?_⟩));refine ⟨_,rfl,?_⟩;refine ⟨_,rfl,?_⟩);(refine Ze rfl rfl ?_;refine Fj (Ad rfl) (Ad rfl) rfl rfl ?_;(repeat ((first | refine ⟨_,BD (ah rfl),?_⟩ | refine ⟨_,Po rfl,?_⟩);refine ⟨_,rfl,?_⟩));refine ⟨_,rfl,?_⟩;refine ⟨_,rfl,?_⟩);(refine Ze rfl rfl ?_;refine Dz (Ad rfl) (Ad rfl) rfl rfl rfl rfl rfl ?_;(repeat ((first | refine ⟨_,BD (ah rfl),?_⟩ | refine ⟨_,Po rfl,?_⟩);refine ⟨_,rfl,?_⟩));refine ⟨_,rfl,?_⟩;refine ⟨_,rfl,?_⟩);refine Xg (Ak (Wl [mz,my] (by decide))) ?_;refine Xq Az ?_;refine ⟨_,rfl,?_⟩
 refine Wa<|Y0 ?_;apply Av
 exact Yf
theorem PV (l : Af) (n d:Int) (hd:d≤0) (ck:Abs Tryz.prog 46 [Bt l,ex (.int .i64 n)] (ex (.int .i64 0))) (cd:Abs Tryz.prog 55 [Bt l,ex (.int .i64 n)] (ex (.int .i64 d))):Abs Tryz.prog 26 [Bt l,ex (.int .i64 n)] (Cs [ex (.slice none 0 0),ex (.int .i64 0)]):=by
 refine Ab Tryz.func26 fun s0=>?_
 rw [Tryz.ntmps26]
 refine Y1<|Wa<|Wa<|Y0<|Aa<|Y1<|Wm<|Wm ?_;refine Wq (Ak (ck)) ?_;refine Wa<|Y0<|Y1<|Wm ?_;refine Wq Ao ?_;apply Y0;refine Cf ?_;refine Ys<|Y1<|Wm<|Wm ?_;refine Wq (Ak (cd)) ?_;refine Wa<|Y0<|Aa<|Y1<|Wm ?_;refine Wq Ah ?_;apply Y0;refine Ct ?_;refine Y1<|Wa<|Wa<|Y0 ?_;apply Av;apply AL
 exact Bz (BU (ResV.tmp rfl rfl) (ResV.tmp rfl rfl) (Bv (D.le.refl _) (D.le.refl _)))
theorem Ji {P : Program} {hp:List Ow} {arg:Operand→AV} {dd:Option Tmp} {ty:TypeId} {ps:String} {af:Array Edge} {gd:Option (Nat × Bool)} {T U:TypeId} {x y:Operand} {k:IntKind} {a b:Nat} (hx:arg x = .d (ex (.int k (a:Nat)))) (hy:arg y = .d (ex (.int k (b:Nat)))) (hb:0<b):Quiet P hp ⟨dd,.binOp .rem T x y U,ty,ps,af,gd⟩ arg (.d (ex (.int k ((a % b:Nat):Int)))):=by
 have:=XQ (dd:=dd) (T:=T) (U:=U) (ty:=ty) (ps:=ps) (af:=af) (gd:=gd) (hp:=hp) (P:=P) hx hy (by omega) (by omega)
 rwa [← Int.natCast_emod] at this
def Lp (k : Nat) (e:Int):Nat→Int:=Il (fun _=>0) k e
structure ErrC (l : Af) (n want:Int):Prop where
 c1:∃ x,Abs Tryz.prog 14 [Bt l,ex (.int .i64 n)] (Cs [x,ex (.int .i64 want)])
 c2:∃ x,Abs Tryz.prog 16 [Bt l,ex (.int .i64 n),ex (.int .i64 1)] (Cs [x,ex (.int .i64 want)])
 c3:∃ x,Abs Tryz.prog 18 [Bt l,ex (.int .i64 n)] (Cs [x,ex (.int .i64 want)])
 c4:∃ x,Abs Tryz.prog 22 [Bt l,ex (.int .i64 n)] (Cs [x,ex (.int .i64 want)])
 c5:∃ x,Abs Tryz.prog 24 [Bt l,ex (.int .i64 n)] (Cs [x,ex (.int .i64 want)])
 c6:∃ x,Abs Tryz.prog 26 [Bt l,ex (.int .i64 n)] (Cs [x,ex (.int .i64 want)])
theorem GC {l : Af} {n want:Int} (h:¬ want = 0) (ck:Abs Tryz.prog 46 [Bt l,ex (.int .i64 n)] (ex (.int .i64 want))):ErrC l n want :=
 ⟨⟨_,SK l n want h ck⟩,⟨_,SP l n 1 want h ck⟩,⟨_,SM l n want h ck⟩,⟨_,SO l n want h ck⟩,⟨_,UW l n want h ck⟩,⟨_,SI l n want h ck⟩⟩
theorem EE (d : Int) (hd:d<0∨64<d):Abs Tryz.prog 16 [Bt [],ex (.int .i64 1),ex (.int .i64 d)] (Cs [ex (.int .i64 0),ex (.int .i64 1)]) :=
 Qc [] 1 d hd (Ou [] 1 (by decide) (by decide) (fun y hy=>by cases hy) fun y hy=>by cases hy)
theorem GJ (n e:Int) (i:Nat) (want ws:Int) (hi:i<256) (he:-9223372036854775808≤e∧e≤9223372036854775807) (hn0:-9223372036854775808≤n∧n≤9223372036854775807) (hc:ErrC [Lp (i % 8) e] n want)
  (hs:∃ x,Abs Tryz.prog 28 [Bt (List.replicate 13 fun _=>0),ex (.int .i64 n)] (Cs [x,ex (.int .i64 ws)]))
  (hw:(want = 1∧(n<0∨8<n∨(0≤n∧n≤8∧(e<0∨65535<e∨(0<e∧e≤65535∧n≤((i % 8:Nat):Int))))))∨(0≤n∧n≤8∧0≤e∧e≤65535∧(e = 0∨(0<e∧((i % 8:Nat):Int)<n))∧((64<e∧want = 2)∨(e≤64∧want = 0)))) (hws:((n<0∨8<n)∧ws = 1)∨(0≤n∧n≤8∧ws = 2)):Abs Tryz.prog 10 [ex (.int .i64 n),ex (.int .u8 (i:Nat)),ex (.int .i64 e)] (ex (.bool true)):=by
 obtain ⟨⟨x1,c1⟩,⟨x2,c2⟩,⟨x3,c3⟩,⟨x4,c4⟩,⟨x5,c5⟩,⟨x6,c6⟩⟩:=hc
 obtain ⟨x7,c7⟩:=hs
 have hi8:i % 8<8:=Nat.mod_lt _ (by decide)
 refine Ab Tryz.func10 fun s0=>?_
 rw [Tryz.ntmps10]
 refine Y1<|Wa<|Y0<|Y1 ?_;refine Wq (Ak (Pk)) ?_;refine Wa<|Y0<|Aa<|Y1<|Wm ?_;refine Wq Ex ?_;apply Y0;refine Cf ?_;refine Ys<|Y1 ?_;(refine De rfl rfl ?_;(refine Fj (Ad rfl) (Ad rfl) rfl rfl ?_;(repeat ((first | refine ⟨_,BD (ao rfl),?_⟩ | refine ⟨_,Po rfl,?_⟩);refine ⟨_,rfl,?_⟩));refine ⟨_,rfl,?_⟩));refine Al ?_;refine Sf ?_;refine Y0<|Y1<|Wm ?_;refine Wq (Ji (a:=i) (b:=8) (ao rfl) (ao rfl) (by decide)) ?_;refine Wm ?_;refine Wq Dc ?_
 refine GD (ao rfl) (ao rfl) rfl (Ad rfl) (Dl rfl) (show SetAt (AR fun _=>0) (0+i % 8*1) [ex (.int .i64 e)] (AR (Lp (i % 8) e)) from SetAt.mon hi8) rfl ?_
 apply AWl.nil
 apply Yn
 apply Aa
 refine GU ⟨[(0,.d (ex (.int .i64 n))),(1,.d (ex (.int .u8 (i:Nat)))),(2,.d (ex (.int .i64 e))),(7,.d (ex (.bool true))),(9,.d (Bt [Lp (i % 8) e]))],[]⟩ ?_ ?_
 ·apply AWp.region;refine Wq AW ?_;refine Wq (FA (ao rfl) (Ad rfl) (Ad rfl) rfl rfl rfl rfl rfl) ?_;refine Wa ?_;apply AWl.nil;apply OnlyN.mk'
  exact Am (by exact Yd<|Yd<|Yd<|Yd<|Yd<|FrLe.nil) (by exact HpLe.nil)
 apply Yn
 apply Aa
 refine GU ⟨[(0,.d (ex (.int .i64 n))),(1,.d (ex (.int .u8 (i:Nat)))),(2,.d (ex (.int .i64 e))),(7,.d (ex (.bool true))),(9,.d (Bt [Lp (i % 8) e])),(10,.d (ex (.int .i64 0)))],[]⟩ ?_ ?_
 ·refine AWp.region<|Wa ?_;apply AWl.nil;apply OnlyN.mk'
  exact Am (by exact Yd<|Yd<|Yd<|Yd<|Yd<|Yd<|FrLe.nil) (by exact HpLe.nil)
 apply Yn
 apply Aa
 refine GU ⟨[(0,.d (ex (.int .i64 n))),(1,.d (ex (.int .u8 (i:Nat)))),(2,.d (ex (.int .i64 e))),(7,.d (ex (.bool true))),(9,.d (Bt [Lp (i % 8) e])),(10,.d (ex (.int .i64 want)))],[]⟩ ?_ ?_
 ·rcases hw with ⟨rfl,hr | hr | ⟨h1,h2,hr | hr | ⟨h3,h4,hr⟩⟩⟩ | ⟨h1,h2,h3,h4,hr | ⟨hr,h5⟩,⟨h6,rfl⟩ | ⟨h6,rfl⟩⟩
  ·refine Y1<|Wm ?_;refine Wq Ah ?_;refine Wm ?_;refine Ws ?_;refine Ws ?_;refine Wq Az ?_;refine Wm ?_;refine Ws ?_;refine Ws ?_;refine Wq Az ?_;refine Wm ?_;refine Ws ?_;refine Ws ?_;refine Wq Az ?_;refine Wm ?_;refine Ws ?_;refine Ws ?_;refine Ws ?_;refine Ws ?_;refine Ws ?_;refine Ws ?_;refine Ws ?_;refine Ws ?_;refine Ws ?_;refine Wq Az ?_;apply Y0;refine Ct ?_;refine AWp.region<|Wa ?_;apply AWl.nil;apply OnlyN.mk'
   exact Am (by exact Yd<|Yd<|Yd<|Yd<|Yd<|Yd<|FrLe.nil) (by exact HpLe.nil)
  ·have h0 : ¬ n < 0 := by omega
   refine Y1<|Wm ?_;refine Wq Ao ?_;refine Wm ?_;refine Wg Ae ?_;refine Wg Ah ?_;refine Wq AM ?_;refine Wm ?_;refine Ws ?_;refine Ws ?_;refine Wq Az ?_;refine Wm ?_;refine Ws ?_;refine Ws ?_;refine Wq Az ?_;refine Wm ?_;refine Ws ?_;refine Ws ?_;refine Ws ?_;refine Ws ?_;refine Ws ?_;refine Ws ?_;refine Ws ?_;refine Ws ?_;refine Ws ?_;refine Wq Az ?_;apply Y0;refine Ct ?_;refine AWp.region<|Wa ?_;apply AWl.nil;apply OnlyN.mk'
   exact Am (by exact Yd<|Yd<|Yd<|Yd<|Yd<|Yd<|FrLe.nil) (by exact HpLe.nil)
  ·have h0 : ¬ n < 0 := by omega
   have h00:¬ 8<n:=by omega
   refine Y1<|Wm ?_;refine Wq Ao ?_;refine Wm ?_;refine Wg Ae ?_;refine Wg Ao ?_;refine Wq AM ?_;refine Wm ?_;refine Wg Ae ?_;refine Wg Ah ?_;refine Wq AM ?_;refine Wm ?_;refine Ws ?_;refine Ws ?_;refine Wq Az ?_;refine Wm ?_;refine Ws ?_;refine Ws ?_;refine Ws ?_;refine Ws ?_;refine Ws ?_;refine Ws ?_;refine Ws ?_;refine Ws ?_;refine Ws ?_;refine Wq Az ?_;apply Y0;refine Ct ?_;refine AWp.region<|Wa ?_;apply AWl.nil;apply OnlyN.mk'
   exact Am (by exact Yd<|Yd<|Yd<|Yd<|Yd<|Yd<|FrLe.nil) (by exact HpLe.nil)
  ·have h0 : ¬ n < 0 := by omega
   have h00:¬ 8<n:=by omega
   have h000:¬ e<0:=by omega
   refine Y1<|Wm ?_;refine Wq Ao ?_;refine Wm ?_;refine Wg Ae ?_;refine Wg Ao ?_;refine Wq AM ?_;refine Wm ?_;refine Wg Ae ?_;refine Wg Ao ?_;refine Wq AM ?_;refine Wm ?_;refine Wg Ae ?_;refine Wg Ah ?_;refine Wq AM ?_;refine Wm ?_;refine Ws ?_;refine Ws ?_;refine Ws ?_;refine Ws ?_;refine Ws ?_;refine Ws ?_;refine Ws ?_;refine Ws ?_;refine Ws ?_;refine Wq Az ?_;apply Y0;refine Ct ?_;refine AWp.region<|Wa ?_;apply AWl.nil;apply OnlyN.mk'
   exact Am (by exact Yd<|Yd<|Yd<|Yd<|Yd<|Yd<|FrLe.nil) (by exact HpLe.nil)
  ·have h0 : ¬ n < 0 := by omega
   have h00:¬ 8<n:=by omega
   have h000:¬ e<0:=by omega
   have h0000:¬ 65535<e:=by omega
   refine Y1<|Wm ?_;refine Wq Ao ?_;refine Wm ?_;refine Wg Ae ?_;refine Wg Ao ?_;refine Wq AM ?_;refine Wm ?_;refine Wg Ae ?_;refine Wg Ao ?_;refine Wq AM ?_;refine Wm ?_;refine Wg Ae ?_;refine Wg Ao ?_;refine Wq AM ?_;refine Wm ?_;refine Wg Ae ?_;refine Wg Ah ?_;refine Wg Ae ?_;refine Wg Ae ?_;refine Wg (Ji (a:=i) (b:=8) (ao rfl) (ao rfl) (by decide)) ?_;refine Wg Fy ?_;refine Wg Ae ?_;refine Wg Ah ?_;refine Wg Az ?_;refine Wq AM ?_;apply Y0;refine Ct ?_;refine AWp.region<|Wa ?_;apply AWl.nil;apply OnlyN.mk'
   exact Am (by exact Yd<|Yd<|Yd<|Yd<|Yd<|Yd<|FrLe.nil) (by exact HpLe.nil)
  ·omega
  ·have h0 : ¬ n < 0 := by omega
   have h00:¬ 8<n:=by omega
   have h000:¬ e<0:=by omega
   have h0000:¬ 65535<e:=by omega
   have h7:¬ 0<e:=by omega
   have h66:¬ 64<e:=by omega
   refine Y1<|Wm ?_;refine Wq Ao ?_;refine Wm ?_;refine Wg Ae ?_;refine Wg Ao ?_;refine Wq AM ?_;refine Wm ?_;refine Wg Ae ?_;refine Wg Ao ?_;refine Wq AM ?_;refine Wm ?_;refine Wg Ae ?_;refine Wg Ao ?_;refine Wq AM ?_;refine Wm ?_;refine Wg Ae ?_;refine Wg Ao ?_;refine Wg Ae ?_;refine Ws ?_;refine Ws ?_;refine Ws ?_;refine Ws ?_;refine Ws ?_;refine Wg AM ?_;refine Wq AM ?_;apply Y0;refine Cf ?_;refine Y1<|Wm ?_;refine Wq Ao ?_;apply Y0;refine Cf ?_;apply BA;apply OnlyN.mk'
   exact Am (by exact Yd<|Yd<|Yd<|Yd<|Yd<|Yd<|FrLe.nil) (by exact HpLe.nil)
  ·have h0 : ¬ n < 0 := by omega
   have h00:¬ 8<n:=by omega
   have h000:¬ e<0:=by omega
   have h0000:¬ 65535<e:=by omega
   have h7:¬ n≤((i % 8:Nat):Int):=by omega
   refine Y1<|Wm ?_;refine Wq Ao ?_;refine Wm ?_;refine Wg Ae ?_;refine Wg Ao ?_;refine Wq AM ?_;refine Wm ?_;refine Wg Ae ?_;refine Wg Ao ?_;refine Wq AM ?_;refine Wm ?_;refine Wg Ae ?_;refine Wg Ao ?_;refine Wq AM ?_;refine Wm ?_;refine Wg Ae ?_;refine Wg Ah ?_;refine Wg Ae ?_;refine Wg Ae ?_;refine Wg (Ji (a:=i) (b:=8) (ao rfl) (ao rfl) (by decide)) ?_;refine Wg Fy ?_;refine Wg Ae ?_;refine Wg Ao ?_;refine Wg Az ?_;refine Wq AM ?_;apply Y0;refine Cf ?_;refine Y1<|Wm ?_;refine Wq Ah ?_;apply Y0;refine Ct ?_;refine AWp.region<|Wa ?_;apply AWl.nil;apply OnlyN.mk'
   exact Am (by exact Yd<|Yd<|Yd<|Yd<|Yd<|Yd<|FrLe.nil) (by exact HpLe.nil)
  ·have h0 : ¬ n < 0 := by omega
   have h00:¬ 8<n:=by omega
   have h000:¬ e<0:=by omega
   have h0000:¬ 65535<e:=by omega
   have h7:¬ n≤((i % 8:Nat):Int):=by omega
   have h66:¬ 64<e:=by omega
   refine Y1<|Wm ?_;refine Wq Ao ?_;refine Wm ?_;refine Wg Ae ?_;refine Wg Ao ?_;refine Wq AM ?_;refine Wm ?_;refine Wg Ae ?_;refine Wg Ao ?_;refine Wq AM ?_;refine Wm ?_;refine Wg Ae ?_;refine Wg Ao ?_;refine Wq AM ?_;refine Wm ?_;refine Wg Ae ?_;refine Wg Ah ?_;refine Wg Ae ?_;refine Wg Ae ?_;refine Wg (Ji (a:=i) (b:=8) (ao rfl) (ao rfl) (by decide)) ?_;refine Wg Fy ?_;refine Wg Ae ?_;refine Wg Ao ?_;refine Wg Az ?_;refine Wq AM ?_;apply Y0;refine Cf ?_;refine Y1<|Wm ?_;refine Wq Ao ?_;apply Y0;refine Cf ?_;apply BA;apply OnlyN.mk'
   exact Am (by exact Yd<|Yd<|Yd<|Yd<|Yd<|Yd<|FrLe.nil) (by exact HpLe.nil)
 apply Yn
 refine Y1<|Wm<|Wm ?_;refine Wq (Ak (c1)) ?_;refine Wm ?_;refine Wq AZ ?_;refine Wq AZ ?_;refine Wa<|Wa<|Y0<|Y1<|Wm<|Wm ?_;refine Wq (Ak (c2)) ?_;refine Wm ?_;refine Wq AZ ?_;refine Wq AZ ?_;refine Wa<|Wa<|Y0<|Y1<|Wm<|Wm ?_;refine Wq (Ak (c3)) ?_;refine Wm ?_;refine Wq AZ ?_;refine Wq AZ ?_;refine Wa<|Wa<|Y0<|Y1<|Wm<|Wm ?_;refine Wq (Ak (c4)) ?_;refine Wm ?_;refine Wq AZ ?_;refine Wq AZ ?_;refine Wa<|Wa<|Y0<|Y1<|Wm<|Wm ?_;refine Wq (Ak (c5)) ?_;refine Wm ?_;refine Wq AZ ?_;refine Wq AZ ?_;refine Wa<|Wa<|Y0<|Y1<|Wm<|Wm ?_;refine Wq (Ak (c6)) ?_;refine Wm ?_;refine Wq AZ ?_;refine Wq AZ ?_;refine Wa<|Wa<|Y0<|Y1 ?_
 refine Ry (sz:=8) (c:=13) (ao rfl) (ao rfl) (Ad rfl) (Ad rfl) rfl (by decide) rfl (by omega) rfl rfl rfl rfl (fun g=>rfl) fun g=>?_
 refine CN (Eg (R:=Bt (List.replicate 13 fun _=>0)) 0 104 rfl rfl rfl rfl fun s' hs v hv=>?_) ?_
 ·exact Mr (R:=List.replicate 13 fun _=>0) (hs _ List.mem_cons_self) (by decide) (by decide) hv
 rcases hws with ⟨h | h,rfl⟩ | ⟨h,h',rfl⟩
 ·have h1 : ¬ 0 ≤ n := by omega
  refine Wm ?_;refine Wq (Ak (c7)) ?_;refine Wm ?_;refine Wq AZ ?_;refine Wq AZ ?_;refine Wa<|Wa<|Y0<|Y1<|Wm ?_;refine Wq Ao ?_;refine Wm ?_;refine Ws ?_;refine Ws ?_;refine Wq AM ?_;refine Wm ?_;refine Ws ?_;refine Ws ?_;refine Wq AM ?_;refine Wm ?_;refine Wg Ae ?_;refine Wg Ah ?_;refine Wg Ae ?_;refine Ws ?_;refine Ws ?_;refine Wg Az ?_;refine Wg Ae ?_;refine Wg Ae ?_;refine Wg Ah ?_;refine Wg Az ?_;refine Wq AM ?_;refine Wa<|Y0<|Y1 ?_;refine Wq (Ak (EE 65 (by decide))) ?_;refine Wm ?_;refine Wq AZ ?_;refine Wq AZ ?_;refine Wa<|Wa<|Y0<|Y1 ?_;refine Wq (Ak (EE (-1) (by decide))) ?_;refine Wm ?_;refine Wq AZ ?_;refine Wq AZ ?_;refine Wa<|Wa<|Y0<|Y1<|Wm<|Wm ?_;refine Wq Ah ?_;refine Wm ?_;refine Wg Ae ?_;refine Wg Ae ?_;refine Wg Ah ?_;refine Wq Az ?_;refine Wm ?_;refine Wg Ae ?_;refine Wg Ae ?_;refine Wg Ah ?_;refine Wq Az ?_;refine Wm ?_;refine Wg Ae ?_;refine Wg Ae ?_;refine Wg Ah ?_;refine Wq Az ?_;refine Wm ?_;refine Wg Ae ?_;refine Wg Ae ?_;refine Wg Ah ?_;refine Wq Az ?_;refine Wm ?_;refine Wg Ae ?_;refine Wg Ae ?_;refine Wg Ah ?_;refine Wq Az ?_;refine Wm ?_;refine Wg Ae ?_;refine Wq Az ?_;refine Wm ?_;refine Wg Ae ?_;refine Wg Ah ?_;refine Wq Az ?_;refine Wm ?_;refine Wg Ae ?_;refine Wg Ah ?_;refine Wq Az ?_;refine Wm ?_;refine Wg Ae ?_;refine Wq Az ?_;refine Wa<|Y0 ?_;apply Av
  exact Yf
 ·have h1 : ¬ n ≤ 8 := by omega
  have h2:0≤n:=by omega
  have h3:¬ n<0:=by omega
  refine Wm ?_;refine Wq (Ak (c7)) ?_;refine Wm ?_;refine Wq AZ ?_;refine Wq AZ ?_;refine Wa<|Wa<|Y0<|Y1<|Wm ?_;refine Wq Ah ?_;refine Wm ?_;refine Wg Ae ?_;refine Wg Ao ?_;refine Wq Az ?_;refine Wm ?_;refine Ws ?_;refine Ws ?_;refine Wq AM ?_;refine Wm ?_;refine Wg Ae ?_;refine Wg Ao ?_;refine Wg Ae ?_;refine Wg Ae ?_;refine Wg Ah ?_;refine Wg AM ?_;refine Wg Ae ?_;refine Wg Ae ?_;refine Wg Ah ?_;refine Wg Az ?_;refine Wq AM ?_;refine Wa<|Y0<|Y1 ?_;refine Wq (Ak (EE 65 (by decide))) ?_;refine Wm ?_;refine Wq AZ ?_;refine Wq AZ ?_;refine Wa<|Wa<|Y0<|Y1 ?_;refine Wq (Ak (EE (-1) (by decide))) ?_;refine Wm ?_;refine Wq AZ ?_;refine Wq AZ ?_;refine Wa<|Wa<|Y0<|Y1<|Wm<|Wm ?_;refine Wq Ah ?_;refine Wm ?_;refine Wg Ae ?_;refine Wg Ae ?_;refine Wg Ah ?_;refine Wq Az ?_;refine Wm ?_;refine Wg Ae ?_;refine Wg Ae ?_;refine Wg Ah ?_;refine Wq Az ?_;refine Wm ?_;refine Wg Ae ?_;refine Wg Ae ?_;refine Wg Ah ?_;refine Wq Az ?_;refine Wm ?_;refine Wg Ae ?_;refine Wg Ae ?_;refine Wg Ah ?_;refine Wq Az ?_;refine Wm ?_;refine Wg Ae ?_;refine Wg Ae ?_;refine Wg Ah ?_;refine Wq Az ?_;refine Wm ?_;refine Wg Ae ?_;refine Wq Az ?_;refine Wm ?_;refine Wg Ae ?_;refine Wg Ah ?_;refine Wq Az ?_;refine Wm ?_;refine Wg Ae ?_;refine Wg Ah ?_;refine Wq Az ?_;refine Wm ?_;refine Wg Ae ?_;refine Wq Az ?_;refine Wa<|Y0 ?_;apply Av
  exact Yf
 ·refine Wm ?_; refine Wq (Ak (c7)) ?_; refine Wm ?_; refine Wq AZ ?_; refine Wq AZ ?_; refine Wa<|Wa ?_; apply AWl.nil; refine Yn<|Aa<|AWp.region<|Wm ?_; refine Wq Ah ?_; refine Wm ?_; refine Wg Ae ?_; refine Wg Ah ?_; refine Wq Az ?_; refine Wm ?_; refine Wg Ae ?_; refine Wg Ah ?_; refine Wq Az ?_; refine Wm ?_; refine Ws ?_; refine Ws ?_; refine Ws ?_; refine Ws ?_; refine Ws ?_; refine Ws ?_; refine Ws ?_; refine Ws ?_; refine Ws ?_; refine Ws ?_; refine Wq Az ?_; refine Wa ?_; apply AWl.nil; refine Yn<|Aa<|AWp.region ?_; refine Wq (Ak (EE 65 (by decide))) ?_; refine Wm ?_; refine Wq AZ ?_; refine Wq AZ ?_; refine Wa<|Wa ?_; apply AWl.nil; refine Yn<|Aa<|AWp.region ?_; refine Wq (Ak (EE (-1) (by decide))) ?_; refine Wm ?_; refine Wq AZ ?_; refine Wq AZ ?_; refine Wa<|Wa ?_; apply AWl.nil; refine Yn<|Aa<|AWp.region<|Wm<|Wm ?_; refine Wq Ah ?_; refine Wm ?_; refine Wg Ae ?_; refine Wg Ae ?_; refine Wg Ah ?_; refine Wq Az ?_; refine Wm ?_; refine Wg Ae ?_; refine Wg Ae ?_; refine Wg Ah ?_; refine Wq Az ?_; refine Wm ?_; refine Wg Ae ?_; refine Wg Ae ?_; refine Wg Ah ?_; refine Wq Az ?_; refine Wm ?_; refine Wg Ae ?_; refine Wg Ae ?_; refine Wg Ah ?_; refine Wq Az ?_; refine Wm ?_; refine Wg Ae ?_; refine Wg Ae ?_; refine Wg Ah ?_; refine Wq Az ?_; refine Wm ?_; refine Wg Ae ?_; refine Wq Az ?_; refine Wm ?_; refine Wg Ae ?_; refine Wg Ah ?_; refine Wq Az ?_; refine Wm ?_; refine Wg Ae ?_; refine Wg Ah ?_; refine Wq Az ?_; refine Wm ?_; refine Wg Ae ?_; refine Wq Az ?_; refine Wa ?_; apply AWl.nil; apply Yn; apply Av
  exact Yf
theorem Gi (k : Nat) (e:Int) (j:Nat):Lp k e j = if j = k then e else 0:=rfl
theorem Lb {a : Nat→Int} {n:Nat} (h:∀ j,j<8→n≤j→a j≤0):BC a 8 / 2 ^ n = 0:=by
 refine Nat.div_eq_of_lt (Nat.lt_pow_two_of_testBit _ fun i hi=>?_)
 by_cases h8:i<8
 ·rw [DY a 8 i h8]
  have:=h i h8 hi
  simp;omega
 ·exact Nat.testBit_lt_two_pow (Nat.lt_of_lt_of_le (Df a 8) (Nat.pow_le_pow_right (by decide) (by omega)))
theorem Tg {a : Nat→Int} {n j:Nat} (hj:j<8) (hn:n≤j) (ha:0<a j):BC a 8 / 2 ^ n ≠ 0:=fun h=>by
 have h1:(BC a 8).testBit j = true:=by rw [DY a 8 j hj];simpa using ha
 have h2:BC a 8<2 ^ n:=by
  rcases Nat.lt_or_ge (BC a 8) (2 ^ n) with h3 | h3
  ·exact h3
  ·have := Nat.div_pos h3 (Nat.pow_pos (by decide))
   omega
 rw [Nat.testBit_lt_two_pow (Nat.lt_of_lt_of_le h2 (Nat.pow_le_pow_right (by decide) hn))] at h1
 cases h1
theorem HilC.poly {l : Af} {n N:Nat} {f:Nat→Int} (hc:HilC l n N f) (hn:n≤8):∃ x,Abs Tryz.prog 26 [Bt l,ex (.int .i64 (n:Nat))] (Cs [x,ex (.int .i64 0)]):=by
 by_cases h:Fl l n≤0
 ·exact ⟨_,PV l n _ h hc.ck hc.cd⟩
 ·obtain ⟨Dm, hDm⟩ : ∃ Dm : Nat, Fl l n = Dm := ⟨(Fl l n).toNat, by omega⟩
  have hd:=hc.dle
  have cd:=hc.cd
  rw [hDm] at cd
  have hM:=Rj N f (n - Dm)
  have hN:=hc.nle
  exact ⟨_,LV l n Dm _ _ (by omega) (by omega) (by omega) (hc.qb Dm hDm) hc.ck cd (hc.cc Dm hDm)⟩
theorem RK {n : Nat} (hn:n≤8):(2:Int) ^ 1*(((64*1:Nat):Int)+1) ^ (n+1)≤9223372036854775807:=by
 have h:65 ^ (n+1)≤65 ^ 9:=Nat.pow_le_pow_right (by decide) (by omega)
 have h2:(2:Int) ^ 1*(((64*1:Nat):Int)+1) ^ (n+1) = ((2*65 ^ (n+1):Nat):Int):=by
  push_cast
  rfl
 have h3:2*65 ^ (n+1)≤2*65 ^ 9:=Nat.mul_le_mul_left 2 h
 have h4:2*65 ^ 9≤9223372036854775807:=by decide
 rw [h2]
 omega
theorem Sq {n : Nat} (hn:n≤8):(4096:Int)*(((1:Nat):Int)+1) ^ n≤9223372036854775807:=by
 have h:2 ^ n≤2 ^ 8:=Nat.pow_le_pow_right (by decide) hn
 have h2:(4096:Int)*(((1:Nat):Int)+1) ^ n = ((4096*2 ^ n:Nat):Int):=by
  push_cast
  rfl
 rw [h2]
 omega
theorem VQ (k : Nat) (e:Int) (n:Nat) (hk:k<8) (hn:n≤8) (h0:0≤e) (h1:e≤64) (h2:e = 0∨k<n):ErrC [Lp k e] n 0:=by
 have hin:∀ y∈[Lp k e],In8 y 0 64:=fun y hy j hj=>by
  rw [List.mem_singleton.1 hy,Gi]
  split <;> omega
 have hsup:∀ y∈[Lp k e],SupN n y:=fun y hy j hj=>by
  rw [List.mem_singleton.1 hy,Gi]
  split
  ·exact ⟨h0,fun h=>by omega⟩
  ·exact ⟨Int.le_refl 0,fun _=>rfl⟩
 have hdg:∀ y∈[Lp k e],Cx 8 0 y≤64:=fun y hy=>by
  rw [List.mem_singleton.1 hy]
  have key:∀ (m i:Nat),Cx m i (Lp k e)≤if i≤k then 64 else 0:=by
   intro m
   induction m with
   | zero=>intro i;show 0≤_;omega
   | succ m ih =>
    intro i
    have h:=ih (i+1)
    rw [Cx,Gi]
    by_cases e1:i = k
    ·subst e1
     rw [if_pos rfl]
     rw [if_neg (by omega)] at h
     rw [if_pos (Nat.le_refl _)]
     omega
    ·rw [if_neg e1]
     by_cases h3:i≤k
     ·rw [if_pos (by omega)] at h
      rw [if_pos h3]
      show 0+_≤64
      omega
     ·rw [if_neg (by omega)] at h
      rw [if_neg h3]
      show 0+_≤0
      omega
  have:=key 8 0
  rwa [if_pos (Nat.zero_le k)] at this
 obtain ⟨N,f,hc⟩:=MC 1 64 n [Lp k e] hn (by decide) (by simp) (by decide) hin hsup hdg (RK hn)
 exact ⟨⟨_,LW _ n N f hc.ck hc.cn⟩,⟨_,Ma _ n 1 N f 4096 hn (by decide) hc.ck hc.cn hc.num.far (fun t _=>hc.bnd t) (Sq hn)⟩,⟨_,LX _ n hn (by simp) hc.ck⟩,⟨_,LZ _ n _ hc.ck hc.cd⟩,⟨_,OQ _ n _ hc.ck hc.cg⟩,hc.poly hn⟩
theorem TZ (n : Int) (i:Nat) (e:Int) (hn0:-9223372036854775808≤n∧n≤9223372036854775807) (hi:i<256) (he:-9223372036854775808≤e∧e≤9223372036854775807):Abs Tryz.prog 10 [ex (.int .i64 n),ex (.int .u8 (i:Nat)),ex (.int .i64 e)] (ex (.bool true)):=by
 have hi8:i % 8<8:=Nat.mod_lt _ (by decide)
 by_cases hn:n<0∨8<n
 ·refine GJ n e i 1 1 hi he hn0 (GC (by decide) (LG _ n hn hn0)) ⟨_, LN _ n 1 (by decide) (LG _ n hn hn0)⟩ (.inl ⟨rfl, ?_⟩) (.inl ⟨hn, rfl⟩)
  rcases hn with h | h
  ·exact .inl h
  ·exact .inr (.inl h)
 ·obtain ⟨m, rfl⟩ : ∃ m : Nat, n = m := ⟨n.toNat, by omega⟩
  have hm:m≤8:=by omega
  have hst:∃ x,Abs Tryz.prog 28 [Bt (List.replicate 13 fun _=>0),ex (.int .i64 (m:Nat))] (Cs [x,ex (.int .i64 2)]):=by
   refine ⟨_,LN _ m 2 (by decide) (GM (List.replicate 13 fun _=>0) m 13 0 2 hm (by decide) (by decide) (fun k hk=>?_) (Nat.zero_le _) (.inr ⟨rfl,.inl ⟨by decide,rfl⟩⟩))⟩
   have e0:Bc (List.replicate 13 fun _=>(0:Int)) k = fun _=>0:=by
    rw [Bc,List.getD_eq_getElem?_getD,List.getElem?_replicate,if_pos hk]
    rfl
   rw [e0]
   exact ⟨fun j _=>by show (0:Int)≤0∧(0:Int)≤65535;omega,Lb fun j _ _=>Int.le_refl 0⟩
  have ws:((m:Int)<0∨8<(m:Int))∧(2:Int) = 1∨0≤(m:Int)∧(m:Int)≤8∧(2:Int) = 2:=.inr ⟨by omega,by omega,rfl⟩
  have e1:Bc [Lp (i % 8) e] 0 = Lp (i % 8) e:=rfl
  by_cases hbad:e<0∨65535<e∨(0<e∧e≤65535∧(m:Int)≤((i % 8:Nat):Int))
  ·refine GJ m e i 1 2 hi he hn0 (GC (by decide) (GM [Lp (i % 8) e] m 0 0 1 hm (by simp) (Nat.zero_le _) (fun k hk => by omega) (Nat.zero_le _) (.inl ⟨by simp, fun ⟨h1, h2⟩ => ?_, rfl⟩))) hst (.inl ⟨rfl, .inr (.inr ⟨by omega, by omega, hbad⟩)⟩) ws
   rw [e1] at h1 h2
   have h3:=h1 (i % 8) hi8
   rw [Gi,if_pos rfl] at h3
   rcases hbad with h | h | ⟨h4,_,h5⟩
   ·omega
   ·omega
   ·exact Tg (a:=Lp (i % 8) e) hi8 (by omega) (by rw [Gi,if_pos rfl];exact h4) h2
  ·have h0 : 0 ≤ e := by omega
   have h1:e≤65535:=by omega
   have h2:e = 0∨(0<e∧((i % 8:Nat):Int)<(m:Int)):=by omega
   have hok:Zt m (Bc [Lp (i % 8) e] 0):=by
    rw [e1]
    refine ⟨fun j hj=>by rw [Gi];split <;> omega,Lb fun j hj hmj=>?_⟩
    rw [Gi]
    split <;> omega
   have hok1:∀ k,k<1→Zt m (Bc [Lp (i % 8) e] k):=fun k hk=>by
    have hk0:k = 0:=by omega
    rw [hk0]
    exact hok
   by_cases h64:64<e
   ·refine GJ m e i 2 2 hi he hn0 (GC (by decide) (GM [Lp (i % 8) e] m 1 0 2 hm (by simp) (by simp) hok1 (Nat.zero_le _) (.inr ⟨rfl, .inr ⟨by simp, fun k hk => by omega, .inl ⟨by simp, ?_, rfl⟩⟩⟩))) hst (.inr ⟨by omega, by omega, h0, h1, h2, .inl ⟨h64, rfl⟩⟩) ws
    rw [e1]
    obtain ⟨j,h3,h4,h5⟩:=Pr (Lp (i % 8) e) 7
    have h6:=h5 (i % 8) (by omega)
    rw [Gi,if_pos rfl] at h6
    omega
   ·exact GJ m e i 0 2 hi he hn0 (VQ (i % 8) e m hi8 hm h0 (by omega) (by omega)) hst (.inr ⟨by omega,by omega,h0,h1,h2,.inr ⟨by omega,rfl⟩⟩) ws
end Go.Proofs.YtialdhnijjnpaaaGreat
