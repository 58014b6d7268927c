/- Part 26 of the proof of hilbertStandards_holds. No condition. -/
import Derived.Test.YtialdhnijjnpaaaGreatQf18
import Derived.Test.YtialdhnijjnpaaaGreatQf21
import Derived.Test.YtialdhnijjnpaaaGreatQf24
import Derived.Test.YtialdhnijjnpaaaGreatQf25
set_option linter.unusedSimpArgs false
set_option linter.unusedVariables false
set_option maxRecDepth 100000
set_option maxHeartbeats 8000000
namespace Go.Proofs.YtialdhnijjnpaaaGreat
open Go.RowKit
def mz : Nat→Int:=fun _=>0
def ZQ : Nat→Int
 | 0=>2
 | _=>0
def WH : Nat→Int
 | 0=>1
 | 1=>1
 | _=>0
def mx : Nat→Int
 | 0=>1
 | _=>0
def my2 : Nat→Int
 | 0=>0
 | 1=>2
 | _=>0
def my : Nat→Int
 | 0=>0
 | 1=>1
 | _=>0
abbrev lA : Af:=[ZQ,WH]
abbrev lB : Af:=[mx,my2]
theorem j8 {p : Nat→Prop} (h0:p 0) (h1:p 1) (h2:p 2) (h3:p 3) (h4:p 4) (h5:p 5) (h6:p 6) (h7:p 7) (j:Nat) (hj:j<8):p j:=by
 have:j = 0∨j = 1∨j = 2∨j = 3∨j = 4∨j = 5∨j = 6∨j = 7:=by omega
 rcases this with rfl | rfl | rfl | rfl | rfl | rfl | rfl | rfl <;> assumption
theorem IY : ∀ y∈lA,In8 y 0 2∧SupN 2 y∧BN 8 0 y≤2:=fun y hy=>by
 simp only [List.mem_cons,List.not_mem_nil,or_false] at hy
 rcases hy with rfl | rfl
 ·exact ⟨j8 (by decide) (by decide) (by decide) (by decide) (by decide) (by decide) (by decide) (by decide),j8 (by decide) (by decide) (by decide) (by decide) (by decide) (by decide) (by decide) (by decide),by decide⟩
 ·exact ⟨j8 (by decide) (by decide) (by decide) (by decide) (by decide) (by decide) (by decide) (by decide),j8 (by decide) (by decide) (by decide) (by decide) (by decide) (by decide) (by decide) (by decide),by decide⟩
theorem Oh : ∀ y∈lB,In8 y 0 2∧SupN 2 y∧BN 8 0 y≤2:=fun y hy=>by
 simp only [List.mem_cons,List.not_mem_nil,or_false] at hy
 rcases hy with rfl | rfl
 ·exact ⟨j8 (by decide) (by decide) (by decide) (by decide) (by decide) (by decide) (by decide) (by decide),j8 (by decide) (by decide) (by decide) (by decide) (by decide) (by decide) (by decide) (by decide),by decide⟩
 ·exact ⟨j8 (by decide) (by decide) (by decide) (by decide) (by decide) (by decide) (by decide) (by decide),j8 (by decide) (by decide) (by decide) (by decide) (by decide) (by decide) (by decide) (by decide),by decide⟩
theorem In8.big {y : Nat→Int} {a b:Int} (h:In8 y 0 a) (hab:a≤b):In8 y 0 b:=fun j hj=>by
 have:=h j hj
 omega
theorem A0Y : ∃ N f,HilC lA 2 N f:=Jz 2 2 2 lA (by decide) (by decide) (by decide) (by decide) (fun y hy=>(IY y hy).1.big (by decide)) (fun y hy=>(IY y hy).2.1) (fun y hy=>(IY y hy).2.2) (by decide)
theorem A0X : ∃ N f,HilC lB 2 N f:=Jz 2 2 2 lB (by decide) (by decide) (by decide) (by decide) (fun y hy=>(Oh y hy).1.big (by decide)) (fun y hy=>(Oh y hy).2.1) (fun y hy=>(Oh y hy).2.2) (by decide)
theorem SF (q : Nat→Int):IsMin [q] [q]:=⟨List.pairwise_singleton _ _,fun x=>⟨fun h=>⟨h,fun y hy hd=>by
 rw [List.mem_singleton.1 hy] at hd ⊢
 obtain ⟨a,ha,e⟩:=h
 rwa [List.mem_singleton.1 ha] at e⟩,fun h=>h.1⟩⟩
theorem SG : IsMin [] []:=⟨List.Pairwise.nil,fun x=>⟨fun ⟨a,ha,_⟩=>(by cases ha),fun ⟨⟨a,ha,_⟩,_⟩=>(by cases ha)⟩⟩
def fA : Nat→Int
 | 0=>1
 | 2=>-2
 | 3=>1
 | _=>0
theorem Rk (a : Nat→Int) (N:Nat) (h8:SupN 8 a) (hN:BN 8 0 a+1≤N):NumL [a] (HJ (fun d=>dlt d - Gg (BN 8 0 a) dlt d) N) fun d=>dlt d - Gg (BN 8 0 a) dlt d :=
 NumL.cons NumL.nil NumL.nil SG (fun y hy=>by cases hy) h8 N (by omega) (.inl hN)
theorem Wk {n : Nat} {a:Nat→Int} (h:SupN n a):SupN 8 a:=fun j hj=>⟨(h j hj).1,fun h=>by omega⟩
theorem A0U : ∃ F:Nat→Int,NumL lA 4 F∧∀ i,i<4→F i = fA i:=by
 have h1:=Rk WH 3 (Wk (IY WH (by simp)).2.1) (by decide)
 have h2:=Rk (qM WH ZQ) 2 (fun j hj=>⟨XZ WH ZQ (fun j hj=>((IY WH (by simp)).2.1 j hj).1) j hj,fun h=>by omega⟩) (by decide)
 have h3:=NumL.cons (rest:=[WH]) (R:=[qM WH ZQ]) (a:=ZQ) h1 h2 (SF _) (fun y hy=>by rw [List.mem_singleton.1 hy];exact Wk (IY WH (by simp)).2.1) (Wk (IY ZQ (by simp)).2.1) 4 (by decide) (.inl (by decide))
 refine ⟨_,h3,fun i hi=>?_⟩
 have:i = 0∨i = 1∨i = 2∨i = 3:=by omega
 rcases this with rfl | rfl | rfl | rfl <;> decide
theorem Abs.le_ {P : Program} {f:FuncId} {ds:List D} {r r':D} (h:Abs P f ds r) (hr:D.le r r'):Abs P f ds r' :=
 ⟨h.1,fun s vs h1 h2 h3=>(h.2 s vs h1 h2 h3).mono fun e w' ⟨v,he,s',hw,hl,hv⟩=>⟨v,he,s',hw,hl,hr s' v hv⟩⟩
theorem dmA : Fy lA 2 = 1:=by decide +kernel
theorem dmB : Fy lB 2 = 0:=by decide +kernel
theorem mxA : YM lA (2 ^ 2) = [2]:=by decide +kernel
theorem A0S : (Abs Tryz.prog 14 [BF lA,ex (.int .i64 2)] (DP [nD 4 fA,ex (.int .i64 0)]))∧(Abs Tryz.prog 22 [BF lA,ex (.int .i64 2)] (DP [ex (.int .i64 1),ex (.int .i64 0)]))∧(Abs Tryz.prog 24 [BF lA,ex (.int .i64 2)] (DP [ex (.int .i64 1),ex (.int .i64 0)]))∧(∃ F:Nat→Rat,F 0 = ((1:Int):Rat)∧Abs Tryz.prog 26 [BF lA,ex (.int .i64 2)] (DP [Ed 1 F,ex (.int .i64 0)]))∧(Abs Tryz.prog 16 [BF lA,ex (.int .i64 2),ex (.int .i64 3)] (DP [ex (.int .i64 1),ex (.int .i64 0)]))∧(Abs Tryz.prog 18 [BF lA,ex (.int .i64 2)] (DP [Sh [2],ex (.int .i64 0)]))∧(Abs Tryz.prog 28 [BF lA,ex (.int .i64 2)] (DP [ex (.slice none 0 0),ex (.int .i64 160)])):=by
 obtain ⟨N,f,hc⟩:=A0Y
 obtain ⟨F,hF,hFv⟩:=A0U
 have h8:∀ a∈lA,SupN 8 a:=fun a ha=>Wk (IY a ha).2.1
 obtain ⟨rfl,rfl⟩:=hc.num.inj hF h8
 have e0:f = fun i=>fA i:=funext fun i=>by
  by_cases hi:i<4
  ·exact hFv i hi
  ·rw [hF.far i (by omega)]
   match i,hi with
   | i+4,_=>rfl
 have e0:f = fA:=e0
 subst e0
 have d1:Fy lA 2 = ((1:Nat):Int):=dmA
 have hq:=hc.qb 1 d1
 have hcc:=hc.cc 1 d1
 have hcd:=hc.cd
 rw [dmA] at hcd
 have hcg:=hc.cg
 have eg:WZ lA 2 4 fA = 1:=by
  unfold WZ
  rw [dmA]
  decide +kernel
 rw [eg] at hcg
 refine ⟨Tq lA 2 4 fA hc.ck hc.cn,Tu lA 2 1 hc.ck hcd,VS lA 2 1 hc.ck hcg,?_,?_,?_,SZ lA 2 1 (by decide) hc.ck hcd⟩
 ·have hp := Tn lA 2 1 (cN 4 fA (2 - 1)).1 (CD (2 - 1) fA) (by decide) (by decide) (by decide) hq hc.ck hcd hcc
  have e1:(pH (CD (2 - 1) fA) 1 (cN 4 fA (2 - 1)).1).1 = 1:=by decide +kernel
  rw [e1] at hp
  exact ⟨_,by decide +kernel,hp⟩
 ·have hp := Mn lA 2 3 4 fA 4096 (by decide) (by decide) hc.ck hc.cn hc.num.far (fun t _ => hc.bnd t) (by decide)
  have e1:CD 2 fA 3 = 1:=by decide +kernel
  rw [e1] at hp
  exact hp
 ·have hp := Ts lA 2 (by decide) (by decide) hc.ck
  rw [mxA] at hp
  exact hp
theorem A0Q : IsStd lB 2 [mz,my]:=by
 refine ⟨?_,fun x=>⟨fun ⟨a,ha,e⟩=>?_,fun hx=>?_⟩⟩
 ·rw [List.pairwise_cons]
  refine ⟨fun b hb=>?_,List.pairwise_singleton _ _⟩
  rw [List.mem_singleton.1 hb]
  decide +kernel
 ·simp only [List.mem_cons,List.not_mem_nil,or_false] at ha
  have key:StdX lB 2 a:=by
   rcases ha with rfl | rfl
   ·exact ⟨j8 (by decide) (by decide) (by decide) (by decide) (by decide) (by decide) (by decide) (by decide),by decide +kernel⟩
   ·exact ⟨j8 (by decide) (by decide) (by decide) (by decide) (by decide) (by decide) (by decide) (by decide),by decide +kernel⟩
  exact key.congr e
 ·have h1:¬ Dv mx x:=fun hd=>by
   have:=(CR (l:=lB)).2 ⟨mx,List.mem_cons_self,hd⟩
   rw [hx.2] at this
   cases this
  have h2:¬ Dv my2 x:=fun hd=>by
   have:=(CR (l:=lB)).2 ⟨my2,List.mem_cons_of_mem _ List.mem_cons_self,hd⟩
   rw [hx.2] at this
   cases this
  have hn:∀ j,j<8→0≤x j:=fun j hj=>(hx.1 j hj).1
  have hz:∀ j,j<8→2≤j→x j = 0:=fun j hj h=>(hx.1 j hj).2 h
  have h0:x 0 = 0:=by
   refine Classical.byContradiction fun hne=>h1 fun j hj=>?_
   by_cases e:j = 0
   ·subst e
    have:=hn 0 (by omega)
    show (1:Int)≤x 0
    omega
   ·have:mx j = 0:=by
     match j,e with
     | j+1,_=>rfl
    rw [this]
    exact hn j hj
  have h3:x 1<2:=by
   refine Classical.byContradiction fun hne=>h2 fun j hj=>?_
   by_cases e:j = 1
   ·subst e
    show (2:Int)≤x 1
    omega
   ·have:my2 j = 0:=by
     match j,e with
     | 0,_=>rfl
     | j+2,_=>rfl
    rw [this]
    exact hn j hj
  have h4:=hn 1 (by omega)
  by_cases h5:x 1 = 0
  ·exact ⟨mz, by simp, fun j hj => by
    show 0 = x j
    by_cases e:2≤j
    ·exact (hz j hj e).symm
    ·have : j = 0 ∨ j = 1 := by omega
     rcases this with rfl | rfl <;> omega⟩
  ·refine ⟨my, by simp, fun j hj => ?_⟩
   match j,hj with
   | 0,_=>exact h0.symm
   | 1,_=>show (1:Int) = x 1;omega
   | j+2,hj=>exact (hz (j+2) hj (by omega)).symm
theorem A0R : Abs Tryz.prog 28 [BF lB,ex (.int .i64 2)] (DP [BF [mz,my],ex (.int .i64 0)]):=by
 obtain ⟨N,f,hc⟩:=A0X
 have h:=OR (E:=1) hc (by decide) (by decide) (fun y hy=>(Oh y hy).2.1) (fun a ha j hj=>((Oh a ha).1 j hj).2) (by decide) (by rw [dmB];decide) (by decide)
 exact h.le_ (CC (fun s v ⟨S,hS,hv⟩=>by rw [← hS.same A0Q];exact hv) (D.le.refl _))
theorem PD : Abs Tryz.prog 11 [] (ex (.bool true)):=by
 obtain ⟨c1,c2,c3,⟨F,hF,c4⟩,c5,c6,c8⟩:=A0S
 have c7:=A0R
 have cq:Abs Tryz.prog 41 [BK (CL (F 0)),BK (CL q1)] (ex (.bool true)):=by
  have:=Qf (F 0) q1
  rwa [decide_eq_true hF] at this
 refine Ab Tryz.func11 fun s0=>?_
 rw [Tryz.ntmps11]
 refine Y1<|Wa<|Y0<|Y1 ?_;(refine Di rfl rfl ?_;(refine EM (Ac rfl) (Ac rfl) rfl rfl ?_;(repeat ((first | refine ⟨_,BA (ao rfl),?_⟩ | refine ⟨_,Po rfl,?_⟩);refine ⟨_,rfl,?_⟩));refine ⟨_,rfl,?_⟩));(refine Di rfl rfl ?_;(refine EM (Ac rfl) (Ac rfl) rfl rfl ?_;(repeat ((first | refine ⟨_,BA (ao rfl),?_⟩ | refine ⟨_,Po rfl,?_⟩);refine ⟨_,rfl,?_⟩));refine ⟨_,rfl,?_⟩));(refine Di rfl rfl ?_;(refine DK (Ac rfl) (Ac rfl) rfl rfl rfl rfl rfl ?_;(repeat ((first | refine ⟨_,BA (ao rfl),?_⟩ | refine ⟨_,Po rfl,?_⟩);refine ⟨_,rfl,?_⟩));refine ⟨_,rfl,?_⟩));refine Wa<|Y0<|Y1<|Wm ?_;refine Wq (Am (c1)) ?_;refine Wm ?_;refine Wq Cu ?_;refine Wq Cu ?_;refine Wa<|Wa<|Y0<|Y1<|Wm ?_;refine Wq (Am (c2)) ?_;refine Wm ?_;refine Wq Cu ?_;refine Wq Cu ?_;refine Wa<|Wa<|Y0<|Y1<|Wm ?_;refine Wq (Am (c3)) ?_;refine Wm ?_;refine Wq Cu ?_;refine Wq Cu ?_;refine Wa<|Wa<|Y0<|Y1<|Wm ?_;refine Wq (Am (c4)) ?_;refine Wm ?_;refine Wq Cu ?_;refine Wq Cu ?_;refine Wa<|Wa<|Y0<|Y1<|Wm ?_;refine Wq (Am (c5)) ?_;refine Wm ?_;refine Wq Cu ?_;refine Wq Cu ?_;refine Wa<|Wa<|Y0<|Y1<|Wm ?_;refine Wq (Am (c6)) ?_;refine Wm ?_;refine Wq Cu ?_;refine Wq Cu ?_;refine Wa<|Wa<|Y0<|Y1 ?_;(refine Di rfl rfl ?_;(refine EM (Ac rfl) (Ac rfl) rfl rfl ?_;(repeat ((first | refine ⟨_,BA (ao rfl),?_⟩ | refine ⟨_,Po rfl,?_⟩);refine ⟨_,rfl,?_⟩));refine ⟨_,rfl,?_⟩));(refine Di rfl rfl ?_;(refine EM (Ac rfl) (Ac rfl) rfl rfl ?_;(repeat ((first | refine ⟨_,BA (ao rfl),?_⟩ | refine ⟨_,Po rfl,?_⟩);refine ⟨_,rfl,?_⟩));refine ⟨_,rfl,?_⟩));(refine Di rfl rfl ?_;(refine DK (Ac rfl) (Ac rfl) rfl rfl rfl rfl rfl ?_;(repeat ((first | refine ⟨_,BA (ao rfl),?_⟩ | refine ⟨_,Po rfl,?_⟩);refine ⟨_,rfl,?_⟩));refine ⟨_,rfl,?_⟩));refine Wq (Am (c7)) ?_;refine Wm ?_;refine Wq Cu ?_;refine Wq Cu ?_;refine Wa<|Wa<|Y0<|Y1<|Wm ?_;refine Wq (Am (c8)) ?_;refine Wm ?_;refine Wq Cu ?_;refine Wq Cu ?_;refine Wa<|Wa<|Y0<|Y1<|Wm ?_;refine Wq Ar ?_;refine Wm ?_;refine Wg Ae ?_;refine Wg Ar ?_;refine Wq AU ?_;refine Wm ?_;refine Wg Ae ?_;refine Wg Ar ?_;refine Wq AU ?_;refine Wm ?_;refine Wg Ae ?_;refine Wg Ar ?_;refine Wq AU ?_;refine Wm ?_;refine Wg Ae ?_;refine Wg Ar ?_;refine Wq AU ?_;refine Wm ?_;refine Wg Ae ?_;refine Wg Ar ?_;refine Wq AU ?_;refine Wm ?_;refine Wg Ae ?_;refine Wg Ar ?_;refine Wq AU ?_;refine Wm ?_;refine Wg Ae ?_;refine Wg Ar ?_;refine Wq AU ?_;refine Wa<|Y0<|Aa ?_
 refine Dr [[],[(94,0)],[],[],[(96,2),(97,3)],[(95,1),(98,4)],[(99,5)],[],[(101,7)],[(100,6),(102,8)],[(103,9)],[],[(105,11)],[(104,10),(106,12)],[(107,13)],[],[(109,15)],[(110,16)],[(108,14),(111,17)],[(112,18)],[],[(114,20)],[(115,21)],[],[(116,22),(117,23)],[(113,19),(118,24)],[(119,25)],[],[(121,27)],[(120,26),(122,28)],[(123,29)],[],[],[(125,31),(126,32)],[(124,30),(127,33)],[(128,34)],[],[],[],[(131,37),(132,38)],[(130,36),(133,39)],[(129,35),(134,40)]] [[],[0],[0,1],[0,1],[0,1,2,3],[0,1,2,3,4],[0,1,2,3,4,5],[0,1,2,3,4,5,6],[0,1,2,3,4,5,6,7],[0,1,2,3,4,5,6,7,8],[0,1,2,3,4,5,6,7,8,9],[0,1,2,3,4,5,6,7,8,9,10],[0,1,2,3,4,5,6,7,8,9,10,11],[0,1,2,3,4,5,6,7,8,9,10,11,12],[0,1,2,3,4,5,6,7,8,9,10,11,12,13],[0,1,2,3,4,5,6,7,8,9,10,11,12,13,14],[0,1,2,3,4,5,6,7,8,9,10,11,12,13,14,15],[0,1,2,3,4,5,6,7,8,9,10,11,12,13,14,15,16],[0,1,2,3,4,5,6,7,8,9,10,11,12,13,14,15,16,17],[0,1,2,3,4,5,6,7,8,9,10,11,12,13,14,15,16,17,18],[0,1,2,3,4,5,6,7,8,9,10,11,12,13,14,15,16,17,18,19],[0,1,2,3,4,5,6,7,8,9,10,11,12,13,14,15,16,17,18,19,20],[0,1,2,3,4,5,6,7,8,9,10,11,12,13,14,15,16,17,18,19,20,21],[0,1,2,3,4,5,6,7,8,9,10,11,12,13,14,15,16,17,18,19],[0,1,2,3,4,5,6,7,8,9,10,11,12,13,14,15,16,17,18,19,20,21,22,23],[0,1,2,3,4,5,6,7,8,9,10,11,12,13,14,15,16,17,18,19,20,21,22,23,24],[0,1,2,3,4,5,6,7,8,9,10,11,12,13,14,15,16,17,18,19,20,21,22,23,24,25],[0,1,2,3,4,5,6,7,8,9,10,11,12,13,14,15,16,17,18,19,20,21,22,23,24,25,26],[0,1,2,3,4,5,6,7,8,9,10,11,12,13,14,15,16,17,18,19,20,21,22,23,24,25,26,27],[0,1,2,3,4,5,6,7,8,9,10,11,12,13,14,15,16,17,18,19,20,21,22,23,24,25,26,27,28],[0,1,2,3,4,5,6,7,8,9,10,11,12,13,14,15,16,17,18,19,20,21,22,23,24,25,26,27,28,29],[0,1,2,3,4,5,6,7,8,9,10,11,12,13,14,15,16,17,18,19,20,21,22,23,24,25,26,27,28,29,30],[0,1,2,3,4,5,6,7,8,9,10,11,12,13,14,15,16,17,18,19,20,21,22,23,24,25,26,27,28,29,30],[0,1,2,3,4,5,6,7,8,9,10,11,12,13,14,15,16,17,18,19,20,21,22,23,24,25,26,27,28,29,30,31,32],[0,1,2,3,4,5,6,7,8,9,10,11,12,13,14,15,16,17,18,19,20,21,22,23,24,25,26,27,28,29,30,31,32,33],[0,1,2,3,4,5,6,7,8,9,10,11,12,13,14,15,16,17,18,19,20,21,22,23,24,25,26,27,28,29,30,31,32,33,34],[0,1,2,3,4,5,6,7,8,9,10,11,12,13,14,15,16,17,18,19,20,21,22,23,24,25,26,27,28,29,30,31,32,33,34,35],[0,1,2,3,4,5,6,7,8,9,10,11,12,13,14,15,16,17,18,19,20,21,22,23,24,25,26,27,28,29,30,31,32,33,34,35],[0,1,2,3,4,5,6,7,8,9,10,11,12,13,14,15,16,17,18,19,20,21,22,23,24,25,26,27,28,29,30,31,32,33,34,35],[0,1,2,3,4,5,6,7,8,9,10,11,12,13,14,15,16,17,18,19,20,21,22,23,24,25,26,27,28,29,30,31,32,33,34,35,37,38],[0,1,2,3,4,5,6,7,8,9,10,11,12,13,14,15,16,17,18,19,20,21,22,23,24,25,26,27,28,29,30,31,32,33,34,35,36,37,38,39],[0,1,2,3,4,5,6,7,8,9,10,11,12,13,14,15,16,17,18,19,20,21,22,23,24,25,26,27,28,29,30,31,32,33,34,35,36,37,38,39,40]] ?_
 refine Xq Ae ?_;refine Xq Ae ?_;refine Xg Ae ?_;(refine HqG rfl rfl ?_;refine DK (Ac rfl) (Ac rfl) rfl rfl rfl rfl rfl ?_;(repeat ((first | refine ⟨_,BA (ah rfl),?_⟩ | refine ⟨_,Po rfl,?_⟩);refine ⟨_,rfl,?_⟩));refine ⟨_,rfl,?_⟩;refine ⟨_,rfl,?_⟩);refine Xg (Am (Xt 4 fA (by decide))) ?_;refine Xq AU ?_;refine Xq Ae ?_;refine Xg Ae ?_;refine Xg Ar ?_;refine Xq AU ?_;refine Xq Ae ?_;refine Xg Ae ?_;refine Xg Ar ?_;refine Xq AU ?_;refine Xq Ae ?_;refine Xg Ae ?_;(refine ⟨_,Iv rfl rfl (DN (F:=CQ F) rfl (Ac rfl)),?_⟩;refine ⟨_,rfl,?_⟩);refine Xg Ar ?_;refine Xq AU ?_;refine Xq Ae ?_;refine Xg Ae ?_;(refine ⟨_,Iv rfl rfl (Ni (F:=CQ F) (k:=0) rfl (ah rfl) (Ac rfl) (Ac rfl) rfl (by decide)),?_⟩;refine ⟨_,rfl,?_⟩);refine Xg AR ?_;refine Xg (Am (Qd 1 (by omega) (by omega))) ?_;refine Xg (Am (cq)) ?_;refine Xq AU ?_;refine Xq Ae ?_;refine Xg Ae ?_;refine Xg Ar ?_;refine Xq AU ?_;refine Xq Ae ?_;refine Xg Ae ?_;(refine HqG rfl rfl ?_;refine DK (Ac rfl) (Ac rfl) rfl rfl rfl rfl rfl ?_;(repeat ((first | refine ⟨_,BA (ah rfl),?_⟩ | refine ⟨_,Po rfl,?_⟩);refine ⟨_,rfl,?_⟩));refine ⟨_,rfl,?_⟩;refine ⟨_,rfl,?_⟩);refine Xg (Am (Xr [2])) ?_;refine Xq AU ?_;refine Xq Ae ?_;refine Xg Ae ?_;(refine HqG rfl rfl ?_;refine EM (Ac rfl) (Ac rfl) rfl rfl ?_;(repeat ((first | refine ⟨_,BA (ah rfl),?_⟩ | refine ⟨_,Po rfl,?_⟩);refine ⟨_,rfl,?_⟩));refine ⟨_,rfl,?_⟩;refine ⟨_,rfl,?_⟩);(refine HqG rfl rfl ?_;refine EM (Ac rfl) (Ac rfl) rfl rfl ?_;(repeat ((first | refine ⟨_,BA (ah rfl),?_⟩ | refine ⟨_,Po rfl,?_⟩);refine ⟨_,rfl,?_⟩));refine ⟨_,rfl,?_⟩;refine ⟨_,rfl,?_⟩);(refine HqG rfl rfl ?_;refine DK (Ac rfl) (Ac rfl) rfl rfl rfl rfl rfl ?_;(repeat ((first | refine ⟨_,BA (ah rfl),?_⟩ | refine ⟨_,Po rfl,?_⟩);refine ⟨_,rfl,?_⟩));refine ⟨_,rfl,?_⟩;refine ⟨_,rfl,?_⟩);refine Xg (Am (Xu [mz,my] (by decide))) ?_;refine Xq AU ?_;refine ⟨_,rfl,?_⟩
 refine Wa<|Y0 ?_;apply Aw
 exact Yf
theorem Ng {P : Program} {hp:List Ow} {arg:Operand→AV} {dd:Option Tmp} {ty:TypeId} {ps:String} {af:Array Edge} {gd:Option (Nat × Bool)} {T U:TypeId} {x y:Operand} {k:IntKind} {a b:Nat} (hx:arg x = .d (ex (.int k (a:Nat)))) (hy:arg y = .d (ex (.int k (b:Nat)))) (hb:0<b):Quiet P hp ⟨dd,.binOp .rem T x y U,ty,ps,af,gd⟩ arg (.d (ex (.int k ((a % b:Nat):Int)))):=by
 have:=Zj (dd:=dd) (T:=T) (U:=U) (ty:=ty) (ps:=ps) (af:=af) (gd:=gd) (hp:=hp) (P:=P) hx hy (by omega) (by omega)
 rwa [← Int.natCast_emod] at this
def Wf (k : Nat) (e:Int):Nat→Int:=DD (fun _=>0) k e
theorem PG (k : Nat) (e:Int) (j:Nat):Wf k e j = if j = k then e else 0:=rfl
abbrev R4 := Nat→Nat
def r4C (r : R4):List D:=[ex (.int .u8 ((r 0:Nat):Int)),ex (.int .u8 ((r 1:Nat):Int)),ex (.int .u8 ((r 2:Nat):Int)),ex (.int .u8 ((r 3:Nat):Int))]
def YC (T : Nat) (X:List R4):D:=slD T 4 (X.map r4C)
instance A0J : Inhabited R4:=⟨fun _=>0⟩
abbrev PF (X : List R4) (k:Nat):R4:=X.getD k default
def Qg (r : R4):Prop:=∀ j,j<4→r j<256
theorem Qx {r : R4} {k:Nat} (h:k<4):CellAt ((r4C r).drop (k*1)) 0 (ex (.int .u8 ((r k:Nat):Int))):=by
 have:k = 0∨k = 1∨k = 2∨k = 3:=by omega
 rcases this with rfl | rfl | rfl | rfl <;> exact ⟨by simp [r4C],rfl⟩
theorem Tl {P : Program} {hp:List Ow} {arg:Operand→AV} {dd:Option Tmp} {ty:TypeId} {ps:String} {af:Array Edge} {gd:Option (Nat × Bool)} {S T:TypeId} {x:Operand} {k:IntKind} {a:Nat} {d:TypeDesc} {n b n' b':Nat} {z z':Value} (hx:arg x = .d (ex (.int k (a:Nat)))) (hS:Tab P S d n b z) (hT:Tab P T (.int .i64) n' b' z') (h:a<256):Quiet P hp ⟨dd,.convert S T x,ty,ps,af,gd⟩ arg (.d (ex (.int .i64 (a:Nat)))):=GZ hx hS hT (by omega) (by omega)
def UE (n top:Nat) (r:R4) (j:Nat):Int:=if j<n∧j<4 then ((r j % (top+1):Nat):Int) else 0
def YL (top : Nat) (r:R4) (k j:Nat):Int:=if j<k then ((r j % (top+1):Nat):Int) else 0
theorem UD (top : Nat) (r:R4):YL top r 0 = fun _=>0:=funext fun j=>if_neg (by omega)
theorem WL (top : Nat) (r:R4) (k:Nat):DD (YL top r k) k ((r k % (top+1):Nat):Int) = YL top r (k+1):=by
 funext j
 unfold DD YL
 by_cases h:j = k
 ·subst h
  rw [if_pos rfl,if_pos (by omega)]
 ·rw [if_neg h]
  by_cases h2:j<k
  ·rw [if_pos h2,if_pos (by omega)]
  ·rw [if_neg h2,if_neg (by omega)]
theorem Rn (n top:Nat) (r:R4):YL top r (min n 4) = UE n top r:=by
 funext j
 unfold YL UE
 by_cases h:j<n∧j<4
 ·rw [if_pos h,if_pos (by omega)]
 ·rw [if_neg h,if_neg (by omega)]
def NX (X : List R4) (n most top:Nat):Af:=(X.take most).map (UE n top)
theorem NW {X : List R4} {n top k:Nat} (h:k<X.length):NX X n k top ++ [UE n top (PF X k)] = NX X n (k+1) top:=by
 unfold NX
 rw [List.take_add_one,List.getElem?_eq_getElem h,List.map_append]
 have:PF X k = X[k]:=by
  rw [PF,List.getD_eq_getElem?_getD,List.getElem?_eq_getElem h]
  rfl
 rw [this]
 rfl
theorem MI (X : List R4) (n k top:Nat):(NX X n k top).length≤k:=by
 unfold NX
 rw [List.length_map,List.length_take]
 exact Nat.min_le_left _ _
def inD (T : Nat) (X:List R4) (m:Nat):D:=BK [YC T X,ex (.int .u8 (m:Nat))]
theorem Mj {P : Program} {hp:List Ow} {arg:Operand→AV} {dd:Option Tmp} {ty:TypeId} {ps:String} {af:Array Edge} {gd:Option (Nat × Bool)} {S T:TypeId} {x:Operand} {k:IntKind} {a c:Nat} {d:TypeDesc} {n b n' b':Nat} {z z':Value} (hx:arg x = .d (ex (.int k ((a % c:Nat):Int)))) (hS:Tab P S d n b z) (hT:Tab P T (.int .i64) n' b' z') (h:a<256):Quiet P hp ⟨dd,.convert S T x,ty,ps,af,gd⟩ arg (.d (ex (.int .i64 ((a % c:Nat):Int)))):=GZ hx hS hT (by omega) (by have:=Nat.mod_le a c;omega)
def On (m : Nat→Int):Af→Af
 | []=>[m]
 | y :: l=>if 0≤Eu m y then (if Gl y m = true then y :: l else m :: y :: l) else y :: On m l
theorem WV {L : Af} {k:Nat} (h:k<L.length):L.drop k = AC L k :: L.drop (k+1):=by
 rw [List.drop_eq_getElem_cons h,AC,List.getD_eq_getElem?_getD,List.getElem?_eq_getElem h]
 rfl
def InsI (m : Nat→Int) (L:Af) (k:Nat) (d:Bool) (o:Af):Prop:=if d = true then o ++ L.drop k = On m L else o ++ On m (L.drop k) = On m L
theorem InsI.put {m : Nat→Int} {L o:Af} {k:Nat} (h:InsI m L k false o) (hk:k<L.length) (hc:0≤Eu m (AC L k)) (he:Gl (AC L k) m = false):InsI m L (k+1) true (o ++ [m] ++ [AC L k]):=by
 have h:o ++ On m (L.drop k) = On m L:=h
 rw [WV hk,On,if_pos hc,if_neg (by rw [he];exact Bool.false_ne_true)] at h
 show o ++ [m] ++ [AC L k] ++ L.drop (k+1) = On m L
 rw [← h]
 simp
def TJ (r : Nat→Nat) (k:Nat):Af:=(List.range k).map fun i=>Wf i ((r i:Nat):Int)
theorem Ug (r : Nat→Nat) (k:Nat):TJ r k ++ [Wf k ((r k:Nat):Int)] = TJ r (k+1):=by
 unfold TJ
 rw [List.range_succ,List.map_append]
 rfl
theorem Rd (r : Nat→Nat) (k:Nat):(TJ r k).length = k:=by simp [TJ]
theorem WA {r : Nat→Nat} {k:Nat} {y:Nat→Int} (h:y∈TJ r k):∃ i,i<k∧y = Wf i ((r i:Nat):Int):=by
 obtain ⟨i,hi,rfl⟩:=List.mem_map.1 h
 exact ⟨i,List.mem_range.1 hi,rfl⟩
theorem A0b {k c:Nat} (h:k<4):BN 8 0 (Wf k ((c:Nat):Int)) = c:=by
 have:k = 0∨k = 1∨k = 2∨k = 3:=by omega
 rcases this with rfl | rfl | rfl | rfl <;> simp [BN,PG]
theorem WW {l : Af} {n:Nat} (hn:n≤8) (h2:∀ y∈l,SupN n y) (hp:∀ k,k<n→∃ e:Int,Wf k e∈l):Fy l n≤0:=by
 rcases (KA hn h2).2 with h | ⟨S,hS,h⟩
 ·have h:Fy l n = -1:=h
  omega
 ·have h:Fy l n = ((HN n 0 S:Nat):Int):=h
  have hk:∀ k,k<n→S k = false:=fun k hk=>by
   obtain ⟨e,he⟩:=hp k hk
   obtain ⟨j,_,h3,h4,h5⟩:=hS _ he
   rw [PG] at h5
   by_cases e2:j = k
   ·exact e2 ▸ h4
   ·rw [if_neg e2] at h5
    omega
  have h0:∀ (m i:Nat),i+m≤n→HN m i S = 0:=by
   intro m
   induction m with
   | zero=>intro i _;rfl
   | succ m ih =>
    intro i hi
    rw [HN,ih (i+1) (by omega),hk i (by omega)]
    rfl
  rw [h,h0 n 0 (by omega)]
  exact Int.le_refl 0
def Wh (m : Nat→Int) (k:Nat):Nat→Int:=DD m k (m k - 1)
theorem TS {l : Af} {n k:Nat} {x:Nat→Int} (h:StdX l n x) (hk:k<n) (hb:inB l (IA x k) = false):StdX l n (IA x k):=by
 refine ⟨fun j hj=>?_,hb⟩
 rw [Iz]
 split
 ·rename_i e
  subst e
  have:=(h.1 j hj).1
  exact ⟨by omega,fun h=>by omega⟩
 ·exact h.1 j hj
theorem TT {l : Af} {n k:Nat} {x:Nat→Int} (h:StdX l n x) (hk:k<n) (h0:0≤Wh x k k):StdX l n (Wh x k):=by
 have e0:Wh x k k = x k - 1:=if_pos rfl
 refine ⟨fun j hj=>?_,?_⟩
 ·by_cases e:j = k
  ·subst e
   exact ⟨h0,fun h=>by omega⟩
  ·have:Wh x k j = x j:=if_neg e
   rw [this]
   exact h.1 j hj
 ·refine Bool.eq_false_iff.2 fun hb=>?_
  have:=Kl (x:=Wh x k) (y:=x) (fun j hj=>by
   by_cases e:j = k
   ·subst e
    omega
   ·have:Wh x k j = x j:=if_neg e
    omega) hb
  rw [h.2] at this
  cases this
theorem JA {K : Af} {x:Nat→Int}:(K.any fun a=>Gl a x) = true↔MemE x K:=by
 rw [List.any_eq_true]
 exact ⟨fun ⟨a,h1,h2⟩=>⟨a,h1,DH.1 h2⟩,fun ⟨a,h1,h2⟩=>⟨a,h1,DH.2 h2⟩⟩
theorem UX {x : Nat→Int} (h:∀ j,j<8→0≤x j∧x j≤3∧(3≤j→x j = 0)):BN 8 0 x≤9:=by
 have h0:=h 0 (by decide);have h1:=h 1 (by decide);have h2:=h 2 (by decide)
 have e3:=(h 3 (by decide)).2.2 (by decide);have e4:=(h 4 (by decide)).2.2 (by decide);have e5:=(h 5 (by decide)).2.2 (by decide);have e6:=(h 6 (by decide)).2.2 (by decide);have e7:=(h 7 (by decide)).2.2 (by decide)
 simp only [BN,Nat.zero_add,Nat.reduceAdd,e3,e4,e5,e6,e7]
 omega
theorem A0c {l : Af} {n:Nat} {x:Nat→Int} (hn:n≤8) (h:StdX l n x):BN n 0 x = BN 8 0 x:=by
 have key:∀ (m i:Nat),i+m = 8→n≤i→BN m i x = 0:=by
  intro m
  induction m with
  | zero=>intro i _ _;rfl
  | succ m ih =>
   intro i hi hni
   rw [BN,ih (i+1) (by omega) (by omega),(h.1 i (by omega)).2 hni]
   rfl
 have key2:∀ (m i r:Nat),i+m = n→n+r = 8→BN m i x = BN (m+r) i x:=by
  intro m
  induction m with
  | zero =>
   intro i r hi hr
   rw [Nat.zero_add,key r i (by omega) (by omega)]
   rfl
  | succ m ih =>
   intro i r hi hr
   rw [show m+1+r = (m+r)+1 by omega,BN,BN,ih (i+1) r (by omega) hr]
 have:=key2 n 0 (8 - n) (by omega) (by omega)
 rwa [show n+(8 - n) = 8 by omega] at this
theorem Wl {l K:Af} {n d:Nat} (hn:n≤8) (hK:∀ x,MemE x K↔StdX l n x) (hp:K.Pairwise fun a b=>¬ Eqv a b):(((K.filter fun x=>BN 8 0 x == d).length:Nat):Int) = hN n d l:=by
 rw [← Kn,Jx]
 have hnd:((K.filter fun x=>BN 8 0 x == d).map Ev).Nodup:=by
  unfold List.Nodup
  rw [List.pairwise_map]
  refine (hp.filter _).imp ?_
  intro a b h e
  refine h fun j hj=>?_
  have:=congrFun e j
  unfold Ev at this
  rwa [if_pos hj,if_pos hj] at this
 have hnd2:((rM n 0 d).filter fun m => !inB l m).Nodup:=List.Pairwise.filter _ (JX n 0 d)
 have hperm:((K.filter fun x=>BN 8 0 x == d).map Ev).Perm ((rM n 0 d).filter fun m => !inB l m):=(List.perm_ext_iff_of_nodup hnd hnd2).2 fun m=>by
  rw [List.mem_filter,Fw]
  constructor
  ·intro h
   obtain ⟨a,ha,rfl⟩:=List.mem_map.1 h
   obtain ⟨ha,hd⟩:=List.mem_filter.1 ha
   have h1:StdX l n (Ev a):=((hK a).1 ⟨a,ha,Eqv.refl a⟩).congr (FN a).symm
   have hd:BN 8 0 a = d:=by simpa using hd
   refine ⟨⟨⟨fun j=>?_,fun j hj=>?_⟩,?_⟩,by rw [h1.2];rfl⟩
   ·by_cases h8:j<8
    ·exact (h1.1 j h8).1
    ·unfold Ev
     rw [if_neg h8]
     omega
   ·by_cases h8:j<8
    ·exact (h1.1 j h8).2 (by omega)
    ·unfold Ev
     rw [if_neg h8]
   ·rw [A0c hn h1,← hd]
    exact GT fun j _ hj=>FN a j (by omega)
  ·intro ⟨⟨h1,h2⟩,h3⟩
   have h3:inB l m = false:=by simpa using h3
   have h4:StdX l n m:=⟨fun j hj=>⟨h1.1 j,fun h=>h1.2 j (by omega)⟩,h3⟩
   obtain ⟨a,ha,e⟩:=(hK m).2 h4
   refine List.mem_map.2 ⟨a,List.mem_filter.2 ⟨ha,?_⟩,funext fun j=>?_⟩
   ·have e2 : BN 8 0 a = BN 8 0 m := GT fun j _ hj => e j (by omega)
    rw [e2,← A0c hn h4,h2]
    exact beq_self_eq_true d
   ·unfold Ev
    split
    ·rename_i h8
     exact e j h8
    ·exact (h1.2 j (by omega)).symm
 rw [← hperm.length_eq,List.length_map]
def cK (K : Af) (i d:Nat):Nat:=((K.take i).filter fun x=>BN 8 0 x == d).length
theorem A0e (K : Af) (i d:Nat):cK K i d≤i:=by
 unfold cK
 refine Nat.le_trans (List.length_filter_le _ _) ?_
 rw [List.length_take]
 exact Nat.min_le_left _ _
theorem Xe {K : Af} {i:Nat} (h:i<K.length):(fun d=>((cK K (i+1) d:Nat):Int)) = fun j=>if j = BN 8 0 (AC K i) then ((cK K i (BN 8 0 (AC K i)):Nat):Int)+1 else ((cK K i j:Nat):Int):=by
 funext d
 unfold cK
 rw [List.take_add_one,List.getElem?_eq_getElem h,List.filter_append,List.length_append]
 have e:AC K i = K[i]:=by
  rw [AC,List.getD_eq_getElem?_getD,List.getElem?_eq_getElem h]
  rfl
 rw [e]
 by_cases hd:d = BN 8 0 K[i]
 ·rw [if_pos hd]
  have:List.filter (fun x=>BN 8 0 x == d) (some K[i]).toList = [K[i]]:=by simp [hd]
  rw [this,hd]
  rfl
 ·rw [if_neg hd]
  have:List.filter (fun x=>BN 8 0 x == d) (some K[i]).toList = []:=by
   have:¬ BN 8 0 K[i] = d:=fun e=>hd e.symm
   simp [this]
  rw [this]
  rfl
theorem Xd (K : Af):(fun d=>((cK K 0 d:Nat):Int)) = fun _=>0:=rfl
theorem Za {l K:Af} {n:Nat} (hn:n≤8) (hK:∀ x,MemE x K↔StdX l n x) (hp:K.Pairwise fun a b=>¬ Eqv a b) (d:Nat):((cK K K.length d:Nat):Int) = hN n d l:=by
 unfold cK
 rw [List.take_length]
 exact Wl hn hK hp
theorem VO (T : Nat) (X:List R4) (n most top:Nat) (hX:∀ r∈X,Qg r) (hn:n≤1000) (hm:most≤1000) (ht:top≤1000):Con Tryz.prog 13 [.d (YC T X),.d (ex (.int .i64 (n:Nat))),.d (ex (.int .i64 (most:Nat))),.d (ex (.int .i64 (top:Nat)))] [] [] (fun r hp'=>r = .own 1∧hp' = [.dead,.row 55 8 ((NX X n most top).map AE)]):=by
 have hd:NX X n (min X.length most) top = NX X n most top:=by
   unfold NX
   by_cases h:X.length≤most
   ·rw [Nat.min_eq_left h,List.take_of_length_le (Nat.le_refl _),List.take_of_length_le h]
   ·rw [Nat.min_eq_right (by omega)]
 refine Fg Tryz.func13 rfl (As Tryz.func13 (by kernel_rfl) (by kernel_rfl)) rfl fun s0=>?_
 rw [Tryz.ntmps13]
 refine Y1<|Wa<|Y0<|Y1 ?_;refine Nn (Ac rfl) (Ac rfl) rfl rfl rfl rfl rfl ?_;refine Wa<|Y0<|Aa<|Y1<|Wa<|Y0<|AWp.block ?_
 refine AK (fun mz σ=>∃ k,k≤min X.length most∧mz = min X.length most - k∧σ = ⟨[(0,.d (YC T X)),(1,.d (ex (.int .i64 (n:Nat)))),(2,.d (ex (.int .i64 (most:Nat)))),(3,.d (ex (.int .i64 (top:Nat)))),(9,.own 1),(10,.d (ex (.int .i64 (k:Nat))))],[.pin [],.row 55 8 ((NX X n k top).map AE)]⟩) ?le ⟨0,by omega,rfl,rfl⟩ ?round
 case le=>exact Ag (by exact Yd<|Yd<|Yd<|Yd<|FrLe.cons rfl (AVle.own rfl)<|Yd<|FrLe.nil) (by exact HpLe.cons (Bb rfl)<|Yr<|HpLe.nil)
 case round =>
  rintro mz _ ⟨k,hk,rfl,rfl⟩
  by_cases hlt:k<min X.length most
  ·have hkl : k < X.length := by omega
   have hkm:((k:Nat):Int)<((most:Nat):Int):=by omega
   have hkx:((k:Nat):Int)<((X.length:Nat):Int):=by omega
   have hml:=MI X n k top
   have hr:Qg (PF X k):=hX _ (by
    rw [PF,List.getD_eq_getElem?_getD,List.getElem?_eq_getElem hkl]
    exact List.getElem_mem hkl)
   refine Aa<|Y1<|Wm<|Wm ?_;refine Wq Ca ?_;refine Wq Ar ?_;refine Wm ?_;refine Wg Ae ?_;refine Wg Ae ?_;refine Wg Ar ?_;refine Wq AU ?_;apply Y0;refine Ct ?_;refine Ys<|Aa<|AWp.block<|Y1 ?_;(refine Di rfl rfl ?_;(refine EM (Ac rfl) (Ac rfl) rfl rfl ?_;(repeat ((first | refine ⟨_,BA (ao rfl),?_⟩ | refine ⟨_,Po rfl,?_⟩);refine ⟨_,rfl,?_⟩));refine ⟨_,rfl,?_⟩));refine Al ?_;refine Sf ?_;refine Y0<|Aa<|Y1<|Wa<|Y0<|AWp.block ?_
   refine AK (fun mz σ=>∃ i,i≤min n 4∧mz = min n 4 - i∧σ = ⟨[(0,.d (YC T X)),(1,.d (ex (.int .i64 (n:Nat)))),(2,.d (ex (.int .i64 (most:Nat)))),(3,.d (ex (.int .i64 (top:Nat)))),(9,.own 1),(10,.d (ex (.int .i64 (k:Nat)))),(11,.ptr 2 0),(12,.d (ex (.int .i64 (i:Nat))))],[.pin [],.row 55 8 ((NX X n k top).map AE),.var 55 ((AE (YL top (PF X k) i)).map .d)]⟩) ?lei ⟨0,by omega,rfl,rfl⟩ ?roundi
   case lei=>exact Ag (by exact Yd<|Yd<|Yd<|Yd<|FrLe.cons rfl (AVle.own rfl)<|Yd<|Yp<|Yd<|FrLe.nil) (by refine HpLe.cons (Bb rfl) ?_;apply Yr;(refine HpLe.cons (Dz (by rw [UD];rfl)) ?_);exact HpLe.nil)
   case roundi =>
    rintro mz _ ⟨i,hi,rfl,rfl⟩
    by_cases hlti:i<min n 4
    ·have hi4 : i < 4 := by omega
     have hi8:i<8:=by omega
     have hin:((i:Nat):Int)<((n:Nat):Int):=by omega
     have hr1:=hr i hi4
     refine Aa<|Y1<|Wm<|Wm ?_;refine Wq Ar ?_;refine Wm ?_;refine Wg Ae ?_;refine Wg Ar ?_;refine Wq AU ?_;apply Y0;refine Ct ?_;refine Ys<|Aa<|AWp.block<|AWp.region<|Wm<|Wm<|Wm<|Wm ?_;refine Wq Bd ?_;refine Wq Zf ?_;refine Wq (VE (ao rfl) (Ac rfl) rfl (Qx hi4)) ?_;refine Wq (Tl (ao rfl) (Ac rfl) (Ac rfl) hr1) ?_;refine Wm ?_;refine Wq AG ?_;refine Wq (Ng (a:=PF X k i) (b:=top+1) (ao rfl) (ao rfl) (by omega)) ?_;refine Wq AQ ?_;(refine BL (ao rfl) (ao rfl) rfl (Ac rfl) (by first | exact Bw rfl | exact One.sl | exact Cv) (SetAt.mon (by first | omega | (simp;omega))) rfl ?_);apply AWl.nil;apply Ah;refine Yn<|AWp.region<|Wm ?_;refine Wq AG ?_;refine Wa ?_;apply AWl.nil
     refine ALoop.next (min n 4 - (i+1)) (by omega) ⟨i+1,by omega,rfl,rfl⟩ ?_
     exact Ag (by exact Yd<|Yd<|Yd<|Yd<|FrLe.cons rfl (AVle.own rfl)<|Yd<|Yp<|Yd<|FrLe.nil) (by exact HpLe.cons (Bb rfl)<|Yr<|HpLe.cons (Dz (by rw [WL]))<|HpLe.nil)
    ·have hi8 : ¬ (((i : Nat) : Int) < ((n : Nat) : Int) ∧ ((i : Nat) : Int) < 4) := by omega
     obtain rfl:i = min n 4:=by omega
     by_cases h4:n≤4
     ·have h5 : ¬ ((min n 4 : Nat) : Int) < ((n : Nat) : Int) := by omega
      refine Aa<|Y1<|Wm<|Wm ?_;refine Wq Aq ?_;refine Wm ?_;refine Ws ?_;refine Ws ?_;refine Wq AW ?_;apply Y0;refine Cf ?_;apply AF;apply Az;apply AA;apply AB;refine Yn<|AWp.region<|Wm ?_;refine Wq AL ?_;refine Wq (Ey (ao rfl) (Ac rfl) (Ac rfl) rfl rfl rfl rfl rfl) ?_;(refine Ap ?_);refine Wa ?_;apply AWl.nil;apply Ah;refine Yn<|AWp.region<|Wm ?_;refine Wq AG ?_;refine Wa ?_;apply AWl.nil
      rw [Rn]
      skip
      refine ALoop.next (min X.length most - (k+1)) (by omega) ⟨k+1,by omega,rfl,rfl⟩ ?_
      exact Ag (by exact Yd<|Yd<|Yd<|Yd<|FrLe.cons rfl (AVle.own rfl)<|Yd<|FrLe.nil) (by refine HpLe.cons (Bb rfl) ?_;refine HpLe.cons (DJ ((If AE _ _).trans (by rw [NW hkl]))) ?_;exact HpLe.nil)
     ·have h5 : ((min n 4 : Nat) : Int) < ((n : Nat) : Int) := by omega
      have h6:¬ ((min n 4:Nat):Int)<4:=by omega
      refine Aa<|Y1<|Wm<|Wm ?_;refine Wq Ar ?_;refine Wm ?_;refine Wg Ae ?_;refine Wg Aq ?_;refine Wq AU ?_;apply Y0;refine Cf ?_;apply AF;apply Az;apply AA;apply AB;refine Yn<|AWp.region<|Wm ?_;refine Wq AL ?_;refine Wq (Ey (ao rfl) (Ac rfl) (Ac rfl) rfl rfl rfl rfl rfl) ?_;(refine Ap ?_);refine Wa ?_;apply AWl.nil;apply Ah;refine Yn<|AWp.region<|Wm ?_;refine Wq AG ?_;refine Wa ?_;apply AWl.nil
      rw [Rn]
      skip
      refine ALoop.next (min X.length most - (k+1)) (by omega) ⟨k+1,by omega,rfl,rfl⟩ ?_
      exact Ag (by exact Yd<|Yd<|Yd<|Yd<|FrLe.cons rfl (AVle.own rfl)<|Yd<|FrLe.nil) (by refine HpLe.cons (Bb rfl) ?_;refine HpLe.cons (DJ ((If AE _ _).trans (by rw [NW hkl]))) ?_;exact HpLe.nil)
  ·obtain rfl : k = min X.length most := by omega
   by_cases h4:X.length≤most
   ·have h5 : ¬ ((min X.length most : Nat) : Int) < ((X.length : Nat) : Int) := by omega
    refine Aa<|Y1<|Wm<|Wm ?_;refine Wq Ca ?_;refine Wq Aq ?_;refine Wm ?_;refine Ws ?_;refine Ws ?_;refine Ws ?_;refine Wq AW ?_;apply Y0;refine Cf ?_;apply AF;apply Az;apply AA;apply AB;refine Yn<|Y1<|Wm<|Wa<|Y0 ?_;apply Aw
    refine Bk (RetsA.one rfl) rfl ?_ rfl
    exact ⟨rfl,by rw [hd]⟩
   ·have h5 : ((min X.length most : Nat) : Int) < ((X.length : Nat) : Int) := by omega
    have h6:¬ ((min X.length most:Nat):Int)<((most:Nat):Int):=by omega
    refine Aa<|Y1<|Wm<|Wm ?_;refine Wq Ca ?_;refine Wq Ar ?_;refine Wm ?_;refine Wg Ae ?_;refine Wg Ae ?_;refine Wg Aq ?_;refine Wq AU ?_;apply Y0;refine Cf ?_;apply AF;apply Az;apply AA;apply AB;refine Yn<|Y1<|Wm<|Wa<|Y0 ?_;apply Aw
    refine Bk (RetsA.one rfl) rfl ?_ rfl
    exact ⟨rfl,by rw [hd]⟩
theorem NV (n : Nat) (r:R4) (j:Nat):0≤UE n 4 r j∧UE n 4 r j≤4∧((n≤j∨4≤j)→UE n 4 r j = 0):=by
 unfold UE
 have:=Nat.mod_lt (r j) (show 0<4+1 by decide)
 split
 ·exact ⟨by omega,by omega,fun h=>by omega⟩
 ·exact ⟨by omega,by omega,fun _=>rfl⟩
theorem Jv {X : List R4} {n most top:Nat} {y:Nat→Int} (h:y∈NX X n most top):∃ r∈X,y = UE n top r:=by
 obtain ⟨r,hr,rfl⟩:=List.mem_map.1 h
 exact ⟨r,List.mem_of_mem_take hr,rfl⟩
theorem Yh (n : Nat) (r:R4):BN 8 0 (UE n 4 r)≤16:=by
 have h:=NV n r
 simp only [BN]
 have h0:=h 0;have h1:=h 1;have h2:=h 2;have h3:=h 3
 have e4:=(h 4).2.2 (.inr (by decide));have e5:=(h 5).2.2 (.inr (by decide));have e6:=(h 6).2.2 (.inr (by decide));have e7:=(h 7).2.2 (.inr (by decide))
 simp only [Nat.zero_add,Nat.reduceAdd,e4,e5,e6,e7]
 omega
theorem YJ {X : List R4} {n most:Nat}:∀ y∈NX X n most 4,SupN n y:=fun y hy j hj=>by
 obtain ⟨r,_,rfl⟩:=Jv hy
 exact ⟨(NV n r j).1,fun h=>(NV n r j).2.2 (.inl h)⟩
theorem A04 {X : List R4} {n most:Nat}:∀ y∈NX X n most 4,In8 y 0 64:=fun y hy j hj=>by
 obtain ⟨r,_,rfl⟩:=Jv hy
 have:=NV n r j
 exact ⟨this.1,by omega⟩
theorem YK {X : List R4} {n most:Nat}:∀ y∈NX X n most 4,BN 8 0 y≤16:=fun y hy=>by
 obtain ⟨r,_,rfl⟩:=Jv hy
 exact Yh n r
theorem Ui {n k:Nat} (hn:n≤4) (hk:k≤12):(2:Int) ^ k*(((16*k:Nat):Int)+1) ^ (n+1)≤9223372036854775807:=by
 have h1:(16*k+1) ^ (n+1)≤193 ^ 5:=Nat.le_trans (Nat.pow_le_pow_left (by omega) _) (Nat.pow_le_pow_right (by decide) (by omega))
 have h0:2 ^ k≤2 ^ 12:=Nat.pow_le_pow_right (by decide) hk
 have h2:(2:Int) ^ k*(((16*k:Nat):Int)+1) ^ (n+1) = ((2 ^ k*(16*k+1) ^ (n+1):Nat):Int):=by
  push_cast
  rfl
 have h3:2 ^ k*(16*k+1) ^ (n+1)≤2 ^ 12*193 ^ 5:=Nat.mul_le_mul h0 h1
 have h4:2 ^ 12*193 ^ 5≤9223372036854775807:=by decide
 rw [h2]
 omega
theorem A0W (X : List R4) (n most:Nat) (hn:n≤4) (hm:most≤12):∃ N f,HilC (NX X n most 4) n N f:=Jz most 16 n _ (by omega) hm (MI X n most 4) (by decide) A04 YJ YK (Ui hn hm)
theorem YY {n d:Nat} (hn:n≤4) (hd:d≤64):(4096:Int)*(((d:Nat):Int)+1) ^ n≤9223372036854775807:=by
 have h:(d+1) ^ n≤65 ^ 4:=Nat.le_trans (Nat.pow_le_pow_left (by omega) _) (Nat.pow_le_pow_right (by decide) hn)
 have h2:(4096:Int)*(((d:Nat):Int)+1) ^ n = ((4096*(d+1) ^ n:Nat):Int):=by
  push_cast
  rfl
 have h3:4096*(d+1) ^ n≤4096*65 ^ 4:=Nat.mul_le_mul_left _ h
 have h4:4096*65 ^ 4≤9223372036854775807:=by decide
 rw [h2]
 omega
theorem HilC.count {l : Af} {n N d:Nat} {f:Nat→Int} (hc:HilC l n N f) (hn:n≤4) (hd:d≤64) (h2:∀ y∈l,SupN n y):Abs Tryz.prog 16 [BF l,ex (.int .i64 (n:Nat)),ex (.int .i64 (d:Nat))] (DP [ex (.int .i64 (hN n d l)),ex (.int .i64 0)]):=by
 rw [← hc.num.num n (by omega) h2 d]
 exact Mn l n d N f 4096 (by omega) hd hc.ck hc.cn hc.num.far (fun t _=>hc.bnd t) (YY hn hd)
theorem Vv (a : Nat→Int) (h:In8 a 0 1000000):Abs Tryz.prog 36 [BK (AE a)] (ex (.int .i64 (BN 8 0 a:Nat))):=by
 have hb:=Gs h
 refine Ab Tryz.func36 fun s0=>?_
 rw [Tryz.ntmps36]
 apply Y1;refine Bx ?_;refine Wa<|Y0<|Y1<|Wa<|Y0<|Aa<|Y1<|Wa<|Y0<|AWp.block ?_
 refine AK (fun mz σ=>∃ k,k≤8∧mz = 8 - k∧σ = ⟨[(1,.ptr 0 0),(3,.d (ex (.int .i64 (CI a k)))),(4,.d (ex (.int .i64 (k:Nat))))],[.var 55 ((AE a).map .d)]⟩) ?le ⟨0,by omega,rfl,rfl⟩ ?round
 case le=>exact Ag (by exact Yp<|Yd<|Yd<|FrLe.nil) (by exact Yv<|HpLe.nil)
 case round =>
  rintro mz _ ⟨k,hk,rfl,rfl⟩
  by_cases hlt:k<8
  ·have h1 := hb k (by omega)
   have h2:=h k hlt
   refine Aa<|Y1<|Wm ?_;refine Wq Ar ?_;apply Y0;refine Ct ?_;refine Ys<|Aa<|AWp.block<|AWp.region<|Wm<|Wm ?_;refine Wq AQ ?_;refine Wq Bg ?_;refine Wq CP ?_;refine Wa ?_;apply AWl.nil;apply Ah;refine Yn<|AWp.region<|Wm ?_;refine Wq AG ?_;refine Wa ?_;apply AWl.nil
   refine ALoop.next (8 - (k+1)) (by omega) ⟨k+1,by omega,rfl,rfl⟩ ?_
   exact Ag (by exact Yp<|Yd<|Yd<|FrLe.nil) (by exact Yv<|HpLe.nil)
  ·obtain rfl : k = 8 := by omega
   rw [RE fun j hj=>(h j hj).1]
   refine Aa<|Y1<|Wm ?_;refine Wq Aq ?_;apply Y0;refine Cf ?_;apply AF;apply Az;apply AA;apply AB;refine Yn<|Y1<|Wm<|Wa<|Y0 ?_;apply Aw
   exact Yf
theorem JB (x : Nat→Int) (K:Af) (hL:K.length≤1000000):Abs Tryz.prog 45 [BF K,BK (AE x)] (ex (.bool (K.any fun a=>Gl a x))):=by
 refine Ab Tryz.func45 fun s0=>?_
 rw [Tryz.ntmps45]
 apply Y1;refine Bx ?_;refine Wa<|Y0<|Aa<|Y1<|Wa<|Y0<|AWp.block ?_
 refine AK (fun mz σ=>∃ k,k≤K.length∧(∀ j,j<k→Gl (AC K j) x = false)∧mz = K.length - k∧σ = ⟨[(0,.d (BF K)),(3,.ptr 0 0),(5,.d (ex (.int .i64 (k:Nat))))],[.var 55 ((AE x).map .d)]⟩) ?le ⟨0,by omega,fun j hj=>absurd hj (Nat.not_lt_zero j),rfl,rfl⟩ ?round
 case le=>exact Ag (by exact Yd<|Yp<|Yd<|FrLe.nil) (by exact Yv<|HpLe.nil)
 case round =>
  rintro mz _ ⟨k,hk,hok,rfl,rfl⟩
  by_cases hlt:k<K.length
  ·cases he:Gl (AC K k) x
   ·refine Aa<|Y1<|Wm<|Wm ?_;refine Wq Ca ?_;refine Wq Ar ?_;apply Y0;refine Ct ?_;refine Ys<|Aa<|AWp.block<|Aa ?_
    refine Dr [[],[],[(12,0),(13,1)],[(14,2)],[],[(15,3),(16,4)]] [[],[],[0,1],[0,1,2],[],[0,1,2,3,4]] ?_
    refine Xq Ae ?_;refine Xq Ae ?_;refine Xq Bd ?_;refine Xq AR ?_;refine Xq AL ?_;(refine Xq (Mi (a:=AC K k) (b:=x) (ah rfl) (ah rfl) he) ?_);refine ⟨_,rfl,?_⟩
    apply Y0;refine Cf ?_;apply Bf;apply Ah;refine Yn<|AWp.region<|Wm ?_;refine Wq AG ?_;refine Wa ?_;apply AWl.nil
    refine ALoop.next (K.length - (k+1)) (by omega) ⟨k+1,by omega,?_,rfl,rfl⟩ ?_
    ·intro j hj
     by_cases hjk:j = k
     ·subst hjk
      exact he
     ·exact hok j (by omega)
    ·exact Ag (by exact Yd<|Yp<|Yd<|FrLe.nil) (by exact Yv<|HpLe.nil)
   ·have hy:(K.any fun a=>Gl a x) = true:=List.any_eq_true.2 ⟨_,EW hlt,he⟩
    rw [hy]
    refine Aa<|Y1<|Wm<|Wm ?_;refine Wq Ca ?_;refine Wq Ar ?_;apply Y0;refine Ct ?_;refine Ys<|Aa<|AWp.block<|Aa ?_
    refine Dr [[],[],[(12,0),(13,1)],[(14,2)],[],[(15,3),(16,4)]] [[],[],[0,1],[0,1,2],[],[0,1,2,3,4]] ?_
    refine Xq Ae ?_;refine Xq Ae ?_;refine Xq Bd ?_;refine Xq AR ?_;refine Xq AL ?_;(refine Xq (Mh (a:=AC K k) (b:=x) (ah rfl) (ah rfl) he) ?_);refine ⟨_,rfl,?_⟩
    apply Y0;refine Ct ?_;refine Y1<|Wa<|Y0 ?_;apply Aw;apply Bv;apply Bc;apply CY;apply Bv;apply Bc
    exact Yf
  ·obtain rfl : k = K.length := by omega
   have hn:(K.any fun a=>Gl a x) = false:=by
    refine Bool.eq_false_iff.2 fun h=>?_
    obtain ⟨a,ha,h2⟩:=List.any_eq_true.1 h
    obtain ⟨j,hj,rfl⟩:=List.getElem_of_mem ha
    have:=hok j hj
    rw [AC,List.getD_eq_getElem?_getD,List.getElem?_eq_getElem hj] at this
    have h3:Gl K[j] x = false:=this
    rw [h3] at h2
    cases h2
   rw [hn]
   refine Aa<|Y1<|Wm<|Wm ?_;refine Wq Ca ?_;refine Wq Aq ?_;apply Y0;refine Cf ?_;apply AF;apply Az;apply AA;apply AB;refine Yn<|Y1<|Wa<|Y0 ?_;apply Aw
   exact Yf
def ZP (r : R4):List D:=[ex (.int .u8 ((r 0:Nat):Int)),ex (.int .u8 ((r 1:Nat):Int)),ex (.int .u8 ((r 2:Nat):Int))]
theorem Tz {r : R4} {k:Nat} (h:k<3):CellAt (ZP r) (0+k*1) (ex (.int .u8 ((r k:Nat):Int))):=by
 have:k = 0∨k = 1∨k = 2:=by omega
 rcases this with rfl | rfl | rfl <;> exact ⟨by simp [ZP],rfl⟩
theorem Sk (T : Nat) (X:List R4) (m:Nat) (r:R4) (hX:∀ r∈X,Qg r) (hm:m<256) (hr:∀ j,j<3→r j<256):Abs Tryz.prog 9 [inD T X m,BK (ZP r)] (ex (.bool true)):=by
 obtain ⟨n,hn⟩:∃ n,n = m % 4:=⟨_,rfl⟩
 have hn3:n≤3:=by omega
 have cm:=VO T X n 5 4 hX (by omega) (by decide) (by decide)
 obtain ⟨rr,hrr⟩:∃ rr:Nat→Nat,rr = fun k=>r k % 5:=⟨_,rfl⟩
 have hr4:∀ k,rr k≤4:=fun k=>by rw [hrr];show r k % 5≤4;omega
 obtain ⟨l0,hl0⟩:∃ l0,l0 = NX X n 5 4:=⟨_,rfl⟩
 have hlen0:l0.length≤5:=hl0 ▸ MI X n 5 4
 rw [← hl0] at cm
 obtain ⟨l,hl⟩:∃ l,l = l0 ++ TJ rr n:=⟨_,rfl⟩
 have hlen:l.length≤8:=by rw [hl,List.length_append,Rd];omega
 have hmem:∀ y∈l,(∃ r,y = UE n 4 r)∨∃ i,i<n∧y = Wf i ((rr i:Nat):Int):=fun y hy=>by
  rw [hl] at hy
  rcases List.mem_append.1 hy with h | h
  ·rw [hl0] at h
   obtain ⟨r,_,e⟩:=Jv h
   exact .inl ⟨r,e⟩
  ·exact .inr (WA h)
 have hb4:∀ y∈l,∀ j,0≤y j∧y j≤4∧(n≤j→y j = 0):=fun y hy j=>by
  rcases hmem y hy with ⟨r,rfl⟩ | ⟨i,hi,rfl⟩
  ·have:=NV n r j
   exact ⟨this.1,this.2.1,fun h=>this.2.2 (.inl h)⟩
  ·have:=hr4 i
   rw [PG]
   split
   ·exact ⟨by omega,by omega,fun h=>by omega⟩
   ·exact ⟨by omega,by omega,fun h=>rfl⟩
 have l1:∀ y∈l,In8 y 0 64:=fun y hy j hj=>by have:=hb4 y hy j;exact ⟨this.1,by omega⟩
 have l2:∀ y∈l,SupN n y:=fun y hy j hj=>by have:=hb4 y hy j;exact ⟨this.1,this.2.2⟩
 have l3:∀ y∈l,BN 8 0 y≤16:=fun y hy=>by
  rcases hmem y hy with ⟨r,rfl⟩ | ⟨i,hi,rfl⟩
  ·exact Yh n r
  ·have:=hr4 i
   rw [A0b (by omega)]
   omega
 have l4:∀ y∈l,∀ j,j<8→y j≤((3:Nat):Int)+1:=fun y hy j hj=>by have:=hb4 y hy j;omega
 obtain ⟨Na,f,hc⟩:=Jz 8 16 n l (by omega) (by decide) hlen (by decide) l1 l2 l3 (Ui (by omega) (by decide))
 have hd : Fy l n ≤ 0 := WW (by omega) l2 fun k hk => ⟨((rr k : Nat) : Int), by
  rw [hl]
  exact List.mem_append_right _ (List.mem_map.2 ⟨k,List.mem_range.2 hk,rfl⟩)⟩
 have hbox:(3+1) ^ n≤64:=Nat.le_trans (Nat.pow_le_pow_right (n:=4) (j:=3) (by decide) hn3) (by decide)
 have cst:=OR hc (E:=3) (by omega) (by omega) l2 l4 (by decide) hd (by omega)
 have hfin:=QV (E:=3) hc (by omega) l2 l4 hd
 have hK64:∀ K,IsStd l n K→K.length≤64:=fun K hK=>by
  have h1:=hfin.1 K hK
  have h2:=hfin.2
  omega
 have hxs:∀ x,StdX l n x→∀ j,j<8→0≤x j∧x j≤3∧(3≤j→x j = 0):=fun x hx j hj=>by
  have h1:=Pv (by omega) l2 l4 hd x hx j hj
  have h2:=hx.1 j hj
  exact ⟨h2.1,h1,fun h=>h2.2 (by omega)⟩
 have cc:∀ d:Nat,d≤12→_:=fun d hd=>hc.count (d:=d) (by omega) (by omega) l2
 refine Ab Tryz.func9 fun s0=>?_
 rw [Tryz.ntmps9]
 apply Y1;refine Bx ?_;refine Bx ?_;refine Wa<|Y0<|Y1 ?_;refine Wq (Am (PD)) ?_;refine Wa<|Y0<|Aa<|Y1<|Wm ?_;refine Wq Ci ?_;apply Y0;refine Cf ?_;refine Ys<|Y1 ?_;refine Wq RM ?_;refine Wq Cb ?_;refine Wq (Ng (a:=m) (b:=4) (ao rfl) (ao rfl) (by decide)) ?_;refine Wq (Mj (a:=m) (c:=4) (ao rfl) (Ac rfl) (Ac rfl) hm) ?_;refine Wa<|Y0<|Y1 ?_;refine Wq RM ?_;refine Wq Cb ?_;refine Wm ?_
 rw [← hn]
 refine Bi [] [] (cm) (.inl rfl) rfl rfl (.inl ⟨rfl,rfl⟩) (by repeat (first | exact ArgsC.nil | refine ArgsC.d rfl (D.le.refl _) ?_ | refine AZ rfl rfl ?_)) (by decide) SelR.nil trivial rfl ?_
 rintro _ _ ⟨rfl,rfl⟩
 refine ⟨_,_,_,(by first | exact AVRen.d | exact AVRen.own rfl | exact AVRen.ptr rfl | exact AVRen.fn rfl),(by repeat (first | exact SetR.nil | (apply SetR.cons;(first | exact OwRen.dead | exact Aj | exact OwRen.obj | exact Ao | exact Ak rfl);exact rfl))),(by repeat (first | exact AppR.nil | (apply AppR.cons;(first | exact OwRen.dead | exact Aj | exact OwRen.obj | exact Ao | exact Ak rfl);exact rfl))),?_⟩
 refine Wa<|Y0<|Aa<|Y1<|Wa<|Y0<|AWp.block ?_
 refine AK (fun mz σ=>∃ k,k≤n∧mz = n - k∧σ = ⟨[(3,.ptr 1 0),(5,.d (ex (.bool true))),(6,.d (ex (.int .i64 (n:Nat)))),(7,.own 3),(8,.d (ex (.int .i64 (k:Nat))))],[.var 25 ([YC T X,ex (.int .u8 (m:Nat))].map .d),.var 74 ((ZP r).map .d),.dead,.row 55 8 ((l0 ++ TJ rr k).map AE)]⟩) ?le ⟨0,by omega,rfl,rfl⟩ ?round
 case le=>exact Ag (by exact Yp<|Yd<|Yd<|FrLe.cons rfl (AVle.own rfl)<|Yd<|FrLe.nil) (by exact Yv<|Yv<|HpLe.cons (OwLe.dead)<|HpLe.cons (DJ (by rw [show TJ rr 0 = [] from rfl,List.append_nil]))<|HpLe.nil)
 case round =>
  rintro mz _ ⟨k,hk,rfl,rfl⟩
  by_cases hlt:k<n
  ·have hk3 : k < 3 := by omega
   have hk8:k<8:=by omega
   have hrk:rr k = r k % 5:=by rw [hrr]
   have hr256:=hr k hk3
   have hpl:=Rd rr k
   have hll:(l0 ++ TJ rr k).length≤8:=by rw [List.length_append,hpl];omega
   have e1:(l0 ++ TJ rr k) ++ [Wf k ((r k % 5:Nat):Int)] = l0 ++ TJ rr (k+1):=by rw [← Ug,hrk,List.append_assoc]
   refine Aa<|Y1<|Wm<|Wm ?_;refine Wq Ar ?_;apply Y0;refine Ct ?_;refine Ys<|Aa<|AWp.block<|Y1 ?_;(refine Di rfl rfl ?_;(refine EM (Ac rfl) (Ac rfl) rfl rfl ?_;(repeat ((first | refine ⟨_,BA (ao rfl),?_⟩ | refine ⟨_,Po rfl,?_⟩);refine ⟨_,rfl,?_⟩));refine ⟨_,rfl,?_⟩));refine Al ?_;refine Sf ?_;refine Y0<|Y1<|Wm<|Wm ?_;refine Wq AQ ?_;refine Wq (RO (ao rfl) rfl (Ac rfl) rfl (Tz (r:=r) (k:=k) hk3)) ?_;refine Wq (Ng (a:=r k) (b:=5) (ao rfl) (ao rfl) (by decide)) ?_;refine Wq (Mj (a:=r k) (c:=5) (ao rfl) (Ac rfl) (Ac rfl) hr256) ?_;refine Wq AQ ?_;refine BL (ao rfl) (ao rfl) rfl (Ac rfl) (Bw rfl) (show SetAt (AE fun _=>0) (0+k*1) [ex (.int .i64 ((r k % 5:Nat):Int))] (AE (Wf k ((r k % 5:Nat):Int))) from SetAt.mon hk8) rfl ?_;refine Y0<|AWp.region<|Wm ?_;refine Wq AL ?_;refine Wq (Ey (ao rfl) (Ac rfl) (Ac rfl) rfl rfl rfl rfl rfl) ?_;(refine Ap ?_);refine Wa ?_;apply AWl.nil;apply Ah;refine Yn<|AWp.region<|Wm ?_;refine Wq AG ?_;refine Wa ?_;apply AWl.nil
   refine ALoop.next (n - (k+1)) (by omega) ⟨k+1,by omega,rfl,rfl⟩ ?_
   exact Ag (by exact Yp<|Yd<|Yd<|FrLe.cons rfl (AVle.own rfl)<|Yd<|FrLe.nil) (by apply Yv;apply Yv;refine HpLe.cons (OwLe.dead) ?_;refine HpLe.cons (DJ ((If AE _ (Wf k ((r k % 5:Nat):Int))).trans (by rw [e1]))) ?_;exact HpLe.nil)
  ·obtain rfl : k = n := by omega
   rw [← hl]
   refine Aa<|Y1<|Wm<|Wm ?_;refine Wq Aq ?_;apply Y0;refine Cf ?_;apply AF;apply Az;apply AA;apply AB;refine Yn<|Y1<|Wm<|Wm ?_;refine Wq (Am (cst)) ?_;refine Wm ?_;refine Wq Cu ?_;refine Wq Cu ?_;refine Wa<|Wa<|Y0<|Aa<|Y1<|Wm ?_;refine Wq Aq ?_;refine Wm ?_;refine Wg Ae ?_
   refine Mo (t:=57) rfl fun K' hK'=>?_
   refine Mo (t:=10) rfl fun K hK=>?_
   have h64':=hK64 K' hK'
   have h64:=hK64 K hK
   have hKs:∀ i,i<K.length→StdX l k (AC K i):=fun i hi=>(hK.2 _).1 ⟨_,EW hi,Eqv.refl _⟩
   have hKp:K.Pairwise fun a b=>¬ Eqv a b:=hK.1.imp fun {a b} h e=>by
    rw [Fp.2 e] at h
    exact absurd h (by decide)
   have hcK:=Za (K:=K) (n:=k) (by omega) hK.2 hKp
   refine Wg Ca ?_;refine Wg Aq ?_;refine Wq AW ?_;apply Y0;refine Cf ?_;refine Ys<|Y1 ?_;refine RX (c:=13) (ao rfl) (ao rfl) (Ac rfl) (Ac rfl) rfl rfl (by decide) rfl rfl rfl rfl (fun g=>rfl) fun g=>?_;refine Wa<|Y0<|Aa<|Y1<|Wa<|Y0<|AWp.block ?_
   refine AK (fun mz σ=>∃ i,i≤K.length∧mz = K.length - i∧σ = ⟨[(5,.d (ex (.bool true))),(6,.d (ex (.int .i64 (k:Nat)))),(7,.d (BF l)),(10,.d (BF K)),(12,.d (sX g 13 13)),(13,.d (ex (.int .i64 (i:Nat))))],[.dead,.dead,.dead,.dead,.obj (Bj [⟨g,3,nC (fun d=>((cK K i d:Nat):Int)) 13⟩])]⟩) ?lei ⟨0,by omega,rfl,rfl⟩ ?roundi
   case lei=>exact Ag (by exact Yd<|Yd<|FrLe.cons rfl (TG rfl (D.le.refl _))<|Yd<|Yd<|Yd<|FrLe.nil) (by exact HpLe.cons (OwLe.dead)<|HpLe.cons (OwLe.dead)<|HpLe.cons (OwLe.dead)<|HpLe.cons (OwLe.dead)<|HpLe.cons (OwLe.obj (by rw [Xd,← Uc]))<|HpLe.nil)
   case roundi =>
    rintro mz _ ⟨i,hi,rfl,rfl⟩
    by_cases hlti:i<K.length
    ·have hx:=hKs i hlti
     have hx3:=hxs _ hx
     have hdg:BN 8 0 (AC K i)≤9:=UX hx3
     have cin:=Jp (AC K i) l (by omega)
     rw [hx.2] at cin
     have cdg:=Vv (AC K i) fun j hj=>⟨(hx3 j hj).1,by have:=(hx3 j hj).2.1;omega⟩
     have hle:=A0e K i (BN 8 0 (AC K i))
     have hst:SetAt (nC (fun d=>((cK K i d:Nat):Int)) 13) (BN 8 0 (AC K i)*1) [ex (.int .i64 ((cK K i (BN 8 0 (AC K i))+1:Nat):Int))] (nC (fun d=>((cK K (i+1) d:Nat):Int)) 13):=by
      rw [Xe hlti]
      exact MF (z:=((cK K i (BN 8 0 (AC K i))+1:Nat):Int)) (by omega)
     by_cases hi0:i = 0
     ·have hi1 : ¬ (0 : Int) < ((i : Nat) : Int) := by omega
      refine Aa<|Y1<|Wm<|Wm ?_;refine Wq Ca ?_;refine Wq Ar ?_;apply Y0;refine Ct ?_;refine Ys<|Aa<|AWp.block<|Aa<|Aa ?_
      refine Dr [[],[],[(68,0),(69,1)],[(70,2)],[],[(71,3),(72,4)],[(73,5)],[],[(75,7)],[(76,8)],[],[],[(79,11)],[(78,10),(80,12)],[(81,13)],[],[],[(83,15),(84,16)],[(85,17)],[(82,14),(86,18)],[(87,19)],[(77,9),(88,20)],[(74,6),(89,21)],[(90,22)],[],[],[(92,24),(93,25)],[(94,26)],[(95,27)],[(96,28)],[(91,23),(97,29)],[(98,30)],[],[],[(100,32),(101,33)],[(102,34)],[(103,35)],[(104,36)],[(99,31),(105,37)]] [[],[],[0,1],[0,1,2],[],[0,1,2,3,4],[0,1,2,3,4,5],[0,1,2,3,4,5,6],[0,1,2,3,4,5,6,7],[0,1,2,3,4,5,6,7,8],[0,1,2,3,4,5,6,7,8,9],[0,1,2,3,4,5,6,7,8,9],[0,1,2,3,4,5,6,7,8,9,11],[0,1,2,3,4,5,6,7,8,9,10,11,12],[0,1,2,3,4,5,6,7,8,9,10,11,12,13],[0,1,2,3,4,5,6,7,8,9],[0,1,2,3,4,5,6,7,8,9],[0,1,2,3,4,5,6,7,8,9,15,16],[0,1,2,3,4,5,6,7,8,9,15,16,17],[0,1,2,3,4,5,6,7,8,9,10,11,12,13,14,15,16,17,18],[0,1,2,3,4,5,6,7,8,9,10,11,12,13,14,15,16,17,18,19],[0,1,2,3,4,5,6,7,8,9,10,11,12,13,14,15,16,17,18,19,20],[0,1,2,3,4,5,6,7,8,9,10,11,12,13,14,15,16,17,18,19,20,21],[0,1,2,3,4,5,6,7,8,9,10,11,12,13,14,15,16,17,18,19,20,21,22],[0,1,2,3,4,5,6,7,8,9,10,11,12,13,14,15,16,17,18,19,20,21,22,23],[0,1,2,3,4,5,6,7,8,9,10,11,12,13,14,15,16,17,18,19,20,21,22,23],[0,1,2,3,4,5,6,7,8,9,10,11,12,13,14,15,16,17,18,19,20,21,22,23,24,25],[0,1,2,3,4,5,6,7,8,9,10,11,12,13,14,15,16,17,18,19,20,21,22,23,24,25,26],[0,1,2,3,4,5,6,7,8,9,10,11,12,13,14,15,16,17,18,19,20,21,22,23,24,25,26,27],[0,1,2,3,4,5,6,7,8,9,10,11,12,13,14,15,16,17,18,19,20,21,22,23,24,25,26,27,28],[0,1,2,3,4,5,6,7,8,9,10,11,12,13,14,15,16,17,18,19,20,21,22,23,24,25,26,27,28,29],[0,1,2,3,4,5,6,7,8,9,10,11,12,13,14,15,16,17,18,19,20,21,22,23,24,25,26,27,28,29,30],[0,1,2,3,4,5,6,7,8,9,10,11,12,13,14,15,16,17,18,19,20,21,22,23,24,25,26,27,28,29,30,31],[0,1,2,3,4,5,6,7,8,9,10,11,12,13,14,15,16,17,18,19,20,21,22,23,24,25,26,27,28,29,30,31],[0,1,2,3,4,5,6,7,8,9,10,11,12,13,14,15,16,17,18,19,20,21,22,23,24,25,26,27,28,29,30,31,32,33],[0,1,2,3,4,5,6,7,8,9,10,11,12,13,14,15,16,17,18,19,20,21,22,23,24,25,26,27,28,29,30,31,32,33,34],[0,1,2,3,4,5,6,7,8,9,10,11,12,13,14,15,16,17,18,19,20,21,22,23,24,25,26,27,28,29,30,31,32,33,34,35],[0,1,2,3,4,5,6,7,8,9,10,11,12,13,14,15,16,17,18,19,20,21,22,23,24,25,26,27,28,29,30,31,32,33,34,35,36],[0,1,2,3,4,5,6,7,8,9,10,11,12,13,14,15,16,17,18,19,20,21,22,23,24,25,26,27,28,29,30,31,32,33,34,35,36,37]] ?_
      refine Xq Ae ?_;refine Xq Ae ?_;refine Xq Bd ?_;refine Xq AR ?_;refine Xq Ae ?_;refine Xq (Am (cin)) ?_;refine Xq Ae ?_;refine Xg Ae ?_;refine Xg Aq ?_;refine Xg Ae ?_;refine Xs ?_;refine Xs ?_;refine Xs ?_;refine Xs ?_;refine Xs ?_;refine Xs ?_;refine Xs ?_;refine Xs ?_;refine Xs ?_;refine Xs ?_;refine Xs ?_;refine Xg AW ?_;refine Xq AW ?_;refine Xq Ae ?_;refine Xg Ae ?_;refine Xg Ae ?_;refine Xg Bd ?_;refine Xg AR ?_;refine Xg (Am (cdg)) ?_;refine Xg Aq ?_;refine Xq AW ?_;refine Xq Ae ?_;refine Xg Ae ?_;refine Xg Ae ?_;refine Xg Bd ?_;refine Xg AR ?_;refine Xg (Am (cdg)) ?_;refine Xg Aq ?_;refine Xq AW ?_;refine ⟨_,rfl,?_⟩
      apply Y0;refine Cf ?_;refine Ys<|Y1<|Wm<|Wm<|Wm ?_;refine Wq Bd ?_;refine Wq AR ?_;refine Wq (Am (cdg)) ?_;refine Wq (Co (k:=BN 8 0 (AC K i)) (ao rfl) (ao rfl) (Ac rfl) (Ac rfl) (by omega)) ?_;refine Wq (GY (e:=⟨g,3,nC (fun d=>((cK K i d:Nat):Int)) 13⟩) 4 0 (ao rfl) rfl rfl (Ac rfl) rfl (Ej (i:=BN 8 0 (AC K i)) (by omega))) ?_;refine Wq AG ?_;refine Wq (Co (k:=BN 8 0 (AC K i)) (ao rfl) (ao rfl) (Ac rfl) (Ac rfl) (by omega)) ?_;refine KU (e:=⟨g,3,nC (fun d=>((cK K i d:Nat):Int)) 13⟩) 4 0 (ao rfl) (ao rfl) rfl rfl (Ac rfl) (Bw rfl) hst rfl ?_;refine Y0<|Y1<|Wa<|Y0<|AWp.block ?_
      refine AK (fun mz σ=>∃ j,j≤k∧mz = k - j∧σ = ⟨[(5,.d (ex (.bool true))),(6,.d (ex (.int .i64 (k:Nat)))),(7,.d (BF l)),(10,.d (BF K)),(12,.d (sX g 13 13)),(13,.d (ex (.int .i64 (i:Nat)))),(14,.d (ex (.int .i64 (j:Nat))))],[.dead,.dead,.dead,.dead,.obj (Bj [⟨g,3,nC (fun d=>((cK K (i+1) d:Nat):Int)) 13⟩])]⟩) ?lej ⟨0,by omega,rfl,rfl⟩ ?roundj
      case lej=>exact Ag (by exact Yd<|Yd<|Yd<|Yd<|Yd<|Yd<|Yd<|FrLe.nil) (by exact HpLe.cons (OwLe.dead)<|HpLe.cons (OwLe.dead)<|HpLe.cons (OwLe.dead)<|HpLe.cons (OwLe.dead)<|HpLe.cons (OwLe.obj rfl)<|HpLe.nil)
      case roundj =>
       rintro mz _ ⟨j,hj,rfl,rfl⟩
       by_cases hltj:j<k
       ·have hj8 : j < 8 := by omega
        have hxj:=hx3 j hj8
        have hxj2:0≤K.getD i default j∧K.getD i default j≤3:=⟨hxj.1,hxj.2.1⟩
        have cup:=Jp (IA (AC K i) j) l (by omega)
        have hup:inB l (IA (AC K i) j) = false→(K.any fun a=>Gl a (IA (AC K i) j)) = true:=fun h=>JA.2 ((hK.2 _).2 (TS hx hltj h))
        have hdn:0≤AC K i j - 1→(K.any fun a=>Gl a (Wh (AC K i) j)) = true:=fun h=>JA.2 ((hK.2 _).2 (TT hx hltj (by show 0≤(if j = j then _ else _);rw [if_pos rfl];exact h)))
        have chu:=JB (IA (AC K i) j) K (by omega)
        have chd:=JB (Wh (AC K i) j) K (by omega)
        refine Aa<|Y1<|Wm<|Wm ?_;refine Wq Ar ?_;apply Y0;refine Ct ?_;refine Ys<|Aa<|AWp.block<|Aa ?_
        refine Sc (τ:=⟨[(5,.d (ex (.bool true))),(6,.d (ex (.int .i64 (k:Nat)))),(7,.d (BF l)),(10,.d (BF K)),(12,.d (sX g 13 13)),(13,.d (ex (.int .i64 (i:Nat)))),(14,.d (ex (.int .i64 (j:Nat)))),(15,.ptr 5 0),(16,.ptr 6 0)],[.dead,.dead,.dead,.dead,.obj (Bj [⟨g,3,nC (fun d=>((cK K (i+1) d:Nat):Int)) 13⟩]),.var 55 ((AE (AC K i)).map .d),.var 55 ((AE (AC K i)).map .d)]⟩) (by kernel_rfl) [[],[],[(122,0),(123,1)],[(124,2)],[],[],[(126,4),(127,5)],[(128,6)],[],[],[(15,8),(125,3)],[(16,9),(129,7)]] [.av (.d (BF K)),.av (.d (ex (.int .i64 (i:Nat)))),.av (.d (Hf 55 (AE (AC K i)))),.av (.d (BK (AE (AC K i)))),.av (.d (BF K)),.av (.d (ex (.int .i64 (i:Nat)))),.av (.d (Hf 55 (AE (AC K i)))),.av (.d (BK (AE (AC K i)))),.newS 55 10 (AE (AC K i)),.newS 55 11 (AE (AC K i)),.st 8,.st 9] (by kernel_rfl) ?_ ?_ ?_
        ·refine HYSteps.cons (.q rfl (DM rfl)) (HYSteps.cons (.q rfl (DM rfl)) (HYSteps.cons (.q rfl (Ec rfl rfl (Ac rfl) (Ac rfl) rfl hlti)) (HYSteps.cons (.q rfl (FO rfl (Ac rfl) rfl rfl)) ?_)))
         refine HYSteps.cons (.q rfl (DM rfl)) (HYSteps.cons (.q rfl (DM rfl)) (HYSteps.cons (.q rfl (Ec rfl rfl (Ac rfl) (Ac rfl) rfl hlti)) (HYSteps.cons (.q rfl (FO rfl (Ac rfl) rfl rfl)) ?_)))
         exact HYSteps.cons (.n rfl (Ac rfl) rfl rfl rfl rfl rfl) (HYSteps.cons (.n rfl (Ac rfl) rfl rfl rfl rfl rfl) (HYSteps.cons (.s rfl rfl rfl (by decide) rfl rfl (Ac rfl)) (HYSteps.cons (.s rfl rfl rfl (by decide) rfl rfl (Ac rfl)) HYSteps.nil)))
        ·exact Ag (by exact Yd<|Yd<|Yd<|Yd<|Yd<|Yd<|Yd<|Yp<|Yp<|FrLe.nil) (by exact HpLe.cons (OwLe.dead)<|HpLe.cons (OwLe.dead)<|HpLe.cons (OwLe.dead)<|HpLe.cons (OwLe.dead)<|HpLe.cons (OwLe.obj rfl)<|Yv<|Yv<|HpLe.nil)
        cases hb:inB l (IA (AC K i) j)
        ·rw [hb] at cup
         rw [hup hb] at chu
         by_cases h0:0≤K.getD i default j - 1
         ·rw [hdn h0] at chd
          have h0':DD (AC K i) j (AC K i j - 1) j ≥ 0:=by rw [show DD (AC K i) j (AC K i j - 1) j = AC K i j - 1 from if_pos rfl];exact h0
          refine Yn<|Y1<|Wm ?_;refine Wq AQ ?_;refine Wq Bg ?_;refine Wq CP ?_;refine Wq AQ ?_;(refine BL (ao rfl) (ao rfl) rfl (Ac rfl) (by first | exact Bw rfl | exact One.sl | exact Cv) (SetAt.mon (by first | omega | (simp;omega))) rfl ?_);refine Y0<|Y1<|Wm ?_;refine Wq AQ ?_;refine Wq Bg ?_;refine Wq DS ?_;refine Wq AQ ?_;(refine BL (ao rfl) (ao rfl) rfl (Ac rfl) (by first | exact Bw rfl | exact One.sl | exact Cv) (SetAt.mon (by first | omega | (simp;omega))) rfl ?_);refine Y0<|Y1 ?_;refine Wq AL ?_;refine Wm ?_;refine Wq (Am (cup)) ?_;refine Wq Ci ?_;refine Wm ?_;refine Wg Ae ?_;refine Wg AL ?_;refine Wg (Am (chu)) ?_;refine Wg Ci ?_;refine Wq AU ?_;refine Wm ?_;refine Wg Ae ?_;refine Wg AQ ?_;refine Wg Bg ?_;refine Wg Ar ?_;refine Wg Ae ?_;refine Wg Ae ?_;refine Wg AL ?_;refine Wg (Am (chd)) ?_;refine Wg Ci ?_;refine Wg AU ?_;refine Wq AW ?_;apply Y0;refine Cf ?_;apply Bf;apply Ah;refine Yn<|AWp.region<|Wm ?_;refine Wq AG ?_;refine Wa ?_;apply AWl.nil
          refine ALoop.next (k - (j+1)) (by omega) ⟨j+1,by omega,rfl,rfl⟩ ?_
          exact Ag (by exact Yd<|Yd<|Yd<|Yd<|Yd<|Yd<|Yd<|FrLe.nil) (by exact HpLe.cons (OwLe.dead)<|HpLe.cons (OwLe.dead)<|HpLe.cons (OwLe.dead)<|HpLe.cons (OwLe.dead)<|HpLe.cons (OwLe.obj rfl)<|HpLe.nil)
         ·skip
          have h0':¬ DD (AC K i) j (AC K i j - 1) j ≥ 0:=by rw [show DD (AC K i) j (AC K i j - 1) j = AC K i j - 1 from if_pos rfl];exact h0
          refine Yn<|Y1<|Wm ?_;refine Wq AQ ?_;refine Wq Bg ?_;refine Wq CP ?_;refine Wq AQ ?_;(refine BL (ao rfl) (ao rfl) rfl (Ac rfl) (by first | exact Bw rfl | exact One.sl | exact Cv) (SetAt.mon (by first | omega | (simp;omega))) rfl ?_);refine Y0<|Y1<|Wm ?_;refine Wq AQ ?_;refine Wq Bg ?_;refine Wq DS ?_;refine Wq AQ ?_;(refine BL (ao rfl) (ao rfl) rfl (Ac rfl) (by first | exact Bw rfl | exact One.sl | exact Cv) (SetAt.mon (by first | omega | (simp;omega))) rfl ?_);refine Y0<|Y1 ?_;refine Wq AL ?_;refine Wm ?_;refine Wq (Am (cup)) ?_;refine Wq Ci ?_;refine Wm ?_;refine Wg Ae ?_;refine Wg AL ?_;refine Wg (Am (chu)) ?_;refine Wg Ci ?_;refine Wq AU ?_;refine Wm ?_;refine Wg Ae ?_;refine Wg AQ ?_;refine Wg Bg ?_;refine Wg Aq ?_;refine Wg Ae ?_;refine Ws ?_;refine Ws ?_;refine Ws ?_;refine Ws ?_;refine Wg AW ?_;refine Wq AW ?_;apply Y0;refine Cf ?_;apply Bf;apply Ah;refine Yn<|AWp.region<|Wm ?_;refine Wq AG ?_;refine Wa ?_;apply AWl.nil
          refine ALoop.next (k - (j+1)) (by omega) ⟨j+1,by omega,rfl,rfl⟩ ?_
          exact Ag (by exact Yd<|Yd<|Yd<|Yd<|Yd<|Yd<|Yd<|FrLe.nil) (by exact HpLe.cons (OwLe.dead)<|HpLe.cons (OwLe.dead)<|HpLe.cons (OwLe.dead)<|HpLe.cons (OwLe.dead)<|HpLe.cons (OwLe.obj rfl)<|HpLe.nil)
        ·rw [hb] at cup
         by_cases h0:0≤K.getD i default j - 1
         ·rw [hdn h0] at chd
          have h0':DD (AC K i) j (AC K i j - 1) j ≥ 0:=by rw [show DD (AC K i) j (AC K i j - 1) j = AC K i j - 1 from if_pos rfl];exact h0
          refine Yn<|Y1<|Wm ?_;refine Wq AQ ?_;refine Wq Bg ?_;refine Wq CP ?_;refine Wq AQ ?_;(refine BL (ao rfl) (ao rfl) rfl (Ac rfl) (by first | exact Bw rfl | exact One.sl | exact Cv) (SetAt.mon (by first | omega | (simp;omega))) rfl ?_);refine Y0<|Y1<|Wm ?_;refine Wq AQ ?_;refine Wq Bg ?_;refine Wq DS ?_;refine Wq AQ ?_;(refine BL (ao rfl) (ao rfl) rfl (Ac rfl) (by first | exact Bw rfl | exact One.sl | exact Cv) (SetAt.mon (by first | omega | (simp;omega))) rfl ?_);refine Y0<|Y1 ?_;refine Wq AL ?_;refine Wm ?_;refine Wq (Am (cup)) ?_;refine Wq Ci ?_;refine Wm ?_;refine Ws ?_;refine Ws ?_;refine Ws ?_;refine Ws ?_;refine Wq AW ?_;refine Wm ?_;refine Wg Ae ?_;refine Wg AQ ?_;refine Wg Bg ?_;refine Wg Ar ?_;refine Wg Ae ?_;refine Wg Ae ?_;refine Wg AL ?_;refine Wg (Am (chd)) ?_;refine Wg Ci ?_;refine Wg AU ?_;refine Wq AW ?_;apply Y0;refine Cf ?_;apply Bf;apply Ah;refine Yn<|AWp.region<|Wm ?_;refine Wq AG ?_;refine Wa ?_;apply AWl.nil
          refine ALoop.next (k - (j+1)) (by omega) ⟨j+1,by omega,rfl,rfl⟩ ?_
          exact Ag (by exact Yd<|Yd<|Yd<|Yd<|Yd<|Yd<|Yd<|FrLe.nil) (by exact HpLe.cons (OwLe.dead)<|HpLe.cons (OwLe.dead)<|HpLe.cons (OwLe.dead)<|HpLe.cons (OwLe.dead)<|HpLe.cons (OwLe.obj rfl)<|HpLe.nil)
         ·skip
          have h0':¬ DD (AC K i) j (AC K i j - 1) j ≥ 0:=by rw [show DD (AC K i) j (AC K i j - 1) j = AC K i j - 1 from if_pos rfl];exact h0
          refine Yn<|Y1<|Wm ?_;refine Wq AQ ?_;refine Wq Bg ?_;refine Wq CP ?_;refine Wq AQ ?_;(refine BL (ao rfl) (ao rfl) rfl (Ac rfl) (by first | exact Bw rfl | exact One.sl | exact Cv) (SetAt.mon (by first | omega | (simp;omega))) rfl ?_);refine Y0<|Y1<|Wm ?_;refine Wq AQ ?_;refine Wq Bg ?_;refine Wq DS ?_;refine Wq AQ ?_;(refine BL (ao rfl) (ao rfl) rfl (Ac rfl) (by first | exact Bw rfl | exact One.sl | exact Cv) (SetAt.mon (by first | omega | (simp;omega))) rfl ?_);refine Y0<|Y1 ?_;refine Wq AL ?_;refine Wm ?_;refine Wq (Am (cup)) ?_;refine Wq Ci ?_;refine Wm ?_;refine Ws ?_;refine Ws ?_;refine Ws ?_;refine Ws ?_;refine Wq AW ?_;refine Wm ?_;refine Wg Ae ?_;refine Wg AQ ?_;refine Wg Bg ?_;refine Wg Aq ?_;refine Wg Ae ?_;refine Ws ?_;refine Ws ?_;refine Ws ?_;refine Ws ?_;refine Wg AW ?_;refine Wq AW ?_;apply Y0;refine Cf ?_;apply Bf;apply Ah;refine Yn<|AWp.region<|Wm ?_;refine Wq AG ?_;refine Wa ?_;apply AWl.nil
          refine ALoop.next (k - (j+1)) (by omega) ⟨j+1,by omega,rfl,rfl⟩ ?_
          exact Ag (by exact Yd<|Yd<|Yd<|Yd<|Yd<|Yd<|Yd<|FrLe.nil) (by exact HpLe.cons (OwLe.dead)<|HpLe.cons (OwLe.dead)<|HpLe.cons (OwLe.dead)<|HpLe.cons (OwLe.dead)<|HpLe.cons (OwLe.obj rfl)<|HpLe.nil)
       ·obtain rfl : j = k := by omega
        refine Aa<|Y1<|Wm<|Wm ?_;refine Wq Aq ?_;apply Y0;refine Cf ?_;apply AF;apply Az;apply AA;apply AB;apply Ah;refine Yn<|AWp.region<|Wm ?_;refine Wq AG ?_;refine Wa ?_;apply AWl.nil
        refine ALoop.next (K.length - (i+1)) (by omega) ⟨i+1,by omega,rfl,rfl⟩ ?_
        exact Ag (by exact Yd<|Yd<|Yd<|Yd<|Yd<|Yd<|FrLe.nil) (by exact HpLe.cons (OwLe.dead)<|HpLe.cons (OwLe.dead)<|HpLe.cons (OwLe.dead)<|HpLe.cons (OwLe.dead)<|HpLe.cons (OwLe.obj rfl)<|HpLe.nil)
     ·have hi1 : 0 < i := by omega
      have hip:i - 1<K.length:=by omega
      have ccm:=Te (AC K (i - 1)) (AC K i)
      have hcm:Eu (AC K (i - 1)) (AC K i)<0:=by
       have h:=List.pairwise_iff_getElem.1 hK.1 (i - 1) i hip hlti (by omega)
       rw [← Kh,AC,AC,List.getD_eq_getElem?_getD,List.getD_eq_getElem?_getD,List.getElem?_eq_getElem hip,List.getElem?_eq_getElem hlti]
       exact h
      refine Aa<|Y1<|Wm<|Wm ?_;refine Wq Ca ?_;refine Wq Ar ?_;apply Y0;refine Ct ?_;refine Ys<|Aa<|AWp.block<|Aa<|Aa ?_
      refine Dr [[],[],[(68,0),(69,1)],[(70,2)],[],[(71,3),(72,4)],[(73,5)],[],[(75,7)],[(76,8)],[],[],[(79,11)],[(78,10),(80,12)],[(81,13)],[],[],[(83,15),(84,16)],[(85,17)],[(82,14),(86,18)],[(87,19)],[(77,9),(88,20)],[(74,6),(89,21)],[(90,22)],[],[],[(92,24),(93,25)],[(94,26)],[(95,27)],[(96,28)],[(91,23),(97,29)],[(98,30)],[],[],[(100,32),(101,33)],[(102,34)],[(103,35)],[(104,36)],[(99,31),(105,37)]] [[],[],[0,1],[0,1,2],[],[0,1,2,3,4],[0,1,2,3,4,5],[0,1,2,3,4,5,6],[0,1,2,3,4,5,6,7],[0,1,2,3,4,5,6,7,8],[0,1,2,3,4,5,6,7,8,9],[0,1,2,3,4,5,6,7,8,9],[0,1,2,3,4,5,6,7,8,9,11],[0,1,2,3,4,5,6,7,8,9,10,11,12],[0,1,2,3,4,5,6,7,8,9,10,11,12,13],[0,1,2,3,4,5,6,7,8,9],[0,1,2,3,4,5,6,7,8,9],[0,1,2,3,4,5,6,7,8,9,15,16],[0,1,2,3,4,5,6,7,8,9,15,16,17],[0,1,2,3,4,5,6,7,8,9,10,11,12,13,14,15,16,17,18],[0,1,2,3,4,5,6,7,8,9,10,11,12,13,14,15,16,17,18,19],[0,1,2,3,4,5,6,7,8,9,10,11,12,13,14,15,16,17,18,19,20],[0,1,2,3,4,5,6,7,8,9,10,11,12,13,14,15,16,17,18,19,20,21],[0,1,2,3,4,5,6,7,8,9,10,11,12,13,14,15,16,17,18,19,20,21,22],[0,1,2,3,4,5,6,7,8,9,10,11,12,13,14,15,16,17,18,19,20,21,22,23],[0,1,2,3,4,5,6,7,8,9,10,11,12,13,14,15,16,17,18,19,20,21,22,23],[0,1,2,3,4,5,6,7,8,9,10,11,12,13,14,15,16,17,18,19,20,21,22,23,24,25],[0,1,2,3,4,5,6,7,8,9,10,11,12,13,14,15,16,17,18,19,20,21,22,23,24,25,26],[0,1,2,3,4,5,6,7,8,9,10,11,12,13,14,15,16,17,18,19,20,21,22,23,24,25,26,27],[0,1,2,3,4,5,6,7,8,9,10,11,12,13,14,15,16,17,18,19,20,21,22,23,24,25,26,27,28],[0,1,2,3,4,5,6,7,8,9,10,11,12,13,14,15,16,17,18,19,20,21,22,23,24,25,26,27,28,29],[0,1,2,3,4,5,6,7,8,9,10,11,12,13,14,15,16,17,18,19,20,21,22,23,24,25,26,27,28,29,30],[0,1,2,3,4,5,6,7,8,9,10,11,12,13,14,15,16,17,18,19,20,21,22,23,24,25,26,27,28,29,30,31],[0,1,2,3,4,5,6,7,8,9,10,11,12,13,14,15,16,17,18,19,20,21,22,23,24,25,26,27,28,29,30,31],[0,1,2,3,4,5,6,7,8,9,10,11,12,13,14,15,16,17,18,19,20,21,22,23,24,25,26,27,28,29,30,31,32,33],[0,1,2,3,4,5,6,7,8,9,10,11,12,13,14,15,16,17,18,19,20,21,22,23,24,25,26,27,28,29,30,31,32,33,34],[0,1,2,3,4,5,6,7,8,9,10,11,12,13,14,15,16,17,18,19,20,21,22,23,24,25,26,27,28,29,30,31,32,33,34,35],[0,1,2,3,4,5,6,7,8,9,10,11,12,13,14,15,16,17,18,19,20,21,22,23,24,25,26,27,28,29,30,31,32,33,34,35,36],[0,1,2,3,4,5,6,7,8,9,10,11,12,13,14,15,16,17,18,19,20,21,22,23,24,25,26,27,28,29,30,31,32,33,34,35,36,37]] ?_
      refine Xq Ae ?_;refine Xq Ae ?_;refine Xq Bd ?_;refine Xq AR ?_;refine Xq Ae ?_;refine Xq (Am (cin)) ?_;refine Xq Ae ?_;refine Xg Ae ?_;refine Xg Ar ?_;refine Xg Ae ?_;refine Xg Ae ?_;refine Xg Ae ?_;refine Xg El ?_;refine Xg Bd ?_;refine Xg AR ?_;refine Xg Ae ?_;refine Xg Ae ?_;refine Xg Bd ?_;refine Xg AR ?_;refine Xg (Am (ccm)) ?_;refine Xg Aq ?_;refine Xg AU ?_;refine Xq AW ?_;refine Xq Ae ?_;refine Xg Ae ?_;refine Xg Ae ?_;refine Xg Bd ?_;refine Xg AR ?_;refine Xg (Am (cdg)) ?_;refine Xg Aq ?_;refine Xq AW ?_;refine Xq Ae ?_;refine Xg Ae ?_;refine Xg Ae ?_;refine Xg Bd ?_;refine Xg AR ?_;refine Xg (Am (cdg)) ?_;refine Xg Aq ?_;refine Xq AW ?_;refine ⟨_,rfl,?_⟩
      apply Y0;refine Cf ?_;refine Ys<|Y1<|Wm<|Wm<|Wm ?_;refine Wq Bd ?_;refine Wq AR ?_;refine Wq (Am (cdg)) ?_;refine Wq (Co (k:=BN 8 0 (AC K i)) (ao rfl) (ao rfl) (Ac rfl) (Ac rfl) (by omega)) ?_;refine Wq (GY (e:=⟨g,3,nC (fun d=>((cK K i d:Nat):Int)) 13⟩) 4 0 (ao rfl) rfl rfl (Ac rfl) rfl (Ej (i:=BN 8 0 (AC K i)) (by omega))) ?_;refine Wq AG ?_;refine Wq (Co (k:=BN 8 0 (AC K i)) (ao rfl) (ao rfl) (Ac rfl) (Ac rfl) (by omega)) ?_;refine KU (e:=⟨g,3,nC (fun d=>((cK K i d:Nat):Int)) 13⟩) 4 0 (ao rfl) (ao rfl) rfl rfl (Ac rfl) (Bw rfl) hst rfl ?_;refine Y0<|Y1<|Wa<|Y0<|AWp.block ?_
      refine AK (fun mz σ=>∃ j,j≤k∧mz = k - j∧σ = ⟨[(5,.d (ex (.bool true))),(6,.d (ex (.int .i64 (k:Nat)))),(7,.d (BF l)),(10,.d (BF K)),(12,.d (sX g 13 13)),(13,.d (ex (.int .i64 (i:Nat)))),(14,.d (ex (.int .i64 (j:Nat))))],[.dead,.dead,.dead,.dead,.obj (Bj [⟨g,3,nC (fun d=>((cK K (i+1) d:Nat):Int)) 13⟩])]⟩) ?lej ⟨0,by omega,rfl,rfl⟩ ?roundj
      case lej=>exact Ag (by exact Yd<|Yd<|Yd<|Yd<|Yd<|Yd<|Yd<|FrLe.nil) (by exact HpLe.cons (OwLe.dead)<|HpLe.cons (OwLe.dead)<|HpLe.cons (OwLe.dead)<|HpLe.cons (OwLe.dead)<|HpLe.cons (OwLe.obj rfl)<|HpLe.nil)
      case roundj =>
       rintro mz _ ⟨j,hj,rfl,rfl⟩
       by_cases hltj:j<k
       ·have hj8 : j < 8 := by omega
        have hxj:=hx3 j hj8
        have hxj2:0≤K.getD i default j∧K.getD i default j≤3:=⟨hxj.1,hxj.2.1⟩
        have cup:=Jp (IA (AC K i) j) l (by omega)
        have hup:inB l (IA (AC K i) j) = false→(K.any fun a=>Gl a (IA (AC K i) j)) = true:=fun h=>JA.2 ((hK.2 _).2 (TS hx hltj h))
        have hdn:0≤AC K i j - 1→(K.any fun a=>Gl a (Wh (AC K i) j)) = true:=fun h=>JA.2 ((hK.2 _).2 (TT hx hltj (by show 0≤(if j = j then _ else _);rw [if_pos rfl];exact h)))
        have chu:=JB (IA (AC K i) j) K (by omega)
        have chd:=JB (Wh (AC K i) j) K (by omega)
        refine Aa<|Y1<|Wm<|Wm ?_;refine Wq Ar ?_;apply Y0;refine Ct ?_;refine Ys<|Aa<|AWp.block<|Aa ?_
        refine Sc (τ:=⟨[(5,.d (ex (.bool true))),(6,.d (ex (.int .i64 (k:Nat)))),(7,.d (BF l)),(10,.d (BF K)),(12,.d (sX g 13 13)),(13,.d (ex (.int .i64 (i:Nat)))),(14,.d (ex (.int .i64 (j:Nat)))),(15,.ptr 5 0),(16,.ptr 6 0)],[.dead,.dead,.dead,.dead,.obj (Bj [⟨g,3,nC (fun d=>((cK K (i+1) d:Nat):Int)) 13⟩]),.var 55 ((AE (AC K i)).map .d),.var 55 ((AE (AC K i)).map .d)]⟩) (by kernel_rfl) [[],[],[(122,0),(123,1)],[(124,2)],[],[],[(126,4),(127,5)],[(128,6)],[],[],[(15,8),(125,3)],[(16,9),(129,7)]] [.av (.d (BF K)),.av (.d (ex (.int .i64 (i:Nat)))),.av (.d (Hf 55 (AE (AC K i)))),.av (.d (BK (AE (AC K i)))),.av (.d (BF K)),.av (.d (ex (.int .i64 (i:Nat)))),.av (.d (Hf 55 (AE (AC K i)))),.av (.d (BK (AE (AC K i)))),.newS 55 10 (AE (AC K i)),.newS 55 11 (AE (AC K i)),.st 8,.st 9] (by kernel_rfl) ?_ ?_ ?_
        ·refine HYSteps.cons (.q rfl (DM rfl)) (HYSteps.cons (.q rfl (DM rfl)) (HYSteps.cons (.q rfl (Ec rfl rfl (Ac rfl) (Ac rfl) rfl hlti)) (HYSteps.cons (.q rfl (FO rfl (Ac rfl) rfl rfl)) ?_)))
         refine HYSteps.cons (.q rfl (DM rfl)) (HYSteps.cons (.q rfl (DM rfl)) (HYSteps.cons (.q rfl (Ec rfl rfl (Ac rfl) (Ac rfl) rfl hlti)) (HYSteps.cons (.q rfl (FO rfl (Ac rfl) rfl rfl)) ?_)))
         exact HYSteps.cons (.n rfl (Ac rfl) rfl rfl rfl rfl rfl) (HYSteps.cons (.n rfl (Ac rfl) rfl rfl rfl rfl rfl) (HYSteps.cons (.s rfl rfl rfl (by decide) rfl rfl (Ac rfl)) (HYSteps.cons (.s rfl rfl rfl (by decide) rfl rfl (Ac rfl)) HYSteps.nil)))
        ·exact Ag (by exact Yd<|Yd<|Yd<|Yd<|Yd<|Yd<|Yd<|Yp<|Yp<|FrLe.nil) (by exact HpLe.cons (OwLe.dead)<|HpLe.cons (OwLe.dead)<|HpLe.cons (OwLe.dead)<|HpLe.cons (OwLe.dead)<|HpLe.cons (OwLe.obj rfl)<|Yv<|Yv<|HpLe.nil)
        cases hb:inB l (IA (AC K i) j)
        ·rw [hb] at cup
         rw [hup hb] at chu
         by_cases h0:0≤K.getD i default j - 1
         ·rw [hdn h0] at chd
          have h0':DD (AC K i) j (AC K i j - 1) j ≥ 0:=by rw [show DD (AC K i) j (AC K i j - 1) j = AC K i j - 1 from if_pos rfl];exact h0
          refine Yn<|Y1<|Wm ?_;refine Wq AQ ?_;refine Wq Bg ?_;refine Wq CP ?_;refine Wq AQ ?_;(refine BL (ao rfl) (ao rfl) rfl (Ac rfl) (by first | exact Bw rfl | exact One.sl | exact Cv) (SetAt.mon (by first | omega | (simp;omega))) rfl ?_);refine Y0<|Y1<|Wm ?_;refine Wq AQ ?_;refine Wq Bg ?_;refine Wq DS ?_;refine Wq AQ ?_;(refine BL (ao rfl) (ao rfl) rfl (Ac rfl) (by first | exact Bw rfl | exact One.sl | exact Cv) (SetAt.mon (by first | omega | (simp;omega))) rfl ?_);refine Y0<|Y1 ?_;refine Wq AL ?_;refine Wm ?_;refine Wq (Am (cup)) ?_;refine Wq Ci ?_;refine Wm ?_;refine Wg Ae ?_;refine Wg AL ?_;refine Wg (Am (chu)) ?_;refine Wg Ci ?_;refine Wq AU ?_;refine Wm ?_;refine Wg Ae ?_;refine Wg AQ ?_;refine Wg Bg ?_;refine Wg Ar ?_;refine Wg Ae ?_;refine Wg Ae ?_;refine Wg AL ?_;refine Wg (Am (chd)) ?_;refine Wg Ci ?_;refine Wg AU ?_;refine Wq AW ?_;apply Y0;refine Cf ?_;apply Bf;apply Ah;refine Yn<|AWp.region<|Wm ?_;refine Wq AG ?_;refine Wa ?_;apply AWl.nil
          refine ALoop.next (k - (j+1)) (by omega) ⟨j+1,by omega,rfl,rfl⟩ ?_
          exact Ag (by exact Yd<|Yd<|Yd<|Yd<|Yd<|Yd<|Yd<|FrLe.nil) (by exact HpLe.cons (OwLe.dead)<|HpLe.cons (OwLe.dead)<|HpLe.cons (OwLe.dead)<|HpLe.cons (OwLe.dead)<|HpLe.cons (OwLe.obj rfl)<|HpLe.nil)
         ·skip
          have h0':¬ DD (AC K i) j (AC K i j - 1) j ≥ 0:=by rw [show DD (AC K i) j (AC K i j - 1) j = AC K i j - 1 from if_pos rfl];exact h0
          refine Yn<|Y1<|Wm ?_;refine Wq AQ ?_;refine Wq Bg ?_;refine Wq CP ?_;refine Wq AQ ?_;(refine BL (ao rfl) (ao rfl) rfl (Ac rfl) (by first | exact Bw rfl | exact One.sl | exact Cv) (SetAt.mon (by first | omega | (simp;omega))) rfl ?_);refine Y0<|Y1<|Wm ?_;refine Wq AQ ?_;refine Wq Bg ?_;refine Wq DS ?_;refine Wq AQ ?_;(refine BL (ao rfl) (ao rfl) rfl (Ac rfl) (by first | exact Bw rfl | exact One.sl | exact Cv) (SetAt.mon (by first | omega | (simp;omega))) rfl ?_);refine Y0<|Y1 ?_;refine Wq AL ?_;refine Wm ?_;refine Wq (Am (cup)) ?_;refine Wq Ci ?_;refine Wm ?_;refine Wg Ae ?_;refine Wg AL ?_;refine Wg (Am (chu)) ?_;refine Wg Ci ?_;refine Wq AU ?_;refine Wm ?_;refine Wg Ae ?_;refine Wg AQ ?_;refine Wg Bg ?_;refine Wg Aq ?_;refine Wg Ae ?_;refine Ws ?_;refine Ws ?_;refine Ws ?_;refine Ws ?_;refine Wg AW ?_;refine Wq AW ?_;apply Y0;refine Cf ?_;apply Bf;apply Ah;refine Yn<|AWp.region<|Wm ?_;refine Wq AG ?_;refine Wa ?_;apply AWl.nil
          refine ALoop.next (k - (j+1)) (by omega) ⟨j+1,by omega,rfl,rfl⟩ ?_
          exact Ag (by exact Yd<|Yd<|Yd<|Yd<|Yd<|Yd<|Yd<|FrLe.nil) (by exact HpLe.cons (OwLe.dead)<|HpLe.cons (OwLe.dead)<|HpLe.cons (OwLe.dead)<|HpLe.cons (OwLe.dead)<|HpLe.cons (OwLe.obj rfl)<|HpLe.nil)
        ·rw [hb] at cup
         by_cases h0:0≤K.getD i default j - 1
         ·rw [hdn h0] at chd
          have h0':DD (AC K i) j (AC K i j - 1) j ≥ 0:=by rw [show DD (AC K i) j (AC K i j - 1) j = AC K i j - 1 from if_pos rfl];exact h0
          refine Yn<|Y1<|Wm ?_;refine Wq AQ ?_;refine Wq Bg ?_;refine Wq CP ?_;refine Wq AQ ?_;(refine BL (ao rfl) (ao rfl) rfl (Ac rfl) (by first | exact Bw rfl | exact One.sl | exact Cv) (SetAt.mon (by first | omega | (simp;omega))) rfl ?_);refine Y0<|Y1<|Wm ?_;refine Wq AQ ?_;refine Wq Bg ?_;refine Wq DS ?_;refine Wq AQ ?_;(refine BL (ao rfl) (ao rfl) rfl (Ac rfl) (by first | exact Bw rfl | exact One.sl | exact Cv) (SetAt.mon (by first | omega | (simp;omega))) rfl ?_);refine Y0<|Y1 ?_;refine Wq AL ?_;refine Wm ?_;refine Wq (Am (cup)) ?_;refine Wq Ci ?_;refine Wm ?_;refine Ws ?_;refine Ws ?_;refine Ws ?_;refine Ws ?_;refine Wq AW ?_;refine Wm ?_;refine Wg Ae ?_;refine Wg AQ ?_;refine Wg Bg ?_;refine Wg Ar ?_;refine Wg Ae ?_;refine Wg Ae ?_;refine Wg AL ?_;refine Wg (Am (chd)) ?_;refine Wg Ci ?_;refine Wg AU ?_;refine Wq AW ?_;apply Y0;refine Cf ?_;apply Bf;apply Ah;refine Yn<|AWp.region<|Wm ?_;refine Wq AG ?_;refine Wa ?_;apply AWl.nil
          refine ALoop.next (k - (j+1)) (by omega) ⟨j+1,by omega,rfl,rfl⟩ ?_
          exact Ag (by exact Yd<|Yd<|Yd<|Yd<|Yd<|Yd<|Yd<|FrLe.nil) (by exact HpLe.cons (OwLe.dead)<|HpLe.cons (OwLe.dead)<|HpLe.cons (OwLe.dead)<|HpLe.cons (OwLe.dead)<|HpLe.cons (OwLe.obj rfl)<|HpLe.nil)
         ·skip
          have h0':¬ DD (AC K i) j (AC K i j - 1) j ≥ 0:=by rw [show DD (AC K i) j (AC K i j - 1) j = AC K i j - 1 from if_pos rfl];exact h0
          refine Yn<|Y1<|Wm ?_;refine Wq AQ ?_;refine Wq Bg ?_;refine Wq CP ?_;refine Wq AQ ?_;(refine BL (ao rfl) (ao rfl) rfl (Ac rfl) (by first | exact Bw rfl | exact One.sl | exact Cv) (SetAt.mon (by first | omega | (simp;omega))) rfl ?_);refine Y0<|Y1<|Wm ?_;refine Wq AQ ?_;refine Wq Bg ?_;refine Wq DS ?_;refine Wq AQ ?_;(refine BL (ao rfl) (ao rfl) rfl (Ac rfl) (by first | exact Bw rfl | exact One.sl | exact Cv) (SetAt.mon (by first | omega | (simp;omega))) rfl ?_);refine Y0<|Y1 ?_;refine Wq AL ?_;refine Wm ?_;refine Wq (Am (cup)) ?_;refine Wq Ci ?_;refine Wm ?_;refine Ws ?_;refine Ws ?_;refine Ws ?_;refine Ws ?_;refine Wq AW ?_;refine Wm ?_;refine Wg Ae ?_;refine Wg AQ ?_;refine Wg Bg ?_;refine Wg Aq ?_;refine Wg Ae ?_;refine Ws ?_;refine Ws ?_;refine Ws ?_;refine Ws ?_;refine Wg AW ?_;refine Wq AW ?_;apply Y0;refine Cf ?_;apply Bf;apply Ah;refine Yn<|AWp.region<|Wm ?_;refine Wq AG ?_;refine Wa ?_;apply AWl.nil
          refine ALoop.next (k - (j+1)) (by omega) ⟨j+1,by omega,rfl,rfl⟩ ?_
          exact Ag (by exact Yd<|Yd<|Yd<|Yd<|Yd<|Yd<|Yd<|FrLe.nil) (by exact HpLe.cons (OwLe.dead)<|HpLe.cons (OwLe.dead)<|HpLe.cons (OwLe.dead)<|HpLe.cons (OwLe.dead)<|HpLe.cons (OwLe.obj rfl)<|HpLe.nil)
       ·obtain rfl : j = k := by omega
        refine Aa<|Y1<|Wm<|Wm ?_;refine Wq Aq ?_;apply Y0;refine Cf ?_;apply AF;apply Az;apply AA;apply AB;apply Ah;refine Yn<|AWp.region<|Wm ?_;refine Wq AG ?_;refine Wa ?_;apply AWl.nil
        refine ALoop.next (K.length - (i+1)) (by omega) ⟨i+1,by omega,rfl,rfl⟩ ?_
        exact Ag (by exact Yd<|Yd<|Yd<|Yd<|Yd<|Yd<|FrLe.nil) (by exact HpLe.cons (OwLe.dead)<|HpLe.cons (OwLe.dead)<|HpLe.cons (OwLe.dead)<|HpLe.cons (OwLe.dead)<|HpLe.cons (OwLe.obj rfl)<|HpLe.nil)
    ·obtain rfl : i = K.length := by omega
     refine Aa<|Y1<|Wm<|Wm ?_;refine Wq Ca ?_;refine Wq Aq ?_;apply Y0;refine Cf ?_;apply AF;apply Az;apply AA;apply AB;refine Yn<|Aa<|Y1<|Wa<|Y0<|AWp.block ?_
     refine AK (fun mz σ=>∃ d,d≤13∧mz = 13 - d∧σ = ⟨[(5,.d (ex (.bool true))),(6,.d (ex (.int .i64 (k:Nat)))),(7,.d (BF l)),(10,.d (BF K)),(12,.d (sX g 13 13)),(17,.d (ex (.int .i64 (d:Nat))))],[.dead,.dead,.dead,.dead,.obj (Bj [⟨g,3,nC (fun d=>((cK K K.length d:Nat):Int)) 13⟩])]⟩) ?led ⟨0,by omega,rfl,rfl⟩ ?roundd
     case led=>exact Ag (by exact Yd<|Yd<|Yd<|Yd<|Yd<|Yd<|FrLe.nil) (by exact HpLe.cons (OwLe.dead)<|HpLe.cons (OwLe.dead)<|HpLe.cons (OwLe.dead)<|HpLe.cons (OwLe.dead)<|HpLe.cons (OwLe.obj rfl)<|HpLe.nil)
     case roundd =>
      rintro mz _ ⟨d,hd,rfl,rfl⟩
      by_cases hltd:d<13
      ·have ccd := cc d (by omega)
       have hcd:=hcK d
       refine Aa<|Y1<|Wm ?_;refine Wq Ar ?_;apply Y0;refine Ct ?_;refine Ys<|Aa<|AWp.block<|Y1<|Wm<|Wm<|Wm ?_;refine Wq (Am (ccd)) ?_;refine Wm ?_;refine Wq Cu ?_;refine Wq Cu ?_;refine Wa<|Wa<|Y0<|Y1<|Wm ?_;refine Wq Aq ?_;refine Wm ?_;refine Wg Ae ?_;refine Wg Ae ?_;refine Wg Ae ?_;refine Wg (Co (k:=d) (ao rfl) (ao rfl) (Ac rfl) (Ac rfl) (by omega)) ?_;refine Wg (GY (e:=⟨g,3,nC (fun d=>((cK K K.length d:Nat):Int)) 13⟩) 4 0 (ao rfl) rfl rfl (Ac rfl) rfl (Ej (i:=d) (by omega))) ?_;refine Wg Aq ?_;refine Wq AW ?_;apply Y0;refine Cf ?_;apply Bf;apply Ah;refine Yn<|AWp.region<|Wm ?_;refine Wq AG ?_;refine Wa ?_;apply AWl.nil
       refine ALoop.next (13 - (d+1)) (by omega) ⟨d+1,by omega,rfl,rfl⟩ ?_
       exact Ag (by exact Yd<|Yd<|Yd<|Yd<|Yd<|Yd<|FrLe.nil) (by exact HpLe.cons (OwLe.dead)<|HpLe.cons (OwLe.dead)<|HpLe.cons (OwLe.dead)<|HpLe.cons (OwLe.dead)<|HpLe.cons (OwLe.obj rfl)<|HpLe.nil)
      ·obtain rfl : d = 13 := by omega
       by_cases hk0:0<K.length
       ·refine Aa<|Y1<|Wm ?_;refine Wq Aq ?_;apply Y0;refine Cf ?_;apply AF;apply Az;apply AA;apply AB;refine Yn<|Y1<|Wm ?_;refine Wq Ca ?_;refine Wq Ar ?_;refine Wm ?_;refine Ws ?_;refine Ws ?_;refine Ws ?_;refine Wq AU ?_;refine Wm ?_;refine Wg Ae ?_;refine Wq AU ?_;refine Wa<|Y0 ?_;apply Aw
        exact Yf
       ·have hz:inB l (fun _=>0) = true:=by
         refine Bool.not_eq_false _ |>.mp fun h=>?_
         obtain ⟨a,ha,_⟩:=(hK.2 (fun _=>0)).2 ⟨fun j hj=>⟨Int.le_refl 0,fun _=>rfl⟩,h⟩
         exact hk0 (List.length_pos_of_mem ha)
        have cz:=Jp (fun _=>0) l (by omega)
        rw [hz] at cz
        refine Aa<|Y1<|Wm ?_;refine Wq Aq ?_;apply Y0;refine Cf ?_;apply AF;apply Az;apply AA;apply AB;refine Yn<|Y1<|Wm ?_;refine Wq Ca ?_;refine Wq Aq ?_;refine Wm ?_;(refine VU rfl rfl rfl rfl rfl ?_;(refine EM (Ac rfl) (Ac rfl) rfl rfl ?_;(repeat ((first | refine ⟨_,BA (ao rfl),?_⟩ | refine ⟨_,Po rfl,?_⟩);refine ⟨_,rfl,?_⟩));refine ⟨_,rfl,?_⟩));refine Wg Ae ?_;refine Wg (Am (cz)) ?_;refine Wq AW ?_;refine Wm ?_;refine Wg Ae ?_;refine Wq AU ?_;refine Wa<|Y0 ?_;apply Aw
        exact Yf
end Go.Proofs.YtialdhnijjnpaaaGreat
