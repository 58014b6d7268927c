/- Part 26 of the proof of hilbertDimensions_holds. No condition. -/
import Derived.Test.YtialdhnijjnpaaaGreatQc21
import Derived.Test.YtialdhnijjnpaaaGreatQc24
import Derived.Test.YtialdhnijjnpaaaGreatQc25
set_option linter.unusedSimpArgs false
set_option linter.unusedVariables false
set_option maxRecDepth 100000
set_option maxHeartbeats 4000000
namespace Go.Proofs.YtialdhnijjnpaaaGreat
open Go.RowKit
def mz : Nat→Int:=fun _=>0
def mx2 : Nat→Int
 | 0=>2
 | _=>0
def WQ : Nat→Int
 | 0=>1
 | 1=>1
 | _=>0
def mx : Nat→Int
 | 0=>1
 | _=>0
def my2 : Nat→Int
 | 0=>0
 | 1=>2
 | _=>0
def my : Nat→Int
 | 0=>0
 | 1=>1
 | _=>0
abbrev lA : Ae:=[mx2,WQ]
abbrev lB : Ae:=[mx,my2]
theorem j8 {p : Nat→Prop} (h0:p 0) (h1:p 1) (h2:p 2) (h3:p 3) (h4:p 4) (h5:p 5) (h6:p 6) (h7:p 7) (j:Nat) (hj:j<8):p j:=by
 have:j = 0∨j = 1∨j = 2∨j = 3∨j = 4∨j = 5∨j = 6∨j = 7:=by omega
 rcases this with rfl | rfl | rfl | rfl | rfl | rfl | rfl | rfl <;> assumption
theorem IT : ∀ y∈lA,In8 y 0 2∧SupN 2 y∧Cy 8 0 y≤2:=fun y hy=>by
 simp only [List.mem_cons,List.not_mem_nil,or_false] at hy
 rcases hy with rfl | rfl
 ·exact ⟨j8 (by decide) (by decide) (by decide) (by decide) (by decide) (by decide) (by decide) (by decide),j8 (by decide) (by decide) (by decide) (by decide) (by decide) (by decide) (by decide) (by decide),by decide⟩
 ·exact ⟨j8 (by decide) (by decide) (by decide) (by decide) (by decide) (by decide) (by decide) (by decide),j8 (by decide) (by decide) (by decide) (by decide) (by decide) (by decide) (by decide) (by decide),by decide⟩
theorem Ov : ∀ y∈lB,In8 y 0 2∧SupN 2 y∧Cy 8 0 y≤2:=fun y hy=>by
 simp only [List.mem_cons,List.not_mem_nil,or_false] at hy
 rcases hy with rfl | rfl
 ·exact ⟨j8 (by decide) (by decide) (by decide) (by decide) (by decide) (by decide) (by decide) (by decide),j8 (by decide) (by decide) (by decide) (by decide) (by decide) (by decide) (by decide) (by decide),by decide⟩
 ·exact ⟨j8 (by decide) (by decide) (by decide) (by decide) (by decide) (by decide) (by decide) (by decide),j8 (by decide) (by decide) (by decide) (by decide) (by decide) (by decide) (by decide) (by decide),by decide⟩
theorem In8.big {y : Nat→Int} {a b:Int} (h:In8 y 0 a) (hab:a≤b):In8 y 0 b:=fun j hj=>by
 have:=h j hj
 omega
theorem A1c : ∃ N f,HilC lA 2 N f:=MT 2 2 2 lA (by decide) (by decide) (by decide) (by decide) (fun y hy=>(IT y hy).1.big (by decide)) (fun y hy=>(IT y hy).2.1) (fun y hy=>(IT y hy).2.2) (by decide)
theorem A1b : ∃ N f,HilC lB 2 N f:=MT 2 2 2 lB (by decide) (by decide) (by decide) (by decide) (fun y hy=>(Ov y hy).1.big (by decide)) (fun y hy=>(Ov y hy).2.1) (fun y hy=>(Ov y hy).2.2) (by decide)
theorem SQ (q : Nat→Int):IsMin [q] [q]:=⟨List.pairwise_singleton _ _,fun x=>⟨fun h=>⟨h,fun y hy hd=>by
 rw [List.mem_singleton.1 hy] at hd ⊢
 obtain ⟨a,ha,e⟩:=h
 rwa [List.mem_singleton.1 ha] at e⟩,fun h=>h.1⟩⟩
theorem SR : IsMin [] []:=⟨List.Pairwise.nil,fun x=>⟨fun ⟨a,ha,_⟩=>(by cases ha),fun ⟨⟨a,ha,_⟩,_⟩=>(by cases ha)⟩⟩
def fA : Nat→Int
 | 0=>1
 | 2=>-2
 | 3=>1
 | _=>0
theorem RB (a : Nat→Int) (N:Nat) (h8:SupN 8 a) (hN:Cy 8 0 a+1≤N):NumL [a] (HH (fun d=>dlt d - Gg (Cy 8 0 a) dlt d) N) fun d=>dlt d - Gg (Cy 8 0 a) dlt d :=
 NumL.cons NumL.nil NumL.nil SR (fun y hy=>by cases hy) h8 N (by omega) (.inl hN)
theorem Wu {n : Nat} {a:Nat→Int} (h:SupN n a):SupN 8 a:=fun j hj=>⟨(h j hj).1,fun h=>by omega⟩
theorem A19 : ∃ F:Nat→Int,NumL lA 4 F∧∀ i,i<4→F i = fA i:=by
 have h1:=RB WQ 3 (Wu (IT WQ (by simp)).2.1) (by decide)
 have h2:=RB (qM WQ mx2) 2 (fun j hj=>⟨Yy WQ mx2 (fun j hj=>((IT WQ (by simp)).2.1 j hj).1) j hj,fun h=>by omega⟩) (by decide)
 have h3:=NumL.cons (rest:=[WQ]) (R:=[qM WQ mx2]) (a:=mx2) h1 h2 (SQ _) (fun y hy=>by rw [List.mem_singleton.1 hy];exact Wu (IT WQ (by simp)).2.1) (Wu (IT mx2 (by simp)).2.1) 4 (by decide) (.inl (by decide))
 refine ⟨_,h3,fun i hi=>?_⟩
 have:i = 0∨i = 1∨i = 2∨i = 3:=by omega
 rcases this with rfl | rfl | rfl | rfl <;> decide
theorem Abs.le_ {P : Program} {f:FuncId} {ds:List D} {r r':D} (h:Abs P f ds r) (hr:D.le r r'):Abs P f ds r' :=
 ⟨h.1,fun s vs h1 h2 h3=>(h.2 s vs h1 h2 h3).mono fun e w' ⟨v,he,s',hw,hl,hv⟩=>⟨v,he,s',hw,hl,hr s' v hv⟩⟩
theorem dmA : EY lA 2 = 1:=by decide +kernel
theorem dmB : EY lB 2 = 0:=by decide +kernel
theorem mxA : MM lA (2 ^ 2) = [2]:=by decide +kernel
theorem A17 : (Abs Tryz.prog 14 [BG lA,ex (.int .i64 2)] (DE [nD 4 fA,ex (.int .i64 0)]))∧(Abs Tryz.prog 22 [BG lA,ex (.int .i64 2)] (DE [ex (.int .i64 1),ex (.int .i64 0)]))∧(Abs Tryz.prog 24 [BG lA,ex (.int .i64 2)] (DE [ex (.int .i64 1),ex (.int .i64 0)]))∧(∃ F:Nat→Rat,F 0 = ((1:Int):Rat)∧Abs Tryz.prog 26 [BG lA,ex (.int .i64 2)] (DE [DD 1 F,ex (.int .i64 0)]))∧(Abs Tryz.prog 16 [BG lA,ex (.int .i64 2),ex (.int .i64 3)] (DE [ex (.int .i64 1),ex (.int .i64 0)]))∧(Abs Tryz.prog 18 [BG lA,ex (.int .i64 2)] (DE [Nz [2],ex (.int .i64 0)]))∧(Abs Tryz.prog 28 [BG lA,ex (.int .i64 2)] (DE [ex (.slice none 0 0),ex (.int .i64 160)])):=by
 obtain ⟨N,f,hc⟩:=A1c
 obtain ⟨F,hF,hFv⟩:=A19
 have h8:∀ a∈lA,SupN 8 a:=fun a ha=>Wu (IT a ha).2.1
 obtain ⟨rfl,rfl⟩:=hc.num.inj hF h8
 have e0:f = fun i=>fA i:=funext fun i=>by
  by_cases hi:i<4
  ·exact hFv i hi
  ·rw [hF.far i (by omega)]
   match i,hi with
   | i+4,_=>rfl
 have e0:f = fA:=e0
 subst e0
 have d1:EY lA 2 = ((1:Nat):Int):=dmA
 have hq:=hc.qb 1 d1
 have hcc:=hc.cc 1 d1
 have hcd:=hc.cd
 rw [dmA] at hcd
 have hcg:=hc.cg
 have eg:Xl lA 2 4 fA = 1:=by
  unfold Xl
  rw [dmA]
  decide +kernel
 rw [eg] at hcg
 refine ⟨TF lA 2 4 fA hc.ck hc.cn,Ms lA 2 1 hc.ck hcd,Wb lA 2 1 hc.ck hcg,?_,?_,?_,Tn lA 2 1 (by decide) hc.ck hcd⟩
 ·have hp := Mp lA 2 1 (cN 4 fA (2 - 1)).1 (Cv (2 - 1) fA) (by decide) (by decide) (by decide) hq hc.ck hcd hcc
  have e1:(pH (Cv (2 - 1) fA) 1 (cN 4 fA (2 - 1)).1).1 = 1:=by decide +kernel
  rw [e1] at hp
  exact ⟨_,by decide +kernel,hp⟩
 ·have hp := TI lA 2 3 4 fA 4096 (by decide) (by decide) hc.ck hc.cn hc.num.far (fun t _ => hc.bnd t) (by decide)
  have e1:Cv 2 fA 3 = 1:=by decide +kernel
  rw [e1] at hp
  exact hp
 ·have hp := Mq lA 2 (by decide) (by decide) hc.ck
  rw [mxA] at hp
  exact hp
theorem A15 : IsStd lB 2 [mz,my]:=by
 refine ⟨?_,fun x=>⟨fun ⟨a,ha,e⟩=>?_,fun hx=>?_⟩⟩
 ·rw [List.pairwise_cons]
  refine ⟨fun b hb=>?_,List.pairwise_singleton _ _⟩
  rw [List.mem_singleton.1 hb]
  decide +kernel
 ·simp only [List.mem_cons,List.not_mem_nil,or_false] at ha
  have key:StdX lB 2 a:=by
   rcases ha with rfl | rfl
   ·exact ⟨j8 (by decide) (by decide) (by decide) (by decide) (by decide) (by decide) (by decide) (by decide),by decide +kernel⟩
   ·exact ⟨j8 (by decide) (by decide) (by decide) (by decide) (by decide) (by decide) (by decide) (by decide),by decide +kernel⟩
  exact key.congr e
 ·have h1:¬ Dv mx x:=fun hd=>by
   have:=(CO (l:=lB)).2 ⟨mx,List.mem_cons_self,hd⟩
   rw [hx.2] at this
   cases this
  have h2:¬ Dv my2 x:=fun hd=>by
   have:=(CO (l:=lB)).2 ⟨my2,List.mem_cons_of_mem _ List.mem_cons_self,hd⟩
   rw [hx.2] at this
   cases this
  have hn:∀ j,j<8→0≤x j:=fun j hj=>(hx.1 j hj).1
  have hz:∀ j,j<8→2≤j→x j = 0:=fun j hj h=>(hx.1 j hj).2 h
  have h0:x 0 = 0:=by
   refine Classical.byContradiction fun hne=>h1 fun j hj=>?_
   by_cases e:j = 0
   ·subst e
    have:=hn 0 (by omega)
    show (1:Int)≤x 0
    omega
   ·have:mx j = 0:=by
     match j,e with
     | j+1,_=>rfl
    rw [this]
    exact hn j hj
  have h3:x 1<2:=by
   refine Classical.byContradiction fun hne=>h2 fun j hj=>?_
   by_cases e:j = 1
   ·subst e
    show (2:Int)≤x 1
    omega
   ·have:my2 j = 0:=by
     match j,e with
     | 0,_=>rfl
     | j+2,_=>rfl
    rw [this]
    exact hn j hj
  have h4:=hn 1 (by omega)
  by_cases h5:x 1 = 0
  ·exact ⟨mz, by simp, fun j hj => by
    show 0 = x j
    by_cases e:2≤j
    ·exact (hz j hj e).symm
    ·have : j = 0 ∨ j = 1 := by omega
     rcases this with rfl | rfl <;> omega⟩
  ·refine ⟨my, by simp, fun j hj => ?_⟩
   match j,hj with
   | 0,_=>exact h0.symm
   | 1,_=>show (1:Int) = x 1;omega
   | j+2,hj=>exact (hz (j+2) hj (by omega)).symm
theorem A16 : Abs Tryz.prog 28 [BG lB,ex (.int .i64 2)] (DE [BG [mz,my],ex (.int .i64 0)]):=by
 obtain ⟨N,f,hc⟩:=A1b
 have h:=VA (E:=1) hc (by decide) (by decide) (fun y hy=>(Ov y hy).2.1) (fun a ha j hj=>((Ov a ha).1 j hj).2) (by decide) (by rw [dmB];decide) (by decide)
 exact h.le_ (Cp (fun s v ⟨S,hS,hv⟩=>by rw [← hS.same A15];exact hv) (D.le.refl _))
theorem PP : Abs Tryz.prog 11 [] (ex (.bool true)):=by
 obtain ⟨c1,c2,c3,⟨F,hF,c4⟩,c5,c6,c8⟩:=A17
 have c7:=A16
 have cq:Abs Tryz.prog 41 [Ca (CG (F 0)),Ca (CG q1)] (ex (.bool true)):=by
  have:=Qr (F 0) q1
  rwa [decide_eq_true hF] at this
 refine Ab Tryz.func11 fun s0=>?_
 rw [Tryz.ntmps11]
 refine Y1<|Wa<|Y0<|Y1 ?_;(refine Dj rfl rfl ?_;(refine Ft (Ac rfl) (Ac rfl) rfl rfl ?_;(repeat ((first | refine ⟨_,Bz (ao rfl),?_⟩ | refine ⟨_,Po rfl,?_⟩);refine ⟨_,rfl,?_⟩));refine ⟨_,rfl,?_⟩));(refine Dj rfl rfl ?_;(refine Ft (Ac rfl) (Ac rfl) rfl rfl ?_;(repeat ((first | refine ⟨_,Bz (ao rfl),?_⟩ | refine ⟨_,Po rfl,?_⟩);refine ⟨_,rfl,?_⟩));refine ⟨_,rfl,?_⟩));(refine Dj rfl rfl ?_;(refine DK (Ac rfl) (Ac rfl) rfl rfl rfl rfl rfl ?_;(repeat ((first | refine ⟨_,Bz (ao rfl),?_⟩ | refine ⟨_,Po rfl,?_⟩);refine ⟨_,rfl,?_⟩));refine ⟨_,rfl,?_⟩));refine Wa<|Y0<|Y1<|Wm ?_;refine Wq (Ao (c1)) ?_;refine Wm ?_;refine Wq Cc ?_;refine Wq Cc ?_;refine Wa<|Wa<|Y0<|Y1<|Wm ?_;refine Wq (Ao (c2)) ?_;refine Wm ?_;refine Wq Cc ?_;refine Wq Cc ?_;refine Wa<|Wa<|Y0<|Y1<|Wm ?_;refine Wq (Ao (c3)) ?_;refine Wm ?_;refine Wq Cc ?_;refine Wq Cc ?_;refine Wa<|Wa<|Y0<|Y1<|Wm ?_;refine Wq (Ao (c4)) ?_;refine Wm ?_;refine Wq Cc ?_;refine Wq Cc ?_;refine Wa<|Wa<|Y0<|Y1<|Wm ?_;refine Wq (Ao (c5)) ?_;refine Wm ?_;refine Wq Cc ?_;refine Wq Cc ?_;refine Wa<|Wa<|Y0<|Y1<|Wm ?_;refine Wq (Ao (c6)) ?_;refine Wm ?_;refine Wq Cc ?_;refine Wq Cc ?_;refine Wa<|Wa<|Y0<|Y1 ?_;(refine Dj rfl rfl ?_;(refine Ft (Ac rfl) (Ac rfl) rfl rfl ?_;(repeat ((first | refine ⟨_,Bz (ao rfl),?_⟩ | refine ⟨_,Po rfl,?_⟩);refine ⟨_,rfl,?_⟩));refine ⟨_,rfl,?_⟩));(refine Dj rfl rfl ?_;(refine Ft (Ac rfl) (Ac rfl) rfl rfl ?_;(repeat ((first | refine ⟨_,Bz (ao rfl),?_⟩ | refine ⟨_,Po rfl,?_⟩);refine ⟨_,rfl,?_⟩));refine ⟨_,rfl,?_⟩));(refine Dj rfl rfl ?_;(refine DK (Ac rfl) (Ac rfl) rfl rfl rfl rfl rfl ?_;(repeat ((first | refine ⟨_,Bz (ao rfl),?_⟩ | refine ⟨_,Po rfl,?_⟩);refine ⟨_,rfl,?_⟩));refine ⟨_,rfl,?_⟩));refine Wq (Ao (c7)) ?_;refine Wm ?_;refine Wq Cc ?_;refine Wq Cc ?_;refine Wa<|Wa<|Y0<|Y1<|Wm ?_;refine Wq (Ao (c8)) ?_;refine Wm ?_;refine Wq Cc ?_;refine Wq Cc ?_;refine Wa<|Wa<|Y0<|Y1<|Wm ?_;refine Wq Am ?_;refine Wm ?_;refine Wg Af ?_;refine Wg Am ?_;refine Wq AT ?_;refine Wm ?_;refine Wg Af ?_;refine Wg Am ?_;refine Wq AT ?_;refine Wm ?_;refine Wg Af ?_;refine Wg Am ?_;refine Wq AT ?_;refine Wm ?_;refine Wg Af ?_;refine Wg Am ?_;refine Wq AT ?_;refine Wm ?_;refine Wg Af ?_;refine Wg Am ?_;refine Wq AT ?_;refine Wm ?_;refine Wg Af ?_;refine Wg Am ?_;refine Wq AT ?_;refine Wm ?_;refine Wg Af ?_;refine Wg Am ?_;refine Wq AT ?_;refine Wa<|Y0<|Aa ?_
 refine Dr [[],[(94,0)],[],[],[(96,2),(97,3)],[(95,1),(98,4)],[(99,5)],[],[(101,7)],[(100,6),(102,8)],[(103,9)],[],[(105,11)],[(104,10),(106,12)],[(107,13)],[],[(109,15)],[(110,16)],[(108,14),(111,17)],[(112,18)],[],[(114,20)],[(115,21)],[],[(116,22),(117,23)],[(113,19),(118,24)],[(119,25)],[],[(121,27)],[(120,26),(122,28)],[(123,29)],[],[],[(125,31),(126,32)],[(124,30),(127,33)],[(128,34)],[],[],[],[(131,37),(132,38)],[(130,36),(133,39)],[(129,35),(134,40)]] [[],[0],[0,1],[0,1],[0,1,2,3],[0,1,2,3,4],[0,1,2,3,4,5],[0,1,2,3,4,5,6],[0,1,2,3,4,5,6,7],[0,1,2,3,4,5,6,7,8],[0,1,2,3,4,5,6,7,8,9],[0,1,2,3,4,5,6,7,8,9,10],[0,1,2,3,4,5,6,7,8,9,10,11],[0,1,2,3,4,5,6,7,8,9,10,11,12],[0,1,2,3,4,5,6,7,8,9,10,11,12,13],[0,1,2,3,4,5,6,7,8,9,10,11,12,13,14],[0,1,2,3,4,5,6,7,8,9,10,11,12,13,14,15],[0,1,2,3,4,5,6,7,8,9,10,11,12,13,14,15,16],[0,1,2,3,4,5,6,7,8,9,10,11,12,13,14,15,16,17],[0,1,2,3,4,5,6,7,8,9,10,11,12,13,14,15,16,17,18],[0,1,2,3,4,5,6,7,8,9,10,11,12,13,14,15,16,17,18,19],[0,1,2,3,4,5,6,7,8,9,10,11,12,13,14,15,16,17,18,19,20],[0,1,2,3,4,5,6,7,8,9,10,11,12,13,14,15,16,17,18,19,20,21],[0,1,2,3,4,5,6,7,8,9,10,11,12,13,14,15,16,17,18,19],[0,1,2,3,4,5,6,7,8,9,10,11,12,13,14,15,16,17,18,19,20,21,22,23],[0,1,2,3,4,5,6,7,8,9,10,11,12,13,14,15,16,17,18,19,20,21,22,23,24],[0,1,2,3,4,5,6,7,8,9,10,11,12,13,14,15,16,17,18,19,20,21,22,23,24,25],[0,1,2,3,4,5,6,7,8,9,10,11,12,13,14,15,16,17,18,19,20,21,22,23,24,25,26],[0,1,2,3,4,5,6,7,8,9,10,11,12,13,14,15,16,17,18,19,20,21,22,23,24,25,26,27],[0,1,2,3,4,5,6,7,8,9,10,11,12,13,14,15,16,17,18,19,20,21,22,23,24,25,26,27,28],[0,1,2,3,4,5,6,7,8,9,10,11,12,13,14,15,16,17,18,19,20,21,22,23,24,25,26,27,28,29],[0,1,2,3,4,5,6,7,8,9,10,11,12,13,14,15,16,17,18,19,20,21,22,23,24,25,26,27,28,29,30],[0,1,2,3,4,5,6,7,8,9,10,11,12,13,14,15,16,17,18,19,20,21,22,23,24,25,26,27,28,29,30],[0,1,2,3,4,5,6,7,8,9,10,11,12,13,14,15,16,17,18,19,20,21,22,23,24,25,26,27,28,29,30,31,32],[0,1,2,3,4,5,6,7,8,9,10,11,12,13,14,15,16,17,18,19,20,21,22,23,24,25,26,27,28,29,30,31,32,33],[0,1,2,3,4,5,6,7,8,9,10,11,12,13,14,15,16,17,18,19,20,21,22,23,24,25,26,27,28,29,30,31,32,33,34],[0,1,2,3,4,5,6,7,8,9,10,11,12,13,14,15,16,17,18,19,20,21,22,23,24,25,26,27,28,29,30,31,32,33,34,35],[0,1,2,3,4,5,6,7,8,9,10,11,12,13,14,15,16,17,18,19,20,21,22,23,24,25,26,27,28,29,30,31,32,33,34,35],[0,1,2,3,4,5,6,7,8,9,10,11,12,13,14,15,16,17,18,19,20,21,22,23,24,25,26,27,28,29,30,31,32,33,34,35],[0,1,2,3,4,5,6,7,8,9,10,11,12,13,14,15,16,17,18,19,20,21,22,23,24,25,26,27,28,29,30,31,32,33,34,35,37,38],[0,1,2,3,4,5,6,7,8,9,10,11,12,13,14,15,16,17,18,19,20,21,22,23,24,25,26,27,28,29,30,31,32,33,34,35,36,37,38,39],[0,1,2,3,4,5,6,7,8,9,10,11,12,13,14,15,16,17,18,19,20,21,22,23,24,25,26,27,28,29,30,31,32,33,34,35,36,37,38,39,40]] ?_
 refine Xq Af ?_;refine Xq Af ?_;refine Xg Af ?_;(refine HqG rfl rfl ?_;refine DK (Ac rfl) (Ac rfl) rfl rfl rfl rfl rfl ?_;(repeat ((first | refine ⟨_,Bz (ah rfl),?_⟩ | refine ⟨_,Po rfl,?_⟩);refine ⟨_,rfl,?_⟩));refine ⟨_,rfl,?_⟩;refine ⟨_,rfl,?_⟩);refine Xg (Ao (XF 4 fA (by decide))) ?_;refine Xq AT ?_;refine Xq Af ?_;refine Xg Af ?_;refine Xg Am ?_;refine Xq AT ?_;refine Xq Af ?_;refine Xg Af ?_;refine Xg Am ?_;refine Xq AT ?_;refine Xq Af ?_;refine Xg Af ?_;(refine ⟨_,Ee rfl rfl (Dt (F:=CJ F) rfl (Ac rfl)),?_⟩;refine ⟨_,rfl,?_⟩);refine Xg Am ?_;refine Xq AT ?_;refine Xq Af ?_;refine Xg Af ?_;(refine ⟨_,Ee rfl rfl (Np (F:=CJ F) (k:=0) rfl (ah rfl) (Ac rfl) (Ac rfl) rfl (by decide)),?_⟩;refine ⟨_,rfl,?_⟩);refine Xg Br ?_;refine Xg (Ao (Qp 1 (by omega) (by omega))) ?_;refine Xg (Ao (cq)) ?_;refine Xq AT ?_;refine Xq Af ?_;refine Xg Af ?_;refine Xg Am ?_;refine Xq AT ?_;refine Xq Af ?_;refine Xg Af ?_;(refine HqG rfl rfl ?_;refine DK (Ac rfl) (Ac rfl) rfl rfl rfl rfl rfl ?_;(repeat ((first | refine ⟨_,Bz (ah rfl),?_⟩ | refine ⟨_,Po rfl,?_⟩);refine ⟨_,rfl,?_⟩));refine ⟨_,rfl,?_⟩;refine ⟨_,rfl,?_⟩);refine Xg (Ao (XE [2])) ?_;refine Xq AT ?_;refine Xq Af ?_;refine Xg Af ?_;(refine HqG rfl rfl ?_;refine Ft (Ac rfl) (Ac rfl) rfl rfl ?_;(repeat ((first | refine ⟨_,Bz (ah rfl),?_⟩ | refine ⟨_,Po rfl,?_⟩);refine ⟨_,rfl,?_⟩));refine ⟨_,rfl,?_⟩;refine ⟨_,rfl,?_⟩);(refine HqG rfl rfl ?_;refine Ft (Ac rfl) (Ac rfl) rfl rfl ?_;(repeat ((first | refine ⟨_,Bz (ah rfl),?_⟩ | refine ⟨_,Po rfl,?_⟩);refine ⟨_,rfl,?_⟩));refine ⟨_,rfl,?_⟩;refine ⟨_,rfl,?_⟩);(refine HqG rfl rfl ?_;refine DK (Ac rfl) (Ac rfl) rfl rfl rfl rfl rfl ?_;(repeat ((first | refine ⟨_,Bz (ah rfl),?_⟩ | refine ⟨_,Po rfl,?_⟩);refine ⟨_,rfl,?_⟩));refine ⟨_,rfl,?_⟩;refine ⟨_,rfl,?_⟩);refine Xg (Ao (XG [mz,my] (by decide))) ?_;refine Xq AT ?_;refine ⟨_,rfl,?_⟩
 refine Wa<|Y0 ?_;apply Aw
 exact Yf
theorem Jz {P : Program} {hp:List Ow} {arg:Operand→AV} {dd:Option Tmp} {ty:TypeId} {ps:String} {af:Array Edge} {gd:Option (Nat × Bool)} {T U:TypeId} {x y:Operand} {k:IntKind} {a b:Nat} (hx:arg x = .d (ex (.int k (a:Nat)))) (hy:arg y = .d (ex (.int k (b:Nat)))) (hb:0<b):Quiet P hp ⟨dd,.binOp .rem T x y U,ty,ps,af,gd⟩ arg (.d (ex (.int k ((a % b:Nat):Int)))):=by
 have:=Zw (dd:=dd) (T:=T) (U:=U) (ty:=ty) (ps:=ps) (af:=af) (gd:=gd) (hp:=hp) (P:=P) hx hy (by omega) (by omega)
 rwa [← Int.natCast_emod] at this
abbrev R4 := Nat→Nat
def r4C (r : R4):List D:=[ex (.int .u8 ((r 0:Nat):Int)),ex (.int .u8 ((r 1:Nat):Int)),ex (.int .u8 ((r 2:Nat):Int)),ex (.int .u8 ((r 3:Nat):Int))]
def r4D (T : Nat) (X:List R4):D:=slD T 4 (X.map r4C)
instance A0Y : Inhabited R4:=⟨fun _=>0⟩
abbrev PR (X : List R4) (k:Nat):R4:=X.getD k default
def Pd (r : R4):Prop:=∀ j,j<4→r j<256
theorem QM {r : R4} {k:Nat} (h:k<4):CellAt ((r4C r).drop (k*1)) 0 (ex (.int .u8 ((r k:Nat):Int))):=by
 have:k = 0∨k = 1∨k = 2∨k = 3:=by omega
 rcases this with rfl | rfl | rfl | rfl <;> exact ⟨by simp [r4C],rfl⟩
theorem Co {P : Program} {hp:List Ow} {arg:Operand→AV} {dd:Option Tmp} {ty:TypeId} {ps:String} {af:Array Edge} {gd:Option (Nat × Bool)} {S T:TypeId} {x:Operand} {k:IntKind} {a:Nat} {d:TypeDesc} {n b n' b':Nat} {z z':Value} (hx:arg x = .d (ex (.int k (a:Nat)))) (hS:Tab P S d n b z) (hT:Tab P T (.int .i64) n' b' z') (h:a<256):Quiet P hp ⟨dd,.convert S T x,ty,ps,af,gd⟩ arg (.d (ex (.int .i64 (a:Nat)))):=GZ hx hS hT (by omega) (by omega)
def Wo (n top:Nat) (r:R4) (j:Nat):Int:=if j<n∧j<4 then ((r j % (top+1):Nat):Int) else 0
def Zb (top : Nat) (r:R4) (k j:Nat):Int:=if j<k then ((r j % (top+1):Nat):Int) else 0
theorem UM (top : Nat) (r:R4):Zb top r 0 = fun _=>0:=funext fun j=>if_neg (by omega)
theorem WU (top : Nat) (r:R4) (k:Nat):HN (Zb top r k) k ((r k % (top+1):Nat):Int) = Zb top r (k+1):=by
 funext j
 unfold HN Zb
 by_cases h:j = k
 ·subst h
  rw [if_pos rfl,if_pos (by omega)]
 ·rw [if_neg h]
  by_cases h2:j<k
  ·rw [if_pos h2,if_pos (by omega)]
  ·rw [if_neg h2,if_neg (by omega)]
theorem RF (n top:Nat) (r:R4):Zb top r (min n 4) = Wo n top r:=by
 funext j
 unfold Zb Wo
 by_cases h:j<n∧j<4
 ·rw [if_pos h,if_pos (by omega)]
 ·rw [if_neg h,if_neg (by omega)]
def LN (X : List R4) (n most top:Nat):Ae:=(X.take most).map (Wo n top)
theorem Oh {X : List R4} {n top k:Nat} (h:k<X.length):LN X n k top ++ [Wo n top (PR X k)] = LN X n (k+1) top:=by
 unfold LN
 rw [List.take_add_one,List.getElem?_eq_getElem h,List.map_append]
 have:PR X k = X[k]:=by
  rw [PR,List.getD_eq_getElem?_getD,List.getElem?_eq_getElem h]
  rfl
 rw [this]
 rfl
theorem ML (X : List R4) (n k top:Nat):(LN X n k top).length≤k:=by
 unfold LN
 rw [List.length_map,List.length_take]
 exact Nat.min_le_left _ _
theorem VW (T : Nat) (X:List R4) (n most top:Nat) (hX:∀ r∈X,Pd r) (hn:n≤1000) (hm:most≤1000) (ht:top≤1000):Abs Tryz.prog 13 [r4D T X,ex (.int .i64 (n:Nat)),ex (.int .i64 (most:Nat)),ex (.int .i64 (top:Nat))] (BG (LN X n most top)):=by
 have hd:D.le (slD 55 8 ((LN X n (min X.length most) top).map AQ)) (BG (LN X n most top)):=by
  refine Gc ?_
  have:LN X n (min X.length most) top = LN X n most top:=by
   unfold LN
   by_cases h:X.length≤most
   ·rw [Nat.min_eq_left h,List.take_of_length_le (Nat.le_refl _),List.take_of_length_le h]
   ·rw [Nat.min_eq_right (by omega)]
  rw [this]
  rfl
 refine Ab Tryz.func13 fun s0=>?_
 rw [Tryz.ntmps13]
 refine Y1<|Wa<|Y0<|Y1 ?_;refine Nv (Ac rfl) (Ac rfl) rfl rfl rfl rfl rfl ?_;refine Wa<|Y0<|Aa<|Y1<|Wa<|Y0<|AWp.block ?_
 refine AJ (fun mz σ=>∃ k,k≤min X.length most∧mz = min X.length most - k∧σ = ⟨[(0,.d (r4D T X)),(1,.d (ex (.int .i64 (n:Nat)))),(2,.d (ex (.int .i64 (most:Nat)))),(3,.d (ex (.int .i64 (top:Nat)))),(9,.own 0),(10,.d (ex (.int .i64 (k:Nat))))],[.row 55 8 ((LN X n k top).map AQ)]⟩) ?le ⟨0,by omega,rfl,rfl⟩ ?round
 case le=>exact Ag (by exact Yd<|Yd<|Yd<|Yd<|FrLe.cons rfl (AVle.own rfl)<|Yd<|FrLe.nil) (by exact Yr<|HpLe.nil)
 case round =>
  rintro mz _ ⟨k,hk,rfl,rfl⟩
  by_cases hlt:k<min X.length most
  ·have hkl : k < X.length := by omega
   have hkm:((k:Nat):Int)<((most:Nat):Int):=by omega
   have hkx:((k:Nat):Int)<((X.length:Nat):Int):=by omega
   have hml:=ML X n k top
   have hr:Pd (PR X k):=hX _ (by
    rw [PR,List.getD_eq_getElem?_getD,List.getElem?_eq_getElem hkl]
    exact List.getElem_mem hkl)
   refine Aa<|Y1<|Wm<|Wm ?_;refine Wq BD ?_;refine Wq Am ?_;refine Wm ?_;refine Wg Af ?_;refine Wg Af ?_;refine Wg Am ?_;refine Wq AT ?_;apply Y0;refine Ct ?_;refine Ys<|Aa<|AWp.block<|Y1 ?_;(refine Dj rfl rfl ?_;(refine Ft (Ac rfl) (Ac rfl) rfl rfl ?_;(repeat ((first | refine ⟨_,Bz (ao rfl),?_⟩ | refine ⟨_,Po rfl,?_⟩);refine ⟨_,rfl,?_⟩));refine ⟨_,rfl,?_⟩));refine Al ?_;refine Sf ?_;refine Y0<|Aa<|Y1<|Wa<|Y0<|AWp.block ?_
   refine AJ (fun mz σ=>∃ i,i≤min n 4∧mz = min n 4 - i∧σ = ⟨[(0,.d (r4D T X)),(1,.d (ex (.int .i64 (n:Nat)))),(2,.d (ex (.int .i64 (most:Nat)))),(3,.d (ex (.int .i64 (top:Nat)))),(9,.own 0),(10,.d (ex (.int .i64 (k:Nat)))),(11,.ptr 1 0),(12,.d (ex (.int .i64 (i:Nat))))],[.row 55 8 ((LN X n k top).map AQ),.var 55 ((AQ (Zb top (PR X k) i)).map .d)]⟩) ?lei ⟨0,by omega,rfl,rfl⟩ ?roundi
   case lei=>exact Ag (by exact Yd<|Yd<|Yd<|Yd<|FrLe.cons rfl (AVle.own rfl)<|Yd<|Yp<|Yd<|FrLe.nil) (by apply Yr;(refine HpLe.cons (Du (by rw [UM];rfl)) ?_);exact HpLe.nil)
   case roundi =>
    rintro mz _ ⟨i,hi,rfl,rfl⟩
    by_cases hlti:i<min n 4
    ·have hi4 : i < 4 := by omega
     have hi8:i<8:=by omega
     have hin:((i:Nat):Int)<((n:Nat):Int):=by omega
     have hr1:=hr i hi4
     refine Aa<|Y1<|Wm<|Wm ?_;refine Wq Am ?_;refine Wm ?_;refine Wg Af ?_;refine Wg Am ?_;refine Wq AT ?_;apply Y0;refine Ct ?_;refine Ys<|Aa<|AWp.block<|AWp.region<|Wm<|Wm<|Wm<|Wm ?_;refine Wq AN ?_;refine Wq Zt ?_;refine Wq (VN (ao rfl) (Ac rfl) rfl (QM hi4)) ?_;refine Wq (Co (ao rfl) (Ac rfl) (Ac rfl) hr1) ?_;refine Wm ?_;refine Wq AH ?_;refine Wq (Jz (a:=PR X k i) (b:=top+1) (ao rfl) (ao rfl) (by omega)) ?_;refine Wq CP ?_;(refine GL (ao rfl) (ao rfl) rfl (Ac rfl) (by first | exact Dw rfl | exact One.sl | exact Fq) (SetAt.mon (by first | omega | (simp;omega))) rfl ?_);apply AWl.nil;apply Ai;refine Yn<|AWp.region<|Wm ?_;refine Wq AH ?_;refine Wa ?_;apply AWl.nil
     refine ALoop.next (min n 4 - (i+1)) (by omega) ⟨i+1,by omega,rfl,rfl⟩ ?_
     exact Ag (by exact Yd<|Yd<|Yd<|Yd<|FrLe.cons rfl (AVle.own rfl)<|Yd<|Yp<|Yd<|FrLe.nil) (by exact Yr<|HpLe.cons (Du (by rw [WU]))<|HpLe.nil)
    ·have hi8 : ¬ (((i : Nat) : Int) < ((n : Nat) : Int) ∧ ((i : Nat) : Int) < 4) := by omega
     obtain rfl:i = min n 4:=by omega
     by_cases h4:n≤4
     ·have h5 : ¬ ((min n 4 : Nat) : Int) < ((n : Nat) : Int) := by omega
      refine Aa<|Y1<|Wm<|Wm ?_;refine Wq Aq ?_;refine Wm ?_;refine Ws ?_;refine Ws ?_;refine Wq By ?_;apply Y0;refine Cf ?_;apply AG;apply Az;apply AA;apply AB;refine Yn<|AWp.region<|Wm ?_;refine Wq AU ?_;refine Wq (EK (ao rfl) (Ac rfl) (Ac rfl) rfl rfl rfl rfl rfl) ?_;(refine Ap ?_);refine Wa ?_;apply AWl.nil;apply Ai;refine Yn<|AWp.region<|Wm ?_;refine Wq AH ?_;refine Wa ?_;apply AWl.nil
      rw [RF]
      skip
      refine ALoop.next (min X.length most - (k+1)) (by omega) ⟨k+1,by omega,rfl,rfl⟩ ?_
      exact Ag (by exact Yd<|Yd<|Yd<|Yd<|FrLe.cons rfl (AVle.own rfl)<|Yd<|FrLe.nil) (by refine HpLe.cons (Ey ((Kf AQ _ _).trans (by rw [Oh hkl]))) ?_;exact HpLe.nil)
     ·have h5 : ((min n 4 : Nat) : Int) < ((n : Nat) : Int) := by omega
      have h6:¬ ((min n 4:Nat):Int)<4:=by omega
      refine Aa<|Y1<|Wm<|Wm ?_;refine Wq Am ?_;refine Wm ?_;refine Wg Af ?_;refine Wg Aq ?_;refine Wq AT ?_;apply Y0;refine Cf ?_;apply AG;apply Az;apply AA;apply AB;refine Yn<|AWp.region<|Wm ?_;refine Wq AU ?_;refine Wq (EK (ao rfl) (Ac rfl) (Ac rfl) rfl rfl rfl rfl rfl) ?_;(refine Ap ?_);refine Wa ?_;apply AWl.nil;apply Ai;refine Yn<|AWp.region<|Wm ?_;refine Wq AH ?_;refine Wa ?_;apply AWl.nil
      rw [RF]
      skip
      refine ALoop.next (min X.length most - (k+1)) (by omega) ⟨k+1,by omega,rfl,rfl⟩ ?_
      exact Ag (by exact Yd<|Yd<|Yd<|Yd<|FrLe.cons rfl (AVle.own rfl)<|Yd<|FrLe.nil) (by refine HpLe.cons (Ey ((Kf AQ _ _).trans (by rw [Oh hkl]))) ?_;exact HpLe.nil)
  ·obtain rfl : k = min X.length most := by omega
   by_cases h4:X.length≤most
   ·have h5 : ¬ ((min X.length most : Nat) : Int) < ((X.length : Nat) : Int) := by omega
    refine Aa<|Y1<|Wm<|Wm ?_;refine Wq BD ?_;refine Wq Aq ?_;refine Wm ?_;refine Ws ?_;refine Ws ?_;refine Ws ?_;refine Wq By ?_;apply Y0;refine Cf ?_;apply AG;apply Az;apply AA;apply AB;refine Yn<|Y1<|Wm<|Wa<|Y0 ?_;apply Aw
    exact BP (Rets.of1 (ResV.tmp rfl rfl) (hd))
   ·have h5 : ((min X.length most : Nat) : Int) < ((X.length : Nat) : Int) := by omega
    have h6:¬ ((min X.length most:Nat):Int)<((most:Nat):Int):=by omega
    refine Aa<|Y1<|Wm<|Wm ?_;refine Wq BD ?_;refine Wq Am ?_;refine Wm ?_;refine Wg Af ?_;refine Wg Af ?_;refine Wg Aq ?_;refine Wq AT ?_;apply Y0;refine Cf ?_;apply AG;apply Az;apply AA;apply AB;refine Yn<|Y1<|Wm<|Wa<|Y0 ?_;apply Aw
    exact BP (Rets.of1 (ResV.tmp rfl rfl) (hd))
def inD (T : Nat) (X:List R4) (m:Nat):D:=Ca [r4D T X,ex (.int .u8 (m:Nat))]
theorem Mn {P : Program} {hp:List Ow} {arg:Operand→AV} {dd:Option Tmp} {ty:TypeId} {ps:String} {af:Array Edge} {gd:Option (Nat × Bool)} {S T:TypeId} {x:Operand} {k:IntKind} {a c:Nat} {d:TypeDesc} {n b n' b':Nat} {z z':Value} (hx:arg x = .d (ex (.int k ((a % c:Nat):Int)))) (hS:Tab P S d n b z) (hT:Tab P T (.int .i64) n' b' z') (h:a<256):Quiet P hp ⟨dd,.convert S T x,ty,ps,af,gd⟩ arg (.d (ex (.int .i64 ((a % c:Nat):Int)))):=GZ hx hS hT (by omega) (by have:=Nat.mod_le a c;omega)
theorem TV (T : Nat) (X:List R4) (m:Nat) (hm:m<256):Abs Tryz.prog 12 [inD T X m] (ex (.int .i64 ((m % 5:Nat):Int))):=by
 refine Ab Tryz.func12 fun s0=>?_
 rw [Tryz.ntmps12]
 apply Y1;refine Bx ?_;refine Wa<|Y0<|Y1 ?_;refine Wq Ng ?_;refine Wq BO ?_;refine Wq (Jz (a:=m) (b:=5) (ao rfl) (ao rfl) (by decide)) ?_;refine Wq (Mn (ao rfl) (Ac rfl) (Ac rfl) hm) ?_;refine Wa<|Y0 ?_;apply Aw
 exact Yf
theorem UN (T : Nat) (X:List R4) (m:Nat) (hm:m<256) (hX:∀ r∈X,Pd r):Abs Tryz.prog 32 [inD T X m] (BG (LN X (m % 5) 5 4)):=by
 have c:=VW T X (m % 5) 5 4 hX (by omega) (by decide) (by decide)
 refine Ab Tryz.func32 fun s0=>?_
 rw [Tryz.ntmps32]
 apply Y1;refine Bx ?_;refine Wa<|Y0<|Y1 ?_;refine Wq Ng ?_;refine Wq BO ?_;refine Wq Ng ?_;refine Wq BO ?_;refine Wq (Jz (a:=m) (b:=5) (ao rfl) (ao rfl) (by decide)) ?_;refine Wq (Mn (ao rfl) (Ac rfl) (Ac rfl) hm) ?_;refine Wq (Ao (c)) ?_;refine Wa<|Y0 ?_;apply Aw
 exact Yf
def OB (m : Nat→Int):Ae→Ae
 | []=>[m]
 | y :: l=>if 0≤FT m y then (if Ju y m = true then y :: l else m :: y :: l) else y :: OB m l
theorem Xi {L : Ae} {k:Nat} (h:k<L.length):L.drop k = Ba L k :: L.drop (k+1):=by
 rw [List.drop_eq_getElem_cons h,Ba,List.getD_eq_getElem?_getD,List.getElem?_eq_getElem h]
 rfl
def InsI (m : Nat→Int) (L:Ae) (k:Nat) (d:Bool) (o:Ae):Prop:=if d = true then o ++ L.drop k = OB m L else o ++ OB m (L.drop k) = OB m L
theorem InsI.put {m : Nat→Int} {L o:Ae} {k:Nat} (h:InsI m L k false o) (hk:k<L.length) (hc:0≤FT m (Ba L k)) (he:Ju (Ba L k) m = false):InsI m L (k+1) true (o ++ [m] ++ [Ba L k]):=by
 have h:o ++ OB m (L.drop k) = OB m L:=h
 rw [Xi hk,OB,if_pos hc,if_neg (by rw [he];exact Bool.false_ne_true)] at h
 show o ++ [m] ++ [Ba L k] ++ L.drop (k+1) = OB m L
 rw [← h]
 simp
def Jb (k : Nat):Nat:=2 ^ k
theorem Ss (k : Nat):Jb (k+1) = 2*Jb k:=by unfold Jb;rw [Nat.pow_succ];omega
theorem QZ {k : Nat} (h:k<8):Jb k≤128:=Nat.pow_le_pow_right (n:=2) (by omega) (show k≤7 by omega)
theorem QU {n : Nat} (h:n<256):IntKind.u8.wrap (n:Int) = n:=by
 unfold IntKind.wrap
 simp only [IntKind.signed,IntKind.bits]
 simp
 omega
theorem VE (i : Nat) (hi:i<8):Abs Tryz.prog 126 [ex (.int .i64 (i:Nat))] (ex (.int .u8 (Jb i:Nat))):=by
 refine Ab Tryz.func126 fun s0=>?_
 rw [Tryz.ntmps126]
 refine Y1<|Wa<|Y0<|Y1<|Wa<|Y0<|Aa<|Y1<|Wa<|Y0<|AWp.block ?_
 refine AJ (fun mz σ=>∃ k,k≤i∧mz = i - k∧σ = ⟨[(0,.d (ex (.int .i64 (i:Nat)))),(3,.d (ex (.int .i64 (Jb k:Nat)))),(4,.d (ex (.int .i64 (k:Nat))))],[]⟩) ?le ⟨0,by omega,rfl,rfl⟩ ?round
 case le=>exact Ag (by exact Yd<|Yd<|Yd<|FrLe.nil) (by exact HpLe.nil)
 case round =>
  rintro mz _ ⟨k,hk,rfl,rfl⟩
  by_cases hlt:k<i
  ·have hp := QZ (k := k) (by omega)
   have hs:(2:Int)*(Jb k:Int) = (Jb (k+1):Int):=by rw [Ss];omega
   refine Aa<|Y1<|Wm<|Wm ?_;refine Wq Am ?_;apply Y0;refine Ct ?_;refine Ys<|Aa<|AWp.block<|AWp.region<|Wm ?_;refine Wq Zr ?_;refine Wa ?_;apply AWl.nil;apply Ai;refine Yn<|AWp.region<|Wm ?_;refine Wq AH ?_;refine Wa ?_;apply AWl.nil
   refine ALoop.next (i - (k+1)) (by omega) ⟨k+1,by omega,rfl,rfl⟩ ?_
   exact Ag (by exact Yd<|FrLe.cons rfl (AVle.int hs)<|Yd<|FrLe.nil) (by exact HpLe.nil)
  ·obtain rfl : k = i := by omega
   have hw:=QU (n:=Jb k) (by have:=QZ hi;omega)
   refine Aa<|Y1<|Wm<|Wm ?_;refine Wq Aq ?_;apply Y0;refine Cf ?_;apply AG;apply Az;apply AA;apply AB;refine Yn<|Y1<|Wm ?_;refine Wq XI ?_;refine Wa<|Y0 ?_;apply Aw
   exact BP (Rets.of1 (ResV.tmp rfl rfl) (Gc (by rw [hw])))
theorem PH (a : Nat→Int) (k:Nat) (h:0<a k):Bi a (k+1) = Bi a k+Jb k:=by
 rw [Bi,if_pos h,Jb]
 have h1:=CI a k
 have h2:(Bi a k) ||| 2 ^ k = 2 ^ k ||| (Bi a k):=Nat.or_comm _ _
 rw [h2]
 have:=Nat.two_pow_add_eq_or_of_lt h1 1
 rw [Nat.mul_one] at this
 rw [← this];omega
theorem Nf (a : Nat→Int):Abs Tryz.prog 80 [Ca (AQ a)] (ex (.int .u8 (Bi a 8:Nat))):=by
 refine Ab Tryz.func80 fun s0=>?_
 rw [Tryz.ntmps80]
 apply Y1;refine Bx ?_;refine Wa<|Y0<|Y1<|Wa<|Y0<|Aa<|Y1<|Wa<|Y0<|AWp.block ?_
 refine AJ (fun mz σ=>∃ k,k≤8∧mz = 8 - k∧σ = ⟨[(1,.ptr 0 0),(3,.d (ex (.int .u8 (Bi a k:Nat)))),(4,.d (ex (.int .i64 (k:Nat))))],[.var 55 ((AQ a).map .d)]⟩) ?le ⟨0,by omega,rfl,rfl⟩ ?round
 case le=>exact Ag (by exact Yp<|Yd<|Yd<|FrLe.nil) (by exact Yv<|HpLe.nil)
 case round =>
  rintro mz _ ⟨k,hk,rfl,rfl⟩
  by_cases hlt:k<8
  ·by_cases hp:0<a k
   ·have hs:=PH a k hp
    have hl:Bi a (k+1)<256:=Nat.lt_of_lt_of_le (CI a (k+1)) (Nat.pow_le_pow_right (n:=2) (j:=8) (by omega) (by omega))
    have hw:IntKind.u8.wrap ((Bi a k:Int)+(Jb k:Int)) = (Bi a (k+1):Nat):=by
     rw [← QU hl,hs,Int.natCast_add]
    refine Aa<|Y1<|Wm ?_;refine Wq Am ?_;apply Y0;refine Ct ?_;refine Ys<|Aa<|AWp.block<|Y1<|Wm ?_;refine Wq CP ?_;refine Wq Db ?_;refine Wq Am ?_;apply Y0;refine Ct ?_;refine AWp.region<|Wm<|Wm ?_;refine Wq (Ao (VE k hlt)) ?_;refine Wq (XS (ao rfl) (ao rfl) hw) ?_;refine Wa ?_;apply AWl.nil;apply Ai;refine Yn<|AWp.region<|Wm ?_;refine Wq AH ?_;refine Wa ?_;apply AWl.nil
    refine ALoop.next (8 - (k+1)) (by omega) ⟨k+1,by omega,rfl,rfl⟩ ?_
    exact Ag (by exact Yp<|Yd<|Yd<|FrLe.nil) (by exact Yv<|HpLe.nil)
   ·have hs : Bi a (k + 1) = Bi a k := by rw [Bi, if_neg hp]
    refine Aa<|Y1<|Wm ?_;refine Wq Am ?_;apply Y0;refine Ct ?_;refine Ys<|Aa<|AWp.block<|Y1<|Wm ?_;refine Wq CP ?_;refine Wq Db ?_;refine Wq Aq ?_;apply Y0;refine Cf ?_;apply Bd;apply Ai;refine Yn<|AWp.region<|Wm ?_;refine Wq AH ?_;refine Wa ?_;apply AWl.nil
    refine ALoop.next (8 - (k+1)) (by omega) ⟨k+1,by omega,rfl,rfl⟩ ?_
    exact Ag (by exact Yp<|FrLe.cons rfl (AVle.int (by rw [hs]))<|Yd<|FrLe.nil) (by exact Yv<|HpLe.nil)
  ·obtain rfl : k = 8 := by omega
   refine Aa<|Y1<|Wm ?_;refine Wq Aq ?_;apply Y0;refine Cf ?_;apply AG;apply Az;apply AA;apply AB;refine Yn<|Y1<|Wm<|Wa<|Y0 ?_;apply Aw
   exact Yf
theorem Tj {a b:Nat} (ha:a<256) (hb:b<256):a &&& (2 ^ 64 - 1 - b) = a &&& (255 - b):=by
 refine Nat.eq_of_testBit_eq fun i=>?_
 rw [Nat.testBit_and,Nat.testBit_and]
 have e1:2 ^ 64 - 1 - b = 2 ^ 64 - (b+1):=by omega
 have e2:255 - b = 2 ^ 8 - (b+1):=by omega
 rw [e1,e2,Nat.testBit_two_pow_sub_succ (by omega),Nat.testBit_two_pow_sub_succ (by omega)]
 by_cases h:i<8
 ·rw [decide_eq_true (show i<64 by omega),decide_eq_true h]
 ·have : a.testBit i = false := Nat.testBit_lt_two_pow (Nat.lt_of_lt_of_le ha (Nat.pow_le_pow_right (n := 2) (i := 8) (by decide) (by omega)))
  rw [this,Bool.false_and,Bool.false_and]
section
variable {P : Program} {hp:List Ow} {arg:Operand→AV} {dd:Option Tmp} {ty:TypeId} {ps:String} {af:Array Edge} {gd:Option (Nat × Bool)}
theorem DX {T U:TypeId} {x y:Operand} {a b:Nat} (hx:arg x = .d (ex (.int .i64 (a:Nat)))) (hy:arg y = .d (ex (.int .i64 (b:Nat)))) (ha:a<256) (hb:b<256):Quiet P hp ⟨dd,.binOp .andNot T x y U,ty,ps,af,gd⟩ arg (.d (ex (.int .i64 ((a &&& (255 - b):Nat):Int)))):=by
 refine QF hx hy fun w=>?_
 have h1:(BitVec.ofInt 64 (a:Int) &&& ~~~ BitVec.ofInt 64 (b:Int)).toNat = a &&& (255 - b):=by
  rw [BitVec.toNat_and,BitVec.toNat_not,BitVec.ofInt_natCast,BitVec.ofInt_natCast,BitVec.toNat_ofNat,BitVec.toNat_ofNat,Nat.mod_eq_of_lt (show a<2 ^ 64 by omega),Nat.mod_eq_of_lt (show b<2 ^ 64 by omega)]
  exact Tj ha hb
 have h2:a &&& (255 - b)<256:=Nat.lt_of_le_of_lt Nat.and_le_left ha
 have h3:IntKind.i64.wrap ((a &&& (255 - b):Nat):Int) = ((a &&& (255 - b):Nat):Int):=IntWalk.i64_in _ (by omega)
 have h4:(BitVec.ofInt IntKind.i64.bits (a:Int) &&& ~~~ BitVec.ofInt IntKind.i64.bits (b:Int)).toNat = a &&& (255 - b):=h1
 have h5:((BitVec.ofInt IntKind.i64.bits (a:Int) &&& ~~~ BitVec.ofInt IntKind.i64.bits (b:Int)).toNat:Int) = ((a &&& (255 - b):Nat):Int):=by rw [h4]
 show Sem.run P (do eqGuard .andNot T x y (.int .i64 a) (.int .i64 b);binOp .andNot T (.int .i64 a) (.int .i64 b)) w = _
 simp only [eqGuard,binOp,Op.intBits,h5,h3]
 rfl
end
theorem UW {l : Ae} {s:Nat} (h:∀ j,j<l.length→GA (Ba l j) s = false):EE l s = true:=by
 unfold EE
 have:l.any (GA · s) = false:=by
  refine Bool.eq_false_iff.2 fun h2=>?_
  obtain ⟨z,hz,h3⟩:=List.any_eq_true.1 h2
  obtain ⟨j,hj,rfl⟩:=List.getElem_of_mem hz
  have:=h j hj
  rw [Ba,List.getD_eq_getElem?_getD,List.getElem?_eq_getElem hj] at this
  have h4:GA l[j] s = false:=this
  rw [h4] at h3
  cases h3
 rw [this]
 rfl
theorem Xd {l : Ae} {s j:Nat} (hj:j<l.length) (h:GA (Ba l j) s = true):EE l s = false:=by
 unfold EE
 have:l.any (GA · s) = true:=List.any_eq_true.2 ⟨_,FB hj,h⟩
 rw [this]
 rfl
theorem KJ (l : Ae) (s:Nat) (hs:s<256) (hl:l.length≤1000):Abs Tryz.prog 38 [BG l,ex (.int .i64 (s:Nat))] (ex (.bool (EE l s))):=by
 refine Ab Tryz.func38 fun s0=>?_
 rw [Tryz.ntmps38]
 refine Y1<|Wa<|Y0<|Aa<|Y1<|Wa<|Y0<|AWp.block ?_
 refine AJ (fun mz σ=>∃ k,k≤l.length∧(∀ j,j<k→GA (Ba l j) s = false)∧mz = l.length - k∧σ = ⟨[(0,.d (BG l)),(1,.d (ex (.int .i64 (s:Nat)))),(5,.d (ex (.int .i64 (k:Nat))))],[]⟩) ?le ⟨0,by omega,fun j hj=>absurd hj (Nat.not_lt_zero j),rfl,rfl⟩ ?round
 case le=>exact Ag (by exact Yd<|Yd<|Yd<|FrLe.nil) (by exact HpLe.nil)
 case round =>
  rintro mz _ ⟨k,hk,hok,rfl,rfl⟩
  by_cases hlt:k<l.length
  ·have cs:=Nf (Ba l k)
   have hsl:Bi (Ba l k) 8<256:=CI _ 8
   by_cases hb:((Bi (Ba l k) 8 &&& (255 - s):Nat):Int) = 0
   ·rw [Xd hlt (show GA (Ba l k) s = true from decide_eq_true hb)]
    refine Aa<|Y1<|Wm<|Wm ?_;refine Wq BD ?_;refine Wq Am ?_;apply Y0;refine Ct ?_;refine Ys<|Aa<|AWp.block<|Y1<|Wm<|Wm ?_;refine Wq AN ?_;refine Wq Br ?_;refine Wq (Ao (cs)) ?_;refine Wq (Co (ao rfl) (Ac rfl) (Ac rfl) hsl) ?_;refine Wm ?_;refine Wq (DX (ao rfl) (ao rfl) hsl hs) ?_;refine Wq Am ?_;apply Y0;refine Ct ?_;refine Y1<|Wa<|Y0 ?_;apply Aw;apply BH;apply AW;apply DY;apply BH;apply AW
    exact Yf
   ·refine Aa<|Y1<|Wm<|Wm ?_;refine Wq BD ?_;refine Wq Am ?_;apply Y0;refine Ct ?_;refine Ys<|Aa<|AWp.block<|Y1<|Wm<|Wm ?_;refine Wq AN ?_;refine Wq Br ?_;refine Wq (Ao (cs)) ?_;refine Wq (Co (ao rfl) (Ac rfl) (Ac rfl) hsl) ?_;refine Wm ?_;refine Wq (DX (ao rfl) (ao rfl) hsl hs) ?_;refine Wq Aq ?_;apply Y0;refine Cf ?_;apply Bd;apply Ai;refine Yn<|AWp.region<|Wm ?_;refine Wq AH ?_;refine Wa ?_;apply AWl.nil
    refine ALoop.next (l.length - (k+1)) (by omega) ⟨k+1,by omega,?_,rfl,rfl⟩ ?_
    ·intro j hj
     by_cases hjk:j = k
     ·subst hjk
      exact decide_eq_false hb
     ·exact hok j (by omega)
    ·exact Ag (by exact Yd<|Yd<|Yd<|FrLe.nil) (by exact HpLe.nil)
  ·obtain rfl : k = l.length := by omega
   rw [UW hok]
   refine Aa<|Y1<|Wm<|Wm ?_;refine Wq BD ?_;refine Wq Aq ?_;apply Y0;refine Cf ?_;apply AG;apply Az;apply AA;apply AB;refine Yn<|Y1<|Wa<|Y0 ?_;apply Aw
   exact Yf
def WN (s : Nat):Nat→Nat
 | 0=>0
 | k+1=>WN s k+s / 2 ^ k % 2
theorem Ux (s : Nat):∀ k,WN s k≤k
 | 0=>Nat.le_refl 0
 | k+1=>by
  have:=Ux s k
  have:=Nat.mod_lt (s / 2 ^ k) (show 0<2 by decide)
  rw [WN]
  omega
theorem WM (s : Nat):WN s 8 = DA s:=by
 simp [WN,DA]
theorem Tr (s : Nat) (hs:s<256):Abs Tryz.prog 39 [ex (.int .u8 (s:Nat))] (ex (.int .i64 (DA s:Nat))):=by
 refine Ab Tryz.func39 fun s0=>?_
 rw [Tryz.ntmps39]
 refine Y1<|Wa<|Y0<|Y1<|Wa<|Y0<|Aa<|Y1<|Wa<|Y0<|AWp.block ?_
 refine AJ (fun mz σ=>∃ k,k≤8∧mz = 8 - k∧σ = ⟨[(0,.d (ex (.int .u8 (s:Nat)))),(3,.d (ex (.int .i64 (WN s k:Nat)))),(4,.d (ex (.int .i64 (k:Nat))))],[]⟩) ?le ⟨0,by omega,rfl,rfl⟩ ?round
 case le=>exact Ag (by exact Yd<|Yd<|Yd<|FrLe.nil) (by exact HpLe.nil)
 case round =>
  rintro mz _ ⟨k,hk,rfl,rfl⟩
  by_cases hlt:k<8
  ·have h1:=Ux s k
   have h2:=Nat.mod_lt (s / 2 ^ k) (show 0<2 by decide)
   have hx:((WN s k:Nat):Int)+((s / 2 ^ k % 2:Nat):Int) = ((WN s (k+1):Nat):Int):=by rw [WN];omega
   refine Aa<|Y1<|Wm ?_;refine Wq Am ?_;apply Y0;refine Ct ?_;refine Ys<|Aa<|AWp.block<|AWp.region<|Wm<|Wm ?_;refine Wq (Co (ao rfl) (Ac rfl) (Ac rfl) hs) ?_;refine Wm ?_;refine Wq (QE (a:=s) (n:=k) (ao rfl) (ao rfl) (by omega)) ?_;refine Wq (Jz (a:=s / 2 ^ k) (b:=2) (ao rfl) (ao rfl) (by decide)) ?_;refine Wq EC ?_;refine Wa ?_;apply AWl.nil;apply Ai;refine Yn<|AWp.region<|Wm ?_;refine Wq AH ?_;refine Wa ?_;apply AWl.nil
   refine ALoop.next (8 - (k+1)) (by omega) ⟨k+1,by omega,rfl,rfl⟩ ?_
   exact Ag (by exact Yd<|Yd<|Yd<|FrLe.nil) (by exact HpLe.nil)
  ·obtain rfl : k = 8 := by omega
   rw [WM]
   refine Aa<|Y1<|Wm ?_;refine Wq Aq ?_;apply Y0;refine Cf ?_;apply AG;apply Az;apply AA;apply AB;refine Yn<|Y1<|Wm<|Wa<|Y0 ?_;apply Aw
   exact Yf
theorem RE (n : Nat) (r:R4) (j:Nat):0≤Wo n 4 r j∧Wo n 4 r j≤4∧((n≤j∨4≤j)→Wo n 4 r j = 0):=by
 unfold Wo
 have:=Nat.mod_lt (r j) (show 0<4+1 by decide)
 split
 ·exact ⟨by omega,by omega,fun h=>by omega⟩
 ·exact ⟨by omega,by omega,fun _=>rfl⟩
theorem MK {X : List R4} {n most top:Nat} {y:Nat→Int} (h:y∈LN X n most top):∃ r∈X,y = Wo n top r:=by
 obtain ⟨r,hr,rfl⟩:=List.mem_map.1 h
 exact ⟨r,List.mem_of_mem_take hr,rfl⟩
theorem A0j (n : Nat) (r:R4):Cy 8 0 (Wo n 4 r)≤16:=by
 have h:=RE n r
 simp only [Cy]
 have h0:=h 0;have h1:=h 1;have h2:=h 2;have h3:=h 3
 have e4:=(h 4).2.2 (.inr (by decide));have e5:=(h 5).2.2 (.inr (by decide));have e6:=(h 6).2.2 (.inr (by decide));have e7:=(h 7).2.2 (.inr (by decide))
 simp only [Nat.zero_add,Nat.reduceAdd,e4,e5,e6,e7]
 omega
theorem YZ {X : List R4} {n most:Nat}:∀ y∈LN X n most 4,SupN n y:=fun y hy j hj=>by
 obtain ⟨r,_,rfl⟩:=MK hy
 exact ⟨(RE n r j).1,fun h=>(RE n r j).2.2 (.inl h)⟩
theorem A0i {X : List R4} {n most:Nat}:∀ y∈LN X n most 4,In8 y 0 64:=fun y hy j hj=>by
 obtain ⟨r,_,rfl⟩:=MK hy
 have:=RE n r j
 exact ⟨this.1,by omega⟩
theorem Za {X : List R4} {n most:Nat}:∀ y∈LN X n most 4,Cy 8 0 y≤16:=fun y hy=>by
 obtain ⟨r,_,rfl⟩:=MK hy
 exact A0j n r
theorem YQ {n k:Nat} (hn:n≤4) (hk:k≤12):(2:Int) ^ k*(((16*k:Nat):Int)+1) ^ (n+1)≤9223372036854775807:=by
 have h1:(16*k+1) ^ (n+1)≤193 ^ 5:=Nat.le_trans (Nat.pow_le_pow_left (by omega) _) (Nat.pow_le_pow_right (by decide) (by omega))
 have h0:2 ^ k≤2 ^ 12:=Nat.pow_le_pow_right (by decide) hk
 have h2:(2:Int) ^ k*(((16*k:Nat):Int)+1) ^ (n+1) = ((2 ^ k*(16*k+1) ^ (n+1):Nat):Int):=by
  push_cast
  rfl
 have h3:2 ^ k*(16*k+1) ^ (n+1)≤2 ^ 12*193 ^ 5:=Nat.mul_le_mul h0 h1
 have h4:2 ^ 12*193 ^ 5≤9223372036854775807:=by decide
 rw [h2]
 omega
theorem Zg (X : List R4) (n most:Nat) (hn:n≤4) (hm:most≤12):∃ N f,HilC (LN X n most 4) n N f:=MT most 16 n _ (by omega) hm (ML X n most 4) (by decide) A0i YZ Za (YQ hn hm)
theorem Sd {P : Program} {hp:List Ow} {arg:Operand→AV} {dd:Option Tmp} {ty:TypeId} {ps:String} {af:Array Edge} {gd:Option (Nat × Bool)} {T U:TypeId} {x y:Operand} {n N:Nat} (hx:arg x = .d (ex (.int .i64 1))) (hy:arg y = .d (ex (.int .i64 (n:Nat)))) (hn:n≤60) (hN:N = 2 ^ n):Quiet P hp ⟨dd,.binOp .shl T x y U,ty,ps,af,gd⟩ arg (.d (ex (.int .i64 (N:Nat)))):=by
 have h1:2 ^ n≤2 ^ 60:=Nat.pow_le_pow_right (by decide) hn
 have h2:2 ^ 60≤9223372036854775807:=by decide
 have:=VI (dd:=dd) (ty:=ty) (ps:=ps) (af:=af) (gd:=gd) (hp:=hp) (T:=T) (U:=U) (P:=P) (a:=1) (n:=n) hx hy (by omega) (by omega)
 rw [Nat.one_mul] at this
 subst hN
 exact this
def Jk (L : List Nat) (s i:Nat):Nat:=((L.take i).filter (EW s)).length
theorem Xt (L : List Nat) (s i:Nat):Jk L s i≤i:=by
 unfold Jk
 refine Nat.le_trans (List.length_filter_le _ _) ?_
 rw [List.length_take]
 exact Nat.min_le_left _ _
theorem Jt {L : List Nat} {i:Nat} (h:i<L.length):L.getD i default = L[i]:=by
 rw [List.getD_eq_getElem?_getD,List.getElem?_eq_getElem h]
 rfl
theorem Tg {L : List Nat} {s i:Nat} (h:i<L.length):Jk L s (i+1) = Jk L s i+if EW s (L.getD i default) = true then 1 else 0:=by
 unfold Jk
 rw [List.take_add_one,List.getElem?_eq_getElem h,List.filter_append,List.length_append,Jt h]
 cases hb:EW s L[i]
 ·have : List.filter (EW s) (some L[i]).toList = [] := by simp [hb]
  rw [this,if_neg Bool.false_ne_true]
  rfl
 ·have : List.filter (EW s) (some L[i]).toList = [L[i]] := by simp [hb]
  rw [this,if_pos rfl]
  rfl
theorem Vl {L : List Nat} {s:Nat}:0<Jk L s L.length↔∃ t∈L,EW s t = true:=by
 unfold Jk
 rw [List.take_length,List.length_pos_iff_exists_mem]
 constructor
 ·rintro ⟨t,ht⟩
  exact ⟨t,(List.mem_filter.1 ht).1,(List.mem_filter.1 ht).2⟩
 ·rintro ⟨t,h1,h2⟩
  exact ⟨t,List.mem_filter.2 ⟨h1,h2⟩⟩
theorem Pp (l : Ae) (n d:Int) (F:Nat→Rat) (hd:d≤0) (ck:Abs Tryz.prog 46 [BG l,ex (.int .i64 n)] (ex (.int .i64 0))) (cd:Abs Tryz.prog 55 [BG l,ex (.int .i64 n)] (ex (.int .i64 d))):Abs Tryz.prog 26 [BG l,ex (.int .i64 n)] (DE [DD 0 F,ex (.int .i64 0)]):=by
 refine Ab Tryz.func26 fun s0=>?_
 rw [Tryz.ntmps26]
 refine Y1<|Wa<|Wa<|Y0<|Aa<|Y1<|Wm<|Wm ?_;refine Wq (Ao (ck)) ?_;refine Wa<|Y0<|Y1<|Wm ?_;refine Wq Aq ?_;apply Y0;refine Cf ?_;refine Ys<|Y1<|Wm<|Wm ?_;refine Wq (Ao (cd)) ?_;refine Wa<|Y0<|Aa<|Y1<|Wm ?_;refine Wq Am ?_;apply Y0;refine Ct ?_;refine Y1<|Wa<|Wa<|Y0 ?_;apply Aw;apply AW
 exact BP (CN (ResV.tmp rfl rfl) (ResV.tmp rfl rfl) (Cp (Ef) (D.le.refl _)))
theorem HilC.polyL {l : Ae} {n N:Nat} {f:Nat→Int} (hc:HilC l n N f) (hn:n≤8):∃ F,Abs Tryz.prog 26 [BG l,ex (.int .i64 (n:Nat))] (DE [DD (EY l n).toNat F,ex (.int .i64 0)]):=by
 by_cases h:EY l n≤0
 ·refine ⟨fun _=>0,?_⟩
  rw [show (EY l n).toNat = 0 by omega]
  exact Pp l n _ _ h hc.ck hc.cd
 ·obtain ⟨Dm, hDm⟩ : ∃ Dm : Nat, EY l n = Dm := ⟨(EY l n).toNat, by omega⟩
  have hd:=hc.dle
  have cd:=hc.cd
  rw [hDm] at cd
  have hM:=RX N f (n - Dm)
  have hN:=hc.nle
  have hp:=hc.pos Dm hDm
  have h1:=Mp l n Dm _ _ (by omega) (by omega) (by omega) (hc.qb Dm hDm) hc.ck cd (hc.cc Dm hDm)
  rw [YV (by omega) (by omega)] at h1
  rw [hDm,Int.toNat_natCast]
  exact ⟨_,h1⟩
theorem Tc (T : Nat) (X:List R4) (m:Nat) (hX:∀ r∈X,Pd r) (hm:m<256):Abs Tryz.prog 6 [inD T X m] (ex (.bool true)):=by
 obtain ⟨Na,f,hc⟩:=Zg X (m % 5) 5 (by omega) (by decide)
 have cm:=UN T X m hm hX
 have cv:=TV T X m hm
 have hlen:=ML X (m % 5) 5 4
 obtain ⟨n,hn⟩:∃ n,n = m % 5:=⟨_,rfl⟩
 have hn4:n≤4:=by omega
 rw [← hn] at hc cm cv hlen
 obtain ⟨l,hl⟩:∃ l,l = LN X n 5 4:=⟨_,rfl⟩
 rw [← hl] at hc cm hlen
 obtain ⟨N,hN⟩:∃ N,N = 2 ^ n:=⟨_,rfl⟩
 have hN16:N≤16:=by rw [hN];exact Nat.pow_le_pow_right (n:=2) (j:=4) (by decide) hn4
 obtain ⟨L,hL⟩:∃ L,L = MM l N:=⟨_,rfl⟩
 have ci:=Mq l n (by omega) (by omega) hc.ck
 rw [← hN,← hL] at ci
 obtain ⟨dz,hdz⟩:∃ dz,dz = EY l n:=⟨_,rfl⟩
 have cd:=Ms l n _ hc.ck hc.cd
 rw [← hdz] at cd
 have hdz2:Gk (Df l N) = dz:=by rw [hdz,hN]
 obtain ⟨F,cp⟩:=hc.polyL (by omega)
 rw [← hdz] at cp
 have hdb:=Jv (Df l N)
 have hS:∀ i,i<L.length→L.getD i default<N∧EE l (L.getD i default) = true∧∀ t,t<N→EE l t = true→EW (L.getD i default) t = true→L.getD i default = t:=fun i hi=>by
  have:L[i]∈MM l N:=hL ▸ List.getElem_mem hi
  rw [Jt hi]
  exact Jp.1 this
 have hLl:L.length≤16:=by
  have h1:L.length≤(Df l N).length:=hL ▸ List.length_filter_le _ _
  have h2:=Js l N
  omega
 have hasc:=WV l N
 rw [← hL] at hasc
 have hlt2:∀ i j,i<j→j<L.length→L.getD i default<L.getD j default:=fun i j hij hj=>by
  rw [Jt (by omega),Jt hj]
  exact List.pairwise_iff_getElem.1 hasc i j (by omega) hj hij
 have hcnt:∀ k,k<N→(0<Jk L k L.length↔EE l k = true):=fun k hk=>by
  rw [Vl]
  constructor
  ·rintro ⟨t,ht,hs⟩
   rw [hL] at ht
   have h3:=Jp.1 ht
   exact UV (by omega) (by omega) h3.2.1 ((Fv (by omega) (by omega)).1 hs)
  ·intro h
   obtain ⟨t,ht,hs⟩:=LO (l:=l) (N:=N) (by omega) (N - k) k (Nat.le_refl _) hk h
   exact ⟨t,hL ▸ ht,hs⟩
 refine Ab Tryz.func6 fun s0=>?_
 rw [Tryz.ntmps6]
 apply Y1;refine Bx ?_;refine Wa<|Y0<|Y1 ?_;refine Wq (Ao (PP)) ?_;refine Wa<|Y0<|Aa<|Y1<|Wm ?_;refine Wq DC ?_;apply Y0;refine Cf ?_;refine Ys<|Aa ?_
 refine Dr [[],[(21,0)],[],[(23,2)]] [[],[0],[],[0,1,2]] ?_
 refine Xq AU ?_;refine Xq (Ao (cm)) ?_;refine Xq AU ?_;refine Xq (Ao (cv)) ?_;refine ⟨_,rfl,?_⟩
 refine Wa<|Wa<|Y0<|Y1<|Wm<|Wm ?_;refine Wq (Ao (ci)) ?_;refine Wm ?_;refine Wq Cc ?_;refine Wq Cc ?_;refine Wa<|Wa<|Y0<|Y1<|Wm<|Wm ?_;refine Wq (Ao (cd)) ?_;refine Wm ?_;refine Wq Cc ?_;refine Wq Cc ?_;refine Wa<|Wa<|Y0<|Aa<|Y1<|Wm ?_;refine Wq Aq ?_;refine Wm ?_;refine Wg Af ?_;refine Wg Aq ?_;refine Wq By ?_;apply Y0;refine Cf ?_;refine Ys<|Y1<|Wa<|Y0<|Aa<|Y1<|Wa<|Y0<|AWp.block ?_
 refine AJ (fun mz σ=>∃ k,k≤N∧mz = N - k∧σ = ⟨[(3,.d (ex (.bool true))),(4,.d (BG l)),(5,.d (ex (.int .i64 (n:Nat)))),(6,.d (Nz L)),(8,.d (ex (.int .i64 dz))),(10,.d (ex (.int .i64 (Gk (Df l k))))),(11,.d (ex (.int .i64 (k:Nat))))],[]⟩) ?le ⟨0,by omega,rfl,rfl⟩ ?round
 case le=>exact Ag (by exact Yd<|Yd<|Yd<|Yd<|Yd<|Yd<|Yd<|FrLe.nil) (by exact HpLe.nil)
 case round =>
  rintro mz _ ⟨k,hk,rfl,rfl⟩
  by_cases hlt:k<N
  ·have hk256 : k < 256 := by omega
   have cik:=KJ l k hk256 (by omega)
   have cok:=Tr k hk256
   refine Aa<|Y1<|Wm<|Wm ?_;refine Wq (Sd (n:=n) (N:=N) (ao rfl) (ao rfl) (by omega) hN) ?_;refine Wq Am ?_;apply Y0;refine Ct ?_;refine Ys<|Aa<|AWp.block<|Y1<|Wa<|Y0<|Aa<|Y1<|Wa<|Y0<|AWp.block ?_
   refine AJ (fun mz σ=>∃ i,i≤L.length∧mz = L.length - i∧σ = ⟨[(3,.d (ex (.bool true))),(4,.d (BG l)),(5,.d (ex (.int .i64 (n:Nat)))),(6,.d (Nz L)),(8,.d (ex (.int .i64 dz))),(10,.d (ex (.int .i64 (Gk (Df l k))))),(11,.d (ex (.int .i64 (k:Nat)))),(12,.d (ex (.int .i64 (Jk L k i:Nat)))),(13,.d (ex (.int .i64 (i:Nat))))],[]⟩) ?lei ⟨0,by omega,rfl,rfl⟩ ?roundi
   case lei=>exact Ag (by exact Yd<|Yd<|Yd<|Yd<|Yd<|Yd<|Yd<|Yd<|Yd<|FrLe.nil) (by exact HpLe.nil)
   case roundi =>
    rintro mz _ ⟨i,hi,rfl,rfl⟩
    by_cases hlti:i<L.length
    ·have hSi:=hS i hlti
     have hsi:L.getD i default<256:=by omega
     have hcl:=Xt L k i
     have hnx:=Tg (s:=k) hlti
     have cii:=KJ l (L.getD i default) hsi (by omega)
     rw [hSi.2.1] at cii
     by_cases hb:((k &&& (255 - L.getD i default):Nat):Int) = 0
     ·rw [if_pos (show EW k (L.getD i default) = true from decide_eq_true hb)] at hnx
      by_cases hk0:k = 0
      ·by_cases hi0:i = 0
       ·have hi1 : ¬ (0 : Int) < ((i : Nat) : Int) := by omega
        refine Aa<|Y1<|Wm<|Wm ?_;refine Wq BD ?_;refine Wq Am ?_;apply Y0;refine Ct ?_;refine Ys<|Aa<|AWp.block<|Aa<|Y1<|Wm<|Wm<|Wm ?_;refine Wq AN ?_;refine Wq BE ?_;refine Wq (Co (a:=L.getD i default) (ao rfl) (Ac rfl) (Ac rfl) hsi) ?_;refine Wq (DX (a:=k) (b:=L.getD i default) (ao rfl) (ao rfl) hk256 hsi) ?_;refine Wq Am ?_;apply Y0;refine Ct ?_;refine AWp.region<|Wm ?_;refine Wq AH ?_;refine Wa<|Y0<|Aa ?_
        refine Dr [[],[(65,0)],[(66,1)],[],[(68,3)],[(69,4)],[],[],[(72,7)],[(71,6),(73,8)],[(74,9)],[],[],[(76,11),(77,12)],[(78,13)],[(75,10),(79,14)],[(70,5),(80,15)],[(81,16)],[],[],[],[(84,19),(85,20)],[(86,21)],[(87,22)],[(83,18),(88,23)],[(89,24)],[(82,17),(90,25)],[(67,2),(91,26)]] [[],[0],[0,1],[0,1,2],[0,1,2,3],[0,1,2,3,4],[0,1,2,3,4,5],[0,1,2,3,4,5],[0,1,2,3,4,5,7],[0,1,2,3,4,5,6,7,8],[0,1,2,3,4,5,6,7,8,9],[0,1,2,3,4,5],[0,1,2,3,4,5],[0,1,2,3,4,5,11,12],[0,1,2,3,4,5,11,12,13],[0,1,2,3,4,5,6,7,8,9,10,11,12,13,14],[0,1,2,3,4,5,6,7,8,9,10,11,12,13,14,15],[0,1,2,3,4,5,6,7,8,9,10,11,12,13,14,15,16],[0,1,2,3,4,5,6,7,8,9,10,11,12,13,14,15,16,17],[0,1,2,3,4,5,6,7,8,9,10,11,12,13,14,15,16,17],[0,1,2,3,4,5,6,7,8,9,10,11,12,13,14,15,16,17],[0,1,2,3,4,5,6,7,8,9,10,11,12,13,14,15,16,17,19,20],[0,1,2,3,4,5,6,7,8,9,10,11,12,13,14,15,16,17,19,20,21],[0,1,2,3,4,5,6,7,8,9,10,11,12,13,14,15,16,17,19,20,21,22],[0,1,2,3,4,5,6,7,8,9,10,11,12,13,14,15,16,17,18,19,20,21,22,23],[0,1,2,3,4,5,6,7,8,9,10,11,12,13,14,15,16,17,18,19,20,21,22,23,24],[0,1,2,3,4,5,6,7,8,9,10,11,12,13,14,15,16,17,18,19,20,21,22,23,24,25],[0,1,2,3,4,5,6,7,8,9,10,11,12,13,14,15,16,17,18,19,20,21,22,23,24,25,26]] ?_
        refine Xq Af ?_;refine Xq Am ?_;refine Xq Af ?_;refine Xg Af ?_;refine Xg Aq ?_;refine Xg Af ?_;refine Xs ?_;refine Xs ?_;refine Xs ?_;refine Xs ?_;refine Xs ?_;refine Xs ?_;refine Xs ?_;refine Xs ?_;refine Xs ?_;refine Xs ?_;refine Xg By ?_;refine Xg Af ?_;refine Xg Af ?_;refine Xg Af ?_;refine Xg Af ?_;refine Xg AN ?_;refine Xg BE ?_;(refine ⟨_,Ee rfl rfl (Co (a:=L.getD i default) (ah rfl) (Ac rfl) (Ac rfl) hsi),?_⟩;refine ⟨_,rfl,?_⟩);refine Xg (Ao (cii)) ?_;refine Xg DC ?_;refine Xg By ?_;refine Xq AT ?_;refine ⟨_,rfl,?_⟩
        apply Y0;refine Cf ?_;apply Bd;apply Ai;refine Yn<|AWp.region<|Wm ?_;refine Wq AH ?_;refine Wa ?_;apply AWl.nil
        refine ALoop.next (L.length - (i+1)) (by omega) ⟨i+1,by omega,rfl,rfl⟩ ?_
        exact Ag (by exact Yd<|Yd<|Yd<|Yd<|Yd<|Yd<|Yd<|FrLe.cons rfl (AVle.int (by omega))<|Yd<|FrLe.nil) (by exact HpLe.nil)
       ·have hlp := hlt2 (i - 1) i (by omega) hlti
        have hip:i - 1<L.length:=by omega
        have hi1:0<i:=by omega
        refine Aa<|Y1<|Wm<|Wm ?_;refine Wq BD ?_;refine Wq Am ?_;apply Y0;refine Ct ?_;refine Ys<|Aa<|AWp.block<|Aa<|Y1<|Wm<|Wm<|Wm ?_;refine Wq AN ?_;refine Wq BE ?_;refine Wq (Co (a:=L.getD i default) (ao rfl) (Ac rfl) (Ac rfl) hsi) ?_;refine Wq (DX (a:=k) (b:=L.getD i default) (ao rfl) (ao rfl) hk256 hsi) ?_;refine Wq Am ?_;apply Y0;refine Ct ?_;refine AWp.region<|Wm ?_;refine Wq AH ?_;refine Wa<|Y0<|Aa ?_
        refine Dr [[],[(65,0)],[(66,1)],[],[(68,3)],[(69,4)],[],[],[(72,7)],[(71,6),(73,8)],[(74,9)],[],[],[(76,11),(77,12)],[(78,13)],[(75,10),(79,14)],[(70,5),(80,15)],[(81,16)],[],[],[],[(84,19),(85,20)],[(86,21)],[(87,22)],[(83,18),(88,23)],[(89,24)],[(82,17),(90,25)],[(67,2),(91,26)]] [[],[0],[0,1],[0,1,2],[0,1,2,3],[0,1,2,3,4],[0,1,2,3,4,5],[0,1,2,3,4,5],[0,1,2,3,4,5,7],[0,1,2,3,4,5,6,7,8],[0,1,2,3,4,5,6,7,8,9],[0,1,2,3,4,5],[0,1,2,3,4,5],[0,1,2,3,4,5,11,12],[0,1,2,3,4,5,11,12,13],[0,1,2,3,4,5,6,7,8,9,10,11,12,13,14],[0,1,2,3,4,5,6,7,8,9,10,11,12,13,14,15],[0,1,2,3,4,5,6,7,8,9,10,11,12,13,14,15,16],[0,1,2,3,4,5,6,7,8,9,10,11,12,13,14,15,16,17],[0,1,2,3,4,5,6,7,8,9,10,11,12,13,14,15,16,17],[0,1,2,3,4,5,6,7,8,9,10,11,12,13,14,15,16,17],[0,1,2,3,4,5,6,7,8,9,10,11,12,13,14,15,16,17,19,20],[0,1,2,3,4,5,6,7,8,9,10,11,12,13,14,15,16,17,19,20,21],[0,1,2,3,4,5,6,7,8,9,10,11,12,13,14,15,16,17,19,20,21,22],[0,1,2,3,4,5,6,7,8,9,10,11,12,13,14,15,16,17,18,19,20,21,22,23],[0,1,2,3,4,5,6,7,8,9,10,11,12,13,14,15,16,17,18,19,20,21,22,23,24],[0,1,2,3,4,5,6,7,8,9,10,11,12,13,14,15,16,17,18,19,20,21,22,23,24,25],[0,1,2,3,4,5,6,7,8,9,10,11,12,13,14,15,16,17,18,19,20,21,22,23,24,25,26]] ?_
        refine Xq Af ?_;refine Xq Am ?_;refine Xq Af ?_;refine Xg Af ?_;refine Xg Am ?_;refine Xg Af ?_;refine Xg Af ?_;refine Xg Af ?_;refine Xg DM ?_;refine Xg AN ?_;refine Xg BE ?_;refine Xg Af ?_;refine Xg Af ?_;refine Xg AN ?_;refine Xg BE ?_;refine Xg Aq ?_;refine Xg AT ?_;refine Xg Af ?_;refine Xg Af ?_;refine Xg Af ?_;refine Xg Af ?_;refine Xg AN ?_;refine Xg BE ?_;(refine ⟨_,Ee rfl rfl (Co (a:=L.getD i default) (ah rfl) (Ac rfl) (Ac rfl) hsi),?_⟩;refine ⟨_,rfl,?_⟩);refine Xg (Ao (cii)) ?_;refine Xg DC ?_;refine Xg By ?_;refine Xq AT ?_;refine ⟨_,rfl,?_⟩
        apply Y0;refine Cf ?_;apply Bd;apply Ai;refine Yn<|AWp.region<|Wm ?_;refine Wq AH ?_;refine Wa ?_;apply AWl.nil
        refine ALoop.next (L.length - (i+1)) (by omega) ⟨i+1,by omega,rfl,rfl⟩ ?_
        exact Ag (by exact Yd<|Yd<|Yd<|Yd<|Yd<|Yd<|Yd<|FrLe.cons rfl (AVle.int (by omega))<|Yd<|FrLe.nil) (by exact HpLe.nil)
      ·have hkI : ¬ ((k : Nat) : Int) = 0 := by omega
       refine Aa<|Y1<|Wm<|Wm ?_;refine Wq BD ?_;refine Wq Am ?_;apply Y0;refine Ct ?_;refine Ys<|Aa<|AWp.block<|Aa<|Y1<|Wm<|Wm<|Wm ?_;refine Wq AN ?_;refine Wq BE ?_;refine Wq (Co (a:=L.getD i default) (ao rfl) (Ac rfl) (Ac rfl) hsi) ?_;refine Wq (DX (a:=k) (b:=L.getD i default) (ao rfl) (ao rfl) hk256 hsi) ?_;refine Wq Am ?_;apply Y0;refine Ct ?_;refine AWp.region<|Wm ?_;refine Wq AH ?_;refine Wa<|Y0<|Aa ?_
       refine Dr [[],[(65,0)],[(66,1)],[],[(68,3)],[(69,4)],[],[],[(72,7)],[(71,6),(73,8)],[(74,9)],[],[],[(76,11),(77,12)],[(78,13)],[(75,10),(79,14)],[(70,5),(80,15)],[(81,16)],[],[],[],[(84,19),(85,20)],[(86,21)],[(87,22)],[(83,18),(88,23)],[(89,24)],[(82,17),(90,25)],[(67,2),(91,26)]] [[],[0],[0,1],[0,1,2],[0,1,2,3],[0,1,2,3,4],[0,1,2,3,4,5],[0,1,2,3,4,5],[0,1,2,3,4,5,7],[0,1,2,3,4,5,6,7,8],[0,1,2,3,4,5,6,7,8,9],[0,1,2,3,4,5],[0,1,2,3,4,5],[0,1,2,3,4,5,11,12],[0,1,2,3,4,5,11,12,13],[0,1,2,3,4,5,6,7,8,9,10,11,12,13,14],[0,1,2,3,4,5,6,7,8,9,10,11,12,13,14,15],[0,1,2,3,4,5,6,7,8,9,10,11,12,13,14,15,16],[0,1,2,3,4,5,6,7,8,9,10,11,12,13,14,15,16,17],[0,1,2,3,4,5,6,7,8,9,10,11,12,13,14,15,16,17],[0,1,2,3,4,5,6,7,8,9,10,11,12,13,14,15,16,17],[0,1,2,3,4,5,6,7,8,9,10,11,12,13,14,15,16,17,19,20],[0,1,2,3,4,5,6,7,8,9,10,11,12,13,14,15,16,17,19,20,21],[0,1,2,3,4,5,6,7,8,9,10,11,12,13,14,15,16,17,19,20,21,22],[0,1,2,3,4,5,6,7,8,9,10,11,12,13,14,15,16,17,18,19,20,21,22,23],[0,1,2,3,4,5,6,7,8,9,10,11,12,13,14,15,16,17,18,19,20,21,22,23,24],[0,1,2,3,4,5,6,7,8,9,10,11,12,13,14,15,16,17,18,19,20,21,22,23,24,25],[0,1,2,3,4,5,6,7,8,9,10,11,12,13,14,15,16,17,18,19,20,21,22,23,24,25,26]] ?_
       refine Xq Af ?_;refine Xq Aq ?_;refine Xq Af ?_;refine Xs ?_;refine Xs ?_;refine Xs ?_;refine Xs ?_;refine Xs ?_;refine Xs ?_;refine Xs ?_;refine Xs ?_;refine Xs ?_;refine Xs ?_;refine Xs ?_;refine Xs ?_;refine Xs ?_;refine Xs ?_;refine Xs ?_;refine Xs ?_;refine Xs ?_;refine Xs ?_;refine Xs ?_;refine Xs ?_;refine Xs ?_;refine Xs ?_;refine Xs ?_;refine Xs ?_;refine Xq By ?_;refine ⟨_,rfl,?_⟩
       apply Y0;refine Cf ?_;apply Bd;apply Ai;refine Yn<|AWp.region<|Wm ?_;refine Wq AH ?_;refine Wa ?_;apply AWl.nil
       refine ALoop.next (L.length - (i+1)) (by omega) ⟨i+1,by omega,rfl,rfl⟩ ?_
       exact Ag (by exact Yd<|Yd<|Yd<|Yd<|Yd<|Yd<|Yd<|FrLe.cons rfl (AVle.int (by omega))<|Yd<|FrLe.nil) (by exact HpLe.nil)
     ·rw [if_neg (show ¬ EW k (L.getD i default) = true from fun h=>hb (of_decide_eq_true h))] at hnx
      by_cases hk0:k = 0
      ·by_cases hi0:i = 0
       ·have hi1 : ¬ (0 : Int) < ((i : Nat) : Int) := by omega
        refine Aa<|Y1<|Wm<|Wm ?_;refine Wq BD ?_;refine Wq Am ?_;apply Y0;refine Ct ?_;refine Ys<|Aa<|AWp.block<|Aa<|Y1<|Wm<|Wm<|Wm ?_;refine Wq AN ?_;refine Wq BE ?_;refine Wq (Co (a:=L.getD i default) (ao rfl) (Ac rfl) (Ac rfl) hsi) ?_;refine Wq (DX (a:=k) (b:=L.getD i default) (ao rfl) (ao rfl) hk256 hsi) ?_;refine Wq Aq ?_;apply Y0;refine Cf ?_;refine Ys<|Aa ?_
        refine Dr [[],[(65,0)],[(66,1)],[],[(68,3)],[(69,4)],[],[],[(72,7)],[(71,6),(73,8)],[(74,9)],[],[],[(76,11),(77,12)],[(78,13)],[(75,10),(79,14)],[(70,5),(80,15)],[(81,16)],[],[],[],[(84,19),(85,20)],[(86,21)],[(87,22)],[(83,18),(88,23)],[(89,24)],[(82,17),(90,25)],[(67,2),(91,26)]] [[],[0],[0,1],[0,1,2],[0,1,2,3],[0,1,2,3,4],[0,1,2,3,4,5],[0,1,2,3,4,5],[0,1,2,3,4,5,7],[0,1,2,3,4,5,6,7,8],[0,1,2,3,4,5,6,7,8,9],[0,1,2,3,4,5],[0,1,2,3,4,5],[0,1,2,3,4,5,11,12],[0,1,2,3,4,5,11,12,13],[0,1,2,3,4,5,6,7,8,9,10,11,12,13,14],[0,1,2,3,4,5,6,7,8,9,10,11,12,13,14,15],[0,1,2,3,4,5,6,7,8,9,10,11,12,13,14,15,16],[0,1,2,3,4,5,6,7,8,9,10,11,12,13,14,15,16,17],[0,1,2,3,4,5,6,7,8,9,10,11,12,13,14,15,16,17],[0,1,2,3,4,5,6,7,8,9,10,11,12,13,14,15,16,17],[0,1,2,3,4,5,6,7,8,9,10,11,12,13,14,15,16,17,19,20],[0,1,2,3,4,5,6,7,8,9,10,11,12,13,14,15,16,17,19,20,21],[0,1,2,3,4,5,6,7,8,9,10,11,12,13,14,15,16,17,19,20,21,22],[0,1,2,3,4,5,6,7,8,9,10,11,12,13,14,15,16,17,18,19,20,21,22,23],[0,1,2,3,4,5,6,7,8,9,10,11,12,13,14,15,16,17,18,19,20,21,22,23,24],[0,1,2,3,4,5,6,7,8,9,10,11,12,13,14,15,16,17,18,19,20,21,22,23,24,25],[0,1,2,3,4,5,6,7,8,9,10,11,12,13,14,15,16,17,18,19,20,21,22,23,24,25,26]] ?_
        refine Xq Af ?_;refine Xq Am ?_;refine Xq Af ?_;refine Xg Af ?_;refine Xg Aq ?_;refine Xg Af ?_;refine Xs ?_;refine Xs ?_;refine Xs ?_;refine Xs ?_;refine Xs ?_;refine Xs ?_;refine Xs ?_;refine Xs ?_;refine Xs ?_;refine Xs ?_;refine Xg By ?_;refine Xg Af ?_;refine Xg Af ?_;refine Xg Af ?_;refine Xg Af ?_;refine Xg AN ?_;refine Xg BE ?_;(refine ⟨_,Ee rfl rfl (Co (a:=L.getD i default) (ah rfl) (Ac rfl) (Ac rfl) hsi),?_⟩;refine ⟨_,rfl,?_⟩);refine Xg (Ao (cii)) ?_;refine Xg DC ?_;refine Xg By ?_;refine Xq AT ?_;refine ⟨_,rfl,?_⟩
        apply Y0;refine Cf ?_;apply Bd;apply Ai;refine Yn<|AWp.region<|Wm ?_;refine Wq AH ?_;refine Wa ?_;apply AWl.nil
        refine ALoop.next (L.length - (i+1)) (by omega) ⟨i+1,by omega,rfl,rfl⟩ ?_
        exact Ag (by exact Yd<|Yd<|Yd<|Yd<|Yd<|Yd<|Yd<|FrLe.cons rfl (AVle.int (by omega))<|Yd<|FrLe.nil) (by exact HpLe.nil)
       ·have hlp := hlt2 (i - 1) i (by omega) hlti
        have hip:i - 1<L.length:=by omega
        have hi1:0<i:=by omega
        refine Aa<|Y1<|Wm<|Wm ?_;refine Wq BD ?_;refine Wq Am ?_;apply Y0;refine Ct ?_;refine Ys<|Aa<|AWp.block<|Aa<|Y1<|Wm<|Wm<|Wm ?_;refine Wq AN ?_;refine Wq BE ?_;refine Wq (Co (a:=L.getD i default) (ao rfl) (Ac rfl) (Ac rfl) hsi) ?_;refine Wq (DX (a:=k) (b:=L.getD i default) (ao rfl) (ao rfl) hk256 hsi) ?_;refine Wq Aq ?_;apply Y0;refine Cf ?_;refine Ys<|Aa ?_
        refine Dr [[],[(65,0)],[(66,1)],[],[(68,3)],[(69,4)],[],[],[(72,7)],[(71,6),(73,8)],[(74,9)],[],[],[(76,11),(77,12)],[(78,13)],[(75,10),(79,14)],[(70,5),(80,15)],[(81,16)],[],[],[],[(84,19),(85,20)],[(86,21)],[(87,22)],[(83,18),(88,23)],[(89,24)],[(82,17),(90,25)],[(67,2),(91,26)]] [[],[0],[0,1],[0,1,2],[0,1,2,3],[0,1,2,3,4],[0,1,2,3,4,5],[0,1,2,3,4,5],[0,1,2,3,4,5,7],[0,1,2,3,4,5,6,7,8],[0,1,2,3,4,5,6,7,8,9],[0,1,2,3,4,5],[0,1,2,3,4,5],[0,1,2,3,4,5,11,12],[0,1,2,3,4,5,11,12,13],[0,1,2,3,4,5,6,7,8,9,10,11,12,13,14],[0,1,2,3,4,5,6,7,8,9,10,11,12,13,14,15],[0,1,2,3,4,5,6,7,8,9,10,11,12,13,14,15,16],[0,1,2,3,4,5,6,7,8,9,10,11,12,13,14,15,16,17],[0,1,2,3,4,5,6,7,8,9,10,11,12,13,14,15,16,17],[0,1,2,3,4,5,6,7,8,9,10,11,12,13,14,15,16,17],[0,1,2,3,4,5,6,7,8,9,10,11,12,13,14,15,16,17,19,20],[0,1,2,3,4,5,6,7,8,9,10,11,12,13,14,15,16,17,19,20,21],[0,1,2,3,4,5,6,7,8,9,10,11,12,13,14,15,16,17,19,20,21,22],[0,1,2,3,4,5,6,7,8,9,10,11,12,13,14,15,16,17,18,19,20,21,22,23],[0,1,2,3,4,5,6,7,8,9,10,11,12,13,14,15,16,17,18,19,20,21,22,23,24],[0,1,2,3,4,5,6,7,8,9,10,11,12,13,14,15,16,17,18,19,20,21,22,23,24,25],[0,1,2,3,4,5,6,7,8,9,10,11,12,13,14,15,16,17,18,19,20,21,22,23,24,25,26]] ?_
        refine Xq Af ?_;refine Xq Am ?_;refine Xq Af ?_;refine Xg Af ?_;refine Xg Am ?_;refine Xg Af ?_;refine Xg Af ?_;refine Xg Af ?_;refine Xg DM ?_;refine Xg AN ?_;refine Xg BE ?_;refine Xg Af ?_;refine Xg Af ?_;refine Xg AN ?_;refine Xg BE ?_;refine Xg Aq ?_;refine Xg AT ?_;refine Xg Af ?_;refine Xg Af ?_;refine Xg Af ?_;refine Xg Af ?_;refine Xg AN ?_;refine Xg BE ?_;(refine ⟨_,Ee rfl rfl (Co (a:=L.getD i default) (ah rfl) (Ac rfl) (Ac rfl) hsi),?_⟩;refine ⟨_,rfl,?_⟩);refine Xg (Ao (cii)) ?_;refine Xg DC ?_;refine Xg By ?_;refine Xq AT ?_;refine ⟨_,rfl,?_⟩
        apply Y0;refine Cf ?_;apply Bd;apply Ai;refine Yn<|AWp.region<|Wm ?_;refine Wq AH ?_;refine Wa ?_;apply AWl.nil
        refine ALoop.next (L.length - (i+1)) (by omega) ⟨i+1,by omega,rfl,rfl⟩ ?_
        exact Ag (by exact Yd<|Yd<|Yd<|Yd<|Yd<|Yd<|Yd<|FrLe.cons rfl (AVle.int (by omega))<|Yd<|FrLe.nil) (by exact HpLe.nil)
      ·have hkI : ¬ ((k : Nat) : Int) = 0 := by omega
       refine Aa<|Y1<|Wm<|Wm ?_;refine Wq BD ?_;refine Wq Am ?_;apply Y0;refine Ct ?_;refine Ys<|Aa<|AWp.block<|Aa<|Y1<|Wm<|Wm<|Wm ?_;refine Wq AN ?_;refine Wq BE ?_;refine Wq (Co (a:=L.getD i default) (ao rfl) (Ac rfl) (Ac rfl) hsi) ?_;refine Wq (DX (a:=k) (b:=L.getD i default) (ao rfl) (ao rfl) hk256 hsi) ?_;refine Wq Aq ?_;apply Y0;refine Cf ?_;refine Ys<|Aa ?_
       refine Dr [[],[(65,0)],[(66,1)],[],[(68,3)],[(69,4)],[],[],[(72,7)],[(71,6),(73,8)],[(74,9)],[],[],[(76,11),(77,12)],[(78,13)],[(75,10),(79,14)],[(70,5),(80,15)],[(81,16)],[],[],[],[(84,19),(85,20)],[(86,21)],[(87,22)],[(83,18),(88,23)],[(89,24)],[(82,17),(90,25)],[(67,2),(91,26)]] [[],[0],[0,1],[0,1,2],[0,1,2,3],[0,1,2,3,4],[0,1,2,3,4,5],[0,1,2,3,4,5],[0,1,2,3,4,5,7],[0,1,2,3,4,5,6,7,8],[0,1,2,3,4,5,6,7,8,9],[0,1,2,3,4,5],[0,1,2,3,4,5],[0,1,2,3,4,5,11,12],[0,1,2,3,4,5,11,12,13],[0,1,2,3,4,5,6,7,8,9,10,11,12,13,14],[0,1,2,3,4,5,6,7,8,9,10,11,12,13,14,15],[0,1,2,3,4,5,6,7,8,9,10,11,12,13,14,15,16],[0,1,2,3,4,5,6,7,8,9,10,11,12,13,14,15,16,17],[0,1,2,3,4,5,6,7,8,9,10,11,12,13,14,15,16,17],[0,1,2,3,4,5,6,7,8,9,10,11,12,13,14,15,16,17],[0,1,2,3,4,5,6,7,8,9,10,11,12,13,14,15,16,17,19,20],[0,1,2,3,4,5,6,7,8,9,10,11,12,13,14,15,16,17,19,20,21],[0,1,2,3,4,5,6,7,8,9,10,11,12,13,14,15,16,17,19,20,21,22],[0,1,2,3,4,5,6,7,8,9,10,11,12,13,14,15,16,17,18,19,20,21,22,23],[0,1,2,3,4,5,6,7,8,9,10,11,12,13,14,15,16,17,18,19,20,21,22,23,24],[0,1,2,3,4,5,6,7,8,9,10,11,12,13,14,15,16,17,18,19,20,21,22,23,24,25],[0,1,2,3,4,5,6,7,8,9,10,11,12,13,14,15,16,17,18,19,20,21,22,23,24,25,26]] ?_
       refine Xq Af ?_;refine Xq Aq ?_;refine Xq Af ?_;refine Xs ?_;refine Xs ?_;refine Xs ?_;refine Xs ?_;refine Xs ?_;refine Xs ?_;refine Xs ?_;refine Xs ?_;refine Xs ?_;refine Xs ?_;refine Xs ?_;refine Xs ?_;refine Xs ?_;refine Xs ?_;refine Xs ?_;refine Xs ?_;refine Xs ?_;refine Xs ?_;refine Xs ?_;refine Xs ?_;refine Xs ?_;refine Xs ?_;refine Xs ?_;refine Xs ?_;refine Xq By ?_;refine ⟨_,rfl,?_⟩
       apply Y0;refine Cf ?_;apply Bd;apply Ai;refine Yn<|AWp.region<|Wm ?_;refine Wq AH ?_;refine Wa ?_;apply AWl.nil
       refine ALoop.next (L.length - (i+1)) (by omega) ⟨i+1,by omega,rfl,rfl⟩ ?_
       exact Ag (by exact Yd<|Yd<|Yd<|Yd<|Yd<|Yd<|Yd<|FrLe.cons rfl (AVle.int (by omega))<|Yd<|FrLe.nil) (by exact HpLe.nil)
    ·obtain rfl : i = L.length := by omega
     have hcn:=hcnt k hlt
     cases hb:EE l k
     ·have hc0:Jk L k L.length = 0:=by
       have:¬ 0<Jk L k L.length:=fun h=>by
        have:=hcn.1 h
        rw [hb] at this
        cases this
       omega
      rw [hb] at cik
      refine Aa<|Y1<|Wm<|Wm ?_;refine Wq BD ?_;refine Wq Aq ?_;apply Y0;refine Cf ?_;apply AG;apply Az;apply AA;apply AB;refine Yn<|Aa<|Y1<|Wm ?_;refine Wq Aq ?_;refine Wm<|Wm ?_;refine Wq (Ao (cik)) ?_;refine Wq Mh ?_;apply Y0;refine Cf ?_;refine Ys<|Y1<|Wm ?_;refine Wq Aq ?_;apply Y0;refine Cf ?_;apply Bd;apply Ai;refine Yn<|AWp.region<|Wm ?_;refine Wq AH ?_;refine Wa ?_;apply AWl.nil
      refine ALoop.next (N - (k+1)) (by omega) ⟨k+1,by omega,rfl,rfl⟩ ?_
      exact Ag (by exact Yd<|Yd<|Yd<|Yd<|Yd<|FrLe.cons rfl (AVle.int (by rw [GR,hb,if_neg Bool.false_ne_true]))<|Yd<|FrLe.nil) (by exact HpLe.nil)
     ·have hc0:0<Jk L k L.length:=hcn.2 hb
      rw [hb] at cik
      refine Aa<|Y1<|Wm<|Wm ?_;refine Wq BD ?_;refine Wq Aq ?_;apply Y0;refine Cf ?_;apply AG;apply Az;apply AA;apply AB;refine Yn<|Aa<|Y1<|Wm ?_;refine Wq Am ?_;refine Wm<|Wm ?_;refine Wq (Ao (cik)) ?_;refine Wq Mh ?_;apply Y0;refine Cf ?_;refine Ys<|Y1<|Wm ?_;refine Wq Am ?_;apply Y0;refine Ct ?_;refine AWp.region<|Wm<|Wm ?_;refine Wq (KS (a:=k) (ao rfl) (Ac rfl) (Ac rfl) hk256) ?_;refine Wq (Ao (cok)) ?_;refine Wq KK ?_;refine Wa ?_;apply AWl.nil;apply Ai;refine Yn<|AWp.region<|Wm ?_;refine Wq AH ?_;refine Wa ?_;apply AWl.nil
      refine ALoop.next (N - (k+1)) (by omega) ⟨k+1,by omega,rfl,rfl⟩ ?_
      exact Ag (by exact Yd<|Yd<|Yd<|Yd<|Yd<|FrLe.cons rfl (AVle.int (by rw [GR,if_pos hb,LX]))<|Yd<|FrLe.nil) (by exact HpLe.nil)
  ·obtain rfl : k = N := by omega
   rw [hdz2]
   refine Aa<|Y1<|Wm<|Wm ?_;refine Wq (Sd (n:=n) (N:=k) (ao rfl) (ao rfl) (by omega) hN) ?_;refine Wq Aq ?_;apply Y0;refine Cf ?_;apply AG;apply Az;apply AA;apply AB;refine Yn<|Aa<|Y1<|Wa<|Y0<|AWp.block ?_
   refine AJ (fun mz σ=>∃ i,i≤L.length∧mz = L.length - i∧σ = ⟨[(3,.d (ex (.bool true))),(4,.d (BG l)),(5,.d (ex (.int .i64 (n:Nat)))),(6,.d (Nz L)),(8,.d (ex (.int .i64 dz))),(10,.d (ex (.int .i64 dz))),(14,.d (ex (.int .i64 (i:Nat))))],[]⟩) ?lei ⟨0,by omega,rfl,rfl⟩ ?roundi
   case lei=>exact Ag (by exact Yd<|Yd<|Yd<|Yd<|Yd<|Yd<|Yd<|FrLe.nil) (by exact HpLe.nil)
   case roundi =>
    rintro mz _ ⟨i,hi,rfl,rfl⟩
    by_cases hlti:i<L.length
    ·have hSi:=hS i hlti
     refine Aa<|Y1<|Wm<|Wm ?_;refine Wq BD ?_;refine Wq Am ?_;apply Y0;refine Ct ?_;refine Ys<|Aa<|AWp.block<|Y1<|Wa<|Y0<|AWp.block ?_
     refine AJ (fun mz σ=>∃ j,j≤L.length∧mz = L.length - j∧σ = ⟨[(3,.d (ex (.bool true))),(4,.d (BG l)),(5,.d (ex (.int .i64 (n:Nat)))),(6,.d (Nz L)),(8,.d (ex (.int .i64 dz))),(10,.d (ex (.int .i64 dz))),(14,.d (ex (.int .i64 (i:Nat)))),(15,.d (ex (.int .i64 (j:Nat))))],[]⟩) ?lej ⟨0,by omega,rfl,rfl⟩ ?roundj
     case lej=>exact Ag (by exact Yd<|Yd<|Yd<|Yd<|Yd<|Yd<|Yd<|Yd<|FrLe.nil) (by exact HpLe.nil)
     case roundj =>
      rintro mz _ ⟨j,hj,rfl,rfl⟩
      by_cases hltj:j<L.length
      ·have hSj:=hS j hltj
       have hsi:L.getD i default<256:=by omega
       have hsj:L.getD j default<256:=by omega
       by_cases hij:i = j
       ·refine Aa<|Y1<|Wm<|Wm ?_;refine Wq BD ?_;refine Wq Am ?_;apply Y0;refine Ct ?_;refine Ys<|Aa<|AWp.block<|Aa ?_
        refine Dr [[],[],[(118,0),(119,1)],[(120,2)],[],[],[(122,4),(123,5)],[(124,6)],[],[],[(126,8),(127,9)],[(128,10)],[(125,7),(129,11)],[(130,12)],[(121,3),(131,13)]] [[],[],[0,1],[0,1,2],[0,1,2,3],[0,1,2,3],[0,1,2,3,4,5],[0,1,2,3,4,5,6],[0,1,2,3],[0,1,2,3],[0,1,2,3,8,9],[0,1,2,3,8,9,10],[0,1,2,3,4,5,6,7,8,9,10,11],[0,1,2,3,4,5,6,7,8,9,10,11,12],[0,1,2,3,4,5,6,7,8,9,10,11,12,13]] ?_
        refine Xq Af ?_;refine Xq Af ?_;refine Xq Aq ?_;refine Xq Af ?_;refine Xs ?_;refine Xs ?_;refine Xs ?_;refine Xs ?_;refine Xs ?_;refine Xs ?_;refine Xs ?_;refine Xs ?_;refine Xs ?_;refine Xs ?_;refine Xq By ?_;refine ⟨_,rfl,?_⟩
        apply Y0;refine Cf ?_;apply Bd;apply Ai;refine Yn<|AWp.region<|Wm ?_;refine Wq AH ?_;refine Wa ?_;apply AWl.nil
        refine ALoop.next (L.length - (j+1)) (by omega) ⟨j+1,by omega,rfl,rfl⟩ ?_
        exact Ag (by exact Yd<|Yd<|Yd<|Yd<|Yd<|Yd<|Yd<|Yd<|FrLe.nil) (by exact HpLe.nil)
       ·have hne:L.getD i default ≠ L.getD j default:=by
         rcases Nat.lt_or_gt_of_ne hij with h | h
         ·exact Nat.ne_of_lt (hlt2 i j h hltj)
         ·exact Nat.ne_of_gt (hlt2 j i h hlti)
        have hb:¬ ((L.getD i default &&& (255 - L.getD j default):Nat):Int) = 0:=fun h=>hne (hSi.2.2 _ hSj.1 hSj.2.1 (decide_eq_true h))
        have hij2:¬ ((i:Nat):Int) = ((j:Nat):Int):=by omega
        refine Aa<|Y1<|Wm<|Wm ?_;refine Wq BD ?_;refine Wq Am ?_;apply Y0;refine Ct ?_;refine Ys<|Aa<|AWp.block<|Aa ?_
        refine Dr [[],[],[(118,0),(119,1)],[(120,2)],[],[],[(122,4),(123,5)],[(124,6)],[],[],[(126,8),(127,9)],[(128,10)],[(125,7),(129,11)],[(130,12)],[(121,3),(131,13)]] [[],[],[0,1],[0,1,2],[0,1,2,3],[0,1,2,3],[0,1,2,3,4,5],[0,1,2,3,4,5,6],[0,1,2,3],[0,1,2,3],[0,1,2,3,8,9],[0,1,2,3,8,9,10],[0,1,2,3,4,5,6,7,8,9,10,11],[0,1,2,3,4,5,6,7,8,9,10,11,12],[0,1,2,3,4,5,6,7,8,9,10,11,12,13]] ?_
        refine Xq Af ?_;refine Xq Af ?_;refine Xq Am ?_;refine Xq Af ?_;refine Xg Af ?_;refine Xg Af ?_;refine Xg AN ?_;refine Xg BE ?_;refine Xg Af ?_;refine Xg Af ?_;refine Xg AN ?_;refine Xg BE ?_;(refine ⟨_,Ee rfl rfl (KT (a:=L.getD i default) (b:=L.getD j default) (ah rfl) (ah rfl) hsi hsj),?_⟩;refine ⟨_,rfl,?_⟩);refine Xg Aq ?_;refine Xq AT ?_;refine ⟨_,rfl,?_⟩
        apply Y0;refine Cf ?_;apply Bd;apply Ai;refine Yn<|AWp.region<|Wm ?_;refine Wq AH ?_;refine Wa ?_;apply AWl.nil
        refine ALoop.next (L.length - (j+1)) (by omega) ⟨j+1,by omega,rfl,rfl⟩ ?_
        exact Ag (by exact Yd<|Yd<|Yd<|Yd<|Yd<|Yd<|Yd<|Yd<|FrLe.nil) (by exact HpLe.nil)
      ·obtain rfl : j = L.length := by omega
       refine Aa<|Y1<|Wm<|Wm ?_;refine Wq BD ?_;refine Wq Aq ?_;apply Y0;refine Cf ?_;apply AG;apply Az;apply AA;apply AB;apply Ai;refine Yn<|AWp.region<|Wm ?_;refine Wq AH ?_;refine Wa ?_;apply AWl.nil
       refine ALoop.next (L.length - (i+1)) (by omega) ⟨i+1,by omega,rfl,rfl⟩ ?_
       exact Ag (by exact Yd<|Yd<|Yd<|Yd<|Yd<|Yd<|Yd<|FrLe.nil) (by exact HpLe.nil)
    ·obtain rfl : i = L.length := by omega
     have hmx:((dz.toNat:Nat):Int) = max dz 0:=by omega
     refine Aa<|Y1<|Wm<|Wm ?_;refine Wq BD ?_;refine Wq Aq ?_;apply Y0;refine Cf ?_;apply AG;apply Az;apply AA;apply AB;refine Yn<|Y1<|Wm<|Wm ?_;refine Wq (Ao (cp)) ?_;refine Wm ?_;refine Wq Cc ?_;refine Wq Cc ?_;refine Wa<|Wa<|Y0<|Y1<|Wm<|Wm ?_;refine Wq Am ?_;refine Wm ?_;refine Wg Af ?_;refine Wg Am ?_;refine Wq AT ?_;refine Wm ?_;refine Wg Af ?_;refine Wg (Dt (F:=CJ F) rfl (Ac rfl)) ?_;refine Wg Af ?_;refine Wg KK ?_;refine Wg Am ?_;refine Wq AT ?_;refine Wm ?_;refine Wg Af ?_;refine Wq AT ?_;refine Wa<|Y0 ?_;apply Aw
     exact Yf
end Go.Proofs.YtialdhnijjnpaaaGreat
