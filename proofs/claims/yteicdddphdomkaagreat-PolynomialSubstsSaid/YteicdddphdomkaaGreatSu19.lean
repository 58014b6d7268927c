/-
  Part 19 of the proof that polynomialSubsts_holds holds; the statement is the last theorem of the last part. No condition.
-/
import Derived.Test.YteicdddphdomkaaGreatSu18
set_option linter.unusedSimpArgs false
set_option linter.unusedVariables false
set_option maxRecDepth 100000
set_option maxHeartbeats 8000000
namespace Go.Proofs.YteicdddphdomkaaGreat
open Go.RowKit
theorem sN_add {a b:Nat→Int} (ha:∀ i,i<8→0≤a i) (hb:∀ i,i<8→0≤b i):∀ i,i≤8→sN (add8 a b) i = sN a i+sN b i
 | 0,_=>rfl
 | i+1,hi=>by
  have h1:=ha i (by omega)
  have h2:=hb i (by omega)
  have h3:=sN_add ha hb i (by omega)
  have e:(add8 a b i).toNat = (a i).toNat+(b i).toNat:=by simp only [add8];omega
  simp only [sN,h3,e]
  omega
theorem sN_eqv {a b:Nat→Int} (h:Eqv a b):∀ i,i≤8→sN a i = sN b i
 | 0,_=>rfl
 | i+1,hi=>by simp only [sN];rw [sN_eqv h i (by omega),h i (by omega)]
def DegN (P : List Tm) (D:Nat):Prop:=∀ t∈P,sN t.m 8≤D
theorem DegN.nil {D : Nat}:DegN [] D:=fun t ht=>by cases ht
theorem DegN.add {P Q:List Tm} {D:Nat} (h:DegN P D) (k:DegN Q D):DegN (mrg P Q) D:=fun u hu=>by
 rcases mrg_mem P Q u hu with ⟨s,hs,e⟩ | ⟨s,hs,e⟩
 ·rw [← e];exact h s hs
 ·rw [← e];exact k s hs
theorem DegN.tms {c : Rat} {m:Nat→Int} {Q:List Tm} {D D':Nat} (hm:sN m 8≤D) (hm0:∀ i,i<8→0≤m i) (k:DegN Q D') (k0:∀ t∈Q,∀ i,i<8→0≤t.m i):DegN (Go.Proofs.YteicdddphdomkaaGreat.tms c m Q) (D+D'):=fun u hu=>by
 obtain ⟨s,hs,rfl⟩:=List.mem_map.1 hu
 have h1:=k s hs
 show sN (add8 m s.m) 8≤D+D'
 rw [sN_add hm0 (k0 s hs) 8 (by omega)]
 omega
theorem DegN.mul {P Q:List Tm} {D D':Nat} (h:DegN P D) (h0:∀ t∈P,∀ i,i<8→0≤t.m i) (k:DegN Q D') (k0:∀ t∈Q,∀ i,i<8→0≤t.m i):DegN (pmul P Q) (D+D'):=by
 have key:∀ (P A:List Tm),DegN P D→(∀ t∈P,∀ i,i<8→0≤t.m i)→DegN A (D+D')→DegN (mulTo A P Q) (D+D'):=by
  intro P
  induction P with
  | nil=>intro A _ _ hA;exact hA
  | cons t P ih =>
   intro A hP hP0 hA
   exact ih _ (fun u hu=>hP u (by simp [hu])) (fun u hu=>hP0 u (by simp [hu])) (hA.add (DegN.tms (hP t (by simp)) (hP0 t (by simp)) k k0))
 exact key P [] h h0 DegN.nil
theorem sum_lft (deg : Int) (h0:0≤deg) (r:Nat→Int) (n:Nat):∀ k,(sN (expE deg r n) k:Int)+lft deg r (min k n) = deg
 | 0=>by simp [sN,lft]
 | k+1=>by
  have ih:=sum_lft deg h0 r n k
  have hl:=lft_in r h0 k
  by_cases hk:k<n
  ·rw [show min k n = k by omega] at ih
   rw [show min (k+1) n = k+1 by omega]
   have h1:=Int.emod_nonneg ((r (k+1)).natAbs:Int) (show lft deg r k+1 ≠ 0 by omega)
   have h2:=Int.emod_lt_of_pos ((r (k+1)).natAbs:Int) (show 0<lft deg r k+1 by omega)
   have e:expE deg r n k = ((r (k+1)).natAbs:Nat) % (lft deg r k+1):=by unfold expE;rw [if_pos hk]
   simp only [sN,lft,e]
   omega
  ·have e : expE deg r n k = 0 := by unfold expE; rw [if_neg hk]
   rw [show min k n = n by omega] at ih
   rw [show min (k+1) n = n by omega]
   simp only [sN,e]
   omega
theorem expE_deg {deg : Int} (h0:0≤deg) (r:Nat→Int) (n:Nat):sN (expE deg r n) 8≤deg.toNat:=by
 have h1:=sum_lft deg h0 r n 8
 have h2:=lft_in r h0 (min 8 n)
 omega
theorem madeP_deg (X : List (Nat→Int)) (n:Nat) {deg:Int} (terms:Nat) (h0:0≤deg):DegN (madeP X n deg terms) deg.toNat:=by
 have key:∀ (X:List (Nat→Int)) (A:List Tm),DegN A deg.toNat→DegN (X.foldl (fun a r=>mrg a (rawT deg (min n 4) r)) A) deg.toNat:=by
  intro X
  induction X with
  | nil=>intro A h;exact h
  | cons r X ih =>
   intro A hA
   refine ih _ (hA.add fun t ht=>?_)
   unfold rawT sclL at ht
   split at ht
   ·cases ht
   ·obtain ⟨s,hs,rfl⟩:=List.mem_map.1 ht
    rw [List.mem_singleton.1 hs]
    have e:sN (add8 (fun _=>0) (expE deg r (min n 4))) 8 = sN (expE deg r (min n 4)) 8:=sN_eqv (fun i _=>by simp [add8]) 8 (by omega)
    show sN (add8 (fun _=>0) (expE deg r (min n 4))) 8≤deg.toNat
    rw [e]
    exact expE_deg h0 r (min n 4)
 exact key _ [] DegN.nil
theorem degL_le {P : List Tm} {D:Nat} (h:DegN P D) (h0:∀ t∈P,∀ i,i<8→0≤t.m i):degL P≤(D:Nat):=by
 have key:∀ (P:List Tm) (z:Int),(∀ t∈P,sumTo t.m 8≤(D:Nat))→z≤(D:Nat)→P.foldl (fun d t=>max d (sumTo t.m 8)) z≤(D:Nat):=by
  intro P
  induction P with
  | nil=>intro z _ hz;exact hz
  | cons t P ih =>
   intro z hP hz
   exact ih _ (fun u hu=>hP u (by simp [hu])) (Int.max_le.2 ⟨hz,hP t (by simp)⟩)
 refine key P (-1) (fun t ht=>?_) (by omega)
 rw [sumTo_sN (h0 t ht) 8 (by omega)]
 have:=h t ht
 omega
def V4 (P : List Tm):Prop:=∀ t∈P,∀ i,4≤i→i<8→t.m i = 0
theorem V4.nil : V4 []:=fun t ht=>by cases ht
theorem V4.add {P Q:List Tm} (h:V4 P) (k:V4 Q):V4 (mrg P Q):=fun u hu=>by
 rcases mrg_mem P Q u hu with ⟨s,hs,e⟩ | ⟨s,hs,e⟩
 ·rw [← e];exact h s hs
 ·rw [← e];exact k s hs
theorem V4.mul {P Q:List Tm} (h:V4 P) (k:V4 Q):V4 (pmul P Q):=by
 have key:∀ (P A:List Tm),V4 P→V4 A→V4 (mulTo A P Q):=by
  intro P
  induction P with
  | nil=>intro A _ hA;exact hA
  | cons t P ih =>
   intro A hP hA
   refine ih _ (fun u hu=>hP u (by simp [hu])) (hA.add fun u hu i h4 h8=>?_)
   obtain ⟨s,hs,rfl⟩:=List.mem_map.1 hu
   show t.m i+s.m i = 0
   rw [hP t (by simp) i h4 h8,k s hs i h4 h8]
   rfl
 exact key P [] h V4.nil
theorem madeP_v4 (X : List (Nat→Int)) (n:Nat) (deg:Int) (terms:Nat):V4 (madeP X n deg terms):=by
 have key:∀ (X:List (Nat→Int)) (A:List Tm),V4 A→V4 (X.foldl (fun a r=>mrg a (rawT deg (min n 4) r)) A):=by
  intro X
  induction X with
  | nil=>intro A h;exact h
  | cons r X ih =>
   intro A hA
   refine ih _ (hA.add fun t ht i h4 h8=>?_)
   unfold rawT sclL at ht
   split at ht
   ·cases ht
   ·obtain ⟨s,hs,rfl⟩:=List.mem_map.1 ht
    rw [List.mem_singleton.1 hs]
    show 0+expE deg r (min n 4) i = 0
    unfold expE
    rw [if_neg (by omega)]
    rfl
 exact key _ [] V4.nil
def uA (a : Nat):Nat:=[25,105,747,6129].getD a 0
def uC (a : Nat):Nat:=[100,330,1422,8154,59454,493290,4314222].getD a 0
def mA (e : Nat):Nat:=[0,9,57,201,633,1929,5817].getD e 0
theorem subA {B : Nat→List Tm} (hB:∀ i,i<8→PB (B i) 3 9 2):SubB B 3 9 2 25 3 uA mA :=
 ⟨hB,by omega,by omega,by omega,by omega,by decide,by decide,by decide +kernel,by decide +kernel,by decide +kernel,by decide +kernel⟩
theorem subC {B : Nat→List Tm} (hB:∀ i,i<8→PB (B i) 3 9 2):SubB B 3 9 2 100 6 uC mA :=
 ⟨hB,by omega,by omega,by omega,by omega,by decide,by decide,by decide +kernel,by decide +kernel,by decide +kernel,by decide +kernel⟩
theorem uA_mono : ∀ a,a≤3→uA a≤uA 3:=by decide +kernel
theorem uC_mono : ∀ a,a≤6→uC a≤uC 6:=by decide +kernel
theorem mA_mono3 : ∀ a,a≤3→mA a≤mA 3:=by decide +kernel
theorem mA_mono6 : ∀ a,a≤6→mA a≤mA 6:=by decide +kernel
theorem RSubst_abs (P : List Tm) {B:Nat→List Tm} {t w:Nat} {d:Int} {K Dg:Nat} {U M:Nat→Nat} (h:SubB B t w d K Dg U M) (hUm:∀ a,a≤Dg→U a≤U Dg) {n:Nat} {dp:Int} (hP:PB P n K dp) (hdp:dp≤65535) (hs:∀ t∈P,sN t.m 8≤Dg) (hdeg:degL P≤64) (hn:n*t ^ Dg+t ^ Dg≤100000) (hd1:(Dg:Int)*d+d≤65535) (ht2:t ^ Dg*t+t≤100000) (hN:t ^ Dg*(U Dg+w+1)+U Dg+w+1≤4398046511102) (hUD:n*(U Dg+1)+U Dg+1≤4398046511102) :
  Abs Tryz.prog 46 [polD P,agD (pol8 B)] (tupD [polD (rsubF B P),ex (.int .i64 0)]):=by
 have hl:=hP.len
 have htp:1≤t ^ Dg:=Nat.pow_pos h.t0
 have hnl:n*1≤n*t ^ Dg:=Nat.mul_le_mul_left n htp
 have cdeg:=RDeg_abs P (hP.ex.mono (Int.le_refl _) hdp) (by omega)
 have htt:t*1≤t ^ Dg*t+t:=by omega
 have hBl:∀ i,i<8→(B i).length≤100000:=fun i hi=>Nat.le_trans (h.hB i hi).len (by omega)
 refine Ab Tryz.func46 fun s0=>?_
 rw [Tryz.ntmps46]
 apply Y1;refine AWs.bx (ao rfl) rfl rfl rfl rfl ?_;refine Wa ?_;refine Wa ?_;apply Y0;apply AWp.seq;apply Y1;refine Wm ?_;refine Wq (Qz.call (cdeg)) ?_;refine Wq Qz.cmpF ?_;apply Y0;refine Cf ?_;apply Ys;apply Y1;refine AWs.b0 (tab_of rfl) (tab_of rfl) rfl rfl rfl rfl rfl ?_;refine Wa ?_;apply Y0;apply AWp.seq;apply Y1;refine Wa ?_;apply Y0;apply AWp.block
 refine AWp.loop (fun mz σ=>∃ k,k≤P.length∧mz = P.length - k∧σ = ⟨[(0,.d (polD P)),(3,.ptr 0 0),(6,.d (polD (rsubF B (P.take k)))),(7,.d (ex (.int .i64 (k:Nat))))],[.var 77 ((pol8 B).map .d)]⟩) ?le ⟨0,by omega,rfl,rfl⟩ ?round
 case le=>exact AS.le_of (by refine Yd ?_;refine Yp ?_;refine FrLe.cons rfl (AVle.ownD rfl (D.le.refl _)) ?_;refine Yd ?_;exact FrLe.nil) (by apply Yv;exact HpLe.nil)
 case round =>
  rintro mz _ ⟨k,hk,rfl,rfl⟩
  by_cases hlt:k<P.length
  ·obtain ⟨b,hb,-,cv⟩:=van_abs (tAt P k).m B hBl
   have hmem:=tAt_mem hlt
   have hsk:=hs (tAt P k) hmem
   have hmm:=hP.ex (tAt P k) hmem
   have hcz:=hP.sz (tAt P k) hmem
   have htk:=rsub_take (B:=B) hlt
   have hR0:=rsub_pb h hUm hP.sz hs k (by omega)
   have hkn:k*t ^ Dg+t ^ Dg≤n*t ^ Dg:=by rw [← Nat.succ_mul];exact Nat.mul_le_mul_right _ (by omega)
   have hkU:k*(U Dg+1)≤n*(U Dg+1):=Nat.mul_le_mul_right _ (by omega)
   have hR0l:=hR0.len
   cases b with
   | true =>
    rw [if_pos (vanB_iff.2 (hb.1 rfl))] at htk
    apply AWp.seq;apply Y1;refine Wm ?_;refine Wm ?_;refine Wq Qz.lenN ?_;refine Wq Qz.cmpT ?_;apply Y0;refine Ct ?_;apply Ys;apply AWp.seq;apply AWp.block;apply AWp.seq;apply AWp.seq
    refine AWp.dr' (DrawOk.self (by kernel_rfl)) [[],[],[(23,0),(24,1)],[(25,2)],[(26,3)],[],[(27,4),(28,5)]] [[],[],[0,1],[0,1,2],[0,1,2,3],[],[0,1,2,3,4,5]] rfl (by kernel_rfl) (by kernel_rfl) (by kernel_rfl) ?_
    refine Xq Qz.move ?_;refine Xq Qz.move ?_;refine Xq Qz.indexN ?_;refine Xq Qz.fldE ?_;refine Xq Qz.loadEf ?_;refine Xq Qz.ldD ?_;refine Xq (Qz.call (cv)) ?_;refine ⟨_,rfl,?_⟩
    apply Y0;refine Ct ?_;apply AWp.exit;apply AThen.exit;apply ABlock.hit;apply Yn;apply AWp.region;refine Wm ?_;refine Wq Qz.succ ?_;refine Wa ?_;apply AWl.nil
    refine ALoop.next (P.length - (k+1)) (by omega) ⟨k+1,by omega,rfl,rfl⟩ ?_
    exact AS.le_of (by refine Yd ?_;refine Yp ?_;refine FrLe.cons rfl (AVle.le (D.le_pol htk.symm)) ?_;refine Yd ?_;exact FrLe.nil) (by apply Yv;exact HpLe.nil)
   | false =>
    rw [if_neg (fun e=>by have:=hb.2 (vanB_iff.1 e);cases this)] at htk
    apply AWp.seq;apply Y1;refine Wm ?_;refine Wm ?_;refine Wq Qz.lenN ?_;refine Wq Qz.cmpT ?_;apply Y0;refine Ct ?_;apply Ys;apply AWp.seq;apply AWp.block;apply AWp.seq;apply AWp.seq
    refine AWp.dr' (DrawOk.self (by kernel_rfl)) [[],[],[(23,0),(24,1)],[(25,2)],[(26,3)],[],[(27,4),(28,5)]] [[],[],[0,1],[0,1,2],[0,1,2,3],[],[0,1,2,3,4,5]] rfl (by kernel_rfl) (by kernel_rfl) (by kernel_rfl) ?_
    refine Xq Qz.move ?_;refine Xq Qz.move ?_;refine Xq Qz.indexN ?_;refine Xq Qz.fldE ?_;refine Xq Qz.loadEf ?_;refine Xq Qz.ldD ?_;refine Xq (Qz.call (cv)) ?_;refine ⟨_,rfl,?_⟩
    apply Y0;refine Cf ?_;apply Ys;apply Y1;refine Wm ?_;refine Wm ?_;refine Wq Qz.indexN ?_;refine Wq Qz.fldE ?_;refine Wq Qz.ldE ?_;refine Wq (Qz.call (RConst_abs (tAt P k).c)) ?_;refine Wa ?_;apply Y0;apply AWp.seq;apply Y1;refine Wa ?_;apply Y0;apply AWp.block
    refine AWp.loop (fun mz σ=>∃ i,i≤8∧mz = 8 - i∧σ = ⟨[(0,.d (polD P)),(3,.ptr 0 0),(6,.d (polD (rsubF B (P.take k)))),(7,.d (ex (.int .i64 (k:Nat)))),(8,.d (polD (rtL (tAt P k).c B (tAt P k).m i))),(9,.d (ex (.int .i64 (i:Nat))))],[.var 77 ((pol8 B).map .d)]⟩) ?lei ⟨0,by omega,rfl,rfl⟩ ?roundi
    case lei=>exact AS.le_of (by refine Yd ?_;refine Yp ?_;refine Yd ?_;refine Yd ?_;refine Yd ?_;refine Yd ?_;exact FrLe.nil) (by apply Yv;exact HpLe.nil)
    case roundi =>
     rintro mz _ ⟨i,hi,rfl,rfl⟩
     by_cases hlti:i<8
     ·have hmi:=hmm i hlti
      have hsi:sN (tAt P k).m (i+1)≤Dg:=Nat.le_trans (sN_mono (by omega)) hsk
      have hsi2:sN (tAt P k).m (i+1) = sN (tAt P k).m i+((tAt P k).m i).toNat:=rfl
      have hri:=h.rt hcz (m:=(tAt P k).m) i (by omega) (by omega)
      obtain ⟨e,he⟩:∃ e:Nat,(tAt P k).m i = e:=⟨((tAt P k).m i).toNat,by omega⟩
      have he':(P.getD k default).m i = (e:Nat):=he
      apply AWp.seq;apply Y1;refine Wm ?_;refine Wq Qz.cmpT ?_;apply Y0;refine Ct ?_;apply Ys;apply AWp.seq;apply AWp.block;apply Y1;refine Wa ?_;apply Y0;apply AWp.block
      refine AWp.loop (fun mz σ=>∃ j,j≤e∧mz = e - j∧σ = ⟨[(0,.d (polD P)),(3,.ptr 0 0),(6,.d (polD (rsubF B (P.take k)))),(7,.d (ex (.int .i64 (k:Nat)))),(8,.d (polD (rpw (rtL (tAt P k).c B (tAt P k).m i) (B i) j))),(9,.d (ex (.int .i64 (i:Nat)))),(10,.d (ex (.int .i64 (j:Nat))))],[.var 77 ((pol8 B).map .d)]⟩) ?lej ⟨0,by omega,rfl,rfl⟩ ?roundj
      case lej=>exact AS.le_of (by refine Yd ?_;refine Yp ?_;refine Yd ?_;refine Yd ?_;refine Yd ?_;refine Yd ?_;refine Yd ?_;exact FrLe.nil) (by apply Yv;exact HpLe.nil)
      case roundj =>
       rintro mz _ ⟨j,hj,rfl,rfl⟩
       by_cases hltj:j<e
       ·have hpj := h.rpw1 (i := i) hlti hri j (by omega)
        have e1:t ^ (sN (tAt P k).m i+j)≤t ^ Dg:=Nat.pow_le_pow_right h.t0 (by omega)
        have e2:=hUm (sN (tAt P k).m i+j) (by omega)
        have e3:((sN (tAt P k).m i+j:Nat):Int)*d≤(Dg:Int)*d:=Int.mul_le_mul_of_nonneg_right (by omega) h.d0
        have hpj:=hpj.mono e1 e2 e3
        apply AWp.seq;apply Y1;refine Wm ?_;refine Wm ?_;refine Wm ?_;refine Wm ?_;refine Wq Qz.indexN ?_;refine Wq Qz.fldE ?_;refine Wq Qz.ixE ?_;refine Wq Qz.ldEX1 ?_;refine Wq Qz.cmpT ?_;apply Y0;refine Ct ?_;apply Ys;apply AWp.seq;apply AWp.block;apply Y1;refine Wm ?_;refine Wm ?_;refine Wq Qz.ixP ?_;(refine AWs.q rfl rfl ?_;refine ⟨_,Qs.ldX1 (ao rfl) rfl (tab_of rfl) rfl (CellAt.p8 (by omega)),?_⟩);refine Wq (Qz.call (RPMul_pb hpj (h.hB i hlti) (h.d1 _) h.d0 hd1 (by omega) ht2 hN)) ?_;refine Wm ?_;refine Wq Qz.ext ?_;refine Wq Qz.ext ?_;refine Wa ?_;refine Wa ?_;apply Y0;apply AWp.seq;apply Y1;refine Wm ?_;refine Wq Qz.cmpF ?_;apply Y0;refine Cf ?_;apply Ys;apply AWp.region;refine Wm ?_;refine Wa ?_;apply AWl.nil;apply ABlock.normal;apply Yn;apply AWp.region;refine Wm ?_;refine Wq Qz.succ ?_;refine Wa ?_;apply AWl.nil
        refine ALoop.next (e - (j+1)) (by omega) ⟨j+1,by omega,rfl,rfl⟩ ?_
        exact AS.le_of (by refine Yd ?_;refine Yp ?_;refine Yd ?_;refine Yd ?_;refine Yd ?_;refine Yd ?_;refine Yd ?_;exact FrLe.nil) (by apply Yv;exact HpLe.nil)
       ·obtain rfl : j = e := by omega
        apply AWp.seq;apply Y1;refine Wm ?_;refine Wm ?_;refine Wm ?_;refine Wm ?_;refine Wq Qz.indexN ?_;refine Wq Qz.fldE ?_;refine Wq Qz.ixE ?_;refine Wq Qz.ldEX1 ?_;refine Wq Qz.cmpF ?_;apply Y0;refine Cf ?_;apply AWp.exit;apply AThen.exit;apply ALoop.exit;apply ABlock.hit;apply ABlock.normal;apply Yn;apply AWp.region;refine Wm ?_;refine Wq Qz.succ ?_;refine Wa ?_;apply AWl.nil
        refine ALoop.next (8 - (i+1)) (by omega) ⟨i+1,by omega,rfl,rfl⟩ ?_
        exact AS.le_of (by refine Yd ?_;refine Yp ?_;refine Yd ?_;refine Yd ?_;(refine FrLe.cons rfl (AVle.le (D.le_pol (by rw [rtL,he];rfl))) ?_);refine Yd ?_;exact FrLe.nil) (by apply Yv;exact HpLe.nil)
     ·obtain rfl : i = 8 := by omega
      have hr8:=h.rt hcz (m:=(tAt P k).m) 8 (by omega) hsk
      have e1:t ^ sN (tAt P k).m 8≤t ^ Dg:=Nat.pow_le_pow_right h.t0 hsk
      have e2:=hUm _ hsk
      have e3:(sN (tAt P k).m 8:Int)*d≤(Dg:Int)*d:=Int.mul_le_mul_of_nonneg_right (by omega) h.d0
      have hr8:=hr8.mono e1 e2 e3
      apply AWp.seq;apply Y1;refine Wm ?_;refine Wq Qz.cmpF ?_;apply Y0;refine Cf ?_;apply AWp.exit;apply AThen.exit;apply ALoop.exit;apply ABlock.hit;apply Yn;apply AWp.region;refine Wm ?_;refine Wm ?_;refine Wq (Qz.call (RAdd_pb hR0 hr8 (by omega) (by omega))) ?_;refine Wa ?_;apply AWl.nil;apply ABlock.normal;apply Yn;apply AWp.region;refine Wm ?_;refine Wq Qz.succ ?_;refine Wa ?_;apply AWl.nil
      refine ALoop.next (P.length - (k+1)) (by omega) ⟨k+1,by omega,rfl,rfl⟩ ?_
      exact AS.le_of (by refine Yd ?_;refine Yp ?_;refine FrLe.cons rfl (AVle.le (D.le_pol htk.symm)) ?_;refine Yd ?_;exact FrLe.nil) (by apply Yv;exact HpLe.nil)
  ·obtain rfl : k = P.length := by omega
   apply AWp.seq;apply Y1;refine Wm ?_;refine Wm ?_;refine Wq Qz.lenN ?_;refine Wq Qz.cmpF ?_;apply Y0;refine Cf ?_;apply AWp.exit;apply AThen.exit;apply ALoop.exit;apply ABlock.hit;apply Yn;apply Y1;refine Wm ?_;refine Wa ?_;refine Wa ?_;apply Y0;apply AWp.ret
   exact Fin.ret (Rets.of2 (ResV.tmp rfl rfl) (ResV.tmp rfl rfl) (D.le.tup2 (D.le_pol (by rw [List.take_length])) (D.le.refl _)))
def rwsD (T : Nat) (L:List (Nat × List (Nat→Int))):D:=slD T 1 (L.map fun p=>[r5D p.1 p.2])
def rwAt (L : List (Nat × List (Nat→Int))) (k:Nat):Nat × List (Nat→Int):=L.getD k (0,[])
def Raws8 (L : List (Nat × List (Nat→Int))):Prop:=∀ p∈L,Raw8 p.2
def putB (L : List (Nat × List (Nat→Int))) (i:Nat):List Tm:=if i<L.length∧i<4 then madeP (rwAt L i).2 3 2 3 else [⟨1,unitE i⟩]
def putK8 (L : List (Nat × List (Nat→Int))) (k:Nat):Nat→List Tm:=fun j=>if j<k then putB L j else []
theorem putB_pb {L : List (Nat × List (Nat→Int))} (i:Nat):PB (putB L i) 3 9 2:=by
 unfold putB
 split
 ·exact madeP_pb _ 3 3 (by omega)
 ·exact (var_pb i).mono (by omega) (by omega) (by omega)
theorem putB_nil : putB [] = varB fun i=>i:=by
 funext i
 unfold putB varB
 rw [if_neg (by simp)]
theorem putK8_set (L : List (Nat × List (Nat→Int))) (k:Nat):pol8 (upF (putK8 L k) k (putB L k)) = pol8 (putK8 L (k+1)):=pol8_congr fun i _=>by
 simp only [upF,putK8]
 by_cases h:i = k
 ·subst h;rw [if_pos rfl,if_pos (by omega)]
 ·rw [if_neg h]
  by_cases h2:i<k
  ·rw [if_pos h2,if_pos (by omega)]
  ·rw [if_neg h2,if_neg (by omega)]
theorem upF_upF {α : Type} (r:Nat→α) (k:Nat) (u v:α):upF (upF r k u) k v = upF r k v:=by
 funext j
 simp only [upF]
 split <;> rfl
theorem putB_yes {L : List (Nat × List (Nat→Int))} {k:Nat} (h:k<L.length) (h4:k<4):putB L k = madeP (L.getD k default).2 3 2 3:=if_pos ⟨h,h4⟩
theorem putB_no {L : List (Nat × List (Nat→Int))} {k:Nat} (h:¬ (k<L.length∧k<4)):putB L k = [⟨1,unitE k⟩]:=if_neg h
theorem OwLe.varL {hp : List Ow} {m T:Nat} {c c':List D} (hl:c.length = c'.length) (h:∀ (k:Nat) d d',c[k]? = some d→c'[k]? = some d'→D.le d d'):OwLe hp m (.var T (c.map .d)) (.var T (c'.map .d)) :=
 OwLe.var (by simpa using hl) fun k y hy => by
  rw [List.getElem?_map] at hy
  cases hc:c'[k]? with
  | none=>rw [hc] at hy;cases hy
  | some d' =>
   rw [hc] at hy
   cases hy
   have hk:k<c.length:=by
    have:=(List.getElem?_eq_some_iff.1 hc).1
    omega
   refine ⟨.d c[k],by rw [List.getElem?_map,List.getElem?_eq_getElem hk];rfl,AVle.le (h k _ _ (List.getElem?_eq_getElem hk) hc)⟩
theorem OwLe.nil8 {hp : List Ow} {m T:Nat}:OwLe hp m (.var T (([ex (.slice none 0 0),ex (.slice none 0 0),ex (.slice none 0 0),ex (.slice none 0 0),ex (.slice none 0 0),ex (.slice none 0 0),ex (.slice none 0 0),ex (.slice none 0 0)]:List D).map .d)) (.var T ((pol8 fun _=>[]).map .d)):=OwLe.varL rfl fun k d d' h1 h2=>by
 match k with
 | 0 | 1 | 2 | 3 | 4 | 5 | 6 | 7=>cases h1;cases h2;exact D.le_nilP
 | k+8=>simp at h1
theorem puts_abs (T : Nat) (L:List (Nat × List (Nat→Int))) (hL:Raws8 L):Abs Tryz.prog 44 [rwsD T L] (agD (pol8 (putB L))):=by
 refine Ab Tryz.func44 fun s0=>?_
 rw [Tryz.ntmps44]
 apply Y1;refine AWs.al (tab_of rfl) rfl rfl rfl rfl rfl rfl ?_;apply Y0;apply Y1;(refine AWs.q rfl rfl ?_;(refine Bq.arr (tab_of rfl) (tab_of rfl) rfl rfl ?_;(repeat ((first | refine ⟨_,PartOk.ag (ao rfl),?_⟩ | refine ⟨_,PartOk.one rfl (by first | exact One.ex_ rfl | exact One.sl | exact One.ep),?_⟩);refine ⟨_,rfl,?_⟩));refine ⟨_,rfl,?_⟩));refine AWs.al (tab_of rfl) rfl rfl rfl rfl rfl rfl ?_;refine Sf ?_;apply Y0;apply AWp.seq;apply Y1;refine Wa ?_;apply Y0;apply AWp.block
 refine AWp.loop (fun mz σ=>∃ k,k≤8∧mz = 8 - k∧σ = ⟨[(0,.d (rwsD T L)),(2,.ptr 0 0),(3,.ptr 1 0),(4,.d (ex (.int .i64 (k:Nat))))],[.var 77 (([ex (.slice none 0 0),ex (.slice none 0 0),ex (.slice none 0 0),ex (.slice none 0 0),ex (.slice none 0 0),ex (.slice none 0 0),ex (.slice none 0 0),ex (.slice none 0 0)]:List D).map .d),.var 77 ((pol8 (putK8 L k)).map .d)]⟩) ?le ⟨0,by omega,rfl,rfl⟩ ?round
 case le=>exact AS.le_of (by refine Yd ?_;refine Yp ?_;refine Yp ?_;refine Yd ?_;exact FrLe.nil) (by apply Yv;refine HpLe.cons (OwLe.nil8) ?_;exact HpLe.nil)
 case round =>
  rintro mz _ ⟨k,hk,rfl,rfl⟩
  by_cases hlt:k<8
  ·have hset:=putK8_set L k
   by_cases hk:k<L.length∧k<4
   ·obtain ⟨hk1,hk4⟩:=hk
    have hr:Raw8 (L.getD k default).2:=hL _ (by rw [List.getD_eq_getElem?_getD,List.getElem?_eq_getElem hk1];exact List.getElem_mem _)
    rw [putB_yes hk1 hk4] at hset
    apply AWp.seq;apply Y1;refine Wm ?_;refine Wq Qz.cmpT ?_;apply Y0;refine Ct ?_;apply Ys;apply AWp.seq;apply AWp.block;apply Y1;refine Wm ?_;refine Wm ?_;refine Wq (Qz.call (RX_abs k hlt)) ?_;refine Wq Qz.ixP ?_;refine AWs.stX1 (ao rfl) (ao rfl) rfl (tab_of rfl) One.sl (SetAt.p8 hlt) rfl ?_;apply Y0;apply Y1;refine Wm ?_;refine Wm ?_;refine Wq Qz.lenN ?_;refine Wq Qz.cmpT ?_;refine Wm ?_;refine Wg Qz.move ?_;refine Wg Qz.cmpT ?_;refine Wq Qz.pickT ?_;apply Y0;refine Ct ?_;apply AWp.region;refine Wm ?_;refine Wm ?_;refine Wm ?_;refine Wq Qz.indexN ?_;refine Wq Qz.loadEf ?_;refine Wq (Qz.call (RMade_abs (L.getD k default).1 (L.getD k default).2 3 3 2 hr (by omega) (by omega) (by omega) (by omega))) ?_;refine Wq Qz.ixP ?_;refine AWs.stX1 (ao rfl) (ao rfl) rfl (tab_of rfl) One.sl (SetAt.p8 hlt) rfl ?_;apply AWl.nil;apply ABlock.normal;apply Yn;apply AWp.region;refine Wm ?_;refine Wq Qz.succ ?_;refine Wa ?_;apply AWl.nil
    refine ALoop.next (8 - (k+1)) (by omega) ⟨k+1,by omega,rfl,rfl⟩ ?_
    exact AS.le_of (by refine Yd ?_;refine Yp ?_;refine Yp ?_;refine Yd ?_;exact FrLe.nil) (by apply Yv;refine HpLe.cons (OwLe.varD (by rw [upF_upF,hset])) ?_;exact HpLe.nil)
   ·rw [putB_no hk] at hset
    rcases (show ¬ k<L.length∨(k<L.length∧¬ k<4) by omega) with h | ⟨h,h'⟩
    ·apply AWp.seq;apply Y1;refine Wm ?_;refine Wq Qz.cmpT ?_;apply Y0;refine Ct ?_;apply Ys;apply AWp.seq;apply AWp.block;apply Y1;refine Wm ?_;refine Wm ?_;refine Wq (Qz.call (RX_abs k hlt)) ?_;refine Wq Qz.ixP ?_;refine AWs.stX1 (ao rfl) (ao rfl) rfl (tab_of rfl) One.sl (SetAt.p8 hlt) rfl ?_;apply Y0;apply Y1;refine Wm ?_;refine Wm ?_;refine Wq Qz.lenN ?_;refine Wq Qz.cmpF ?_;refine Wm ?_;refine Ws ?_;refine Ws ?_;refine Wq Qz.pickF ?_;apply Y0;refine Cf ?_;apply AWp.skip;apply ABlock.normal;apply Yn;apply AWp.region;refine Wm ?_;refine Wq Qz.succ ?_;refine Wa ?_;apply AWl.nil
     refine ALoop.next (8 - (k+1)) (by omega) ⟨k+1,by omega,rfl,rfl⟩ ?_
     exact AS.le_of (by refine Yd ?_;refine Yp ?_;refine Yp ?_;refine Yd ?_;exact FrLe.nil) (by apply Yv;refine HpLe.cons (OwLe.varD hset) ?_;exact HpLe.nil)
    ·apply AWp.seq;apply Y1;refine Wm ?_;refine Wq Qz.cmpT ?_;apply Y0;refine Ct ?_;apply Ys;apply AWp.seq;apply AWp.block;apply Y1;refine Wm ?_;refine Wm ?_;refine Wq (Qz.call (RX_abs k hlt)) ?_;refine Wq Qz.ixP ?_;refine AWs.stX1 (ao rfl) (ao rfl) rfl (tab_of rfl) One.sl (SetAt.p8 hlt) rfl ?_;apply Y0;apply Y1;refine Wm ?_;refine Wm ?_;refine Wq Qz.lenN ?_;refine Wq Qz.cmpT ?_;refine Wm ?_;refine Wg Qz.move ?_;refine Wg Qz.cmpF ?_;refine Wq Qz.pickT ?_;apply Y0;refine Cf ?_;apply AWp.skip;apply ABlock.normal;apply Yn;apply AWp.region;refine Wm ?_;refine Wq Qz.succ ?_;refine Wa ?_;apply AWl.nil
     refine ALoop.next (8 - (k+1)) (by omega) ⟨k+1,by omega,rfl,rfl⟩ ?_
     exact AS.le_of (by refine Yd ?_;refine Yp ?_;refine Yp ?_;refine Yd ?_;exact FrLe.nil) (by apply Yv;refine HpLe.cons (OwLe.varD hset) ?_;exact HpLe.nil)
  ·obtain rfl : k = 8 := by omega
   apply AWp.seq;apply Y1;refine Wm ?_;refine Wq Qz.cmpF ?_;apply Y0;refine Cf ?_;apply AWp.exit;apply AThen.exit;apply ALoop.exit;apply ABlock.hit;apply Yn;apply Y1;refine Wq Qz.ldD ?_;refine Sf ?_;apply Y0;apply AWp.ret
   exact Fin.ret (Rets.of1 (ResV.cell rfl rfl (tab_of rfl) rfl rfl rfl) (D.le.refl _))
def lS : Nat→Int:=fun j=>([1,-2,3,2]:List Int).getD j 0
def wX (x : Nat→Rat) (B:Nat→List Tm) (k:Nat):Nat→Rat:=fun j=>if j<k then evF x (B j) else x j
theorem wX_set (x : Nat→Rat) (B:Nat→List Tm) (k:Nat):setR (fun j=>ratC (wX x B k j)) k (ratC (evF x (B k))) = fun j=>ratC (wX x B (k+1) j):=by
 funext j
 simp only [setR,wX]
 rcases Nat.lt_trichotomy j k with h | h | h
 ·rw [if_neg (by omega),if_pos h,if_pos (by omega)]
 ·subst h;rw [if_pos rfl,if_pos (by omega)]
 ·rw [if_neg (by omega),if_neg (by omega),if_neg (by omega)]
theorem wX_set' (x : Nat→Rat) (B:Nat→List Tm) (k:Nat):ptD (setR (fun j=>ratC (wX x B k j)) k (ratC (evF x (B k)))) = ptC (wX x B (k+1)):=by rw [wX_set];rfl
theorem rsub_pb' {B : Nat→List Tm} {t w:Nat} {d:Int} {K Dg:Nat} {U M:Nat→Nat} (h:SubB B t w d K Dg U M) (hUm:∀ a,a≤Dg→U a≤U Dg) {P:List Tm} {n:Nat} {dp:Int} (hP:PB P n K dp) (hs:DegN P Dg):PB (rsubF B P) (n*t ^ Dg) (n*(U Dg+1)) ((Dg:Int)*d):=by
 have:=rsub_pb h hUm hP.sz hs P.length (Nat.le_refl _)
 rw [List.take_length] at this
 exact this.mono (Nat.mul_le_mul_right _ hP.len) (Nat.mul_le_mul_right _ hP.len) (Int.le_refl _)
theorem nn_pb {P : List Tm} {n N:Nat} {d:Int} (h:PB P n N d):∀ t∈P,∀ i,i<8→0≤t.m i:=fun t ht i hi=>(h.ex t ht i hi).1
theorem evF_congr {x y:Nat→Rat} (h:∀ i,i<8→x i = y i) (P:List Tm):evF x P = evF y P:=by
 have hm:∀ (m:Nat→Int) i,i≤8→monV x m i = monV y m i:=by
  intro m i
  induction i with
  | zero=>intro _;rfl
  | succ i ih=>intro hi;rw [monV,monV,ih (by omega),h i (by omega)]
 rw [evF_eq,evF_eq]
 exact dot_congr fun t _=>hm t.m 8 (by omega)
theorem RsubAdd (B : Nat→List Tm) (p q:List Tm):Sim (rsubF B (mrg p q)) (mrg (rsubF B p) (rsubF B q)):=by
 refine (rsub_sim _ _).trans ((substL_sim B (mrg_sim p q)).trans ?_)
 rw [substL_append]
 exact ((rsub_sim B p).append (rsub_sim B q)).symm.trans (mrg_sim _ _).symm
theorem RsubMul (B : Nat→List Tm) {p q:List Tm} (hp:∀ t∈p,∀ i,i<8→0≤t.m i) (hq:∀ t∈q,∀ i,i<8→0≤t.m i):Sim (rsubF B (pmul p q)) (pmul (rsubF B p) (rsubF B q)):=by
 refine (rsub_sim _ _).trans ((substL_sim B (pmul_sim p q)).trans ((substL_mul B hp hq).trans ?_))
 exact ((rsub_sim B p).mul (rsub_sim B q)).symm.trans (pmul_sim _ _).symm
theorem substs_abs (T : Nat) (X:List (Nat→Int)) (U:Nat) (Y:List (Nat→Int)) (V:Nat) (L:List (Nat × List (Nat→Int))) (hX:Raw8 X) (hY:Raw8 Y) (hL:Raws8 L):Abs Tryz.prog 9 [agD [r5D T X],agD [r5D U Y],rwsD V L] (ex (.bool true)):=by
 have hp:PB (madeP X 4 3 4) 4 12 3:=madeP_pb X 4 4 (by omega)
 have hq:PB (madeP Y 4 3 4) 4 12 3:=madeP_pb Y 4 4 (by omega)
 have dp:DegN (madeP X 4 3 4) 3:=madeP_deg X 4 4 (by omega)
 have dq:DegN (madeP Y 4 3 4) 3:=madeP_deg Y 4 4 (by omega)
 have cp:=RMade_abs T X 4 4 3 hX (by omega) (by omega) (by omega) (by omega)
 have cq:=RMade_abs U Y 4 4 3 hY (by omega) (by omega) (by omega) (by omega)
 have vp:=madeP_v4 X 4 3 4
 have vq:=madeP_v4 Y 4 3 4
 generalize madeP X 4 3 4 = p at hp dp cp vp
 generalize madeP Y 4 3 4 = q at hq dq cq vq
 have cput:=puts_abs V L hL
 have cput0:=puts_abs 0 [] (fun p hp=>by cases hp)
 have hB:∀ i,i<8→PB (putB L i) 3 9 2:=fun i _=>putB_pb i
 have hB0:∀ i,i<8→PB (putB [] i) 3 9 2:=fun i _=>putB_pb i
 have cid0:=rsub_sim (putB []) p
 rw [putB_nil] at hB0 cput0 cid0
 have cid:=cid0.trans (subst_id (nn_pb hp))
 generalize varB (fun i=>i) = B0 at hB0 cput0 cid
 generalize putB L = B at hB cput
 have hx:∀ i,i<8→RSz (atX lS i) 1:=fun i _=>atX_sz lS i
 have cat:=at_abs lS
 generalize atX lS = x at hx cat
 have hs:PB (mrg p q) 8 25 3:=hp.add hq
 have ds:DegN (mrg p q) 3:=dp.add dq
 have hm:PB (pmul p q) 16 100 6:=hp.mul hq (by omega) (by omega)
 have dm:DegN (pmul p q) 6:=dp.mul (nn_pb hp) dq (nn_pb hq)
 have hpK:=hp.mono (Nat.le_refl _) (show 12≤25 by omega) (Int.le_refl _)
 have hqK:=hq.mono (Nat.le_refl _) (show 12≤25 by omega) (Int.le_refl _)
 have SA:=subA hB
 have S0:=subA hB0
 have SC:=subC hB
 have ha:PB (rsubF B p) 108 24520 (6:Nat):=rsub_pb' SA uA_mono hpK dp
 have hb:PB (rsubF B q) 108 24520 (6:Nat):=rsub_pb' SA uA_mono hqK dq
 have h0:PB (rsubF B0 p) 108 24520 (6:Nat):=rsub_pb' S0 uA_mono hpK dp
 have hsum:PB (rsubF B (mrg p q)) 216 49040 (6:Nat):=rsub_pb' SA uA_mono hs ds
 have hprod:PB (rsubF B (pmul p q)) 11664 69027568 (12:Nat):=rsub_pb' SC uC_mono hm dm
 have c1:=PSubst_abs p SA uA_mono hpK (by omega) dp vp (by omega) (by omega) (Int.le_trans (degL_le dp (nn_pb hp)) (by omega)) (by decide) (by decide) (by omega) mA_mono3 (by decide) (by decide)
 have c2:=PSubst_abs q SA uA_mono hqK (by omega) dq vq (by omega) (by omega) (Int.le_trans (degL_le dq (nn_pb hq)) (by omega)) (by decide) (by decide) (by omega) mA_mono3 (by decide) (by decide)
 have c3:=PSubst_abs p S0 uA_mono hpK (by omega) dp vp (by omega) (by omega) (Int.le_trans (degL_le dp (nn_pb hp)) (by omega)) (by decide) (by decide) (by omega) mA_mono3 (by decide) (by decide)
 have c4:=PSubst_abs (mrg p q) SA uA_mono hs (by omega) ds (vp.add vq) (by omega) (by omega) (Int.le_trans (degL_le ds (nn_pb hs)) (by omega)) (by decide) (by decide) (by omega) mA_mono3 (by decide) (by decide)
 have c5:=PSubst_abs (pmul p q) SC uC_mono hm (by omega) dm (vp.mul vq) (by omega) (by omega) (Int.le_trans (degL_le dm (nn_pb hm)) (by omega)) (by decide) (by decide) (by omega) mA_mono6 (by decide) (by decide)
 have c6:=RSubst_abs p SA uA_mono hpK (by omega) dp (Int.le_trans (degL_le dp (nn_pb hp)) (by omega)) (by decide) (by omega) (by decide) (by decide) (by decide)
 have s1:=RSame_true (SameL.refl (rsubF B p))
 have s2:=RSame_sim h0.can hp.can cid
 have s3:=RSame_sim hsum.can (ha.add hb).can (RsubAdd B p q)
 have s4:=RSame_sim hprod.can (ha.mul hb (by omega) (by omega)).can (RsubMul B (nn_pb hp) (nn_pb hq))
 have hw:∀ i,i<8→RSz (wX x B 8 i) 103:=fun i hi=>by
  rw [wX,if_pos hi]
  exact evF_bound (T:=33) (E:=2) (X:=1) (hB i hi) hx (by omega)
 have e1:evF x (rsubF B p) = evF (wX x B 8) p:=by
  rw [evF_eq,rsub_sim B p _ (monV_resp x),ev_subst (fun j hj=>nn_pb (hB j hj))]
  exact evF_congr (fun i hi=>by rw [wX,if_pos hi]) p
 have v1:=REval_abs p (wX x B 8) 12 3 103 2492 hp.sz (hp.ex.mono (Int.le_refl _) (by omega)) hw (by omega) (Nat.le_trans hp.len (by omega)) (by omega) (by omega) (by omega)
 have v2:=REval_pb 6 24576 x ha hx (by omega) (by omega) (by omega) (by omega)
 have s5:=RSameQ_true e1
 refine Ab Tryz.func9 fun s0=>?_
 rw [Tryz.ntmps9]
 apply Y1;refine AWs.bx (ao rfl) rfl rfl rfl rfl ?_;refine AWs.bx (ao rfl) rfl rfl rfl rfl ?_;refine Wa ?_;apply Y0;apply Y1;refine Wq (Qz.call (sanity_abs)) ?_;refine Wa ?_;apply Y0;apply AWp.seq;apply Y1;refine Wm ?_;refine Wq Qz.not ?_;apply Y0;refine Cf ?_;apply Ys;apply AWp.seq
 refine AWp.dr' (DrawOk.self (by kernel_rfl)) [[],[(23,0)],[],[(25,2)],[],[(27,4)],[]] [[],[0],[],[0,1,2],[],[0,1,2,3,4],[]] rfl (by kernel_rfl) (by kernel_rfl) (by kernel_rfl) ?_
 refine Xq Qz.ldD ?_;refine Xq (Qz.call (cp)) ?_;refine Xq Qz.ldD ?_;refine Xq (Qz.call (cq)) ?_;refine Xq Qz.move ?_;refine Xq (Qz.call (cput)) ?_;refine Xn ?_;refine ⟨_,rfl,?_⟩
 refine Wa ?_;refine Wa ?_;refine Sf ?_;apply Y0;apply AWp.seq
 refine AWp.dr' (DrawOk.self (by kernel_rfl)) [[],[],[(29,0),(30,1)],[(31,2)],[(31,2)],[(32,3),(33,4)],[],[],[(35,6),(36,7)],[(37,8)],[(37,8)],[(38,9),(39,10)]] [[],[],[0,1],[0,1,2],[0,1,2],[0,1,2,3,4],[],[],[0,1,2,3,4,5,6,7],[0,1,2,3,4,5,6,7,8],[0,1,2,3,4,5,6,7,8],[0,1,2,3,4,5,6,7,8,9,10]] rfl (by kernel_rfl) (by kernel_rfl) (by kernel_rfl) ?_
 refine Xq Qz.move ?_;refine Xq Qz.ldD ?_;refine Xq (Qz.call (c1)) ?_;refine Xq Qz.ext ?_;refine Xq Qz.ext ?_;refine Xq (Qz.call (got_abs _)) ?_;refine Xq Qz.move ?_;refine Xq Qz.ldD ?_;refine Xq (Qz.call (c2)) ?_;refine Xq Qz.ext ?_;refine Xq Qz.ext ?_;refine Xq (Qz.call (got_abs _)) ?_;refine ⟨_,rfl,?_⟩
 refine Wa ?_;refine Wa ?_;apply Y0;apply Y1;refine Wm ?_;refine Wq Qz.ldD ?_;refine Wq (Qz.call (c6)) ?_;refine Wm ?_;refine Wq Qz.ext ?_;refine Wq Qz.ext ?_;refine Wa ?_;refine Wa ?_;apply Y0;apply AWp.seq;apply Y1;refine Wm ?_;refine Wq Qz.cmpF ?_;refine Wm ?_;refine Wg Qz.move ?_;refine Wg Qz.move ?_;refine Wg (Qz.call (s1)) ?_;refine Wg Qz.not ?_;refine Wq Qz.pickF ?_;refine Wm ?_;refine Wg Qz.move ?_;refine Wg (Qz.call (cput0)) ?_;refine Wg (Qz.call (c3)) ?_;refine Wg Qz.ext ?_;refine Wg Qz.ext ?_;refine Wg (Qz.call (got_abs _)) ?_;refine Wg Qz.move ?_;refine Wg (Qz.call (s2)) ?_;refine Wg Qz.not ?_;refine Wq Qz.pickF ?_;apply Y0;refine Cf ?_;apply Ys;apply AWp.seq
 refine AWp.dr' (DrawOk.self (by kernel_rfl)) [[],[],[(66,0),(67,1)],[],[(68,2),(69,3)],[(70,4)],[(70,4)],[(71,5),(72,6)]] [[],[],[0,1],[],[0,1,2,3],[0,1,2,3,4],[0,1,2,3,4],[0,1,2,3,4,5,6]] rfl (by kernel_rfl) (by kernel_rfl) (by kernel_rfl) ?_
 refine Xq Qz.move ?_;refine Xq Qz.move ?_;refine Xq (Qz.call (PAdd_pb hp hq (by omega) (by omega))) ?_;refine Xq Qz.ldD ?_;refine Xq (Qz.call (c4)) ?_;refine Xq Qz.ext ?_;refine Xq Qz.ext ?_;refine Xq (Qz.call (got_abs _)) ?_;refine ⟨_,rfl,?_⟩
 refine Wa ?_;apply Y0;apply AWp.seq
 refine AWp.dr' (DrawOk.self (by kernel_rfl)) [[],[],[(74,0),(75,1)],[],[(76,2),(77,3)],[(78,4)],[(78,4)],[(79,5),(80,6)]] [[],[],[0,1],[],[0,1,2,3],[0,1,2,3,4],[0,1,2,3,4],[0,1,2,3,4,5,6]] rfl (by kernel_rfl) (by kernel_rfl) (by kernel_rfl) ?_
 refine Xq Qz.move ?_;refine Xq Qz.move ?_;refine Xq (Qz.call (RBy_pb hp hq (by omega) (by omega) (by omega) (by omega) (by omega) (by omega))) ?_;refine Xq Qz.ldD ?_;refine Xq (Qz.call (c5)) ?_;refine Xq Qz.ext ?_;refine Xq Qz.ext ?_;refine Xq (Qz.call (got_abs _)) ?_;refine ⟨_,rfl,?_⟩
 refine Wa ?_;apply Y0;apply Y1;(refine AWs.q rfl rfl ?_;(refine Bq.arr (tab_of rfl) (tab_of rfl) rfl rfl ?_;(repeat ((first | refine ⟨_,PartOk.ag (ao rfl),?_⟩ | refine ⟨_,PartOk.one rfl (by first | exact One.ex_ rfl | exact One.sl | exact One.ep),?_⟩);refine ⟨_,rfl,?_⟩));refine ⟨_,rfl,?_⟩));refine Wq (Qz.call (cat)) ?_;refine AWs.al (tab_of rfl) rfl rfl rfl rfl rfl rfl ?_;refine Sf ?_;apply Y0;apply Y1;refine Wq Qz.ldD ?_;refine AWs.al (tab_of rfl) rfl rfl rfl rfl rfl rfl ?_;refine Sf ?_;apply Y0;apply AWp.seq;apply Y1;refine Wa ?_;apply Y0;apply AWp.block
 refine AWp.loop (fun mz σ=>∃ k,k≤8∧mz = 8 - k∧σ = ⟨[(7,.d (ex (.bool true))),(8,.d (polD p)),(10,.ptr 2 0),(11,.d (polD (rsubF B p))),(12,.d (polD (rsubF B q))),(15,.d (polD (rsubF B (mrg p q)))),(16,.d (polD (rsubF B (pmul p q)))),(17,.ptr 3 0),(18,.ptr 4 0),(19,.d (ex (.int .i64 (k:Nat))))],[.var 37 ([r5D T X].map .d),.var 37 ([r5D U Y].map .d),.var 77 ((pol8 B).map .d),.var 54 ((ptC x).map .d),.var 54 ((ptC (wX x B k)).map .d)]⟩) ?le ⟨0,by omega,rfl,rfl⟩ ?round
 case le=>exact AS.le_of (by refine Yd ?_;refine Yd ?_;refine Yp ?_;refine Yd ?_;refine Yd ?_;refine Yd ?_;refine Yd ?_;refine Yp ?_;refine Yp ?_;refine Yd ?_;exact FrLe.nil) (by apply Yv;apply Yv;apply Yv;apply Yv;apply Yv;exact HpLe.nil)
 case round =>
  rintro mz _ ⟨k,hk,rfl,rfl⟩
  by_cases hlt:k<8
  ·have ck := REval_pb 2 33 x (hB k hlt) hx (by omega) (by omega) (by omega) (by omega)
   have hset:=wX_set' x B k
   apply AWp.seq;apply Y1;refine Wm ?_;refine Wq Qz.cmpT ?_;apply Y0;refine Ct ?_;apply Ys;apply AWp.seq;apply AWp.block
   refine AWp.dr' (DrawOk.self (by kernel_rfl)) [[],[],[(90,1)],[(91,2)],[],[(92,3),(93,4)],[(89,0)]] [[],[],[1],[1,2],[],[1,2,3,4],[0,1,2,3,4,5]] rfl (by kernel_rfl) (by kernel_rfl) (by kernel_rfl) ?_
   refine Xq Qz.move ?_;refine Xq Qz.move ?_;refine Xq Qz.ixP ?_;refine ⟨_,HStep.q rfl (Qs.ldX1 (ah rfl) rfl (tab_of rfl) rfl (CellAt.p8 hlt)),?_⟩;refine ⟨_,rfl,?_⟩;refine Xq Qz.ldD ?_;refine Xq (Qz.call (ck)) ?_;refine Xq Qz.ixP ?_;refine ⟨_,rfl,?_⟩
   refine AWs.stX (ao rfl) (ao rfl) rfl (tab_of rfl) rfl (SetAt.pt (fun j=>ratC_length (wX x B k j)) hlt rfl) rfl ?_;apply AWl.nil;apply ABlock.normal;apply Yn;apply AWp.region;refine Wm ?_;refine Wq Qz.succ ?_;refine Wa ?_;apply AWl.nil
   refine ALoop.next (8 - (k+1)) (by omega) ⟨k+1,by omega,rfl,rfl⟩ ?_
   exact AS.le_of (by refine Yd ?_;refine Yd ?_;refine Yp ?_;refine Yd ?_;refine Yd ?_;refine Yd ?_;refine Yd ?_;refine Yp ?_;refine Yp ?_;refine Yd ?_;exact FrLe.nil) (by apply Yv;apply Yv;apply Yv;apply Yv;refine HpLe.cons (OwLe.varD hset) ?_;exact HpLe.nil)
  ·obtain rfl : k = 8 := by omega
   apply AWp.seq;apply Y1;refine Wm ?_;refine Wq Qz.cmpF ?_;apply Y0;refine Cf ?_;apply AWp.exit;apply AThen.exit;apply ALoop.exit;apply ABlock.hit;apply Yn;apply AWp.seq
   refine AWp.dr' (DrawOk.self (by kernel_rfl)) [[],[],[],[(97,1),(98,2)],[(96,0),(99,3)],[(100,4)],[],[],[],[(103,7),(104,8)],[(105,9)],[(105,9)],[(106,10),(107,11)],[(102,6),(108,12)],[(101,5),(109,13)],[(110,14)],[],[],[(112,16),(113,17)],[],[],[(115,19),(116,20)],[(114,18),(117,21)],[(111,15),(118,22)],[(119,23)],[],[(120,24),(121,25)]] [[],[],[],[1,2],[0,1,2,3],[0,1,2,3,4],[0,1,2,3,4,5],[0,1,2,3,4,5],[0,1,2,3,4,5],[0,1,2,3,4,5,7,8],[0,1,2,3,4,5,7,8,9],[0,1,2,3,4,5,7,8,9],[0,1,2,3,4,5,7,8,9,10,11],[0,1,2,3,4,5,6,7,8,9,10,11,12],[0,1,2,3,4,5,6,7,8,9,10,11,12,13],[0,1,2,3,4,5,6,7,8,9,10,11,12,13,14],[0,1,2,3,4,5,6,7,8,9,10,11,12,13,14,15],[0,1,2,3,4,5,6,7,8,9,10,11,12,13,14,15],[0,1,2,3,4,5,6,7,8,9,10,11,12,13,14,15,16,17],[0,1,2,3,4,5,6,7,8,9,10,11,12,13,14,15],[0,1,2,3,4,5,6,7,8,9,10,11,12,13,14,15],[0,1,2,3,4,5,6,7,8,9,10,11,12,13,14,15,16,17,18,19,20],[0,1,2,3,4,5,6,7,8,9,10,11,12,13,14,15,16,17,18,19,20,21],[0,1,2,3,4,5,6,7,8,9,10,11,12,13,14,15,16,17,18,19,20,21,22],[0,1,2,3,4,5,6,7,8,9,10,11,12,13,14,15,16,17,18,19,20,21,22,23],[0,1,2,3,4,5,6,7,8,9,10,11,12,13,14,15,16,17,18,19,20,21,22,23,24],[0,1,2,3,4,5,6,7,8,9,10,11,12,13,14,15,16,17,18,19,20,21,22,23,24,25]] rfl (by kernel_rfl) (by kernel_rfl) (by kernel_rfl) ?_
   refine Xq Qz.move ?_;refine Xq Qz.move ?_;refine Xq Qz.move ?_;refine Xq (Qz.call (PAdd_pb ha hb (by omega) (by omega))) ?_;refine Xq (Qz.call (s3)) ?_;refine Xq Qz.move ?_;refine Xg Qz.move ?_;refine Xg Qz.move ?_;refine Xg Qz.move ?_;refine Xg (Qz.call (PMul_pb ha hb (by omega) (by omega) (by omega) (by omega) (by omega))) ?_;refine Xg Qz.ext ?_;refine Xg Qz.ext ?_;refine Xg (Qz.call (got_abs _)) ?_;refine Xg (Qz.call (s4)) ?_;refine Xq Qz.pickT ?_;refine Xq Qz.move ?_;refine Xg Qz.move ?_;refine Xg Qz.ldD ?_;refine Xg (Qz.call (v2)) ?_;refine Xg Qz.move ?_;refine Xg Qz.ldD ?_;refine Xg (Qz.call (v1)) ?_;refine Xg (Qz.call (s5)) ?_;refine Xq Qz.pickT ?_;refine Xq Qz.move ?_;refine Xg Qz.move ?_;refine Xq Qz.pickT ?_;refine ⟨_,rfl,?_⟩
   refine Wa ?_;apply Y0;apply AWp.ret
   exact Fin.ret (Rets.of1 (ResV.tmp rfl rfl) (D.le.refl _))
end Go.Proofs.YteicdddphdomkaaGreat
