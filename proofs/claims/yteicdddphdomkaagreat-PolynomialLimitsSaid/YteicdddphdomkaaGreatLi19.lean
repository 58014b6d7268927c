/- Part 19 of the proof of polynomialLimits_holds. No condition. -/
import Derived.Test.YteicdddphdomkaaGreatLi18
set_option linter.unusedSimpArgs false
set_option linter.unusedVariables false
set_option maxRecDepth 100000
set_option maxHeartbeats 8000000
namespace Go.Proofs.YteicdddphdomkaaGreat
open Go.RowKit
theorem putB_pb {L : List (Nat × List (Nat→Int))} (i:Nat):PB (putB L i) 3 9 2:=by
 unfold putB
 split
 ·exact madeP_pb _ 3 3 (by omega)
 ·exact (var_pb i).mono (by omega) (by omega) (by omega)
theorem putB_nil : putB [] = varB fun i=>i:=by
 funext i
 unfold putB varB
 rw [if_neg (by simp)]
theorem putK8_set (L : List (Nat × List (Nat→Int))) (k:Nat):pol8 (upF (putK8 L k) k (putB L k)) = pol8 (putK8 L (k+1)):=pol8_congr fun i _=>by
 simp only [upF,putK8]
 by_cases h:i = k
 ·subst h;rw [if_pos rfl,if_pos (by omega)]
 ·rw [if_neg h]
  by_cases h2:i<k
  ·rw [if_pos h2,if_pos (by omega)]
  ·rw [if_neg h2,if_neg (by omega)]
theorem upF_upF {α : Type} (r:Nat→α) (k:Nat) (u v:α):upF (upF r k u) k v = upF r k v:=by
 funext j
 simp only [upF]
 split <;> rfl
theorem putB_yes {L : List (Nat × List (Nat→Int))} {k:Nat} (h:k<L.length) (h4:k<4):putB L k = madeP (L.getD k default).2 3 2 3:=if_pos ⟨h,h4⟩
theorem putB_no {L : List (Nat × List (Nat→Int))} {k:Nat} (h:¬ (k<L.length∧k<4)):putB L k = [⟨1,unitE k⟩]:=if_neg h
theorem OwLe.varL {hp : List Ow} {m T:Nat} {c c':List D} (hl:c.length = c'.length) (h:∀ (k:Nat) d d',c[k]? = some d→c'[k]? = some d'→D.le d d'):OwLe hp m (.var T (c.map .d)) (.var T (c'.map .d)) :=
 OwLe.var (by simpa using hl) fun k y hy => by
  rw [List.getElem?_map] at hy
  cases hc:c'[k]? with
  | none=>rw [hc] at hy;cases hy
  | some d' =>
   rw [hc] at hy
   cases hy
   have hk:k<c.length:=by
    have:=(List.getElem?_eq_some_iff.1 hc).1
    omega
   refine ⟨.d c[k],by rw [List.getElem?_map,List.getElem?_eq_getElem hk];rfl,AVle.le (h k _ _ (List.getElem?_eq_getElem hk) hc)⟩
theorem OwLe.nil8 {hp : List Ow} {m T:Nat}:OwLe hp m (.var T (([ex (.slice none 0 0),ex (.slice none 0 0),ex (.slice none 0 0),ex (.slice none 0 0),ex (.slice none 0 0),ex (.slice none 0 0),ex (.slice none 0 0),ex (.slice none 0 0)]:List D).map .d)) (.var T ((pol8 fun _=>[]).map .d)):=OwLe.varL rfl fun k d d' h1 h2=>by
 match k with
 | 0 | 1 | 2 | 3 | 4 | 5 | 6 | 7=>cases h1;cases h2;exact D.le_nilP
 | k+8=>simp at h1
theorem puts_abs (T : Nat) (L:List (Nat × List (Nat→Int))) (hL:Raws8 L):Abs Tryz.prog 44 [rwsD T L] (agD (pol8 (putB L))):=by
 refine Ab Tryz.func44 fun s0=>?_
 rw [Tryz.ntmps44]
 apply Y1;refine AWs.al (tab_of rfl) rfl rfl rfl rfl rfl rfl ?_;apply Y0;apply Y1;(refine AWs.q rfl rfl ?_;(refine Bq.arr (tab_of rfl) (tab_of rfl) rfl rfl ?_;(repeat ((first | refine ⟨_,PartOk.ag (ao rfl),?_⟩ | refine ⟨_,PartOk.one rfl (by first | exact One.ex_ rfl | exact One.sl | exact One.ep),?_⟩);refine ⟨_,rfl,?_⟩));refine ⟨_,rfl,?_⟩));refine AWs.al (tab_of rfl) rfl rfl rfl rfl rfl rfl ?_;refine Sf ?_;apply Y0;apply AWp.seq;apply Y1;refine Wa ?_;apply Y0;apply AWp.block
 refine AWp.loop (fun mz σ=>∃ k,k≤8∧mz = 8 - k∧σ = ⟨[(0,.d (rwsD T L)),(2,.ptr 0 0),(3,.ptr 1 0),(4,.d (ex (.int .i64 (k:Nat))))],[.var 77 (([ex (.slice none 0 0),ex (.slice none 0 0),ex (.slice none 0 0),ex (.slice none 0 0),ex (.slice none 0 0),ex (.slice none 0 0),ex (.slice none 0 0),ex (.slice none 0 0)]:List D).map .d),.var 77 ((pol8 (putK8 L k)).map .d)]⟩) ?le ⟨0,by omega,rfl,rfl⟩ ?round
 case le=>exact AS.le_of (by refine Yd ?_;refine Yp ?_;refine Yp ?_;refine Yd ?_;exact FrLe.nil) (by apply Yv;refine HpLe.cons (OwLe.nil8) ?_;exact HpLe.nil)
 case round =>
  rintro mz _ ⟨k,hk,rfl,rfl⟩
  by_cases hlt:k<8
  ·have hset:=putK8_set L k
   by_cases hk:k<L.length∧k<4
   ·obtain ⟨hk1,hk4⟩:=hk
    have hr:Raw8 (L.getD k default).2:=hL _ (by rw [List.getD_eq_getElem?_getD,List.getElem?_eq_getElem hk1];exact List.getElem_mem _)
    rw [putB_yes hk1 hk4] at hset
    apply AWp.seq;apply Y1;refine Wm ?_;refine Wq Qz.cmpT ?_;apply Y0;refine Ct ?_;apply Ys;apply AWp.seq;apply AWp.block;apply Y1;refine Wm ?_;refine Wm ?_;refine Wq (Qz.call (RX_abs k hlt)) ?_;refine Wq Qz.ixP ?_;refine AWs.stX1 (ao rfl) (ao rfl) rfl (tab_of rfl) One.sl (SetAt.p8 hlt) rfl ?_;apply Y0;apply Y1;refine Wm ?_;refine Wm ?_;refine Wq Qz.lenN ?_;refine Wq Qz.cmpT ?_;refine Wm ?_;refine Wg Qz.move ?_;refine Wg Qz.cmpT ?_;refine Wq Qz.pickT ?_;apply Y0;refine Ct ?_;apply AWp.region;refine Wm ?_;refine Wm ?_;refine Wm ?_;refine Wq Qz.indexN ?_;refine Wq Qz.loadEf ?_;refine Wq (Qz.call (RMade_abs (L.getD k default).1 (L.getD k default).2 3 3 2 hr (by omega) (by omega) (by omega) (by omega))) ?_;refine Wq Qz.ixP ?_;refine AWs.stX1 (ao rfl) (ao rfl) rfl (tab_of rfl) One.sl (SetAt.p8 hlt) rfl ?_;apply AWl.nil;apply ABlock.normal;apply Yn;apply AWp.region;refine Wm ?_;refine Wq Qz.succ ?_;refine Wa ?_;apply AWl.nil
    refine ALoop.next (8 - (k+1)) (by omega) ⟨k+1,by omega,rfl,rfl⟩ ?_
    exact AS.le_of (by refine Yd ?_;refine Yp ?_;refine Yp ?_;refine Yd ?_;exact FrLe.nil) (by apply Yv;refine HpLe.cons (OwLe.varD (by rw [upF_upF,hset])) ?_;exact HpLe.nil)
   ·rw [putB_no hk] at hset
    rcases (show ¬ k<L.length∨(k<L.length∧¬ k<4) by omega) with h | ⟨h,h'⟩
    ·apply AWp.seq;apply Y1;refine Wm ?_;refine Wq Qz.cmpT ?_;apply Y0;refine Ct ?_;apply Ys;apply AWp.seq;apply AWp.block;apply Y1;refine Wm ?_;refine Wm ?_;refine Wq (Qz.call (RX_abs k hlt)) ?_;refine Wq Qz.ixP ?_;refine AWs.stX1 (ao rfl) (ao rfl) rfl (tab_of rfl) One.sl (SetAt.p8 hlt) rfl ?_;apply Y0;apply Y1;refine Wm ?_;refine Wm ?_;refine Wq Qz.lenN ?_;refine Wq Qz.cmpF ?_;refine Wm ?_;refine Ws ?_;refine Ws ?_;refine Wq Qz.pickF ?_;apply Y0;refine Cf ?_;apply AWp.skip;apply ABlock.normal;apply Yn;apply AWp.region;refine Wm ?_;refine Wq Qz.succ ?_;refine Wa ?_;apply AWl.nil
     refine ALoop.next (8 - (k+1)) (by omega) ⟨k+1,by omega,rfl,rfl⟩ ?_
     exact AS.le_of (by refine Yd ?_;refine Yp ?_;refine Yp ?_;refine Yd ?_;exact FrLe.nil) (by apply Yv;refine HpLe.cons (OwLe.varD hset) ?_;exact HpLe.nil)
    ·apply AWp.seq;apply Y1;refine Wm ?_;refine Wq Qz.cmpT ?_;apply Y0;refine Ct ?_;apply Ys;apply AWp.seq;apply AWp.block;apply Y1;refine Wm ?_;refine Wm ?_;refine Wq (Qz.call (RX_abs k hlt)) ?_;refine Wq Qz.ixP ?_;refine AWs.stX1 (ao rfl) (ao rfl) rfl (tab_of rfl) One.sl (SetAt.p8 hlt) rfl ?_;apply Y0;apply Y1;refine Wm ?_;refine Wm ?_;refine Wq Qz.lenN ?_;refine Wq Qz.cmpT ?_;refine Wm ?_;refine Wg Qz.move ?_;refine Wg Qz.cmpF ?_;refine Wq Qz.pickT ?_;apply Y0;refine Cf ?_;apply AWp.skip;apply ABlock.normal;apply Yn;apply AWp.region;refine Wm ?_;refine Wq Qz.succ ?_;refine Wa ?_;apply AWl.nil
     refine ALoop.next (8 - (k+1)) (by omega) ⟨k+1,by omega,rfl,rfl⟩ ?_
     exact AS.le_of (by refine Yd ?_;refine Yp ?_;refine Yp ?_;refine Yd ?_;exact FrLe.nil) (by apply Yv;refine HpLe.cons (OwLe.varD hset) ?_;exact HpLe.nil)
  ·obtain rfl : k = 8 := by omega
   apply AWp.seq;apply Y1;refine Wm ?_;refine Wq Qz.cmpF ?_;apply Y0;refine Cf ?_;apply AWp.exit;apply AThen.exit;apply ALoop.exit;apply ABlock.hit;apply Yn;apply Y1;refine Wq Qz.ldD ?_;refine Sf ?_;apply Y0;apply AWp.ret
   exact Fin.ret (Rets.of1 (ResV.cell rfl rfl (tab_of rfl) rfl rfl rfl) (D.le.refl _))
def mV (e : Nat):Nat:=2*e - 1
theorem subV {p : Nat→Nat} {K Dg:Nat} (hK:K≤1000) (hD:Dg≤64):SubB (varB p) 1 1 1 K Dg (fun a=>K+2*a) mV :=
 ⟨fun i _=>var_pb (p i),by omega,by omega,by omega,by rw [Nat.one_pow];omega,by omega,by decide,fun e _ _=>by unfold mV;omega,fun a _ e _ _ _=>by rw [Nat.one_pow];unfold mV;omega,fun a _ e _ _ _=>by unfold mV;omega,fun e _ _=>by unfold mV;omega⟩
theorem PPowBig_abs (P : List Tm) (hn:P.length≤1000) (hd0:0≤degV P 0) (hd1:degV P 0≤65535) (hd:65535<degV P 0*2):Abs Tryz.prog 53 [polD P,ex (.int .i64 2)] (tupD [polD [],ex (.int .i64 2)]):=by
 refine Ab Tryz.func53 fun s0=>?_
 rw [Tryz.ntmps53]
 apply Y1;refine Wa ?_;refine Wa ?_;apply Y0;apply AWp.seq;apply Y1;refine Wm ?_;refine Wq Qz.cmpF ?_;refine Wm ?_;refine Wg Qz.move ?_;refine Wg Qz.cmpF ?_;refine Wq Qz.pickF ?_;apply Y0;refine Cf ?_;apply Ys;apply AWp.seq;apply Y1;refine Wm ?_;refine Wq (Qz.call (degs_abs P (by omega))) ?_;refine Wm ?_;apply Y0;apply AWp.block
 refine AWp.loop (fun mz σ=>∃ k,k≤0∧mz = 0 - k∧σ = ⟨[(0,.d (polD P)),(1,.d (ex (.int .i64 2))),(16,.d (agD (monC (degV P)))),(17,.d (ex (.int .i64 (k:Nat))))],[]⟩) ?le ⟨0,by omega,rfl,rfl⟩ ?round
 case le=>exact AS.le_of (by refine Yd ?_;refine Yd ?_;refine Yd ?_;refine Yd ?_;exact FrLe.nil) (by exact HpLe.nil)
 case round =>
  rintro mz _ ⟨k,hk,rfl,rfl⟩
  by_cases hlt:k<0
  ·exact absurd hlt (by omega)
  ·obtain rfl : k = 0 := by omega
   apply Y1;refine Wq Qz.cmpT ?_;apply Y0;apply AWp.seq;refine Ct ?_;apply Ys;apply AWp.seq;apply AWp.block;apply Y1;refine Wq Qz.atX1 ?_;refine Wa ?_;apply Y0;apply Y1;refine Wm ?_;refine Wm ?_;refine Wq Qz.mul ?_;refine Wq Qz.cmpT ?_;apply Y0;refine Ct ?_;apply Y1;refine Wa ?_;refine Wa ?_;apply Y0;apply AWp.ret;apply ABlock.ret;apply AThen.ret;apply ALoop.ret;apply ABlock.ret;apply AThen.ret
   exact Fin.ret (Rets.of2 (ResV.tmp rfl rfl) (ResV.tmp rfl rfl) (D.le.tup2 (D.le_nilP) (D.le.refl _)))
theorem PSubstBig_abs (P : List Tm) (B:Nat→List Tm) (hP:PIn P 0 65535) (hn:P.length≤1000) (hd:64<degL P):Abs Tryz.prog 45 [polD P,agD (pol8 B)] (tupD [polD [],ex (.int .i64 2)]):=by
 refine Ab Tryz.func45 fun s0=>?_
 rw [Tryz.ntmps45]
 apply Y1;refine AWs.bx (ao rfl) rfl rfl rfl rfl ?_;refine Wa ?_;refine Wa ?_;apply Y0;apply AWp.seq;apply Y1;refine Wm ?_;refine Wq (Qz.call (PDeg_abs P hP (by omega))) ?_;refine Wq Qz.cmpT ?_;apply Y0;refine Ct ?_;apply Y1;refine Wa ?_;refine Wa ?_;apply Y0;apply AWp.ret;apply AThen.ret
 exact Fin.ret (Rets.of2 (ResV.tmp rfl rfl) (ResV.tmp rfl rfl) (D.le.tup2 (D.le_nilP) (D.le.refl _)))
def limM (l : Nat→Int):Nat→Int:=fun i=>([65535 - l 0 % 8,0,0,65535 - l 1 % 8]:List Int).getD i 0
theorem limM_in {l : Nat→Int} (h:∀ j,j<2→0≤l j∧l j≤255):In8 (limM l) 0 65535:=fun i hi=>by
 have h0:=h 0 (by omega)
 have h1:=h 1 (by omega)
 unfold limM
 match i,hi with
 | 0,_=>show 0≤65535 - l 0 % 8∧65535 - l 0 % 8≤65535;omega
 | 1,_=>show (0:Int)≤0∧(0:Int)≤65535;omega
 | 2,_=>show (0:Int)≤0∧(0:Int)≤65535;omega
 | 3,_=>show 0≤65535 - l 1 % 8∧65535 - l 1 % 8≤65535;omega
 | 4,_=>show (0:Int)≤0∧(0:Int)≤65535;omega
 | 5,_=>show (0:Int)≤0∧(0:Int)≤65535;omega
 | 6,_=>show (0:Int)≤0∧(0:Int)≤65535;omega
 | 7,_=>show (0:Int)≤0∧(0:Int)≤65535;omega
theorem byT_tms (P : List Tm) (c:Rat) (m:Nat→Int):byT P ⟨c,m⟩ = tms c m P:=List.map_congr_left fun s _=>by rw [Rat.mul_comm,add8_comm]
def xE (e : Int):Nat→Int:=fun i=>([e]:List Int).getD i 0
theorem xE_pb (e : Int) (h0 : 0 ≤ e) : PB [⟨((1 : Int) : Rat), xE e⟩] 1 1 e := PB.single (show ((1 : Int) : Rat) ≠ 0 by decide) (rsz_sm (by omega) (by omega)) fun i hi => by
 unfold xE
 match i,hi with
 | 0,_=>exact ⟨h0,Int.le_refl _⟩
 | 1,_=>exact ⟨Int.le_refl _,h0⟩
 | 2,_=>exact ⟨Int.le_refl _,h0⟩
 | 3,_=>exact ⟨Int.le_refl _,h0⟩
 | 4,_=>exact ⟨Int.le_refl _,h0⟩
 | 5,_=>exact ⟨Int.le_refl _,h0⟩
 | 6,_=>exact ⟨Int.le_refl _,h0⟩
 | 7,_=>exact ⟨Int.le_refl _,h0⟩
theorem lim_times (p : List Tm) (m:Nat→Int) (hp:PB p 6 18 5) (hm:In8 m 0 65535):∃ (R:List Tm) (e:Int),(e = 0∨e = 2) ∧
  Abs Tryz.prog 39 [agD (ratC ((1:Int):Rat)),agD (monC m),polD p] (tupD [polD R,ex (.int .i64 e)]) ∧
  Abs Tryz.prog 52 [agD (ratC ((1:Int):Rat)),agD (monC m),polD p] (tupD [polD R,ex (.int .i64 e)]) ∧
  Abs Tryz.prog 18 [polD p,polD [⟨((1:Int):Rat),m⟩]] (tupD [polD R,ex (.int .i64 e)]):=by
 have hc:((1:Int):Rat) ≠ 0:=by decide
 have h1:RSz ((1:Int):Rat) 1:=rsz_sm (by omega) (by omega)
 have hpl:=hp.len
 have hi:=hp.ex.mono (Int.le_refl _) (show (5:Int)≤65535 by omega)
 have e0:tAt [(⟨((1:Int):Rat),m⟩:Tm)] 0 = ⟨((1:Int):Rat),m⟩:=rfl
 rcases first_bad m p with h | ⟨z,hz,hb,hbad⟩
 ·refine ⟨tms ((1 : Int) : Rat) m p, 0, .inl rfl, PTimes_abs _ m p 1 18 hc h1 hm hp.sz hi h (by omega) (by omega), RTimes_abs _ m p 1 18 hc h1 hm hp.sz hi h (by omega) (by omega), ?_⟩
  refine PMul1_abs p [⟨((1:Int):Rat),m⟩] rfl p.length (Nat.le_refl _) (fun k hk=>?_) (by rw [e0];exact hm) hp (by omega) (by rw [e0];exact h1.mono (by omega)) (by omega) (by omega) _ (.inr ⟨rfl,fun S hS hs=>?_⟩)
  ·rw [e0]
   show In8 (add8 (tAt p k).m m) 0 65535
   rw [add8_comm]
   exact h _ (tAt_mem hk)
  ·rw [e0,byT_tms] at hs
   rw [polD_sim (tms_canon hc hp.can) hS hs.symm]
 ·refine ⟨[], 2, .inr rfl, PTimesF_abs _ m p 1 18 z hc h1 hm hp.sz hi hz hb hbad (by omega) (by omega), RTimesF_abs _ m p 1 18 z hc h1 hm hp.sz hi hz hb hbad (by omega) (by omega), ?_⟩
  refine PMul1_abs p [⟨((1:Int):Rat),m⟩] rfl z (by omega) (fun k hk=>?_) (by rw [e0];exact hm) hp (by omega) (by rw [e0];exact h1.mono (by omega)) (by omega) (by omega) _ (.inl ⟨hz,?_,rfl⟩)
  ·rw [e0]
   show In8 (add8 (tAt p k).m m) 0 65535
   rw [add8_comm]
   exact hb k hk
  ·rw [e0]
   show ¬ In8 (add8 (tAt p z).m m) 0 65535
   rw [add8_comm]
   exact hbad
theorem lim_pow (X : List (Nat→Int)) (z:Int):∃ (R:List Tm) (e:Int),((z<0∧e = 1)∨(0≤z∧64<z∧e = 1)∨(0≤z∧z≤64∧e = 0)) ∧
  Abs Tryz.prog 53 [polD (madeP X 1 1 2),ex (.int .i64 z)] (tupD [polD R,ex (.int .i64 e)]) ∧
  Abs Tryz.prog 54 [polD (madeP X 1 1 2),ex (.int .i64 z)] (tupD [polD R,ex (.int .i64 e)]):=by
 by_cases hz:z<0∨64<z
 ·exact ⟨[],1,by omega,PPowF_abs _ z hz,RPowF_abs _ z hz⟩
 ·obtain ⟨k, rfl⟩ : ∃ k : Nat, z = k := ⟨z.toNat, by omega⟩
  obtain ⟨h1,h2⟩:=small_pow X
  exact ⟨powF (madeP X 1 1 2) k,0,by omega,PPow_abs k h1 (fun j hj=>h2 j (by omega)) (by omega) (by omega) (by omega) (by omega) (by omega) (by omega) (by omega) (by omega),RPow_abs k h1 (fun j hj=>h2 j (by omega)) (by omega) (by omega) (by omega) (by omega) (by omega) (by omega) (by omega)⟩
theorem limits_abs (T : Nat) (X:List (Nat→Int)) (l:Nat→Int) (z:Int) (hX:Raw8 X) (hl:∀ j,j<2→0≤l j∧l j≤255):Abs Tryz.prog 11 [agD [r5D T X],agD [ex (.int .u8 (l 0)),ex (.int .u8 (l 1))],ex (.int .i64 z)] (ex (.bool true)):=by
 have hp:PB (madeP X 4 5 6) 6 18 5:=madeP_pb X 4 6 (by omega)
 have cp:=poly_abs T X hX
 generalize madeP X 4 5 6 = p at hp cp
 have cs:=RMade_abs T X 1 2 1 hX (by omega) (by omega) (by omega) (by omega)
 have hm:=limM_in hl
 have hl0:=hl 0 (by omega)
 have hl1:=hl 1 (by omega)
 obtain ⟨R,e,he,c1,c2,c3⟩:=lim_times p (limM l) hp hm
 obtain ⟨R',e',he',c4,c5⟩:=lim_pow X z
 generalize madeP X 1 1 2 = small at cs c4 c5
 have hdv:degV [⟨((1:Int):Rat),limM l⟩] 0 = 65535 - l 0 % 8:=by
  show max 0 (65535 - l 0 % 8) = 65535 - l 0 % 8
  omega
 have c6:=PPowBig_abs [⟨((1:Int):Rat),limM l⟩] (by simp) (by rw [hdv];omega) (by rw [hdv];omega) (by rw [hdv];omega)
 have cput0:=puts_abs 0 [] (fun p hp=>by cases hp)
 rw [putB_nil] at cput0
 have h65:=xE_pb 65 (by omega)
 have h64:=xE_pb 64 (by omega)
 have c7:=PSubstBig_abs [⟨((1:Int):Rat),xE 65⟩] (varB fun i=>i) (h65.ex.mono (Int.le_refl _) (by omega)) (by simp) (by decide)
 have S:=subV (p:=fun i=>i) (K:=1) (Dg:=64) (by omega) (by omega)
 have hs64:∀ t∈[(⟨((1:Int):Rat),xE 64⟩:Tm)],sN t.m 8≤64:=fun t ht=>by rw [List.mem_singleton.1 ht];decide
 have hv64:∀ t∈[(⟨((1:Int):Rat),xE 64⟩:Tm)],∀ i,4≤i→i<8→t.m i = 0:=fun t ht i h4 h8=>by
  rw [List.mem_singleton.1 ht]
  match i,h4,h8 with
  | 4,_,_=>rfl
  | 5,_,_=>rfl
  | 6,_,_=>rfl
  | 7,_,_=>rfl
 have c8:=PSubst_abs [⟨((1:Int):Rat),xE 64⟩] S (fun a ha=>by omega) h64 (by omega) hs64 hv64 (by omega) (by omega) (by decide) (by rw [Nat.one_pow];omega) (by omega) (by omega) (fun e he=>by unfold mV;omega) (by unfold mV;omega) (by rw [Nat.one_pow];omega)
 have s1:=RSame_true (SameL.refl R)
 have s2:=RSame_true (SameL.refl R')
 rcases he' with ⟨hz,rfl⟩ | ⟨hz0,hz,rfl⟩ | ⟨hz0,hz,rfl⟩
 ·refine Ab Tryz.func11 fun s0 => ?_
  rw [Tryz.ntmps11]
  apply Y1;refine AWs.bx (ao rfl) rfl rfl rfl rfl ?_;refine AWs.bx (ao rfl) rfl rfl rfl rfl ?_;refine Wa ?_;apply Y0;apply Y1;refine Wq (Qz.call (sanity_abs)) ?_;refine Wa ?_;apply Y0;apply AWp.seq;apply Y1;refine Wm ?_;refine Wq Qz.not ?_;apply Y0;refine Cf ?_;apply Ys;apply Y1;refine Wq Qz.ldD ?_;refine Wq (Qz.call (cp)) ?_;refine Wa ?_;apply Y0;apply Y1;refine Wq Qz.ixPL ?_;refine Wq Qz.ldD1 ?_;refine Wq Qz.rem ?_;refine Wq Qz.conv64 ?_;refine Wq Qz.sub ?_;refine Wq Qz.ixPL ?_;refine Wq Qz.ldD1 ?_;refine Wq Qz.rem ?_;refine Wq Qz.conv64 ?_;refine Wq Qz.sub ?_;(refine AWs.q rfl rfl ?_;(refine Bq.arr (tab_of rfl) (tab_of rfl) rfl rfl ?_;(repeat ((first | refine ⟨_,PartOk.ag (ao rfl),?_⟩ | refine ⟨_,PartOk.one rfl (by first | exact One.ex_ rfl | exact One.sl | exact One.ep),?_⟩);refine ⟨_,rfl,?_⟩));refine ⟨_,rfl,?_⟩));refine AWs.al (tab_of rfl) rfl rfl rfl rfl rfl rfl ?_;refine Sf ?_;apply Y0;apply Y1;refine Wq (Qz.call (RWhole_abs 1 (by omega) (by omega))) ?_;refine AWs.al (tab_of rfl) rfl rfl rfl rfl rfl rfl ?_;refine Sf ?_;apply Y0;apply Y1;refine Wq Qz.ldD ?_;refine Wq Qz.ldD ?_;refine Wm ?_;refine Wq (Qz.call (c1)) ?_;refine Wm ?_;refine Wq Qz.ext ?_;refine Wq Qz.ext ?_;refine Wa ?_;refine Wa ?_;apply Y0;apply Y1;refine Wq Qz.ldD ?_;refine Wq Qz.ldD ?_;refine Wm ?_;refine Wq (Qz.call (c2)) ?_;refine Wm ?_;refine Wq Qz.ext ?_;refine Wq Qz.ext ?_;refine Wa ?_;refine Wa ?_;apply Y0;apply Y1;refine Wq Qz.ldD ?_;refine Wq Qz.ldD ?_;(refine AWs.q rfl rfl ?_;(refine Bq.build (tab_of rfl) rfl rfl rfl ?_;(repeat ((first | refine ⟨_,PartOk.ag (ao rfl),?_⟩ | refine ⟨_,PartOk.one rfl (by first | exact One.ex_ rfl | exact One.sl | exact One.ep),?_⟩);refine ⟨_,rfl,?_⟩));refine ⟨_,rfl,?_⟩));(refine AWs.q rfl rfl ?_;refine ⟨_,Bq.slice1 (ao rfl) (tab_of rfl) (tab_of rfl) rfl rfl rfl rfl rfl,?_⟩);refine Wa ?_;apply Y0;apply Y1;refine Wm ?_;refine Wm ?_;refine Wq (Qz.call (c3)) ?_;refine Wm ?_;refine Wq Qz.ext ?_;refine Wq Qz.ext ?_;refine Wa ?_;refine Wa ?_;apply Y0;apply Y1;refine Wq Qz.ldD ?_;refine Wq (Qz.call (cs)) ?_;refine Wa ?_;apply Y0;apply Y1;refine Wm ?_;refine Wm ?_;refine Wq (Qz.call (c4)) ?_;refine Wm ?_;refine Wq Qz.ext ?_;refine Wq Qz.ext ?_;refine Wa ?_;refine Wa ?_;apply Y0;apply Y1;refine Wm ?_;refine Wm ?_;refine Wq (Qz.call (c5)) ?_;refine Wm ?_;refine Wq Qz.ext ?_;refine Wq Qz.ext ?_;refine Wa ?_;refine Wa ?_;apply Y0;apply AWp.seq;apply Y1;refine Wm ?_;refine Wm ?_;refine Wq Qz.cmpF ?_;refine Wm ?_;refine Wg Qz.move ?_;refine Wg Qz.move ?_;refine Wg (Qz.call (s1)) ?_;refine Wg Qz.not ?_;refine Wq Qz.pickF ?_;refine Wm ?_;refine Wg Qz.move ?_;refine Wg Qz.move ?_;refine Wg Qz.cmpF ?_;refine Wq Qz.pickF ?_;refine Wm ?_;refine Wg Qz.move ?_;refine Wg Qz.move ?_;refine Wg (Qz.call (s1)) ?_;refine Wg Qz.not ?_;refine Wq Qz.pickF ?_;refine Wm ?_;refine Wg Qz.move ?_;refine Wg Qz.move ?_;refine Wg Qz.cmpF ?_;refine Wq Qz.pickF ?_;refine Wm ?_;refine Wg Qz.move ?_;refine Wg Qz.move ?_;refine Wg (Qz.call (s2)) ?_;refine Wg Qz.not ?_;refine Wq Qz.pickF ?_;refine Wm ?_;refine Wg Qz.move ?_;refine Wg Qz.cmpT ?_;refine Wg Qz.move ?_;refine Wg Qz.cmpT ?_;refine Wg Qz.move ?_;refine Ws ?_;refine Ws ?_;refine Wg Qz.pickT ?_;refine Wg Qz.neBool ?_;refine Wq Qz.pickF ?_;apply Y0;refine Cf ?_;apply Ys;apply Y1;refine Wm ?_;refine Wq (Qz.call (c6)) ?_;refine Wm ?_;refine Wq Qz.ext ?_;refine Wq Qz.ext ?_;refine Wa ?_;refine Wa ?_;apply Y0;apply AWp.seq
  refine AWp.dr' (DrawOk.float (e:=8) (by kernel_rfl) (K4 (K4 (AddE.keep (AddE.add (AddE.keep AddE.nil))))) (by kernel_rfl)) [[],[],[(132,0),(133,1)],[(134,2)],[],[(135,3),(136,4)],[(137,5)],[(131,6)],[(131,6)]] [[],[],[0,1],[0,1,2],[],[0,1,2,3,4],[0,1,2,3,4,5],[0,1,2,3,4,5,6],[0,1,2,3,4,5,6]] rfl (by kernel_rfl) (by kernel_rfl) (by kernel_rfl) ?_
  refine Xq Qz.ldD ?_;(refine Hq rfl ?_;refine Bq.arr (tab_of rfl) (tab_of rfl) rfl rfl ?_;(repeat ((first | refine ⟨_,PartOk.ag (ah rfl),?_⟩ | refine ⟨_,PartOk.one rfl (by first | exact One.ex_ rfl | exact One.sl | exact One.ep),?_⟩);refine ⟨_,rfl,?_⟩));refine ⟨_,rfl,?_⟩;refine ⟨_,rfl,?_⟩);(refine Hq rfl ?_;refine Bq.build (tab_of rfl) rfl rfl rfl ?_;(repeat ((first | refine ⟨_,PartOk.ag (ah rfl),?_⟩ | refine ⟨_,PartOk.one rfl (by first | exact One.ex_ rfl | exact One.sl | exact One.ep),?_⟩);refine ⟨_,rfl,?_⟩));refine ⟨_,rfl,?_⟩;refine ⟨_,rfl,?_⟩);(refine ⟨_,HStep.q rfl (Bq.slice1 (ah rfl) (tab_of rfl) (tab_of rfl) rfl rfl rfl rfl rfl),?_⟩;refine ⟨_,rfl,?_⟩);refine Xq (Qz.call (cput0)) ?_;refine Xq (Qz.call (c7)) ?_;refine Xq Qz.move ?_;refine Xq Qz.ext ?_;refine Xq Qz.ext ?_;refine ⟨_,rfl,?_⟩
  refine Wa ?_;refine Wa ?_;apply AWl.nil;apply OnlyN.mk';apply Yn;apply AWp.seq
  refine AWp.dr' (DrawOk.float (e:=8) (by kernel_rfl) (K4 (K4 (AddE.keep (AddE.add (AddE.keep AddE.nil))))) (by kernel_rfl)) [[],[],[(141,0),(142,1)],[(143,2)],[],[(144,3),(145,4)],[(146,5)],[(140,6)],[(140,6)]] [[],[],[0,1],[0,1,2],[],[0,1,2,3,4],[0,1,2,3,4,5],[0,1,2,3,4,5,6],[0,1,2,3,4,5,6]] rfl (by kernel_rfl) (by kernel_rfl) (by kernel_rfl) ?_
  refine Xq Qz.ldD ?_;(refine Hq rfl ?_;refine Bq.arr (tab_of rfl) (tab_of rfl) rfl rfl ?_;(repeat ((first | refine ⟨_,PartOk.ag (ah rfl),?_⟩ | refine ⟨_,PartOk.one rfl (by first | exact One.ex_ rfl | exact One.sl | exact One.ep),?_⟩);refine ⟨_,rfl,?_⟩));refine ⟨_,rfl,?_⟩;refine ⟨_,rfl,?_⟩);(refine Hq rfl ?_;refine Bq.build (tab_of rfl) rfl rfl rfl ?_;(repeat ((first | refine ⟨_,PartOk.ag (ah rfl),?_⟩ | refine ⟨_,PartOk.one rfl (by first | exact One.ex_ rfl | exact One.sl | exact One.ep),?_⟩);refine ⟨_,rfl,?_⟩));refine ⟨_,rfl,?_⟩;refine ⟨_,rfl,?_⟩);(refine ⟨_,HStep.q rfl (Bq.slice1 (ah rfl) (tab_of rfl) (tab_of rfl) rfl rfl rfl rfl rfl),?_⟩;refine ⟨_,rfl,?_⟩);refine Xq (Qz.call (cput0)) ?_;refine Xq (Qz.call (c8)) ?_;refine Xq Qz.move ?_;refine Xq Qz.ext ?_;refine Xq Qz.ext ?_;refine ⟨_,rfl,?_⟩
  refine Wa ?_;refine Wa ?_;apply AWl.nil;apply OnlyN.mk';apply Yn;apply Y1;refine Wm ?_;refine Wq Qz.cmpT ?_;refine Wm ?_;refine Wg Qz.move ?_;refine Wg Qz.lenN ?_;refine Wg Qz.cmpT ?_;refine Wq Qz.pickT ?_;refine Wm ?_;refine Wg Qz.move ?_;refine Wg Qz.cmpT ?_;refine Wq Qz.pickT ?_;refine Wm ?_;refine Wg Qz.move ?_;refine Wg Qz.cmpT ?_;refine Wq Qz.pickT ?_;refine Wm ?_;refine Wg Qz.move ?_;refine Wq Qz.pickT ?_;refine Wa ?_;apply Y0;apply AWp.ret
  exact Yf
 ·refine Ab Tryz.func11 fun s0 => ?_
  rw [Tryz.ntmps11]
  apply Y1;refine AWs.bx (ao rfl) rfl rfl rfl rfl ?_;refine AWs.bx (ao rfl) rfl rfl rfl rfl ?_;refine Wa ?_;apply Y0;apply Y1;refine Wq (Qz.call (sanity_abs)) ?_;refine Wa ?_;apply Y0;apply AWp.seq;apply Y1;refine Wm ?_;refine Wq Qz.not ?_;apply Y0;refine Cf ?_;apply Ys;apply Y1;refine Wq Qz.ldD ?_;refine Wq (Qz.call (cp)) ?_;refine Wa ?_;apply Y0;apply Y1;refine Wq Qz.ixPL ?_;refine Wq Qz.ldD1 ?_;refine Wq Qz.rem ?_;refine Wq Qz.conv64 ?_;refine Wq Qz.sub ?_;refine Wq Qz.ixPL ?_;refine Wq Qz.ldD1 ?_;refine Wq Qz.rem ?_;refine Wq Qz.conv64 ?_;refine Wq Qz.sub ?_;(refine AWs.q rfl rfl ?_;(refine Bq.arr (tab_of rfl) (tab_of rfl) rfl rfl ?_;(repeat ((first | refine ⟨_,PartOk.ag (ao rfl),?_⟩ | refine ⟨_,PartOk.one rfl (by first | exact One.ex_ rfl | exact One.sl | exact One.ep),?_⟩);refine ⟨_,rfl,?_⟩));refine ⟨_,rfl,?_⟩));refine AWs.al (tab_of rfl) rfl rfl rfl rfl rfl rfl ?_;refine Sf ?_;apply Y0;apply Y1;refine Wq (Qz.call (RWhole_abs 1 (by omega) (by omega))) ?_;refine AWs.al (tab_of rfl) rfl rfl rfl rfl rfl rfl ?_;refine Sf ?_;apply Y0;apply Y1;refine Wq Qz.ldD ?_;refine Wq Qz.ldD ?_;refine Wm ?_;refine Wq (Qz.call (c1)) ?_;refine Wm ?_;refine Wq Qz.ext ?_;refine Wq Qz.ext ?_;refine Wa ?_;refine Wa ?_;apply Y0;apply Y1;refine Wq Qz.ldD ?_;refine Wq Qz.ldD ?_;refine Wm ?_;refine Wq (Qz.call (c2)) ?_;refine Wm ?_;refine Wq Qz.ext ?_;refine Wq Qz.ext ?_;refine Wa ?_;refine Wa ?_;apply Y0;apply Y1;refine Wq Qz.ldD ?_;refine Wq Qz.ldD ?_;(refine AWs.q rfl rfl ?_;(refine Bq.build (tab_of rfl) rfl rfl rfl ?_;(repeat ((first | refine ⟨_,PartOk.ag (ao rfl),?_⟩ | refine ⟨_,PartOk.one rfl (by first | exact One.ex_ rfl | exact One.sl | exact One.ep),?_⟩);refine ⟨_,rfl,?_⟩));refine ⟨_,rfl,?_⟩));(refine AWs.q rfl rfl ?_;refine ⟨_,Bq.slice1 (ao rfl) (tab_of rfl) (tab_of rfl) rfl rfl rfl rfl rfl,?_⟩);refine Wa ?_;apply Y0;apply Y1;refine Wm ?_;refine Wm ?_;refine Wq (Qz.call (c3)) ?_;refine Wm ?_;refine Wq Qz.ext ?_;refine Wq Qz.ext ?_;refine Wa ?_;refine Wa ?_;apply Y0;apply Y1;refine Wq Qz.ldD ?_;refine Wq (Qz.call (cs)) ?_;refine Wa ?_;apply Y0;apply Y1;refine Wm ?_;refine Wm ?_;refine Wq (Qz.call (c4)) ?_;refine Wm ?_;refine Wq Qz.ext ?_;refine Wq Qz.ext ?_;refine Wa ?_;refine Wa ?_;apply Y0;apply Y1;refine Wm ?_;refine Wm ?_;refine Wq (Qz.call (c5)) ?_;refine Wm ?_;refine Wq Qz.ext ?_;refine Wq Qz.ext ?_;refine Wa ?_;refine Wa ?_;apply Y0;apply AWp.seq;apply Y1;refine Wm ?_;refine Wm ?_;refine Wq Qz.cmpF ?_;refine Wm ?_;refine Wg Qz.move ?_;refine Wg Qz.move ?_;refine Wg (Qz.call (s1)) ?_;refine Wg Qz.not ?_;refine Wq Qz.pickF ?_;refine Wm ?_;refine Wg Qz.move ?_;refine Wg Qz.move ?_;refine Wg Qz.cmpF ?_;refine Wq Qz.pickF ?_;refine Wm ?_;refine Wg Qz.move ?_;refine Wg Qz.move ?_;refine Wg (Qz.call (s1)) ?_;refine Wg Qz.not ?_;refine Wq Qz.pickF ?_;refine Wm ?_;refine Wg Qz.move ?_;refine Wg Qz.move ?_;refine Wg Qz.cmpF ?_;refine Wq Qz.pickF ?_;refine Wm ?_;refine Wg Qz.move ?_;refine Wg Qz.move ?_;refine Wg (Qz.call (s2)) ?_;refine Wg Qz.not ?_;refine Wq Qz.pickF ?_;refine Wm ?_;refine Wg Qz.move ?_;refine Wg Qz.cmpT ?_;refine Wg Qz.move ?_;refine Wg Qz.cmpF ?_;refine Wg Qz.move ?_;refine Wg Qz.move ?_;refine Wg Qz.cmpT ?_;refine Wg Qz.pickF ?_;refine Wg Qz.neBool ?_;refine Wq Qz.pickF ?_;apply Y0;refine Cf ?_;apply Ys;apply Y1;refine Wm ?_;refine Wq (Qz.call (c6)) ?_;refine Wm ?_;refine Wq Qz.ext ?_;refine Wq Qz.ext ?_;refine Wa ?_;refine Wa ?_;apply Y0;apply AWp.seq
  refine AWp.dr' (DrawOk.float (e:=8) (by kernel_rfl) (K4 (K4 (AddE.keep (AddE.add (AddE.keep AddE.nil))))) (by kernel_rfl)) [[],[],[(132,0),(133,1)],[(134,2)],[],[(135,3),(136,4)],[(137,5)],[(131,6)],[(131,6)]] [[],[],[0,1],[0,1,2],[],[0,1,2,3,4],[0,1,2,3,4,5],[0,1,2,3,4,5,6],[0,1,2,3,4,5,6]] rfl (by kernel_rfl) (by kernel_rfl) (by kernel_rfl) ?_
  refine Xq Qz.ldD ?_;(refine Hq rfl ?_;refine Bq.arr (tab_of rfl) (tab_of rfl) rfl rfl ?_;(repeat ((first | refine ⟨_,PartOk.ag (ah rfl),?_⟩ | refine ⟨_,PartOk.one rfl (by first | exact One.ex_ rfl | exact One.sl | exact One.ep),?_⟩);refine ⟨_,rfl,?_⟩));refine ⟨_,rfl,?_⟩;refine ⟨_,rfl,?_⟩);(refine Hq rfl ?_;refine Bq.build (tab_of rfl) rfl rfl rfl ?_;(repeat ((first | refine ⟨_,PartOk.ag (ah rfl),?_⟩ | refine ⟨_,PartOk.one rfl (by first | exact One.ex_ rfl | exact One.sl | exact One.ep),?_⟩);refine ⟨_,rfl,?_⟩));refine ⟨_,rfl,?_⟩;refine ⟨_,rfl,?_⟩);(refine ⟨_,HStep.q rfl (Bq.slice1 (ah rfl) (tab_of rfl) (tab_of rfl) rfl rfl rfl rfl rfl),?_⟩;refine ⟨_,rfl,?_⟩);refine Xq (Qz.call (cput0)) ?_;refine Xq (Qz.call (c7)) ?_;refine Xq Qz.move ?_;refine Xq Qz.ext ?_;refine Xq Qz.ext ?_;refine ⟨_,rfl,?_⟩
  refine Wa ?_;refine Wa ?_;apply AWl.nil;apply OnlyN.mk';apply Yn;apply AWp.seq
  refine AWp.dr' (DrawOk.float (e:=8) (by kernel_rfl) (K4 (K4 (AddE.keep (AddE.add (AddE.keep AddE.nil))))) (by kernel_rfl)) [[],[],[(141,0),(142,1)],[(143,2)],[],[(144,3),(145,4)],[(146,5)],[(140,6)],[(140,6)]] [[],[],[0,1],[0,1,2],[],[0,1,2,3,4],[0,1,2,3,4,5],[0,1,2,3,4,5,6],[0,1,2,3,4,5,6]] rfl (by kernel_rfl) (by kernel_rfl) (by kernel_rfl) ?_
  refine Xq Qz.ldD ?_;(refine Hq rfl ?_;refine Bq.arr (tab_of rfl) (tab_of rfl) rfl rfl ?_;(repeat ((first | refine ⟨_,PartOk.ag (ah rfl),?_⟩ | refine ⟨_,PartOk.one rfl (by first | exact One.ex_ rfl | exact One.sl | exact One.ep),?_⟩);refine ⟨_,rfl,?_⟩));refine ⟨_,rfl,?_⟩;refine ⟨_,rfl,?_⟩);(refine Hq rfl ?_;refine Bq.build (tab_of rfl) rfl rfl rfl ?_;(repeat ((first | refine ⟨_,PartOk.ag (ah rfl),?_⟩ | refine ⟨_,PartOk.one rfl (by first | exact One.ex_ rfl | exact One.sl | exact One.ep),?_⟩);refine ⟨_,rfl,?_⟩));refine ⟨_,rfl,?_⟩;refine ⟨_,rfl,?_⟩);(refine ⟨_,HStep.q rfl (Bq.slice1 (ah rfl) (tab_of rfl) (tab_of rfl) rfl rfl rfl rfl rfl),?_⟩;refine ⟨_,rfl,?_⟩);refine Xq (Qz.call (cput0)) ?_;refine Xq (Qz.call (c8)) ?_;refine Xq Qz.move ?_;refine Xq Qz.ext ?_;refine Xq Qz.ext ?_;refine ⟨_,rfl,?_⟩
  refine Wa ?_;refine Wa ?_;apply AWl.nil;apply OnlyN.mk';apply Yn;apply Y1;refine Wm ?_;refine Wq Qz.cmpT ?_;refine Wm ?_;refine Wg Qz.move ?_;refine Wg Qz.lenN ?_;refine Wg Qz.cmpT ?_;refine Wq Qz.pickT ?_;refine Wm ?_;refine Wg Qz.move ?_;refine Wg Qz.cmpT ?_;refine Wq Qz.pickT ?_;refine Wm ?_;refine Wg Qz.move ?_;refine Wg Qz.cmpT ?_;refine Wq Qz.pickT ?_;refine Wm ?_;refine Wg Qz.move ?_;refine Wq Qz.pickT ?_;refine Wa ?_;apply Y0;apply AWp.ret
  exact Yf
 ·refine Ab Tryz.func11 fun s0 => ?_
  rw [Tryz.ntmps11]
  apply Y1;refine AWs.bx (ao rfl) rfl rfl rfl rfl ?_;refine AWs.bx (ao rfl) rfl rfl rfl rfl ?_;refine Wa ?_;apply Y0;apply Y1;refine Wq (Qz.call (sanity_abs)) ?_;refine Wa ?_;apply Y0;apply AWp.seq;apply Y1;refine Wm ?_;refine Wq Qz.not ?_;apply Y0;refine Cf ?_;apply Ys;apply Y1;refine Wq Qz.ldD ?_;refine Wq (Qz.call (cp)) ?_;refine Wa ?_;apply Y0;apply Y1;refine Wq Qz.ixPL ?_;refine Wq Qz.ldD1 ?_;refine Wq Qz.rem ?_;refine Wq Qz.conv64 ?_;refine Wq Qz.sub ?_;refine Wq Qz.ixPL ?_;refine Wq Qz.ldD1 ?_;refine Wq Qz.rem ?_;refine Wq Qz.conv64 ?_;refine Wq Qz.sub ?_;(refine AWs.q rfl rfl ?_;(refine Bq.arr (tab_of rfl) (tab_of rfl) rfl rfl ?_;(repeat ((first | refine ⟨_,PartOk.ag (ao rfl),?_⟩ | refine ⟨_,PartOk.one rfl (by first | exact One.ex_ rfl | exact One.sl | exact One.ep),?_⟩);refine ⟨_,rfl,?_⟩));refine ⟨_,rfl,?_⟩));refine AWs.al (tab_of rfl) rfl rfl rfl rfl rfl rfl ?_;refine Sf ?_;apply Y0;apply Y1;refine Wq (Qz.call (RWhole_abs 1 (by omega) (by omega))) ?_;refine AWs.al (tab_of rfl) rfl rfl rfl rfl rfl rfl ?_;refine Sf ?_;apply Y0;apply Y1;refine Wq Qz.ldD ?_;refine Wq Qz.ldD ?_;refine Wm ?_;refine Wq (Qz.call (c1)) ?_;refine Wm ?_;refine Wq Qz.ext ?_;refine Wq Qz.ext ?_;refine Wa ?_;refine Wa ?_;apply Y0;apply Y1;refine Wq Qz.ldD ?_;refine Wq Qz.ldD ?_;refine Wm ?_;refine Wq (Qz.call (c2)) ?_;refine Wm ?_;refine Wq Qz.ext ?_;refine Wq Qz.ext ?_;refine Wa ?_;refine Wa ?_;apply Y0;apply Y1;refine Wq Qz.ldD ?_;refine Wq Qz.ldD ?_;(refine AWs.q rfl rfl ?_;(refine Bq.build (tab_of rfl) rfl rfl rfl ?_;(repeat ((first | refine ⟨_,PartOk.ag (ao rfl),?_⟩ | refine ⟨_,PartOk.one rfl (by first | exact One.ex_ rfl | exact One.sl | exact One.ep),?_⟩);refine ⟨_,rfl,?_⟩));refine ⟨_,rfl,?_⟩));(refine AWs.q rfl rfl ?_;refine ⟨_,Bq.slice1 (ao rfl) (tab_of rfl) (tab_of rfl) rfl rfl rfl rfl rfl,?_⟩);refine Wa ?_;apply Y0;apply Y1;refine Wm ?_;refine Wm ?_;refine Wq (Qz.call (c3)) ?_;refine Wm ?_;refine Wq Qz.ext ?_;refine Wq Qz.ext ?_;refine Wa ?_;refine Wa ?_;apply Y0;apply Y1;refine Wq Qz.ldD ?_;refine Wq (Qz.call (cs)) ?_;refine Wa ?_;apply Y0;apply Y1;refine Wm ?_;refine Wm ?_;refine Wq (Qz.call (c4)) ?_;refine Wm ?_;refine Wq Qz.ext ?_;refine Wq Qz.ext ?_;refine Wa ?_;refine Wa ?_;apply Y0;apply Y1;refine Wm ?_;refine Wm ?_;refine Wq (Qz.call (c5)) ?_;refine Wm ?_;refine Wq Qz.ext ?_;refine Wq Qz.ext ?_;refine Wa ?_;refine Wa ?_;apply Y0;apply AWp.seq;apply Y1;refine Wm ?_;refine Wm ?_;refine Wq Qz.cmpF ?_;refine Wm ?_;refine Wg Qz.move ?_;refine Wg Qz.move ?_;refine Wg (Qz.call (s1)) ?_;refine Wg Qz.not ?_;refine Wq Qz.pickF ?_;refine Wm ?_;refine Wg Qz.move ?_;refine Wg Qz.move ?_;refine Wg Qz.cmpF ?_;refine Wq Qz.pickF ?_;refine Wm ?_;refine Wg Qz.move ?_;refine Wg Qz.move ?_;refine Wg (Qz.call (s1)) ?_;refine Wg Qz.not ?_;refine Wq Qz.pickF ?_;refine Wm ?_;refine Wg Qz.move ?_;refine Wg Qz.move ?_;refine Wg Qz.cmpF ?_;refine Wq Qz.pickF ?_;refine Wm ?_;refine Wg Qz.move ?_;refine Wg Qz.move ?_;refine Wg (Qz.call (s2)) ?_;refine Wg Qz.not ?_;refine Wq Qz.pickF ?_;refine Wm ?_;refine Wg Qz.move ?_;refine Wg Qz.cmpF ?_;refine Wg Qz.move ?_;refine Wg Qz.cmpF ?_;refine Wg Qz.move ?_;refine Wg Qz.move ?_;refine Wg Qz.cmpF ?_;refine Wg Qz.pickF ?_;refine Wg Qz.neBool ?_;refine Wq Qz.pickF ?_;apply Y0;refine Cf ?_;apply Ys;apply Y1;refine Wm ?_;refine Wq (Qz.call (c6)) ?_;refine Wm ?_;refine Wq Qz.ext ?_;refine Wq Qz.ext ?_;refine Wa ?_;refine Wa ?_;apply Y0;apply AWp.seq
  refine AWp.dr' (DrawOk.float (e:=8) (by kernel_rfl) (K4 (K4 (AddE.keep (AddE.add (AddE.keep AddE.nil))))) (by kernel_rfl)) [[],[],[(132,0),(133,1)],[(134,2)],[],[(135,3),(136,4)],[(137,5)],[(131,6)],[(131,6)]] [[],[],[0,1],[0,1,2],[],[0,1,2,3,4],[0,1,2,3,4,5],[0,1,2,3,4,5,6],[0,1,2,3,4,5,6]] rfl (by kernel_rfl) (by kernel_rfl) (by kernel_rfl) ?_
  refine Xq Qz.ldD ?_;(refine Hq rfl ?_;refine Bq.arr (tab_of rfl) (tab_of rfl) rfl rfl ?_;(repeat ((first | refine ⟨_,PartOk.ag (ah rfl),?_⟩ | refine ⟨_,PartOk.one rfl (by first | exact One.ex_ rfl | exact One.sl | exact One.ep),?_⟩);refine ⟨_,rfl,?_⟩));refine ⟨_,rfl,?_⟩;refine ⟨_,rfl,?_⟩);(refine Hq rfl ?_;refine Bq.build (tab_of rfl) rfl rfl rfl ?_;(repeat ((first | refine ⟨_,PartOk.ag (ah rfl),?_⟩ | refine ⟨_,PartOk.one rfl (by first | exact One.ex_ rfl | exact One.sl | exact One.ep),?_⟩);refine ⟨_,rfl,?_⟩));refine ⟨_,rfl,?_⟩;refine ⟨_,rfl,?_⟩);(refine ⟨_,HStep.q rfl (Bq.slice1 (ah rfl) (tab_of rfl) (tab_of rfl) rfl rfl rfl rfl rfl),?_⟩;refine ⟨_,rfl,?_⟩);refine Xq (Qz.call (cput0)) ?_;refine Xq (Qz.call (c7)) ?_;refine Xq Qz.move ?_;refine Xq Qz.ext ?_;refine Xq Qz.ext ?_;refine ⟨_,rfl,?_⟩
  refine Wa ?_;refine Wa ?_;apply AWl.nil;apply OnlyN.mk';apply Yn;apply AWp.seq
  refine AWp.dr' (DrawOk.float (e:=8) (by kernel_rfl) (K4 (K4 (AddE.keep (AddE.add (AddE.keep AddE.nil))))) (by kernel_rfl)) [[],[],[(141,0),(142,1)],[(143,2)],[],[(144,3),(145,4)],[(146,5)],[(140,6)],[(140,6)]] [[],[],[0,1],[0,1,2],[],[0,1,2,3,4],[0,1,2,3,4,5],[0,1,2,3,4,5,6],[0,1,2,3,4,5,6]] rfl (by kernel_rfl) (by kernel_rfl) (by kernel_rfl) ?_
  refine Xq Qz.ldD ?_;(refine Hq rfl ?_;refine Bq.arr (tab_of rfl) (tab_of rfl) rfl rfl ?_;(repeat ((first | refine ⟨_,PartOk.ag (ah rfl),?_⟩ | refine ⟨_,PartOk.one rfl (by first | exact One.ex_ rfl | exact One.sl | exact One.ep),?_⟩);refine ⟨_,rfl,?_⟩));refine ⟨_,rfl,?_⟩;refine ⟨_,rfl,?_⟩);(refine Hq rfl ?_;refine Bq.build (tab_of rfl) rfl rfl rfl ?_;(repeat ((first | refine ⟨_,PartOk.ag (ah rfl),?_⟩ | refine ⟨_,PartOk.one rfl (by first | exact One.ex_ rfl | exact One.sl | exact One.ep),?_⟩);refine ⟨_,rfl,?_⟩));refine ⟨_,rfl,?_⟩;refine ⟨_,rfl,?_⟩);(refine ⟨_,HStep.q rfl (Bq.slice1 (ah rfl) (tab_of rfl) (tab_of rfl) rfl rfl rfl rfl rfl),?_⟩;refine ⟨_,rfl,?_⟩);refine Xq (Qz.call (cput0)) ?_;refine Xq (Qz.call (c8)) ?_;refine Xq Qz.move ?_;refine Xq Qz.ext ?_;refine Xq Qz.ext ?_;refine ⟨_,rfl,?_⟩
  refine Wa ?_;refine Wa ?_;apply AWl.nil;apply OnlyN.mk';apply Yn;apply Y1;refine Wm ?_;refine Wq Qz.cmpT ?_;refine Wm ?_;refine Wg Qz.move ?_;refine Wg Qz.lenN ?_;refine Wg Qz.cmpT ?_;refine Wq Qz.pickT ?_;refine Wm ?_;refine Wg Qz.move ?_;refine Wg Qz.cmpT ?_;refine Wq Qz.pickT ?_;refine Wm ?_;refine Wg Qz.move ?_;refine Wg Qz.cmpT ?_;refine Wq Qz.pickT ?_;refine Wm ?_;refine Wg Qz.move ?_;refine Wq Qz.pickT ?_;refine Wa ?_;apply Y0;apply AWp.ret
  exact Yf
theorem limits_law (T : Nat) (X:List (Nat→Int)) (l:Nat→Int) (z:Int) (hX:Raw8 X) (hl:∀ j,j<2→0≤l j∧l j≤255) (_:-9223372036854775808≤z∧z≤9223372036854775807):Abs Tryz.prog 11 [agD [r5D T X],agD [ex (.int .u8 (l 0)),ex (.int .u8 (l 1))],ex (.int .i64 z)] (ex (.bool true)):=limits_abs T X l z hX hl
end Go.Proofs.YteicdddphdomkaaGreat
