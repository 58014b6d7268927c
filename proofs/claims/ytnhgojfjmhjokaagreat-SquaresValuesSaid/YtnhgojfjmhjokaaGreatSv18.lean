/- Part 18 of the proof of squaresValues_holds. No condition. -/
import Derived.Test.YtnhgojfjmhjokaaGreatSv17
set_option linter.unusedSimpArgs false
set_option linter.unusedVariables false
set_option maxRecDepth 100000
namespace Go.Proofs.YtnhgojfjmhjokaaGreat
open Go.RowKit
theorem Canon.nil : Canon []:=⟨List.Pairwise.nil,fun t h=>by cases h⟩
theorem Canon.single {t : Tm} (h:t.c ≠ 0):Canon [t]:=⟨List.pairwise_singleton _ _,fun u hu=>by rw [List.mem_singleton.1 hu];exact h⟩
theorem mrg_psz {N M:Nat}:∀ {P Q:List Tm},PSz P N→PSz Q M→PSz (mrg P Q) (N+M+1)
 | [],Q,_,h=>by simp only [mrg];exact h.mono (by omega)
 | s :: P,[],h,_=>by simp only [mrg];exact h.mono (by omega)
 | s :: P,t :: Q,hP,hQ=>by
  have hP':PSz P N:=fun u hu=>hP u (by simp [hu])
  have hQ':PSz Q M:=fun u hu=>hQ u (by simp [hu])
  have con:∀ {x:Tm} {L:List Tm},RSz x.c (N+M+1)→PSz L (N+M+1)→PSz (x :: L) (N+M+1):=fun h1 h2 u hu=>by
   rcases List.mem_cons.1 hu with rfl | hu
   ·exact h1
   ·exact h2 u hu
  rw [mrg]
  split
  ·exact con ((hP s (by simp)).mono (by omega)) (mrg_psz hP' hQ)
  ·split
   ·exact con ((hQ t (by simp)).mono (by omega)) (mrg_psz hP hQ')
   ·split
    ·exact mrg_psz hP' hQ'
    ·exact con ((hP s (by simp)).add (hQ t (by simp))) (mrg_psz hP' hQ')
termination_by P Q => P.length+Q.length
theorem mrg_pin {P Q:List Tm} {a b:Int} (hP:PIn P a b) (hQ:PIn Q a b):PIn (mrg P Q) a b:=fun u hu=>by
 rcases mrg_mem P Q u hu with ⟨s,hs,e⟩ | ⟨s,hs,e⟩
 ·rw [← e];exact hP s hs
 ·rw [← e];exact hQ s hs
theorem SameL.symm : ∀ {P Q:List Tm},SameL P Q→SameL Q P
 | [],[],_=>trivial
 | _ :: _,_ :: _,h=>⟨h.1.symm,h.2.1.symm,SameL.symm h.2.2⟩
 | [],_ :: _,h=>h.elim
 | _ :: _,[],h=>h.elim
structure PB (P : List Tm) (n N:Nat) (d:Int):Prop where
 can:Canon P
 len:P.length≤n
 sz:PSz P N
 ex:PIn P 0 d
theorem PB.mono {P : List Tm} {n N n' N':Nat} {d d':Int} (h:PB P n N d) (h1:n≤n') (h2:N≤N') (h3:d≤d'):PB P n' N' d':=⟨h.can,Nat.le_trans h.len h1,h.sz.mono h2,h.ex.mono (Int.le_refl _) h3⟩
theorem PB.nil {n N:Nat} {d:Int}:PB [] n N d:=⟨Canon.nil,Nat.zero_le _,fun t h=>(by cases h),fun t h=>(by cases h)⟩
theorem PB.add {P Q:List Tm} {n N n' N':Nat} {d d':Int} (h:PB P n N d) (k:PB Q n' N' d'):PB (mrg P Q) (n+n') (N+N'+1) (max d d') :=
 ⟨mrg_canon h.can k.can,by have:=mrg_length P Q;have:=h.len;have:=k.len;omega,mrg_psz h.sz k.sz,mrg_pin (h.ex.mono (Int.le_refl _) (by omega)) (k.ex.mono (Int.le_refl _) (by omega))⟩
def neg (P : List Tm):List Tm:=P.map (fT fun q=>-q)
theorem dec_map {f : Tm→Tm} {P:List Tm} (h:Dec P) (hf:∀ s∈P,∀ t∈P,0<lx s.m t.m→0<lx (f s).m (f t).m):Dec (P.map f):=by
 refine List.pairwise_map.2 (List.Pairwise.imp_of_mem (fun {a b} ha hb hab=>hf a ha b hb hab) h)
theorem neg_canon {P : List Tm} (h:Canon P):Canon (neg P):=⟨dec_map h.1 fun _ _ _ _ h=>h,fun t ht=>by
 obtain ⟨s,hs,rfl⟩:=List.mem_map.1 ht
 intro e
 have e:-s.c = 0:=e
 exact h.2 s hs (by grind)⟩
theorem PB.neg {P : List Tm} {n N : Nat} {d : Int} (h : PB P n N d) : PB (neg P) n N d := ⟨neg_canon h.can, by rw [Go.Proofs.YtnhgojfjmhjokaaGreat.neg, List.length_map]; exact h.len, fun t ht => by
 obtain ⟨s,hs,rfl⟩:=List.mem_map.1 ht
 exact (h.sz s hs).neg,fun t ht=>by
 obtain ⟨s,hs,rfl⟩:=List.mem_map.1 ht
 exact h.ex s hs⟩
theorem neg_dot (f : (Nat→Int)→Rat):∀ P:List Tm,dot f (neg P) = -dot f P
 | []=>by simp [neg,dot]
 | t :: P=>by
  have:=neg_dot f P
  simp only [neg,List.map_cons,dot,fT] at this ⊢
  rw [this];grind
def psub (P Q:List Tm):List Tm:=mrg P (neg Q)
theorem PB.sub {P Q:List Tm} {n N n' N':Nat} {d d':Int} (h:PB P n N d) (k:PB Q n' N' d'):PB (psub P Q) (n+n') (N+N'+1) (max d d'):=h.add k.neg
theorem rat_mul_ne {a b:Rat} (ha:a ≠ 0) (hb:b ≠ 0):a*b ≠ 0:=fun e=>by
 rcases Rat.mul_eq_zero.1 e with h | h
 ·exact ha h
 ·exact hb h
theorem tms_canon {c : Rat} {m:Nat→Int} {P:List Tm} (hc:c ≠ 0) (h:Canon P):Canon (tms c m P):=⟨dec_map h.1 fun s _ t _ h=>by
 show 0<lx (add8 m s.m) (add8 m t.m)
 rwa [add8_comm m,add8_comm m,lx_add],fun t ht=>by
 obtain ⟨s,hs,rfl⟩:=List.mem_map.1 ht
 exact rat_mul_ne hc (h.2 s hs)⟩
theorem add8_in {a b:Nat→Int} {d e:Int} (ha:In8 a 0 d) (hb:In8 b 0 e):In8 (add8 a b) 0 (d+e):=fun i hi=>by
 have:=ha i hi
 have:=hb i hi
 simp only [add8]
 omega
theorem tms_pb {t : Tm} {P:List Tm} {n N N0:Nat} {d d0:Int} (h:PB P n N d) (hc:t.c ≠ 0) (hs:RSz t.c N0) (hm:In8 t.m 0 d0):PB (tms t.c t.m P) n (N0+N) (d0+d) :=
 ⟨tms_canon hc h.can, by rw [tms_length]; exact h.len, tms_psz hs h.sz, fun u hu => by
  obtain ⟨s,hs,rfl⟩:=List.mem_map.1 hu
  exact add8_in hm (h.ex s hs)⟩
def mulTo (A P Q:List Tm):List Tm:=P.foldl (fun a s=>mrg a (tms s.c s.m Q)) A
def pmul (P Q:List Tm):List Tm:=mulTo [] P Q
theorem mulTo_pb {Q : List Tm} {n' N' N:Nat} {d d':Int} (hQ:PB Q n' N' d'):∀ {P A:List Tm} {k K:Nat},(∀ t∈P,t.c ≠ 0)→PSz P N→PIn P 0 d→PB A k K (d+d')→PB (mulTo A P Q) (k+P.length*n') (K+P.length*(N+N'+1)) (d+d')
 | [],A,k,K,_,_,_,h=>by simpa [mulTo] using h
 | t :: P,A,k,K,h1,h2,h3,h=>by
  have ht:=tms_pb (t:=t) (d0:=d) hQ (h1 t (by simp)) (h2 t (by simp)) (h3 t (by simp))
  have h4:PB (mrg A (tms t.c t.m Q)) (k+n') (K+(N+N'+1)) (d+d'):=(h.add ht).mono (Nat.le_refl _) (by omega) (by omega)
  have:=mulTo_pb hQ (P:=P) (fun u hu=>h1 u (by simp [hu])) (fun u hu=>h2 u (by simp [hu])) (fun u hu=>h3 u (by simp [hu])) h4
  refine this.mono ?_ ?_ (Int.le_refl _)
  ·rw [List.length_cons,Nat.succ_mul];omega
  ·rw [List.length_cons,Nat.succ_mul];omega
theorem mulTo_sim {Q : List Tm}:∀ {P A:List Tm},Sim (mulTo A P Q) (A ++ mulL P Q)
 | [],A=>by simp only [mulTo,mulL,List.foldl_nil,List.flatMap_nil,List.append_nil];exact Sim.refl _
 | t :: P,A=>by
  refine (mulTo_sim (P:=P) (A:=mrg A (tms t.c t.m Q))).trans ?_
  refine ((mrg_sim _ _).append (Sim.refl _)).trans ?_
  simp only [mulL,List.flatMap_cons,tms,List.append_assoc]
  exact Sim.refl _
theorem pmul_sim (P Q:List Tm):Sim (pmul P Q) (mulL P Q):=mulTo_sim
theorem PB.mul {P Q:List Tm} {n N n' N':Nat} {d d':Int} (h:PB P n N d) (k:PB Q n' N' d') (h0:0≤d) (h0':0≤d'):PB (pmul P Q) (n*n') (n*(N+N'+1)) (d+d'):=by
 have:=mulTo_pb (A:=[]) (k:=0) (K:=0) (d:=d) k h.can.2 h.sz h.ex PB.nil
 refine this.mono ?_ ?_ (Int.le_refl _)
 ·rw [Nat.zero_add];exact Nat.mul_le_mul_right _ h.len
 ·rw [Nat.zero_add];exact Nat.mul_le_mul_right _ h.len
theorem polD_sim {P Q:List Tm} (hP:Canon P) (hQ:Canon Q) (h:Sim P Q):polD P = polD Q:=polD_same (canon_unique hP hQ h)
theorem PB.same {P Q:List Tm} {n N:Nat} {d:Int} (h:PB P n N d) (hs:SameL P Q):PB Q n N d:=by
 have key:∀ {P Q:List Tm},SameL P Q→∀ t∈Q,∃ s∈P,s.c = t.c∧Eqv s.m t.m:=by
  intro P
  induction P with
  | nil=>intro Q h t ht;cases Q with
   | nil=>cases ht
   | cons=>exact h.elim
  | cons s P ih=>intro Q h t ht;cases Q with
   | nil=>exact h.elim
   | cons u Q =>
    rcases List.mem_cons.1 ht with rfl | ht
    ·exact ⟨s,by simp,h.1,h.2.1⟩
    ·obtain ⟨x,hx,e⟩:=ih h.2.2 t ht
     exact ⟨x,by simp [hx],e⟩
 have dec:∀ {P Q:List Tm},SameL P Q→Dec P→Dec Q:=by
  intro P
  induction P with
  | nil=>intro Q h _;cases Q with
   | nil=>exact List.Pairwise.nil
   | cons=>exact h.elim
  | cons s P ih=>intro Q h hd;cases Q with
   | nil=>exact h.elim
   | cons u Q =>
    have hd:=List.pairwise_cons.1 hd
    refine List.pairwise_cons.2 ⟨fun t ht=>?_,ih h.2.2 hd.2⟩
    obtain ⟨x,hx,_,e⟩:=key h.2.2 t ht
    rw [← lx_congr h.2.1 e]
    exact hd.1 x hx
 refine ⟨⟨dec hs h.can.1,fun t ht=>?_⟩,by rw [← hs.length];exact h.len,fun t ht=>?_,fun t ht=>?_⟩
 ·obtain ⟨s,hs,e,_⟩:=key hs t ht
  rw [← e];exact h.can.2 s hs
 ·obtain ⟨s,hs,e,_⟩:=key hs t ht
  rw [← e];exact h.sz s hs
 ·obtain ⟨s,hs,_,e⟩:=key hs t ht
  intro i hi
  rw [← e i hi];exact h.ex s hs i hi
theorem constL_pb {c : Rat} {N:Nat} (h:RSz c N) {d:Int} (hd:0≤d):PB (constL c) 1 N d:=by
 unfold constL
 split
 ·exact PB.nil
 ·rename_i hc
  refine ⟨Canon.single hc,by simp,fun t ht=>by rw [List.mem_singleton.1 ht];exact h,fun t ht=>by rw [List.mem_singleton.1 ht];exact fun i hi=>⟨Int.le_refl _,hd⟩⟩
theorem PB.single {t : Tm} {N:Nat} {d:Int} (h:t.c ≠ 0) (hs:RSz t.c N) (hm:In8 t.m 0 d):PB [t] 1 N d:=⟨Canon.single h,by simp,fun u hu=>by rw [List.mem_singleton.1 hu];exact hs,fun u hu=>by rw [List.mem_singleton.1 hu];exact hm⟩
theorem unitE_in {i : Nat}:In8 (unitE i) 0 1:=fun j _=>by
 unfold unitE setM
 split
 ·omega
 ·exact ⟨Int.le_refl _,(by show (0:Int)≤1;omega)⟩
theorem mulTo_take {P Q A:List Tm} {k:Nat} (h:k<P.length):mulTo A (P.take (k+1)) Q = mrg (mulTo A (P.take k) Q) (tms (tAt P k).c (tAt P k).m Q):=foldl_tAt (fun a s=>mrg a (tms s.c s.m Q)) A h
theorem mulTo_take_pb {P Q:List Tm} {n N n' N':Nat} {d d':Int} (h:PB P n N d) (hQ:PB Q n' N' d') (h0:0≤d) (h0':0≤d') (k:Nat):PB (mulTo [] (P.take k) Q) (n*n') (n*(N+N'+1)) (d+d'):=by
 have:=mulTo_pb (A:=[]) (k:=0) (K:=0) (d:=d) (P:=P.take k) hQ (fun t ht=>h.can.2 t (List.mem_of_mem_take ht)) (fun t ht=>h.sz t (List.mem_of_mem_take ht)) (fun t ht=>h.ex t (List.mem_of_mem_take ht)) PB.nil
 have hl:(P.take k).length≤n:=Nat.le_trans (by rw [List.length_take];omega) h.len
 refine this.mono ?_ ?_ (Int.le_refl _)
 ·rw [Nat.zero_add];exact Nat.mul_le_mul_right _ hl
 ·rw [Nat.zero_add];exact Nat.mul_le_mul_right _ hl
theorem RPMul_pb {P Q:List Tm} {n N n' N':Nat} {d d':Int} (hP:PB P n N d) (hQ:PB Q n' N' d') (h0:0≤d) (h0':0≤d') (hd:d+d'≤65535) (hn0:n≤100000) (hn:n*n'+n'≤100000) (hN:n*(N+N'+1)+N+N'+1≤4398046511102):Abs Tryz.prog 48 [polD P,polD Q] (tupD [polD (pmul P Q),ex (.int .i64 0)]):=by
 have hPl:=hP.len
 have hQl:=hQ.len
 refine Ab Tryz.func48 fun s0=>?_
 rw [Tryz.ntmps48]
 repeat (first | apply AWp.seq | apply AWp.region | (apply Ga.b0;refine AWs.b0 (tab_of rfl) (tab_of rfl) rfl rfl rfl rfl rfl ?_) | (refine AWs.q rfl rfl ?_;(apply Gt.assign;refine ⟨_,Qs.assign (ao rfl),?_⟩)) | apply AWl.nil | apply Yn | apply AWp.block)
 refine AWp.loop (fun mz σ=>∃ k,k≤P.length∧mz = P.length - k∧σ = ⟨[(0,.d (polD P)),(1,.d (polD Q)),(6,.d (polD (mulTo [] (P.take k) Q))),(7,.d (ex (.int .i64 (k:Nat))))],[]⟩) ?le ⟨0,by omega,rfl,rfl⟩ ?round
 case le=>exact AS.le_of (by repeat (first | exact FrLe.nil | refine Yd ?_ | refine FrLe.cons rfl (AVle.ownD rfl (D.le.refl _)) ?_)) (by repeat (exact HpLe.nil))
 case round =>
  rintro mz _ ⟨k,hk,rfl,rfl⟩
  by_cases hlt:k<P.length
  ·have ht:=tAt_mem hlt
   have hm:=hP.ex _ ht
   have hb:=mulTo_take_pb hP hQ h0 h0' k
   have hbl:=hb.len
   have ht2:=tms_pb (t:=tAt P k) hQ (hP.can.2 _ ht) (hP.sz _ ht) hm
   have ht2l:=ht2.len
   repeat (first | apply AWp.seq | apply AWp.region | (refine AWs.q rfl rfl ?_;first | (apply Gt.move;refine ⟨_,Qs.move (ao rfl),?_⟩) | (apply Gt.len;refine ⟨_,Qs.lenN rfl (tab_of rfl),?_⟩) | (apply Gt.bin;refine ⟨_,Qs.cmpT rfl (ao rfl) (ao rfl) (by first | (simp only [cmpP,List.length_cons,List.length_nil];omega) | (simp [cmpP];done) | (simp [cmpP];omega)),?_⟩)) | apply AWl.nil | apply Yn | apply AWp.block | apply AWp.skip | (apply Gc.cond;refine Ct ?_))
   refine AWp.dr' (DrawOk.float (e:=14) (by kernel_rfl) (K4 (K4 (K4 (AddE.keep (AddE.keep (AddE.keep (AddE.add (AddE.keep AddE.nil)))))))) (by kernel_rfl)) [[],[],[(18,0),(19,1)],[(20,2)],[(21,3)],[],[],[(23,5),(24,6)],[(25,7)],[(26,8)],[],[(22,4),(27,9),(28,10)],[(29,11)],[(17,12)],[(17,12)]] [[],[],[0,1],[0,1,2],[0,1,2,3],[],[],[5,6],[5,6,7],[5,6,7,8],[],[0,1,2,3,4,5,6,7,8,9,10],[0,1,2,3,4,5,6,7,8,9,10,11],[0,1,2,3,4,5,6,7,8,9,10,11,12],[0,1,2,3,4,5,6,7,8,9,10,11,12]] rfl (by kernel_rfl) (by kernel_rfl) (by kernel_rfl) ?_
   repeat (first | refine ⟨_,rfl,?_⟩ | (apply Gh.move;(refine Xq (Qs.move (ah rfl)) ?_)) | (apply Gh.load;first | (refine Xq (Qs.loadEf (ah rfl) (tab_of rfl) rfl rfl) ?_) | (refine Xq (Qs.ldE (ah rfl) (tab_of rfl) rfl rfl) ?_)) | (apply Gh.fieldAddr;(refine Xq (Qs.fldE (ah rfl) (tab_of rfl) rfl (tab_of rfl) rfl rfl) ?_)) | (apply Gh.indexAddr;(refine Xq (Qs.indexN rfl (ah rfl) (tab_of rfl) (tab_of rfl) rfl (by first | omega | (simp;omega))) ?_)) | (apply Gh.ext;(refine Xq (Qs.ext (ah rfl) rfl) ?_)) | (apply Gh.callv;(refine Xq (Qs.call (ah rfl) (RTimes_abs (tAt P k).c (tAt P k).m Q N N' (hP.can.2 _ ht) (hP.sz _ ht) (hm.mono (Int.le_refl _) (by omega)) hQ.sz (hQ.ex.mono (Int.le_refl _) (by omega)) (fun t h=>(add8_in hm (hQ.ex t h)).mono (Int.le_refl _) hd) (by omega) (by omega)) (by first | ((repeat (first | exact ArgsLe.nil | refine ArgsLe.cons rfl (D.le.refl _) ?_ | refine ArgsLe.cons rfl D.le_nil ?_));done) | fail)) ?_)))
   repeat (first | apply AWp.seq | apply AWp.region | (refine AWs.q rfl rfl ?_;first | (apply Gt.move;refine ⟨_,Qs.move (ao rfl),?_⟩) | (apply Gt.assign;refine ⟨_,Qs.assign (ao rfl),?_⟩) | (apply Gt.add;refine ⟨_,Qs.succ (ao rfl) (ao rfl) (by omega),?_⟩) | (apply Gt.bin;refine ⟨_,Qs.cmpF rfl (ao rfl) (ao rfl) (by first | (simp only [cmpP,List.length_cons,List.length_nil];omega) | (simp [cmpP];done) | (simp [cmpP];omega)),?_⟩) | (apply Gt.callv;refine ⟨_,Qs.call (ao rfl) (RAdd_pol (mulTo [] (P.take k) Q) (tms (tAt P k).c (tAt P k).m Q) (n*(N+N'+1)) (N+N') hb.sz ht2.sz (by omega) (by omega)) (by first | ((repeat (first | exact ArgsLe.nil | refine ArgsLe.cons rfl (D.le.refl _) ?_ | refine ArgsLe.cons rfl D.le_nil ?_));done) | fail),?_⟩)) | apply OnlyN.mk' | apply AWl.nil | apply Yn | apply AWp.skip | apply ABlock.normal | (apply Gc.cond;refine Cf ?_))
   refine ALoop.next (P.length - (k+1)) (by omega) ⟨k+1,by omega,rfl,rfl⟩ ?_
   exact AS.le_of (by repeat (first | exact FrLe.nil | refine Yd ?_ | refine FrLe.cons rfl (AVle.le (D.le_pol (mulTo_take hlt).symm)) ?_)) (by repeat (exact HpLe.nil))
  ·obtain rfl : k = P.length := by omega
   repeat (first | apply AWp.seq | apply AWp.region | (refine AWs.q rfl rfl ?_;first | (apply Gt.move;refine ⟨_,Qs.move (ao rfl),?_⟩) | (apply Gt.assign;refine ⟨_,Qs.assign (ao rfl),?_⟩) | (apply Gt.len;refine ⟨_,Qs.lenN rfl (tab_of rfl),?_⟩) | (apply Gt.bin;refine ⟨_,Qs.cmpF rfl (ao rfl) (ao rfl) (by first | (simp only [cmpP,List.length_cons,List.length_nil];omega) | (simp [cmpP];done) | (simp [cmpP];omega)),?_⟩)) | apply AWl.nil | apply Yn | apply AWp.exit | apply AWp.ret | apply AThen.exit | apply ABlock.hit | apply ALoop.exit | (apply Gc.cond;refine Cf ?_))
   exact Fin.ret (Rets.of2 (ResV.tmp rfl rfl) (ResV.tmp rfl rfl) (D.le.tup2 (D.le_pol (by rw [List.take_length];rfl)) (D.le.refl _)))
theorem RBy_pb {P Q:List Tm} {n N n' N':Nat} {d d':Int} (hP:PB P n N d) (hQ:PB Q n' N' d') (h0:0≤d) (h0':0≤d') (hd:d+d'≤65535) (hn0:n≤100000) (hn:n*n'+n'≤100000) (hN:n*(N+N'+1)+N+N'+1≤4398046511102):Abs Tryz.prog 33 [polD P,polD Q] (polD (pmul P Q)):=by
 refine Ab Tryz.func33 fun s0=>?_
 rw [Tryz.ntmps33]
 repeat (first | apply AWp.seq | apply AWp.region | (refine AWs.q rfl rfl ?_;first | (apply Gt.move;refine ⟨_,Qs.move (ao rfl),?_⟩) | (apply Gt.assign;refine ⟨_,Qs.assign (ao rfl),?_⟩) | (apply Gt.ext;refine ⟨_,Qs.ext (ao rfl) rfl,?_⟩) | (apply Gt.callv;refine ⟨_,Qs.call (ao rfl) (RPMul_pb hP hQ h0 h0' hd hn0 hn hN) (by first | ((repeat (first | exact ArgsLe.nil | refine ArgsLe.cons rfl (D.le.refl _) ?_ | refine ArgsLe.cons rfl D.le_nil ?_));done) | fail),?_⟩)) | apply AWl.nil | apply Yn | apply AWp.ret)
 exact Yf
theorem Abs.le {P : Program} {f:FuncId} {ds:List D} {r r':D} (h:Abs P f ds r) (hr:D.le r r'):Abs P f ds r' :=
 ⟨h.1,fun s vs h1 h2 h3=>(h.2 s vs h1 h2 h3).mono fun e w' ⟨v,he,s',hw,hl,hv⟩=>⟨v,he,s',hw,hl,hr _ _ hv⟩⟩
theorem PMul_pb {P Q:List Tm} {n N n' N':Nat} {d d':Int} (hP:PB P n N d) (hQ:PB Q n' N' d') (h0:0≤d) (h0':0≤d') (hd:d+d'≤65535) (hn:n*n'≤100000) (hN:N+N'+1≤10000000):Abs Tryz.prog 45 [polD P,polD Q] (tupD [polD (pmul P Q),ex (.int .i64 0)]) :=
 (PMul_abs P Q N N' hP.sz hQ.sz d d' hP.ex hQ.ex hd h0 h0' (Nat.le_trans (Nat.mul_le_mul hP.len hQ.len) hn) hN).le fun s v hv=>by
  obtain ⟨S,⟨h1,h2,_⟩,h3⟩:=hv
  have h3:(tupD [polD S,ex (.int .i64 0)]).rel s v:=h3
  rwa [polD_sim h1 (hP.mul hQ h0 h0').can (h2.trans (pmul_sim P Q).symm)] at h3
theorem PAdd_pb {P Q:List Tm} {n N n' N':Nat} {d d':Int} (hP:PB P n N d) (hQ:PB Q n' N' d') (hn:n+n'≤100000) (hN:N+N'+1≤4398046511104):Abs Tryz.prog 47 [polD P,polD Q] (polD (mrg P Q)) :=
 PAdd_abs P Q N N' hP.sz hQ.sz hN (Nat.le_trans (Nat.add_le_add hP.len hQ.len) hn)
theorem RAdd_pb {P Q:List Tm} {n N n' N':Nat} {d d':Int} (hP:PB P n N d) (hQ:PB Q n' N' d') (hn:n+n'≤100000) (hN:N+N'+1≤4398046511103):Abs Tryz.prog 29 [polD P,polD Q] (polD (mrg P Q)) :=
 RAdd_pol P Q N N' hP.sz hQ.sz hN (Nat.le_trans (Nat.add_le_add hP.len hQ.len) hn)
theorem scl_one_neg {Q : List Tm} (hQ:Canon Q):SameL (sclL (-1:Int) Q) (neg Q):=by
 rw [sclL,if_neg (by decide)]
 induction Q with
 | nil=>trivial
 | cons t Q ih =>
  refine ⟨?_,fun i _=>?_,ih ⟨(List.pairwise_cons.1 hQ.1).2,fun u hu=>hQ.2 u (by simp [hu])⟩⟩
  ·show ((-1:Int):Rat)*t.c = -t.c
   have:((-1:Int):Rat) = -1:=rfl
   rw [this];grind
  ·show 0+t.m i = t.m i
   omega
theorem RSub_pb {P Q:List Tm} {n N n' N':Nat} {d d':Int} (hP:PB P n N d) (hQ:PB Q n' N' d') (hd:d'≤65535) (hn:n+n'≤100000) (hN:N+N'+2≤4398046511103):Abs Tryz.prog 38 [polD P,polD Q] (polD (psub P Q)):=by
 have hs:=scl_one_neg hQ.can
 have hc:=(hQ.neg.same hs.symm).can
 exact (RSub_abs P Q N N' hP.sz hQ.sz (hQ.ex.mono (Int.le_refl _) hd) hN (Nat.le_trans (Nat.add_le_add hP.len hQ.len) hn)).le (D.le.of_eq (polD_sim (mrg_canon hP.can hc) (mrg_canon hP.can hQ.neg.can) ((mrg_sim _ _).trans (((Sim.refl P).append hs.sim).trans (mrg_sim _ _).symm))))
theorem RSame_true {P Q:List Tm} (h:SameL P Q):Abs Tryz.prog 11 [polD P,polD Q] (ex (.bool true)):=by
 have:=RSame_abs P Q
 rwa [sameB_true.2 h] at this
theorem RSame_sim {P Q:List Tm} (hP:Canon P) (hQ:Canon Q) (h:Sim P Q):Abs Tryz.prog 11 [polD P,polD Q] (ex (.bool true)):=RSame_true (canon_unique hP hQ h)
theorem RPValid_pb {P : List Tm} {n N:Nat} {d:Int} (h:PB P n N d) (hd:d≤65535) (hN:N≤1000000000) (hn:n≤1000000):Abs Tryz.prog 22 [polD P] (ex (.bool true)):=RPValidP_abs P N h.can (h.ex.mono (Int.le_refl _) hd) h.sz hN (Nat.le_trans h.len hn)
theorem AWp.nilOwn {P : Program} {s0:An} {n:Nat} {Q:Exit→AS→Prop} {c:Code} {fr:List (Nat × AV)} {hp hp':List Ow} {m:Nat} (t T sz:Nat) (h:look fr t = some (.d (ex (.slice none 0 0)))) (hT:T ≠ 139) (h0:0<sz) (hm:lenO hp = some m) (hs:snocO hp (.row T sz []) = some hp') (k:AWp P s0 n c Q ⟨(t,.own m) :: fr,hp'⟩):AWp P s0 n c Q ⟨fr,hp⟩:=by
 rw [snocO_eq hs] at k
 obtain rfl:=lenO_eq hm
 refine ⟨fun a w ⟨s,ρ,hw,hst⟩=>?_⟩
 have hv:a.tmps.getD t undef = .slice none 0 0:=hst.fr t _ h
 have hlt:t<a.tmps.size:=by
  rcases Nat.lt_or_ge t a.tmps.size with h1 | h1
  ·exact h1
  ·simp [h1,undef] at hv
 have hg:a.tmps[t]? = some (.slice none 0 0):=by
  rw [Array.getD_eq_getD_getElem?,Array.getElem?_eq_getElem hlt] at hv
  rw [Array.getElem?_eq_getElem hlt]
  exact congrArg some hv
 have hput:a.put (some t) (.slice none 0 0) = a:=by
  unfold Act.put
  have:a.tmps.setIfInBounds t (.slice none 0 0) = a.tmps:=by
   apply Array.ext_getElem?
   intro i
   by_cases hi:t = i
   ·subst hi;rw [hg];simp [hlt]
   ·rw [Array.getElem?_setIfInBounds_ne hi]
  simp only [this]
 have := hst.new (GS.Le.refl s) (dst := some t) (v := .slice none 0 0) (u := .slice none 0 0) (r := .own hp.length) (ow := .row T sz []) (fun d hd => by cases hd; rw [← hst.sz]; exact hlt) ⟨Nat.lt_succ_self _, by simp⟩
  ⟨[],by simp only [if_pos];exact ⟨by simp,.inl ⟨rfl,rfl⟩⟩,hT,h0,fun b hb=>by simp [vblk] at hb,fun k hk=>absurd hk (Nat.not_lt_zero k)⟩ (fun b hb=>by cases hb)
 rw [hput] at this
 exact k.run a w ⟨s,_,hw,this⟩
def pins (lost : List Nat):Nat→List Value→List (Value × AV)
 | _,[]=>[]
 | i,v :: vs=>bif lost.contains i then pins lost (i+1) vs else (v,.own i) :: pins lost (i+1) vs
theorem pins_cons (lost : List Nat) (i:Nat) (v:Value) (vs:List Value):pins lost i (v :: vs) = if i∈lost then pins lost (i+1) vs else (v,.own i) :: pins lost (i+1) vs:=by
 show (bif lost.contains i then pins lost (i+1) vs else (v,.own i) :: pins lost (i+1) vs) = _
 by_cases h:i∈lost
 ·rw [if_pos h,List.contains_iff_mem.2 h];rfl
 ·have : lost.contains i = false := by cases hb : lost.contains i with
   | true=>exact absurd (List.contains_iff_mem.1 hb) h
   | false=>rfl
  rw [if_neg h,this];rfl
theorem pins_mem {lost : List Nat}:∀ {vs:List Value} {i:Nat} {p:Value × AV},p∈pins lost i vs→∃ k,k<vs.length∧p = (vs.getD k undef,.own (i+k))
 | [],i,p,h=>by cases h
 | v :: vs,i,p,h=>by
  rw [pins_cons] at h
  have key:p∈pins lost (i+1) vs→∃ k,k<(v :: vs).length∧p = ((v :: vs).getD k undef,.own (i+k)):=fun h=>by
   obtain ⟨k,h1,h2⟩:=pins_mem h
   exact ⟨k+1,by simpa using h1,by rw [h2,show i+1+k = i+(k+1) by omega];rfl⟩
  split at h
  ·exact key h
  ·rcases List.mem_cons.1 h with rfl | h
   ·exact ⟨0,by simp,rfl⟩
   ·exact key h
theorem pins_get {lost : List Nat}:∀ {vs:List Value} {i k:Nat},k<vs.length→i+k ∉ lost→(vs.getD k undef,AV.own (i+k))∈pins lost i vs
 | [],i,k,h,_=>by simp at h
 | v :: vs,i,0,h,hl=>by
  rw [pins_cons,if_neg (by simpa using hl)]
  exact List.mem_cons_self
 | v :: vs,i,k+1,h,hl=>by
  have:=pins_get (lost:=lost) (vs:=vs) (i:=i+1) (k:=k) (by simpa using h) (by rwa [show i+1+k = i+(k+1) by omega])
  rw [show i+1+k = i+(k+1) by omega] at this
  rw [pins_cons]
  split
  ·exact this
  ·exact List.mem_cons_of_mem _ this
def mineOf (s : GS) (ρ:Nat→Value) (hp:List Ow) (b:Nat):Prop:=∃ i o,hp[i]? = some o∧OwB s (ρ i) o b
def Sep (s : GS) (ρ:Nat→Value) (hp:List Ow):Prop:=∀ i j o o',i ≠ j→hp[i]? = some o→hp[j]? = some o'→∀ b,OwB s (ρ i) o b→¬ OwB s (ρ j) o' b
structure Aft (s : GS) (ρ:Nat→Value) (hp:List Ow) (lost:List Nat) (s':GS) (ρ':Nat→Value) (hp':List Ow):Prop where
 le:GS.LeX (mineOf s ρ hp) s s'
 ok:s'.Ok
 mem:HpOk 0 ρ' s' hp'
 sep:Sep s' ρ' hp'
 own:∀ i o b,hp'[i]? = some o→OwB s' (ρ' i) o b→mineOf s ρ hp b∨s.w.heap.size≤b
 kp:∀ i,i<hp.length→i ∉ lost→ρ' i = ρ i
 len:hp.length≤hp'.length
def Con (P : Program) (f:FuncId) (args:List AV) (hp:List Ow) (lost:List Nat) (Q:AV→List Ow→Prop):Prop :=
 (∀ args w,(callFunc f args).run P w = .ok (.enter f args) w)∧∀ (s:GS) (ρ:Nat→Value) (vs:List Value),s.Ok→HpOk 0 ρ s hp→Sep s ρ hp→vs.length = args.length→(∀ (k:Nat) av,args[k]? = some av→AVr hp.length ρ s av (vs.getD k undef)) →
  Calls P f vs.toArray s.w fun e w'=>∃ v,e = .returned v∧∃ (s':GS) (ρ':Nat→Value) (r:AV) (hp':List Ow),Q r hp'∧s'.w = w'∧AVr hp'.length ρ' s' r v∧Aft s ρ hp lost s' ρ' hp'
def paramsA : Nat→List AV→List (Nat × AV)
 | _,[]=>[]
 | i,d :: ds=>(i,d) :: paramsA (i+1) ds
theorem paramsA_look : ∀ {ds:List AV} {i t:Nat} {av:AV},look (paramsA i ds) t = some av→i≤t∧ds[t - i]? = some av
 | [],i,t,av,h=>by cases h
 | d :: ds,i,t,av,h=>by
  unfold paramsA at h
  rw [look_cons] at h
  split at h
  ·rename_i e
   subst e
   cases h
   exact ⟨Nat.le_refl _,by simp⟩
  ·rename_i e
   obtain ⟨h1,h2⟩:=paramsA_look h
   refine ⟨by omega,?_⟩
   rw [show t - i = (t - (i+1))+1 by omega]
   simpa using h2
structure RetsA (P : Program) (σ:AS) (rs:Array ResultVar) (r:AV):Prop where
 run:∀ (base:Nat) (ρ:Nat→Value) (s:GS) (tmps:Array Value) (fn:Func),fn.results = rs→HpOk base ρ s σ.hp→(∀ t av,look σ.fr t = some av→AVr σ.hp.length ρ s av (tmps.getD t undef))→∃ v,(results fn tmps).run P s.w = .ok v s.w∧AVr σ.hp.length ρ s r v
theorem RetsA.d {P : Program} {σ:AS} {rs:Array ResultVar} {r:D} (h:Rets P σ rs r):RetsA P σ rs (.d r):=⟨h.run⟩
theorem RetsA.none {P : Program} {σ:AS}:RetsA P σ #[] (.d anyD):=⟨fun _ _ s tmps fn hf _ _=>⟨.tuple #[],by unfold results;rw [hf];simp,trivial⟩⟩
structure FinC (P : Program) (fn:Func) (lost:List Nat) (vs:List Value) (Q:AV→List Ow→Prop) (e:Exit) (σ:AS):Prop where
 how:e = .ret∨e = .normal
 res:∃ r hp',RetsA P σ fn.results r∧hp' = σ.hp.set vs.length .dead∧Q r hp'
 pin:σ.hp[vs.length]? = some (.pin (pins lost 0 vs))
theorem Con.introG {P : Program} {f:FuncId} {fn:Func} {c:Code} {args:List AV} {hp:List Ow} {lost:List Nat} {Q:AV→List Ow→Prop} (hf:P.funcs[f]? = some fn) (hb:fn.body = some c) (hcf:∀ args w,(callFunc f args).run P w = .ok (.enter f args) w) (hn:Nat.ble args.length fn.ntmps = true)
  (h:∀ (s0:An) (vs:List Value),vs.length = hp.length→AWp P s0 fn.ntmps c (FinC P fn lost vs Q) ⟨paramsA 0 args,hp ++ [.pin (pins lost 0 vs)]⟩):Con P f args hp lost Q:=by
 refine ⟨hcf,fun s ρ vs hok hhp hsep hl hv=>calls_of_wp hf hb ?_⟩
 have hn':args.length≤fn.ntmps:=by simpa [Nat.ble_eq] using hn
 have hpl:((List.range hp.length).map ρ).length = hp.length:=by simp
 have hlen:(hp ++ [Ow.pin (pins lost 0 ((List.range hp.length).map ρ))]).length = hp.length+1:=by simp
 have hget:∀ i o,(hp ++ [Ow.pin (pins lost 0 ((List.range hp.length).map ρ))])[i]? = some o→hp[i]? = some o∨o = Ow.pin (pins lost 0 ((List.range hp.length).map ρ)):=fun i o hi=>by
  rw [List.getElem?_append] at hi
  split at hi
  ·exact .inl hi
  ·rename_i hge
   have:i - hp.length = 0:=by
    have:=live_lt hi
    simp at this
    omega
   rw [this] at hi
   exact .inr (Option.some.inj hi).symm
 have hval:∀ k,k<hp.length→((List.range hp.length).map ρ).getD k undef = ρ k:=fun k hk=>by
  rw [List.getD_eq_getElem?_getD,List.getElem?_map,List.getElem?_range hk]
  rfl
 refine wp_mono ((h ⟨s,mineOf s ρ hp⟩ ((List.range hp.length).map ρ) hpl).run { tmps:=vs.toArray ++ Array.replicate (fn.ntmps - vs.toArray.size) undef,defers:=[] } s.w ⟨s,ρ,rfl,GS.LeX.refl _ s,hok,fun t av ht=>?_,by simp;omega,rfl,fun i o hi=>?_,fun i j o o' hij hi hj b hbi hbj=>?_,fun i o b hi hbi=>?_⟩) ?_
 ·obtain ⟨_,h2⟩:=paramsA_look ht
  rw [Nat.sub_zero] at h2
  have h3:t<args.length:=(List.getElem?_eq_some_iff.1 h2).1
  have h4:=hv t av h2
  have:(vs.toArray ++ Array.replicate (fn.ntmps - vs.toArray.size) undef).getD t undef = vs.getD t undef:=by
   rw [Array.getD_eq_getD_getElem?,Array.getElem?_append_left (by simp;omega)]
   simp
  show AVr (hp ++ [Ow.pin _]).length ρ s av ((vs.toArray ++ Array.replicate (fn.ntmps - vs.toArray.size) undef).getD t undef)
  rw [this,hlen]
  exact h4.mono (Nat.le_succ _) fun _ _=>rfl
 ·show OwR 0 (hp ++ [Ow.pin _]).length ρ s i o
  rw [hlen]
  rcases hget i o hi with h1 | rfl
  ·exact (hhp i o h1).mono (Nat.le_succ _) (fun _ _=>rfl) (live_lt h1)
  ·intro p hp'
   obtain ⟨k,h1,rfl⟩:=pins_mem hp'
   rw [hpl] at h1
   rw [Nat.zero_add]
   exact ⟨by omega,hval k h1⟩
 ·rcases hget i o hi with h1 | rfl
  ·rcases hget j o' hj with h2 | rfl
   ·exact hsep i j o o' hij h1 h2 b hbi hbj
   ·exact hbj.elim
  ·exact hbi.elim
 ·rcases hget i o hi with h1 | rfl
  ·exact .inl ⟨i,o,h1,hbi⟩
  ·exact hbi.elim
 ·intro e a w ⟨τ,⟨he,⟨r,hp',hR,hhp',hQ⟩,hpin⟩,s',ρ',hw,hst⟩
  subst hw
  subst hhp'
  rw [hpl] at hpin hQ
  obtain ⟨v,h1,h2⟩:=hR.run _ ρ' s' a.tmps fn rfl hst.hp hst.fr
  have hg:∀ i o,(τ.hp.set hp.length .dead)[i]? = some o→o = Ow.dead∨τ.hp[i]? = some o:=fun i o hi=>by
   rw [List.getElem?_set] at hi
   split at hi
   ·split at hi
    ·exact .inl (Option.some.inj hi).symm
    ·cases hi
   ·exact .inr hi
  have hfin:Aft s ρ hp lost s' ρ' (τ.hp.set hp.length .dead):=by
   refine ⟨hst.le,hst.ok,fun i o hi=>?_,fun i j o o' hij hi hj b hbi hbj=>?_,fun i o b hi hbi=>?_,fun i hi hnl=>?_,?_⟩
   ·rw [List.length_set]
    rcases hg i o hi with rfl | h3
    ·trivial
    ·exact hst.hp i o h3
   ·rcases hg i o hi with rfl | h3
    ·exact hbi.elim
    ·rcases hg j o' hj with rfl | h4
     ·exact hbj.elim
     ·exact hst.sep i j o o' hij h3 h4 b hbi hbj
   ·rcases hg i o hi with rfl | h3
    ·exact hbi.elim
    ·exact hst.own i o b h3 hbi
   ·have h3 := hst.hp _ _ hpin _ (pins_get (i := 0) (k := i) (by rw [hpl]; exact hi) (by rw [Nat.zero_add]; exact hnl))
    rw [hval i hi,Nat.zero_add] at h3
    exact h3.2.symm
   ·rw [List.length_set]
    exact Nat.le_of_lt (live_lt hpin)
  have h2':AVr (τ.hp.set hp.length .dead).length ρ' s' r v:=by rw [List.length_set];exact h2
  rcases he with rfl | rfl
  ·exact ⟨hst.df,v,h1,v,rfl,s',ρ',r,_,hQ,rfl,h2',hfin⟩
  ·exact ⟨hst.df,v,h1,v,rfl,s',ρ',r,_,hQ,rfl,h2',hfin⟩
section
variable {P : Program} {f:FuncId} {fn:Func} {c:Code} {args:List AV} {Q:AV→List Ow→Prop} (hf:P.funcs[f]? = some fn) (hb:fn.body = some c) (hcf:∀ args w,(callFunc f args).run P w = .ok (.enter f args) w) (hn:Nat.ble args.length fn.ntmps = true)
include hf hb hcf hn
theorem Con.intro1 {o0 : Ow} (h:∀ (s0:An) (v0:Value),AWp P s0 fn.ntmps c (FinC P fn [] [v0] Q) ⟨paramsA 0 args,[o0,.pin [(v0,.own 0)]]⟩):Con P f args [o0] [] Q :=
 Con.introG hf hb hcf hn fun s0 vs hv=>by
  match vs,hv with
  | [v0],_=>exact h s0 v0
theorem Con.intro2 {o0 o1:Ow} (h:∀ (s0:An) (v0 v1:Value),AWp P s0 fn.ntmps c (FinC P fn [] [v0,v1] Q) ⟨paramsA 0 args,[o0,o1,.pin [(v0,.own 0),(v1,.own 1)]]⟩):Con P f args [o0,o1] [] Q :=
 Con.introG hf hb hcf hn fun s0 vs hv=>by
  match vs,hv with
  | [v0,v1],_=>exact h s0 v0 v1
end
theorem FinC.ret {P : Program} {fn:Func} {lost:List Nat} {vs:List Value} {Q:AV→List Ow→Prop} {σ:AS} {r:AV} {hp':List Ow} (h:RetsA P σ fn.results r) (hs:setO σ.hp vs.length .dead = some hp') (hQ:Q r hp') (hp:σ.hp[vs.length]? = some (.pin (pins lost 0 vs))):FinC P fn lost vs Q .ret σ:=⟨.inl rfl,⟨r,hp',h,(setO_eq hs),hQ⟩,hp⟩
theorem FinC.normal {P : Program} {fn:Func} {lost:List Nat} {vs:List Value} {Q:AV→List Ow→Prop} {σ:AS} {r:AV} {hp':List Ow} (h:RetsA P σ fn.results r) (hs:setO σ.hp vs.length .dead = some hp') (hQ:Q r hp') (hp:σ.hp[vs.length]? = some (.pin (pins lost 0 vs))):FinC P fn lost vs Q .normal σ:=⟨.inr rfl,⟨r,hp',h,(setO_eq hs),hQ⟩,hp⟩
def AV.ren (e : Nat→Nat):AV→AV
 | .d x=>.d x
 | .ptr i off=>.ptr (e i) off
 | .own i=>.own (e i)
 | .fn f caps=>.fn f (caps.map e)
def Ow.ren (e : Nat→Nat):Ow→Ow
 | .var T cells=>.var T (cells.map (AV.ren e))
 | .pin l=>.pin (l.map fun p=>(p.1,p.2.ren e))
 | o=>o
def AV.below (m : Nat):AV→Bool
 | .d _=>true
 | .ptr i _=>Nat.blt i m
 | .own i=>Nat.blt i m
 | .fn _ caps=>caps.all (Nat.blt · m)
def Ow.below (m : Nat):Ow→Prop
 | .var _ cells=>∀ av∈cells,av.below m = true
 | .pin l=>∀ p∈l,p.2.below m = true
 | _=>True
theorem AV.below_le {hp : List Ow} {m:Nat} {av:AV} (h:av.below m = true):AVle hp m av av:=by
 cases av with
 | d x=>exact AVle.d rfl
 | ptr i off=>exact AVle.ptr h
 | own i=>exact AVle.own h
 | fn f caps=>exact AVle.fn h
theorem OwLe.pinB {hp : List Ow} {m:Nat} {l:List (Value × AV)} (h:l.all (fun p=>p.2.below m) = true):OwLe hp m (.pin l) (.pin l):=OwLe.pin fun p hp=>AV.below_le (List.all_eq_true.1 h p hp)
theorem OwLe.varB {hp : List Ow} {m T:Nat} {c:List AV} (h:c.all (AV.below m) = true):OwLe hp m (.var T c) (.var T c):=OwLe.var rfl fun k y hy=>⟨y,hy,AV.below_le (List.all_eq_true.1 h y (List.mem_of_getElem? hy))⟩
theorem OwB_ren {s : GS} {v:Value} {e:Nat→Nat} {o:Ow} {b:Nat}:OwB s v (o.ren e) b↔OwB s v o b:=by cases o <;> exact Iff.rfl
theorem AVr.un {m m':Nat} {ρ ρ':Nat→Value} {e:Nat→Nat} {s:GS} {av:AV} {v:Value} (h:AVr m ρ s (av.ren e) v) (hb:av.below m' = true) (hρ:∀ i,i<m'→ρ' i = ρ (e i)):AVr m' ρ' s av v:=by
 cases av with
 | d x=>exact h
 | ptr i off =>
  have hi:i<m':=by simpa [AV.below,Nat.blt_eq] using hb
  obtain ⟨h1,b,h2,h3⟩:=h
  exact ⟨hi,b,(hρ i hi).trans h2,h3⟩
 | own i =>
  have hi:i<m':=by simpa [AV.below,Nat.blt_eq] using hb
  exact ⟨hi,h.2.trans (hρ i hi).symm⟩
 | fn f caps =>
  have hi:∀ i∈caps,i<m':=fun i hi=>by
   have:=List.all_eq_true.1 hb i hi
   simpa [Nat.blt_eq] using this
  refine ⟨hi,?_⟩
  have h2:=h.2
  rw [List.map_map] at h2
  rw [h2]
  exact congrArg (fun l=>Value.func (Fn.func f) #[] (List.toArray l)) (List.map_congr_left fun i hm=>(hρ i (hi i hm)).symm)
theorem AVr.re {m m':Nat} {ρ ρ':Nat→Value} {e:Nat→Nat} {s:GS} {av:AV} {v:Value} (h:AVr m ρ s av v) (he:∀ i,i<m→e i<m') (hρ:∀ i,i<m→ρ' (e i) = ρ i):AVr m' ρ' s (av.ren e) v:=by
 cases av with
 | d x=>exact h
 | ptr i off =>
  obtain ⟨h1,b,h2,h3⟩:=h
  exact ⟨he i h1,b,(hρ i h1).trans h2,h3⟩
 | own i=>exact ⟨he i h.1,h.2.trans (hρ i h.1).symm⟩
 | fn f caps =>
  refine ⟨fun i hi=>?_,?_⟩
  ·obtain ⟨j,hj,rfl⟩:=List.mem_map.1 hi
   exact he j (h.1 j hj)
  ·rw [List.map_map,h.2,List.map_congr_left fun i hi=>(hρ i (h.1 i hi)).symm]
   rfl
theorem OwR.un {m m':Nat} {ρ ρ':Nat→Value} {e:Nat→Nat} {s:GS} {i:Nat} {o:Ow} (h:OwR 0 m ρ s (e i) (o.ren e)) (hb:o.below m') (hi:i<m') (hρ:∀ i,i<m'→ρ' i = ρ (e i)):OwR 0 m' ρ' s i o:=by
 cases o with
 | dead=>trivial
 | var T cells =>
  obtain ⟨b,cs,h1,h2,h3,h4,h5,h6,h7⟩:=h
  refine ⟨b,cs,(hρ i hi).trans h1,h2,h3,by simpa using h4,h5,h6,fun k av hk=>?_⟩
  obtain ⟨u,h8,h9,h10⟩:=h7 k (av.ren e) (by rw [List.getElem?_map,hk];rfl)
  exact ⟨u,h8,h9,h10.un (hb av (List.mem_of_getElem? hk)) hρ⟩
 | row T sz rows =>
  replace h:OwR 0 m ρ s (e i) (.row T sz rows):=h
  unfold OwR at h ⊢
  rw [hρ i hi]
  exact h
 | obj O =>
  show O.rel s (ρ' i)
  rw [hρ i hi]
  exact h
 | pin l=>exact fun p hp=>(h (p.1,p.2.ren e) (List.mem_map_of_mem (f:=fun p:Value × AV=>(p.1,p.2.ren e)) hp)).un (hb p hp) hρ
theorem OwR.re {m m':Nat} {ρ ρ':Nat→Value} {e:Nat→Nat} {s:GS} {i:Nat} {o:Ow} (h:OwR 0 m ρ s i o) (hi:i<m) (he:∀ i,i<m→e i<m') (hρ:∀ i,i<m→ρ' (e i) = ρ i):OwR 0 m' ρ' s (e i) (o.ren e):=by
 cases o with
 | dead=>trivial
 | var T cells =>
  obtain ⟨b,cs,h1,h2,h3,h4,h5,h6,h7⟩:=h
  refine ⟨b,cs,(hρ i hi).trans h1,h2,h3,by simpa using h4,h5,h6,fun k av hk=>?_⟩
  rw [List.getElem?_map] at hk
  cases hk0:cells[k]? with
  | none=>rw [hk0] at hk;cases hk
  | some av0 =>
   rw [hk0] at hk
   cases hk
   obtain ⟨u,h8,h9,h10⟩:=h7 k av0 hk0
   exact ⟨u,h8,h9,h10.re he hρ⟩
 | row T sz rows =>
  show OwR 0 m' ρ' s (e i) (.row T sz rows)
  unfold OwR at h ⊢
  rw [hρ i hi]
  exact h
 | obj O =>
  show O.rel s (ρ' (e i))
  rw [hρ i hi]
  exact h
 | pin l =>
  intro p hp
  obtain ⟨q,hq,rfl⟩:=List.mem_map.1 hp
  exact (h q hq).re he hρ
def eOut (sel : List Nat) (m k:Nat):Nat:=bif Nat.blt k sel.length then sel.getD k 0 else m+(k - sel.length)
theorem eOut_lt {sel : List Nat} {m k:Nat} (h:k<sel.length):eOut sel m k = sel.getD k 0:=by
 have:Nat.blt k sel.length = true:=by simpa [Nat.blt_eq] using h
 rw [eOut,this];rfl
theorem eOut_ge {sel : List Nat} {m k:Nat} (h:sel.length≤k):eOut sel m k = m+(k - sel.length):=by
 have:Nat.blt k sel.length = false:=by cases hb:Nat.blt k sel.length <;> simp_all [Nat.blt_eq];omega
 rw [eOut,this];rfl
def SelR (e : Nat→Nat) (H:List Ow) (m:Nat):List Nat→List Ow→Prop
 | [],[]=>True
 | j :: js,o :: os=>H[j]? = some (o.ren e)∧o.below m∧SelR e H m js os
 | _,_=>False
theorem SelR.get {e : Nat→Nat} {H:List Ow} {m:Nat}:∀ {js:List Nat} {os:List Ow},SelR e H m js os→js.length = os.length∧∀ (k:Nat) o,os[k]? = some o→H[js.getD k 0]? = some (o.ren e)∧o.below m
 | [],[],_=>⟨rfl,fun k o h=>by cases h⟩
 | [],_ :: _,h=>h.elim
 | _ :: _,[],h=>h.elim
 | j :: js,o :: os,⟨h1,h2,h3⟩=>by
  obtain ⟨h4,h5⟩:=SelR.get h3
  refine ⟨by simp [h4],fun k x hx=>?_⟩
  cases k with
  | zero=>cases hx;exact ⟨h1,h2⟩
  | succ k=>exact h5 k x (by simpa using hx)
def SetR (e : Nat→Nat):List Ow→List Nat→List Ow→List Ow→Prop
 | H,[],_,H'=>H = H'
 | H,j :: js,o :: os,H'=>SetR e (H.set j (o.ren e)) js os H'
 | _,_ :: _,[],_=>False
theorem SetR.get {e : Nat→Nat}:∀ {js:List Nat} {H os H':List Ow},SetR e H js os H'→H'.length = H.length∧js.length≤os.length∧∀ (i:Nat) x,H'[i]? = some x→(∃ k o,k<js.length∧js.getD k 0 = i∧os[k]? = some o∧x = o.ren e)∨(i ∉ js∧H[i]? = some x)
 | [],H,os,H',h=>by
  have h:H = H':=by cases os <;> exact h
  subst h
  exact ⟨rfl,Nat.zero_le _,fun i x hx=>.inr ⟨by simp,hx⟩⟩
 | _ :: _,_,[],_,h=>h.elim
 | j :: js,H,o :: os,H',h=>by
  replace h:SetR e (H.set j (o.ren e)) js os H':=h
  obtain ⟨h1,h2,h3⟩:=SetR.get h
  refine ⟨by simpa using h1,by simp;omega,fun i x hx=>?_⟩
  rcases h3 i x hx with ⟨k,o',h4,h5,h6,h7⟩ | ⟨h4,h5⟩
  ·exact .inl ⟨k+1,o',by simp;omega,by simpa using h5,by simpa using h6,h7⟩
  ·rw [List.getElem?_set] at h5
   split at h5
   ·rename_i e1
    subst e1
    split at h5
    ·exact .inl ⟨0,o,by simp,rfl,rfl,(Option.some.inj h5).symm⟩
    ·cases h5
   ·rename_i e1
    exact .inr ⟨by simp only [List.mem_cons,not_or];exact ⟨fun e=>e1 e.symm,h4⟩,h5⟩
theorem nodup_inj {l : List Nat} (h:l.Nodup) {i j:Nat} (hi:i<l.length) (hj:j<l.length) (e:l[i] = l[j]):i = j:=by
 rcases Nat.lt_trichotomy i j with h1 | h1 | h1
 ·exact absurd e (List.pairwise_iff_getElem.1 h i j hi hj h1)
 ·exact h1
 ·exact absurd e.symm (List.pairwise_iff_getElem.1 h j i hj hi h1)
def AV.avoid (lost : List Nat):AV→Bool
 | .d _=>true
 | .ptr i _ => !lost.contains i
 | .own i => !lost.contains i
 | .fn _ caps=>caps.all fun i => !lost.contains i
def Ow.avoid (lost : List Nat):Ow→Prop
 | .var _ cells=>∀ av∈cells,av.avoid lost = true
 | .pin l=>∀ p∈l,p.2.avoid lost = true
 | _=>True
theorem not_cont {lost : List Nat} {i:Nat} (h:(!lost.contains i) = true):i ∉ lost:=fun hm=>by
 rw [List.contains_iff_mem.2 hm] at h
 cases h
theorem AVr.kept {m m':Nat} {ρ ρ':Nat→Value} {s:GS} {av:AV} {v:Value} {lost:List Nat} (h:AVr m ρ s av v) (hm:m≤m') (ha:av.avoid lost = true) (hρ:∀ i,i<m→i ∉ lost→ρ' i = ρ i):AVr m' ρ' s av v:=by
 cases av with
 | d x=>exact h
 | ptr i off =>
  obtain ⟨h1,b,h2,h3⟩:=h
  exact ⟨Nat.lt_of_lt_of_le h1 hm,b,(hρ i h1 (not_cont ha)).trans h2,h3⟩
 | own i=>exact ⟨Nat.lt_of_lt_of_le h.1 hm,h.2.trans (hρ i h.1 (not_cont ha)).symm⟩
 | fn f caps=>exact ⟨fun i hi=>Nat.lt_of_lt_of_le (h.1 i hi) hm,by rw [h.2,List.map_congr_left fun i hi=>(hρ i (h.1 i hi) (not_cont (List.all_eq_true.1 ha i hi))).symm]⟩
theorem OwR.kept {m m':Nat} {ρ ρ':Nat→Value} {s:GS} {i:Nat} {o:Ow} {lost:List Nat} (h:OwR 0 m ρ s i o) (hm:m≤m') (ha:o.avoid lost) (hi:i<m) (hl:i ∉ lost) (hρ:∀ i,i<m→i ∉ lost→ρ' i = ρ i):OwR 0 m' ρ' s i o:=by
 cases o with
 | dead=>trivial
 | var T cells =>
  obtain ⟨b,cs,h1,h2,h3,h4,h5,h6,h7⟩:=h
  refine ⟨b,cs,(hρ i hi hl).trans h1,h2,h3,h4,h5,h6,fun k av hk=>?_⟩
  obtain ⟨u,h8,h9,h10⟩:=h7 k av hk
  exact ⟨u,h8,h9,h10.kept hm (ha av (List.mem_of_getElem? hk)) hρ⟩
 | row T sz rows =>
  unfold OwR at h ⊢
  rw [hρ i hi hl]
  exact h
 | obj O =>
  unfold OwR at h ⊢
  rw [hρ i hi hl]
  exact h
 | pin l=>exact fun p hp=>(h p hp).kept hm (ha p hp) hρ
theorem StI.con {s0 : An} {n:Nat} {σ:AS} {a:Act} {s s':GS} {ρ ρ':Nat→Value} {sel lost:List Nat} {hpS hp' H1:List Ow} (hav:(∀ p∈σ.fr,p.2.avoid (lost.map (eOut sel σ.hp.length)) = true)∧∀ i o,i ∉ sel→σ.hp[i]? = some o→o.avoid (lost.map (eOut sel σ.hp.length))) (hll:∀ k∈lost,k<sel.length) (h:StI s0 n σ a s ρ) (hnd:sel.Nodup) (hsel:SelR (eOut sel σ.hp.length) σ.hp hpS.length sel hpS)
  (haft:Aft s (fun k=>ρ (eOut sel σ.hp.length k)) hpS lost s' ρ' hp') (hset:SetR (eOut sel σ.hp.length) σ.hp sel hp' H1) :
  ∃ ρ'',StI s0 n ⟨σ.fr,H1 ++ (hp'.drop sel.length).map (Ow.ren (eOut sel σ.hp.length))⟩ a s' ρ''∧∀ av v,AVr hp'.length ρ' s' av v→AVr (H1 ++ (hp'.drop sel.length).map (Ow.ren (eOut sel σ.hp.length))).length ρ'' s' (av.ren (eOut sel σ.hp.length)) v:=by
 obtain ⟨hl1,hl2⟩:=hsel.get
 obtain ⟨hl3,hl4,hl5⟩:=hset.get
 have hlen:(H1 ++ (hp'.drop sel.length).map (Ow.ren (eOut sel σ.hp.length))).length = σ.hp.length+(hp'.length - sel.length):=by simp [hl3]
 have hsl:∀ k,k<sel.length→sel.getD k 0<σ.hp.length:=fun k hk=>by
  have hk':k<hpS.length:=by omega
  exact live_lt (hl2 k _ (List.getElem?_eq_getElem hk')).1
 have hmem:∀ k,k<sel.length→sel.getD k 0∈sel:=fun k hk=>by
  rw [List.getD_eq_getElem?_getD,List.getElem?_eq_getElem hk]
  exact List.getElem_mem hk
 have hinj:∀ j k,j<sel.length→k<sel.length→sel.getD j 0 = sel.getD k 0→j = k:=fun j k hj hk he=>by
  rw [List.getD_eq_getElem?_getD,List.getElem?_eq_getElem hj,List.getD_eq_getElem?_getD,List.getElem?_eq_getElem hk] at he
  exact nodup_inj hnd hj hk he
 have hpos:∀ i,∃ k,(∃ k',k'<sel.length∧sel.getD k' 0 = i)→k<sel.length∧sel.getD k 0 = i:=fun i=>by
  by_cases hx:∃ k',k'<sel.length∧sel.getD k' 0 = i
  ·obtain ⟨k,hk⟩:=hx
   exact ⟨k,fun _=>hk⟩
  ·exact ⟨0,fun h=>absurd h hx⟩
 obtain ⟨pos,hpos⟩:∃ pos:Nat→Nat,∀ i,(∃ k',k'<sel.length∧sel.getD k' 0 = i)→pos i<sel.length∧sel.getD (pos i) 0 = i:=⟨fun i=>(hpos i).choose,fun i=>(hpos i).choose_spec⟩
 let ρ2:Nat→Value:=fun i=>if i<σ.hp.length then (if i∈sel then ρ' (pos i) else ρ i) else ρ' (i - σ.hp.length+sel.length)
 have hmem':∀ i,i∈sel→∃ k',k'<sel.length∧sel.getD k' 0 = i:=fun i hi=>by
  obtain ⟨k,hk⟩:=List.getElem?_of_mem hi
  have:=(List.getElem?_eq_some_iff.1 hk).1
  exact ⟨k,this,by rw [List.getD_eq_getElem?_getD,hk];rfl⟩
 have hρ2:∀ i,i<hp'.length→ρ2 (eOut sel σ.hp.length i) = ρ' i:=fun i hi=>by
  rcases Nat.lt_or_ge i sel.length with h1 | h1
  ·have h3:=hpos _ ⟨i,h1,rfl⟩
   rw [eOut_lt h1]
   show (if sel.getD i 0<σ.hp.length then (if sel.getD i 0∈sel then ρ' (pos (sel.getD i 0)) else _) else _) = _
   rw [if_pos (hsl i h1),if_pos (hmem i h1),hinj _ _ h3.1 h1 h3.2]
  ·rw [eOut_ge h1]
   show (if _ then _ else ρ' (σ.hp.length+(i - sel.length) - σ.hp.length+sel.length)) = _
   rw [if_neg (by omega)]
   congr 1
   omega
 have hρ3:∀ i,i<σ.hp.length→i ∉ lost.map (eOut sel σ.hp.length)→ρ2 i = ρ i:=fun i hi hnl=>by
  show (if i<σ.hp.length then (if i∈sel then ρ' (pos i) else ρ i) else _) = _
  rw [if_pos hi]
  by_cases hx:i∈sel
  ·rw [if_pos hx]
   obtain ⟨h1,h2⟩:=hpos i (hmem' i hx)
   have h3:pos i ∉ lost:=fun hm=>hnl (List.mem_map.2 ⟨pos i,hm,by rw [eOut_lt h1,h2]⟩)
   rw [haft.kp (pos i) (by omega) h3,eOut_lt h1,h2]
  ·rw [if_neg hx]
 have hlost:∀ i,i ∉ sel→i ∉ lost.map (eOut sel σ.hp.length):=fun i hi hm=>by
  obtain ⟨k,h1,h2⟩:=List.mem_map.1 hm
  have h3:=hll k h1
  rw [eOut_lt h3] at h2
  exact hi (by rw [← h2];exact hmem k h3)
 have hel:∀ i,i<hp'.length→eOut sel σ.hp.length i<σ.hp.length+(hp'.length - sel.length):=fun i hi=>by
  rcases Nat.lt_or_ge i sel.length with h1 | h1
  ·rw [eOut_lt h1]
   have:=hsl i h1
   omega
  ·rw [eOut_ge h1]
   omega
 have hei:∀ i j,i<hp'.length→j<hp'.length→eOut sel σ.hp.length i = eOut sel σ.hp.length j→i = j:=fun i j hi hj he=>by
  rcases Nat.lt_or_ge i sel.length with h1 | h1 <;> rcases Nat.lt_or_ge j sel.length with h2 | h2
  ·rw [eOut_lt h1,eOut_lt h2] at he
   exact hinj i j h1 h2 he
  ·rw [eOut_lt h1,eOut_ge h2] at he
   have:=hsl i h1
   omega
  ·rw [eOut_ge h1,eOut_lt h2] at he
   have:=hsl j h2
   omega
  ·rw [eOut_ge h1,eOut_ge h2] at he
   omega
 have hget:∀ i x,(H1 ++ (hp'.drop sel.length).map (Ow.ren (eOut sel σ.hp.length)))[i]? = some x→(∃ k o,hp'[k]? = some o∧i = eOut sel σ.hp.length k∧x = o.ren (eOut sel σ.hp.length))∨(i<σ.hp.length∧i ∉ sel∧σ.hp[i]? = some x):=fun i x hx=>by
  rw [List.getElem?_append] at hx
  split at hx
  ·rename_i hlt
   rcases hl5 i x hx with ⟨k,o,h1,h2,h3,h4⟩ | ⟨h1,h2⟩
   ·exact .inl ⟨k,o,h3,by rw [eOut_lt h1];exact h2.symm,h4⟩
   ·exact .inr ⟨by omega,h1,h2⟩
  ·rename_i hge
   rw [List.getElem?_map,List.getElem?_drop] at hx
   cases hk:hp'[sel.length+(i - H1.length)]? with
   | none=>rw [hk] at hx;cases hx
   | some o =>
    rw [hk] at hx
    exact .inl ⟨_,o,hk,by rw [eOut_ge (by omega)];omega,(Option.some.inj hx).symm⟩
 have hmine:∀ b,mineOf s (fun k=>ρ (eOut sel σ.hp.length k)) hpS b→∃ k o,k<sel.length∧hpS[k]? = some o∧σ.hp[sel.getD k 0]? = some (o.ren (eOut sel σ.hp.length))∧OwB s (ρ (sel.getD k 0)) (o.ren (eOut sel σ.hp.length)) b:=fun b ⟨k,o,h1,h2⟩=>by
  have hk:k<sel.length:=by have:=live_lt h1;omega
  replace h2:OwB s (ρ (eOut sel σ.hp.length k)) o b:=h2
  rw [eOut_lt hk] at h2
  exact ⟨k,o,hk,h1,(hl2 k o h1).1,OwB_ren.2 h2⟩
 have hfar:∀ i x,i ∉ sel→σ.hp[i]? = some x→∀ b,OwB s (ρ i) x b→¬ mineOf s (fun k=>ρ (eOut sel σ.hp.length k)) hpS b:=fun i x hi hx b hb hm=>by
  obtain ⟨k,o,h1,h2,h3,h4⟩:=hmine b hm
  exact h.sep i _ x _ (fun e=>hi (by rw [e];exact hmem k h1)) hx h3 b hb h4
 have hsame:∀ i x,i ∉ sel→σ.hp[i]? = some x→∀ b,OwB s (ρ i) x b→s'.w.heap[b]? = s.w.heap[b]? ∧ ∀ k,s'.S b k↔s.S b k:=fun i x hi hx b hb=>by
  have h1:=hfar i x hi hx b hb
  have h2:=(h.hp i x hx).blk_lt0 hb
  exact ⟨haft.le.block b h2 h1,fun k=>⟨haft.le.old b k h2 h1,haft.le.chg.up b k⟩⟩
 have hback:∀ i x,i<σ.hp.length→i ∉ sel→σ.hp[i]? = some x→∀ b,OwB s' (ρ2 i) x b→OwB s (ρ i) x b:=fun i x hlt hi hx b hb=>OwB.keep (h.hp i x hx) haft.le.chg (hsame i x hi hx) (by rw [← hρ3 i hlt (hlost i hi)];exact hb)
 have hown:∀ k o b,hp'[k]? = some o→OwB s' (ρ2 (eOut sel σ.hp.length k)) (o.ren (eOut sel σ.hp.length)) b→OwB s' (ρ' k) o b:=fun k o b hk hb=>by
  rw [hρ2 k (live_lt hk)] at hb
  exact OwB_ren.1 hb
 have hmx:∀ b,mineOf s (fun k=>ρ (eOut sel σ.hp.length k)) hpS b→s0.mine b∨s0.g.w.heap.size≤b:=fun b hm=>by
  obtain ⟨k,o,h1,h2,h3,h4⟩:=hmine b hm
  exact h.own _ _ b h3 h4
 refine ⟨ρ2,⟨?_,haft.ok,fun t av ht=>?_,h.sz,h.df,fun i x hx=>?_,fun i j x y hij hx hy b hbx hby=>?_,fun i x b hx hb=>?_⟩,fun av v hv=>?_⟩
 ·refine ⟨haft.le.os.trans h.le.os,haft.le.tape.trans h.le.tape,haft.le.output.trans h.le.output,fun k hk hm=>?_,h.le.chg.trans haft.le.chg,fun b k hb hm hs=>?_,fun b hb=>(haft.le.tag b (Nat.lt_of_lt_of_le hb h.le.size)).trans (h.le.tag b hb),fun _=>haft.ok⟩
  ·have hn : ¬ mineOf s (fun k => ρ (eOut sel σ.hp.length k)) hpS k := fun hx => (hmx k hx).elim hm fun h' => absurd hk (by omega)
   exact (haft.le.block k (Nat.lt_of_lt_of_le hk h.le.size) hn).trans (h.le.block k hk hm)
  ·have hn : ¬ mineOf s (fun k => ρ (eOut sel σ.hp.length k)) hpS b := fun hx => (hmx b hx).elim hm fun h' => absurd hb (by omega)
   exact h.le.old b k hb hm (haft.le.old b k (Nat.lt_of_lt_of_le hb h.le.size) hn hs)
 ·show AVr (H1 ++ _).length ρ2 s' av _
  rw [hlen]
  exact ((h.fr t av ht).chg haft.le.chg).kept (by omega) (hav.1 _ (look_mem ht)) hρ3
 ·show OwR 0 (H1 ++ _).length ρ2 s' i x
  rw [hlen]
  rcases hget i x hx with ⟨k,o,h1,rfl,rfl⟩ | ⟨h1,h2,h3⟩
  ·exact (haft.mem k o h1).re (live_lt h1) hel hρ2
  ·exact ((h.hp i x h3).keep haft.le.chg (hsame i x h2 h3)).kept (by omega) (hav.2 i x h2 h3) h1 (hlost i h2) hρ3
 ·rcases hget i x hx with ⟨k,o,h1,rfl,rfl⟩ | ⟨h1,h2,h3⟩ <;> rcases hget j y hy with ⟨k',o',h4,rfl,rfl⟩ | ⟨h4,h5,h6⟩
  ·exact haft.sep k k' o o' (fun e=>hij (by rw [e])) h1 h4 b (hown k o b h1 hbx) (hown k' o' b h4 hby)
  ·have hb1:=hback j y h4 h5 h6 b hby
   rcases haft.own k o b h1 (hown k o b h1 hbx) with h7 | h7
   ·exact hfar j y h5 h6 b hb1 h7
   ·have:=(h.hp j y h6).blk_lt0 hb1
    omega
  ·have hb1:=hback i x h1 h2 h3 b hbx
   rcases haft.own k' o' b h4 (hown k' o' b h4 hby) with h7 | h7
   ·exact hfar i x h2 h3 b hb1 h7
   ·have:=(h.hp i x h3).blk_lt0 hb1
    omega
  ·exact h.sep i j x y hij h3 h6 b (hback i x h1 h2 h3 b hbx) (hback j y h4 h5 h6 b hby)
 ·rcases hget i x hx with ⟨k,o,h1,rfl,rfl⟩ | ⟨h1,h2,h3⟩
  ·rcases haft.own k o b h1 (hown k o b h1 hb) with h7 | h7
   ·exact hmx b h7
   ·exact .inr (Nat.le_trans h.le.size h7)
  ·exact h.own i x b h3 (hback i x h1 h2 h3 b hb)
 ·rw [hlen]
  exact hv.re hel hρ2
def ArgC (hp : List Ow) (e:Nat→Nat) (m:Nat) (y a:AV):Prop:=(∃ d d',a = .d d∧asD hp y = some d'∧D.le d' d)∨(y = a.ren e∧a.below m = true)
def ArgsC (hp : List Ow) (e:Nat→Nat) (m:Nat) (arg:Operand→AV):List Operand→List AV→Prop
 | [],[]=>True
 | x :: l,a :: us=>ArgC hp e m (arg x) a∧ArgsC hp e m arg l us
 | _,_=>False
theorem ArgsC.get {hp : List Ow} {e:Nat→Nat} {m:Nat} {arg:Operand→AV}:∀ {l:List Operand} {us:List AV},ArgsC hp e m arg l us→l.length = us.length∧∀ (k:Nat) a,us[k]? = some a→∃ x,l[k]? = some x∧ArgC hp e m (arg x) a
 | [],[],_=>⟨rfl,fun k o h=>by cases h⟩
 | [],_ :: _,h=>h.elim
 | _ :: _,[],h=>h.elim
 | x :: l,a :: us,⟨h1,h2⟩=>by
  obtain ⟨h4,h5⟩:=ArgsC.get h2
  refine ⟨by simp [h4],fun k y hy=>?_⟩
  cases k with
  | zero=>cases hy;exact ⟨x,rfl,h1⟩
  | succ k=>simpa using h5 k y (by simpa using hy)
theorem ArgsC.nil {hp : List Ow} {e:Nat→Nat} {m:Nat} {arg:Operand→AV}:ArgsC hp e m arg [] []:=trivial
theorem ArgsC.d {hp : List Ow} {e:Nat→Nat} {m:Nat} {arg:Operand→AV} {x:Operand} {l:List Operand} {us:List AV} {d d':D} (h:asD hp (arg x) = some d') (hl:D.le d' d) (hr:ArgsC hp e m arg l us):ArgsC hp e m arg (x :: l) (.d d :: us):=⟨.inl ⟨d,d',rfl,h,hl⟩,hr⟩
theorem ArgsC.av {hp : List Ow} {e:Nat→Nat} {m:Nat} {arg:Operand→AV} {x:Operand} {l:List Operand} {us:List AV} {a:AV} (h:arg x = a.ren e) (hb:a.below m = true) (hr:ArgsC hp e m arg l us):ArgsC hp e m arg (x :: l) (a :: us):=⟨.inr ⟨h,hb⟩,hr⟩
theorem SelR.nil {e : Nat→Nat} {H:List Ow} {m:Nat}:SelR e H m [] []:=trivial
theorem SelR.var {e : Nat→Nat} {H:List Ow} {m j:Nat} {js:List Nat} {os:List Ow} {T:TypeId} {ds:List D} (h:H[j]? = some (.var T (ds.map .d))) (hr:SelR e H m js os):SelR e H m (j :: js) (.var T (ds.map .d) :: os) :=
 ⟨by rw [h];simp only [Ow.ren,List.map_map];congr,fun av hav=>by obtain ⟨d,_,rfl⟩:=List.mem_map.1 hav;rfl,hr⟩
theorem SelR.obj {e : Nat→Nat} {H:List Ow} {m j:Nat} {js:List Nat} {os:List Ow} {O:OD} (h:H[j]? = some (.obj O)) (hr:SelR e H m js os):SelR e H m (j :: js) (.obj O :: os):=⟨h,trivial,hr⟩
theorem SelR.row {e : Nat→Nat} {H:List Ow} {m j T sz:Nat} {rows:List (List D)} {js:List Nat} {os:List Ow} (h:H[j]? = some (.row T sz rows)) (hr:SelR e H m js os):SelR e H m (j :: js) (.row T sz rows :: os):=⟨h,trivial,hr⟩
theorem SelR.varA {e : Nat→Nat} {H:List Ow} {m j:Nat} {js:List Nat} {os:List Ow} {T:TypeId} {cells cells':List AV} (h:H[j]? = some (.var T cells')) (h2:cells' = cells.map (AV.ren e)) (hb:cells.all (AV.below m) = true) (hr:SelR e H m js os):SelR e H m (j :: js) (.var T cells :: os):=⟨by rw [h,h2];rfl,List.all_eq_true.1 hb,hr⟩
def OwRen (e : Nat→Nat) (o o':Ow):Prop:=o' = o.ren e
theorem OwRen.dead {e : Nat→Nat}:OwRen e .dead .dead:=rfl
theorem OwRen.varD {e : Nat→Nat} {T:TypeId} {ds:List D}:OwRen e (.var T (ds.map .d)) (.var T (ds.map .d)):=by simp only [OwRen,Ow.ren,List.map_map];congr
theorem OwRen.obj {e : Nat→Nat} {O:OD}:OwRen e (.obj O) (.obj O):=rfl
theorem OwRen.row {e : Nat→Nat} {T sz:Nat} {rows:List (List D)}:OwRen e (.row T sz rows) (.row T sz rows):=rfl
def renO (e : Nat→Nat):List AV→Option (List AV)
 | []=>some []
 | .d x :: l=>match renO e l with | some r=>some (.d x :: r) | none=>none
 | .ptr i off :: l=>match renO e l with | some r=>some (.ptr (e i) off :: r) | none=>none
 | .own i :: l=>match renO e l with | some r=>some (.own (e i) :: r) | none=>none
 | .fn f caps :: l=>match renO e l with | some r=>some (.fn f (caps.map e) :: r) | none=>none
theorem renO_eq {e : Nat→Nat}:∀ {l r:List AV},renO e l = some r→r = l.map (AV.ren e)
 | [],r,h=>by cases h;rfl
 | av :: l,r,h=>by
  have key:∃ r',renO e l = some r'∧r = av.ren e :: r':=by
   cases av <;> (unfold renO at h;split at h <;> first | (cases h;done) | (rename_i r' h';cases h;exact ⟨r',h',rfl⟩))
  obtain ⟨r',h1,rfl⟩:=key
  rw [renO_eq h1]
  rfl
theorem OwRen.varA {e : Nat→Nat} {T:TypeId} {c c':List AV} (h:renO e c = some c'):OwRen e (.var T c) (.var T c'):=by rw [renO_eq h];rfl
theorem SetR.nil {e : Nat→Nat} {H os:List Ow}:SetR e H [] os H:=by cases os <;> rfl
theorem SetR.cons {e : Nat→Nat} {H H1 os H':List Ow} {o o':Ow} {j:Nat} {js:List Nat} (h:OwRen e o o') (hs:setO H j o' = some H1) (hr:SetR e H1 js os H'):SetR e H (j :: js) (o :: os) H':=by
 rw [setO_eq hs,h] at hr
 exact hr
def AppR (e : Nat→Nat) (H os H':List Ow):Prop:=H' = H ++ os.map (Ow.ren e)
theorem AppR.nil {e : Nat→Nat} {H:List Ow}:AppR e H [] H:=by simp [AppR]
theorem AppR.cons {e : Nat→Nat} {H H1 os H':List Ow} {o o':Ow} (h:OwRen e o o') (hs:snocO H o' = some H1) (hr:AppR e H1 os H'):AppR e H (o :: os) H':=by
 rw [AppR,hr,snocO_eq hs,h]
 simp
def dropL : Nat→List Ow→List Ow
 | 0,l=>l
 | n+1,_ :: l=>dropL n l
 | _+1,[]=>[]
theorem dropL_eq : ∀ (n:Nat) (l:List Ow),dropL n l = l.drop n
 | 0,l=>rfl
 | n+1,_ :: l=>dropL_eq n l
 | _+1,[]=>rfl
def AVRen (e : Nat→Nat) (a a':AV):Prop:=a' = a.ren e
theorem AVRen.d {e : Nat→Nat} {x:D}:AVRen e (.d x) (.d x):=rfl
theorem AVRen.ptr {e : Nat→Nat} {i j off:Nat} (h:e i = j):AVRen e (.ptr i off) (.ptr j off):=by subst h;rfl
theorem AVRen.own {e : Nat→Nat} {i j:Nat} (h:e i = j):AVRen e (.own i) (.own j):=by subst h;rfl
theorem AVRen.fn {e : Nat→Nat} {f:FuncId} {c c':List Nat} (h:c.map e = c'):AVRen e (.fn f c) (.fn f c'):=by subst h;rfl
def CalleeC (e : Nat→Nat) (m:Nat) (y:AV) (fid:FuncId) (caps:List Nat):Prop:=(y = .d (ex (.func (.func fid) #[] #[]))∧caps = [])∨(y = .fn fid (caps.map e)∧caps.all (Nat.blt · m) = true)
def CapsOk (hpS : List Ow):List Nat→Prop
 | []=>True
 | i :: l=>(∃ T cells,hpS[i]? = some (.var T cells))∧CapsOk hpS l
theorem CapsOk.get {hpS : List Ow}:∀ {l:List Nat},CapsOk hpS l→∀ i∈l,∃ T cells,hpS[i]? = some (.var T cells)
 | [],_,i,hi=>by cases hi
 | j :: l,⟨h1,h2⟩,i,hi=>by
  rcases List.mem_cons.1 hi with rfl | hi
  ·exact h1
  ·exact CapsOk.get h2 i hi
def AvoidR (sel lost:List Nat):Nat→List Ow→Prop
 | _,[]=>True
 | i,o :: l=>(i∈sel∨o.avoid lost)∧AvoidR sel lost (i+1) l
theorem AvoidR.get {sel lost:List Nat}:∀ {l:List Ow} {i:Nat},AvoidR sel lost i l→∀ k o,i+k ∉ sel→l[k]? = some o→o.avoid lost
 | [],_,_,k,o,_,h=>by cases h
 | x :: l,i,⟨h1,h2⟩,0,o,hn,h=>by
  cases h
  exact h1.resolve_left hn
 | x :: l,i,⟨h1,h2⟩,k+1,o,hn,h=>AvoidR.get h2 k o (by rwa [show i+1+k = i+(k+1) by omega]) (by simpa using h)
section
variable {sel lost : List Nat} {i:Nat} {l:List Ow}
theorem AvoidR.nil : AvoidR sel lost i []:=trivial
theorem AvoidR.give {o : Ow} (h:sel.contains i = true) (hr:AvoidR sel lost (i+1) l):AvoidR sel lost i (o :: l):=⟨.inl (List.contains_iff_mem.1 h),hr⟩
theorem AvoidR.dead (hr : AvoidR sel lost (i+1) l):AvoidR sel lost i (.dead :: l):=⟨.inr trivial,hr⟩
theorem AvoidR.row {T sz:Nat} {r:List (List D)} (hr:AvoidR sel lost (i+1) l):AvoidR sel lost i (.row T sz r :: l):=⟨.inr trivial,hr⟩
theorem AvoidR.obj {O : OD} (hr:AvoidR sel lost (i+1) l):AvoidR sel lost i (.obj O :: l):=⟨.inr trivial,hr⟩
theorem AvoidR.varD {T : TypeId} {ds:List D} (hr:AvoidR sel lost (i+1) l):AvoidR sel lost i (.var T (ds.map .d) :: l):=⟨.inr fun av hav=>by obtain ⟨d,_,rfl⟩:=List.mem_map.1 hav;rfl,hr⟩
theorem AvoidR.varA {T : TypeId} {c:List AV} (h:c.all (AV.avoid lost) = true) (hr:AvoidR sel lost (i+1) l):AvoidR sel lost i (.var T c :: l):=⟨.inr (List.all_eq_true.1 h),hr⟩
theorem AvoidR.pin {c : List (Value × AV)} (h:c.all (fun p=>p.2.avoid lost) = true) (hr:AvoidR sel lost (i+1) l):AvoidR sel lost i (.pin c :: l):=⟨.inr (List.all_eq_true.1 h),hr⟩
end
def LostOk (sel lost:List Nat) (m:Nat) (fr:List (Nat × AV)) (hp:List Ow):Prop:=lost = []∨(lost.all (Nat.blt · sel.length) = true∧fr.all (fun p=>p.2.avoid (lost.map (eOut sel m))) = true∧AvoidR sel (lost.map (eOut sel m)) 0 hp)
theorem AV.avoid_nil (av : AV):av.avoid [] = true:=by
 cases av with
 | fn f caps=>exact List.all_eq_true.2 fun i _=>rfl
 | _=>rfl
theorem Ow.avoid_nil (o : Ow):o.avoid []:=by
 cases o with
 | var T c=>exact fun av _=>av.avoid_nil
 | pin l=>exact fun p _=>p.2.avoid_nil
 | _=>trivial
theorem LostOk.get {sel lost:List Nat} {m:Nat} {fr:List (Nat × AV)} {hp:List Ow} (h:LostOk sel lost m fr hp):((∀ p∈fr,p.2.avoid (lost.map (eOut sel m)) = true)∧∀ i o,i ∉ sel→hp[i]? = some o→o.avoid (lost.map (eOut sel m)))∧∀ k∈lost,k<sel.length:=by
 rcases h with rfl | ⟨h1,h2,h3⟩
 ·exact ⟨⟨fun p _=>p.2.avoid_nil,fun i o _ _=>o.avoid_nil⟩,fun k hk=>by cases hk⟩
 ·exact ⟨⟨List.all_eq_true.1 h2,fun i o hi ho=>h3.get i o (by rwa [Nat.zero_add]) ho⟩,fun k hk=>by simpa [Nat.blt_eq] using List.all_eq_true.1 h1 k hk⟩
section
variable {P : Program} {s0:An} {n:Nat} {ops:Array Oper} {Q:Exit→AS→Prop} {rest:List Oper} {fr:List (Nat × AV)} {hp:List Ow}
theorem con_wp {o : Oper} {f:Operand} {args:List Operand} {tys:Array TypeId} {fid:FuncId} {caps:List Nat} {us:List AV} {hpS:List Ow} {lost:List Nat} {QC:AV→List Ow→Prop} (hop:o.op = .call { callee:=.value f,args:=args.toArray,argTypes:=tys }) (sel:List Nat) {m:Nat} (hm:lenO hp = some m) (hf:CalleeC (eOut sel m) hpS.length (AS.arg ⟨fr,hp⟩ f) fid caps)
  (hc:Con P fid (us ++ caps.map (.ptr · 0)) hpS lost QC) (hlo:LostOk sel lost m fr hp) (ha:ArgsC hp (eOut sel m) hpS.length (AS.arg ⟨fr,hp⟩) args us) (hnd:sel.Nodup) (hsel:SelR (eOut sel m) hp hpS.length sel hpS) (hcap:∀ i∈caps,∃ T cells,hpS[i]? = some (.var T cells)) (hd:dLt o.dst n = true)
  (next:∀ r hp',QC r hp'→∃ r' H1 H',AVRen (eOut sel m) r r'∧SetR (eOut sel m) hp sel hp' H1∧AppR (eOut sel m) H1 (dropL sel.length hp') H'∧AWl P s0 n ops Q rest (AS.put ⟨fr,H'⟩ o.dst r')) :
  ∀ (s:GS) (ρ:Nat→Value) (a:Act),StI s0 n ⟨fr,hp⟩ a s ρ→∀ K:Act→World→Prop,(∀ σ' a' w',AWl P s0 n ops Q rest σ'→St s0 n σ' a' w'→K a' w')→o.wp P a s.w K (lift s0 n Q):=by
 intro s ρ a hst K hK
 obtain rfl:=lenO_eq hm
 obtain ⟨hl1,hl2⟩:=hsel.get
 obtain ⟨ha1,ha2⟩:=ha.get
 have hρc:∀ i,i<hpS.length→(fun k=>ρ (eOut sel hp.length k)) i = ρ (eOut sel hp.length i):=fun _ _=>rfl
 have hpos:∀ k o',hpS[k]? = some o'→hp[eOut sel hp.length k]? = some (o'.ren (eOut sel hp.length)):=fun k o' hk=>by
  rw [eOut_lt (by have:=live_lt hk;omega)]
  exact (hl2 k o' hk).1
 have hhp:HpOk 0 (fun k=>ρ (eOut sel hp.length k)) s hpS:=fun k o' hk=>(hst.hp _ _ (hpos k o' hk)).un (hl2 k o' hk).2 (live_lt hk) hρc
 have hsep:Sep s (fun k=>ρ (eOut sel hp.length k)) hpS:=fun i j o1 o2 hij hi hj b hb hb'=>by
  refine hst.sep _ _ _ _ (fun e=>hij ?_) (hpos i o1 hi) (hpos j o2 hj) b (OwB_ren.2 hb) (OwB_ren.2 hb')
  have h1:=live_lt hi
  have h2:=live_lt hj
  rw [eOut_lt (by omega),eOut_lt (by omega),List.getD_eq_getElem?_getD,List.getElem?_eq_getElem (by omega),List.getD_eq_getElem?_getD,List.getElem?_eq_getElem (by omega)] at e
  exact nodup_inj hnd _ _ e
 have hargs:∀ (k:Nat) av,us[k]? = some av→AVr hpS.length (fun k=>ρ (eOut sel hp.length k)) s av ((args.map a.eval).getD k undef):=fun k av hk=>by
  obtain ⟨x,h1,h2⟩:=ha2 k av hk
  have h3:=hst.arg x
  have h4:(args.map a.eval).getD k undef = a.eval x:=by rw [List.getD_eq_getElem?_getD,List.getElem?_map,h1];rfl
  rw [h4]
  rcases h2 with ⟨d,d',rfl,h5,h6⟩ | ⟨h5,h6⟩
  ·exact h6 s _ (asD_rel hst.hp h3 h5)
  ·rw [h5] at h3
   exact h3.un h6 hρc
 have hcall:(execOp a.eval o).run P s.w = .ok (.enter fid (args.map a.eval ++ caps.map fun i=>ρ (eOut sel hp.length i)).toArray) s.w:=by
  have h3:=hst.arg f
  rcases hf with ⟨h4,rfl⟩ | ⟨h4,h5⟩
  ·rw [h4] at h3
   have e1:a.eval f = .func (.func fid) #[] #[]:=h3
   simp [execOp,hop,resolve,e1,Deferred.ofValue,invoke,hc.1]
  ·rw [h4] at h3
   have e1:a.eval f = .func (.func fid) #[] ((caps.map (eOut sel hp.length)).map ρ).toArray:=h3.2
   rw [List.map_map] at e1
   simp [execOp,hop,resolve,e1,Deferred.ofValue,invoke,hc.1]
 have hvs:∀ (k:Nat) av,(us ++ caps.map (AV.ptr · 0))[k]? = some av→AVr hpS.length (fun k=>ρ (eOut sel hp.length k)) s av ((args.map a.eval ++ caps.map fun i=>ρ (eOut sel hp.length i)).getD k undef):=fun k av hk=>by
  rw [List.getElem?_append] at hk
  rw [List.getD_eq_getElem?_getD,List.getElem?_append]
  split at hk
  ·rename_i hlt
   rw [if_pos (by simp;omega),← List.getD_eq_getElem?_getD]
   exact hargs k av hk
  ·rename_i hge
   rw [if_neg (by simp;omega),List.getElem?_map]
   rw [List.getElem?_map] at hk
   simp only [List.length_map,ha1]
   cases hi:caps[k - us.length]? with
   | none=>rw [hi] at hk;cases hk
   | some i =>
    rw [hi] at hk
    cases hk
    obtain ⟨T,cells,h1⟩:=hcap i (List.mem_of_getElem? hi)
    obtain ⟨b,cs,h2,_⟩:=hhp i _ h1
    exact ⟨live_lt h1,b,h2,h2⟩
 have h4:=hc.2 s (fun k=>ρ (eOut sel hp.length k)) (args.map a.eval ++ caps.map fun i=>ρ (eOut sel hp.length i)) hst.ok hhp hsep (by simp [ha1]) hvs
 have hns:notSelect o.op = true:=by rw [hop];rfl
 refine RegG.opStep_wp (R:=fun v s'=>∃ (ρ':Nat→Value) (r:AV) (hp':List Ow),QC r hp'∧AVr hp'.length ρ' s' r v∧Aft s (fun k=>ρ (eOut sel hp.length k)) hpS lost s' ρ' hp') hns (fun _ _=>rfl) ?_ ?_
 ·unfold RegG.OpStep
  rw [hcall]
  exact h4.mono fun e w' ⟨v,he,s',ρ',r,hp',h5,h6,h7,h8⟩=>⟨v,he,s',h6,ρ',r,hp',h5,h7,h8⟩
 ·rintro v s' ⟨ρ',r,hp',h5,h6,h7⟩
  obtain ⟨r',H1,H',h8,h9,h10,h11⟩:=next r hp' h5
  replace h8:r' = r.ren (eOut sel hp.length):=h8
  rw [AppR,dropL_eq] at h10
  subst h8;subst h10
  obtain ⟨ρ'',h12,h13⟩:=StI.con (sel:=sel) (hpS:=hpS) hlo.get.1 hlo.get.2 hst hnd hsel h7 h9
  exact hK _ _ _ h11 ⟨s',ρ'',rfl,h12.put (GS.Le.refl s') (dLt_lt hd) (h13 r v h6)⟩
theorem AWs.con {ty : TypeId} {ps:String} {af:Array Edge} {t:Nat} {f:Operand} {args:List Operand} {tys:Array TypeId} {fid:FuncId} {all:List AV} {hpS:List Ow} {lost:List Nat} {QC:AV→List Ow→Prop} (sel:List Nat) (caps:List Nat) {m:Nat} (hc:Con P fid all hpS lost QC) (hlo:LostOk sel lost m fr hp) (hall:all = all.take args.length ++ caps.map (.ptr · 0)) (hm:lenO hp = some m) (hf:CalleeC (eOut sel m) hpS.length (AS.arg ⟨fr,hp⟩ f) fid caps)
  (ha:ArgsC hp (eOut sel m) hpS.length (AS.arg ⟨fr,hp⟩) args (all.take args.length)) (hnd:sel.Nodup) (hsel:SelR (eOut sel m) hp hpS.length sel hpS) (hcap:CapsOk hpS caps) (hd:Nat.blt t n = true)
  (next:∀ r hp',QC r hp'→∃ r' H1 H',AVRen (eOut sel m) r r'∧SetR (eOut sel m) hp sel hp' H1∧AppR (eOut sel m) H1 (dropL sel.length hp') H'∧AWl P s0 n ops Q rest ⟨(t,r') :: fr,H'⟩) :
  AWl P s0 n ops Q (⟨some t,.call { callee:=.value f,args:=args.toArray,argTypes:=tys },ty,ps,af,none⟩ :: rest) ⟨fr,hp⟩:=by
 rw [hall] at hc
 exact AWl.step rfl (con_wp rfl sel hm hf hc hlo ha hnd hsel hcap.get hd next)
end
end Go.Proofs.YtnhgojfjmhjokaaGreat
namespace Go.Proofs.YtnhgojfjmhjokaaGreat
open Go.RowKit
open Go.ChangeMaps (setBlock)
section
variable {P : Program} {hp:List Ow} {o:Oper} {arg:Operand→AV}
end
section
variable {hp : List Ow} {o:Oper} {arg:Operand→AV}
theorem Quiet.mkFn {P : Program} {f:FuncId} {caps:List Operand} {ids:List Nat} (hop:o.op = .makeFunc (.func f) #[] caps.toArray) (h:caps.map arg = ids.map (AV.ptr · 0)):Quiet P hp o arg (.fn f ids):=by
 refine ⟨fun base s ρ ev hok hbs hhp hv=>?_⟩
 have h1:∀ (l:List Operand) (js:List Nat),(∀ x∈l,x∈caps)→l.map arg = js.map (AV.ptr · 0)→(∀ i∈js,i<hp.length)∧l.map ev = js.map ρ:=by
  intro l
  induction l with
  | nil=>intro js _ h;cases js with
   | nil=>exact ⟨fun i hi=>by (cases hi),rfl⟩
   | cons=>simp at h
  | cons x l ih=>intro js hm h;cases js with
   | nil=>simp at h
   | cons j js =>
    simp only [List.map_cons,List.cons.injEq] at h
    obtain ⟨h2,h3⟩:=ih js (fun y hy=>hm y (List.mem_cons_of_mem _ hy)) h.2
    have h4:=hv x (by rw [hop];simp [Op.operands,hm x List.mem_cons_self])
    rw [h.1] at h4
    obtain ⟨h5,b,h6,h7⟩:=h4
    refine ⟨fun i hi=>?_,?_⟩
    ·rcases List.mem_cons.1 hi with rfl | hi
     ·exact h5
     ·exact h2 i hi
    ·rw [List.map_cons,List.map_cons,h3,h7,h6]
 obtain ⟨h2,h3⟩:=h1 caps ids (fun _ h=>h) h
 refine opG_val (v:=.func (.func f) #[] (ids.map ρ).toArray) (by simp [execOp,hop,Instr.makeFunc,h3]) ⟨GS.Le.refl s,h2,rfl⟩
end
section
variable {s0 : An} {n:Nat} {ops:Array Oper} {Q:Exit→AS→Prop} {rest:List Oper} {fr:List (Nat × AV)} {hp:List Ow} {ty:TypeId} {ps:String} {af:Array Edge} {gd:Option (Nat × Bool)} {dd:Option Tmp}
theorem Qs.mkFn {P : Program} {arg:Operand→AV} {f:FuncId} {caps:List Operand} (ids:List Nat) (h:caps.map arg = ids.map (AV.ptr · 0)):Quiet P hp ⟨dd,.makeFunc (.func f) #[] caps.toArray,ty,ps,af,gd⟩ arg (.fn f ids):=Quiet.mkFn rfl h
end
end Go.Proofs.YtnhgojfjmhjokaaGreat
namespace Go.Proofs.YtnhgojfjmhjokaaGreat
open Go.RowKit
structure HE where
 b:Nat
 T:TypeId
 ds:List D
def HB (s : GS) (e:HE):Prop:=e.T ≠ 139∧(∀ k,¬ s.S e.b k)∧∃ cs:Array Value,s.w.heap[e.b]? = some (.cells cs e.T (0,0))∧e.ds.length≤cs.size∧∀ k,k<e.ds.length→∃ u,cs[k]? = some u∧u.oneCell' = true∧(dAt e.ds k).rel s u
theorem HB.lt {s : GS} {e:HE} (h:HB s e):e.b<s.w.heap.size:=by
 obtain ⟨_,_,cs,h1,_⟩:=h
 exact lt_of_heap h1
theorem HB.keep {s s':GS} {e:HE} (h:HB s e) (hc:GS.Chg s s') (hb:s'.w.heap[e.b]? = s.w.heap[e.b]? ∧ ∀ k,s'.S e.b k↔s.S e.b k):HB s' e:=by
 obtain ⟨h1,h2,cs,h3,h4,h5⟩:=h
 refine ⟨h1,fun k hk=>h2 k ((hb.2 k).1 hk),cs,hb.1.trans h3,h4,fun k hk=>?_⟩
 obtain ⟨u,h6,h7,h8⟩:=h5 k hk
 exact ⟨u,h6,h7,(dAt e.ds k).st h8 hc⟩
def heapO (L : List HE):OD where
 rel s _:=(∀ e∈L,HB s e)∧(L.map (·.b)).Nodup
 blk _ _ b:=∃ e,e∈L∧e.b = b
 lt:=fun ⟨h,_⟩ ⟨e,he,hb⟩=>hb ▸ (h e he).lt
 keep:=fun ⟨h,h'⟩ hc hb=>⟨⟨fun e he=>(h e he).keep hc (hb e.b ⟨e,he,rfl⟩),h'⟩,fun _ hx=>hx⟩
theorem heapO_rel {L : List HE} {s:GS} {v:Value} (h:(heapO L).rel s v):(∀ e∈L,HB s e)∧(L.map (·.b)).Nodup:=h
abbrev pX (b off:Nat):D:=ex (.pointer (some ⟨b,off,none⟩))
abbrev sX (b len cap:Nat):D:=ex (.slice (some ⟨b,0,none⟩) len cap)
section
variable {P : Program} {hp:List Ow} {arg:Operand→AV} {dd:Option Tmp} {ty:TypeId} {ps:String} {af:Array Edge} {gd:Option (Nat × Bool)}
theorem Quiet.ldH {o : Oper} {x:Operand} {t:TypeId} {d:TypeDesc} {n b id i off:Nat} {z:Value} {L:List HE} {e:HE} {es:List D} (hop:o.op = .load t x) (hx:arg x = .d (pX e.b off)) (hh:hp[id]? = some (.obj (heapO L))) (hi:L[i]? = some e) (ht:Tab P t d n b z) (hd:isAg d = true) (hc:PartAt e.ds off n es):Quiet P hp o arg (.d (agD es)):=by
 refine ⟨fun base s ρ ev hok hbs hhp h=>?_⟩
 have h1:=h x (by rw [hop];simp [Op.operands])
 rw [hx] at h1
 have e1:ev x = .pointer (some ⟨e.b,off,none⟩):=h1
 obtain ⟨h2,_⟩:=heapO_rel (hhp id _ hh)
 obtain ⟨_,_,cs,h3,h4,h5⟩:=h2 e (List.mem_of_getElem? hi)
 have hle:=hc.le
 have hcell:∀ j,j<n→∃ u,s.w.cell? ⟨e.b,off+j,none⟩ = some u∧u.oneCell' = true∧(dAt es j).rel s u:=fun j hj=>by
  obtain ⟨u,h6,h7,h8⟩:=h5 (off+j) (by omega)
  refine ⟨u,(cell_of_block h3).trans h6,h7,?_⟩
  have:dAt es j = dAt e.ds (off+j):=by
   rw [← hc.eq,dAt_take hj]
   simp [dAt,List.getElem?_drop]
  rw [this]
  exact h8
 obtain ⟨f,hf⟩:∃ f:Nat→Value,∀ j,j<n→s.w.cell? ⟨e.b,off+j,none⟩ = some (f j)∧(f j).oneCell' = true∧(dAt es j).rel s (f j):=by
  refine ⟨fun j=>if hj:j<n then (hcell j hj).choose else undef,fun j hj=>?_⟩
  simp only [dif_pos hj]
  exact (hcell j hj).choose_spec
 have hr:=run_loadAgg ht hd e.b off f fun j hj=>(hf j hj).1
 have hel:es.length = n:=by rw [← hc.eq,List.length_take,List.length_drop];omega
 refine opG_val (v:=.agg ((List.range n).map f).toArray) ?_ ⟨GS.Le.refl s,_,rfl,by simp;omega,fun k hk=>?_⟩
 ·simp [execOp,hop,e1,Instr.loadAt,Instr.sureAddr,hr]
 ·have hkn : k < n := by omega
  exact ⟨f k,by simp [hkn],(hf k hkn).2⟩
theorem Quiet.ldH1 {o : Oper} {x:Operand} {t:TypeId} {d:TypeDesc} {n b id i off:Nat} {z:Value} {L:List HE} {e:HE} {u:D} (hop:o.op = .load t x) (hx:arg x = .d (pX e.b off)) (hh:hp[id]? = some (.obj (heapO L))) (hi:L[i]? = some e) (ht:Tab P t d n b z) (hd:isAg d = false) (hc:CellAt e.ds off u):Quiet P hp o arg (.d u):=by
 refine ⟨fun base s ρ ev hok hbs hhp h=>?_⟩
 have h1:=h x (by rw [hop];simp [Op.operands])
 rw [hx] at h1
 have e1:ev x = .pointer (some ⟨e.b,off,none⟩):=h1
 obtain ⟨h2,_⟩:=heapO_rel (hhp id _ hh)
 obtain ⟨_,_,cs,h3,h4,h5⟩:=h2 e (List.mem_of_getElem? hi)
 obtain ⟨v,h6,h7,h8⟩:=h5 off hc.lt
 rw [hc.eq] at h8
 have hcell:s.w.cell? ⟨e.b,off,none⟩ = some v:=(cell_of_block h3).trans h6
 refine opG_val (v:=v) ?_ ⟨GS.Le.refl s,h8⟩
 simp [execOp,hop,e1,Instr.loadAt,Instr.sureAddr,loadVar,ht.run_agg,hd,hcell]
theorem Qs.ldH {x : Operand} {t:TypeId} {d:TypeDesc} {n b off:Nat} {z:Value} {L:List HE} {e:HE} {es:List D} (id i:Nat) (hx:arg x = .d (pX e.b off)) (hh:hp[id]? = some (.obj (heapO L))) (hi:L[i]? = some e) (ht:Tab P t d n b z) (hd:isAg d = true) (hc:PartAt e.ds off n es):Quiet P hp ⟨dd,.load t x,ty,ps,af,gd⟩ arg (.d (agD es)):=Quiet.ldH rfl hx hh hi ht hd hc
theorem Qs.ldH1 {x : Operand} {t:TypeId} {d:TypeDesc} {n b off:Nat} {z:Value} {L:List HE} {e:HE} {u:D} (id i:Nat) (hx:arg x = .d (pX e.b off)) (hh:hp[id]? = some (.obj (heapO L))) (hi:L[i]? = some e) (ht:Tab P t d n b z) (hd:isAg d = false) (hc:CellAt e.ds off u):Quiet P hp ⟨dd,.load t x,ty,ps,af,gd⟩ arg (.d u):=Quiet.ldH1 rfl hx hh hi ht hd hc
end
theorem nodup_at {L : List HE} (h:(L.map (·.b)).Nodup) {i j:Nat} {e e':HE} (hi:L[i]? = some e) (hj:L[j]? = some e') (hb:e.b = e'.b):i = j:=by
 obtain ⟨h1,h2⟩:=List.getElem?_eq_some_iff.1 hi
 obtain ⟨h3,h4⟩:=List.getElem?_eq_some_iff.1 hj
 have:=List.pairwise_iff_getElem.1 h
 rcases Nat.lt_trichotomy i j with hl | hl | hl
 ·have hij := this i j (by simpa using h1) (by simpa using h3) hl
  rw [List.getElem_map,List.getElem_map,h2,h4] at hij
  exact absurd hb hij
 ·exact hl
 ·have hij := this j i (by simpa using h3) (by simpa using h1) hl
  rw [List.getElem_map,List.getElem_map,h2,h4] at hij
  exact absurd hb.symm hij
section
variable {P : Program} {s0:An} {n:Nat} {ops:Array Oper} {Q:Exit→AS→Prop} {rest:List Oper} {fr:List (Nat × AV)} {hp hp':List Ow} {ty:TypeId} {ps:String} {af:Array Edge}
theorem heapO_turn {id i:Nat} {L:List HE} {e:HE} {s:GS} {ρ:Nat→Value} {act:Act} (hst:StI s0 n ⟨fr,hp⟩ act s ρ) (hid:hp[id]? = some (.obj (heapO L))) (hi:L[i]? = some e) {W:World} {cs':Array Value} {ds':List D}
  (hos:W.os = s.w.os) (htp:W.tape = s.w.tape) (hop:W.output = s.w.output) (hsz:W.heap.size = s.w.heap.size) (hfar:∀ b,b ≠ e.b→W.heap[b]? = s.w.heap[b]?) (hnew:W.heap[e.b]? = some (.cells cs' e.T (0,0))) (hl:ds'.length≤cs'.size)
  (hds:∀ k,k<ds'.length→∃ u,cs'[k]? = some u∧u.oneCell' = true∧(dAt ds' k).rel s u) (hs:setO hp id (.obj (heapO (L.set i ⟨e.b,e.T,ds'⟩))) = some hp'):StI s0 n ⟨fr,hp'⟩ act { s with w:=W } ρ:=by
 obtain ⟨h1,hnd⟩:=heapO_rel (hst.hp id _ hid)
 have hem:=List.mem_of_getElem? hi
 obtain ⟨hT,hS,cs,h2,h3,h4⟩:=h1 e hem
 have hok : GS.Ok { s with w := W } := GS.ok_heap hst.ok (fun _ _ h => h) (by show _ ≤ W.heap.size; omega) (fun _ _ h => h) fun b ⟨c, fz, hb⟩ => by
  by_cases e1:b = e.b
  ·have hb:W.heap[b]? = _:=hb
   rw [e1,hnew] at hb
   exact absurd (Obj.cells.inj (Option.some.inj hb)).2.1 hT
  ·exact ⟨c,fz,(hfar b e1).symm.trans hb⟩
 have hc : GS.Chg s { s with w := W } := ⟨by show _ ≤ W.heap.size; omega, fun _ _ h => h, fun b c T fz hb => by
  by_cases e1:b = e.b
  ·rw [e1,h2] at hb
   cases hb
   exact ⟨_,_,by rw [e1];exact hnew,fun k hk=>absurd (e1 ▸ hk) (hS k)⟩
  ·exact ⟨c,fz,(hfar b e1).trans hb,fun _ _=>rfl⟩⟩
 have hbs:(L.set i ⟨e.b,e.T,ds'⟩).map (·.b) = L.map (·.b):=by
  rw [List.map_set]
  apply List.ext_getElem?
  intro j
  rw [List.getElem?_set]
  split
  ·rename_i hij
   subst hij
   rw [List.getElem?_map,hi]
   split
   ·rfl
   ·rename_i hlt
    exact absurd (by simpa using (List.getElem?_eq_some_iff.1 hi).1) hlt
  ·rfl
 have hst':=hst.upd (s':={ s with w:=W }) (ρ':=ρ) (f:=fun x=>x) (o':=.obj (heapO (L.set i ⟨e.b,e.T,ds'⟩))) (hst.le.turn (hst.own id _ e.b hid ⟨e,hem,rfl⟩) hos htp hop (fun b _ hb=>⟨hfar b hb,fun _ h=>h⟩) hc (fun _ _=>rfl) fun _=>hok) hok hc hid
  (fun b _ hb=>⟨hfar b fun e1=>hb ⟨e,hem,e1.symm⟩,fun _=>Iff.rfl⟩) (fun _ _=>rfl)
  (by
   refine ⟨fun x hx=>?_,by rw [hbs];exact hnd⟩
   obtain ⟨j,hj⟩:=List.mem_iff_getElem?.1 hx
   rw [List.getElem?_set] at hj
   split at hj
   ·rename_i hij
    split at hj
    ·cases hj
     exact ⟨hT,hS,cs',hnew,hl,fun k hk=>by
      obtain ⟨u,g1,g2,g3⟩:=hds k hk
      exact ⟨u,g1,g2,(dAt ds' k).st g3 hc⟩⟩
    ·cases hj
   ·rename_i hij
    refine (h1 x (List.mem_of_getElem? hj)).keep hc ⟨hfar x.b fun hb=>hij (nodup_at hnd hi hj hb.symm),fun _=>Iff.rfl⟩)
  (fun b hb=>.inl (by
   obtain ⟨x,hx,rfl⟩:=hb
   have:x.b∈(L.set i ⟨e.b,e.T,ds'⟩).map (·.b):=List.mem_map_of_mem hx
   rw [hbs] at this
   obtain ⟨y,hy,e1⟩:=List.mem_map.1 this
   exact ⟨y,hy,e1⟩)) fun av v h=>h.chg hc
 rw [map_same,mapA_same,← setO_eq hs] at hst'
 exact hst'
end
theorem cells_spl {cs : Array Value} {vs:List Value} {off:Nat} (h:off+vs.length≤cs.size) (k:Nat):(cs.toList.take off ++ vs ++ cs.toList.drop (off+vs.length)).toArray[k]? = if off≤k∧k<off+vs.length then vs[k - off]? else cs[k]? := by
 rw [List.getElem?_toArray,List.append_assoc,List.getElem?_append]
 have hl1:(cs.toList.take off).length = off:=by simp;omega
 rw [hl1]
 split
 ·rename_i hlt
  rw [if_neg (by omega),List.getElem?_take,if_pos hlt]
  simp
 ·rename_i hge
  rw [List.getElem?_append]
  split
  ·rename_i hlt
   rw [if_pos (by omega)]
  ·rename_i hge2
   rw [if_neg (by omega),List.getElem?_drop]
   simp only [Array.getElem?_toList]
   congr 1
   omega
section
variable {P : Program} {s0:An} {n:Nat} {ops:Array Oper} {Q:Exit→AS→Prop} {rest:List Oper} {fr:List (Nat × AV)} {hp hp':List Ow} {ty:TypeId} {ps:String} {af:Array Edge}
theorem AWs.stH {T : TypeId} {d:TypeDesc} {b m off:Nat} {z:Value} {x y:Operand} {L:List HE} {e:HE} {es ds':List D} (id i:Nat) (hx:AS.arg ⟨fr,hp⟩ x = .d (pX e.b off)) (hy:AS.arg ⟨fr,hp⟩ y = .d (agD es)) (hh:hp[id]? = some (.obj (heapO L))) (hi:L[i]? = some e) (ht:Tab P T d m b z) (hm:es.length = m) (hc:SetAt e.ds off es ds') (hs:setO hp id (.obj (heapO (L.set i ⟨e.b,e.T,ds'⟩))) = some hp')
  (h:AWl P s0 n ops Q rest ⟨fr,hp'⟩):AWl P s0 n ops Q (⟨none,.store T x y,ty,ps,af,none⟩ :: rest) ⟨fr,hp⟩:=by
 refine AWl.step rfl fun s ρ a hst K hK=>?_
 have hx':=hst.arg x
 have hy':=hst.arg y
 rw [hx] at hx';rw [hy] at hy'
 have e1:a.eval x = .pointer (some ⟨e.b,off,none⟩):=hx'
 obtain ⟨h1,-⟩:=heapO_rel (hst.hp id _ hh)
 obtain ⟨hT,hS,cs,h4,h5,h6⟩:=h1 e (List.mem_of_getElem? hi)
 obtain ⟨vs,e2,hv1,hv2⟩:=hy'
 have hle:=hc.le
 have hvone:∀ v∈vs.toList,v.oneCell' = true:=fun v hv=>by
  obtain ⟨k,hk,rfl⟩:=List.getElem_of_mem hv
  simp at hk
  obtain ⟨u,h9,h10,_⟩:=hv2 k (by omega)
  rw [Array.getElem?_eq_getElem hk] at h9
  cases h9
  simpa using h10
 have hvl:vs.toList.length = m:=by simp [hv1,hm]
 have hst1:=run_storeCells_at P e.b off e.T vs.toList 0 cs s.w h4 (by omega) hvone
 simp only [Nat.add_zero] at hst1
 obtain ⟨W,hW⟩:∃ W,W = s.w.setRow e.b (cs.toList.take off ++ vs.toList ++ cs.toList.drop (off+vs.toList.length)).toArray:=⟨_,rfl⟩
 rw [← hW] at hst1
 have hrun:(execOp a.eval ⟨none,.store T x y,ty,ps,af,none⟩).run P s.w = .ok .skip W:=by
  simp [execOp,e1,e2,Instr.storeAt,Instr.sureAddr,storeVar,Value.cells,hv1,hm,ht.run_size,hst1]
 unfold Oper.wp
 rw [hrun]
 have hnew:W.heap[e.b]? = some (.cells (cs.toList.take off ++ vs.toList ++ cs.toList.drop (off+vs.toList.length)).toArray e.T (0,0)):=by rw [hW];exact setRow_heap s.w e.b cs _ e.T _ h4
 have hfin := heapO_turn hst hh hi (W := W) (ds' := ds') (by rw [hW]; rfl) (by rw [hW]; rfl) (by rw [hW]; rfl) (by rw [hW]; simp [World.setRow]) (fun b hb => by rw [hW]; exact setRow_other s.w e.b b _ (fun e => hb e)) hnew
  (by rw [← hc.eq, spl_length hle]; simp; omega) (fun k hk => by
   rw [← hc.eq,spl_length hle] at hk
   rw [cells_spl (by omega),← hc.eq,spl_at hle]
   by_cases hr:off≤k∧k<off+es.length
   ·rw [if_pos (by omega), if_pos hr]
    obtain ⟨u,g1,g2,g3⟩:=hv2 (k - off) (by omega)
    exact ⟨u,by simpa using g1,g2,g3⟩
   ·rw [if_neg (by omega), if_neg hr]
    exact h6 k hk) hs
 exact hK _ _ _ h ⟨_,ρ,rfl,hfin⟩
theorem AWs.stH1 {T : TypeId} {d:TypeDesc} {b off:Nat} {z:Value} {x y:Operand} {L:List HE} {e:HE} {u:D} {ds':List D} (id i:Nat) (hx:AS.arg ⟨fr,hp⟩ x = .d (pX e.b off)) (hy:AS.arg ⟨fr,hp⟩ y = .d u) (hh:hp[id]? = some (.obj (heapO L))) (hi:L[i]? = some e) (ht:Tab P T d 1 b z) (h1:One hp (.d u)) (hc:SetAt e.ds off [u] ds') (hs:setO hp id (.obj (heapO (L.set i ⟨e.b,e.T,ds'⟩))) = some hp')
  (h:AWl P s0 n ops Q rest ⟨fr,hp'⟩):AWl P s0 n ops Q (⟨none,.store T x y,ty,ps,af,none⟩ :: rest) ⟨fr,hp⟩:=by
 refine AWl.step rfl fun s ρ a hst K hK=>?_
 have hx':=hst.arg x
 have hy':=hst.arg y
 rw [hx] at hx';rw [hy] at hy'
 have e1:a.eval x = .pointer (some ⟨e.b,off,none⟩):=hx'
 obtain ⟨g1,-⟩:=heapO_rel (hst.hp id _ hh)
 obtain ⟨hT,hS,cs,h4,h5,h6⟩:=g1 e (List.mem_of_getElem? hi)
 have hle:=hc.le
 simp only [List.length_cons,List.length_nil] at hle
 have hv1:=h1 _ _ _ _ hst.hp hy'
 have hcell:s.w.cell? ⟨e.b,off,none⟩ = some (cs[off]'(by omega)):=(cell_of_block h4).trans (Array.getElem?_eq_getElem _)
 have hfz:s.w.frozen? ⟨e.b,off,none⟩ = false:=Blk.frozen h4 off
 have hvc:(a.eval y).cells = #[a.eval y]:=by cases hv:a.eval y <;> first | rfl | (rw [hv] at hv1;cases hv1)
 have hrun:(execOp a.eval ⟨none,.store T x y,ty,ps,af,none⟩).run P s.w = .ok .skip (s.w.setCell ⟨e.b,off,none⟩ (a.eval y)):=by
  have h9:(store ⟨e.b,off,none⟩ (a.eval y)).run P s.w = .ok () (s.w.setCell ⟨e.b,off,none⟩ (a.eval y)):=by
   cases hv:a.eval y <;> first | (rw [hv] at hv1;cases hv1;done) | simp [store,Sem.run,hcell,hfz]
  simp [execOp,e1,Instr.storeAt,Instr.sureAddr,storeVar,hvc,ht.run_size,storeCells,Addr.add_lit,h9]
 unfold Oper.wp
 rw [hrun]
 have hfin := heapO_turn hst hh hi (W := s.w.setCell ⟨e.b, off, none⟩ (a.eval y)) (ds' := ds') rfl rfl rfl (by simp [World.setCell]) (fun b hb => Below.heap_setCell _ _ _ _ hb) (Blk.set h4 off _)
  (by rw [← hc.eq, spl_length hc.le]; simp; omega) (fun k hk => by
   rw [← hc.eq,spl_length hc.le] at hk
   rw [← hc.eq,spl_at hc.le]
   by_cases hr:off≤k∧k<off+1
   ·obtain rfl : k = off := by omega
    rw [if_pos (by simp)]
    have hko:k<cs.size:=by omega
    refine ⟨a.eval y,by simp [hko],hv1,?_⟩
    rw [Nat.sub_self]
    exact hy'
   ·rw [if_neg (by simpa using hr), Array.getElem?_setIfInBounds_ne (by omega)]
    exact h6 k hk) hs
 exact hK _ _ _ h ⟨_,ρ,rfl,hfin⟩
theorem AWs.mkH {t T m b bytes c k e:Nat} {z z':Value} {d:TypeDesc} {x y:Operand} {hpf:Nat→List Ow} (hx:AS.arg ⟨fr,hp⟩ x = .d (ex (.int .i64 (c:Nat)))) (hy:AS.arg ⟨fr,hp⟩ y = .d (ex (.int .i64 (c:Nat)))) (ht:Tab P t (.slice T) m b z') (hT:Tab P T d 1 bytes z) (hz:z.cells = #[z]) (hz1:z.oneCell' = true) (hc:c≤1000000) (hbytes:Nat.ble bytes 65536 = true) (hT32:Nat.beq T 139 = false) (hd:Nat.blt e n = true) (hk:lenO hp = some k) (hs:∀ g,snocO hp (.obj (heapO [⟨g,T,List.replicate c (ex z)⟩])) = some (hpf g))
  (h:∀ g,AWl P s0 n ops Q rest ⟨(e,.d (sX g c c)) :: fr,hpf g⟩):AWl P s0 n ops Q (⟨some e,.makeSlice t x y,ty,ps,af,none⟩ :: rest) ⟨fr,hp⟩:=by
 refine AWl.step rfl fun s ρ a hst K hK=>?_
 have e1:a.eval x = .int .i64 (c:Nat):=St.exD hx ⟨s,ρ,rfl,hst⟩
 have e2:a.eval y = .int .i64 (c:Nat):=St.exD hy ⟨s,ρ,rfl,hst⟩
 obtain ⟨i,hi,hz0,hsize,hby⟩:=hT.info
 have hbytes:=Nat.le_of_ble_eq_true hbytes
 have hT32':=Nat.ne_of_beq_eq_false hT32
 obtain rfl:=lenO_eq hk
 have wc:IntKind.i64.wrap ((c:Nat):Int) = c:=IntWalk.i64_in _ (by omega)
 have hprod:bytes*c≤65536*1000000:=Nat.mul_le_mul hbytes hc
 have hprod':((bytes:Int)*(c:Int))≤281474976710656:=by
  have:((bytes*c:Nat):Int)≤((65536*1000000:Nat):Int):=Int.ofNat_le.2 hprod
  rw [Int.natCast_mul] at this
  omega
 have hroom:c*bytes≤roomBytes:=by
  rw [Nat.mul_comm]
  have:roomBytes = 140737488355328:=rfl
  omega
 obtain ⟨arr,harr,harr2,hrun⟩:∃ arr:Array Value,arr.size = c∧(∀ k,k<c→arr[k]? = some z)∧(execOp a.eval ⟨some e,.makeSlice t x y,ty,ps,af,none⟩).run P s.w = .ok (.value (.slice (some ⟨s.w.heap.size,0,none⟩) c c)) (s.w.alloc (.cells arr T)):=by
  have hn:∀ arr,(newRow T arr).run P s.w = .ok ⟨s.w.heap.size,0,none⟩ (s.w.alloc (.cells arr T)):=fun _=>rfl
  have h281:¬ (281474976710656<(bytes:Int)*(c:Int)):=by omega
  have hroom':¬ (roomBytes<c*bytes):=by omega
  have hkn:¬ ((c:Int)<0):=by omega
  by_cases hk0:c = 0
  ·subst hk0
   refine ⟨(Array.range 0).map (fun j=>(#[]:Array Value)[j % 0]!),by simp,fun k hk=>by omega,?_⟩
   simp [execOp,e1,e2,Instr.makeSlice,run_underlying ht.und,asInt,asIntOf,typeInfo,hi,hby,askRoom,hT.run_size,hn,sizeOf,hsize,show IntKind.i64.wrap 0 = 0 from rfl]
  ·refine ⟨(Array.range c).map (fun j => z.cells[j % z.cells.size]!), by simp, fun k hk => by
    have:k % 1 = 0:=Nat.mod_one k
    simp [hk,hz,this],?_⟩
   simp [execOp,e1,e2,Instr.makeSlice,run_underlying ht.und,asInt,asIntOf,typeInfo,hi,hby,wc,h281,askRoom,hroom',sizeOf,hsize,hk0,zeroValue,hz0,hn,hkn]
 unfold Oper.wp
 rw [hrun]
 have hfin := hst.new (s.le_mk' arr T 0 hT32') (dst := some e) (fun d hd' => by cases hd'; simpa [Nat.blt_eq] using hd) (v := .slice (some ⟨s.w.heap.size, 0, none⟩) c c) (u := undef) (r := .d (sX s.w.heap.size c c)) (ow := .obj (heapO [⟨s.w.heap.size, T, List.replicate c (ex z)⟩])) rfl
  (by
   refine ⟨fun x hx=>?_,by simp⟩
   rw [List.mem_singleton.1 hx]
   refine ⟨hT32',fun k hk=>?_,arr,heap_alloc_new s.w _,by simp [harr],fun k hk=>?_⟩
   ·exact absurd (hst.ok.lt _ _ hk) (Nat.lt_irrefl _)
   ·have hk : k < c := by simpa using hk
    refine ⟨z,harr2 k hk,hz1,?_⟩
    have:dAt (List.replicate c (ex z)) k = ex z:=by simp [dAt,hk]
    rw [this]
    exact rfl)
  (fun b hb=>by
   obtain ⟨x,hx,rfl⟩:=hb
   rw [List.mem_singleton.1 hx]
   exact Nat.le_refl _)
 have hg:=h s.w.heap.size
 rw [snocO_eq (hs s.w.heap.size)] at hg
 exact hK _ _ _ hg ⟨_,_,rfl,hfin⟩
theorem apH_core {x y:Operand} {t T sz bytes id m b e:Nat} {z z':Value} {d:TypeDesc} {r2:List (List D)} {fr':List (Nat × AV)} {hpf:Nat→List Ow} (hx:AS.arg ⟨fr,hp⟩ x = .own id) (hh:hp[id]? = some (.row T sz [])) (hlen:∀ k,k<r2.length→(r2.getD k []).length = sz) (h0:0<r2.length)
  (hy:∀ (s:GS) (ρ:Nat→Value) (a:Act),StI s0 n ⟨fr,hp⟩ a s ρ→∃ (g p c:Nat) (news:List Value),a.eval y = .slice (some ⟨g,p,none⟩) r2.length c∧news.length = r2.length*sz∧(∀ j u,news[j]? = some u→s.w.cell? ⟨g,p+j,none⟩ = some u)∧(∀ u∈news,u.oneCell' = true)∧∀ k j,k<r2.length→j<sz→∃ u,news[k*sz+j]? = some u∧u.oneCell' = true∧(dAt (r2.getD k []) j).rel s u)
  (ht:Tab P t (.slice T) m b z') (hT:Tab P T d sz bytes z) (hzs:z.cells.size = sz) (hd:Nat.blt e n = true) (hbytes:r2.length*bytes≤140737488355328) (h63:r2.length≤4611686018427387904) (hf:downO id (slD T sz []) fr = some fr') (hpl:PlainHp id hp) (hs:∀ g,setO hp id (.obj (heapO [⟨g,T,r2.flatten⟩])) = some (hpf g))
  (h:∀ g c,r2.length≤c→AWl P s0 n ops Q rest ⟨(e,.d (sX g r2.length c)) :: fr',hpf g⟩):AWl P s0 n ops Q (⟨some e,.call { callee:=.builtin .append,args:=#[x,y],argTypes:=#[t,t] },ty,ps,af,none⟩ :: rest) ⟨fr,hp⟩:=by
 refine AWl.step rfl fun s ρ a hst K hK=>?_
 have hx':=hst.arg x
 rw [hx] at hx'
 obtain ⟨hid,e1⟩:=hx'
 obtain ⟨xs,h2,h3,h4,h5,h6⟩:=hst.hp id _ hh
 have hold:(slD T sz []).rel s (ρ id):=asD_rel (av:=.own id) hst.hp ⟨hid,rfl⟩ (by simp [asD,hh])
 obtain ⟨g0,p,c0,news,e2,n1,n2,n3,n4⟩:=hy s ρ a hst
 have hxs:xs = []:=List.eq_nil_of_length_eq_zero (by have:=h2.1;simpa using this)
 subst hxs
 obtain ⟨v',s',hr,q1,q2,q3,q4,q5,q6,q7⟩:=append_st (P:=P) (ty:=ty) hst.le hst.ok ht.und hT hzs h3 h4 h2 (fun b hb=>hst.own id _ b hh hb) h5 g0 p r2.length c0 news n1 h0 n2 n3 (by simpa using hbytes) (by simpa using h63)
 simp only [List.length_nil,Nat.zero_add,List.nil_append] at q4 q5
 have hrun:(execOp a.eval ⟨some e,.call { callee:=.builtin .append,args:=#[x,y],argTypes:=#[t,t] },ty,ps,af,none⟩).run P s.w = .ok (.value v') s'.w:=by
  simp only [execOp,resolve,invoke,builtin,Sem.run_bind,Sem.run_pure,Result.andThen_ok,List.map_toArray,List.map_cons,List.map_nil,e1,e2,hr]
 unfold Oper.wp
 rw [hrun]
 obtain ⟨g,cap,cur,rfl,hbg,hg,hnc,hcm,hcs,htake⟩:=q4.2.resolve_left (fun ⟨_,hn⟩=>by omega)
 have hSg:∀ k,¬ s.S g k:=fun k hk=>by
  rcases q7 g rfl with hb | hb
  ·have:=(h5 g hb k).1 hk
   simp at this
  ·have:=hst.ok.lt _ _ hk
   omega
 let s2:GS:=⟨fun b k=>s'.S b k∧b ≠ g,s'.tag,s'.w⟩
 have hc2:GS.Chg s s2:=⟨q3.size,fun b k hk=>⟨q3.up b k hk,fun e=>hSg k (e ▸ hk)⟩,q3.cell⟩
 have hok2:s2.Ok:=⟨fun b k hk=>q2.lt b k hk.1,fun b k hty=>⟨q2.safe b k hty,fun e=>by
  subst e
  obtain ⟨cs,fz,hb⟩:=hty
  have hb:s'.w.heap[b]? = _:=hb
  rw [hg] at hb
  exact h3 (Obj.cells.inj (Option.some.inj hb)).2.1⟩⟩
 have hle2:GS.LeX s0.mine s0.g s2:=⟨q1.os,q1.tape,q1.output,q1.block,hst.le.chg.trans hc2,fun b k hb hm hk=>q1.old b k hb hm hk.1,q1.tag,fun _=>hok2⟩
 have hst':=hst.upd (s':=s2) (o':=.obj (heapO [⟨g,T,r2.flatten⟩])) (ρ':=fun i=>if i = id then .slice (some ⟨g,0,none⟩) r2.length cap else ρ i) (f:=down id (slD T sz [])) hle2 hok2 hc2 hh
  (fun b hb hnb=>⟨(q6 b hb hnb).1,fun k=>⟨fun hk=>((q6 b hb hnb).2 k).1 hk.1,fun hk=>⟨((q6 b hb hnb).2 k).2 hk,fun e=>hSg k (e ▸ hk)⟩⟩⟩) (fun j hj=>if_neg hj)
  (by
   refine ⟨fun w hw=>?_,by simp⟩
   rw [List.mem_singleton.1 hw]
   have hflat:∀ (l:List (List D)),(∀ k,k<l.length→(l.getD k []).length = sz)→l.flatten.length = l.length*sz∧∀ k j,k<l.length→j<sz→dAt l.flatten (k*sz+j) = dAt (l.getD k []) j:=by
    intro l
    induction l with
    | nil=>intro _;exact ⟨by simp,fun k j hk=>by simp at hk⟩
    | cons r l ih =>
     intro hl
     have hr0:r.length = sz:=hl 0 (by simp)
     obtain ⟨i1,i2⟩:=ih fun k hk=>hl (k+1) (by simpa using hk)
     refine ⟨by simp only [List.flatten_cons,List.length_append,List.length_cons];rw [i1,hr0,Nat.succ_mul];omega,fun k j hk hj=>?_⟩
     cases k with
     | zero=>simp [dAt,List.getElem?_append,hr0,hj]
     | succ k =>
      have:=i2 k j (by simpa using hk) hj
      rw [Nat.succ_mul]
      simp only [List.flatten_cons,dAt,List.getD_cons_succ] at this ⊢
      rw [← this,List.getD_eq_getElem?_getD,List.getD_eq_getElem?_getD,List.getElem?_append_right (by omega),hr0]
      congr 2
      omega
   obtain ⟨f1,f2⟩:=hflat r2 hlen
   have hcl:cur.size = cap*sz:=hcs
   refine ⟨h3,fun k hk=>hk.2 rfl,cur,hg,by show r2.flatten.length≤_;rw [f1,hcl];exact Nat.mul_le_mul_right _ hnc,fun k hk=>?_⟩
   have hk:k<r2.length*sz:=by rw [← f1];exact hk
   have hd1:=Nat.div_add_mod k sz
   have hkl:k / sz<r2.length:=Nat.div_lt_of_lt_mul (by rw [Nat.mul_comm];exact hk)
   have hkm:k % sz<sz:=Nat.mod_lt _ h4
   obtain ⟨u,r1,r2',r3⟩:=n4 (k / sz) (k % sz) hkl hkm
   have e3:k / sz*sz+k % sz = k:=by rw [Nat.mul_comm];exact hd1
   rw [e3] at r1
   refine ⟨u,?_,r2',?_⟩
   ·have : (cur.toList.take (r2.length * sz))[k]? = some u := by rw [htake]; exact r1
    rw [List.getElem?_take,if_pos hk] at this
    simpa using this
   ·have:=f2 (k / sz) (k % sz) hkl hkm
    rw [e3] at this
    show (dAt r2.flatten k).rel s2 u
    rw [this]
    exact (dAt _ _).st r3 hc2)
  (fun b hb=>by
   obtain ⟨w,hw,rfl⟩:=hb
   rw [List.mem_singleton.1 hw]
   exact q7 g rfl) fun av v hav=>by
    cases av with
    | d x=>exact x.st hav hc2
    | ptr i off =>
     obtain ⟨p1,bb,p2,p3⟩:=hav
     refine ⟨p1,bb,?_,p3⟩
     show (if i = id then _ else ρ i) = _
     by_cases e:i = id
     ·exfalso
      subst e
      rcases h2.2 with ⟨w1,_⟩ | ⟨g,cap,cur,w1,_⟩ <;> rw [w1] at p2 <;> cases p2
     ·rw [if_neg e];exact p2
    | own j =>
     obtain ⟨p1,p2⟩:=hav
     show AVr hp.length _ s2 (bif Nat.beq j id then .d (slD T sz []) else .own j) v
     cases hb:Nat.beq j id with
     | true =>
      have e:j = id:=Nat.eq_of_beq_eq_true hb
      subst e
      rw [p2]
      exact (slD T sz []).st hold hc2
     | false =>
      have e:j ≠ id:=Nat.ne_of_beq_eq_false hb
      exact ⟨p1,p2.trans (if_neg e).symm⟩
    | fn f caps =>
     obtain ⟨p1,p2⟩:=hav
     show AVr hp.length _ s2 (bif caps.contains id then .d anyD else .fn f caps) v
     cases hb:caps.contains id with
     | true=>trivial
     | false =>
      have hn:id ∉ caps:=fun h=>by rw [List.contains_iff_mem.2 h] at hb;cases hb
      exact ⟨p1,by rw [p2,List.map_congr_left fun i hi=>(if_neg fun e=>hn (by rw [← e];exact hi):(if i = id then _ else ρ i) = ρ i)]⟩
 have hfin:=hst'.put (GS.Le.refl s2) (dst:=some e) (fun d hd'=>by cases hd';simpa [Nat.blt_eq] using hd) (v:=.slice (some ⟨g,0,none⟩) r2.length cap) (r:=.d (sX g r2.length cap)) rfl
 have hg2:=h g cap hnc
 rw [setO_eq (hs g),downO_eq hf] at hg2
 simp only [plainHp_down hpl.ok] at hfin
 exact hK _ _ _ hg2 ⟨s2,_,rfl,hfin⟩
end
section
variable {P : Program} {hp:List Ow} {arg:Operand→AV} {dd:Option Tmp} {ty:TypeId} {ps:String} {af:Array Edge} {gd:Option (Nat × Bool)}
theorem Qs.ixX {x y:Operand} {t:TypeId} {e n b n' b' g len cap k:Nat} {d:TypeDesc} {z z':Value} {κ:IntKind} (hx:arg x = .d (sX g len cap)) (hy:arg y = .d (ex (.int κ ((k:Nat):Int)))) (ht:Tab P t (.slice e) n b z) (he:Tab P e d n' b' z') (hk:k<len):Quiet P hp ⟨dd,.indexAddr t x y,ty,ps,af,gd⟩ arg (.d (pX g (k*n'))):=by
 refine ⟨fun base s ρ ev hok hbs hhp h=>?_⟩
 have h1:=h x (by simp [Op.operands])
 have h2:=h y (by simp [Op.operands])
 rw [hx] at h1;rw [hy] at h2
 have e1:ev x = .slice (some ⟨g,0,none⟩) len cap:=h1
 have e2:ev y = .int κ ((k:Nat):Int):=h2
 refine opG_val (v:=.pointer (some ⟨g,k*n',none⟩)) ?_ ⟨GS.Le.refl s,rfl⟩
 have h0:(0:Int)≤((k:Nat):Int):=by omega
 have hi:((k:Nat):Int)<(len:Int):=by omega
 simp [execOp,e1,e2,Instr.indexAt,asIntOf,run_underlying ht.und,h0,hk,he.run_size,Addr.add_lit]
theorem Qs.lenX {x : Operand} {t:TypeId} {e n b g len cap:Nat} {z:Value} (hx:arg x = .d (sX g len cap)) (ht:Tab P t (.slice e) n b z):Quiet P hp ⟨dd,.call { callee:=.builtin .len,args:=#[x],argTypes:=#[t] },ty,ps,af,gd⟩ arg (.d (ex (.int .i64 (len:Nat)))):=by
 refine ⟨fun base s ρ ev hok hbs hhp h=>?_⟩
 have h1:=h x (by simp [Op.operands,Call.operands])
 rw [hx] at h1
 have e1:ev x = .slice (some ⟨g,0,none⟩) len cap:=h1
 refine opG_val (v:=.int .i64 (len:Nat)) ?_ ⟨GS.Le.refl s,rfl⟩
 simp [execOp,resolve,invoke,builtin,e1,Builtin.len_,run_underlying ht.und,goInt]
end
section
variable {P : Program} {s0:An} {n:Nat} {ops:Array Oper} {Q:Exit→AS→Prop} {rest:List Oper} {fr:List (Nat × AV)} {hp hp':List Ow} {ty:TypeId} {ps:String} {af:Array Edge}
theorem AWs.apD {x y:Operand} {t T T2 sz bytes id m b e:Nat} {z z':Value} {d:TypeDesc} {r2:List (List D)} {fr':List (Nat × AV)} {hpf:Nat→List Ow} (hx:AS.arg ⟨fr,hp⟩ x = .own id) (hh:hp[id]? = some (.row T sz [])) (hlen:∀ k,k<r2.length→(r2.getD k []).length = sz) (h0:0<r2.length) (hy:asD hp (AS.arg ⟨fr,hp⟩ y) = some (slD T2 sz r2))
  (ht:Tab P t (.slice T) m b z') (hT:Tab P T d sz bytes z) (hzs:z.cells.size = sz) (hd:Nat.blt e n = true) (hbytes:r2.length*bytes≤140737488355328) (h63:r2.length≤4611686018427387904) (hf:downO id (slD T sz []) fr = some fr') (hpl:PlainHp id hp) (hs:∀ g,setO hp id (.obj (heapO [⟨g,T,r2.flatten⟩])) = some (hpf g))
  (h:∀ g c,r2.length≤c→AWl P s0 n ops Q rest ⟨(e,.d (sX g r2.length c)) :: fr',hpf g⟩):AWl P s0 n ops Q (⟨some e,.call { callee:=.builtin .append,args:=#[x,y],argTypes:=#[t,t] },ty,ps,af,none⟩ :: rest) ⟨fr,hp⟩ :=
 apH_core hx hh hlen h0 (fun s ρ a hst=>by
  obtain ⟨A,c,e2,h7,h8,h9⟩:=asD_rel hst.hp (hst.arg y) hy
  obtain ⟨g,p,rfl,h10⟩:=h9 h0
  obtain ⟨news,n1,n2,n3,n4⟩:=news_of h10
  exact ⟨g,p,c,news,e2,n1,n2,n3,n4⟩) ht hT hzs hd hbytes h63 hf hpl hs h
theorem AWs.apX {x y:Operand} {t T sz bytes id m b e g0 len c0 T0:Nat} {z z':Value} {d:TypeDesc} {fr':List (Nat × AV)} {hpf:Nat→List Ow} {L:List HE} (id2 i:Nat) (r2:List (List D)) (hx:AS.arg ⟨fr,hp⟩ x = .own id) (hh:hp[id]? = some (.row T sz [])) (hlen:∀ k,k<r2.length→(r2.getD k []).length = sz) (h0:0<r2.length) (hy:AS.arg ⟨fr,hp⟩ y = .d (sX g0 len c0)) (hl:len = r2.length) (hh2:hp[id2]? = some (.obj (heapO L))) (hi:L[i]? = some ⟨g0,T0,r2.flatten⟩)
  (ht:Tab P t (.slice T) m b z') (hT:Tab P T d sz bytes z) (hzs:z.cells.size = sz) (hd:Nat.blt e n = true) (hbytes:r2.length*bytes≤140737488355328) (h63:r2.length≤4611686018427387904) (hf:downO id (slD T sz []) fr = some fr') (hpl:PlainHp id hp) (hs:∀ g,setO hp id (.obj (heapO [⟨g,T,r2.flatten⟩])) = some (hpf g))
  (h:∀ g c,r2.length≤c→AWl P s0 n ops Q rest ⟨(e,.d (sX g r2.length c)) :: fr',hpf g⟩):AWl P s0 n ops Q (⟨some e,.call { callee:=.builtin .append,args:=#[x,y],argTypes:=#[t,t] },ty,ps,af,none⟩ :: rest) ⟨fr,hp⟩ :=
 apH_core hx hh hlen h0 (fun s ρ a hst=>by
  have hy':=hst.arg y
  rw [hy] at hy'
  have e2:a.eval y = .slice (some ⟨g0,0,none⟩) r2.length c0:=by rw [← hl];exact hy'
  obtain ⟨g1,-⟩:=heapO_rel (hst.hp id2 _ hh2)
  obtain ⟨-,-,cs,h4,h5,h6⟩:=g1 _ (List.mem_of_getElem? hi)
  have hflat:∀ (l:List (List D)),(∀ k,k<l.length→(l.getD k []).length = sz)→l.flatten.length = l.length*sz∧∀ k j,k<l.length→j<sz→dAt l.flatten (k*sz+j) = dAt (l.getD k []) j:=by
   intro l
   induction l with
   | nil=>intro _;exact ⟨by simp,fun k j hk=>by simp at hk⟩
   | cons r l ih =>
    intro hl
    have hr0:r.length = sz:=hl 0 (by simp)
    obtain ⟨i1,i2⟩:=ih fun k hk=>hl (k+1) (by simpa using hk)
    refine ⟨by simp only [List.flatten_cons,List.length_append,List.length_cons];rw [i1,hr0,Nat.succ_mul];omega,fun k j hk hj=>?_⟩
    cases k with
    | zero=>simp [dAt,List.getElem?_append,hr0,hj]
    | succ k =>
     have:=i2 k j (by simpa using hk) hj
     rw [Nat.succ_mul]
     simp only [List.flatten_cons,dAt,List.getD_cons_succ] at this ⊢
     rw [← this,List.getD_eq_getElem?_getD,List.getD_eq_getElem?_getD,List.getElem?_append_right (by omega),hr0]
     congr 2
     omega
  obtain ⟨f1,f2⟩:=hflat r2 hlen
  replace h6:∀ k,k<r2.length*sz→∃ u,cs[k]? = some u∧u.oneCell' = true∧(dAt r2.flatten k).rel s u:=fun k hk=>h6 k (by rw [← f1] at hk;exact hk)
  replace h5:r2.length*sz≤cs.size:=by rw [← f1];exact h5
  have hget:∀ k,k<r2.length*sz→(cs.toList.take (r2.length*sz))[k]? = cs[k]? := fun k hk=>by rw [List.getElem?_take,if_pos hk];simp
  refine ⟨g0,0,c0,cs.toList.take (r2.length*sz),e2,by simp;omega,fun j u hj=>?_,fun u hu=>?_,fun k j hk hj=>?_⟩
  ·rw [Nat.zero_add,cell_of_block h4]
   have hjl:j<r2.length*sz:=by
    have:=(List.getElem?_eq_some_iff.1 hj).1
    rw [List.length_take] at this
    omega
   rw [← hget j hjl];exact hj
  ·obtain ⟨k,hk⟩:=List.mem_iff_getElem?.1 hu
   have hkl:k<r2.length*sz:=by
    have:=(List.getElem?_eq_some_iff.1 hk).1
    rw [List.length_take] at this
    omega
   rw [hget k hkl] at hk
   obtain ⟨w,w1,w2,_⟩:=h6 k hkl
   rw [w1] at hk
   cases hk
   exact w2
  ·have hlt:k*sz+j<r2.length*sz:=by
    have:(k+1)*sz≤r2.length*sz:=Nat.mul_le_mul_right sz hk
    rw [Nat.succ_mul] at this
    omega
   obtain ⟨w,w1,w2,w3⟩:=h6 _ hlt
   rw [f2 k j hk hj] at w3
   exact ⟨w,by rw [hget _ hlt];exact w1,w2,w3⟩) ht hT hzs hd hbytes h63 hf hpl hs h
theorem AS.mergeH {L1 L2:List HE} {hp1:List Ow} (i j:Nat) (hij:i ≠ j) (hi:hp[i]? = some (.obj (heapO L1))) (hj:hp[j]? = some (.obj (heapO L2))) (hs1:setO hp i (.obj (heapO (L1 ++ L2))) = some hp1) (hs:setO hp1 j .dead = some hp'):AS.le ⟨fr,hp⟩ ⟨fr,hp'⟩:=by
 rw [setO_eq hs,setO_eq hs1]
 intro s0 n a w ⟨s,ρ,hw,hst⟩
 have hlen:((hp.set i (.obj (heapO (L1 ++ L2)))).set j .dead).length = hp.length:=by simp
 have hil:=live_lt hi
 have hjl:=live_lt hj
 have hget:∀ k o,((hp.set i (.obj (heapO (L1 ++ L2)))).set j .dead)[k]? = some o→(k = j∧o = .dead)∨(k = i∧o = .obj (heapO (L1 ++ L2)))∨(k ≠ i∧k ≠ j∧hp[k]? = some o):=fun k o hk=>by
  rw [List.getElem?_set] at hk
  split at hk
  ·rename_i e
   split at hk
   ·cases hk;exact .inl ⟨e.symm,rfl⟩
   ·cases hk
  ·rename_i e
   rw [List.getElem?_set] at hk
   split at hk
   ·rename_i e2
    first
     | (split at hk;(cases hk;exact .inr (.inl ⟨e2.symm,rfl⟩));(cases hk))
     | (cases hk;exact .inr (.inl ⟨e2.symm,rfl⟩))
   ·rename_i e2
    exact .inr (.inr ⟨fun h=>e2 h.symm,fun h=>e h.symm,hk⟩)
 obtain ⟨a1,a2⟩:=heapO_rel (hst.hp i _ hi)
 obtain ⟨b1,b2⟩:=heapO_rel (hst.hp j _ hj)
 have hblk:∀ k o b,((hp.set i (.obj (heapO (L1 ++ L2)))).set j .dead)[k]? = some o→OwB s (ρ k) o b→∃ k' o',hp[k']? = some o'∧OwB s (ρ k') o' b∧(k' = k∨(k = i∧k' = j)):=fun k o b hk hb=>by
  rcases hget k o hk with ⟨rfl,rfl⟩ | ⟨rfl,rfl⟩ | ⟨h1,h2,h3⟩
  ·exact hb.elim
  ·obtain ⟨e,he,rfl⟩:=hb
   rcases List.mem_append.1 he with he | he
   ·exact ⟨k,_,hi,⟨e,he,rfl⟩,.inl rfl⟩
   ·exact ⟨j,_,hj,⟨e,he,rfl⟩,.inr ⟨rfl,rfl⟩⟩
  ·exact ⟨k,o,h3,hb,.inl rfl⟩
 refine ⟨s,ρ,hw,hst.le,hst.ok,fun t av ht=>?_,hst.sz,hst.df,fun k o hk=>?_,fun k l o o' hkl hk hl b hb hb'=>?_,fun k o b hk hb=>?_⟩
 ·show AVr ((hp.set i (.obj (heapO (L1 ++ L2)))).set j .dead).length ρ s av _
  rw [hlen]
  exact hst.fr t av ht
 ·show OwR 0 ((hp.set i (.obj (heapO (L1 ++ L2)))).set j .dead).length ρ s k o
  rw [hlen]
  rcases hget k o hk with ⟨rfl,rfl⟩ | ⟨rfl,rfl⟩ | ⟨h1,h2,h3⟩
  ·trivial
  ·refine ⟨fun e he=>?_,?_⟩
   ·rcases List.mem_append.1 he with he | he
    ·exact a1 e he
    ·exact b1 e he
   ·rw [List.map_append]
    refine List.nodup_append.2 ⟨a2,b2,fun x hx y hy e=>?_⟩
    obtain ⟨u,hu,rfl⟩:=List.mem_map.1 hx
    obtain ⟨v,hv,rfl⟩:=List.mem_map.1 hy
    exact hst.sep k j _ _ hij hi hj u.b ⟨u,hu,rfl⟩ ⟨v,hv,e.symm⟩
  ·exact hst.hp k o h3
 ·obtain ⟨k',p,g1,g2,g3⟩:=hblk k o b hk hb
  obtain ⟨l',q,g4,g5,g6⟩:=hblk l o' b hl hb'
  by_cases e:k' = l'
  ·subst e
   have hkj:k ≠ j:=fun e=>by
    rcases hget k o hk with ⟨_,rfl⟩ | ⟨e1,_⟩ | ⟨_,h2,_⟩
    ·exact hb.elim
    ·exact hij (e1.symm.trans e)
    ·exact h2 e
   have hlj:l ≠ j:=fun e=>by
    rcases hget l o' hl with ⟨_,rfl⟩ | ⟨e1,_⟩ | ⟨_,h2,_⟩
    ·exact hb'.elim
    ·exact hij (e1.symm.trans e)
    ·exact h2 e
   rcases g3 with g3 | ⟨g3,g3'⟩ <;> rcases g6 with g6 | ⟨g6,g6'⟩
   ·exact hkl (g3.symm.trans g6)
   ·exact hkj (g3.symm.trans g6')
   ·exact hlj (g6.symm.trans g3')
   ·exact hkl (g3.trans g6.symm)
  ·exact hst.sep k' l' p q e g1 g4 b g2 g5
 ·obtain ⟨k',p,g1,g2,_⟩:=hblk k o b hk hb
  exact hst.own k' p b g1 g2
end
theorem Rabs_abs (z : Int) (h0:-128≤z) (h1:z≤127):Abs Tryz.prog 84 [ex (.int .i8 z)] (ex (.int .i64 (z.natAbs:Nat))):=by
 by_cases hz:z<0
 ·refine Ab Tryz.func84 fun s0 => ?_
  rw [Tryz.ntmps84]
  repeat (first | refine AWs.q rfl rfl ?_;refine ⟨_,Qs.conv64 (ao rfl) (tab_of rfl) (tab_of rfl) (by omega) (by omega),?_⟩ | refine AWs.q rfl rfl ?_;refine ⟨_,Qs.neg (ao rfl) (by omega) (by omega),?_⟩ | apply AWp.seq | apply AWp.region | (refine AWs.q rfl rfl ?_;first | (apply Gt.move;refine ⟨_,Qs.move (ao rfl),?_⟩) | (apply Gt.assign;refine ⟨_,Qs.assign (ao rfl),?_⟩) | (apply Gt.bin;refine ⟨_,Qs.cmpT rfl (ao rfl) (ao rfl) (by first | (simp only [cmpP,List.length_cons,List.length_nil];omega) | (simp [cmpP];done) | (simp [cmpP];omega)),?_⟩)) | apply AWl.nil | apply Yn | apply AWp.ret | apply AThen.ret | (apply Gc.cond;refine Ct ?_))
  exact Fin.ret (Rets.of1 (ResV.tmp rfl rfl) (D.le.of_eq (by congr 2;omega)))
 ·refine Ab Tryz.func84 fun s0 => ?_
  rw [Tryz.ntmps84]
  repeat (first | refine AWs.q rfl rfl ?_;refine ⟨_,Qs.conv64 (ao rfl) (tab_of rfl) (tab_of rfl) (by omega) (by omega),?_⟩ | apply AWp.seq | apply AWp.region | (refine AWs.q rfl rfl ?_;first | (apply Gt.move;refine ⟨_,Qs.move (ao rfl),?_⟩) | (apply Gt.assign;refine ⟨_,Qs.assign (ao rfl),?_⟩) | (apply Gt.bin;refine ⟨_,Qs.cmpF rfl (ao rfl) (ao rfl) (by first | (simp only [cmpP,List.length_cons,List.length_nil];omega) | (simp [cmpP];done) | (simp [cmpP];omega)),?_⟩)) | apply AWl.nil | apply Yn | apply AWp.skip | apply AWp.ret | (apply Gc.cond;refine Cf ?_))
  exact Fin.ret (Rets.of1 (ResV.tmp rfl rfl) (D.le.of_eq (by congr 2;omega)))
def lft (deg : Int) (r:Nat→Int):Nat→Int
 | 0=>deg
 | j+1=>lft deg r j - ((r (j+1)).natAbs:Nat) % (lft deg r j+1)
theorem lft_in {deg : Int} (r:Nat→Int) (h:0≤deg):∀ j,0≤lft deg r j∧lft deg r j≤deg
 | 0=>⟨h,Int.le_refl _⟩
 | j+1=>by
  have ih:=lft_in r h j
  have h1:=Int.emod_nonneg ((r (j+1)).natAbs:Int) (show lft deg r j+1 ≠ 0 by omega)
  have h2:=Int.emod_lt_of_pos ((r (j+1)).natAbs:Int) (show 0<lft deg r j+1 by omega)
  simp only [lft]
  omega
def expE (deg : Int) (r:Nat→Int) (n:Nat):Nat→Int:=fun j=>if j<n then ((r (j+1)).natAbs:Nat) % (lft deg r j+1) else 0
theorem expE_in {deg : Int} (r:Nat→Int) (h:0≤deg) (n:Nat):In8 (expE deg r n) 0 deg:=fun j _=>by
 unfold expE
 have ih:=lft_in r h j
 split
 ·have h1 := Int.emod_nonneg ((r (j + 1)).natAbs : Int) (show lft deg r j + 1 ≠ 0 by omega)
  have h2:=Int.emod_lt_of_pos ((r (j+1)).natAbs:Int) (show 0<lft deg r j+1 by omega)
  omega
 ·omega
theorem expE_set (deg : Int) (r:Nat→Int) (k:Nat):setM (expE deg r k) k (((r (k+1)).natAbs:Nat) % (lft deg r k+1)) = expE deg r (k+1):=by
 funext j
 simp only [setM,expE]
 rcases Nat.lt_trichotomy j k with h | h | h
 ·rw [if_neg (by omega),if_pos h,if_pos (by omega)]
 ·subst h;simp
 ·rw [if_neg (by omega),if_neg (by omega),if_neg (by omega)]
def rawT (deg : Int) (n:Nat) (r:Nat→Int):List Tm:=sclL ((Int.tmod (r 0) 4:Int):Rat) [⟨1,expE deg r n⟩]
def madeTo (deg : Int) (n:Nat) (X:List (Nat→Int)):List Tm:=X.foldl (fun a r=>mrg a (rawT deg n r)) []
def madeP (X : List (Nat→Int)) (n:Nat) (deg:Int) (terms:Nat):List Tm:=madeTo deg (min n 4) (X.take (min X.length terms))
theorem tmod4 (z : Int):-3≤Int.tmod z 4∧Int.tmod z 4≤3:=by
 rcases Int.le_total 0 z with h | h
 ·rw [Int.tmod_eq_emod_of_nonneg h];omega
 ·have:Int.tmod z 4 = -((-z) % 4):=by
   rw [← Int.tmod_eq_emod_of_nonneg (by omega),Int.neg_tmod,Int.neg_neg]
  omega
theorem sclL_pb {c : Rat} {P:List Tm} {n N N0:Nat} {d:Int} (h:PB P n N d) (hs:RSz c N0):PB (sclL c P) n (N0+N) d:=by
 unfold sclL
 split
 ·exact PB.nil
 ·rename_i hc
  have:=tms_pb (t:=⟨c,fun _=>0⟩) (d0:=0) h hc hs fun i _=>⟨Int.le_refl _,Int.le_refl _⟩
  rwa [Int.zero_add] at this
theorem one_pb {m : Nat→Int} {d:Int} (h:In8 m 0 d):PB [⟨1,m⟩] 1 1 d:=PB.single (show (1:Rat) ≠ 0 by decide) (rsz_one) h
where rsz_one : RSz (1:Rat) 1:=rsz_sm (x:=1) (by omega) (by omega)
theorem tmod_sz (z : Int):RSz ((Int.tmod z 4:Int):Rat) 1:=by
 have:=tmod4 z
 exact rsz_sm (by omega) (by omega)
theorem rawT_pb {deg : Int} (n:Nat) (r:Nat→Int) (h:0≤deg):PB (rawT deg n r) 1 2 deg:=sclL_pb (one_pb (expE_in r h n)) (tmod_sz _)
theorem madeTo_pb {deg : Int} {n:Nat} (h:0≤deg):∀ (X:List (Nat→Int)) (A:List Tm) (k K:Nat),PB A k K deg→PB (X.foldl (fun a r=>mrg a (rawT deg n r)) A) (k+X.length) (K+X.length*3) deg
 | [],A,k,K,h=>h
 | r :: X,A,k,K,hA=>by
  have h1:=(hA.add (rawT_pb n r h)).mono (Nat.le_refl _) (Nat.le_refl _) (Int.max_le.2 ⟨Int.le_refl _,Int.le_refl _⟩)
  have:=madeTo_pb (n:=n) h X _ _ _ h1
  exact this.mono (by simp;omega) (by simp;omega) (Int.le_refl _)
theorem madeP_pb (X : List (Nat→Int)) (n:Nat) {deg:Int} (terms:Nat) (h:0≤deg):PB (madeP X n deg terms) terms (terms*3) deg:=by
 have:=madeTo_pb (n:=min n 4) h (X.take (min X.length terms)) [] 0 0 PB.nil
 have hl:(X.take (min X.length terms)).length≤terms:=by rw [List.length_take];omega
 exact this.mono (by omega) (by omega) (Int.le_refl _)
theorem madeTo_take_pb (X : List (Nat→Int)) (n:Nat) {deg:Int} {terms k:Nat} (h:0≤deg) (hk:k≤terms):PB (madeTo deg n (X.take k)) terms (terms*3) deg:=by
 have:=madeTo_pb (n:=n) h (X.take k) [] 0 0 PB.nil
 have hl:(X.take k).length≤terms:=by rw [List.length_take];omega
 exact this.mono (by omega) (by omega) (Int.le_refl _)
theorem foldl_i5 {α : Type} (f:α→(Nat→Int)→α) (b:α) {X:List (Nat→Int)} {k:Nat} (h:k<X.length):(X.take (k+1)).foldl f b = f ((X.take k).foldl f b) (i5At X k):=by
 have e:X.take (k+1) = X.take k ++ [i5At X k]:=by
  rw [List.take_add_one,List.getElem?_eq_getElem h,i5At,List.getD_eq_getElem?_getD,List.getElem?_eq_getElem h]
  rfl
 rw [e,List.foldl_append]
 rfl
def Raw8 (X : List (Nat→Int)):Prop:=∀ r∈X,∀ j,j<5→-128≤r j∧r j≤127
theorem RMade_abs (T : Nat) (X:List (Nat→Int)) (n terms:Nat) (deg:Int) (hX:Raw8 X) (hn:n≤8) (ht:terms≤1000) (h0:0≤deg) (hd:deg≤1000):Abs Tryz.prog 42 [agD [r5D T X],ex (.int .i64 (n:Nat)),ex (.int .i64 deg),ex (.int .i64 (terms:Nat))] (polD (madeP X n deg terms)):=by
 refine Ab Tryz.func42 fun s0=>?_
 rw [Tryz.ntmps42]
 repeat (first | apply AWp.seq | apply AWp.region | (apply Ga.box;refine Bx ?_) | (apply Ga.b0;refine AWs.b0 (tab_of rfl) (tab_of rfl) rfl rfl rfl rfl rfl ?_) | (refine AWs.q rfl rfl ?_;(apply Gt.assign;refine ⟨_,Qs.assign (ao rfl),?_⟩)) | apply AWl.nil | apply Yn | apply AWp.block)
 refine AWp.loop (fun mz σ=>∃ k,k≤min X.length terms∧mz = min X.length terms - k∧σ = ⟨[(1,.d (ex (.int .i64 (n:Nat)))),(2,.d (ex (.int .i64 deg))),(3,.d (ex (.int .i64 (terms:Nat)))),(4,.ptr 0 0),(9,.d (polD (madeTo deg (min n 4) (X.take k)))),(10,.d (ex (.int .i64 (k:Nat))))],[.var 88 ([r5D T X].map .d)]⟩) ?le ⟨0,by omega,rfl,rfl⟩ ?round
 case le=>exact AS.le_of (by repeat (first | exact FrLe.nil | refine Yd ?_ | refine Yp ?_ | refine FrLe.cons rfl (AVle.ownD rfl (D.le.refl _)) ?_)) (by repeat (first | exact HpLe.nil | apply Yv))
 case round =>
  rintro mz _ ⟨k,hk,rfl,rfl⟩
  by_cases hlt:k<min X.length terms
  ·have hkX : k < X.length := by omega
   have hkt:k<terms:=by omega
   repeat (first | apply AWp.seq | apply AWp.region | (apply Ga.alloc;refine Al ?_) | (apply Ga.store;refine Sf ?_) | (refine AWs.q rfl rfl ?_;first | (apply Gt.move;refine ⟨_,Qs.move (ao rfl),?_⟩) | (apply Gt.assign;refine ⟨_,Qs.assign (ao rfl),?_⟩) | (apply Gt.load;refine ⟨_,Qs.ldD1 (ao rfl) rfl (tab_of rfl) rfl rfl,?_⟩) | (apply Gt.fieldAddr;refine ⟨_,Qs.fldP (ao rfl) (tab_of rfl) rfl (tab_of rfl) rfl,?_⟩) | (apply Gt.len;refine ⟨_,Qs.lenN rfl (tab_of rfl),?_⟩) | (apply Gt.bin;refine ⟨_,Qs.cmpT rfl (ao rfl) (ao rfl) (by first | (simp only [cmpP,List.length_cons,List.length_nil];omega) | (simp [cmpP];done) | (simp [cmpP];omega)),?_⟩) | (apply Gt.pick;refine ⟨_,Qs.pickT (ao rfl) (ao rfl),?_⟩) | (apply Gt.build;(refine Bq.arr (tab_of rfl) (tab_of rfl) rfl rfl ?_;(repeat ((first | refine ⟨_,PartOk.ag (ao rfl),?_⟩ | refine ⟨_,PartOk.one rfl (by first | exact One.ex_ rfl | exact One.sl | exact One.ep),?_⟩);refine ⟨_,rfl,?_⟩));refine ⟨_,rfl,?_⟩))) | (refine AWs.qG rfl rfl rfl rfl rfl ?_;first | (apply Gt.move;refine ⟨_,Qs.move (ao rfl),?_⟩) | (apply Gt.bin;refine ⟨_,Qs.cmpT rfl (ao rfl) (ao rfl) (by first | (simp only [cmpP,List.length_cons,List.length_nil];omega) | (simp [cmpP];done) | (simp [cmpP];omega)),?_⟩)) | apply AWl.nil | apply Yn | apply AWp.block | apply AWp.skip | (apply Gc.cond;refine Ct ?_))
   refine AWp.loop (fun mz σ=>∃ i,i≤min n 4∧mz = min n 4 - i∧σ = ⟨[(1,.d (ex (.int .i64 (n:Nat)))),(2,.d (ex (.int .i64 deg))),(3,.d (ex (.int .i64 (terms:Nat)))),(4,.ptr 0 0),(9,.d (polD (madeTo deg (min n 4) (X.take k)))),(10,.d (ex (.int .i64 (k:Nat)))),(11,.ptr 1 0),(12,.d (ex (.int .i64 (lft deg (i5At X k) i)))),(13,.d (ex (.int .i64 (i:Nat))))],[.var 88 ([r5D T X].map .d),.var 70 ((monC (expE deg (i5At X k) i)).map .d)]⟩) ?lei ⟨0,by omega,rfl,rfl⟩ ?roundi
   case lei=>exact AS.le_of (by repeat (first | exact FrLe.nil | refine Yd ?_ | refine Yp ?_)) (by repeat (first | exact HpLe.nil | apply Yv))
   case roundi =>
    rintro mz _ ⟨i,hi,rfl,rfl⟩
    by_cases hlti:i<min n 4
    ·have hl:=lft_in (i5At X k) h0 i
     have hr:=hX _ (i5At_mem hkX) (i+1) (by omega)
     have hs:setM (expE deg (i5At X k) i) i (((i5At X k (i+1)).natAbs:Nat) % (lft deg (i5At X k) i+1)) i = ((i5At X k (i+1)).natAbs:Nat) % (lft deg (i5At X k) i+1):=if_pos rfl
     have he1:=Int.emod_nonneg ((i5At X k (i+1)).natAbs:Int) (show lft deg (i5At X k) i+1 ≠ 0 by omega)
     have he2:=Int.emod_lt_of_pos ((i5At X k (i+1)).natAbs:Int) (show 0<lft deg (i5At X k) i+1 by omega)
     repeat (first | refine AWs.q rfl rfl ?_;refine ⟨_,Qs.succL (ao rfl) (ao rfl) (by omega),?_⟩ | refine AWs.q rfl rfl ?_;refine ⟨_,Qs.ldEX1 (ao rfl) (tab_of rfl) rfl (CellAt.r5 (show i+1<5 by omega)),?_⟩ | apply AWp.seq | apply AWp.region | (apply Ga.store;refine AWs.stX1 (ao rfl) (ao rfl) rfl (tab_of rfl) (by first | exact One.ex_ rfl | exact One.sl | exact One.ep) (SetAt.mon (by first | omega | (simp;omega))) rfl ?_) | (refine AWs.q rfl rfl ?_;first | (apply Gt.move;refine ⟨_,Qs.move (ao rfl),?_⟩) | (apply Gt.assign;refine ⟨_,Qs.assign (ao rfl),?_⟩) | (apply Gt.load;first | refine ⟨_,Qs.ldD1 (ao rfl) rfl (tab_of rfl) rfl rfl,?_⟩ | refine ⟨_,Qs.ldX1 (ao rfl) rfl (tab_of rfl) rfl (CellAt.mon0 (by first | omega | (simp;omega))),?_⟩) | (apply Gt.fieldAddr;refine ⟨_,Qs.fldP (ao rfl) (tab_of rfl) rfl (tab_of rfl) rfl,?_⟩) | (apply Gt.indexAddr;first | refine ⟨_,Qs.indexN rfl (ao rfl) (tab_of rfl) (tab_of rfl) rfl (by first | omega | (simp;omega)),?_⟩ | refine ⟨_,Qs.ixP (ao rfl) (ao rfl) (tab_of rfl) (tab_of rfl) (by first | omega | (simp;omega)),?_⟩ | refine ⟨_,Qs.ixE (ao rfl) (ao rfl) (tab_of rfl) (tab_of rfl) (by first | omega | (simp;omega)),?_⟩) | (apply Gt.add;first | refine ⟨_,Qs.succ (ao rfl) (ao rfl) (by omega),?_⟩ | refine ⟨_,Qs.add (ao rfl) (ao rfl) (by omega) (by omega),?_⟩) | (apply Gt.sub;refine ⟨_,Qs.sub (ao rfl) (ao rfl) (by omega) (by omega),?_⟩) | (apply Gt.rem;refine ⟨_,Qs.rem (ao rfl) (ao rfl) (by omega) (by omega),?_⟩) | (apply Gt.bin;refine ⟨_,Qs.cmpT rfl (ao rfl) (ao rfl) (by first | (simp only [cmpP,List.length_cons,List.length_nil];omega) | (simp [cmpP];done) | (simp [cmpP];omega)),?_⟩) | (apply Gt.pick;refine ⟨_,Qs.pickT (ao rfl) (ao rfl),?_⟩) | (apply Gt.callv;refine ⟨_,Qs.call (ao rfl) (Rabs_abs (i5At X k (i+1)) hr.1 hr.2) (by first | ((repeat (first | exact ArgsLe.nil | refine ArgsLe.cons rfl (D.le.refl _) ?_ | refine ArgsLe.cons rfl D.le_nil ?_));done) | fail),?_⟩)) | (refine AWs.qG rfl rfl rfl rfl rfl ?_;first | (apply Gt.move;refine ⟨_,Qs.move (ao rfl),?_⟩) | (apply Gt.bin;refine ⟨_,Qs.cmpT rfl (ao rfl) (ao rfl) (by first | (simp only [cmpP,List.length_cons,List.length_nil];omega) | (simp [cmpP];done) | (simp [cmpP];omega)),?_⟩)) | apply AWl.nil | apply Yn | apply AWp.block | apply AWp.skip | apply ABlock.normal | (apply Gc.cond;refine Ct ?_))
     refine ALoop.next (min n 4 - (i+1)) (by omega) ⟨i+1,by omega,rfl,rfl⟩ ?_
     exact AS.le_of (by repeat (first | exact FrLe.nil | refine Yd ?_ | refine Yp ?_ | refine FrLe.cons rfl (AVle.int (by rw [hs];rfl)) ?_)) (by repeat (first | exact HpLe.nil | refine HpLe.cons (OwLe.varD (by rw [expE_set])) ?_ | apply Yv))
    ·obtain rfl : i = min n 4 := by omega
     have hrm:=i5At_mem hkX
     have hr0:=hX _ hrm 0 (by omega)
     have h4:=tmod4 (i5At X k 0)
     have h4':-3≤Int.tmod (X.getD k default 0) 4∧Int.tmod (X.getD k default 0) 4≤3:=h4
     have hb:=madeTo_take_pb X (min n 4) (terms:=terms) h0 (Nat.le_of_lt hkt)
     have hbl:=hb.len
     have ht:=rawT_pb (min n 4) (i5At X k) h0
     have htl:=ht.len
     have h1:=one_pb (expE_in (i5At X k) h0 (min n 4))
     have hz:(i5At X k 0).tmod 4 = IntKind.i64.wrap ((i5At X k 0).tmod 4):=(IntWalk.i64_in _ (by omega)).symm
     have hst:madeTo deg (min n 4) (X.take (k+1)) = mrg (madeTo deg (min n 4) (X.take k)) (rawT deg (min n 4) (i5At X k)):=foldl_i5 (fun a r=>mrg a (rawT deg (min n 4) r)) [] hkX
     rcases (show n≤4∨4<n by omega) with hn4 | hn4
     all_goals
      repeat (first | apply AWp.seq | apply AWp.region | (refine AWs.q rfl rfl ?_;first | (apply Gt.move;refine ⟨_,Qs.move (ao rfl),?_⟩) | (apply Gt.bin;first | refine ⟨_,Qs.cmpT rfl (ao rfl) (ao rfl) (by first | (simp only [cmpP,List.length_cons,List.length_nil];omega) | (simp [cmpP];done) | (simp [cmpP];omega)),?_⟩ | refine ⟨_,Qs.cmpF rfl (ao rfl) (ao rfl) (by first | (simp only [cmpP,List.length_cons,List.length_nil];omega) | (simp [cmpP];done) | (simp [cmpP];omega)),?_⟩) | (apply Gt.pick;first | refine ⟨_,Qs.pickT (ao rfl) (ao rfl),?_⟩ | refine ⟨_,Qs.pickF (ao rfl) (ao rfl),?_⟩)) | refine AWs.sG rfl rfl rfl rfl rfl ?_ | (refine AWs.qG rfl rfl rfl rfl rfl ?_;first | (apply Gt.move;refine ⟨_,Qs.move (ao rfl),?_⟩) | (apply Gt.bin;refine ⟨_,Qs.cmpF rfl (ao rfl) (ao rfl) (by first | (simp only [cmpP,List.length_cons,List.length_nil];omega) | (simp [cmpP];done) | (simp [cmpP];omega)),?_⟩)) | apply AWl.nil | apply Yn | apply AWp.exit | apply AThen.exit | apply ABlock.hit | apply ALoop.exit | (apply Gc.cond;refine Cf ?_))
      refine AWp.dr' (DrawOk.self (by kernel_rfl)) [[],[],[(58,1)],[],[(59,2),(60,3)],[(61,4)],[(62,5)],[(63,6)],[(64,7)],[(65,8)],[],[],[(67,10),(68,11)],[(69,12)],[(66,9),(70,13)],[(57,0),(71,14)]] [[],[],[1],[],[1,2,3],[1,2,3,4],[1,2,3,4,5],[1,2,3,4,5,6],[1,2,3,4,5,6,7],[1,2,3,4,5,6,7,8],[1,2,3,4,5,6,7,8,9],[],[1,2,3,4,5,6,7,8,9,10,11],[1,2,3,4,5,6,7,8,9,10,11,12],[1,2,3,4,5,6,7,8,9,10,11,12,13],[0,1,2,3,4,5,6,7,8,9,10,11,12,13,14]] rfl (by kernel_rfl) (by kernel_rfl) (by kernel_rfl) ?_
      repeat (first | refine ⟨_,rfl,?_⟩ | (apply Gh.move;(refine Xq (Qs.move (ah rfl)) ?_)) | (apply Gh.load;first | (refine Xq (Qs.ldD (ah rfl) rfl (tab_of rfl) rfl rfl) ?_) | (refine Xq (Qs.ldD1 (ah rfl) rfl (tab_of rfl) rfl rfl) ?_) | (refine Xq (Qs.ldE1 (ah rfl) (tab_of rfl) rfl rfl) ?_)) | (apply Gh.fieldAddr;(refine Xq (Qs.fldP (ah rfl) (tab_of rfl) rfl (tab_of rfl) rfl) ?_)) | (apply Gh.indexAddr;first | (refine Xq (Qs.indexN rfl (ah rfl) (tab_of rfl) (tab_of rfl) rfl (by first | omega | (simp;omega))) ?_) | (refine Xq (Qs.ixL (ah rfl) (ah rfl) (tab_of rfl) (tab_of rfl) (by decide) (by decide) rfl) ?_)) | (apply Gh.rem;(refine Xq (Qs.remT (ah rfl) (ah rfl) (by decide)) ?_)) | (apply Gh.bslice;(refine Xq (Bq.slice1 (ah rfl) (tab_of rfl) (tab_of rfl) rfl rfl rfl rfl rfl) ?_)) | (apply Gh.conv;(refine Xq (Qs.conv64 (ah rfl) (tab_of rfl) (tab_of rfl) (by omega) (by omega)) ?_)) | (apply Gh.build;(refine Hq rfl ?_;refine Bq.build (tab_of rfl) rfl rfl rfl ?_;(repeat ((first | refine ⟨_,PartOk.ag (ah rfl),?_⟩ | refine ⟨_,PartOk.one rfl (by first | exact One.ex_ rfl | exact One.sl | exact One.ep),?_⟩);refine ⟨_,rfl,?_⟩));refine ⟨_,rfl,?_⟩;refine ⟨_,rfl,?_⟩)) | (apply Gh.callv;first | (refine Xq (Qs.call (ah rfl) (RWhole_abs ((i5At X k 0).tmod 4) (by omega) (by omega)) (by first | ((repeat (first | exact ArgsLe.nil | refine ArgsLe.cons rfl (D.le.refl _) ?_ | refine ArgsLe.cons rfl D.le_nil ?_));done) | fail)) ?_) | (refine Xq (Qs.call (ah rfl) (RWhole_abs 1 (by omega) (by omega)) (by first | ((repeat (first | exact ArgsLe.nil | refine ArgsLe.cons rfl (D.le.refl _) ?_ | refine ArgsLe.cons rfl D.le_nil ?_));done) | fail)) ?_) | (refine Xq (Qs.call (ah rfl) (RScale_abs ((Int.tmod (i5At X k 0) 4:Int):Rat) [⟨1,expE deg (i5At X k) (min n 4)⟩] 1 1 (tmod_sz _) h1.sz (h1.ex.mono (Int.le_refl _) (by omega)) (by simp) (by omega)) (by first | ((repeat (first | exact ArgsLe.nil | refine ArgsLe.cons rfl (D.le.refl _) ?_ | refine ArgsLe.cons rfl D.le_nil ?_));done) | fail)) ?_) | (refine Xq (Qs.call (ah rfl) (RAdd_pol (madeTo deg (min n 4) (X.take k)) (rawT deg (min n 4) (i5At X k)) (terms*3) 2 hb.sz ht.sz (by omega) (by omega)) (by first | ((repeat (first | exact ArgsLe.nil | refine ArgsLe.cons rfl (D.le.refl _) ?_ | refine ArgsLe.cons rfl D.le_nil ?_));done) | fail)) ?_)))
      repeat (first | apply AWp.region | (refine AWs.q rfl rfl ?_;first | (apply Gt.move;refine ⟨_,Qs.move (ao rfl),?_⟩) | (apply Gt.assign;refine ⟨_,Qs.assign (ao rfl),?_⟩) | (apply Gt.add;refine ⟨_,Qs.succ (ao rfl) (ao rfl) (by omega),?_⟩)) | apply AWl.nil | apply Yn | apply ABlock.normal)
      refine ALoop.next (min X.length terms - (k+1)) (by omega) ⟨k+1,by omega,rfl,rfl⟩ ?_
      exact AS.le_of (by repeat (first | exact FrLe.nil | refine Yd ?_ | refine Yp ?_ | refine FrLe.cons rfl (AVle.le (D.le_pol hst.symm)) ?_)) (by repeat (first | exact HpLe.nil | apply Yv))
  ·obtain rfl : k = min X.length terms := by omega
   rcases (show X.length≤terms∨terms<X.length by omega) with ht | ht
   all_goals
    repeat (first | apply AWp.seq | apply AWp.region | (refine AWs.q rfl rfl ?_;first | (apply Gt.move;refine ⟨_,Qs.move (ao rfl),?_⟩) | (apply Gt.assign;refine ⟨_,Qs.assign (ao rfl),?_⟩) | (apply Gt.load;refine ⟨_,Qs.ldD1 (ao rfl) rfl (tab_of rfl) rfl rfl,?_⟩) | (apply Gt.fieldAddr;refine ⟨_,Qs.fldP (ao rfl) (tab_of rfl) rfl (tab_of rfl) rfl,?_⟩) | (apply Gt.len;refine ⟨_,Qs.lenN rfl (tab_of rfl),?_⟩) | (apply Gt.bin;first | refine ⟨_,Qs.cmpT rfl (ao rfl) (ao rfl) (by first | (simp only [cmpP,List.length_cons,List.length_nil];omega) | (simp [cmpP];done) | (simp [cmpP];omega)),?_⟩ | refine ⟨_,Qs.cmpF rfl (ao rfl) (ao rfl) (by first | (simp only [cmpP,List.length_cons,List.length_nil];omega) | (simp [cmpP];done) | (simp [cmpP];omega)),?_⟩) | (apply Gt.pick;first | refine ⟨_,Qs.pickT (ao rfl) (ao rfl),?_⟩ | refine ⟨_,Qs.pickF (ao rfl) (ao rfl),?_⟩)) | refine AWs.sG rfl rfl rfl rfl rfl ?_ | (refine AWs.qG rfl rfl rfl rfl rfl ?_;first | (apply Gt.move;refine ⟨_,Qs.move (ao rfl),?_⟩) | (apply Gt.bin;refine ⟨_,Qs.cmpF rfl (ao rfl) (ao rfl) (by first | (simp only [cmpP,List.length_cons,List.length_nil];omega) | (simp [cmpP];done) | (simp [cmpP];omega)),?_⟩)) | apply AWl.nil | apply Yn | apply AWp.exit | apply AWp.ret | apply AThen.exit | apply ABlock.hit | apply ALoop.exit | (apply Gc.cond;refine Cf ?_))
    exact Yf
def degL (P : List Tm):Int:=P.foldl (fun d t=>max d (sumTo t.m 8)) (-1)
theorem degL_take {P : List Tm} {k:Nat} (h:k<P.length):degL (P.take (k+1)) = max (degL (P.take k)) (sumTo (tAt P k).m 8):=foldl_tAt (fun d t=>max d (sumTo t.m 8)) (-1) h
theorem RmDegree_abs (a : Nat→Int) (h:In8 a (-1000000) 1000000):Abs Tryz.prog 71 [agD (monC a)] (ex (.int .i64 (sumTo a 8))):=by
 refine Ab Tryz.func71 fun s0=>?_
 rw [Tryz.ntmps71]
 apply Y1;refine Bx ?_;refine Wa ?_;apply Y0;apply Y1;refine Wa ?_;apply Y0;apply AWp.seq;apply Y1;refine Wa ?_;apply Y0;apply AWp.block
 refine AWp.loop (fun mz σ=>∃ k,k≤8∧mz = 8 - k∧σ = ⟨[(1,.ptr 0 0),(3,.d (ex (.int .i64 (sumTo a k)))),(4,.d (ex (.int .i64 (k:Nat))))],[.var 70 ((monC a).map .d)]⟩) ?le ⟨0,by omega,rfl,rfl⟩ ?round
 case le=>exact AS.le_of (by refine Yp ?_;refine Yd ?_;refine Yd ?_;exact FrLe.nil) (by apply Yv;exact HpLe.nil)
 case round =>
  rintro mz _ ⟨k,hk,rfl,rfl⟩
  by_cases hlt:k<8
  ·have hk2:=h k hlt
   have hb:=sumTo_bound h k (by omega)
   apply AWp.seq;apply Y1;refine Wm ?_;refine Wq Qz.cmpT ?_;apply Y0;refine Ct ?_;apply Ys;apply AWp.seq;apply AWp.block;apply AWp.region;refine Wm ?_;refine Wm ?_;refine Wq Qz.ixP ?_;refine Wq Qz.ldX1 ?_;refine Wq Qz.add ?_;refine Wa ?_;apply AWl.nil;apply ABlock.normal;apply Yn;apply AWp.region;refine Wm ?_;refine Wq Qz.succ ?_;refine Wa ?_;apply AWl.nil
   refine ALoop.next (8 - (k+1)) (by omega) ⟨k+1,by omega,rfl,rfl⟩ ?_
   exact AS.le_of (by refine Yp ?_;refine Yd ?_;refine Yd ?_;exact FrLe.nil) (by apply Yv;exact HpLe.nil)
  ·obtain rfl : k = 8 := by omega
   apply AWp.seq;apply Y1;refine Wm ?_;refine Wq Qz.cmpF ?_;apply Y0;refine Cf ?_;apply AWp.exit;apply AThen.exit;apply ALoop.exit;apply ABlock.hit;apply Yn;apply Y1;refine Wm ?_;refine Wa ?_;apply Y0;apply AWp.ret
   exact Yf
theorem RDeg_abs (P : List Tm) (hP:PIn P 0 65535) (hn:P.length≤1000000):Abs Tryz.prog 24 [polD P] (ex (.int .i64 (degL P))):=by
 refine Ab Tryz.func24 fun s0=>?_
 rw [Tryz.ntmps24]
 apply Y1;refine Wa ?_;apply Y0;apply Y1;refine Wa ?_;apply Y0;apply AWp.seq;apply Y1;refine Wa ?_;apply Y0;apply AWp.block
 refine AWp.loop (fun mz σ=>∃ k,k≤P.length∧mz = P.length - k∧σ = ⟨[(0,.d (polD P)),(3,.d (ex (.int .i64 (degL (P.take k))))),(4,.d (ex (.int .i64 (k:Nat))))],[]⟩) ?le ⟨0,by omega,rfl,rfl⟩ ?round
 case le=>exact AS.le_of (by refine Yd ?_;refine Yd ?_;refine Yd ?_;exact FrLe.nil) (by exact HpLe.nil)
 case round =>
  rintro mz _ ⟨k,hk,rfl,rfl⟩
  by_cases hlt:k<P.length
  ·have hin:=hP _ (tAt_mem hlt)
   have hst:=degL_take hlt
   apply AWp.seq;apply Y1;refine Wm ?_;refine Wm ?_;refine Wq Qz.lenN ?_;refine Wq Qz.cmpT ?_;apply Y0;refine Ct ?_;apply Ys;apply AWp.seq;apply AWp.block;apply AWp.region;refine Wm ?_;refine Wm ?_;refine Wm ?_;refine Wq Qz.indexN ?_;refine Wq Qz.fldE ?_;refine Wq Qz.loadEf ?_;refine Wq (Qz.call (RmDegree_abs (tAt P k).m (hin.mono (by omega) (by omega)))) ?_;refine Wq Qz.max ?_;refine Wa ?_;apply AWl.nil;apply ABlock.normal;apply Yn;apply AWp.region;refine Wm ?_;refine Wq Qz.succ ?_;refine Wa ?_;apply AWl.nil
   refine ALoop.next (P.length - (k+1)) (by omega) ⟨k+1,by omega,rfl,rfl⟩ ?_
   exact AS.le_of (by refine Yd ?_;refine FrLe.cons rfl (AVle.int hst.symm) ?_;refine Yd ?_;exact FrLe.nil) (by exact HpLe.nil)
  ·obtain rfl : k = P.length := by omega
   apply AWp.seq;apply Y1;refine Wm ?_;refine Wm ?_;refine Wq Qz.lenN ?_;refine Wq Qz.cmpF ?_;apply Y0;refine Cf ?_;apply AWp.exit;apply AThen.exit;apply ALoop.exit;apply ABlock.hit;apply Yn;apply Y1;refine Wm ?_;refine Wa ?_;apply Y0;apply AWp.ret
   exact Fin.ret (Rets.of1 (ResV.tmp rfl rfl) (D.le.of_eq (by rw [List.take_length])))
def ptD (r : Nat→List D):List D:=r 0 ++ (r 1 ++ (r 2 ++ (r 3 ++ (r 4 ++ (r 5 ++ (r 6 ++ r 7))))))
theorem ptD_take {r : Nat→List D} (h:∀ j,(r j).length = 4) {k:Nat} (hk:k<8):((ptD r).drop (k*4)).take 4 = r k∧k*4+4≤(ptD r).length:=by
 have e:∀ (a b:List D),a.length = 4→(a ++ b).take 4 = a:=fun a b ha=>by rw [← ha,List.take_left]
 have e':∀ (a b:List D) (n:Nat),a.length = 4→(a ++ b).drop (4+n) = b.drop n:=fun a b n ha=>by rw [← ha,List.drop_length_add_append]
 have hl:(ptD r).length = 32:=by simp only [ptD,List.length_append,h]
 refine ⟨?_,by omega⟩
 unfold ptD
 match k,hk with
 | 0,_=>exact e _ _ (h 0)
 | 1,_=>rw [e' _ _ 0 (h 0)];exact e _ _ (h 1)
 | 2,_=>rw [e' _ _ 4 (h 0),e' _ _ 0 (h 1)];exact e _ _ (h 2)
 | 3,_=>rw [e' _ _ 8 (h 0),e' _ _ 4 (h 1),e' _ _ 0 (h 2)];exact e _ _ (h 3)
 | 4,_=>rw [e' _ _ 12 (h 0),e' _ _ 8 (h 1),e' _ _ 4 (h 2),e' _ _ 0 (h 3)];exact e _ _ (h 4)
 | 5,_=>rw [e' _ _ 16 (h 0),e' _ _ 12 (h 1),e' _ _ 8 (h 2),e' _ _ 4 (h 3),e' _ _ 0 (h 4)];exact e _ _ (h 5)
 | 6,_=>rw [e' _ _ 20 (h 0),e' _ _ 16 (h 1),e' _ _ 12 (h 2),e' _ _ 8 (h 3),e' _ _ 4 (h 4),e' _ _ 0 (h 5)];exact e _ _ (h 6)
 | 7,_=>rw [e' _ _ 24 (h 0),e' _ _ 20 (h 1),e' _ _ 16 (h 2),e' _ _ 12 (h 3),e' _ _ 8 (h 4),e' _ _ 4 (h 5),e' _ _ 0 (h 6),List.drop_zero,← h 7,List.take_length]
theorem PartAt.pt {r : Nat→List D} (h:∀ j,(r j).length = 4) {k:Nat} (hk:k<8):PartAt (ptD r) (0+k*4) 4 (r k):=by
 rw [Nat.zero_add]
 exact ⟨(ptD_take h hk).2,(ptD_take h hk).1⟩
def setR (r : Nat→List D) (k:Nat) (es:List D):Nat→List D:=fun j=>if j = k then es else r j
theorem setR_len {r : Nat→List D} (h:∀ j,(r j).length = 4) {k:Nat} {es:List D} (he:es.length = 4) (j:Nat):(setR r k es j).length = 4:=by
 unfold setR
 split
 ·exact he
 ·exact h j
theorem SetAt.pt {r : Nat→List D} (h:∀ j,(r j).length = 4) {k:Nat} (hk:k<8) {es:List D} (he:es.length = 4):SetAt (ptD r) (0+k*4) es (ptD (setR r k es)):=by
 rw [Nat.zero_add]
 have hp:=ptD_take h hk
 refine ⟨by rw [he];exact hp.2,?_⟩
 have hl:∀ (r:Nat→List D),(∀ j,(r j).length = 4)→(ptD r).length = 32:=fun r h=>by simp only [ptD,List.length_append,h]
 have key:∀ (r:Nat→List D) (h:∀ j,(r j).length = 4) (i:Nat),i<32→(ptD r)[i]? = (r (i / 4))[i % 4]? := fun r h i hi=>by
  have h1:=(ptD_take h (k:=i / 4) (by omega)).1
  have h2:(((ptD r).drop (i / 4*4)).take 4)[i % 4]? = (ptD r)[i]? := by
   rw [List.getElem?_take,if_pos (Nat.mod_lt _ (by omega)),List.getElem?_drop]
   congr 1;omega
  rw [← h2,h1]
 apply List.ext_getElem?
 intro i
 by_cases hi:i<32
 ·rw [key _ (setR_len h he) i hi]
  unfold spl
  have ht:((ptD r).take (k*4)).length = k*4:=by rw [List.length_take,hl r h];omega
  by_cases h1:i<k*4
  ·rw [List.getElem?_append_left (by omega),List.getElem?_take,if_pos h1,key r h i hi,setR,if_neg (by omega)]
  ·rw [List.getElem?_append_right (by omega), ht]
   by_cases h2:i<k*4+4
   ·rw [List.getElem?_append_left (by omega), setR, if_pos (by omega)]
    congr 1;omega
   ·rw [List.getElem?_append_right (by omega), List.getElem?_drop, he, setR, if_neg (by omega), ← key r h i hi]
    congr 1;omega
 ·have h1 : (ptD (setR r k es)).length ≤ i := by rw [hl _ (setR_len h he)]; omega
  have h2:(spl (ptD r) (k*4) es).length≤i:=by
   unfold spl
   rw [List.length_append,List.length_append,List.length_take,List.length_drop,hl r h,he]
   omega
  rw [List.getElem?_eq_none h1,List.getElem?_eq_none h2]
def ptC (x : Nat→Rat):List D:=ptD fun j=>ratC (x j)
theorem rat_pow_succ (x : Rat) (n:Nat):x ^ (n+1) = x ^ n*x:=Rat.pow_succ x n
theorem RSz.pow {x : Rat} {N:Nat} (h:RSz x N):∀ n:Nat,RSz (x ^ n) (n*N+1)
 | 0=>by
  rw [Rat.pow_zero]
  exact (rsz_sm (x:=1) (by omega) (by omega)).mono (by omega)
 | n+1=>by
  rw [Rat.pow_succ]
  exact ((RSz.pow h n).mul h).mono (by rw [Nat.succ_mul];omega)
theorem Rpow_abs (x : Rat) (n N:Nat) (h:RSz x N) (hn:n≤65535) (hN:N≤1000000):Abs Tryz.prog 77 [agD (ratC x),ex (.int .i64 (n:Nat))] (agD (ratC (x ^ n))):=by
 refine Ab Tryz.func77 fun s0=>?_
 rw [Tryz.ntmps77]
 apply Y1;refine Bx ?_;refine Al ?_;apply Y0;apply Y1;refine Wq (Qz.call (RWhole_abs 1 (by omega) (by omega))) ?_;refine Al ?_;refine Sf ?_;apply Y0;apply AWp.seq;apply Y1;refine Wa ?_;apply Y0;apply AWp.block
 refine AWp.loop (fun mz σ=>∃ k,k≤n∧mz = n - k∧σ = ⟨[(1,.d (ex (.int .i64 (n:Nat)))),(2,.ptr 0 0),(4,.ptr 1 0),(5,.ptr 2 0),(6,.d (ex (.int .i64 (k:Nat))))],[.var 54 ((ratC x).map .d),.var 54 (([ex (.bool false),ex (.slice none 0 0),ex (.bool false),ex (.slice none 0 0)]:List D).map .d),.var 54 ((ratC (x ^ k)).map .d)]⟩) ?le ⟨0,by omega,rfl,rfl⟩ ?round
 case le=>exact AS.le_of (by refine Yd ?_;refine Yp ?_;refine Yp ?_;refine Yp ?_;refine Yd ?_;exact FrLe.nil) (by apply Yv;apply Yv;(refine HpLe.cons (OwLe.varD (by rw [Rat.pow_zero];rfl)) ?_);exact HpLe.nil)
 case round =>
  rintro mz _ ⟨k,hk,rfl,rfl⟩
  by_cases hlt:k<n
  ·have hp:=h.pow k
   have hk3:k*N≤65535*1000000:=Nat.mul_le_mul (by omega) hN
   apply AWp.seq;apply Y1;refine Wm ?_;refine Wm ?_;refine Wq Qz.cmpT ?_;apply Y0;refine Ct ?_;apply Ys;apply AWp.seq;apply AWp.block;apply AWp.region;refine Wq Qz.ldD ?_;refine Wq Qz.ldD ?_;refine Wq (Qz.call (RMul_abs (x ^ k) x (k*N+1) N hp h (by omega))) ?_;refine Sf ?_;apply AWl.nil;apply ABlock.normal;apply Yn;apply AWp.region;refine Wm ?_;refine Wq Qz.succ ?_;refine Wa ?_;apply AWl.nil
   refine ALoop.next (n - (k+1)) (by omega) ⟨k+1,by omega,rfl,rfl⟩ ?_
   exact AS.le_of (by refine Yd ?_;refine Yp ?_;refine Yp ?_;refine Yp ?_;refine Yd ?_;exact FrLe.nil) (by apply Yv;apply Yv;refine HpLe.cons (OwLe.varD (by rw [← rat_pow_succ])) ?_;exact HpLe.nil)
  ·obtain rfl : k = n := by omega
   apply AWp.seq;apply Y1;refine Wm ?_;refine Wm ?_;refine Wq Qz.cmpF ?_;apply Y0;refine Cf ?_;apply AWp.exit;apply AThen.exit;apply ALoop.exit;apply ABlock.hit;apply Yn;apply Y1;refine Wq Qz.ldD ?_;refine Sf ?_;apply Y0;apply AWp.ret
   exact Fin.ret (Rets.of1 (ResV.cell rfl rfl (tab_of rfl) rfl rfl rfl) (D.le.refl _))
theorem RpowZ_abs (x : Rat) (z:Int) (N:Nat) (h:RSz x N) (h0:0≤z) (hz:z≤65535) (hN:N≤1000000):Abs Tryz.prog 77 [agD (ratC x),ex (.int .i64 z)] (agD (ratC (x ^ z.toNat))):=by
 have:=Rpow_abs x z.toNat N h (by omega) hN
 rwa [Int.toNat_of_nonneg h0] at this
def monV (x : Nat→Rat) (m:Nat→Int):Nat→Rat
 | 0=>1
 | i+1=>monV x m i*x i ^ (m i).toNat
def tvX (x : Nat→Rat) (t:Tm) (i:Nat):Rat:=t.c*monV x t.m i
theorem tvX_succ (x : Nat→Rat) (t:Tm) (i:Nat):tvX x t i*x i ^ (t.m i).toNat = tvX x t (i+1):=by
 simp only [tvX,monV];grind
theorem tvX_zero (x : Nat→Rat) (t:Tm):tvX x t 0 = t.c:=by simp only [tvX,monV];grind
def evF (x : Nat→Rat) (P:List Tm):Rat:=P.foldl (fun s t=>s+tvX x t 8) 0
theorem evF_take {x : Nat→Rat} {P:List Tm} {k:Nat} (h:k<P.length):evF x (P.take (k+1)) = evF x (P.take k)+tvX x (tAt P k) 8:=foldl_tAt (fun s t=>s+tvX x t 8) 0 h
theorem tvX_sz {x : Nat→Rat} {t:Tm} {N E X:Nat} (ht:RSz t.c N) (hm:In8 t.m 0 E) (hx:∀ i,i<8→RSz (x i) X):∀ i,i≤8→RSz (tvX x t i) (N+i*(E*X+1))
 | 0,_=>by rw [tvX_zero];exact ht.mono (by omega)
 | i+1,hi=>by
  rw [← tvX_succ]
  have h1:=hm i (by omega)
  have h2:(t.m i).toNat*X≤E*X:=Nat.mul_le_mul_right X (by omega)
  refine ((tvX_sz ht hm hx i (by omega)).mul ((hx i (by omega)).pow (t.m i).toNat)).mono ?_
  rw [Nat.succ_mul];omega
theorem evF_sz {x : Nat→Rat} {T:Nat}:∀ {P:List Tm},(∀ t∈P,RSz (tvX x t 8) T)→∀ {s:Rat} {K:Nat},RSz s K→RSz (P.foldl (fun s t=>s+tvX x t 8) s) (K+P.length*(T+1))
 | [],_,s,K,h=>by simpa using h
 | t :: P,hP,s,K,h=>by
  have:=evF_sz (P:=P) (fun u hu=>hP u (by simp [hu])) (h.add (hP t (by simp)))
  exact this.mono (by rw [List.length_cons,Nat.succ_mul];omega)
def zr4 : List D:=[ex (.bool false),ex (.slice none 0 0),ex (.bool false),ex (.slice none 0 0)]
theorem REval_abs (P : List Tm) (x:Nat→Rat) (N E X T:Nat) (hP:PSz P N) (hPi:PIn P 0 (E:Nat)) (hx:∀ i,i<8→RSz (x i) X) (hE:E≤65535) (hn:P.length≤100000) (hX:X≤1000000) (hT:N+8*(E*X+1)≤T) (hT1:T≤10000000):Abs Tryz.prog 35 [polD P,agD (ptC x)] (agD (ratC (evF x P))):=by
 refine Ab Tryz.func35 fun s0=>?_
 rw [Tryz.ntmps35]
 apply Y1;refine Bx ?_;refine Al ?_;apply Y0;apply Y1;refine Wq (Qz.call (RWhole_abs 0 (by omega) (by omega))) ?_;refine Al ?_;refine Sf ?_;apply Y0;apply AWp.seq;apply Y1;refine Wa ?_;apply Y0;apply AWp.block
 refine AWp.loop (fun mz σ=>∃ k,k≤P.length∧mz = P.length - k∧σ = ⟨[(0,.d (polD P)),(3,.ptr 0 0),(4,.ptr 1 0),(5,.ptr 2 0),(6,.d (ex (.int .i64 (k:Nat))))],[.var 78 ((ptC x).map .d),.var 54 (zr4.map .d),.var 54 ((ratC (evF x (P.take k))).map .d)]⟩) ?le ⟨0,by omega,rfl,rfl⟩ ?round
 case le=>exact AS.le_of (by refine Yd ?_;refine Yp ?_;refine Yp ?_;refine Yp ?_;refine Yd ?_;exact FrLe.nil) (by apply Yv;apply Yv;apply Yv;exact HpLe.nil)
 case round =>
  rintro mz _ ⟨k,hk,rfl,rfl⟩
  by_cases hlt:k<P.length
  ·have ht:=tAt_mem hlt
   have hm:=hPi _ ht
   have hst:=evF_take (x:=x) hlt
   have hall:∀ t∈P.take k,RSz (tvX x t 8) T:=fun t h=>(tvX_sz (hP t (List.mem_of_mem_take h)) (hPi t (List.mem_of_mem_take h)) hx 8 (by omega)).mono hT
   have hs:=evF_sz hall (s:=0) (K:=1) (rsz_sm (x:=0) (by omega) (by omega))
   have hkl:(P.take k).length*(T+1)≤100000*10000001:=Nat.mul_le_mul (by rw [List.length_take];omega) (by omega)
   apply AWp.seq;apply Y1;refine Wm ?_;refine Wm ?_;refine Wq Qz.lenN ?_;refine Wq Qz.cmpT ?_;apply Y0;refine Ct ?_;apply Ys;apply AWp.seq;apply AWp.block;apply Y1;refine Wm ?_;refine Wm ?_;refine Wq Qz.indexN ?_;refine Wq Qz.fldE ?_;refine Wq Qz.ldE ?_;refine Al ?_;refine Sf ?_;apply Y0;apply AWp.seq;apply Y1;refine Wa ?_;apply Y0;apply AWp.block
   refine AWp.loop (fun mz σ=>∃ i,i≤8∧mz = 8 - i∧σ = ⟨[(0,.d (polD P)),(3,.ptr 0 0),(4,.ptr 1 0),(5,.ptr 2 0),(6,.d (ex (.int .i64 (k:Nat)))),(7,.ptr 3 0),(8,.d (ex (.int .i64 (i:Nat))))],[.var 78 ((ptC x).map .d),.var 54 (zr4.map .d),.var 54 ((ratC (evF x (P.take k))).map .d),.var 54 ((ratC (tvX x (tAt P k) i)).map .d)]⟩) ?lei ⟨0,by omega,rfl,rfl⟩ ?roundi
   case lei=>exact AS.le_of (by refine Yd ?_;refine Yp ?_;refine Yp ?_;refine Yp ?_;refine Yd ?_;refine Yp ?_;refine Yd ?_;exact FrLe.nil) (by apply Yv;apply Yv;apply Yv;(refine HpLe.cons (OwLe.varD (by rw [tvX_zero];rfl)) ?_);exact HpLe.nil)
   case roundi =>
    rintro mz _ ⟨i,hi,rfl,rfl⟩
    by_cases hlti:i<8
    ·have hmi:=hm i hlti
     have h2:((tAt P k).m i).toNat*X≤E*X:=Nat.mul_le_mul_right X (by omega)
     have h3:i*(E*X+1)≤8*(E*X+1):=Nat.mul_le_mul_right _ (by omega)
     have hsz:=tvX_sz (hP _ ht) hm hx i (by omega)
     apply AWp.seq;apply Y1;refine Wm ?_;refine Wq Qz.cmpT ?_;apply Y0;refine Ct ?_;apply Ys;apply AWp.seq;apply AWp.block
     refine AWp.dr' (DrawOk.self (by kernel_rfl)) [[],[],[(26,1)],[(27,2)],[],[],[],[(29,4),(30,5)],[(32,7)],[(33,8),(31,6)],[(34,9)],[(28,3),(35,10)],[(25,0),(36,11)]] [[],[],[1],[1,2],[],[],[],[4,5],[4,5,7],[4,5,6,7,8],[4,5,6,7,8,9],[1,2,3,4,5,6,7,8,9,10],[0,1,2,3,4,5,6,7,8,9,10,11]] rfl (by kernel_rfl) (by kernel_rfl) (by kernel_rfl) ?_
     refine Xq Qz.ldD ?_;refine Xq Qz.move ?_;refine Xq Qz.ixP ?_;refine Xq (Qs.ldX (ah rfl) rfl (tab_of rfl) rfl (PartAt.pt (fun j=>ratC_length (x j)) hlti)) ?_;refine Xq Qz.move ?_;refine Xq Qz.move ?_;refine Xq Qz.move ?_;refine Xq Qz.indexN ?_;refine Xq Qz.fldE ?_;refine Xq Qz.ixE ?_;refine Xq Qz.ldEX1 ?_;refine Xq (Qz.call (RpowZ_abs (x i) ((tAt P k).m i) X (hx i hlti) hmi.1 (by omega) hX)) ?_;refine Xq (Qz.call (RMul_abs (tvX x (tAt P k) i) (x i ^ ((tAt P k).m i).toNat) (N+i*(E*X+1)) (((tAt P k).m i).toNat*X+1) hsz ((hx i hlti).pow _) (by omega))) ?_;refine ⟨_,rfl,?_⟩
     refine Sf ?_;apply AWl.nil;apply ABlock.normal;apply Yn;apply AWp.region;refine Wm ?_;refine Wq Qz.succ ?_;refine Wa ?_;apply AWl.nil
     refine ALoop.next (8 - (i+1)) (by omega) ⟨i+1,by omega,rfl,rfl⟩ ?_
     exact AS.le_of (by refine Yd ?_;refine Yp ?_;refine Yp ?_;refine Yp ?_;refine Yd ?_;refine Yp ?_;refine Yd ?_;exact FrLe.nil) (by apply Yv;apply Yv;apply Yv;refine HpLe.cons (OwLe.varD (by rw [tvX_succ])) ?_;exact HpLe.nil)
    ·obtain rfl : i = 8 := by omega
     apply AWp.seq;apply Y1;refine Wm ?_;refine Wq Qz.cmpF ?_;apply Y0;refine Cf ?_;apply AWp.exit;apply AThen.exit;apply ALoop.exit;apply ABlock.hit;apply Yn;apply AWp.region;refine Wq Qz.ldD ?_;refine Wq Qz.ldD ?_;refine Wq (Qz.call (RAdd_abs (evF x (P.take k)) (tvX x (tAt P k) 8) (1+(P.take k).length*(T+1)) (N+8*(E*X+1)) hs (tvX_sz (hP _ ht) hm hx 8 (by omega)) (by omega))) ?_;refine Sf ?_;apply AWl.nil;apply ABlock.normal;apply Yn;apply AWp.region;refine Wm ?_;refine Wq Qz.succ ?_;refine Wa ?_;apply AWl.nil
     refine ALoop.next (P.length - (k+1)) (by omega) ⟨k+1,by omega,rfl,rfl⟩ ?_
     exact AS.le_of (by refine Yd ?_;refine Yp ?_;refine Yp ?_;refine Yp ?_;refine Yd ?_;exact FrLe.nil) (by apply Yv;apply Yv;refine HpLe.cons (OwLe.varD (by rw [hst])) ?_;exact HpLe.nil)
  ·obtain rfl : k = P.length := by omega
   apply AWp.seq;apply Y1;refine Wm ?_;refine Wm ?_;refine Wq Qz.lenN ?_;refine Wq Qz.cmpF ?_;apply Y0;refine Cf ?_;apply AWp.exit;apply AThen.exit;apply ALoop.exit;apply ABlock.hit;apply Yn;apply Y1;refine Wq Qz.ldD ?_;refine Sf ?_;apply Y0;apply AWp.ret
   exact Fin.ret (Rets.of1 (ResV.cell rfl rfl (tab_of rfl) rfl rfl rfl) (D.le.of_eq (by rw [List.take_length];rfl)))
theorem constL_one : constL (1:Int) = [⟨1,fun _=>0⟩]:=by
 rw [constL,if_neg (by decide)]
 rfl
theorem len_sm {z : Int} (h0:-100000≤z) (h1:z≤100000):(digs z.natAbs).length≤1:=len_of_lt (by simp only [BB,Nat.pow_one];omega)
theorem monV_congr {x : Nat→Rat} {a b:Nat→Int} (h:Eqv a b):∀ i,i≤8→monV x a i = monV x b i
 | 0,_=>rfl
 | i+1,hi=>by rw [monV,monV,monV_congr h i (by omega),h i (by omega)]
theorem monV_resp (x : Nat→Rat):Resp fun m=>monV x m 8:=fun _ _ h=>monV_congr h 8 (by omega)
theorem evF_dot (x : Nat→Rat):∀ (P:List Tm) (s:Rat),P.foldl (fun s t=>s+tvX x t 8) s = s+dot (fun m=>monV x m 8) P
 | [],s=>by simp only [List.foldl_nil,dot];grind
 | t :: P,s=>by
  rw [List.foldl_cons,evF_dot x P]
  simp only [dot,tvX]
  grind
theorem evF_eq (x : Nat→Rat) (P:List Tm):evF x P = dot (fun m=>monV x m 8) P:=by
 rw [evF,evF_dot];grind
theorem rat_pow_add (x : Rat) (m:Nat):∀ n,x ^ (m+n) = x ^ m*x ^ n
 | 0=>by rw [Nat.add_zero,Rat.pow_zero];grind
 | n+1=>by rw [← Nat.add_assoc,Rat.pow_succ,Rat.pow_succ,rat_pow_add x m n];grind
theorem monV_add {x : Nat→Rat} {a b:Nat→Int} (ha:∀ i,i<8→0≤a i) (hb:∀ i,i<8→0≤b i):∀ i,i≤8→monV x (add8 a b) i = monV x a i*monV x b i
 | 0,_=>by simp only [monV];grind
 | i+1,hi=>by
  have h1:=ha i (by omega)
  have h2:=hb i (by omega)
  have e:(add8 a b i).toNat = (a i).toNat+(b i).toNat:=by simp only [add8];omega
  rw [monV,monV,monV,monV_add ha hb i (by omega),e,rat_pow_add]
  grind
theorem evF_add (x : Nat→Rat) (P Q:List Tm):evF x (mrg P Q) = evF x P+evF x Q:=by
 rw [evF_eq,evF_eq,evF_eq,mrg_sim _ _ _ (monV_resp x),dot_append]
theorem evF_mul {x : Nat→Rat} {P Q:List Tm} (hP:∀ t∈P,∀ i,i<8→0≤t.m i) (hQ:∀ t∈Q,∀ i,i<8→0≤t.m i):evF x (pmul P Q) = evF x P*evF x Q:=by
 rw [evF_eq,evF_eq,evF_eq,pmul_sim _ _ _ (monV_resp x),dot_mulL]
 have h1:dot (fun a=>dot (fun b=>monV x (add8 a b) 8) Q) P = dot (fun a=>(dot (fun m=>monV x m 8) Q)*monV x a 8) P:=by
  refine dot_congr fun s hs=>?_
  show dot (fun b=>monV x (add8 s.m b) 8) Q = dot (fun m=>monV x m 8) Q*monV x s.m 8
  rw [Rat.mul_comm,← dot_scale]
  exact dot_congr fun t ht=>monV_add (hP s hs) (hQ t ht) 8 (by omega)
 rw [h1,dot_scale]
 grind
theorem RSameQ_true {p q:Rat} (h:p = q):Abs Tryz.prog 60 [agD (ratC p),agD (ratC q)] (ex (.bool true)):=by
 have:=RSameQ_abs p q
 rwa [decide_eq_true h] at this
def tcmp (s t:Tm):Int:=if eqB s.m t.m = true then qcmp s.c t.c else lex8 s.m t.m
def pcmp : List Tm→List Tm→Int
 | [],[]=>0
 | [],_ :: _=>-1
 | _ :: _,[]=>1
 | s :: P,t :: Q=>if tcmp s t = 0 then pcmp P Q else tcmp s t
theorem pcmp_drop {P Q:List Tm} {k:Nat} (h1:k<P.length) (h2:k<Q.length):pcmp (P.drop k) (Q.drop k) = if tcmp (tAt P k) (tAt Q k) = 0 then pcmp (P.drop (k+1)) (Q.drop (k+1)) else tcmp (tAt P k) (tAt Q k):=by
 rw [drop_tAt h1,drop_tAt h2,pcmp]
theorem qcmp_zero {p q:Rat}:qcmp p q = 0↔p = q:=by
 rw [qcmp,Int.sign_eq_zero_iff_zero,Rat.eq_iff_mul_eq_mul];omega
theorem qcmp_val (p q:Rat):qcmp p q = -1∨qcmp p q = 0∨qcmp p q = 1:=by
 unfold qcmp
 rcases Int.lt_trichotomy (p.num*(q.den:Int) - q.num*(p.den:Int)) 0 with h | h | h
 ·exact .inl (Int.sign_eq_neg_one_of_neg h)
 ·exact .inr (.inl (by rw [h];rfl))
 ·exact .inr (.inr (Int.sign_eq_one_of_pos h))
theorem tcmp_eq {s t:Tm} (h:Eqv s.m t.m):tcmp s t = qcmp s.c t.c:=if_pos (eqB_true.2 h)
theorem tcmp_ne {s t:Tm} (h:¬ Eqv s.m t.m):tcmp s t = lx s.m t.m:=by rw [tcmp,if_neg fun h'=>h (eqB_true.1 h'),lx_lex]
theorem lx_ne {a b:Nat→Int} (h:¬ Eqv a b):lx a b = -1∨lx a b = 1:=by
 rcases lx_val a b with h1 | h1 | h1
 ·exact .inl h1
 ·exact absurd (lx_zero.1 h1) h
 ·exact .inr h1
theorem tcmp_val (s t:Tm):tcmp s t = -1∨tcmp s t = 0∨tcmp s t = 1:=by
 by_cases h:Eqv s.m t.m
 ·rw [tcmp_eq h];exact qcmp_val _ _
 ·rw [tcmp_ne h];rcases lx_ne h with h | h <;> omega
theorem tcmp_zero {s t:Tm}:tcmp s t = 0↔s.c = t.c∧Eqv s.m t.m:=by
 by_cases h:Eqv s.m t.m
 ·rw [tcmp_eq h,qcmp_zero];exact ⟨fun e=>⟨e,h⟩,fun e=>e.1⟩
 ·rw [tcmp_ne h]
  exact ⟨fun e=>absurd (lx_zero.1 e) h,fun e=>absurd e.2 h⟩
theorem pcmp_val : ∀ P Q:List Tm,pcmp P Q = -1∨pcmp P Q = 0∨pcmp P Q = 1
 | [],[]=>by simp [pcmp]
 | [],_ :: _=>by simp [pcmp]
 | _ :: _,[]=>by simp [pcmp]
 | s :: P,t :: Q=>by
  rw [pcmp]
  split
  ·exact pcmp_val P Q
  ·exact tcmp_val s t
theorem pcmp_zero : ∀ {P Q:List Tm},pcmp P Q = 0↔SameL P Q
 | [],[]=>by simp [pcmp,SameL]
 | [],_ :: _=>by simp [pcmp,SameL]
 | _ :: _,[]=>by simp [pcmp,SameL]
 | s :: P,t :: Q=>by
  have ih:=pcmp_zero (P:=P) (Q:=Q)
  have h:=tcmp_zero (s:=s) (t:=t)
  rw [pcmp]
  by_cases h0:tcmp s t = 0
  ·rw [if_pos h0,ih]
   have:=h.1 h0
   exact ⟨fun e=>⟨this.1,this.2,e⟩,fun e=>e.2.2⟩
  ·rw [if_neg h0]
   exact ⟨fun e=>absurd e h0,fun e=>absurd (h.2 ⟨e.1,e.2.1⟩) h0⟩
theorem pcmp_length {P Q:List Tm} (h:pcmp P Q = 0):P.length = Q.length:=(pcmp_zero.1 h).length
theorem Same1_abs (s t:Tm) (hs:RSz s.c 1000000000) (ht:RSz t.c 1000000000):Abs Tryz.prog 111 [agD (tmC s),agD (tmC t)] (ex (.bool (decide (tcmp s t = 0)))):=by
 cases h:eqB s.m t.m with
 | true =>
  have e:tcmp s t = qcmp s.c t.c:=if_pos h
  by_cases hq:qcmp s.c t.c = 0
  ·have hd:decide (tcmp s t = 0) = true:=decide_eq_true (e.trans hq)
   refine Ab Tryz.func111 fun s0=>?_
   rw [Tryz.ntmps111]
   apply Y1;refine Bx ?_;refine Bx ?_;refine Wa ?_;apply Y0;apply Y1;refine Wq Qz.fldP ?_;refine Wq Qz.ldD ?_;refine Wq Qz.fldP ?_;refine Wq Qz.ldD ?_;refine Wq Qz.eqMonT ?_;refine Wm ?_;refine Wg Qz.fldP ?_;refine Wg Qz.ldD ?_;refine Wg Qz.fldP ?_;refine Wg Qz.ldD ?_;refine Wg (Qz.call (rCmp_abs s.c t.c hs ht)) ?_;refine Wg Qz.cmpT ?_;refine Wq Qz.pickT ?_;refine Wa ?_;apply Y0;apply AWp.ret
   exact Fin.ret (Rets.of1 (ResV.tmp rfl rfl) (D.le.of_eq (by rw [hd])))
  ·have hd : decide (tcmp s t = 0) = false := decide_eq_false (by rw [e]; exact hq)
   refine Ab Tryz.func111 fun s0=>?_
   rw [Tryz.ntmps111]
   apply Y1;refine Bx ?_;refine Bx ?_;refine Wa ?_;apply Y0;apply Y1;refine Wq Qz.fldP ?_;refine Wq Qz.ldD ?_;refine Wq Qz.fldP ?_;refine Wq Qz.ldD ?_;refine Wq Qz.eqMonT ?_;refine Wm ?_;refine Wg Qz.fldP ?_;refine Wg Qz.ldD ?_;refine Wg Qz.fldP ?_;refine Wg Qz.ldD ?_;refine Wg (Qz.call (rCmp_abs s.c t.c hs ht)) ?_;refine Wg Qz.cmpF ?_;refine Wq Qz.pickT ?_;refine Wa ?_;apply Y0;apply AWp.ret
   exact Fin.ret (Rets.of1 (ResV.tmp rfl rfl) (D.le.of_eq (by rw [hd])))
 | false =>
  have hn:¬ Eqv s.m t.m:=fun h'=>by rw [eqB_true.2 h'] at h;cases h
  have hd:decide (tcmp s t = 0) = false:=decide_eq_false fun e=>hn (tcmp_zero.1 e).2
  refine Ab Tryz.func111 fun s0=>?_
  rw [Tryz.ntmps111]
  apply Y1;refine Bx ?_;refine Bx ?_;refine Wa ?_;apply Y0;apply Y1;refine Wq Qz.fldP ?_;refine Wq Qz.ldD ?_;refine Wq Qz.fldP ?_;refine Wq Qz.ldD ?_;refine Wq Qz.eqMonF ?_;refine Wm ?_;refine Ws ?_;refine Ws ?_;refine Ws ?_;refine Ws ?_;refine Ws ?_;refine Ws ?_;refine Wq Qz.pickF ?_;refine Wa ?_;apply Y0;apply AWp.ret
  exact Fin.ret (Rets.of1 (ResV.tmp rfl rfl) (D.le.of_eq (by rw [hd])))
theorem EqualF_abs (P Q:List Tm) (hP:PSz P 1000000000) (hQ:PSz Q 1000000000) (hn:P.length≤1000000) (hm:Q.length≤1000000):Abs Tryz.prog 110 [polD P,polD Q,ex (.func (.func 111) #[] #[])] (ex (.bool (decide (pcmp P Q = 0)))):=by
 by_cases hlen:P.length = Q.length
 ·refine Ab Tryz.func110 fun s0 => ?_
  rw [Tryz.ntmps110]
  apply Y1;refine Wa ?_;apply Y0;apply AWp.seq;apply Y1;refine Wm ?_;refine Wq Qz.lenN ?_;refine Wm ?_;refine Wq Qz.lenN ?_;refine Wq Qz.cmpF ?_;apply Y0;refine Cf ?_;apply Ys;apply AWp.seq;apply Y1;refine Wm ?_;refine Wq Qz.lenN ?_;refine Wm ?_;apply Y0;apply AWp.block
  refine AWp.loop (fun mz σ=>∃ k,k≤P.length∧pcmp P Q = pcmp (P.drop k) (Q.drop k)∧mz = P.length - k∧σ = ⟨[(1,.d (polD Q)),(2,.d (ex (.func (.func 111) #[] #[]))),(15,.d (polD P)),(16,.d (ex (.int .i64 (P.length:Nat)))),(17,.d (ex (.int .i64 (k:Nat))))],[]⟩) ?le ⟨0,by omega,rfl,rfl,rfl⟩ ?round
  case le=>exact AS.le_of (by refine Yd ?_;refine Yd ?_;refine Yd ?_;refine Yd ?_;refine Yd ?_;exact FrLe.nil) (by exact HpLe.nil)
  case round =>
   rintro m _ ⟨k,hk,heq,rfl,rfl⟩
   by_cases hlt:k<P.length
   ·have hlt2 : k < Q.length := by omega
    have hs:=hP _ (tAt_mem hlt)
    have ht:=hQ _ (tAt_mem hlt2)
    have hd:=pcmp_drop hlt hlt2
    have c1:=Same1_abs (tAt P k) (tAt Q k) hs ht
    by_cases hz:tcmp (tAt P k) (tAt Q k) = 0
    ·rw [if_pos hz] at hd
     rw [decide_eq_true hz] at c1
     apply Y1;refine Wq Qz.cmpT ?_;apply Y0;apply AWp.seq;refine Ct ?_;apply Ys;apply AWp.seq;apply AWp.block;apply Y1;refine Wm ?_;refine Wq Qz.indexN ?_;refine Wq Qz.loadEf ?_;refine Al ?_;refine Wa ?_;refine Sf ?_;apply Y0;apply Y1;refine Wm ?_;refine Wm ?_;refine Wq Qz.indexN ?_;refine Wq Qz.loadEf ?_;refine Al ?_;refine Sf ?_;apply Y0;apply Y1;refine Wm ?_;refine Wq Qz.ldD ?_;refine Wq Qz.ldD ?_;refine Wq (Qz.call (c1)) ?_;refine Wq Qz.not ?_;apply Y0;refine Cf ?_;apply AWp.skip;apply ABlock.normal;apply Yn;apply AWp.region;refine Wq Qz.succ ?_;refine Wm ?_;apply AWl.nil
     refine ALoop.next (P.length - (k+1)) (by omega) ⟨k+1,by omega,by rw [heq,hd],rfl,rfl⟩ ?_
     exact AS.le_of (by refine Yd ?_;refine Yd ?_;refine Yd ?_;refine Yd ?_;refine Yd ?_;exact FrLe.nil) (by exact HpLe.nil)
    ·rw [if_neg hz] at hd
     rw [decide_eq_false hz] at c1
     have he:decide (pcmp P Q = 0) = false:=decide_eq_false (by rw [heq,hd];exact hz)
     apply Y1;refine Wq Qz.cmpT ?_;apply Y0;apply AWp.seq;refine Ct ?_;apply Ys;apply AWp.seq;apply AWp.block;apply Y1;refine Wm ?_;refine Wq Qz.indexN ?_;refine Wq Qz.loadEf ?_;refine Al ?_;refine Wa ?_;refine Sf ?_;apply Y0;apply Y1;refine Wm ?_;refine Wm ?_;refine Wq Qz.indexN ?_;refine Wq Qz.loadEf ?_;refine Al ?_;refine Sf ?_;apply Y0;apply Y1;refine Wm ?_;refine Wq Qz.ldD ?_;refine Wq Qz.ldD ?_;refine Wq (Qz.call (c1)) ?_;refine Wq Qz.not ?_;apply Y0;refine Ct ?_;apply Y1;refine Wa ?_;apply Y0;apply AWp.ret;apply ABlock.ret;apply AThen.ret;apply ALoop.ret;apply ABlock.ret;apply AThen.ret
     exact Fin.ret (Rets.of1 (ResV.tmp rfl rfl) (D.le.of_eq (by rw [he])))
   ·have he:decide (pcmp P Q = 0) = true:=decide_eq_true (by
     rw [heq,(List.drop_eq_nil_of_le (by omega):P.drop k = []),(List.drop_eq_nil_of_le (by omega):Q.drop k = []),pcmp])
    apply Y1;refine Wq Qz.cmpF ?_;apply Y0;apply AWp.seq;refine Cf ?_;apply AWp.exit;apply AThen.exit;apply ALoop.exit;apply ABlock.hit;apply Yn;apply Y1;refine Wa ?_;apply Y0;apply AWp.ret
    exact Fin.ret (Rets.of1 (ResV.tmp rfl rfl) (D.le.of_eq (by rw [he])))
 ·have he:decide (pcmp P Q = 0) = false:=decide_eq_false fun e=>hlen (pcmp_length e)
  refine Ab Tryz.func110 fun s0=>?_
  rw [Tryz.ntmps110]
  apply Y1;refine Wa ?_;apply Y0;apply AWp.seq;apply Y1;refine Wm ?_;refine Wq Qz.lenN ?_;refine Wm ?_;refine Wq Qz.lenN ?_;refine Wq Qz.cmpT ?_;apply Y0;refine Ct ?_;apply Y1;refine Wa ?_;apply Y0;apply AWp.ret;apply AThen.ret
  exact Fin.ret (Rets.of1 (ResV.tmp rfl rfl) (D.le.of_eq (by rw [he])))
theorem PSame_abs (P Q:List Tm) (hP:PSz P 1000000000) (hQ:PSz Q 1000000000) (hn:P.length≤1000000) (hm:Q.length≤1000000):Abs Tryz.prog 82 [polD P,polD Q] (ex (.bool (decide (pcmp P Q = 0)))):=by
 refine Ab Tryz.func82 fun s0=>?_
 rw [Tryz.ntmps82]
 apply Y1;refine Wa ?_;apply Y0;apply Y1;refine Wm ?_;refine Wm ?_;refine Wq (Qz.call (EqualF_abs P Q hP hQ hn hm)) ?_;refine Wa ?_;apply Y0;apply AWp.ret
 exact Yf
section
variable {P : Program} {hp:List Ow} {arg:Operand→AV} {dd:Option Tmp} {ty:TypeId} {ps:String} {af:Array Edge} {gd:Option (Nat × Bool)}
end
def sN (m : Nat→Int):Nat→Nat
 | 0=>0
 | i+1=>sN m i+(m i).toNat
theorem sumTo_sN {m : Nat→Int} (hm:∀ i,i<8→0≤m i):∀ i,i≤8→sumTo m i = sN m i
 | 0,_=>rfl
 | i+1,hi=>by
  have h1:=hm i (by omega)
  have h2:=sumTo_sN hm i (by omega)
  show sumTo m i+m i = ((sN m i+(m i).toNat:Nat):Int)
  omega
theorem sN_add {a b:Nat→Int} (ha:∀ i,i<8→0≤a i) (hb:∀ i,i<8→0≤b i):∀ i,i≤8→sN (add8 a b) i = sN a i+sN b i
 | 0,_=>rfl
 | i+1,hi=>by
  have h1:=ha i (by omega)
  have h2:=hb i (by omega)
  have h3:=sN_add ha hb i (by omega)
  have e:(add8 a b i).toNat = (a i).toNat+(b i).toNat:=by simp only [add8];omega
  simp only [sN,h3,e]
  omega
theorem sN_eqv {a b:Nat→Int} (h:Eqv a b):∀ i,i≤8→sN a i = sN b i
 | 0,_=>rfl
 | i+1,hi=>by simp only [sN];rw [sN_eqv h i (by omega),h i (by omega)]
def DegN (P : List Tm) (D:Nat):Prop:=∀ t∈P,sN t.m 8≤D
theorem DegN.nil {D : Nat}:DegN [] D:=fun t ht=>by cases ht
theorem DegN.add {P Q:List Tm} {D:Nat} (h:DegN P D) (k:DegN Q D):DegN (mrg P Q) D:=fun u hu=>by
 rcases mrg_mem P Q u hu with ⟨s,hs,e⟩ | ⟨s,hs,e⟩
 ·rw [← e];exact h s hs
 ·rw [← e];exact k s hs
theorem DegN.tms {c : Rat} {m:Nat→Int} {Q:List Tm} {D D':Nat} (hm:sN m 8≤D) (hm0:∀ i,i<8→0≤m i) (k:DegN Q D') (k0:∀ t∈Q,∀ i,i<8→0≤t.m i):DegN (Go.Proofs.YtnhgojfjmhjokaaGreat.tms c m Q) (D+D'):=fun u hu=>by
 obtain ⟨s,hs,rfl⟩:=List.mem_map.1 hu
 have h1:=k s hs
 show sN (add8 m s.m) 8≤D+D'
 rw [sN_add hm0 (k0 s hs) 8 (by omega)]
 omega
theorem DegN.mul {P Q:List Tm} {D D':Nat} (h:DegN P D) (h0:∀ t∈P,∀ i,i<8→0≤t.m i) (k:DegN Q D') (k0:∀ t∈Q,∀ i,i<8→0≤t.m i):DegN (pmul P Q) (D+D'):=by
 have key:∀ (P A:List Tm),DegN P D→(∀ t∈P,∀ i,i<8→0≤t.m i)→DegN A (D+D')→DegN (mulTo A P Q) (D+D'):=by
  intro P
  induction P with
  | nil=>intro A _ _ hA;exact hA
  | cons t P ih =>
   intro A hP hP0 hA
   exact ih _ (fun u hu=>hP u (by simp [hu])) (fun u hu=>hP0 u (by simp [hu])) (hA.add (DegN.tms (hP t (by simp)) (hP0 t (by simp)) k k0))
 exact key P [] h h0 DegN.nil
theorem sum_lft (deg : Int) (h0:0≤deg) (r:Nat→Int) (n:Nat):∀ k,(sN (expE deg r n) k:Int)+lft deg r (min k n) = deg
 | 0=>by simp [sN,lft]
 | k+1=>by
  have ih:=sum_lft deg h0 r n k
  have hl:=lft_in r h0 k
  by_cases hk:k<n
  ·rw [show min k n = k by omega] at ih
   rw [show min (k+1) n = k+1 by omega]
   have h1:=Int.emod_nonneg ((r (k+1)).natAbs:Int) (show lft deg r k+1 ≠ 0 by omega)
   have h2:=Int.emod_lt_of_pos ((r (k+1)).natAbs:Int) (show 0<lft deg r k+1 by omega)
   have e:expE deg r n k = ((r (k+1)).natAbs:Nat) % (lft deg r k+1):=by unfold expE;rw [if_pos hk]
   simp only [sN,lft,e]
   omega
  ·have e : expE deg r n k = 0 := by unfold expE; rw [if_neg hk]
   rw [show min k n = n by omega] at ih
   rw [show min (k+1) n = n by omega]
   simp only [sN,e]
   omega
theorem expE_degn {deg : Int} (h0:0≤deg) (r:Nat→Int) (n:Nat):sN (expE deg r n) 8≤deg.toNat:=by
 have h1:=sum_lft deg h0 r n 8
 have h2:=lft_in r h0 (min 8 n)
 omega
theorem madeP_deg (X : List (Nat→Int)) (n:Nat) {deg:Int} (terms:Nat) (h0:0≤deg):DegN (madeP X n deg terms) deg.toNat:=by
 have key:∀ (X:List (Nat→Int)) (A:List Tm),DegN A deg.toNat→DegN (X.foldl (fun a r=>mrg a (rawT deg (min n 4) r)) A) deg.toNat:=by
  intro X
  induction X with
  | nil=>intro A h;exact h
  | cons r X ih =>
   intro A hA
   refine ih _ (hA.add fun t ht=>?_)
   unfold rawT sclL at ht
   split at ht
   ·cases ht
   ·obtain ⟨s,hs,rfl⟩:=List.mem_map.1 ht
    rw [List.mem_singleton.1 hs]
    have e:sN (add8 (fun _=>0) (expE deg r (min n 4))) 8 = sN (expE deg r (min n 4)) 8:=sN_eqv (fun i _=>by simp [add8]) 8 (by omega)
    show sN (add8 (fun _=>0) (expE deg r (min n 4))) 8≤deg.toNat
    rw [e]
    exact expE_degn h0 r (min n 4)
 exact key _ [] DegN.nil
theorem degL_le {P : List Tm} {D:Nat} (h:DegN P D) (h0:∀ t∈P,∀ i,i<8→0≤t.m i):degL P≤(D:Nat):=by
 have key:∀ (P:List Tm) (z:Int),(∀ t∈P,sumTo t.m 8≤(D:Nat))→z≤(D:Nat)→P.foldl (fun d t=>max d (sumTo t.m 8)) z≤(D:Nat):=by
  intro P
  induction P with
  | nil=>intro z _ hz;exact hz
  | cons t P ih =>
   intro z hP hz
   exact ih _ (fun u hu=>hP u (by simp [hu])) (Int.max_le.2 ⟨hz,hP t (by simp)⟩)
 refine key P (-1) (fun t ht=>?_) (by omega)
 rw [sumTo_sN (h0 t ht) 8 (by omega)]
 have:=h t ht
 omega
theorem nn_pb {P : List Tm} {n N:Nat} {d:Int} (h:PB P n N d):∀ t∈P,∀ i,i<8→0≤t.m i:=fun t ht i hi=>(h.ex t ht i hi).1
theorem DegN.scl {c : Rat} {P:List Tm} {D:Nat} (h:DegN P D) (h0:∀ t∈P,∀ i,i<8→0≤t.m i):DegN (sclL c P) D:=by
 unfold sclL
 split
 ·exact DegN.nil
 ·have:=DegN.tms (c:=c) (m:=fun _=>0) (D:=0) (D':=D) (Nat.le_refl _) (fun _ _=>Int.le_refl _) h h0
  rwa [Nat.zero_add] at this
end Go.Proofs.YtnhgojfjmhjokaaGreat
