/- Part 8 of the proof of hilbertStandards_holds. No condition. -/
import Derived.Laws.CopyRow
import Derived.Test.YtialdhnijjnpaaaGreatQf5
import Derived.Test.YtialdhnijjnpaaaGreatQf7
set_option linter.unusedSimpArgs false
set_option linter.unusedVariables false
set_option maxRecDepth 100000
set_option maxHeartbeats 1600000
namespace Go.Proofs.YtialdhnijjnpaaaGreat
open Go.RowKit
def DvRel (w wr:World) (gu gq:Nat) (ul v U Q:List Nat) (m n k:Nat):Prop :=
 U.length = m+1∧Br U∧Blk wr gu 136 (wv U)∧Q.length = m - n+1∧Br Q∧Blk wr gq 136 (wv Q) ∧
 val (ul.drop k) = val (Q.drop k)*val v+val (U.drop k)∧U.take k = ul.take k∧val (U.drop k)<val v∧Below gu w wr
theorem DvRel.step {w wr w1:World} {gu gq:Nat} {ul v U Q x x' post:List Nat} {m n k q:Nat} (h:DvRel w wr gu gq ul v U Q m n (k+1)) (hk:k+n≤m) (hul:ul.length = m+1) (hx:x.length = n+1) (hU:U = U.take k ++ x ++ post) (hpl:(U.take k).length = k) (hp0:val post = 0) (hxv:val x = U.getD k 0+BB*val (U.drop (k+1)))
  (hx':x'.length = n+1) (sx':Br x') (hW:Win w1 gu (U.take k) x' post) (hO:Only gu wr w1) (hq:q<BB) (FJ:val x'+q*val v = val x) (hlt:val x'<val v) (hgq:gu<gq) {e:Int} (he:e = (q:Nat)) :
  DvRel w (w1.setCell ⟨gq,k,none⟩ (.int .u32 e)) gu gq ul v (U.take k ++ x' ++ post) (Q.set k q) m n k:=by
 obtain ⟨h1,h2,h3,h4,h5,h6,h8,h9,h10,h11⟩:=h
 have sU:Br (U.take k):=CE h2 k
 have sp:Br post:=fun y hy=>h2 y (by rw [hU];simp [hy])
 have hk1:k<U.length:=by omega
 have hql:Blk w1 gq 136 (wv Q):=(hO.block gq (Blk.lt h6) (by omega)).trans h6
 have hd:(U.take k ++ x' ++ post).drop k = x' ++ post:=by
  rw [List.append_assoc,List.drop_append,List.drop_eq_nil_of_le (by omega),hpl,Nat.sub_self];rfl
 have ht:(U.take k ++ x' ++ post).take k = U.take k:=by
  rw [List.append_assoc,List.take_append,hpl,Nat.sub_self,List.take_of_length_le (by omega)];simp
 have hul':ul.take k = U.take k:=by
  have:(U.take (k+1)).take k = (ul.take (k+1)).take k:=by rw [h9]
  rw [List.take_take,List.take_take,Nat.min_eq_left (by omega)] at this
  exact this.symm
 have huk:ul.getD k 0 = U.getD k 0:=by
  have:(U.take (k+1)).getD k 0 = (ul.take (k+1)).getD k 0:=by rw [h9]
  simp only [List.getD_eq_getElem?_getD,List.getElem?_take] at this
  simpa using this.symm
 refine ⟨?_,?_,?_,by simpa using h4,BO h5 k hq,?_,?_,?_,?_,?_⟩
 ·have e1 : (U.take k ++ x ++ post).length = m + 1 := by rw [← hU]; exact h1
  simp only [List.length_append] at e1 ⊢
  omega
 ·intro y hy
  rcases List.mem_append.1 hy with hy | hy
  ·rcases List.mem_append.1 hy with hy | hy
   ·exact sU y hy
   ·exact sx' y hy
  ·exact sp y hy
 ·exact Blk.far hW (by dsimp only;omega) _
 ·rw [he,← EK];exact hql.set k _
 ·rw [hd, Fj hp0, CJ (l := ul) (by omega), CJ (l := Q.set k q) (by rw [List.length_set]; omega), GE, Bp (by omega), h8, huk]
  have:BB*(val (Q.drop (k+1))*val v+val (U.drop (k+1))) = BB*val (Q.drop (k+1))*val v+BB*val (U.drop (k+1)):=by rw [Nat.mul_add,Nat.mul_assoc]
  rw [this,Nat.add_mul]
  omega
 ·rw [ht,hul']
 ·rw [hd,Fj hp0];exact hlt
 ·have hb1 : Below gu w w1 := ⟨hO.os.trans h11.os, hO.tape.trans h11.tape, hO.output.trans h11.output, Nat.le_trans h11.size hO.size, fun i hi => (hO.block i (by have := Blk.lt h3; omega) (by omega)).trans (h11.block i hi)⟩
  exact Below.setCell hb1 (by dsimp only;omega) _
theorem A0I (b b':Bool) (A A':Option Addr) (n c n' c':Nat) (x y:Int) (w:World) (h:IsInt w (.bool b) (.slice A n c) x) (h':IsInt w (.bool b') (.slice A' n' c') y) (hn:(Av x.natAbs).length≤4398046511104) (hn':(Av y.natAbs).length≤4398046511104) (hb:¬ b = b') (hle:y.natAbs≤x.natAbs) :
  Calls Tryz.prog 132 #[.agg #[.bool b,.slice A n c],.agg #[.bool b',.slice A' n' c']] w (Ex (x+y) w):=by
 have hd:=Ad h.bool_eq
 have hd':=Ad h'.bool_eq
 replace h:=Ad h
 replace h':=Ad h'
 replace hn:=Ad hn
 replace hn':=Ad hn'
 have hbb:(b == b') = false:=by simpa using hb
 replace hb:=Ad hb
 have hcmp:¬ EQ x.natAbs y.natAbs<0:=by
  unfold EQ
  rw [if_neg (by omega)];split <;> omega
 replace hle:=Ad hle
 go_enter Tryz.func132,Tryz.ntmps132
 go_wp2_with (go_at_call 150;refine (Lm _ _ _ _ _ (h.out.2.ext ((((Ext.refl _).alloc _).alloc _).alloc _)) (h'.out.2.ext ((((Ext.refl _).alloc _).alloc _).alloc _))).mono ?_;rintro e w1 ⟨rfl,hE0⟩;replace hE0:=Ad hE0;obtain ⟨hc0,hf0⟩:=hE0.out.cells)
 refine wp_region_v (by kernel_rfl) [[], [(32, 0)], [], [(34, 2)], [], [(36, 4)], [(35, 3), (37, 5)], [(33, 1), (38, 6)]] [[], [0], [], [2], [], [4], [2, 3, 4, 5], [0, 1, 2, 3, 4, 5, 6]]
  [fun v _=>v = .pointer (some ⟨w.heap.size,0,none⟩),fun v _=>v = .bool b,fun v _=>v = .pointer (some ⟨w.heap.size,1,none⟩),fun v _=>v = .slice A n c,fun v _=>v = .pointer (some ⟨w.heap.size+1,1,none⟩),fun v _=>v = .slice A' n' c',fun v w'=>Words w' v (Av (val (Av x.natAbs) - val (Av y.natAbs))),fun v w'=>∃ b A n c,v = .agg #[.bool b,.slice A n c]∧IsInt w' (.bool b) (.slice A n c) (x+y)]
  rfl (by kernel_rfl) (by kernel_rfl) ?stab ?steps ?fin
 case stab=>exact .cons (Stab.eq _) (.cons (Stab.eq _) (.cons (Stab.eq _) (.cons (Stab.eq _) (.cons (Stab.eq _) (.cons (Stab.eq _) (.cons (fun _ _ _ he h=>h.ext he) (.cons (fun _ _ _ he ⟨b,A,n,c,h1,h2⟩=>⟨b,A,n,c,h1,h2.ext he⟩) .nil)))))))
 case steps =>
  refine .cons ?s0 (.cons ?s1 (.cons ?s2 (.cons ?s3 (.cons ?s4 (.cons ?s5 (.cons ?s6 (.cons ?s7 .nil)))))))
  case s0 =>
   intro w' ev hE hk ha hc hf
   have e2:ev (.tmp 2) = .pointer (some ⟨w.heap.size,0,none⟩):=ha 2 (by decide)
   exact Ai (by simp [execOp,e2,go_sem]) rfl
  case s1 =>
   intro w' ev hE hk ha hc hf
   have e32:ev (.tmp 32) = .pointer (some ⟨w.heap.size,0,none⟩):=hk.1 _ rfl
   have c0:w'.cell? ⟨w.heap.size,0,none⟩ = some (.bool b):=hE.cellv ((hE0.out.cellv (((Blk.new _ _ _).alloc _).alloc _ |>.cell 0)))
   exact Ai (by simp [execOp,e32,c0,go_sem]) rfl
  case s2 =>
   intro w' ev hE hk ha hc hf
   have e2:ev (.tmp 2) = .pointer (some ⟨w.heap.size,0,none⟩):=ha 2 (by decide)
   exact Ai (by simp [execOp,e2,go_sem]) rfl
  case s3 =>
   intro w' ev hE hk ha hc hf
   have e34:ev (.tmp 34) = .pointer (some ⟨w.heap.size,1,none⟩):=hk.1 _ rfl
   have c0:w'.cell? ⟨w.heap.size,1,none⟩ = some (.slice A n c):=hE.cellv ((hE0.out.cellv (((Blk.new _ _ _).alloc _).alloc _ |>.cell 1)))
   exact Ai (by simp [execOp,e34,c0,go_sem]) rfl
  case s4 =>
   intro w' ev hE hk ha hc hf
   have e3:ev (.tmp 3) = .pointer (some ⟨w.heap.size+1,0,none⟩):=ha 3 (by decide)
   exact Ai (by simp [execOp,e3,go_sem]) rfl
  case s5 =>
   intro w' ev hE hk ha hc hf
   have e36:ev (.tmp 36) = .pointer (some ⟨w.heap.size+1,1,none⟩):=hk.1 _ rfl
   have c0:w'.cell? ⟨w.heap.size+1,1,none⟩ = some (.slice A' n' c'):=hE.cellv ((hE0.out.cellv ((BI _ _ (by simp)).alloc _ |>.cell 1)))
   exact Ai (by simp [execOp,e36,c0,go_sem]) rfl
  case s6 =>
   intro w' ev hE hk ha hc hf
   have e35:ev (.tmp 35) = .slice A n c:=hk.1 _ rfl
   have e37:ev (.tmp 37) = .slice A' n' c':=hk.2.1 _ rfl
   refine AT (by simp [execOp,resolve,invoke,hf,e35,e37,go_sem]) (Qb _ _ _ _ _ (h.out.2.ext ((((Ext.refl _).alloc _).alloc _).alloc _ |>.trans (hE0.out.trans ((Ext.refl _).drew.trans hE)))) (h'.out.2.ext ((((Ext.refl _).alloc _).alloc _).alloc _ |>.trans (hE0.out.trans ((Ext.refl _).drew.trans hE)))) (by rw [Au,Au];exact hle.out) (BZ hle.out) hn.out) ?_
   rintro e w1 ⟨v1,rfl,hW1,hE1⟩
   exact ⟨v1,rfl,hE1,hW1⟩
  case s7 =>
   intro w' ev hE hk ha hc hf
   have e33:ev (.tmp 33) = .bool b:=hk.1 _ rfl
   have f38:=hk.2.1 _ rfl
   refine AT (by simp [execOp,resolve,invoke,hf,e33,go_sem]) (IQ b _ _ _ f38) ?_
   rintro e w1 ⟨b1,A1,n1,k1,rfl,hI1,hE1⟩
   exact ⟨_,rfl,hE1,b1,A1,n1,k1,rfl,by have hb:=hb.out;rw [hd.out,hd'.out] at hb;rw [Au,Au,Au,hd.out,JS hb hle.out] at hI1;exact hI1⟩
 case fin =>
  intro g w' hE hF
  obtain ⟨b2,A2,n2,k2,e2,hI2⟩:=hF 7 _ rfl
  simp only [List.length_cons,List.length_nil,Nat.reduceAdd,List.drop_succ_cons,List.drop_zero,List.take_succ_cons,List.take_zero,CU,Act.put,List.setIfInBounds_toArray,List.set_cons_succ,List.set_cons_zero,e2]
  clear hF e2
  replace hI2:=Ad hI2
  replace hE:=hE0.out.trans ((Ext.refl _).drew.trans hE)
  obtain ⟨hcell,hfr⟩:=hE.cells
  replace hE:=Ad hE
  clear hc0 hf0
  go_wp2
  refine bodyPost_ret (v:=.agg #[.bool b2,.slice A2 n2 k2]) (by simp [results,Tryz.results132,go_sem,hcell]) rfl ⟨_,_,_,_,rfl,?_,?_⟩
  ·have ht : Ty w' (w.heap.size + 2) 69 := (Ce _ _ (by simp)).ext hE.out
   exact (hI2.out.set ht (by decide) _).set (ht.set _ _) (by decide) _
  ·exact (((((Ext.refl _).alloc _).alloc _).alloc _ |>.trans hE.out).set (by simp <;> omega) _).set (by simp <;> omega) _
theorem KK (z : Int) (w:World) (h0:0≤z) (hm:z<18446744073709551616) :
  Calls Tryz.prog 134 #[.int .u64 z] w fun e w'=>∃ v',e = .returned v'∧Words w' v' (Av z.toNat)∧Ext w w':=by
 obtain ⟨m,rfl⟩:=Int.eq_ofNat_of_zero_le h0
 rw [Int.toNat_natCast]
 exact Qa m w (by omega)
theorem RL (n : Int) (w:World) (h0:-9223372036854775808≤n) (h1:n≤9223372036854775807) :
  Calls Tryz.prog 86 #[.int .i64 n] w fun e w'=>Ex n w e w':=by
 by_cases hn:n<0
 ·have hd : decide (n < 0) = true := by simpa using hn
  go_enter Tryz.func86,Tryz.ntmps86
  go_wp2_with fail
  rw [show -(n+1)+1 = -n by omega]
  refine (KK _ _ (by omega) (by omega)).mono ?_
  rintro e w1 ⟨v',rfl,hW,hE⟩
  go_wp2_with fail
  refine (IQ _ _ _ _ hW).mono ?_
  rintro e w2 ⟨b0,A0,n0,k0,rfl,hI,hE2⟩
  replace hE2:=hE.trans hE2
  obtain ⟨hcell,hfr⟩:=hE2.cells
  replace hI:=Ad hI
  replace hE2:=Ad hE2
  clear hE hW
  go_wp2
  refine bodyPost_ret (v:=.agg #[.bool b0,.slice A0 n0 k0]) (by simp [results,Tryz.results86,go_sem,hcell]) rfl ⟨_,_,_,_,rfl,?_,?_⟩
  ·have ht:=(Ty.new w #[Value.bool false,Value.slice none 0 0] 69).ext hE2.out
   have hI:=hI.out
   rw [Au,show FC true (-n).toNat = n by simp [FC];omega] at hI
   exact (hI.set ht (by decide) _).set (ht.set _ _) (by decide) _
  ·exact ((((Ext.refl _).alloc _).trans hE2.out).set (Nat.le_refl _) _).set (Nat.le_refl _) _
 ·have hd : decide (n < 0) = false := by simpa using hn
  go_enter Tryz.func86,Tryz.ntmps86
  go_wp2_with fail
  refine (KK _ _ (by omega) (by omega)).mono ?_
  rintro e w1 ⟨v',rfl,hW,hE⟩
  go_wp2_with fail
  refine (IQ _ _ _ _ hW).mono ?_
  rintro e w2 ⟨b0,A0,n0,k0,rfl,hI,hE2⟩
  replace hE2:=hE.trans hE2
  obtain ⟨hcell,hfr⟩:=hE2.cells
  replace hI:=Ad hI
  replace hE2:=Ad hE2
  clear hE hW
  go_wp2
  refine bodyPost_ret (v:=.agg #[.bool b0,.slice A0 n0 k0]) (by simp [results,Tryz.results86,go_sem,hcell]) rfl ⟨_,_,_,_,rfl,?_,?_⟩
  ·have ht:=(Ty.new w #[Value.bool false,Value.slice none 0 0] 69).ext hE2.out
   have hI:=hI.out
   rw [Au,show FC false n.toNat = n by simp [FC];omega] at hI
   exact (hI.set ht (by decide) _).set (ht.set _ _) (by decide) _
  ·exact ((((Ext.refl _).alloc _).trans hE2.out).set (Nat.le_refl _) _).set (Nat.le_refl _) _
theorem Qc (z : Int) (w:World) (h0:-9223372036854775808≤z) (h1:z≤9223372036854775807) :
  Calls Tryz.prog 43 #[.int .i64 z] w (IR (z:Rat) w):=by
 have hb4:Hid (Blk (w.alloc (.cells #[.bool false,.slice none 0 0,.bool false,.slice none 0 0] 71)) w.heap.size 71 #[.bool false,.slice none 0 0,.bool false,.slice none 0 0]):=Blk.new _ _ _
 have hEw:Hid (Ext w (w.alloc (.cells #[.bool false,.slice none 0 0,.bool false,.slice none 0 0] 71))):=(Ext.refl _).alloc _
 go_enter Tryz.func43,Tryz.ntmps43
 go_wp2_with fail
 generalize (w.alloc (.cells #[.bool false,.slice none 0 0,.bool false,.slice none 0 0] 71)) = wa at *
 refine (RL z _ h0 h1).mono ?_
 rintro e w1 ⟨b8,A8,n8,c8',rfl,hI1,hE1⟩
 replace hb4:=Ad (hb4.out.ext hE1)
 replace hEw:=Ad (hEw.out.trans hE1)
 replace hI1:=Ad hI1
 clear hE1
 go_wp2_with fail
 refine (RL 1 _ (by omega) (by omega)).mono ?_
 rintro e w2 ⟨b9,A9,n9,c9,rfl,hI2,hE1⟩
 replace hb4:=Ad (hb4.out.ext hE1)
 replace hEw:=Ad (hEw.out.trans hE1)
 replace hI1:=Ad (hI1.out.ext hE1)
 replace hI2:=Ad hI2
 clear hE1
 have z0:w2.cell? ⟨w.heap.size,0,none⟩ = some (.bool false):=hb4.out.cell 0
 have z1:w2.cell? ⟨w.heap.size,1,none⟩ = some (.slice none 0 0):=hb4.out.cell 1
 have z2:w2.cell? ⟨w.heap.size,2,none⟩ = some (.bool false):=hb4.out.cell 2
 have z3:w2.cell? ⟨w.heap.size,3,none⟩ = some (.slice none 0 0):=hb4.out.cell 3
 have y0:=hb4.out.frozen 0
 have y1:=hb4.out.frozen 1
 have y2:=hb4.out.frozen 2
 have y3:=hb4.out.frozen 3
 have ht:Ty w2 w.heap.size 71:=hb4.out.ty
 have hI:Hid (IsRat w2 (.bool b8) (.slice A8 n8 c8') (.bool b9) (.slice A9 n9 c9) (z:Rat)):=⟨hI1.out,hI2.out⟩
 clear hI1 hI2
 go_wp2
 refine bodyPost_ret (v:=.agg #[.bool b8,.slice A8 n8 c8',.bool b9,.slice A9 n9 c9]) (by simp [results,Tryz.results43,go_sem,z0,z1,z2,z3]) rfl ⟨_,_,_,_,_,_,_,_,rfl,?_,?_⟩
 ·exact hI.out.put4 (b:=w.heap.size) ht (by decide) (.bool b8) (.slice A8 n8 c8') (.bool b9) (.slice A9 n9 c9)
 ·exact hEw.out.put4 (b:=w.heap.size) (by omega) (.bool b8) (.slice A8 n8 c8') (.bool b9) (.slice A9 n9 c9)
end Go.Proofs.YtialdhnijjnpaaaGreat
