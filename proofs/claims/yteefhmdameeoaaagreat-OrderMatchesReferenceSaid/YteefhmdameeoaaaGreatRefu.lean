/-
  order.Permute for rows known cell by cell.
-/
import Derived.Test.YteefhmdameeoaaaGreatReft
set_option linter.unusedSimpArgs false
set_option linter.unusedVariables false
namespace Go.Proofs.YteefhmdameeoaaaGreat
open Go.RowKit

theorem Full_ok_in (v : Value) (R Fr : List (Nat → Int)) (w : World) (h : RowsIn .i64 w v R) (hv : OValid R) (hf : FullOf R Fr) : Calls Tryz.prog 11 #[v] w (RetFull Fr w) := by
  rcases hf with ⟨h1, rfl⟩ | ⟨h1, h2, rfl⟩
  · exact Full_tot_in v _ w h hv h1
  · exact Full_app_in v R w h hv h1 h2

set_option maxRecDepth 100000 in
set_option maxHeartbeats 3200000 in
theorem Permute_ok_in (v : Value) (R Fr : List (Nat → Int)) (p : Nat → Nat) (w : World) (h : RowsIn .i64 w v R) (hv : OValid R) (hf : FullOf R Fr) (hp8 : ∀ i, i < 8 → p i < 8) (hinj : ∀ i j, i < 8 → j < 8 → p i = p j → i = j) :
    Calls Tryz.prog 13 #[v, .agg #[.int .i64 (castP p 0), .int .i64 (castP p 1), .int .i64 (castP p 2), .int .i64 (castP p 3), .int .i64 (castP p 4), .int .i64 (castP p 5), .int .i64 (castP p 6), .int .i64 (castP p 7)]] w (RetFull (Fr.map (permRow p)) w) := by
  have hfirst := hide h
  replace h := hide h
  replace hp8 := hide hp8
  replace hinj := hide hinj
  have hFl := hf.length hv
  replace hf := hide hf
  have hE0 : Hid (Ext w (w.alloc (.cells #[.int .i64 (castP p 0), .int .i64 (castP p 1), .int .i64 (castP p 2), .int .i64 (castP p 3), .int .i64 (castP p 4), .int .i64 (castP p 5), .int .i64 (castP p 6), .int .i64 (castP p 7)] 35))) := (Ext.refl w).alloc _
  have hB0 : Hid (Blk (w.alloc (.cells #[.int .i64 (castP p 0), .int .i64 (castP p 1), .int .i64 (castP p 2), .int .i64 (castP p 3), .int .i64 (castP p 4), .int .i64 (castP p 5), .int .i64 (castP p 6), .int .i64 (castP p 7)] 35)) w.heap.size 35 (c8 (castP p))) := Blk.new _ _ _
  go_enter Tryz.func13, Tryz.ntmps13
  go_wp2_with fail
  generalize (w.alloc (.cells #[.int .i64 (castP p 0), .int .i64 (castP p 1), .int .i64 (castP p 2), .int .i64 (castP p 3), .int .i64 (castP p 4), .int .i64 (castP p 5), .int .i64 (castP p 6), .int .i64 (castP p 7)] 35)) = wa at *
  have h1 := hide (h.out.ext hE0.out)
  refine (oValid_in v R _ h1.out).mono ?_
  rw [ovB_true hv]
  rintro e w1 ⟨rfl, hE1⟩
  have hE2 := hide (hE0.out.trans hE1)
  have hB1 := hide (hB0.out.ext hE1)
  have h2 := hide (h1.out.ext hE1)
  clear hE0 hB0 h1 hE1 h
  have q0 : (w1).cell? ⟨w.heap.size, 0, none⟩ = some (.int .i64 (castP p 0)) := (hB1.out).cell 0
  have q1 : (w1).cell? ⟨w.heap.size, 1, none⟩ = some (.int .i64 (castP p 1)) := (hB1.out).cell 1
  have q2 : (w1).cell? ⟨w.heap.size, 2, none⟩ = some (.int .i64 (castP p 2)) := (hB1.out).cell 2
  have q3 : (w1).cell? ⟨w.heap.size, 3, none⟩ = some (.int .i64 (castP p 3)) := (hB1.out).cell 3
  have q4 : (w1).cell? ⟨w.heap.size, 4, none⟩ = some (.int .i64 (castP p 4)) := (hB1.out).cell 4
  have q5 : (w1).cell? ⟨w.heap.size, 5, none⟩ = some (.int .i64 (castP p 5)) := (hB1.out).cell 5
  have q6 : (w1).cell? ⟨w.heap.size, 6, none⟩ = some (.int .i64 (castP p 6)) := (hB1.out).cell 6
  have q7 : (w1).cell? ⟨w.heap.size, 7, none⟩ = some (.int .i64 (castP p 7)) := (hB1.out).cell 7
  have hB1' : Hid (Blk (w1.alloc (.cells #[.bool false, .bool false, .bool false, .bool false, .bool false, .bool false, .bool false, .bool false] 64)) w.heap.size 35 (c8 (castP p))) := hB1.out.alloc _
  have hS1 : Hid (Blk (w1.alloc (.cells #[.bool false, .bool false, .bool false, .bool false, .bool false, .bool false, .bool false, .bool false] 64)) w1.heap.size 64 (cb8 (metTo p 0))) := Blk.new _ _ _
  have hE3 : Hid (Ext w (w1.alloc (.cells #[.bool false, .bool false, .bool false, .bool false, .bool false, .bool false, .bool false, .bool false] 64))) := hE2.out.alloc _
  have h3 := hide (h2.out.ext ((Ext.refl w1).alloc (.cells #[.bool false, .bool false, .bool false, .bool false, .bool false, .bool false, .bool false, .bool false] 64)))
  have hsz : w.heap.size < w1.heap.size := hB1.out.lt
  have hne : w.heap.size ≠ w1.heap.size := by omega
  have hfd : ∀ k, k < 8 → Hid (metTo p k (p k) = false) := fun k hk => metTo_false fun i hi he => by have := hinj.out i k (by omega) hk he; omega
  replace hfd := hide hfd
  go_upto_region 5 with (fail)
  clear q0 q1 q2 q3 q4 q5 q6 q7 hB1 h2 hE2
  generalize (w1.alloc (.cells #[.bool false, .bool false, .bool false, .bool false, .bool false, .bool false, .bool false, .bool false] 64)) = w2 at *
  generalize w1.heap.size = S at *
  obtain ⟨B, hB⟩ : ∃ B, B = w.heap.size := ⟨_, rfl⟩
  rw [← hB] at hB1' hsz hne ⊢
  replace hB := hide hB
  go_loopw [20] (fun i wr => ∃ k : Nat, k ≤ 8 ∧ i = .int .i64 k ∧ Hid (Blk wr B 35 (c8 (castP p)) ∧ Blk wr S 64 (cb8 (metTo p k)) ∧ RowsIn .i64 wr v R ∧ Ext w wr)) (fun i _ => 8 - (intOf i).toNat)
  case atStart => exact ⟨0, by omega, rfl, hB1'.out, hS1.out, h3.out, hE3.out⟩
  case round =>
    obtain ⟨k, hk, rfl, hI⟩ := hrel
    clear hB1' hS1 h3 hE3
    by_cases hlt : k < 8
    · have hix : ∀ W, (Instr.index 35 (.agg #[.int .i64 (castP p 0), .int .i64 (castP p 1), .int .i64 (castP p 2), .int .i64 (castP p 3), .int .i64 (castP p 4), .int .i64 (castP p 5), .int .i64 (castP p 6), .int .i64 (castP p 7)]) (.int .i64 (k : Int))).run Tryz.prog W = .ok (.int .i64 ((p k : Nat) : Int)) W := fun W => run_index_row (castP p) k hlt W
      have hpk := hp8.out k hlt
      have xs : wr.cell? ⟨S, p k, none⟩ = some (.bool false) := by have := hI.out.2.1.atb hpk; rw [(hfd.out k hlt).out] at this; exact this
      have xz := hI.out.2.1.frozen (p k)
      have hset : Hid (Blk (wr.setCell ⟨S, p k, none⟩ (.bool true)) S 64 (cb8 (metTo p (k + 1)))) :=
        hI.out.2.1.setb hpk _ (by rw [metTo_succ]; simp) fun i hi hne => by rw [metTo_succ]; simp [Ne.symm hne]
      have hrs : Hid (RowsIn .i64 (wr.setCell ⟨S, p k, none⟩ (.bool true)) v R) := hfirst.out.ext (hI.out.2.2.2.set (p := ⟨S, p k, none⟩) (by dsimp only; have := hB.out; omega) _)
      generalize p k = y at *
      have hd0 : decide ((y : Int) < 0) = false := by simp
      have hd1 : decide ((8 : Int) ≤ y) = false := by simp; omega
      go_wp2
      exact ⟨⟨k + 1, hlt, by simp, hI.out.1.far (by dsimp only; omega) _, hset.out, hrs.out, hI.out.2.2.2.set (p := ⟨S, y, none⟩) (by dsimp only; have := hB.out; omega) _⟩, by simp [intOf]; omega⟩
    · obtain rfl : k = 8 := by omega
      obtain ⟨hb, _, hr, hE⟩ := hI.out
      replace hb := hide hb
      replace hr := hide hr
      replace hE := hide hE
      clear hI hfd
      go_wp2_with fail
      refine (Full_ok_in v R Fr _ hr.out hv hf.out).mono ?_
      rintro e w3 ⟨A, c, rfl, hO, hE1⟩
      replace hE := hide (hE.out.trans hE1)
      replace hb := hide (hb.out.ext hE1)
      have hO' := hide hO.rows
      have hmk := fun W => run_make_order Fr.length (by omega) .i64 .i64 W
      clear hr hE1 hO
      obtain ⟨A', c', e1, hc1, hm1, hcl⟩ := hO'.out.open_
      injection e1 with e1 e2 e3
      subst e1; subst e3
      clear e2 hc1
      replace hcl := hide hcl
      go_upto_region 16 with (fail)
      have hg : Hid (GridAt (w3.alloc (.cells (madeCells (c8 fun _ => 0) (Fr.length * 8)) 35)) w3.heap.size Fr.length 35 Fr.length (permMid Fr p 0 0)) := (grid_made w3 Fr.length (by omega)).congr fun a b ha hb => by
        unfold permMid; simp [movedTo]
      have hb4 : Hid (Blk (w3.alloc (.cells (madeCells (c8 fun _ => 0) (Fr.length * 8)) 35)) B 35 (c8 (castP p))) := hb.out.alloc _
      have hE4 : Hid (Ext w3 (w3.alloc (.cells (madeCells (c8 fun _ => 0) (Fr.length * 8)) 35))) := (Ext.refl w3).alloc _
      have hBG : B < w3.heap.size := hb.out.lt
      have hwG : w.heap.size ≤ w3.heap.size := hE.out.size
      clear hmk hb
      generalize (w3.alloc (.cells (madeCells (c8 fun _ => 0) (Fr.length * 8)) 35)) = w4 at *
      obtain ⟨G, hG⟩ : ∃ G, G = w3.heap.size := ⟨_, rfl⟩
      rw [← hG] at hg hBG hwG ⊢
      replace hG := hide hG
      obtain ⟨n, hn⟩ : ∃ n, n = Fr.length := ⟨_, rfl⟩
      rw [← hn] at hg hFl ⊢
      replace hn := hide hn
      go_loopw [50] (fun i wr => ∃ k : Nat, k ≤ n ∧ i = .int .i64 k ∧ Hid (Blk wr B 35 (c8 (castP p)) ∧ GridAt wr G n 35 n (permMid Fr p k 0) ∧ Below G w3 wr ∧ Ext w wr)) (fun i _ => n - (intOf i).toNat)
      case atStart => exact ⟨0, by omega, rfl, hb4.out, hg.out, by rw [hG.out]; exact hE4.out, hE.out.trans hE4.out⟩
      case round =>
        obtain ⟨k, hk, rfl, hI⟩ := hrel
        clear hb4 hg hE4
        by_cases hkn : k < n
        · have hdk : decide ((k : Int) < n) = true := by simpa using hkn
          obtain ⟨b, o, rfl, hbl, hcell⟩ := hcl.out (by rw [← hn.out]; omega)
          replace hcell : Hid (∀ j, j < 8 → wr.cell? ⟨b, o + k * 8 + j, none⟩ = some (.int .i64 (rowAt Fr k j))) := hide fun j hj => (hI.out.2.2.1.cell (p := ⟨b, o + k * 8 + j, none⟩) (by rw [hG.out]; exact hbl)).trans (hcell k j (by rw [← hn.out]; exact hkn) hj)
          have hmid : Hid (∀ j a b', permMid Fr p k j a b' = if a < k then permRow p (rowAt Fr a) b' else if a = k then movedTo (rowAt Fr k) p j b' else 0) := hide fun j a b' => by
            unfold permMid
            by_cases e : a = k
            · rw [e]
            · simp [e]
          have hend : Hid (∀ a b', permMid Fr p k 8 a b' = permMid Fr p (k + 1) 0 a b') := hide fun a b' => by
            unfold permMid
            by_cases e : a = k
            · subst e; simp [permRow]
            · by_cases e2 : a < k
              · simp [e2, show a < k + 1 by omega]
              · simp [e, e2, show ¬ a < k + 1 by omega, movedTo]
          generalize rowAt Fr k = r at *
          have r0 : (wr).cell? ⟨b, o + k * 8, none⟩ = some (.int .i64 (r 0)) := hcell.out 0 (by omega)
          have r1 : (wr).cell? ⟨b, o + k * 8 + 1, none⟩ = some (.int .i64 (r 1)) := hcell.out 1 (by omega)
          have r2 : (wr).cell? ⟨b, o + k * 8 + 2, none⟩ = some (.int .i64 (r 2)) := hcell.out 2 (by omega)
          have r3 : (wr).cell? ⟨b, o + k * 8 + 3, none⟩ = some (.int .i64 (r 3)) := hcell.out 3 (by omega)
          have r4 : (wr).cell? ⟨b, o + k * 8 + 4, none⟩ = some (.int .i64 (r 4)) := hcell.out 4 (by omega)
          have r5 : (wr).cell? ⟨b, o + k * 8 + 5, none⟩ = some (.int .i64 (r 5)) := hcell.out 5 (by omega)
          have r6 : (wr).cell? ⟨b, o + k * 8 + 6, none⟩ = some (.int .i64 (r 6)) := hcell.out 6 (by omega)
          have r7 : (wr).cell? ⟨b, o + k * 8 + 7, none⟩ = some (.int .i64 (r 7)) := hcell.out 7 (by omega)
          have hb5 : Hid (Blk (wr.alloc (.cells #[.int .i64 (r 0), .int .i64 (r 1), .int .i64 (r 2), .int .i64 (r 3), .int .i64 (r 4), .int .i64 (r 5), .int .i64 (r 6), .int .i64 (r 7)] 35)) B 35 (c8 (castP p))) := hI.out.1.alloc _
          have hg5 : Hid (GridAt (wr.alloc (.cells #[.int .i64 (r 0), .int .i64 (r 1), .int .i64 (r 2), .int .i64 (r 3), .int .i64 (r 4), .int .i64 (r 5), .int .i64 (r 6), .int .i64 (r 7)] 35)) G n 35 n (permMid Fr p k 0)) := hI.out.2.1.ext ((Ext.refl _).alloc _)
          have hE5 : Hid (Below G w3 (wr.alloc (.cells #[.int .i64 (r 0), .int .i64 (r 1), .int .i64 (r 2), .int .i64 (r 3), .int .i64 (r 4), .int .i64 (r 5), .int .i64 (r 6), .int .i64 (r 7)] 35))) := Below.alloc hI.out.2.2.1 (by have := hI.out.2.2.1.size; have := hG.out; omega) _
          have hE6 : Hid (Ext w (wr.alloc (.cells #[.int .i64 (r 0), .int .i64 (r 1), .int .i64 (r 2), .int .i64 (r 3), .int .i64 (r 4), .int .i64 (r 5), .int .i64 (r 6), .int .i64 (r 7)] 35))) := hI.out.2.2.2.alloc _
          have hbr : Hid (Blk (wr.alloc (.cells #[.int .i64 (r 0), .int .i64 (r 1), .int .i64 (r 2), .int .i64 (r 3), .int .i64 (r 4), .int .i64 (r 5), .int .i64 (r 6), .int .i64 (r 7)] 35)) wr.heap.size 35 (c8 r)) := Blk.new _ _ _
          go_upto_region 19 with (fail)
          clear hI r0 r1 r2 r3 r4 r5 r6 r7 hcell hbr
          generalize (wr.alloc (.cells #[.int .i64 (r 0), .int .i64 (r 1), .int .i64 (r 2), .int .i64 (r 3), .int .i64 (r 4), .int .i64 (r 5), .int .i64 (r 6), .int .i64 (r 7)] 35)) = w5 at *
          go_loopw [56] (fun i wr => ∃ j : Nat, j ≤ 8 ∧ i = .int .i64 j ∧ Hid (Blk wr B 35 (c8 (castP p)) ∧ GridAt wr G n 35 n (permMid Fr p k j) ∧ Below G w3 wr ∧ Ext w wr)) (fun i _ => 8 - (intOf i).toNat)
          case atStart => exact ⟨0, by omega, rfl, hb5.out, hg5.out, hE5.out, hE6.out⟩
          case round =>
            obtain ⟨j, hj, rfl, hJ⟩ := hrel
            clear hb5 hg5 hE5 hE6
            by_cases hj8 : j < 8
            · have hix : ∀ W, (Instr.index 35 (.agg #[.int .i64 (r 0), .int .i64 (r 1), .int .i64 (r 2), .int .i64 (r 3), .int .i64 (r 4), .int .i64 (r 5), .int .i64 (r 6), .int .i64 (r 7)]) (.int .i64 (j : Int))).run Tryz.prog W = .ok (.int .i64 (r j)) W := fun W => run_index_row r j hj8 W
              have hpk := hp8.out j hj8
              have xp : wr.cell? ⟨B, j, none⟩ = some (.int .i64 ((p j : Nat) : Int)) := hJ.out.1.at8 hj8
              obtain ⟨y, hy⟩ : ∃ y, y = p j := ⟨_, rfl⟩
              obtain ⟨x, hx⟩ : ∃ x, x = r j := ⟨_, rfl⟩
              rw [← hy] at hpk xp
              rw [← hx] at hix
              replace hy := hide hy
              replace hx := hide hx
              go_upto_region 21 with (fail)
              have i1 : ¬ (8 : Int) ≤ (j : Int) := by omega
              have i2 : ¬ n ≤ k := by omega
              have i3 : ¬ (8 : Int) ≤ (y : Int) := by omega
              refine wp_region_v (by kernel_rfl) [[], [], [], [(62, 2)], [(63, 3)], [], [(60, 0), (61, 1)], [(66, 6), (64, 4)]] [[], [], [], [2], [2, 3], [], [0, 1], [0, 1, 2, 3, 4, 5, 6]]
                [fun v _ => v = .slice (some ⟨G, 0, none⟩) n n, fun v _ => v = .int .i64 (k : Int), fun v _ => v = .int .i64 (j : Int), fun v _ => v = .pointer (some ⟨B, j, none⟩), fun v _ => v = .int .i64 (y : Int), fun v _ => v = .int .i64 x, fun v _ => v = .pointer (some ⟨G, k * 8, none⟩), fun v _ => v = .pointer (some ⟨G, k * 8 + y, none⟩)]
                rfl (by kernel_rfl) (by kernel_rfl) ?stab ?steps ?fin
              case stab => exact .cons (Stab.eq _) (.cons (Stab.eq _) (.cons (Stab.eq _) (.cons (Stab.eq _) (.cons (Stab.eq _) (.cons (Stab.eq _) (.cons (Stab.eq _) (.cons (Stab.eq _) .nil)))))))
              case steps =>
                refine .cons ?s0 (.cons ?s1 (.cons ?s2 (.cons ?s3 (.cons ?s4 (.cons ?s5 (.cons ?s6 (.cons ?s7 .nil)))))))
                case s0 =>
                  intro w' ev hE hk ha hc hf
                  have e11 : ev (.tmp 11) = .slice (some ⟨G, 0, none⟩) n n := ha 11 (by decide)
                  exact opStep_val (by simp [execOp, e11, go_sem]) rfl
                case s1 =>
                  intro w' ev hE hk ha hc hf
                  have e12 : ev (.tmp 12) = .int .i64 (k : Int) := ha 12 (by decide)
                  exact opStep_val (by simp [execOp, e12, go_sem]) rfl
                case s2 =>
                  intro w' ev hE hk ha hc hf
                  have e14 : ev (.tmp 14) = .int .i64 (j : Int) := ha 14 (by decide)
                  exact opStep_val (by simp [execOp, e14, go_sem]) rfl
                case s3 =>
                  intro w' ev hE hk ha hc hf
                  have e62 : ev (.tmp 62) = .int .i64 (j : Int) := hk.1 _ rfl
                  have e3 : ev (.tmp 3) = .pointer (some ⟨B, 0, none⟩) := ha 3 (by decide)
                  exact opStep_val (by simp [execOp, e62, e3, i1, go_sem]) rfl
                case s4 =>
                  intro w' ev hE hk ha hc hf
                  have e63 : ev (.tmp 63) = .pointer (some ⟨B, j, none⟩) := hk.1 _ rfl
                  have c0 : w'.cell? ⟨B, j, none⟩ = some (.int .i64 (y : Int)) := hE.cellv xp
                  exact opStep_val (by simp [execOp, e63, c0, go_sem]) rfl
                case s5 =>
                  intro w' ev hE hk ha hc hf
                  have e15 : ev (.tmp 15) = .int .i64 x := ha 15 (by decide)
                  exact opStep_val (by simp [execOp, e15, go_sem]) rfl
                case s6 =>
                  intro w' ev hE hk ha hc hf
                  have e60 : ev (.tmp 60) = .slice (some ⟨G, 0, none⟩) n n := hk.1 _ rfl
                  have e61 : ev (.tmp 61) = .int .i64 (k : Int) := hk.2.1 _ rfl
                  exact opStep_val (by simp [execOp, e60, e61, i2, go_sem]) rfl
                case s7 =>
                  intro w' ev hE hk ha hc hf
                  have e66 : ev (.tmp 66) = .pointer (some ⟨G, k * 8, none⟩) := hk.1 _ rfl
                  have e64 : ev (.tmp 64) = .int .i64 (y : Int) := hk.2.1 _ rfl
                  exact opStep_val (by simp [execOp, e66, e64, i3, go_sem]) rfl
              case fin =>
                intro g w' hE hF
                have hEd := (Ext.refl wr).drew.trans hE
                have hg6 := hJ.out.2.1.ext hEd
                have xg : w'.cell? ⟨G, k * 8 + y, none⟩ = some (.int .i64 (permMid Fr p k j k y)) := hg6.cell hkn hpk
                have xz := hg6.frozen (k * 8 + y)
                have hset : Hid (GridAt (w'.setCell ⟨G, k * 8 + y, none⟩ (.int .i64 x)) G n 35 n (permMid Fr p k (j + 1))) :=
                  hg6.set hkn hpk (by rw [hmid.out, hx.out, hy.out]; simp [movedTo]) fun a b' ha hb' hne => by
                    rw [hmid.out, hmid.out]
                    by_cases e : a = k
                    · subst e
                      have : b' ≠ p j := fun e => hne ⟨rfl, by rw [hy.out]; exact e⟩
                      simp [movedTo, this]
                    · simp [e]
                have hfar : Hid (Blk (w'.setCell ⟨G, k * 8 + y, none⟩ (.int .i64 x)) B 35 (c8 (castP p))) := (hJ.out.1.ext hEd).far (by dsimp only; omega) _
                have hbel : Hid (Below G w3 (w'.setCell ⟨G, k * 8 + y, none⟩ (.int .i64 x))) := Below.setCell (hJ.out.2.2.1.trans (hEd.below (by have := hJ.out.2.2.1.size; have := hG.out; omega))) (by dsimp only; omega) _
                have hEx : Hid (Ext w (w'.setCell ⟨G, k * 8 + y, none⟩ (.int .i64 x))) := (hJ.out.2.2.2.trans hEd).set (p := ⟨G, k * 8 + y, none⟩) (by dsimp only; omega) _
                have e7 := hF 7 _ rfl
                have e5 := hF 5 _ rfl
                simp only [List.length_cons, List.length_nil, Nat.reduceAdd, List.drop_succ_cons, List.drop_zero, List.take_succ_cons, List.take_zero, putG, Act.put, List.setIfInBounds_toArray, List.set_cons_succ, List.set_cons_zero, e7, e5]
                clear hF e7 e5 hg6 hEd hE hJ i1 i2 i3 xp
                generalize permMid Fr p k j k y = old at *
                go_wp2
                exact ⟨⟨j + 1, hj8, by simp, hfar.out, hset.out, hbel.out, hEx.out⟩, by simp [intOf]; omega⟩
            · obtain rfl : j = 8 := by omega
              have hg6 : Hid (GridAt wr G n 35 n (permMid Fr p (k + 1) 0)) := hJ.out.2.1.congr fun a b' _ _ => (hend.out a b').symm
              go_wp2
              exact ⟨⟨k + 1, hkn, by simp, hJ.out.1, hg6.out, hJ.out.2.2.1, hJ.out.2.2.2⟩, by simp [intOf]; omega⟩
        · obtain rfl : k = n := by omega
          have hdk : decide ((k : Int) < k) = false := by simp
          have hrw : Hid (Fr.map (permRow p) = rowsOf k (permMid Fr p k 0)) := hide (by
            apply List.ext_getElem
            · rw [List.length_map, rowsOf_length, hn.out]
            · intro i h1 h2
              rw [List.length_map, ← hn.out] at h1
              simp only [rowsOf, List.getElem_map, List.getElem_range]
              funext b
              simp [permMid, h1, rowAt, List.getD_eq_getElem?_getD, List.getElem?_eq_getElem (show i < Fr.length by rw [← hn.out]; exact h1)])
          have hlen : Hid ((rowsOf k (permMid Fr p k 0)).length = k) := rowsOf_length _ _
          go_wp2
          go_ret2
          refine ⟨some ⟨G, 0, none⟩, k, ?_, ?_, hI.out.2.2.2⟩
          · rw [hrw.out, hlen.out]; rfl
          · rw [hrw.out, hlen.out]; exact hI.out.2.1.own hwG

end Go.Proofs.YteefhmdameeoaaaGreat
