/- Contracts of the Go functions of this seat, each over a Lean function of the same answers; written by a program of this session's. -/
import Derived.Test.YtpnpepimcnidoaaPIa
namespace Go.Proofs.Ytpnpepimcnidoaa.PI
open Go.RowKit Go.Proofs.YtpnpepimcnidoaaW.PrintWords Go.Proofs.YtpnpepimcnidoaaW.PrintLast Go.Proofs.YtpnpepimcnidoaaW.PrintMore
attribute [local go_sem] max2_int min2_int max_two min_two max_three min_three max_four min_four   -- for this text's walks alone
set_option linter.unusedVariables false
set_option linter.unusedSimpArgs false

/-! ### seedcornref08_Read: function 15 -/
mutual
def seedcornref08_Read.j0 : Nat → ByteArray → Bool → Option (List Int × Int × Int)
  | 0, _, _ => none
  | k + 1, x0, x30 => if x30 = true then (some (([] : List Int), 0, 7)) else ((seedcornref08_word.f x0 4).bind fun t117 => ((seedcornref08_word.f x0 8).bind fun t118 => (if t117 > 16384 then (seedcornref08_Read.j1 k x0 t117 t118 true) else (if t118 > 32768 then (seedcornref08_Read.j1 k x0 t117 t118 true) else (seedcornref08_Read.j1 k x0 t117 t118 ((x0.size : Int) != (wrap64 (12 + (wrap64 (4 * (wrap64 (t117))))))))))))
def seedcornref08_Read.j1 : Nat → ByteArray → Int → Int → Bool → Option (List Int × Int × Int)
  | 0, _, _, _, _ => none
  | k + 1, x0, x4, x5, x50 => if x50 = true then (some (([] : List Int), 0, 7)) else (seedcornref08_Read.l0 k x0 x4 0 ([] : List Int) (wrap64 (x5)))
def seedcornref08_Read.l0 : Nat → ByteArray → Int → Int → List Int → Int → Option (List Int × Int × Int)
  | 0, _, _, _, _, _ => none
  | k + 1, x0, x4, x7, x120000, x120001 => if x7 < (wrap64 (x4)) then ((seedcornref08_word.f x0 (wrap64 (12 + (wrap64 (4 * x7))))).bind fun t120 => (if x120000.length < 35184372088832 then (seedcornref08_Read.l0 k x0 x4 (wrap64 (x7 + 1)) (x120000 ++ [t120]) x120001) else (none))) else (some (x120000, x120001, 0))
end
def seedcornref08_Read.f (k : Nat) (a0 : ByteArray) : Option (List Int × Int × Int) := if (a0.size : Int) < 12 then (seedcornref08_Read.j0 k a0 true) else (if 0 < (a0.size : Int) then (if (bt a0 0) = 83 then (if 1 < (a0.size : Int) then (if (bt a0 1) = 69 then (if 2 < (a0.size : Int) then (if (bt a0 2) = 69 then (if 3 < (a0.size : Int) then (seedcornref08_Read.j0 k a0 ((bt a0 3) != 68)) else (none)) else (seedcornref08_Read.j0 k a0 true)) else (none)) else (seedcornref08_Read.j0 k a0 true)) else (none)) else (seedcornref08_Read.j0 k a0 true)) else (none))
theorem seedcornref08_Read.mono_l : ∀ k, (∀ y0 y1, LeO (seedcornref08_Read.j0 k y0 y1) (seedcornref08_Read.j0 (k + 1) y0 y1)) ∧ (∀ y0 y1 y2 y3, LeO (seedcornref08_Read.j1 k y0 y1 y2 y3) (seedcornref08_Read.j1 (k + 1) y0 y1 y2 y3)) ∧ (∀ y0 y1 y2 y3 y4, LeO (seedcornref08_Read.l0 k y0 y1 y2 y3 y4) (seedcornref08_Read.l0 (k + 1) y0 y1 y2 y3 y4))
  | 0 => ⟨fun _ _ r h => by simp [seedcornref08_Read.j0] at h, fun _ _ _ _ r h => by simp [seedcornref08_Read.j1] at h, fun _ _ _ _ _ r h => by simp [seedcornref08_Read.l0] at h⟩
  | k + 1 => by
    obtain ⟨ih0, ih1, ih2⟩ := seedcornref08_Read.mono_l k
    refine ⟨?_, ?_, ?_⟩
    · intro y0 y1
      unfold seedcornref08_Read.j0
      repeat' first
      | (with_reducible exact ih0 _ _)
      | (with_reducible exact ih1 _ _ _ _)
      | (with_reducible exact ih2 _ _ _ _ _)
      | (with_reducible exact LeO.refl _)
      | (with_reducible exact LeO.none _)
      | (with_reducible refine LeO.ite ?_ ?_)
      | (with_reducible refine LeO.bind ?_ (fun _ => ?_))
      | exact ih0 _ _
      | exact ih1 _ _ _ _
      | exact ih2 _ _ _ _ _
      | exact LeO.none _
      | refine LeO.ite ?_ ?_
      | refine LeO.bind ?_ (fun _ => ?_)
    · intro y0 y1 y2 y3
      unfold seedcornref08_Read.j1
      repeat' first
      | (with_reducible exact ih0 _ _)
      | (with_reducible exact ih1 _ _ _ _)
      | (with_reducible exact ih2 _ _ _ _ _)
      | (with_reducible exact LeO.refl _)
      | (with_reducible exact LeO.none _)
      | (with_reducible refine LeO.ite ?_ ?_)
      | (with_reducible refine LeO.bind ?_ (fun _ => ?_))
      | exact ih0 _ _
      | exact ih1 _ _ _ _
      | exact ih2 _ _ _ _ _
      | exact LeO.none _
      | refine LeO.ite ?_ ?_
      | refine LeO.bind ?_ (fun _ => ?_)
    · intro y0 y1 y2 y3 y4
      unfold seedcornref08_Read.l0
      repeat' first
      | (with_reducible exact ih0 _ _)
      | (with_reducible exact ih1 _ _ _ _)
      | (with_reducible exact ih2 _ _ _ _ _)
      | (with_reducible exact LeO.refl _)
      | (with_reducible exact LeO.none _)
      | (with_reducible refine LeO.ite ?_ ?_)
      | (with_reducible refine LeO.bind ?_ (fun _ => ?_))
      | exact ih0 _ _
      | exact ih1 _ _ _ _
      | exact ih2 _ _ _ _ _
      | exact LeO.none _
      | refine LeO.ite ?_ ?_
      | refine LeO.bind ?_ (fun _ => ?_)
theorem seedcornref08_Read.mono : ∀ a0 k, LeO (seedcornref08_Read.f k a0) (seedcornref08_Read.f (k + 1) a0) := by
  intro a0 k
  obtain ⟨ih0, ih1, ih2⟩ := seedcornref08_Read.mono_l k
  unfold seedcornref08_Read.f
  repeat' first
      | (with_reducible exact ih0 _ _)
      | (with_reducible exact ih1 _ _ _ _)
      | (with_reducible exact ih2 _ _ _ _ _)
      | (with_reducible exact LeO.refl _)
      | (with_reducible exact LeO.none _)
      | (with_reducible refine LeO.ite ?_ ?_)
      | (with_reducible refine LeO.bind ?_ (fun _ => ?_))
      | exact ih0 _ _
      | exact ih1 _ _ _ _
      | exact ih2 _ _ _ _ _
      | exact LeO.none _
      | refine LeO.ite ?_ ?_
      | refine LeO.bind ?_ (fun _ => ?_)
def seedcornref08_Read.T11 : Bool × List (List Nat × List Nat) := (true, [([], []), ([0], [0]), ([], []), ([], []), ([3], [3]), ([4], [4]), ([2, 5], [2, 5]), ([6], [6]), ([1, 7, 6], [1, 7]), ([0, 1, 2, 3, 4, 5, 6, 7, 8], []), ([9, 8, 8, 0, 1, 2, 3, 4, 5, 6, 7, 8], [8, 9])])
def seedcornref08_Read.B11 : List Nat := [0, 1, 0, 0, 8, 24, 60, 124, 255, 511, 1023]
theorem seedcornref08_Read.tab11 : rtab .any (opsOf Try.f15 11) = seedcornref08_Read.T11 := by kernel_rfl
theorem seedcornref08_Read.bits11 : waitsOk seedcornref08_Read.T11.2 seedcornref08_Read.B11 = true := by kernel_rfl
set_option maxHeartbeats 8000000 in
set_option maxRecDepth 100000 in
theorem seedcornref08_Read.calls (k : Nat) (a0 : ByteArray) (r1 : List Int) (r2 : Int) (r3 : Int) (w : World) (h : seedcornref08_Read.f k a0 = some (r1, r2, r3)) :
    Calls Try.prog 15 #[.string a0] w fun e w' => ∃ v0_ : Value, e = .returned (.tuple #[.agg #[v0_, .int .i64 r2], .int .i64 r3]) ∧ Kd.R (Kd.int .u32) 36 w' w.heap.size (fun _ => True) v0_ r1 ∧ Below w.heap.size w w' := by
  have hu24 := Try.underlying24
  have HB := Aside0.mk (Below.refl w.heap.size w)
  have H : (if (a0.size : Int) < 12 then (seedcornref08_Read.j0 k a0 true) else (if 0 < (a0.size : Int) then (if (bt a0 0) = 83 then (if 1 < (a0.size : Int) then (if (bt a0 1) = 69 then (if 2 < (a0.size : Int) then (if (bt a0 2) = 69 then (if 3 < (a0.size : Int) then (seedcornref08_Read.j0 k a0 ((bt a0 3) != 68)) else (none)) else (seedcornref08_Read.j0 k a0 true)) else (none)) else (seedcornref08_Read.j0 k a0 true)) else (none)) else (seedcornref08_Read.j0 k a0 true)) else (none))) = some (r1, r2, r3) := h
  clear h
  have HC2 := Aside0.mk H
  clear H
  go_enter Try.func15, Try.ntmps15
  go_upto_region 1 with (first | ((with_reducible refine gate_dst (N := 2) rfl ?_); (try (refine gate_guard (by rfl) ?_; dsimp only)); refine box_event ?hg (N := 2) ?hd (cs := #[.slice none 0 0, .int .i64 0]) (t := 24) ?hr ?_; (case hd => rfl); (case hg => rfl); (case hr => first | (go_simp; done) | (go_simp; rfl)); intro gb116 hg w3 hbox hb; have n0_ := Aside0.mk (below_step (by repeat (first | (with_reducible first | exact HB.out | apply below_alloc | apply pw_below_drewN | apply below_drew1) | exact HB.out)) hb); have n1_ := Aside0.mk (hbox); have n2_ := Aside0.mk ((by rw [hg]; exact (below_size (by repeat (first | (with_reducible first | exact HB.out | apply below_alloc | apply pw_below_drewN | apply below_drew1) | exact HB.out))) : w.heap.size ≤ gb116)); have n3_ := Aside0.mk ((by rw [hg]; exact (below_size (by repeat (first | (with_reducible first | exact HB.out | apply below_alloc | apply pw_below_drewN | apply below_drew1) | exact HB.out))) : w.heap.size ≤ gb116)); clear HB; have HB := n0_; have BK116 := n1_; have GW116 := n2_; have GE116 := n3_; clear n0_ n1_ n2_ n3_; clear hb hbox hg))
  (try simp only [Act.put, List.setIfInBounds_toArray, List.set_cons_zero, List.set_cons_succ])
  go_cut [30] (fun v30 wc => ∃ (kq : Nat) (x30_1 : Bool), v30 = .bool x30_1 ∧ Aside0 (seedcornref08_Read.j0 kq a0 x30_1 = some (r1, r2, r3)) ∧ Aside0 (kq ≤ k) ∧ Aside0 (wc.heap[gb116]? = some (.cells #[(.slice none 0 0), .int .i64 0] 24 (0, 0))) ∧ Aside0 (Below w.heap.size w wc))
  case first =>
    have H := HC2.out
    clear HC2
    by_cases c4 : (a0.size : Int) < 12
    · rw [if_pos c4] at H
      have c4b0 : decide ((a0.size : Int) < 12) = true := decide_eq_true c4
      have c4b1 : decide (a0.size < 12) = true := decide_eq_true (by omega)
      clear c4
      (first | rw [c4b0] | (simp only [i64_w, i32_w]; rw [c4b0]) | skip)
      have H' := Aside0.mk H
      clear H
      go_wp2
      go_meet
      case rel => exact ⟨_, (true), (by first | rfl | (simp; done) | (simp [*]; done)), H', ⟨by first | omega | exact Nat.le_refl _⟩, ⟨by (with_reducible repeat (first | refine blk_drewN ?_ _ | refine blk_drew ?_ | refine blk_alloc ?_ _)); exact BK116.out⟩, ⟨by repeat (first | (with_reducible first | exact HB.out | apply below_alloc | apply pw_below_drewN | apply below_drew1 | refine below_set ?_ GE116.out) | exact HB.out)⟩⟩
    · rw [if_neg c4] at H
      have c4b0 : decide ((a0.size : Int) < 12) = false := decide_eq_false c4
      have c4b1 : decide (a0.size < 12) = false := decide_eq_false (by omega)
      clear c4
      (first | rw [c4b0] | (simp only [i64_w, i32_w]; rw [c4b0]) | skip)
      by_cases c5 : 0 < (a0.size : Int)
      · rw [if_pos c5] at H
        have c5b0 : decide (0 < (a0.size : Int)) = true := decide_eq_true c5
        have c5b1 : decide (0 < a0.size) = true := decide_eq_true (by omega)
        clear c5
        by_cases c7 : (bt a0 0) = 83
        · rw [if_pos c7] at H
          have c7b0 : ((bt a0 0) == 83) = true := beq_iff_eq.mpr c7
          have c7b1 : ((bt a0 0) != 83) = false := bne_eq_false_iff_eq.mpr c7
          clear c7
          by_cases c8 : 1 < (a0.size : Int)
          · rw [if_pos c8] at H
            have c8b0 : decide (1 < (a0.size : Int)) = true := decide_eq_true c8
            have c8b1 : decide (1 < a0.size) = true := decide_eq_true (by omega)
            clear c8
            by_cases c10 : (bt a0 1) = 69
            · rw [if_pos c10] at H
              have c10b0 : ((bt a0 1) == 69) = true := beq_iff_eq.mpr c10
              have c10b1 : ((bt a0 1) != 69) = false := bne_eq_false_iff_eq.mpr c10
              clear c10
              by_cases c11 : 2 < (a0.size : Int)
              · rw [if_pos c11] at H
                have c11b0 : decide (2 < (a0.size : Int)) = true := decide_eq_true c11
                have c11b1 : decide (2 < a0.size) = true := decide_eq_true (by omega)
                clear c11
                by_cases c13 : (bt a0 2) = 69
                · rw [if_pos c13] at H
                  have c13b0 : ((bt a0 2) == 69) = true := beq_iff_eq.mpr c13
                  have c13b1 : ((bt a0 2) != 69) = false := bne_eq_false_iff_eq.mpr c13
                  clear c13
                  by_cases c14 : 3 < (a0.size : Int)
                  · rw [if_pos c14] at H
                    have c14b0 : decide (3 < (a0.size : Int)) = true := decide_eq_true c14
                    have c14b1 : decide (3 < a0.size) = true := decide_eq_true (by omega)
                    clear c14
                    have H' := Aside0.mk H
                    clear H
                    have p6 : 0 ≤ (0 : Int) := (by omega)
                    have q6 : 0 < a0.size := (by have : (0 : Int) < (a0.size : Int) := of_decide_eq_true (by first | (with_reducible assumption) | assumption); omega)
                    have hx6 : ∀ h : 0 < a0.size, ((a0[0]'h).toNat : Int) = bt a0 0 := bt_at a0 0
                    clear p6
                    have qi6 : (0 < (a0.size : Int)) = True := eq_true (of_decide_eq_true (by first | (with_reducible assumption) | assumption))
                    replace q6 := eq_true q6
                    have p9 : 0 ≤ (1 : Int) := (by omega)
                    have q9 : 1 < a0.size := (by have : (1 : Int) < (a0.size : Int) := of_decide_eq_true (by first | (with_reducible assumption) | assumption); omega)
                    have hx9 : ∀ h : 1 < a0.size, ((a0[1]'h).toNat : Int) = bt a0 1 := bt_at a0 1
                    clear p9
                    have qi9 : (1 < (a0.size : Int)) = True := eq_true (of_decide_eq_true (by first | (with_reducible assumption) | assumption))
                    replace q9 := eq_true q9
                    have p12 : 0 ≤ (2 : Int) := (by omega)
                    have q12 : 2 < a0.size := (by have : (2 : Int) < (a0.size : Int) := of_decide_eq_true (by first | (with_reducible assumption) | assumption); omega)
                    have hx12 : ∀ h : 2 < a0.size, ((a0[2]'h).toNat : Int) = bt a0 2 := bt_at a0 2
                    clear p12
                    have qi12 : (2 < (a0.size : Int)) = True := eq_true (of_decide_eq_true (by first | (with_reducible assumption) | assumption))
                    replace q12 := eq_true q12
                    have p15 : 0 ≤ (3 : Int) := (by omega)
                    have q15 : 3 < a0.size := (by have : (3 : Int) < (a0.size : Int) := of_decide_eq_true (by first | (with_reducible assumption) | assumption); omega)
                    have hx15 : ∀ h : 3 < a0.size, ((a0[3]'h).toNat : Int) = bt a0 3 := bt_at a0 3
                    clear p15
                    have qi15 : (3 < (a0.size : Int)) = True := eq_true (of_decide_eq_true (by first | (with_reducible assumption) | assumption))
                    replace q15 := eq_true q15
                    go_wp2
                    go_meet
                    case rel => exact ⟨_, (((bt a0 3) != 68)), (by first | rfl | (simp; done) | (simp [*]; done)), H', ⟨by first | omega | exact Nat.le_refl _⟩, ⟨by (with_reducible repeat (first | refine blk_drewN ?_ _ | refine blk_drew ?_ | refine blk_alloc ?_ _)); exact BK116.out⟩, ⟨by repeat (first | (with_reducible first | exact HB.out | apply below_alloc | apply pw_below_drewN | apply below_drew1 | refine below_set ?_ GE116.out) | exact HB.out)⟩⟩
                  · rw [if_neg c14] at H
                    exact absurd H (by simp)
                · rw [if_neg c13] at H
                  have c13b0 : ((bt a0 2) == 69) = false := beq_eq_false_iff_ne.mpr c13
                  have c13b1 : ((bt a0 2) != 69) = true := bne_iff_ne.mpr c13
                  have H' := Aside0.mk H
                  clear H
                  have p6 : 0 ≤ (0 : Int) := (by omega)
                  have q6 : 0 < a0.size := (by have : (0 : Int) < (a0.size : Int) := of_decide_eq_true (by first | (with_reducible assumption) | assumption); omega)
                  have hx6 : ∀ h : 0 < a0.size, ((a0[0]'h).toNat : Int) = bt a0 0 := bt_at a0 0
                  clear p6
                  have qi6 : (0 < (a0.size : Int)) = True := eq_true (of_decide_eq_true (by first | (with_reducible assumption) | assumption))
                  replace q6 := eq_true q6
                  have p9 : 0 ≤ (1 : Int) := (by omega)
                  have q9 : 1 < a0.size := (by have : (1 : Int) < (a0.size : Int) := of_decide_eq_true (by first | (with_reducible assumption) | assumption); omega)
                  have hx9 : ∀ h : 1 < a0.size, ((a0[1]'h).toNat : Int) = bt a0 1 := bt_at a0 1
                  clear p9
                  have qi9 : (1 < (a0.size : Int)) = True := eq_true (of_decide_eq_true (by first | (with_reducible assumption) | assumption))
                  replace q9 := eq_true q9
                  have p12 : 0 ≤ (2 : Int) := (by omega)
                  have q12 : 2 < a0.size := (by have : (2 : Int) < (a0.size : Int) := of_decide_eq_true (by first | (with_reducible assumption) | assumption); omega)
                  have hx12 : ∀ h : 2 < a0.size, ((a0[2]'h).toNat : Int) = bt a0 2 := bt_at a0 2
                  clear p12
                  have qi12 : (2 < (a0.size : Int)) = True := eq_true (of_decide_eq_true (by first | (with_reducible assumption) | assumption))
                  replace q12 := eq_true q12
                  go_wp2
                  go_meet
                  case rel => exact ⟨_, (true), (by first | rfl | (simp; done) | (simp [*]; done)), H', ⟨by first | omega | exact Nat.le_refl _⟩, ⟨by (with_reducible repeat (first | refine blk_drewN ?_ _ | refine blk_drew ?_ | refine blk_alloc ?_ _)); exact BK116.out⟩, ⟨by repeat (first | (with_reducible first | exact HB.out | apply below_alloc | apply pw_below_drewN | apply below_drew1 | refine below_set ?_ GE116.out) | exact HB.out)⟩⟩
              · rw [if_neg c11] at H
                exact absurd H (by simp)
            · rw [if_neg c10] at H
              have c10b0 : ((bt a0 1) == 69) = false := beq_eq_false_iff_ne.mpr c10
              have c10b1 : ((bt a0 1) != 69) = true := bne_iff_ne.mpr c10
              have H' := Aside0.mk H
              clear H
              have p6 : 0 ≤ (0 : Int) := (by omega)
              have q6 : 0 < a0.size := (by have : (0 : Int) < (a0.size : Int) := of_decide_eq_true (by first | (with_reducible assumption) | assumption); omega)
              have hx6 : ∀ h : 0 < a0.size, ((a0[0]'h).toNat : Int) = bt a0 0 := bt_at a0 0
              clear p6
              have qi6 : (0 < (a0.size : Int)) = True := eq_true (of_decide_eq_true (by first | (with_reducible assumption) | assumption))
              replace q6 := eq_true q6
              have p9 : 0 ≤ (1 : Int) := (by omega)
              have q9 : 1 < a0.size := (by have : (1 : Int) < (a0.size : Int) := of_decide_eq_true (by first | (with_reducible assumption) | assumption); omega)
              have hx9 : ∀ h : 1 < a0.size, ((a0[1]'h).toNat : Int) = bt a0 1 := bt_at a0 1
              clear p9
              have qi9 : (1 < (a0.size : Int)) = True := eq_true (of_decide_eq_true (by first | (with_reducible assumption) | assumption))
              replace q9 := eq_true q9
              go_wp2
              go_meet
              case rel => exact ⟨_, (true), (by first | rfl | (simp; done) | (simp [*]; done)), H', ⟨by first | omega | exact Nat.le_refl _⟩, ⟨by (with_reducible repeat (first | refine blk_drewN ?_ _ | refine blk_drew ?_ | refine blk_alloc ?_ _)); exact BK116.out⟩, ⟨by repeat (first | (with_reducible first | exact HB.out | apply below_alloc | apply pw_below_drewN | apply below_drew1 | refine below_set ?_ GE116.out) | exact HB.out)⟩⟩
          · rw [if_neg c8] at H
            exact absurd H (by simp)
        · rw [if_neg c7] at H
          have c7b0 : ((bt a0 0) == 83) = false := beq_eq_false_iff_ne.mpr c7
          have c7b1 : ((bt a0 0) != 83) = true := bne_iff_ne.mpr c7
          have H' := Aside0.mk H
          clear H
          have p6 : 0 ≤ (0 : Int) := (by omega)
          have q6 : 0 < a0.size := (by have : (0 : Int) < (a0.size : Int) := of_decide_eq_true (by first | (with_reducible assumption) | assumption); omega)
          have hx6 : ∀ h : 0 < a0.size, ((a0[0]'h).toNat : Int) = bt a0 0 := bt_at a0 0
          clear p6
          have qi6 : (0 < (a0.size : Int)) = True := eq_true (of_decide_eq_true (by first | (with_reducible assumption) | assumption))
          replace q6 := eq_true q6
          go_wp2
          go_meet
          case rel => exact ⟨_, (true), (by first | rfl | (simp; done) | (simp [*]; done)), H', ⟨by first | omega | exact Nat.le_refl _⟩, ⟨by (with_reducible repeat (first | refine blk_drewN ?_ _ | refine blk_drew ?_ | refine blk_alloc ?_ _)); exact BK116.out⟩, ⟨by repeat (first | (with_reducible first | exact HB.out | apply below_alloc | apply pw_below_drewN | apply below_drew1 | refine below_set ?_ GE116.out) | exact HB.out)⟩⟩
      · rw [if_neg c5] at H
        exact absurd H (by simp)
  case rest =>
    clear HC2
    try clear c1
    try clear p1
    try clear q1
    try clear hx1
    try clear qi1
    try clear p2
    try clear c4
    try clear c4b0
    try clear c4b1
    try clear c5
    try clear c5b0
    try clear c5b1
    try clear p6
    try clear q6
    try clear hx6
    try clear qi6
    try clear c7
    try clear c7b0
    try clear c7b1
    try clear c8
    try clear c8b0
    try clear c8b1
    try clear p9
    try clear q9
    try clear hx9
    try clear qi9
    try clear c10
    try clear c10b0
    try clear c10b1
    try clear c11
    try clear c11b0
    try clear c11b1
    try clear p12
    try clear q12
    try clear hx12
    try clear qi12
    try clear c13
    try clear c13b0
    try clear c13b1
    try clear c14
    try clear c14b0
    try clear c14b1
    try clear c15
    try clear p15
    try clear q15
    try clear hx15
    try clear qi15
    try clear p12
    try clear p15
    try clear p6
    try clear p9
    try clear q12
    try clear q15
    try clear q6
    try clear q9
    obtain ⟨kq, x30_1, rfl, HA, HJ1, BK116, HB⟩ := hcut
    cases kq with
    | zero => exact absurd HA.out (by simp [seedcornref08_Read.j0])
    | succ kj1 =>
      have H := HA.out
      clear HA
      simp only [seedcornref08_Read.j0] at H
      by_cases c16 : x30_1 = true
      · subst c16
        have H1 : (some (([] : List Int), 0, 7)) = some (r1, r2, r3) := by rw [if_pos rfl] at H; exact H
        clear H
        have H := H1
        clear H1
        simp only [Option.some.injEq, Prod.mk.injEq] at H
        obtain ⟨rfl, rfl, rfl⟩ := H
        have hcz17_0 : wc.cell? ⟨gb116, 0, none⟩ = some (.slice none 0 0) := (blk_cell BK116.out 0).trans rfl
        have hcz17_1 : wc.cell? ⟨gb116, 1, none⟩ = some (.int .i64 0) := (blk_cell BK116.out 1).trans rfl
        have hfz17_0 := blk_frozen BK116.out 0
        have hfz17_1 := blk_frozen BK116.out 1
        go_wp2
        refine bodyPost_ret (results_ct rfl _ _ gb116 24 #[.slice none 0 0, .int .i64 0] (0, 0) _ rfl (by (with_reducible repeat (first | refine blk_drewN ?_ _ | refine blk_drew ?_ | refine blk_alloc ?_ _)); refine blk_put (cs := #[.slice none 0 0, .int .i64 0]) ?_ 1 _ rfl; (with_reducible repeat (first | refine blk_drewN ?_ _ | refine blk_drew ?_ | refine blk_alloc ?_ _)); refine blk_put (cs := #[.slice none 0 0, .int .i64 0]) ?_ 0 _ rfl; (with_reducible repeat (first | refine blk_drewN ?_ _ | refine blk_drew ?_ | refine blk_alloc ?_ _)); exact BK116.out) Try.underlying24 rfl (by kernel_rfl)) rfl ?_
        exact ⟨_, by first | rfl | (simp [errW_none, errW_some] <;> rfl) | (simp [*, errW_none, errW_some] <;> rfl), by first | exact Kd.R_nil _ _ _ _ _ | exact Kd.N_nil _ _ _ _ _ | exact Kd.V_nil _ _ _ _ _ | exact Kd.Q_nil _ _ _ _ _ | exact Kd.S_nil _ _ _ _ _, by repeat (first | (with_reducible first | exact HB.out | apply below_alloc | apply pw_below_drewN | apply below_drew1 | refine below_set ?_ GE116.out) | exact HB.out)⟩
      · replace c16 := Bool.eq_false_iff.mpr c16
        subst c16
        have H1 : ((seedcornref08_word.f a0 4).bind fun t117 => ((seedcornref08_word.f a0 8).bind fun t118 => (if t117 > 16384 then (seedcornref08_Read.j1 kj1 a0 t117 t118 true) else (if t118 > 32768 then (seedcornref08_Read.j1 kj1 a0 t117 t118 true) else (seedcornref08_Read.j1 kj1 a0 t117 t118 ((a0.size : Int) != (wrap64 (12 + (wrap64 (4 * (wrap64 (t117)))))))))))) = some (r1, r2, r3) := by rw [if_neg (show ¬ (false = true) by decide)] at H; exact H
        clear H
        have H := H1
        clear H1
        replace H := Option.bind_eq_some_iff.mp H
        obtain ⟨t117, A180, H⟩ := H
        replace H : ((seedcornref08_word.f a0 8).bind fun t118 => (if t117 > 16384 then (seedcornref08_Read.j1 kj1 a0 t117 t118 true) else (if t118 > 32768 then (seedcornref08_Read.j1 kj1 a0 t117 t118 true) else (seedcornref08_Read.j1 kj1 a0 t117 t118 ((a0.size : Int) != (wrap64 (12 + (wrap64 (4 * (wrap64 (t117))))))))))) = some (r1, r2, r3) := H
        have A18 := Aside0.mk A180
        clear A180
        replace H := Option.bind_eq_some_iff.mp H
        obtain ⟨t118, A190, H⟩ := H
        replace H : (if t117 > 16384 then (seedcornref08_Read.j1 kj1 a0 t117 t118 true) else (if t118 > 32768 then (seedcornref08_Read.j1 kj1 a0 t117 t118 true) else (seedcornref08_Read.j1 kj1 a0 t117 t118 ((a0.size : Int) != (wrap64 (12 + (wrap64 (4 * (wrap64 (t117)))))))))) = some (r1, r2, r3) := H
        have A19 := Aside0.mk A190
        clear A190
        have HC20 := Aside0.mk H
        clear H
        go_upto_region 5 with (first | ((with_reducible refine gate_callee (f := 24) rfl ?_); refine goesL_ (some 33) rfl rfl Try.func24 (by kernel_rfl) rfl #[.string a0, .int .i64 4] rfl (by (try simp only [List.map_toArray, List.map_cons, List.map_nil]); first | done | rfl | (simp only [List.length_drop, List.length_take]; rfl)) ?_; (with_reducible refine (seedcornref08_word.calls a0 4 t117 _ A18.out).mono ?_); rintro e w' ⟨rfl, ⟨nd, rfl⟩⟩; refine ⟨_, rfl, ?_⟩) | ((with_reducible refine gate_callee (f := 24) rfl ?_); refine goesL_ (some 35) rfl rfl Try.func24 (by kernel_rfl) rfl #[.string a0, .int .i64 8] rfl (by (try simp only [List.map_toArray, List.map_cons, List.map_nil]); first | done | rfl | (simp only [List.length_drop, List.length_take]; rfl)) ?_; (with_reducible refine (seedcornref08_word.calls a0 8 t118 _ A19.out).mono ?_); rintro e w' ⟨rfl, ⟨nd, rfl⟩⟩; refine ⟨_, rfl, ?_⟩))
        (try simp only [Act.put, List.setIfInBounds_toArray, List.set_cons_zero, List.set_cons_succ])
        go_cut [50] (fun v50 wc => ∃ (kq : Nat) (x50_19 : Bool), v50 = .bool x50_19 ∧ Aside0 (seedcornref08_Read.j1 kq a0 t117 t118 x50_19 = some (r1, r2, r3)) ∧ Aside0 (kq ≤ kj1) ∧ Aside0 (wc.heap[gb116]? = some (.cells #[(.slice none 0 0), .int .i64 0] 24 (0, 0))) ∧ Aside0 (Below w.heap.size w wc))
        case first =>
          have H := HC20.out
          clear HC20
          by_cases c21 : t117 > 16384
          · rw [if_pos c21] at H
            have c21b0 : decide (16384 < t117) = true := decide_eq_true c21
            clear c21
            (first | rw [c21b0] | (simp only [i64_w, i32_w]; rw [c21b0]) | skip)
            have H' := Aside0.mk H
            clear H
            go_wp2
            go_meet
            case rel => exact ⟨_, (true), (by first | rfl | (simp; done) | (simp [*]; done)), H', ⟨by have := HJ1.out; first | omega | exact Nat.le_refl _⟩, ⟨by (with_reducible repeat (first | refine blk_drewN ?_ _ | refine blk_drew ?_ | refine blk_alloc ?_ _)); exact BK116.out⟩, ⟨by repeat (first | (with_reducible first | exact HB.out | apply below_alloc | apply pw_below_drewN | apply below_drew1 | refine below_set ?_ GE116.out) | exact HB.out)⟩⟩
          · rw [if_neg c21] at H
            have c21b0 : decide (16384 < t117) = false := decide_eq_false c21
            clear c21
            (first | rw [c21b0] | (simp only [i64_w, i32_w]; rw [c21b0]) | skip)
            by_cases c22 : t118 > 32768
            · rw [if_pos c22] at H
              have c22b0 : decide (32768 < t118) = true := decide_eq_true c22
              clear c22
              have H' := Aside0.mk H
              clear H
              go_wp2
              go_meet
              case rel => exact ⟨_, (true), (by first | rfl | (simp; done) | (simp [*]; done)), H', ⟨by have := HJ1.out; first | omega | exact Nat.le_refl _⟩, ⟨by (with_reducible repeat (first | refine blk_drewN ?_ _ | refine blk_drew ?_ | refine blk_alloc ?_ _)); exact BK116.out⟩, ⟨by repeat (first | (with_reducible first | exact HB.out | apply below_alloc | apply pw_below_drewN | apply below_drew1 | refine below_set ?_ GE116.out) | exact HB.out)⟩⟩
            · rw [if_neg c22] at H
              have c22b0 : decide (32768 < t118) = false := decide_eq_false c22
              clear c22
              have H' := Aside0.mk H
              clear H
              go_wp2
              go_meet
              case rel => exact ⟨_, (((a0.size : Int) != (wrap64 (12 + (wrap64 (4 * (wrap64 (t117)))))))), (by first | rfl | (simp; done) | (simp [*]; done)), H', ⟨by have := HJ1.out; first | omega | exact Nat.le_refl _⟩, ⟨by (with_reducible repeat (first | refine blk_drewN ?_ _ | refine blk_drew ?_ | refine blk_alloc ?_ _)); exact BK116.out⟩, ⟨by repeat (first | (with_reducible first | exact HB.out | apply below_alloc | apply pw_below_drewN | apply below_drew1 | refine below_set ?_ GE116.out) | exact HB.out)⟩⟩
        case rest =>
          clear HC20
          try clear c1
          try clear p1
          try clear q1
          try clear hx1
          try clear qi1
          try clear c2
          try clear p2
          try clear c4
          try clear c4b0
          try clear c4b1
          try clear c5
          try clear c5b0
          try clear c5b1
          try clear p6
          try clear q6
          try clear hx6
          try clear qi6
          try clear c7
          try clear c7b0
          try clear c7b1
          try clear c8
          try clear c8b0
          try clear c8b1
          try clear p9
          try clear q9
          try clear hx9
          try clear qi9
          try clear c10
          try clear c10b0
          try clear c10b1
          try clear c11
          try clear c11b0
          try clear c11b1
          try clear p12
          try clear q12
          try clear hx12
          try clear qi12
          try clear c13
          try clear c13b0
          try clear c13b1
          try clear c14
          try clear c14b0
          try clear c14b1
          try clear c15
          try clear p15
          try clear q15
          try clear hx15
          try clear qi15
          try clear c16
          try clear c21
          try clear c21b0
          try clear c22
          try clear c22b0
          try clear hcz17_0
          try clear hcz17_1
          try clear hfz17_0
          try clear hfz17_1
          try clear p1
          try clear p12
          try clear p15
          try clear p2
          try clear p6
          try clear p9
          try clear q1
          try clear q12
          try clear q15
          try clear q6
          try clear q9
          obtain ⟨kq, x50_19, rfl, HA, HJ19, BK116, HB⟩ := hcut
          cases kq with
          | zero => exact absurd HA.out (by simp [seedcornref08_Read.j1])
          | succ kj19 =>
            have H := HA.out
            clear HA
            simp only [seedcornref08_Read.j1] at H
            by_cases c23 : x50_19 = true
            · subst c23
              have H1 : (some (([] : List Int), 0, 7)) = some (r1, r2, r3) := by rw [if_pos rfl] at H; exact H
              clear H
              have H := H1
              clear H1
              simp only [Option.some.injEq, Prod.mk.injEq] at H
              obtain ⟨rfl, rfl, rfl⟩ := H
              have hcz24_0 : wc.cell? ⟨gb116, 0, none⟩ = some (.slice none 0 0) := (blk_cell BK116.out 0).trans rfl
              have hcz24_1 : wc.cell? ⟨gb116, 1, none⟩ = some (.int .i64 0) := (blk_cell BK116.out 1).trans rfl
              have hfz24_0 := blk_frozen BK116.out 0
              have hfz24_1 := blk_frozen BK116.out 1
              go_wp2
              refine bodyPost_ret (results_ct rfl _ _ gb116 24 #[.slice none 0 0, .int .i64 0] (0, 0) _ rfl (by (with_reducible repeat (first | refine blk_drewN ?_ _ | refine blk_drew ?_ | refine blk_alloc ?_ _)); refine blk_put (cs := #[.slice none 0 0, .int .i64 0]) ?_ 1 _ rfl; (with_reducible repeat (first | refine blk_drewN ?_ _ | refine blk_drew ?_ | refine blk_alloc ?_ _)); refine blk_put (cs := #[.slice none 0 0, .int .i64 0]) ?_ 0 _ rfl; (with_reducible repeat (first | refine blk_drewN ?_ _ | refine blk_drew ?_ | refine blk_alloc ?_ _)); exact BK116.out) Try.underlying24 rfl (by kernel_rfl)) rfl ?_
              exact ⟨_, by first | rfl | (simp [errW_none, errW_some] <;> rfl) | (simp [*, errW_none, errW_some] <;> rfl), by first | exact Kd.R_nil _ _ _ _ _ | exact Kd.N_nil _ _ _ _ _ | exact Kd.V_nil _ _ _ _ _ | exact Kd.Q_nil _ _ _ _ _ | exact Kd.S_nil _ _ _ _ _, by repeat (first | (with_reducible first | exact HB.out | apply below_alloc | apply pw_below_drewN | apply below_drew1 | refine below_set ?_ GE116.out) | exact HB.out)⟩
            · replace c23 := Bool.eq_false_iff.mpr c23
              subst c23
              have H1 : (seedcornref08_Read.l0 kj19 a0 t117 0 ([] : List Int) (wrap64 (t118))) = some (r1, r2, r3) := by rw [if_neg (show ¬ (false = true) by decide)] at H; exact H
              clear H
              have H := H1
              clear H1
              have H' := Aside0.mk H
              clear H
              go_wp2_with (first | ((with_reducible refine gate_dst (N := 6) rfl ?_); (try (refine gate_guard (by rfl) ?_; dsimp only)); refine box_event ?hg (N := 6) ?hd (cs := #[.slice none 0 0, .int .i64 0]) (t := 24) ?hr ?_; (case hd => rfl); (case hg => rfl); (case hr => first | (go_simp; done) | (go_simp; rfl)); intro gb119 hg w25 hbox hb; have n0_ := Aside0.mk (blk_below (g := gb116) (o := .cells #[.slice none 0 0, .int .i64 0] 24 (0, 0)) (by (with_reducible repeat (first | refine blk_drewN ?_ _ | refine blk_drew ?_ | refine blk_alloc ?_ _)); exact BK116.out) hb); have n1_ := Aside0.mk (below_step (by repeat (first | (with_reducible first | exact HB.out | apply below_alloc | apply pw_below_drewN | apply below_drew1 | refine below_set ?_ GE116.out) | exact HB.out)) hb); have n2_ := Aside0.mk (hbox); have n3_ := Aside0.mk ((by rw [hg]; exact (below_size (by repeat (first | (with_reducible first | exact HB.out | apply below_alloc | apply pw_below_drewN | apply below_drew1 | refine below_set ?_ GE116.out) | exact HB.out))) : w.heap.size ≤ gb119)); have n4_ := Aside0.mk ((by rw [hg]; exact (below_size (by repeat (first | (with_reducible first | exact HB.out | apply below_alloc | apply pw_below_drewN | apply below_drew1 | refine below_set ?_ GE116.out) | exact HB.out))) : w.heap.size ≤ gb119)); have n5_ := Aside0.mk ((by rw [hg]; exact Nat.ne_of_lt (blk_lt (g := gb116) (o := .cells #[.slice none 0 0, .int .i64 0] 24 (0, 0)) (by (with_reducible repeat (first | refine blk_drewN ?_ _ | refine blk_drew ?_ | refine blk_alloc ?_ _)); exact BK116.out)) : gb116 ≠ gb119)); have n6_ := Aside0.mk ((by rw [hg]; exact Nat.ne_of_gt (blk_lt (g := gb116) (o := .cells #[.slice none 0 0, .int .i64 0] 24 (0, 0)) (by (with_reducible repeat (first | refine blk_drewN ?_ _ | refine blk_drew ?_ | refine blk_alloc ?_ _)); exact BK116.out)) : gb119 ≠ gb116)); clear BK116; clear HB; have BK116 := n0_; have HB := n1_; have BK119 := n2_; have GW119 := n3_; have GE119 := n4_; have NB116_119 := n5_; have NB119_116 := n6_; clear n0_ n1_ n2_ n3_ n4_ n5_ n6_; clear hb hbox hg; have hnb26 := NB119_116.out; have hnc26 := NB116_119.out; have hcz27_0 : w25.cell? ⟨gb119, 0, none⟩ = some (.slice none 0 0) := (blk_cell BK119.out 0).trans rfl; have hcz27_1 : w25.cell? ⟨gb119, 1, none⟩ = some (.int .i64 0) := (blk_cell BK119.out 1).trans rfl; have hfz27_0 := blk_frozen BK119.out 0; have hfz27_1 := blk_frozen BK119.out 1))
              go_loopg [7] kj19 (fun kq v7 w' => ∃ (x7_3 : Int) (x120000_3 : List Int) (u120000 : Value), v7 = .int .i64 x7_3 ∧ Aside0 (seedcornref08_Read.l0 kq a0 t117 x7_3 x120000_3 (wrap64 (t118)) = some (r1, r2, r3)) ∧ Aside0 (kq ≤ kj19) ∧ Aside0 (Kd.R (Kd.int .u32) 36 w' w.heap.size (fun _ => True) u120000 x120000_3) ∧ Aside0 (w'.heap[gb116]? = some (.cells #[(.slice none 0 0), .int .i64 0] 24 (0, 0))) ∧ Aside0 (w'.heap[gb119]? = some (.cells #[u120000, .int .i64 (wrap64 (t118))] 24 (0, 0))) ∧ Aside0 (Below w.heap.size w w'))
              case atStart => exact ⟨(0), (([] : List Int)), (.slice none 0 0), (by first | rfl | (simp; done) | (simp [*]; done)), H', ⟨Nat.le_refl _⟩, ⟨by first | exact Kd.R_nil _ _ _ _ _ | exact Kd.N_nil _ _ _ _ _ | exact Kd.V_nil _ _ _ _ _ | exact Kd.Q_nil _ _ _ _ _ | exact Kd.S_nil _ _ _ _ _⟩, ⟨by (with_reducible repeat (first | refine blk_drewN ?_ _ | refine blk_drew ?_ | refine blk_alloc ?_ _)); refine blk_far ?_ NB116_119.out _; (with_reducible repeat (first | refine blk_drewN ?_ _ | refine blk_drew ?_ | refine blk_alloc ?_ _)); refine blk_far ?_ NB116_119.out _; (with_reducible repeat (first | refine blk_drewN ?_ _ | refine blk_drew ?_ | refine blk_alloc ?_ _)); exact BK116.out⟩, ⟨by (with_reducible repeat (first | refine blk_drewN ?_ _ | refine blk_drew ?_ | refine blk_alloc ?_ _)); refine blk_put (cs := #[.slice none 0 0, .int .i64 0]) ?_ 1 _ rfl; (with_reducible repeat (first | refine blk_drewN ?_ _ | refine blk_drew ?_ | refine blk_alloc ?_ _)); refine blk_put (cs := #[.slice none 0 0, .int .i64 0]) ?_ 0 _ rfl; (with_reducible repeat (first | refine blk_drewN ?_ _ | refine blk_drew ?_ | refine blk_alloc ?_ _)); exact BK119.out⟩, ⟨by repeat (first | (with_reducible first | exact HB.out | apply below_alloc | apply pw_below_drewN | apply below_drew1 | refine below_set ?_ GE116.out | refine below_set ?_ GE119.out) | exact HB.out)⟩⟩
              case round =>
                clear H'
                try clear c1
                try clear p1
                try clear q1
                try clear hx1
                try clear qi1
                try clear c2
                try clear p2
                try clear c4
                try clear c4b0
                try clear c4b1
                try clear c5
                try clear c5b0
                try clear c5b1
                try clear p6
                try clear q6
                try clear hx6
                try clear qi6
                try clear c7
                try clear c7b0
                try clear c7b1
                try clear c8
                try clear c8b0
                try clear c8b1
                try clear p9
                try clear q9
                try clear hx9
                try clear qi9
                try clear c10
                try clear c10b0
                try clear c10b1
                try clear c11
                try clear c11b0
                try clear c11b1
                try clear p12
                try clear q12
                try clear hx12
                try clear qi12
                try clear c13
                try clear c13b0
                try clear c13b1
                try clear c14
                try clear c14b0
                try clear c14b1
                try clear c15
                try clear p15
                try clear q15
                try clear hx15
                try clear qi15
                try clear c16
                try clear c21
                try clear c21b0
                try clear c22
                try clear c22b0
                try clear c23
                try clear c24
                try clear c26
                try clear hcz17_0
                try clear hcz17_1
                try clear hcz24_0
                try clear hcz24_1
                try clear hcz27_0
                try clear hcz27_1
                try clear hfz17_0
                try clear hfz17_1
                try clear hfz24_0
                try clear hfz24_1
                try clear hfz27_0
                try clear hfz27_1
                try clear p1
                try clear p12
                try clear p15
                try clear p2
                try clear p6
                try clear p9
                try clear q1
                try clear q12
                try clear q15
                try clear q6
                try clear q9
                obtain ⟨x7_3, x120000_3, u120000, rfl, HA, HK3, HO_120000, BK116, BK119, HB⟩ := hrel
                cases gk with
                | zero => exact absurd HA.out (by simp [seedcornref08_Read.l0])
                | succ k3 =>
                  have H := HA.out
                  clear HA
                  simp only [seedcornref08_Read.l0] at H
                  by_cases c28 : x7_3 < (wrap64 (t117))
                  · rw [if_pos c28] at H
                    have c28b0 : decide (x7_3 < (wrap64 (t117))) = true := decide_eq_true c28
                    clear c28
                    replace H := Option.bind_eq_some_iff.mp H
                    obtain ⟨t120, A290, H⟩ := H
                    replace H : (if x120000_3.length < 35184372088832 then (seedcornref08_Read.l0 k3 a0 t117 (wrap64 (x7_3 + 1)) (x120000_3 ++ [t120]) (wrap64 (t118))) else (none)) = some (r1, r2, r3) := H
                    have A29 := Aside0.mk A290
                    clear A290
                    by_cases c30 : x120000_3.length < 35184372088832
                    · rw [if_pos c30] at H
                      have LMc30 := Aside0.mk c30
                      clear c30
                      obtain ⟨y121, hy121⟩ : ∃ y_ : List Int, y_ = (x120000_3 ++ [t120]) := ⟨_, rfl⟩
                      replace H : (seedcornref08_Read.l0 k3 a0 t117 (wrap64 (x7_3 + 1)) y121 (wrap64 (t118))) = some (r1, r2, r3) := by first | (rw [hy121]; with_reducible exact H) | (have H2_ := (Option.bind_some _ _).symm.trans H; rw [hy121]; with_reducible exact H2_) | (have H2_ := (Option.bind_some _ _).symm.trans H; with_reducible exact H2_) | with_reducible exact H | (rw [hy121]; exact H) | exact H
                      have Ny121 := Aside0.mk hy121
                      clear hy121
                      have H' := Aside0.mk H
                      clear H
                      try go_wp2
                      have n0_ := Aside0.mk (Kd.R_drew HO_120000.out)
                      have n1_ := Aside0.mk (blk_drew BK116.out)
                      have n2_ := Aside0.mk (blk_drew BK119.out)
                      have n3_ := Aside0.mk (below_drew1 HB.out)
                      clear HO_120000
                      clear BK116
                      clear BK119
                      clear HB
                      have HO_120000 := n0_
                      have BK116 := n1_
                      have BK119 := n2_
                      have HB := n3_
                      clear n0_ n1_ n2_ n3_
                      refine start_ (n := 11) (S := fun w' => w'.cell? ⟨gb119, 0, none⟩ = some (u120000) ∧ w'.cell? ⟨gb119, 1, none⟩ = some (.int .i64 (wrap64 (t118)))) (ds := [10]) #[false, false, false, false, false, false, false, false, false, false, false] (by kernel_rfl) rfl rfl ⟨(blk_cell BK119.out 0).trans rfl, (blk_cell BK119.out 1).trans rfl⟩ (fun hHeld => ?_); refine with_tabW seedcornref08_Read.tab11 seedcornref08_Read.bits11 (fun HT_ HW_ => ?_)
                      generalize wr.drew = w31 at HO_120000 BK116 BK119 HB hHeld ⊢
                      refine pure_ (i := 0) (N := some 61) (v := ?_) (a' := ?_) #[true, false, false, false, false, false, false, false, false, false, false] rfl rfl (any_of HT_.out (by kernel_rfl)) (fun _ _ _ h => h) (Or.inl ⟨by rfl, ?_⟩) ?_ ?_
                      rotate_left
                      · intro w'
                        go_simp
                        with_reducible rfl
                      rotate_left
                      · simp only [Act.put, List.setIfInBounds_toArray, List.set_cons_zero, List.set_cons_succ, i64_w, i32_w]
                        rfl
                      refine pure_ (i := 2) (N := some 63) (v := ?_) (a' := ?_) #[true, false, true, false, false, false, false, false, false, false, false] rfl rfl (any_of HT_.out (by kernel_rfl)) (fun _ _ _ h => h) (Or.inl ⟨by rfl, ?_⟩) ?_ ?_
                      rotate_left
                      · intro w'
                        go_simp
                        with_reducible rfl
                      rotate_left
                      · simp only [Act.put, List.setIfInBounds_toArray, List.set_cons_zero, List.set_cons_succ, i64_w, i32_w]
                        rfl
                      refine pure_ (i := 3) (N := some 64) (v := ?_) (a' := ?_) #[true, false, true, true, false, false, false, false, false, false, false] rfl rfl (any_of HT_.out (by kernel_rfl)) (fun _ _ _ h => h) (Or.inl ⟨by rfl, ?_⟩) ?_ ?_
                      rotate_left
                      · intro w'
                        go_simp
                        with_reducible rfl
                      rotate_left
                      · simp only [Act.put, List.setIfInBounds_toArray, List.set_cons_zero, List.set_cons_succ, i64_w, i32_w]
                        rfl
                      refine pure_ (i := 4) (N := some 65) (v := ?_) (a' := ?_) #[true, false, true, true, true, false, false, false, false, false, false] rfl rfl (any_of HT_.out (by kernel_rfl)) (fun _ _ _ h => h) (Or.inl ⟨by rfl, ?_⟩) ?_ ?_
                      rotate_left
                      · intro w'
                        go_simp
                        with_reducible rfl
                      rotate_left
                      · simp only [Act.put, List.setIfInBounds_toArray, List.set_cons_zero, List.set_cons_succ, i64_w, i32_w]
                        rfl
                      refine pure_ (i := 5) (N := some 66) (v := ?_) (a' := ?_) #[true, false, true, true, true, true, false, false, false, false, false] rfl rfl (any_of HT_.out (by kernel_rfl)) (fun _ _ _ h => h) (Or.inl ⟨by rfl, ?_⟩) ?_ ?_
                      rotate_left
                      · intro w'
                        go_simp
                        with_reducible rfl
                      rotate_left
                      · simp only [Act.put, List.setIfInBounds_toArray, List.set_cons_zero, List.set_cons_succ, i64_w, i32_w]
                        rfl
                      refine take_ (i := 1) (N := some 62) (v := ?_) (a' := ?_) #[true, true, true, true, true, true, false, false, false, false, false] rfl rfl (take_ofW HT_.out HW_.out (by kernel_rfl)) (fun _ _ _ h => h) (Or.inl ⟨by rfl, ?_⟩) hHeld ?_ ?_
                      rotate_left
                      · rintro w' ⟨s0, s1⟩
                        go_simp
                        with_reducible rfl
                      rotate_left
                      · simp only [Act.put, List.setIfInBounds_toArray, List.set_cons_zero, List.set_cons_succ, i64_w, i32_w]
                        rfl
                      refine one_ (i := 6) (N := some 67) #[true, true, true, true, true, true, true, false, false, false, false] rfl rfl (one_of HT_.out (by kernel_rfl)) (by decide) (fun K hK => ?_)
                      refine goes_ Try.func24 (by kernel_rfl) rfl #[.string a0, .int .i64 (wrap64 (12 + (wrap64 (4 * x7_3))))] (by rfl) rfl rfl (by (try simp only [List.map_toArray, List.map_cons, List.map_nil]); first | done | rfl | (simp only [List.length_drop, List.length_take]; rfl)) ?_
                      with_reducible refine (seedcornref08_word.calls a0 (wrap64 (12 + (wrap64 (4 * x7_3)))) t120 _ A29.out).mono ?_
                      rintro e w' ⟨rfl, ⟨nd, rfl⟩⟩
                      refine ⟨_, rfl, ?_⟩
                      refine hK.out _ _ ⟨(blk_cell BK119.out 0).trans rfl, (blk_cell BK119.out 1).trans rfl⟩ (fun hHeld => ?_)
                      clear hK K
                      refine norm_ (a' := ?_) ?_ ?_
                      rotate_left
                      · show Act.put _ (some 67) _ = _
                        simp only [Act.put, List.setIfInBounds_toArray, List.set_cons_zero, List.set_cons_succ, i64_w, i32_w]
                        rfl
                      refine one_ (i := 7) (N := some 68) #[true, true, true, true, true, true, true, true, false, false, false] rfl rfl (one_of HT_.out (by kernel_rfl)) (by decide) (fun K hK => ?_)
                      refine value_ (w1 := ?_) (v := ?_) (by rfl) rfl ?_ ?_
                      rotate_left 2
                      · go_simp
                        constructor
                        · rfl
                        · rfl
                      refine hK.out _ _ ⟨(blk_cell (blk_alloc BK119.out _) 0).trans rfl, (blk_cell (blk_alloc BK119.out _) 1).trans rfl⟩ (fun hHeld => ?_)
                      clear hK K
                      refine norm_ (a' := ?_) ?_ ?_
                      rotate_left
                      · show Act.put _ (some 68) _ = _
                        simp only [Act.put, List.setIfInBounds_toArray, List.set_cons_zero, List.set_cons_succ, i64_w, i32_w]
                        rfl
                      refine one_ (i := 8) (N := some 69) #[true, true, true, true, true, true, true, true, true, false, false] rfl rfl (one_of HT_.out (by kernel_rfl)) (by decide) (fun K hK => ?_)
                      refine Kd.R_append_step (Kd.int .u32) (w0 := w) w.heap.size (by rfl) (.tmp 62) (.tmp 68) 22 36 (.int .u32 0) 4 rfl Try.underlying22 info36 rfl (by decide) (by omega) u120000 x120000_3 t120 [.int .u32 t120] (fun _ => True) (fun _ => False) rfl rfl ?aP (fun _ hk => hk.elim) ?aF ?aO ?aB ?aS ?aL ?_
                      (case aP => exact rfl)
                      (case aB => exact (by repeat (first | (with_reducible first | exact HB.out | apply below_alloc | apply pw_below_drewN | apply below_drew1 | refine below_set ?_ GE116.out | refine below_set ?_ GE119.out) | exact HB.out)))
                      (case aF => exact (fun _ _ => trivial))
                      (case aO => exact (by (with_reducible repeat (first | apply Kd.R_alloc | apply Kd.R_drewN | apply Kd.R_drew)); exact HO_120000.out))
                      (case aS => exact (below_size (by repeat (first | (with_reducible first | exact HB.out | apply below_alloc | apply pw_below_drewN | apply below_drew1 | refine below_set ?_ GE116.out | refine below_set ?_ GE119.out) | exact HB.out))))
                      (case aL => have := LMc30.out; omega)
                      intro v122 w32 ho hb hg hat
                      rw [← Ny121.out] at ho
                      have n0_ := Aside0.mk (blk_grown (g := gb116) (o := .cells #[.slice none 0 0, .int .i64 0] 24 (0, 0)) (by (with_reducible repeat (first | refine blk_drewN ?_ _ | refine blk_drew ?_ | refine blk_alloc ?_ _)); exact BK116.out) hg (Kd.R_ne HO_120000.out BK116.out (by decide)))
                      have n1_ := Aside0.mk (blk_grown (g := gb119) (o := .cells #[u120000, .int .i64 (wrap64 (t118))] 24 (0, 0)) (by (with_reducible repeat (first | refine blk_drewN ?_ _ | refine blk_drew ?_ | refine blk_alloc ?_ _)); exact BK119.out) hg (Kd.R_ne HO_120000.out BK119.out (by decide)))
                      have n2_ := Aside0.mk (hb)
                      have n3_ := Aside0.mk (ho)
                      clear BK116
                      clear BK119
                      clear HB
                      clear HO_120000
                      have BK116 := n0_
                      have BK119 := n1_
                      have HB := n2_
                      have HO123 := n3_
                      clear n0_ n1_ n2_ n3_
                      clear ho hb hg hat
                      obtain ⟨Ao33, co33, eo33⟩ := Kd.R_slice HO123.out
                      (first | subst eo33 | (injection eo33 with f1_ f2_ f3_; have f4_ := f1_.symm; have f5_ := f3_.symm; clear f1_ f2_ f3_; subst f4_; subst f5_))
                      refine hK.out _ _ ⟨(blk_cell BK119.out 0).trans rfl, (blk_cell BK119.out 1).trans rfl⟩ (fun hHeld => ?_)
                      clear hK K
                      refine norm_ (a' := ?_) ?_ ?_
                      rotate_left
                      · show Act.put _ (some 69) _ = _
                        simp only [Act.put, List.setIfInBounds_toArray, List.set_cons_zero, List.set_cons_succ, i64_w, i32_w]
                        rfl
                      refine pure_ (i := 9) (N := some 70) (v := ?_) (a' := ?_) #[true, true, true, true, true, true, true, true, true, true, false] rfl rfl (any_of HT_.out (by kernel_rfl)) (fun _ _ _ h => h) (Or.inl ⟨by rfl, ?_⟩) ?_ ?_
                      rotate_left
                      · intro w'
                        go_simp
                        with_reducible rfl
                      rotate_left
                      · simp only [Act.put, List.setIfInBounds_toArray, List.set_cons_zero, List.set_cons_succ, i64_w, i32_w]
                        rfl
                      refine last_ (i := 10) (N := none) #[true, true, true, true, true, true, true, true, true, true, true] rfl rfl (one_of HT_.out (by kernel_rfl)) (by decide) (fun K hK => ?_)
                      have hs34 : w32.cell? ⟨gb119, 0, none⟩ = some (u120000) := (blk_cell BK119.out 0).trans rfl
                      have hfs34 := blk_frozen BK119.out 0
                      have hns34_0 := NB116_119.out
                      have hms34_0 := NB119_116.out
                      refine skip_ (w1 := ?_) (by rfl) rfl ?_ ?_
                      rotate_left
                      · go_simp
                        rfl
                      refine hK.out _ _ ?_
                      clear hK K
                      refine done_ (done_of HT_.out (by kernel_rfl)) ?_
                      try go_wp2
                      go_roundg k3
                      case measure => have := HJ1.out; have := HJ19.out; have := HK3.out; omega
                      case rel => exact ⟨(wrap64 (x7_3 + 1)), (y121), (.slice Ao33 y121.length co33), (by first | rfl | (simp; done) | (simp [*]; done)), H', ⟨by have := HJ1.out; have := HJ19.out; have := HK3.out; omega⟩, ⟨by (with_reducible repeat (first | apply Kd.R_alloc | apply Kd.R_drewN | apply Kd.R_drew)); exact Kd.R_mono (Kd.R_far (p := ⟨gb119, 0, none⟩) (Kd.R_types HO123.out BK119.out (by decide)) (fun _ hk => hk.2) (.slice Ao33 y121.length co33)) (fun _ hk => trivial)⟩, ⟨by (with_reducible repeat (first | refine blk_drewN ?_ _ | refine blk_drew ?_ | refine blk_alloc ?_ _)); refine blk_far ?_ NB116_119.out _; (with_reducible repeat (first | refine blk_drewN ?_ _ | refine blk_drew ?_ | refine blk_alloc ?_ _)); exact BK116.out⟩, ⟨by (with_reducible repeat (first | refine blk_drewN ?_ _ | refine blk_drew ?_ | refine blk_alloc ?_ _)); refine blk_put (cs := #[u120000, .int .i64 (wrap64 (t118))]) ?_ 0 _ rfl; (with_reducible repeat (first | refine blk_drewN ?_ _ | refine blk_drew ?_ | refine blk_alloc ?_ _)); exact BK119.out⟩, ⟨by repeat (first | (with_reducible first | exact HB.out | apply below_alloc | apply pw_below_drewN | apply below_drew1 | refine below_set ?_ GE116.out | refine below_set ?_ GE119.out) | exact HB.out)⟩⟩
                    · rw [if_neg c30] at H
                      exact absurd H (by simp)
                  · rw [if_neg c28] at H
                    have c28b0 : decide (x7_3 < (wrap64 (t117))) = false := decide_eq_false c28
                    clear c28
                    simp only [Option.some.injEq, Prod.mk.injEq] at H
                    obtain ⟨rfl, rfl, rfl⟩ := H
                    have hnb35 := NB119_116.out
                    have hnc35 := NB116_119.out
                    have hcz36_0 : wr.cell? ⟨gb119, 0, none⟩ = some (u120000) := (blk_cell BK119.out 0).trans rfl
                    have hcz36_1 : wr.cell? ⟨gb119, 1, none⟩ = some (.int .i64 (wrap64 (t118))) := (blk_cell BK119.out 1).trans rfl
                    have hfz36_0 := blk_frozen BK119.out 0
                    have hfz36_1 := blk_frozen BK119.out 1
                    obtain ⟨Ao37, co37, eo37⟩ := Kd.R_slice HO_120000.out
                    subst eo37
                    have hcz38_0 : wr.cell? ⟨gb116, 0, none⟩ = some (.slice none 0 0) := (blk_cell BK116.out 0).trans rfl
                    have hcz38_1 : wr.cell? ⟨gb116, 1, none⟩ = some (.int .i64 0) := (blk_cell BK116.out 1).trans rfl
                    have hfz38_0 := blk_frozen BK116.out 0
                    have hfz38_1 := blk_frozen BK116.out 1
                    go_wp2
                    refine bodyPost_ret (results_ct rfl _ _ gb116 24 #[.slice Ao37 x120000_3.length co37, .int .i64 (wrap64 (t118))] (0, 0) _ rfl (by (with_reducible repeat (first | refine blk_drewN ?_ _ | refine blk_drew ?_ | refine blk_alloc ?_ _)); refine blk_put (cs := #[.slice Ao37 x120000_3.length co37, .int .i64 0]) ?_ 1 _ rfl; (with_reducible repeat (first | refine blk_drewN ?_ _ | refine blk_drew ?_ | refine blk_alloc ?_ _)); refine blk_put (cs := #[.slice none 0 0, .int .i64 0]) ?_ 0 _ rfl; (with_reducible repeat (first | refine blk_drewN ?_ _ | refine blk_drew ?_ | refine blk_alloc ?_ _)); exact BK116.out) Try.underlying24 rfl (by kernel_rfl)) rfl ?_
                    exact ⟨_, by first | rfl | (simp [errW_none, errW_some] <;> rfl) | (simp [*, errW_none, errW_some] <;> rfl), by (with_reducible repeat (first | apply Kd.R_alloc | apply Kd.R_drewN | apply Kd.R_drew)); exact Kd.R_mono (Kd.R_far (p := ⟨gb116, 1, none⟩) (Kd.R_far (p := ⟨gb116, 0, none⟩) (Kd.R_types HO_120000.out BK116.out (by decide)) (fun _ hk => hk.2) (.slice Ao37 x120000_3.length co37)) (fun _ hk => hk.2) (.int .i64 (wrap64 (t118)))) (fun _ hk => trivial), by repeat (first | (with_reducible first | exact HB.out | apply below_alloc | apply pw_below_drewN | apply below_drew1 | refine below_set ?_ GE116.out | refine below_set ?_ GE119.out) | exact HB.out)⟩


end Go.Proofs.Ytpnpepimcnidoaa.PI
