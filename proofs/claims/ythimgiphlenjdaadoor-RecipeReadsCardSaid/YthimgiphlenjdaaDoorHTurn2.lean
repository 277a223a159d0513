/- The reference's Turn (function 54), bit by bit, at the turns that Mix and Unmix use. -/
import Derived.Test.YthimgiphlenjdaaDoorHTurn
namespace Go.Proofs.YthimgiphlenjdaaDoor.HX
open Go.RowKit Go.Proofs.YthimgiphlenjdaaDoorW.PrintWords Go.Proofs.YthimgiphlenjdaaDoorW.PrintLast
set_option linter.unusedVariables false
set_option linter.unusedSimpArgs false
theorem ref_turns (w : World) : Calls Tryd.prog 53 #[] w fun e w' => e = .returned (.agg #[.int .i64 7, .int .i64 9, .int .i64 13, .int .i64 18]) ∧ Below w.heap.size w w' := by
  have hu75 := Tryd.underlying75
  go_enter Tryd.func53, Tryd.ntmps53
  go_wp2
  refine bodyPost_ret (results_cell_row rfl _ _ w.heap.size 75 #[.int .i64 7, .int .i64 9, .int .i64 13, .int .i64 18] (0, 0) _ rfl (blk_newAt rfl) Tryd.underlying75 rfl (by kernel_rfl)) rfl ?_
  exact ⟨rfl, below_alloc (Below.refl _ _) _⟩
set_option maxHeartbeats 800000 in
theorem ref_turn_7 (a : Int) (hin : InR a) (w : World) : Calls Tryd.prog 54 #[.int .u32 a, .int .i64 (7)] w fun e w' => e = .returned (.int .u32 (turn 128 33554432 a)) ∧ w' = w := by
  have hin' := Aside0.mk hin
  obtain ⟨h0, h1⟩ := hin
  have hw0 : IntKind.u64.wrap a = a := by rw [IntKind.wrap_u64]; omega
  go_enter Tryd.func54, Tryd.ntmps54
  go_wp2
  go_loopg [6, 7] 7 (fun kq v6 v7 w' => ∃ (x : Int) (i : Nat), v6 = .int .u64 x ∧ v7 = .int .i64 (i : Int) ∧ Aside0 (i + kq = 7 ∧ x = steps i a) ∧ w' = w)
  case atStart => exact ⟨a, 0, by first | rfl | (simp [*]; done), rfl, ⟨rfl, rfl⟩, rfl⟩
  case round =>
    obtain ⟨x, i, rfl, rfl, HA, rfl⟩ := hrel
    obtain ⟨hx0, hx1⟩ : InR x := HA.out.2 ▸ steps_range a hin'.out i
    have hi : i ≤ 7 := by have := HA.out.1; omega
    clear h0 h1 hw0
    by_cases c1 : i < 7
    · obtain ⟨kp, rfl⟩ : ∃ kp, gk = kp + 1 := ⟨gk - 1, by have := HA.out.1; omega⟩
      have c1b : decide ((i : Int) < 7) = true := decide_eq_true (by omega)
      have HS : Aside0 (step1 x = steps (i + 1) a) := ⟨by rw [steps, HA.out.2]⟩
      have HN : Aside0 (i + 1 + kp = 7) := ⟨by have := HA.out.1; omega⟩
      clear HA
      have e1 : IntKind.u64.wrap (2 * x) = 2 * x := by rw [IntKind.wrap_u64]; omega
      have e2 : IntKind.u64.wrap (2 * x % 4294967296 + x / 2147483648) = 2 * x % 4294967296 + x / 2147483648 := by rw [IntKind.wrap_u64]; omega
      have e3 : Int.tmod (2 * x) 4294967296 = 2 * x % 4294967296 := Int.tmod_eq_emod_of_nonneg (by omega)
      have e4 : Int.tdiv x 2147483648 = x / 2147483648 := Int.tdiv_eq_ediv_of_nonneg (by omega)
      have e5 : IntKind.i64.wrap ((i : Int) + 1) = (i : Int) + 1 := by rw [IntKind.wrap_i64]; omega
      go_wp2
      go_roundg kp
      case measure => omega
      case rel => exact ⟨step1 x, i + 1, by first | rfl | (simp [step1]; done), by first | rfl | (simp; done), ⟨HN.out, HS.out⟩, rfl⟩
    · have c1b : decide ((i : Int) < 7) = false := decide_eq_false (by omega)
      have hx : x = turn 128 33554432 a := by
        have hi2 : i = 7 := by omega
        rw [HA.out.2, hi2, steps_7 a hin'.out, turn_sum_7 a hin'.out]
      have e6 : IntKind.u32.wrap x = x := by rw [IntKind.wrap_u32]; omega
      have HX_ : Aside0 (x = turn 128 33554432 a) := ⟨hx⟩
      clear HA hx
      go_wp2
      go_ret
      exact ⟨by rw [← HX_.out]; rfl, rfl⟩
set_option maxHeartbeats 800000 in
theorem ref_turn_9 (a : Int) (hin : InR a) (w : World) : Calls Tryd.prog 54 #[.int .u32 a, .int .i64 (9)] w fun e w' => e = .returned (.int .u32 (turn 512 8388608 a)) ∧ w' = w := by
  have hin' := Aside0.mk hin
  obtain ⟨h0, h1⟩ := hin
  have hw0 : IntKind.u64.wrap a = a := by rw [IntKind.wrap_u64]; omega
  go_enter Tryd.func54, Tryd.ntmps54
  go_wp2
  go_loopg [6, 7] 9 (fun kq v6 v7 w' => ∃ (x : Int) (i : Nat), v6 = .int .u64 x ∧ v7 = .int .i64 (i : Int) ∧ Aside0 (i + kq = 9 ∧ x = steps i a) ∧ w' = w)
  case atStart => exact ⟨a, 0, by first | rfl | (simp [*]; done), rfl, ⟨rfl, rfl⟩, rfl⟩
  case round =>
    obtain ⟨x, i, rfl, rfl, HA, rfl⟩ := hrel
    obtain ⟨hx0, hx1⟩ : InR x := HA.out.2 ▸ steps_range a hin'.out i
    have hi : i ≤ 9 := by have := HA.out.1; omega
    clear h0 h1 hw0
    by_cases c1 : i < 9
    · obtain ⟨kp, rfl⟩ : ∃ kp, gk = kp + 1 := ⟨gk - 1, by have := HA.out.1; omega⟩
      have c1b : decide ((i : Int) < 9) = true := decide_eq_true (by omega)
      have HS : Aside0 (step1 x = steps (i + 1) a) := ⟨by rw [steps, HA.out.2]⟩
      have HN : Aside0 (i + 1 + kp = 9) := ⟨by have := HA.out.1; omega⟩
      clear HA
      have e1 : IntKind.u64.wrap (2 * x) = 2 * x := by rw [IntKind.wrap_u64]; omega
      have e2 : IntKind.u64.wrap (2 * x % 4294967296 + x / 2147483648) = 2 * x % 4294967296 + x / 2147483648 := by rw [IntKind.wrap_u64]; omega
      have e3 : Int.tmod (2 * x) 4294967296 = 2 * x % 4294967296 := Int.tmod_eq_emod_of_nonneg (by omega)
      have e4 : Int.tdiv x 2147483648 = x / 2147483648 := Int.tdiv_eq_ediv_of_nonneg (by omega)
      have e5 : IntKind.i64.wrap ((i : Int) + 1) = (i : Int) + 1 := by rw [IntKind.wrap_i64]; omega
      go_wp2
      go_roundg kp
      case measure => omega
      case rel => exact ⟨step1 x, i + 1, by first | rfl | (simp [step1]; done), by first | rfl | (simp; done), ⟨HN.out, HS.out⟩, rfl⟩
    · have c1b : decide ((i : Int) < 9) = false := decide_eq_false (by omega)
      have hx : x = turn 512 8388608 a := by
        have hi2 : i = 9 := by omega
        rw [HA.out.2, hi2, steps_9 a hin'.out, turn_sum_9 a hin'.out]
      have e6 : IntKind.u32.wrap x = x := by rw [IntKind.wrap_u32]; omega
      have HX_ : Aside0 (x = turn 512 8388608 a) := ⟨hx⟩
      clear HA hx
      go_wp2
      go_ret
      exact ⟨by rw [← HX_.out]; rfl, rfl⟩
set_option maxHeartbeats 800000 in
theorem ref_turn_13 (a : Int) (hin : InR a) (w : World) : Calls Tryd.prog 54 #[.int .u32 a, .int .i64 (13)] w fun e w' => e = .returned (.int .u32 (turn 8192 524288 a)) ∧ w' = w := by
  have hin' := Aside0.mk hin
  obtain ⟨h0, h1⟩ := hin
  have hw0 : IntKind.u64.wrap a = a := by rw [IntKind.wrap_u64]; omega
  go_enter Tryd.func54, Tryd.ntmps54
  go_wp2
  go_loopg [6, 7] 13 (fun kq v6 v7 w' => ∃ (x : Int) (i : Nat), v6 = .int .u64 x ∧ v7 = .int .i64 (i : Int) ∧ Aside0 (i + kq = 13 ∧ x = steps i a) ∧ w' = w)
  case atStart => exact ⟨a, 0, by first | rfl | (simp [*]; done), rfl, ⟨rfl, rfl⟩, rfl⟩
  case round =>
    obtain ⟨x, i, rfl, rfl, HA, rfl⟩ := hrel
    obtain ⟨hx0, hx1⟩ : InR x := HA.out.2 ▸ steps_range a hin'.out i
    have hi : i ≤ 13 := by have := HA.out.1; omega
    clear h0 h1 hw0
    by_cases c1 : i < 13
    · obtain ⟨kp, rfl⟩ : ∃ kp, gk = kp + 1 := ⟨gk - 1, by have := HA.out.1; omega⟩
      have c1b : decide ((i : Int) < 13) = true := decide_eq_true (by omega)
      have HS : Aside0 (step1 x = steps (i + 1) a) := ⟨by rw [steps, HA.out.2]⟩
      have HN : Aside0 (i + 1 + kp = 13) := ⟨by have := HA.out.1; omega⟩
      clear HA
      have e1 : IntKind.u64.wrap (2 * x) = 2 * x := by rw [IntKind.wrap_u64]; omega
      have e2 : IntKind.u64.wrap (2 * x % 4294967296 + x / 2147483648) = 2 * x % 4294967296 + x / 2147483648 := by rw [IntKind.wrap_u64]; omega
      have e3 : Int.tmod (2 * x) 4294967296 = 2 * x % 4294967296 := Int.tmod_eq_emod_of_nonneg (by omega)
      have e4 : Int.tdiv x 2147483648 = x / 2147483648 := Int.tdiv_eq_ediv_of_nonneg (by omega)
      have e5 : IntKind.i64.wrap ((i : Int) + 1) = (i : Int) + 1 := by rw [IntKind.wrap_i64]; omega
      go_wp2
      go_roundg kp
      case measure => omega
      case rel => exact ⟨step1 x, i + 1, by first | rfl | (simp [step1]; done), by first | rfl | (simp; done), ⟨HN.out, HS.out⟩, rfl⟩
    · have c1b : decide ((i : Int) < 13) = false := decide_eq_false (by omega)
      have hx : x = turn 8192 524288 a := by
        have hi2 : i = 13 := by omega
        rw [HA.out.2, hi2, steps_13 a hin'.out, turn_sum_13 a hin'.out]
      have e6 : IntKind.u32.wrap x = x := by rw [IntKind.wrap_u32]; omega
      have HX_ : Aside0 (x = turn 8192 524288 a) := ⟨hx⟩
      clear HA hx
      go_wp2
      go_ret
      exact ⟨by rw [← HX_.out]; rfl, rfl⟩
set_option maxHeartbeats 800000 in
theorem ref_turn_18 (a : Int) (hin : InR a) (w : World) : Calls Tryd.prog 54 #[.int .u32 a, .int .i64 (18)] w fun e w' => e = .returned (.int .u32 (turn 262144 16384 a)) ∧ w' = w := by
  have hin' := Aside0.mk hin
  obtain ⟨h0, h1⟩ := hin
  have hw0 : IntKind.u64.wrap a = a := by rw [IntKind.wrap_u64]; omega
  go_enter Tryd.func54, Tryd.ntmps54
  go_wp2
  go_loopg [6, 7] 18 (fun kq v6 v7 w' => ∃ (x : Int) (i : Nat), v6 = .int .u64 x ∧ v7 = .int .i64 (i : Int) ∧ Aside0 (i + kq = 18 ∧ x = steps i a) ∧ w' = w)
  case atStart => exact ⟨a, 0, by first | rfl | (simp [*]; done), rfl, ⟨rfl, rfl⟩, rfl⟩
  case round =>
    obtain ⟨x, i, rfl, rfl, HA, rfl⟩ := hrel
    obtain ⟨hx0, hx1⟩ : InR x := HA.out.2 ▸ steps_range a hin'.out i
    have hi : i ≤ 18 := by have := HA.out.1; omega
    clear h0 h1 hw0
    by_cases c1 : i < 18
    · obtain ⟨kp, rfl⟩ : ∃ kp, gk = kp + 1 := ⟨gk - 1, by have := HA.out.1; omega⟩
      have c1b : decide ((i : Int) < 18) = true := decide_eq_true (by omega)
      have HS : Aside0 (step1 x = steps (i + 1) a) := ⟨by rw [steps, HA.out.2]⟩
      have HN : Aside0 (i + 1 + kp = 18) := ⟨by have := HA.out.1; omega⟩
      clear HA
      have e1 : IntKind.u64.wrap (2 * x) = 2 * x := by rw [IntKind.wrap_u64]; omega
      have e2 : IntKind.u64.wrap (2 * x % 4294967296 + x / 2147483648) = 2 * x % 4294967296 + x / 2147483648 := by rw [IntKind.wrap_u64]; omega
      have e3 : Int.tmod (2 * x) 4294967296 = 2 * x % 4294967296 := Int.tmod_eq_emod_of_nonneg (by omega)
      have e4 : Int.tdiv x 2147483648 = x / 2147483648 := Int.tdiv_eq_ediv_of_nonneg (by omega)
      have e5 : IntKind.i64.wrap ((i : Int) + 1) = (i : Int) + 1 := by rw [IntKind.wrap_i64]; omega
      go_wp2
      go_roundg kp
      case measure => omega
      case rel => exact ⟨step1 x, i + 1, by first | rfl | (simp [step1]; done), by first | rfl | (simp; done), ⟨HN.out, HS.out⟩, rfl⟩
    · have c1b : decide ((i : Int) < 18) = false := decide_eq_false (by omega)
      have hx : x = turn 262144 16384 a := by
        have hi2 : i = 18 := by omega
        rw [HA.out.2, hi2, steps_18 a hin'.out, turn_sum_18 a hin'.out]
      have e6 : IntKind.u32.wrap x = x := by rw [IntKind.wrap_u32]; omega
      have HX_ : Aside0 (x = turn 262144 16384 a) := ⟨hx⟩
      clear HA hx
      go_wp2
      go_ret
      exact ⟨by rw [← HX_.out]; rfl, rfl⟩
set_option maxHeartbeats 800000 in
theorem ref_turn_m7 (a : Int) (hin : InR a) (w : World) : Calls Tryd.prog 54 #[.int .u32 a, .int .i64 (-7)] w fun e w' => e = .returned (.int .u32 (turn 33554432 128 a)) ∧ w' = w := by
  have hin' := Aside0.mk hin
  obtain ⟨h0, h1⟩ := hin
  have hw0 : IntKind.u64.wrap a = a := by rw [IntKind.wrap_u64]; omega
  go_enter Tryd.func54, Tryd.ntmps54
  go_wp2
  go_loopg [6, 7] 25 (fun kq v6 v7 w' => ∃ (x : Int) (i : Nat), v6 = .int .u64 x ∧ v7 = .int .i64 (i : Int) ∧ Aside0 (i + kq = 25 ∧ x = steps i a) ∧ w' = w)
  case atStart => exact ⟨a, 0, by first | rfl | (simp [*]; done), rfl, ⟨rfl, rfl⟩, rfl⟩
  case round =>
    obtain ⟨x, i, rfl, rfl, HA, rfl⟩ := hrel
    obtain ⟨hx0, hx1⟩ : InR x := HA.out.2 ▸ steps_range a hin'.out i
    have hi : i ≤ 25 := by have := HA.out.1; omega
    clear h0 h1 hw0
    by_cases c1 : i < 25
    · obtain ⟨kp, rfl⟩ : ∃ kp, gk = kp + 1 := ⟨gk - 1, by have := HA.out.1; omega⟩
      have c1b : decide ((i : Int) < 25) = true := decide_eq_true (by omega)
      have HS : Aside0 (step1 x = steps (i + 1) a) := ⟨by rw [steps, HA.out.2]⟩
      have HN : Aside0 (i + 1 + kp = 25) := ⟨by have := HA.out.1; omega⟩
      clear HA
      have e1 : IntKind.u64.wrap (2 * x) = 2 * x := by rw [IntKind.wrap_u64]; omega
      have e2 : IntKind.u64.wrap (2 * x % 4294967296 + x / 2147483648) = 2 * x % 4294967296 + x / 2147483648 := by rw [IntKind.wrap_u64]; omega
      have e3 : Int.tmod (2 * x) 4294967296 = 2 * x % 4294967296 := Int.tmod_eq_emod_of_nonneg (by omega)
      have e4 : Int.tdiv x 2147483648 = x / 2147483648 := Int.tdiv_eq_ediv_of_nonneg (by omega)
      have e5 : IntKind.i64.wrap ((i : Int) + 1) = (i : Int) + 1 := by rw [IntKind.wrap_i64]; omega
      go_wp2
      go_roundg kp
      case measure => omega
      case rel => exact ⟨step1 x, i + 1, by first | rfl | (simp [step1]; done), by first | rfl | (simp; done), ⟨HN.out, HS.out⟩, rfl⟩
    · have c1b : decide ((i : Int) < 25) = false := decide_eq_false (by omega)
      have hx : x = turn 33554432 128 a := by
        have hi2 : i = 25 := by omega
        rw [HA.out.2, hi2, steps_25 a hin'.out, turn_sum_m7 a hin'.out]
      have e6 : IntKind.u32.wrap x = x := by rw [IntKind.wrap_u32]; omega
      have HX_ : Aside0 (x = turn 33554432 128 a) := ⟨hx⟩
      clear HA hx
      go_wp2
      go_ret
      exact ⟨by rw [← HX_.out]; rfl, rfl⟩
set_option maxHeartbeats 800000 in
theorem ref_turn_m9 (a : Int) (hin : InR a) (w : World) : Calls Tryd.prog 54 #[.int .u32 a, .int .i64 (-9)] w fun e w' => e = .returned (.int .u32 (turn 8388608 512 a)) ∧ w' = w := by
  have hin' := Aside0.mk hin
  obtain ⟨h0, h1⟩ := hin
  have hw0 : IntKind.u64.wrap a = a := by rw [IntKind.wrap_u64]; omega
  go_enter Tryd.func54, Tryd.ntmps54
  go_wp2
  go_loopg [6, 7] 23 (fun kq v6 v7 w' => ∃ (x : Int) (i : Nat), v6 = .int .u64 x ∧ v7 = .int .i64 (i : Int) ∧ Aside0 (i + kq = 23 ∧ x = steps i a) ∧ w' = w)
  case atStart => exact ⟨a, 0, by first | rfl | (simp [*]; done), rfl, ⟨rfl, rfl⟩, rfl⟩
  case round =>
    obtain ⟨x, i, rfl, rfl, HA, rfl⟩ := hrel
    obtain ⟨hx0, hx1⟩ : InR x := HA.out.2 ▸ steps_range a hin'.out i
    have hi : i ≤ 23 := by have := HA.out.1; omega
    clear h0 h1 hw0
    by_cases c1 : i < 23
    · obtain ⟨kp, rfl⟩ : ∃ kp, gk = kp + 1 := ⟨gk - 1, by have := HA.out.1; omega⟩
      have c1b : decide ((i : Int) < 23) = true := decide_eq_true (by omega)
      have HS : Aside0 (step1 x = steps (i + 1) a) := ⟨by rw [steps, HA.out.2]⟩
      have HN : Aside0 (i + 1 + kp = 23) := ⟨by have := HA.out.1; omega⟩
      clear HA
      have e1 : IntKind.u64.wrap (2 * x) = 2 * x := by rw [IntKind.wrap_u64]; omega
      have e2 : IntKind.u64.wrap (2 * x % 4294967296 + x / 2147483648) = 2 * x % 4294967296 + x / 2147483648 := by rw [IntKind.wrap_u64]; omega
      have e3 : Int.tmod (2 * x) 4294967296 = 2 * x % 4294967296 := Int.tmod_eq_emod_of_nonneg (by omega)
      have e4 : Int.tdiv x 2147483648 = x / 2147483648 := Int.tdiv_eq_ediv_of_nonneg (by omega)
      have e5 : IntKind.i64.wrap ((i : Int) + 1) = (i : Int) + 1 := by rw [IntKind.wrap_i64]; omega
      go_wp2
      go_roundg kp
      case measure => omega
      case rel => exact ⟨step1 x, i + 1, by first | rfl | (simp [step1]; done), by first | rfl | (simp; done), ⟨HN.out, HS.out⟩, rfl⟩
    · have c1b : decide ((i : Int) < 23) = false := decide_eq_false (by omega)
      have hx : x = turn 8388608 512 a := by
        have hi2 : i = 23 := by omega
        rw [HA.out.2, hi2, steps_23 a hin'.out, turn_sum_m9 a hin'.out]
      have e6 : IntKind.u32.wrap x = x := by rw [IntKind.wrap_u32]; omega
      have HX_ : Aside0 (x = turn 8388608 512 a) := ⟨hx⟩
      clear HA hx
      go_wp2
      go_ret
      exact ⟨by rw [← HX_.out]; rfl, rfl⟩
set_option maxHeartbeats 800000 in
theorem ref_turn_m13 (a : Int) (hin : InR a) (w : World) : Calls Tryd.prog 54 #[.int .u32 a, .int .i64 (-13)] w fun e w' => e = .returned (.int .u32 (turn 524288 8192 a)) ∧ w' = w := by
  have hin' := Aside0.mk hin
  obtain ⟨h0, h1⟩ := hin
  have hw0 : IntKind.u64.wrap a = a := by rw [IntKind.wrap_u64]; omega
  go_enter Tryd.func54, Tryd.ntmps54
  go_wp2
  go_loopg [6, 7] 19 (fun kq v6 v7 w' => ∃ (x : Int) (i : Nat), v6 = .int .u64 x ∧ v7 = .int .i64 (i : Int) ∧ Aside0 (i + kq = 19 ∧ x = steps i a) ∧ w' = w)
  case atStart => exact ⟨a, 0, by first | rfl | (simp [*]; done), rfl, ⟨rfl, rfl⟩, rfl⟩
  case round =>
    obtain ⟨x, i, rfl, rfl, HA, rfl⟩ := hrel
    obtain ⟨hx0, hx1⟩ : InR x := HA.out.2 ▸ steps_range a hin'.out i
    have hi : i ≤ 19 := by have := HA.out.1; omega
    clear h0 h1 hw0
    by_cases c1 : i < 19
    · obtain ⟨kp, rfl⟩ : ∃ kp, gk = kp + 1 := ⟨gk - 1, by have := HA.out.1; omega⟩
      have c1b : decide ((i : Int) < 19) = true := decide_eq_true (by omega)
      have HS : Aside0 (step1 x = steps (i + 1) a) := ⟨by rw [steps, HA.out.2]⟩
      have HN : Aside0 (i + 1 + kp = 19) := ⟨by have := HA.out.1; omega⟩
      clear HA
      have e1 : IntKind.u64.wrap (2 * x) = 2 * x := by rw [IntKind.wrap_u64]; omega
      have e2 : IntKind.u64.wrap (2 * x % 4294967296 + x / 2147483648) = 2 * x % 4294967296 + x / 2147483648 := by rw [IntKind.wrap_u64]; omega
      have e3 : Int.tmod (2 * x) 4294967296 = 2 * x % 4294967296 := Int.tmod_eq_emod_of_nonneg (by omega)
      have e4 : Int.tdiv x 2147483648 = x / 2147483648 := Int.tdiv_eq_ediv_of_nonneg (by omega)
      have e5 : IntKind.i64.wrap ((i : Int) + 1) = (i : Int) + 1 := by rw [IntKind.wrap_i64]; omega
      go_wp2
      go_roundg kp
      case measure => omega
      case rel => exact ⟨step1 x, i + 1, by first | rfl | (simp [step1]; done), by first | rfl | (simp; done), ⟨HN.out, HS.out⟩, rfl⟩
    · have c1b : decide ((i : Int) < 19) = false := decide_eq_false (by omega)
      have hx : x = turn 524288 8192 a := by
        have hi2 : i = 19 := by omega
        rw [HA.out.2, hi2, steps_19 a hin'.out, turn_sum_m13 a hin'.out]
      have e6 : IntKind.u32.wrap x = x := by rw [IntKind.wrap_u32]; omega
      have HX_ : Aside0 (x = turn 524288 8192 a) := ⟨hx⟩
      clear HA hx
      go_wp2
      go_ret
      exact ⟨by rw [← HX_.out]; rfl, rfl⟩
set_option maxHeartbeats 800000 in
theorem ref_turn_m18 (a : Int) (hin : InR a) (w : World) : Calls Tryd.prog 54 #[.int .u32 a, .int .i64 (-18)] w fun e w' => e = .returned (.int .u32 (turn 16384 262144 a)) ∧ w' = w := by
  have hin' := Aside0.mk hin
  obtain ⟨h0, h1⟩ := hin
  have hw0 : IntKind.u64.wrap a = a := by rw [IntKind.wrap_u64]; omega
  go_enter Tryd.func54, Tryd.ntmps54
  go_wp2
  go_loopg [6, 7] 14 (fun kq v6 v7 w' => ∃ (x : Int) (i : Nat), v6 = .int .u64 x ∧ v7 = .int .i64 (i : Int) ∧ Aside0 (i + kq = 14 ∧ x = steps i a) ∧ w' = w)
  case atStart => exact ⟨a, 0, by first | rfl | (simp [*]; done), rfl, ⟨rfl, rfl⟩, rfl⟩
  case round =>
    obtain ⟨x, i, rfl, rfl, HA, rfl⟩ := hrel
    obtain ⟨hx0, hx1⟩ : InR x := HA.out.2 ▸ steps_range a hin'.out i
    have hi : i ≤ 14 := by have := HA.out.1; omega
    clear h0 h1 hw0
    by_cases c1 : i < 14
    · obtain ⟨kp, rfl⟩ : ∃ kp, gk = kp + 1 := ⟨gk - 1, by have := HA.out.1; omega⟩
      have c1b : decide ((i : Int) < 14) = true := decide_eq_true (by omega)
      have HS : Aside0 (step1 x = steps (i + 1) a) := ⟨by rw [steps, HA.out.2]⟩
      have HN : Aside0 (i + 1 + kp = 14) := ⟨by have := HA.out.1; omega⟩
      clear HA
      have e1 : IntKind.u64.wrap (2 * x) = 2 * x := by rw [IntKind.wrap_u64]; omega
      have e2 : IntKind.u64.wrap (2 * x % 4294967296 + x / 2147483648) = 2 * x % 4294967296 + x / 2147483648 := by rw [IntKind.wrap_u64]; omega
      have e3 : Int.tmod (2 * x) 4294967296 = 2 * x % 4294967296 := Int.tmod_eq_emod_of_nonneg (by omega)
      have e4 : Int.tdiv x 2147483648 = x / 2147483648 := Int.tdiv_eq_ediv_of_nonneg (by omega)
      have e5 : IntKind.i64.wrap ((i : Int) + 1) = (i : Int) + 1 := by rw [IntKind.wrap_i64]; omega
      go_wp2
      go_roundg kp
      case measure => omega
      case rel => exact ⟨step1 x, i + 1, by first | rfl | (simp [step1]; done), by first | rfl | (simp; done), ⟨HN.out, HS.out⟩, rfl⟩
    · have c1b : decide ((i : Int) < 14) = false := decide_eq_false (by omega)
      have hx : x = turn 16384 262144 a := by
        have hi2 : i = 14 := by omega
        rw [HA.out.2, hi2, steps_14 a hin'.out, turn_sum_m18 a hin'.out]
      have e6 : IntKind.u32.wrap x = x := by rw [IntKind.wrap_u32]; omega
      have HX_ : Aside0 (x = turn 16384 262144 a) := ⟨hx⟩
      clear HA hx
      go_wp2
      go_ret
      exact ⟨by rw [← HX_.out]; rfl, rfl⟩
end Go.Proofs.YthimgiphlenjdaaDoor.HX
