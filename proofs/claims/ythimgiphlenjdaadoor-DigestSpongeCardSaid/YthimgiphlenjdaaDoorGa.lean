/- Contracts of the Go functions of this seat, each over a Lean function of the same answers; written by a program of this session's. -/
import Derived.Test.YthimgiphlenjdaaDoorPIx0
import Derived.Test.YthimgiphlenjdaaDoorHWords
import Derived.Test.YthimgiphlenjdaaDoorHDig
import Derived.Test.YthimgiphlenjdaaDoorHWrite
import Derived.Test.YthimgiphlenjdaaDoorHMix
namespace Go.Proofs.YthimgiphlenjdaaDoor.PI
open Go.RowKit Go.Proofs.YthimgiphlenjdaaDoorW.PrintWords Go.Proofs.YthimgiphlenjdaaDoorW.PrintLast Go.Proofs.YthimgiphlenjdaaDoorW.PrintMore
attribute [local go_sem] max2_int min2_int max_two min_two max_three min_three max_four min_four   -- for this text's walks alone
open HX
set_option linter.unusedVariables false
set_option linter.unusedSimpArgs false

section
/-! ### hex_value: function 73 -/
mutual
def hex_value.j0 : Nat → Int → Bool → Option (Int)
  | 0, _, _ => none
  | k + 1, x0, x3 => if x3 = true then (some ((x0 - 48) % 256)) else (if x0 ≥ 97 then (hex_value.j1 k x0 (decide (x0 ≤ 102))) else (hex_value.j1 k x0 false))
def hex_value.j1 : Nat → Int → Bool → Option (Int)
  | 0, _, _ => none
  | k + 1, x0, x12 => if x12 = true then (some ((((x0 - 97) % 256) + 10) % 256)) else (if x0 ≥ 65 then (if x0 ≤ 70 then (some ((((x0 - 65) % 256) + 10) % 256)) else (some 255)) else (some 255))
end
def hex_value.f (k : Nat) (a0 : Int) : Option (Int) := if a0 ≥ 48 then (hex_value.j0 k a0 (decide (a0 ≤ 57))) else (hex_value.j0 k a0 false)
theorem hex_value.mono_l : ∀ k, (∀ y0 y1, LeO (hex_value.j0 k y0 y1) (hex_value.j0 (k + 1) y0 y1)) ∧ (∀ y0 y1, LeO (hex_value.j1 k y0 y1) (hex_value.j1 (k + 1) y0 y1))
  | 0 => ⟨fun _ _ r h => by simp [hex_value.j0] at h, fun _ _ r h => by simp [hex_value.j1] at h⟩
  | k + 1 => by
    obtain ⟨ih0, ih1⟩ := hex_value.mono_l k
    refine ⟨?_, ?_⟩
    · intro y0 y1
      unfold hex_value.j0
      repeat' first
      | (with_reducible exact ih0 _ _)
      | (with_reducible exact ih1 _ _)
      | (with_reducible exact LeO.refl _)
      | (with_reducible exact LeO.none _)
      | (with_reducible refine LeO.ite ?_ ?_)
      | (with_reducible refine LeO.bind ?_ (fun _ => ?_))
      | exact ih0 _ _
      | exact ih1 _ _
      | exact LeO.none _
      | refine LeO.ite ?_ ?_
      | refine LeO.bind ?_ (fun _ => ?_)
    · intro y0 y1
      unfold hex_value.j1
      repeat' first
      | (with_reducible exact ih0 _ _)
      | (with_reducible exact ih1 _ _)
      | (with_reducible exact LeO.refl _)
      | (with_reducible exact LeO.none _)
      | (with_reducible refine LeO.ite ?_ ?_)
      | (with_reducible refine LeO.bind ?_ (fun _ => ?_))
      | exact ih0 _ _
      | exact ih1 _ _
      | exact LeO.none _
      | refine LeO.ite ?_ ?_
      | refine LeO.bind ?_ (fun _ => ?_)
theorem hex_value.mono : ∀ a0 k, LeO (hex_value.f k a0) (hex_value.f (k + 1) a0) := by
  intro a0 k
  obtain ⟨ih0, ih1⟩ := hex_value.mono_l k
  unfold hex_value.f
  repeat' first
      | (with_reducible exact ih0 _ _)
      | (with_reducible exact ih1 _ _)
      | (with_reducible exact LeO.refl _)
      | (with_reducible exact LeO.none _)
      | (with_reducible refine LeO.ite ?_ ?_)
      | (with_reducible refine LeO.bind ?_ (fun _ => ?_))
      | exact ih0 _ _
      | exact ih1 _ _
      | exact LeO.none _
      | refine LeO.ite ?_ ?_
      | refine LeO.bind ?_ (fun _ => ?_)
set_option maxHeartbeats 8000000 in
set_option maxRecDepth 100000 in
theorem hex_value.calls (k : Nat) (a0 : Int) (r : Int) (w : World) (h : hex_value.f k a0 = some r) :
    Calls Tryd.prog 73 #[.int .u8 a0] w fun e w' => e = .returned (.int .u8 r) ∧ Drawn0 w w' := by
  have H : (if a0 ≥ 48 then (hex_value.j0 k a0 (decide (a0 ≤ 57))) else (hex_value.j0 k a0 false)) = some r := h
  clear h
  have HC2 := Aside0.mk H
  clear H
  go_enter Tryd.func73, Tryd.ntmps73
  go_upto_region 1 with (fail)
  go_cut [3] (fun v3 wc => ∃ (kq : Nat) (x3_1 : Bool), v3 = .bool x3_1 ∧ Aside0 (hex_value.j0 kq a0 x3_1 = some r) ∧ Aside0 (kq ≤ k) ∧ Drawn0 w wc)
  case first =>
    have H := HC2.out
    clear HC2
    by_cases c3 : a0 ≥ 48
    · rw [if_pos c3] at H
      have c3b0 : decide (48 ≤ a0) = true := decide_eq_true c3
      clear c3
      (first | rw [c3b0] | (simp only [i64_w, i32_w]; rw [c3b0]) | skip)
      have H' := Aside0.mk H
      clear H
      go_wp2
      go_meet
      case rel => exact ⟨_, (decide (a0 ≤ 57)), (by first | rfl | (simp; done) | (simp [*]; done)), H', ⟨by first | omega | exact Nat.le_refl _⟩, by repeat (first | exact Drawn0.refl _ | apply Drawn0.step)⟩
    · rw [if_neg c3] at H
      have c3b0 : decide (48 ≤ a0) = false := decide_eq_false c3
      clear c3
      (first | rw [c3b0] | (simp only [i64_w, i32_w]; rw [c3b0]) | skip)
      have H' := Aside0.mk H
      clear H
      go_wp2
      go_meet
      case rel => exact ⟨_, (false), (by first | rfl | (simp; done) | (simp [*]; done)), H', ⟨by first | omega | exact Nat.le_refl _⟩, by repeat (first | exact Drawn0.refl _ | apply Drawn0.step)⟩
  case rest =>
    clear HC2
    try clear p2
    try clear c3
    try clear c3b0
    obtain ⟨kq, x3_1, rfl, HA, HJ1, ⟨mc1, rfl⟩⟩ := hcut
    cases kq with
    | zero => exact absurd HA.out (by simp [hex_value.j0])
    | succ kj1 =>
      have H := HA.out
      clear HA
      simp only [hex_value.j0] at H
      by_cases c4 : x3_1 = true
      · subst c4
        have H1 : (some ((a0 - 48) % 256)) = some r := by rw [if_pos rfl] at H; exact H
        clear H
        have H := H1
        clear H1
        obtain rfl := Option.some.inj H
        go_wp2
        go_ret
        exact ⟨by first | rfl | (simp; done) | (simp [*]; done), by repeat (first | exact Drawn0.refl _ | apply Drawn0.step)⟩
      · replace c4 := Bool.eq_false_iff.mpr c4
        subst c4
        have H1 : (if a0 ≥ 97 then (hex_value.j1 kj1 a0 (decide (a0 ≤ 102))) else (hex_value.j1 kj1 a0 false)) = some r := by rw [if_neg (show ¬ (false = true) by decide)] at H; exact H
        clear H
        have H := H1
        clear H1
        have HC5 := Aside0.mk H
        clear H
        go_upto_region 3 with (fail)
        go_cut [12] (fun v12 wc => ∃ (kq : Nat) (x12_4 : Bool), v12 = .bool x12_4 ∧ Aside0 (hex_value.j1 kq a0 x12_4 = some r) ∧ Aside0 (kq ≤ kj1) ∧ Drawn0 w wc)
        case first =>
          have H := HC5.out
          clear HC5
          by_cases c6 : a0 ≥ 97
          · rw [if_pos c6] at H
            have c6b0 : decide (97 ≤ a0) = true := decide_eq_true c6
            clear c6
            (first | rw [c6b0] | (simp only [i64_w, i32_w]; rw [c6b0]) | skip)
            have H' := Aside0.mk H
            clear H
            go_wp2
            go_meet
            case rel => exact ⟨_, (decide (a0 ≤ 102)), (by first | rfl | (simp; done) | (simp [*]; done)), H', ⟨by have := HJ1.out; first | omega | exact Nat.le_refl _⟩, by repeat (first | exact Drawn0.refl _ | apply Drawn0.step)⟩
          · rw [if_neg c6] at H
            have c6b0 : decide (97 ≤ a0) = false := decide_eq_false c6
            clear c6
            (first | rw [c6b0] | (simp only [i64_w, i32_w]; rw [c6b0]) | skip)
            have H' := Aside0.mk H
            clear H
            go_wp2
            go_meet
            case rel => exact ⟨_, (false), (by first | rfl | (simp; done) | (simp [*]; done)), H', ⟨by have := HJ1.out; first | omega | exact Nat.le_refl _⟩, by repeat (first | exact Drawn0.refl _ | apply Drawn0.step)⟩
        case rest =>
          clear HC5
          try clear c1
          try clear p2
          try clear c3
          try clear c3b0
          try clear c4
          try clear c6
          try clear c6b0
          try clear p2
          obtain ⟨kq, x12_4, rfl, HA, HJ4, ⟨mc4, rfl⟩⟩ := hcut
          cases kq with
          | zero => exact absurd HA.out (by simp [hex_value.j1])
          | succ kj4 =>
            have H := HA.out
            clear HA
            simp only [hex_value.j1] at H
            by_cases c7 : x12_4 = true
            · subst c7
              have H1 : (some ((((a0 - 97) % 256) + 10) % 256)) = some r := by rw [if_pos rfl] at H; exact H
              clear H
              have H := H1
              clear H1
              obtain rfl := Option.some.inj H
              go_wp2
              go_ret
              exact ⟨by first | rfl | (simp; done) | (simp [*]; done), by repeat (first | exact Drawn0.refl _ | apply Drawn0.step)⟩
            · replace c7 := Bool.eq_false_iff.mpr c7
              subst c7
              have H1 : (if a0 ≥ 65 then (if a0 ≤ 70 then (some ((((a0 - 65) % 256) + 10) % 256)) else (some 255)) else (some 255)) = some r := by rw [if_neg (show ¬ (false = true) by decide)] at H; exact H
              clear H
              have H := H1
              clear H1
              by_cases c8 : a0 ≥ 65
              · rw [if_pos c8] at H
                have c8b0 : decide (65 ≤ a0) = true := decide_eq_true c8
                clear c8
                by_cases c9 : a0 ≤ 70
                · rw [if_pos c9] at H
                  have c9b0 : decide (a0 ≤ 70) = true := decide_eq_true c9
                  clear c9
                  obtain rfl := Option.some.inj H
                  go_wp2
                  go_ret
                  exact ⟨by first | rfl | (simp; done) | (simp [*]; done), by repeat (first | exact Drawn0.refl _ | apply Drawn0.step)⟩
                · rw [if_neg c9] at H
                  have c9b0 : decide (a0 ≤ 70) = false := decide_eq_false c9
                  clear c9
                  obtain rfl := Option.some.inj H
                  go_wp2
                  go_ret
                  exact ⟨by first | rfl | (simp; done) | (simp [*]; done), by repeat (first | exact Drawn0.refl _ | apply Drawn0.step)⟩
              · rw [if_neg c8] at H
                have c8b0 : decide (65 ≤ a0) = false := decide_eq_false c8
                clear c8
                obtain rfl := Option.some.inj H
                go_wp2
                go_ret
                exact ⟨by first | rfl | (simp; done) | (simp [*]; done), by repeat (first | exact Drawn0.refl _ | apply Drawn0.step)⟩


end

section
/-! ### hex_Parse: function 48 -/
def hex_Parse.l0 : Nat → ByteArray → List Int → Int → Int → Option (ByteArray × Int × Int)
  | 0, _, _, _, _ => none
  | k + 1, x0, x5, x13, x14 => if x14 < x13 then (if 0 ≤ x14 then (if x14 < (x0.size : Int) then ((hex_value.f k (bt x0 x14)).bind fun t127 => (if t127 = 255 then (some ((⟨#[]⟩ : ByteArray), x14, 3)) else (if (Int.tmod x14 2) = 0 then (if x5.length < 140737488355328 then (hex_Parse.l0 k x0 (x5 ++ [(t127 * 16) % 256]) x13 (wrap64 (x14 + 1))) else (none)) else (if 0 ≤ (wrap64 (Int.tdiv x14 2)) then (if (wrap64 (Int.tdiv x14 2)) < (x5.length : Int) then (hex_Parse.l0 k x0 (x5.set ((wrap64 (Int.tdiv x14 2)) : Int).toNat (Go.bits .or .u8 (rd x5 (wrap64 (Int.tdiv x14 2))) t127)) x13 (wrap64 (x14 + 1))) else (none)) else (none))))) else (none)) else (none)) else (if ((x0.size : Int) % 2) = 1 then (some ((⟨#[]⟩ : ByteArray), (x0.size : Int), 3)) else (some (strOfNums x5, 0, 0)))
def hex_Parse.f (k : Nat) (a0 : ByteArray) : Option (ByteArray × Int × Int) := if a0.size ≤ 140737488355328 then (hex_Parse.l0 k a0 ([] : List Int) (a0.size : Int) 0) else none
theorem hex_Parse.mono_l : ∀ k, (∀ y0 y1 y2 y3, LeO (hex_Parse.l0 k y0 y1 y2 y3) (hex_Parse.l0 (k + 1) y0 y1 y2 y3))
  | 0 => fun _ _ _ _ r h => by simp [hex_Parse.l0] at h
  | k + 1 => by
    have ih0 := hex_Parse.mono_l k
    · intro y0 y1 y2 y3
      unfold hex_Parse.l0
      repeat' first
      | (with_reducible exact ih0 _ _ _ _)
      | (with_reducible exact hex_value.mono _ _)
      | (with_reducible exact LeO.refl _)
      | (with_reducible exact LeO.none _)
      | (with_reducible refine LeO.ite ?_ ?_)
      | (with_reducible refine LeO.bind ?_ (fun _ => ?_))
      | exact ih0 _ _ _ _
      | exact hex_value.mono _ _
      | exact LeO.none _
      | refine LeO.ite ?_ ?_
      | refine LeO.bind ?_ (fun _ => ?_)
theorem hex_Parse.mono : ∀ a0 k, LeO (hex_Parse.f k a0) (hex_Parse.f (k + 1) a0) := by
  intro a0 k
  have ih0 := hex_Parse.mono_l k
  unfold hex_Parse.f
  repeat' first
      | (with_reducible exact ih0 _ _ _ _)
      | (with_reducible exact hex_value.mono _ _)
      | (with_reducible exact LeO.refl _)
      | (with_reducible exact LeO.none _)
      | (with_reducible refine LeO.ite ?_ ?_)
      | (with_reducible refine LeO.bind ?_ (fun _ => ?_))
      | exact ih0 _ _ _ _
      | exact hex_value.mono _ _
      | exact LeO.none _
      | refine LeO.ite ?_ ?_
      | refine LeO.bind ?_ (fun _ => ?_)
set_option maxHeartbeats 8000000 in
set_option maxRecDepth 100000 in
theorem hex_Parse.calls (k : Nat) (a0 : ByteArray) (r1 : ByteArray) (r2 : Int) (r3 : Int) (w : World) (h : hex_Parse.f k a0 = some (r1, r2, r3)) :
    Calls Tryd.prog 48 #[.string a0] w fun e w' => e = .returned (.tuple #[.string r1, .int .i64 r2, .int .i64 r3]) ∧ Below w.heap.size w w' := by
  have HB := Aside0.mk (Below.refl w.heap.size w)
  have hcap : a0.size ≤ 140737488355328 := by
    unfold hex_Parse.f at h
    split at h
    · assumption
    · cases h
  unfold hex_Parse.f at h
  rw [if_pos hcap] at h
  have hb1 : 0 ≤ (a0.size : Int) / 2 := by omega
  have hb2 : ((a0.size : Int) / 2).toNat * 1 ≤ 281474976710656 := by omega
  have HCAP := Aside0.mk hb2
  have HCAQ := Aside0.mk hb1
  clear hb1 hb2
  have H : (hex_Parse.l0 k a0 ([] : List Int) (a0.size : Int) 0) = some (r1, r2, r3) := h
  clear h
  have H' := Aside0.mk H
  clear H
  go_enter Tryd.func48, Tryd.ntmps48
  go_wp2_with (at_make; refine HX.R_mk0 (Kd.int .u8) (w0 := w) w.heap.size 5 rfl 41 _ _ rfl ((a0.size : Int) / 2) rfl rfl Tryd.underlying41 (.int .u8 0) 1 info5 (by decide) (ok := fun _ => True) trivial HCAQ.out HCAP.out (Below.refl _ _) (Nat.le_refl _) ?_; intro v1 w1 hm1 hb3 hg3; have HM := Aside0.mk hm1; have HBM := Aside0.mk hb3; clear hm1 hb3 hg3)
  go_loopg [5, 14] k (fun kq v5 v14 w' => ∃ (x5_1 : List Int) (x14_1 : Int), v14 = .int .i64 x14_1 ∧ Aside0 (hex_Parse.l0 kq a0 x5_1 (a0.size : Int) x14_1 = some (r1, r2, r3)) ∧ Aside0 (kq ≤ k) ∧ Aside0 (Kd.R (Kd.int .u8) 5 w' w.heap.size (fun _ => True) v5 x5_1) ∧ Aside0 (Below w.heap.size w w'))
  case atStart => exact ⟨(([] : List Int)), (0), (by first | rfl | (simp; done) | (simp [*]; done)), H', ⟨Nat.le_refl _⟩, ⟨by exact HM.out⟩, ⟨by exact HBM.out⟩⟩
  case round =>
    clear H' HM HBM HCAP HCAQ
    try clear hcap
    obtain ⟨x5_1, x14_1, rfl, HA, HK1, HO_5, HB⟩ := hrel
    cases gk with
    | zero => exact absurd HA.out (by simp [hex_Parse.l0])
    | succ k1 =>
      have H := HA.out
      clear HA
      simp only [hex_Parse.l0] at H
      by_cases c2 : x14_1 < (a0.size : Int)
      · rw [if_pos c2] at H
        have c2b0 : decide (x14_1 < (a0.size : Int)) = true := decide_eq_true c2
        clear c2
        by_cases c3 : 0 ≤ x14_1
        · rw [if_pos c3] at H
          have c3b0 : decide (0 ≤ x14_1) = true := decide_eq_true c3
          clear c3
          by_cases c4 : x14_1 < (a0.size : Int)
          · rw [if_pos c4] at H
            have c4b0 : decide (x14_1 < (a0.size : Int)) = true := decide_eq_true c4
            clear c4
            replace H := Option.bind_eq_some_iff.mp H
            obtain ⟨t127, A60, H⟩ := H
            replace H : (if t127 = 255 then (some ((⟨#[]⟩ : ByteArray), x14_1, 3)) else (if (Int.tmod x14_1 2) = 0 then (if x5_1.length < 140737488355328 then (hex_Parse.l0 k1 a0 (x5_1 ++ [(t127 * 16) % 256]) (a0.size : Int) (wrap64 (x14_1 + 1))) else (none)) else (if 0 ≤ (wrap64 (Int.tdiv x14_1 2)) then (if (wrap64 (Int.tdiv x14_1 2)) < (x5_1.length : Int) then (hex_Parse.l0 k1 a0 (x5_1.set ((wrap64 (Int.tdiv x14_1 2)) : Int).toNat (Go.bits .or .u8 (rd x5_1 (wrap64 (Int.tdiv x14_1 2))) t127)) (a0.size : Int) (wrap64 (x14_1 + 1))) else (none)) else (none)))) = some (r1, r2, r3) := H
            have A6 := Aside0.mk A60
            clear A60
            by_cases c7 : t127 = 255
            · rw [if_pos c7] at H
              have c7b0 : (t127 == 255) = true := beq_iff_eq.mpr c7
              have c7b1 : (t127 != 255) = false := bne_eq_false_iff_eq.mpr c7
              clear c7
              simp only [Option.some.injEq, Prod.mk.injEq] at H
              obtain ⟨rfl, rfl, rfl⟩ := H
              have p5 : 0 ≤ (x14_1 : Int) := of_decide_eq_true (by first | (with_reducible assumption) | assumption)
              have q5 : x14_1 < (a0.size : Int) := of_decide_eq_true (by first | (with_reducible assumption) | assumption)
              have hx5 := bt_at a0 x14_1
              replace p5 := eq_true p5
              replace q5 := eq_true q5
              go_wp2_with (first | ((with_reducible refine gate_callee (f := 73) rfl ?_); refine goesL_ (some 20) rfl rfl Tryd.func73 (by kernel_rfl) rfl #[.int .u8 (bt a0 x14_1)] rfl (by (try simp only [List.map_toArray, List.map_cons, List.map_nil]); first | done | rfl | (simp only [List.length_drop, List.length_take]; rfl)) ?_; (with_reducible refine (hex_value.calls k1 (bt a0 x14_1) t127 _ A6.out).mono ?_); rintro e w' ⟨rfl, ⟨nd, rfl⟩⟩; refine ⟨_, rfl, ?_⟩))
              go_ret3
              exact ⟨by first | rfl | (simp [errW_none, errW_some] <;> rfl) | (simp [*, errW_none, errW_some] <;> rfl), by repeat (first | (with_reducible first | exact HB.out | apply below_alloc | apply pw_below_drewN | apply below_drew1) | exact HB.out)⟩
            · rw [if_neg c7] at H
              have c7b0 : (t127 == 255) = false := beq_eq_false_iff_ne.mpr c7
              have c7b1 : (t127 != 255) = true := bne_iff_ne.mpr c7
              by_cases c8 : (Int.tmod x14_1 2) = 0
              · rw [if_pos c8] at H
                have c8b0 : ((Int.tmod x14_1 2) == 0) = true := beq_iff_eq.mpr c8
                have c8b1 : ((Int.tmod x14_1 2) != 0) = false := bne_eq_false_iff_eq.mpr c8
                clear c8
                by_cases c9 : x5_1.length < 140737488355328
                · rw [if_pos c9] at H
                  have LMc9 := Aside0.mk c9
                  clear c9
                  obtain ⟨y128, hy128⟩ : ∃ y_ : List Int, y_ = (x5_1 ++ [(t127 * 16) % 256]) := ⟨_, rfl⟩
                  replace H : (hex_Parse.l0 k1 a0 y128 (a0.size : Int) (wrap64 (x14_1 + 1))) = some (r1, r2, r3) := by first | (rw [hy128]; with_reducible exact H) | (have H2_ := (Option.bind_some _ _).symm.trans H; rw [hy128]; with_reducible exact H2_) | (have H2_ := (Option.bind_some _ _).symm.trans H; with_reducible exact H2_) | with_reducible exact H | (rw [hy128]; exact H) | exact H
                  have Ny128 := Aside0.mk hy128
                  clear hy128
                  have H' := Aside0.mk H
                  clear H
                  have p5 : 0 ≤ (x14_1 : Int) := of_decide_eq_true (by first | (with_reducible assumption) | assumption)
                  have q5 : x14_1 < (a0.size : Int) := of_decide_eq_true (by first | (with_reducible assumption) | assumption)
                  have hx5 := bt_at a0 x14_1
                  replace p5 := eq_true p5
                  replace q5 := eq_true q5
                  go_wp2_with (first | ((with_reducible refine gate_callee (f := 73) rfl ?_); refine goesL_ (some 20) rfl rfl Tryd.func73 (by kernel_rfl) rfl #[.int .u8 (bt a0 x14_1)] rfl (by (try simp only [List.map_toArray, List.map_cons, List.map_nil]); first | done | rfl | (simp only [List.length_drop, List.length_take]; rfl)) ?_; (with_reducible refine (hex_value.calls k1 (bt a0 x14_1) t127 _ A6.out).mono ?_); rintro e w' ⟨rfl, ⟨nd, rfl⟩⟩; refine ⟨_, rfl, ?_⟩) | ((with_reducible refine gate_builtin (b := .append) (xs := #[.tmp 27, .tmp 30]) rfl ?_); at_builtin; refine Kd.R_append (Kd.int .u8) (w0 := w) w.heap.size rfl (.tmp 27) (.tmp 30) 41 5 (.int .u8 0) 1 rfl Tryd.underlying41 info5 rfl (by decide) (by omega) u5 x5_1 ((t127 * 16) % 256) [.int .u8 ((t127 * 16) % 256)] (fun _ => True) (fun _ => False) rfl rfl ?aP (fun _ hk => hk.elim) ?aF ?aO ?aB ?aS ?aL ?_; (case aP => exact rfl); (case aB => exact (by repeat (first | (with_reducible first | exact HB.out | apply below_alloc | apply pw_below_drewN | apply below_drew1) | exact HB.out))); (case aF => exact (fun _ _ => trivial)); (case aO => exact (by (with_reducible repeat (first | apply Kd.R_alloc | apply Kd.R_drewN | apply Kd.R_drew)); exact HO_5.out)); (case aS => exact (below_size (by repeat (first | (with_reducible first | exact HB.out | apply below_alloc | apply pw_below_drewN | apply below_drew1) | exact HB.out)))); (case aL => have := LMc9.out; omega); intro v129 w10 ho hb hg hat; rw [← Ny128.out] at ho; have n0_ := Aside0.mk (hb); have n1_ := Aside0.mk (ho); clear HB; clear HO_5; have HB := n0_; have HO130 := n1_; clear n0_ n1_; clear ho hb hg hat))
                  go_roundg k1
                  case measure => have := HK1.out; omega
                  case rel => exact ⟨(y128), (wrap64 (x14_1 + 1)), (by first | rfl | (simp; done) | (simp [*]; done)), H', ⟨by have := HK1.out; omega⟩, ⟨by (with_reducible repeat (first | apply Kd.R_alloc | apply Kd.R_drewN | apply Kd.R_drew)); exact HO130.out⟩, ⟨by repeat (first | (with_reducible first | exact HB.out | apply below_alloc | apply pw_below_drewN | apply below_drew1) | exact HB.out)⟩⟩
                · rw [if_neg c9] at H
                  exact absurd H (by simp)
              · rw [if_neg c8] at H
                have c8b0 : ((Int.tmod x14_1 2) == 0) = false := beq_eq_false_iff_ne.mpr c8
                have c8b1 : ((Int.tmod x14_1 2) != 0) = true := bne_iff_ne.mpr c8
                obtain ⟨ji11, hji11⟩ : ∃ j_ : Int, (wrap64 (Int.tdiv x14_1 2)) = j_ := ⟨_, rfl⟩
                replace H : (if 0 ≤ (ji11) then (if (ji11) < (x5_1.length : Int) then (hex_Parse.l0 k1 a0 (x5_1.set ((ji11) : Int).toNat (Go.bits .or .u8 (rd x5_1 (ji11)) t127)) (a0.size : Int) (wrap64 (x14_1 + 1))) else (none)) else (none)) = some (r1, r2, r3) := by first | (rw [hji11] at H; exact H) | (simp only [hji11] at H ⊢; exact H)
                (try rw [hji11] at A6)
                have hji11w : (IntKind.i64.wrap (Int.tdiv x14_1 2)) = ji11 := (i64_w _).trans hji11
                by_cases c12 : 0 ≤ (ji11)
                · rw [if_pos c12] at H
                  have c12b0 : decide (0 ≤ (ji11)) = true := decide_eq_true c12
                  clear c12
                  by_cases c13 : (ji11) < (x5_1.length : Int)
                  · rw [if_pos c13] at H
                    have c13b0 : decide ((ji11) < (x5_1.length : Int)) = true := decide_eq_true c13
                    clear c13
                    obtain ⟨y132, hy132⟩ : ∃ y_ : List Int, y_ = (x5_1.set ((ji11) : Int).toNat (Go.bits .or .u8 (rd x5_1 (ji11)) t127)) := ⟨_, rfl⟩
                    replace H : (hex_Parse.l0 k1 a0 y132 (a0.size : Int) (wrap64 (x14_1 + 1))) = some (r1, r2, r3) := by first | (rw [hy132]; with_reducible exact H) | (have H2_ := (Option.bind_some _ _).symm.trans H; rw [hy132]; with_reducible exact H2_) | (have H2_ := (Option.bind_some _ _).symm.trans H; with_reducible exact H2_) | with_reducible exact H | (rw [hy132]; exact H) | exact H
                    have Ny132 := Aside0.mk hy132
                    clear hy132
                    have H' := Aside0.mk H
                    clear H
                    have p5 : 0 ≤ (x14_1 : Int) := of_decide_eq_true (by first | (with_reducible assumption) | assumption)
                    have q5 : x14_1 < (a0.size : Int) := of_decide_eq_true (by first | (with_reducible assumption) | assumption)
                    have hx5 := bt_at a0 x14_1
                    replace p5 := eq_true p5
                    replace q5 := eq_true q5
                    go_wp2_with (first | ((with_reducible refine gate_callee (f := 73) rfl ?_); refine goesL_ (some 20) rfl rfl Tryd.func73 (by kernel_rfl) rfl #[.int .u8 (bt a0 x14_1)] rfl (by (try simp only [List.map_toArray, List.map_cons, List.map_nil]); first | done | rfl | (simp only [List.length_drop, List.length_take]; rfl)) ?_; (with_reducible refine (hex_value.calls k1 (bt a0 x14_1) t127 _ A6.out).mono ?_); rintro e w' ⟨rfl, ⟨nd, rfl⟩⟩; refine ⟨_, rfl, ?_⟩; (try (rw [drewN_self wr]; generalize hq_ : World.drewN wr _ = wr; have n0_ : Aside0 (Kd.R (Kd.int .u8) 5 wr w.heap.size (fun _ => True) u5 x5_1) := ⟨by rw [← hq_]; exact (by (with_reducible repeat (first | apply Kd.R_alloc | apply Kd.R_drewN | apply Kd.R_drew)); exact HO_5.out)⟩; have n1_ : Aside0 (Below w.heap.size w wr) := ⟨by rw [← hq_]; exact (by repeat (first | (with_reducible first | exact HB.out | apply below_alloc | apply pw_below_drewN | apply below_drew1) | exact HB.out))⟩; clear HO_5 HB hq_; have HO_5 := n0_; have HB := n1_; clear n0_ n1_)); obtain ⟨Ao15, co15, eo15⟩ := Kd.R_slice HO_5.out; subst eo15; have p131 : 0 ≤ ((ji11) : Int) := of_decide_eq_true (by first | (with_reducible assumption) | assumption); have q131 : (ji11) < (x5_1.length : Int) := of_decide_eq_true (by first | (with_reducible assumption) | assumption); obtain ⟨ad131, e131, hx131_0⟩ := Kd.at_int (Kd.R_reads' HO_5.out).2.2 (ji11) p131 q131; cases e131; replace p131 := eq_true p131; replace q131 := eq_true q131; have p14 : 0 ≤ ((ji11) : Int) := of_decide_eq_true (by first | (with_reducible assumption) | assumption); have q14 : ((ji11) : Int) < ((x5_1.length : Int) : Int) := of_decide_eq_true (by first | (with_reducible assumption) | assumption); obtain ⟨go14, co14, eo14, gb14, gl14, cl14, HG14⟩ := Kd.R_form HO_5.out (by omega); (first | cases eo14 | (injection eo14 with ea_ en_ ec_; (first | subst ea_ | (injection ea_ with ea_; subst ea_)); subst ec_; clear en_)); have GB14 := Aside0.mk gb14; have GG14 := Aside0.mk HG14; clear gb14 gl14 HG14; (first | simp only [add_plain] at hx131_0 | skip); obtain ⟨hx14_0, hf14_0⟩ := Kd.R_celln 0 HO_5.out ((ji11) : Int) p14 q14; replace p14 := eq_true p14; replace q14 := eq_true q14; obtain ⟨hy16_, hz16_⟩ := Kd.R_celln 0 HO_5.out ((ji11) : Int) (of_decide_eq_true (by first | (with_reducible assumption) | assumption)) (of_decide_eq_true (by first | (with_reducible assumption) | assumption)); have HP16 := Kd.R_putg HO_5.out ((ji11) : Int) (Go.bits .or .u8 (rd x5_1 (ji11)) t127)) | ((with_reducible refine gate_store (t := 5) (p := 39) rfl ?_); refine store_event (t := 5) (p := 39) (v := ?vo_w17) (w1 := (wr.setCell ⟨go14, ((ji11) : Int).toNat, none⟩ (.int .u8 (Go.bits .or .u8 (rd x5_1 (ji11)) t127)))) ?hg ?ho ?hn ?hr ?_; (case ho => rfl); (case hg => rfl); (case hn => rfl); (case hr => first | (go_simp; done) | (go_simp; rfl)); intro w17 hw; have hg : wr.grownBy w17 (some go14) := (by rw [hw]; exact HP16.2); have hp_ : Kd.R (Kd.int .u8) 5 w17 w.heap.size (fun _ => True) (.slice (some ⟨go14, 0, none⟩) x5_1.length co15) y132 := (by rw [hw, Ny132.out]; exact HP16.1); clear HP16; have n0_ := Aside0.mk (hp_); have n1_ := Aside0.mk ((by rw [hw]; exact below_set (HB.out) GB14.out : Below w.heap.size w w17)); clear HO_5; clear HB; have HO_5 := n0_; have HB := n1_; clear n0_ n1_; clear hg hw hp_))
                    go_roundg k1
                    case measure => have := HK1.out; omega
                    case rel => exact ⟨(y132), (wrap64 (x14_1 + 1)), (by first | rfl | (simp; done) | (simp [*]; done)), H', ⟨by have := HK1.out; omega⟩, ⟨by (with_reducible repeat (first | apply Kd.R_alloc | apply Kd.R_drewN | apply Kd.R_drew)); exact HO_5.out⟩, ⟨by repeat (first | (with_reducible first | exact HB.out | apply below_alloc | apply pw_below_drewN | apply below_drew1) | exact HB.out)⟩⟩
                  · rw [if_neg c13] at H
                    exact absurd H (by simp)
                · rw [if_neg c12] at H
                  exact absurd H (by simp)
          · rw [if_neg c4] at H
            exact absurd H (by simp)
        · rw [if_neg c3] at H
          exact absurd H (by simp)
      · rw [if_neg c2] at H
        have c2b0 : decide (x14_1 < (a0.size : Int)) = false := decide_eq_false c2
        clear c2
        by_cases c18 : ((a0.size : Int) % 2) = 1
        · rw [if_pos c18] at H
          have c18b0 : (((a0.size : Int) % 2) == 1) = true := beq_iff_eq.mpr c18
          have c18b1 : (((a0.size : Int) % 2) != 1) = false := bne_eq_false_iff_eq.mpr c18
          clear c18
          simp only [Option.some.injEq, Prod.mk.injEq] at H
          obtain ⟨rfl, rfl, rfl⟩ := H
          go_wp2
          go_ret3
          exact ⟨by first | rfl | (simp [errW_none, errW_some] <;> rfl) | (simp [*, errW_none, errW_some] <;> rfl), by repeat (first | (with_reducible first | exact HB.out | apply below_alloc | apply pw_below_drewN | apply below_drew1) | exact HB.out)⟩
        · rw [if_neg c18] at H
          have c18b0 : (((a0.size : Int) % 2) == 1) = false := beq_eq_false_iff_ne.mpr c18
          have c18b1 : (((a0.size : Int) % 2) != 1) = true := bne_iff_ne.mpr c18
          simp only [Option.some.injEq, Prod.mk.injEq] at H
          obtain ⟨rfl, rfl, rfl⟩ := H
          have hcv19 := own_string (P := Tryd.prog) Tryd.underlying41 Tryd.underlying5 Tryd.underlying9 (Kd.own_of_R HO_5.out)
          go_wp2
          go_ret3
          exact ⟨by first | rfl | (simp [errW_none, errW_some] <;> rfl) | (simp [*, errW_none, errW_some] <;> rfl), by repeat (first | (with_reducible first | exact HB.out | apply below_alloc | apply pw_below_drewN | apply below_drew1) | exact HB.out)⟩


end

section
/-! ### digest_Parse: function 19 -/
-- import HDig
-- import HWrite
theorem extract_spec (b : ByteArray) (hs : b.size = 16) (s : Nat) (h : s + 4 ≤ 16) : (b.extract s (s + 4)).size = 4 ∧ ∀ j : Nat, j < 4 → bt (b.extract s (s + 4)) (j : Int) = bt b ((s + j : Nat) : Int) := by
  have e : (b.extract s (s + 4)).size = 4 := by rw [ByteArray.size_extract]; omega
  refine ⟨e, fun j hj => ?_⟩
  have h1 : (j : Int).toNat < (b.extract s (s + 4)).size := by omega
  have h2 : ((s + j : Nat) : Int).toNat < b.size := by omega
  rw [← bt_at _ _ h1, ← bt_at _ _ h2]
  simp only [Int.toNat_natCast, ByteArray.getElem_extract]
def digest_Parse.f (a0 : ByteArray) : Option (Int × Int × Int × Int × Int) :=
  (hex_Parse.f (2 * a0.size + 8) a0).bind fun p => if p.2.2 = 0 ∧ p.1.size = 16 then some (pw p.1 0 16, pw p.1 1 16, pw p.1 2 16, pw p.1 3 16, 0) else some (0, 0, 0, 0, 3)
set_option maxHeartbeats 8000000 in
set_option maxRecDepth 100000 in
theorem digest_Parse.calls (a0 : ByteArray) (r1 : Int) (r2 : Int) (r3 : Int) (r4 : Int) (r5 : Int) (w : World) (h : digest_Parse.f a0 = some (r1, r2, r3, r4, r5)) :
    Calls Tryd.prog 19 #[.string a0] w fun e w' => e = .returned (.tuple #[.agg #[.int .u32 r1, .int .u32 r2, .int .u32 r3, .int .u32 r4], .int .i64 r5]) ∧ Below w.heap.size w w' := by
  have hu24 := Tryd.underlying24
  have HB := Aside0.mk (Below.refl w.heap.size w)
  unfold digest_Parse.f at h
  replace h := Option.bind_eq_some_iff.mp h
  obtain ⟨⟨b, q, e1⟩, hA, h⟩ := h
  have A := Aside0.mk hA
  have HH := Aside0.mk h
  clear hA
  clear h
  by_cases c1 : e1 = 0 ∧ b.size = 16
  · obtain ⟨rfl, hs⟩ := c1
    have HV : Aside0 ((pw b 0 16, pw b 1 16, pw b 2 16, pw b 3 16, (0 : Int)) = (r1, r2, r3, r4, r5)) := by
      have h := HH.out
      rw [if_pos ⟨rfl, hs⟩] at h
      exact ⟨Option.some.inj h⟩
    clear HH
    have HS := Aside0.mk hs
    have hsz : (b.size : Int) = 16 := by omega
    clear hs
    go_enter Tryd.func19, Tryd.ntmps19
    go_wp2_with (first | ((with_reducible refine gate_dst (N := 2) rfl ?_); refine box_event ?hg (N := 2) ?hd (cs := #[.int .u32 0, .int .u32 0, .int .u32 0, .int .u32 0]) (t := 24) ?hr ?_; (case hd => rfl); (case hg => rfl); (case hr => first | (go_simp; done) | (go_simp; rfl)); intro g0 hg w2 hbox hb; have n0_ := Aside0.mk (below_step (by repeat (first | (with_reducible first | exact HB.out | apply below_alloc | apply pw_below_drewN | apply below_drew1) | exact HB.out)) hb); have n1_ := Aside0.mk hbox; have n2_ := Aside0.mk ((by rw [hg]; exact (below_size HB.out)) : w.heap.size ≤ g0); clear HB; have HB := n0_; have Kg0 := n1_; have Gg0 := n2_; clear n0_ n1_ n2_; clear hb hbox hg) | ((with_reducible refine gate_callee (f := 48) rfl ?_); refine goesL_ (some 13) rfl rfl Tryd.func48 (by kernel_rfl) rfl #[.string a0] rfl (by (try simp only [List.map_toArray, List.map_cons, List.map_nil]); first | done | rfl) ?_; (with_reducible refine (hex_Parse.calls (2 * a0.size + 8) a0 b q 0 _ A.out).mono ?_); rintro e w3 ⟨rfl, hb⟩; refine ⟨_, rfl, ?_⟩; have n0_ := Aside0.mk (below_step (by repeat (first | (with_reducible first | exact HB.out | apply below_alloc | apply pw_below_drewN | apply below_drew1) | exact HB.out)) hb); have n1_ := Aside0.mk (blk_below Kg0.out hb); clear HB Kg0; have HB := n0_; have Kg0 := n1_; clear n0_ n1_ hb; have cz_0 : w3.cell? ⟨g0, 0, none⟩ = some (.int .u32 0) := (blk_cell Kg0.out 0).trans rfl; have fz_0 := blk_frozen Kg0.out 0; have cz_1 : w3.cell? ⟨g0, 1, none⟩ = some (.int .u32 0) := (blk_cell Kg0.out 1).trans rfl; have fz_1 := blk_frozen Kg0.out 1; have cz_2 : w3.cell? ⟨g0, 2, none⟩ = some (.int .u32 0) := (blk_cell Kg0.out 2).trans rfl; have fz_2 := blk_frozen Kg0.out 2; have cz_3 : w3.cell? ⟨g0, 3, none⟩ = some (.int .u32 0) := (blk_cell Kg0.out 3).trans rfl; have fz_3 := blk_frozen Kg0.out 3))
    clear cz_0 fz_0 cz_1 fz_1 cz_2 fz_2 cz_3 fz_3
    have lg0 := blk_lt Kg0.out
    have hsz := below_size HB.out
    generalize hgn : w3.heap.size = g1 at lg0 hsz ⊢
    have Ng0g1 : Aside0 (g0 ≠ g1) := ⟨by omega⟩
    have Gg1 : Aside0 (w.heap.size ≤ g1) := ⟨by omega⟩
    have HGg1 := Aside0.mk hgn
    clear hsz hgn lg0
    refine wp_gen (fun w' => Below w.heap.size w w' ∧ w'.heap[g0]? = some (.cells #[.int .u32 0, .int .u32 0, .int .u32 0, .int .u32 0] 24 (0, 0)) ∧ w'.heap[g1]? = some (.cells #[.int .u32 0, .int .u32 0, .int .u32 0, .int .u32 0] 24 (0, 0))) ⟨(by repeat (first | (with_reducible first | exact HB.out | apply below_alloc | apply pw_below_drewN | apply below_drew1 | refine below_set ?_ Gg0.out | refine below_set ?_ Gg1.out) | exact HB.out)), (Eq.trans (by (with_reducible repeat (first | exact Kg0.out | apply blk_set | apply far_put Ng0g1.out | apply far_put Ng0g1.out.symm | apply blk_drewN | apply blk_drew | apply blk_alloc))) (by first | rfl)), (Eq.trans (by (with_reducible repeat (first | exact Kg1.out | exact blk_newAt HGg1.out | apply blk_set | apply far_put Ng0g1.out | apply far_put Ng0g1.out.symm | apply blk_drewN | apply blk_drew | apply blk_alloc))) (by first | rfl))⟩ ?_
    try clear K1
    intro wA hF
    clear HB
    obtain ⟨n0_, n1_, n2_⟩ := hF
    try clear Kg0
    try clear Kg1
    have HB := Aside0.mk n0_
    have Kg0 := Aside0.mk n1_
    have Kg1 := Aside0.mk n2_
    clear n0_ n1_ n2_
    have fg0g1 : (g0 = g1) = False := eq_false Ng0g1.out
    have fg1g0 : (g1 = g0) = False := eq_false Ng0g1.out.symm
    go_loopg [25] 4 (fun kq v w' => ∃ (i : Nat), v = .int .i64 (i : Int) ∧ Aside0 (i + kq = 4) ∧ Aside0 (Below w.heap.size w w') ∧ Aside0 (w'.heap[g0]? = some (.cells #[.int .u32 0, .int .u32 0, .int .u32 0, .int .u32 0] 24 (0, 0))) ∧ Aside0 (w'.heap[g1]? = some (.cells #[.int .u32 ((pw b 0 (4 * i))), .int .u32 ((pw b 1 (4 * i))), .int .u32 ((pw b 2 (4 * i))), .int .u32 ((pw b 3 (4 * i)))] 24 (0, 0))))
    case atStart => exact ⟨0, by first | rfl | (simp; done), ⟨rfl⟩, HB, Kg0, Kg1⟩
    case round =>
      clear HB Kg0 Kg1
      obtain ⟨i, rfl, HA, HB, Kg0, Kg1⟩ := hrel
      have hi : i ≤ 4 := by have := HA.out; omega
      have hcase : i = 0 ∨ i = 1 ∨ i = 2 ∨ i = 3 ∨ i = 4 := by omega
      rcases hcase with rfl | rfl | rfl | rfl | rfl
      · obtain rfl : gk = 3 + 1 := by have := HA.out; omega
        clear HA hi
        obtain ⟨hx1, hx2⟩ := extract_spec b HS.out 0 (by decide)
        have HX1 := Aside0.mk hx1
        have HX2 := Aside0.mk hx2
        clear hx1 hx2
        have kb := fun W => print_bytes (P := Tryd.prog) 9 41 5 Tryd.underlying9 Tryd.underlying41 Tryd.underlying5 (b.extract 0 (0 + 4)) W
        go_wp2_with (first | ((with_reducible refine gate_dst (N := 35) rfl ?_); refine bytes_event ?hg (N := 35) ?hd 5 (b.extract 0 (0 + 4)) 4 HX1.out ?hr ?_; (case hd => rfl); (case hg => rfl); (case hr => first | (go_simp; done) | (go_simp; rfl)); intro gb cb hg w6 hcells hb; have HC := Aside0.mk hcells; have n0_ := Aside0.mk (below_step (by repeat (first | (with_reducible first | exact HB.out | apply below_alloc | apply pw_below_drewN | apply below_drew1) | exact HB.out)) hb); have n1_ := Aside0.mk (blk_below Kg0.out hb); have n2_ := Aside0.mk (blk_below Kg1.out hb); have n3_ := Aside0.mk (show gb ≠ g1 by rw [hg]; exact (Nat.ne_of_lt (blk_lt Kg1.out)).symm); clear HB Kg0 Kg1 hcells hb hg kb; have HB := n0_; have Kg0 := n1_; have Kg1 := n2_; have Nb := n3_; clear n0_ n1_ n2_ n3_))
        have cg1_0 : w6.cell? ⟨g1, 0, none⟩ = some (.int .u32 (pw b 0 0)) := (blk_cell Kg1.out 0).trans rfl
        have zg1_0 := blk_frozen Kg1.out 0
        have cg1_1 : w6.cell? ⟨g1, 1, none⟩ = some (.int .u32 (pw b 1 0)) := (blk_cell Kg1.out 1).trans rfl
        have zg1_1 := blk_frozen Kg1.out 1
        have cg1_2 : w6.cell? ⟨g1, 2, none⟩ = some (.int .u32 (pw b 2 0)) := (blk_cell Kg1.out 2).trans rfl
        have zg1_2 := blk_frozen Kg1.out 2
        have cg1_3 : w6.cell? ⟨g1, 3, none⟩ = some (.int .u32 (pw b 3 0)) := (blk_cell Kg1.out 3).trans rfl
        have zg1_3 := blk_frozen Kg1.out 3
        have fb1 : (gb = g1) = False := eq_false Nb.out
        have fb2 : (g1 = gb) = False := eq_false Nb.out.symm
        have cb_0 : w6.cell? ⟨gb, 0, none⟩ = some (.int .u8 (bt b 0)) := (HC.out 0 (by decide)).trans (congrArg (fun x => some (Value.int .u8 x)) (HX2.out 0 (by decide)))
        have hm_0 : bt b 0 % 4294967296 = bt b 0 := by have := bt_range b 0; omega
        have cb_1 : w6.cell? ⟨gb, 1, none⟩ = some (.int .u8 (bt b 1)) := (HC.out 1 (by decide)).trans (congrArg (fun x => some (Value.int .u8 x)) (HX2.out 1 (by decide)))
        have hm_1 : bt b 1 % 4294967296 = bt b 1 := by have := bt_range b 1; omega
        have cb_2 : w6.cell? ⟨gb, 2, none⟩ = some (.int .u8 (bt b 2)) := (HC.out 2 (by decide)).trans (congrArg (fun x => some (Value.int .u8 x)) (HX2.out 2 (by decide)))
        have hm_2 : bt b 2 % 4294967296 = bt b 2 := by have := bt_range b 2; omega
        have cb_3 : w6.cell? ⟨gb, 3, none⟩ = some (.int .u8 (bt b 3)) := (HC.out 3 (by decide)).trans (congrArg (fun x => some (Value.int .u8 x)) (HX2.out 3 (by decide)))
        have hm_3 : bt b 3 % 4294967296 = bt b 3 := by have := bt_range b 3; omega
        go_wp2
        refine wp_loop_in (inLoop_k fun K1 hK1 => ?_)
        go_wp2
        try clear hK1
        try clear K1
        refine inLoop_k fun K1 hK1 => ?_
        go_wp2
        try clear hK1
        try clear K1
        refine inLoop_gen (fun w' => Below w.heap.size w w' ∧ w'.heap[g0]? = some (.cells #[.int .u32 0, .int .u32 0, .int .u32 0, .int .u32 0] 24 (0, 0)) ∧ w'.heap[g1]? = some (.cells #[.int .u32 ((pw b 0 2)), .int .u32 ((pw b 1 0)), .int .u32 ((pw b 2 0)), .int .u32 ((pw b 3 0))] 24 (0, 0)) ∧ w'.cell? ⟨gb, 2, none⟩ = some (.int .u8 (bt b 2)) ∧ w'.cell? ⟨gb, 3, none⟩ = some (.int .u8 (bt b 3))) ⟨(by repeat (first | (with_reducible first | exact HB.out | apply below_alloc | apply pw_below_drewN | apply below_drew1 | refine below_set ?_ Gg0.out | refine below_set ?_ Gg1.out) | exact HB.out)), (Eq.trans (by (with_reducible repeat (first | exact Kg0.out | apply blk_set | apply far_put Ng0g1.out | apply far_put Ng0g1.out.symm | apply blk_drewN | apply blk_drew | apply blk_alloc))) (by first | rfl)), (Eq.trans (by (with_reducible repeat (first | exact Kg1.out | apply blk_set | apply far_put Ng0g1.out | apply far_put Ng0g1.out.symm | apply blk_drewN | apply blk_drew | apply blk_alloc))) (by first | rfl)), (World.cell?_setCell_far _ _ _ _ Nb.out.symm).trans ((World.cell?_setCell_far _ _ _ _ Nb.out.symm).trans cb_2), (World.cell?_setCell_far _ _ _ _ Nb.out.symm).trans ((World.cell?_setCell_far _ _ _ _ Nb.out.symm).trans cb_3)⟩ ?_
        clear cg1_0 zg1_0 cb_0 cg1_1 zg1_1 cb_1 cg1_2 zg1_2 cb_2 cg1_3 zg1_3 cb_3 HC
        intro w7 hF
        clear HB Kg0 Kg1
        obtain ⟨n0_, n1_, n2_, cb_2, cb_3⟩ := hF
        have HB := Aside0.mk n0_
        have Kg0 := Aside0.mk n1_
        have Kg1 := Aside0.mk n2_
        clear n0_ n1_ n2_
        have cg1_0 : w7.cell? ⟨g1, 0, none⟩ = some (.int .u32 (pw b 0 2)) := (blk_cell Kg1.out 0).trans rfl
        have zg1_0 := blk_frozen Kg1.out 0
        have cg1_1 : w7.cell? ⟨g1, 1, none⟩ = some (.int .u32 (pw b 1 0)) := (blk_cell Kg1.out 1).trans rfl
        have zg1_1 := blk_frozen Kg1.out 1
        have cg1_2 : w7.cell? ⟨g1, 2, none⟩ = some (.int .u32 (pw b 2 0)) := (blk_cell Kg1.out 2).trans rfl
        have zg1_2 := blk_frozen Kg1.out 2
        have cg1_3 : w7.cell? ⟨g1, 3, none⟩ = some (.int .u32 (pw b 3 0)) := (blk_cell Kg1.out 3).trans rfl
        have zg1_3 := blk_frozen Kg1.out 3
        refine inLoop_k fun K1 hK1 => ?_
        go_wp2
        try clear hK1
        try clear K1
        refine inLoop_k fun K1 hK1 => ?_
        go_wp2
        try clear hK1
        try clear K1
        refine inLoop_k fun K1 hK1 => ?_
        go_wp2
        go_roundg 3
        case measure => omega
        case rel => exact ⟨1, by first | rfl | (simp; done), ⟨rfl⟩, ⟨(by repeat (first | (with_reducible first | exact HB.out | apply below_alloc | apply pw_below_drewN | apply below_drew1 | refine below_set ?_ Gg0.out | refine below_set ?_ Gg1.out) | exact HB.out))⟩, ⟨(Eq.trans (by (with_reducible repeat (first | exact Kg0.out | apply blk_set | apply far_put Ng0g1.out | apply far_put Ng0g1.out.symm | apply blk_drewN | apply blk_drew | apply blk_alloc))) (by first | rfl))⟩, ⟨(Eq.trans (by (with_reducible repeat (first | exact Kg1.out | apply blk_set | apply far_put Ng0g1.out | apply far_put Ng0g1.out.symm | apply blk_drewN | apply blk_drew | apply blk_alloc))) (by first | rfl))⟩⟩
      · obtain rfl : gk = 2 + 1 := by have := HA.out; omega
        clear HA hi
        obtain ⟨hx1, hx2⟩ := extract_spec b HS.out 4 (by decide)
        have HX1 := Aside0.mk hx1
        have HX2 := Aside0.mk hx2
        clear hx1 hx2
        have kb := fun W => print_bytes (P := Tryd.prog) 9 41 5 Tryd.underlying9 Tryd.underlying41 Tryd.underlying5 (b.extract 4 (4 + 4)) W
        go_wp2_with (first | ((with_reducible refine gate_dst (N := 35) rfl ?_); refine bytes_event ?hg (N := 35) ?hd 5 (b.extract 4 (4 + 4)) 4 HX1.out ?hr ?_; (case hd => rfl); (case hg => rfl); (case hr => first | (go_simp; done) | (go_simp; rfl)); intro gb cb hg w6 hcells hb; have HC := Aside0.mk hcells; have n0_ := Aside0.mk (below_step (by repeat (first | (with_reducible first | exact HB.out | apply below_alloc | apply pw_below_drewN | apply below_drew1) | exact HB.out)) hb); have n1_ := Aside0.mk (blk_below Kg0.out hb); have n2_ := Aside0.mk (blk_below Kg1.out hb); have n3_ := Aside0.mk (show gb ≠ g1 by rw [hg]; exact (Nat.ne_of_lt (blk_lt Kg1.out)).symm); clear HB Kg0 Kg1 hcells hb hg kb; have HB := n0_; have Kg0 := n1_; have Kg1 := n2_; have Nb := n3_; clear n0_ n1_ n2_ n3_))
        have cg1_0 : w6.cell? ⟨g1, 0, none⟩ = some (.int .u32 (pw b 0 4)) := (blk_cell Kg1.out 0).trans rfl
        have zg1_0 := blk_frozen Kg1.out 0
        have cg1_1 : w6.cell? ⟨g1, 1, none⟩ = some (.int .u32 (pw b 1 4)) := (blk_cell Kg1.out 1).trans rfl
        have zg1_1 := blk_frozen Kg1.out 1
        have cg1_2 : w6.cell? ⟨g1, 2, none⟩ = some (.int .u32 (pw b 2 4)) := (blk_cell Kg1.out 2).trans rfl
        have zg1_2 := blk_frozen Kg1.out 2
        have cg1_3 : w6.cell? ⟨g1, 3, none⟩ = some (.int .u32 (pw b 3 4)) := (blk_cell Kg1.out 3).trans rfl
        have zg1_3 := blk_frozen Kg1.out 3
        have fb1 : (gb = g1) = False := eq_false Nb.out
        have fb2 : (g1 = gb) = False := eq_false Nb.out.symm
        have cb_0 : w6.cell? ⟨gb, 0, none⟩ = some (.int .u8 (bt b 4)) := (HC.out 0 (by decide)).trans (congrArg (fun x => some (Value.int .u8 x)) (HX2.out 0 (by decide)))
        have hm_0 : bt b 4 % 4294967296 = bt b 4 := by have := bt_range b 4; omega
        have cb_1 : w6.cell? ⟨gb, 1, none⟩ = some (.int .u8 (bt b 5)) := (HC.out 1 (by decide)).trans (congrArg (fun x => some (Value.int .u8 x)) (HX2.out 1 (by decide)))
        have hm_1 : bt b 5 % 4294967296 = bt b 5 := by have := bt_range b 5; omega
        have cb_2 : w6.cell? ⟨gb, 2, none⟩ = some (.int .u8 (bt b 6)) := (HC.out 2 (by decide)).trans (congrArg (fun x => some (Value.int .u8 x)) (HX2.out 2 (by decide)))
        have hm_2 : bt b 6 % 4294967296 = bt b 6 := by have := bt_range b 6; omega
        have cb_3 : w6.cell? ⟨gb, 3, none⟩ = some (.int .u8 (bt b 7)) := (HC.out 3 (by decide)).trans (congrArg (fun x => some (Value.int .u8 x)) (HX2.out 3 (by decide)))
        have hm_3 : bt b 7 % 4294967296 = bt b 7 := by have := bt_range b 7; omega
        go_wp2
        refine wp_loop_in (inLoop_k fun K1 hK1 => ?_)
        go_wp2
        try clear hK1
        try clear K1
        refine inLoop_k fun K1 hK1 => ?_
        go_wp2
        try clear hK1
        try clear K1
        refine inLoop_gen (fun w' => Below w.heap.size w w' ∧ w'.heap[g0]? = some (.cells #[.int .u32 0, .int .u32 0, .int .u32 0, .int .u32 0] 24 (0, 0)) ∧ w'.heap[g1]? = some (.cells #[.int .u32 ((pw b 0 4)), .int .u32 ((pw b 1 6)), .int .u32 ((pw b 2 4)), .int .u32 ((pw b 3 4))] 24 (0, 0)) ∧ w'.cell? ⟨gb, 2, none⟩ = some (.int .u8 (bt b 6)) ∧ w'.cell? ⟨gb, 3, none⟩ = some (.int .u8 (bt b 7))) ⟨(by repeat (first | (with_reducible first | exact HB.out | apply below_alloc | apply pw_below_drewN | apply below_drew1 | refine below_set ?_ Gg0.out | refine below_set ?_ Gg1.out) | exact HB.out)), (Eq.trans (by (with_reducible repeat (first | exact Kg0.out | apply blk_set | apply far_put Ng0g1.out | apply far_put Ng0g1.out.symm | apply blk_drewN | apply blk_drew | apply blk_alloc))) (by first | rfl)), (Eq.trans (by (with_reducible repeat (first | exact Kg1.out | apply blk_set | apply far_put Ng0g1.out | apply far_put Ng0g1.out.symm | apply blk_drewN | apply blk_drew | apply blk_alloc))) (by first | rfl)), (World.cell?_setCell_far _ _ _ _ Nb.out.symm).trans ((World.cell?_setCell_far _ _ _ _ Nb.out.symm).trans cb_2), (World.cell?_setCell_far _ _ _ _ Nb.out.symm).trans ((World.cell?_setCell_far _ _ _ _ Nb.out.symm).trans cb_3)⟩ ?_
        clear cg1_0 zg1_0 cb_0 cg1_1 zg1_1 cb_1 cg1_2 zg1_2 cb_2 cg1_3 zg1_3 cb_3 HC
        intro w7 hF
        clear HB Kg0 Kg1
        obtain ⟨n0_, n1_, n2_, cb_2, cb_3⟩ := hF
        have HB := Aside0.mk n0_
        have Kg0 := Aside0.mk n1_
        have Kg1 := Aside0.mk n2_
        clear n0_ n1_ n2_
        have cg1_0 : w7.cell? ⟨g1, 0, none⟩ = some (.int .u32 (pw b 0 4)) := (blk_cell Kg1.out 0).trans rfl
        have zg1_0 := blk_frozen Kg1.out 0
        have cg1_1 : w7.cell? ⟨g1, 1, none⟩ = some (.int .u32 (pw b 1 6)) := (blk_cell Kg1.out 1).trans rfl
        have zg1_1 := blk_frozen Kg1.out 1
        have cg1_2 : w7.cell? ⟨g1, 2, none⟩ = some (.int .u32 (pw b 2 4)) := (blk_cell Kg1.out 2).trans rfl
        have zg1_2 := blk_frozen Kg1.out 2
        have cg1_3 : w7.cell? ⟨g1, 3, none⟩ = some (.int .u32 (pw b 3 4)) := (blk_cell Kg1.out 3).trans rfl
        have zg1_3 := blk_frozen Kg1.out 3
        refine inLoop_k fun K1 hK1 => ?_
        go_wp2
        try clear hK1
        try clear K1
        refine inLoop_k fun K1 hK1 => ?_
        go_wp2
        try clear hK1
        try clear K1
        refine inLoop_k fun K1 hK1 => ?_
        go_wp2
        go_roundg 2
        case measure => omega
        case rel => exact ⟨2, by first | rfl | (simp; done), ⟨rfl⟩, ⟨(by repeat (first | (with_reducible first | exact HB.out | apply below_alloc | apply pw_below_drewN | apply below_drew1 | refine below_set ?_ Gg0.out | refine below_set ?_ Gg1.out) | exact HB.out))⟩, ⟨(Eq.trans (by (with_reducible repeat (first | exact Kg0.out | apply blk_set | apply far_put Ng0g1.out | apply far_put Ng0g1.out.symm | apply blk_drewN | apply blk_drew | apply blk_alloc))) (by first | rfl))⟩, ⟨(Eq.trans (by (with_reducible repeat (first | exact Kg1.out | apply blk_set | apply far_put Ng0g1.out | apply far_put Ng0g1.out.symm | apply blk_drewN | apply blk_drew | apply blk_alloc))) (by first | rfl))⟩⟩
      · obtain rfl : gk = 1 + 1 := by have := HA.out; omega
        clear HA hi
        obtain ⟨hx1, hx2⟩ := extract_spec b HS.out 8 (by decide)
        have HX1 := Aside0.mk hx1
        have HX2 := Aside0.mk hx2
        clear hx1 hx2
        have kb := fun W => print_bytes (P := Tryd.prog) 9 41 5 Tryd.underlying9 Tryd.underlying41 Tryd.underlying5 (b.extract 8 (8 + 4)) W
        go_wp2_with (first | ((with_reducible refine gate_dst (N := 35) rfl ?_); refine bytes_event ?hg (N := 35) ?hd 5 (b.extract 8 (8 + 4)) 4 HX1.out ?hr ?_; (case hd => rfl); (case hg => rfl); (case hr => first | (go_simp; done) | (go_simp; rfl)); intro gb cb hg w6 hcells hb; have HC := Aside0.mk hcells; have n0_ := Aside0.mk (below_step (by repeat (first | (with_reducible first | exact HB.out | apply below_alloc | apply pw_below_drewN | apply below_drew1) | exact HB.out)) hb); have n1_ := Aside0.mk (blk_below Kg0.out hb); have n2_ := Aside0.mk (blk_below Kg1.out hb); have n3_ := Aside0.mk (show gb ≠ g1 by rw [hg]; exact (Nat.ne_of_lt (blk_lt Kg1.out)).symm); clear HB Kg0 Kg1 hcells hb hg kb; have HB := n0_; have Kg0 := n1_; have Kg1 := n2_; have Nb := n3_; clear n0_ n1_ n2_ n3_))
        have cg1_0 : w6.cell? ⟨g1, 0, none⟩ = some (.int .u32 (pw b 0 8)) := (blk_cell Kg1.out 0).trans rfl
        have zg1_0 := blk_frozen Kg1.out 0
        have cg1_1 : w6.cell? ⟨g1, 1, none⟩ = some (.int .u32 (pw b 1 8)) := (blk_cell Kg1.out 1).trans rfl
        have zg1_1 := blk_frozen Kg1.out 1
        have cg1_2 : w6.cell? ⟨g1, 2, none⟩ = some (.int .u32 (pw b 2 8)) := (blk_cell Kg1.out 2).trans rfl
        have zg1_2 := blk_frozen Kg1.out 2
        have cg1_3 : w6.cell? ⟨g1, 3, none⟩ = some (.int .u32 (pw b 3 8)) := (blk_cell Kg1.out 3).trans rfl
        have zg1_3 := blk_frozen Kg1.out 3
        have fb1 : (gb = g1) = False := eq_false Nb.out
        have fb2 : (g1 = gb) = False := eq_false Nb.out.symm
        have cb_0 : w6.cell? ⟨gb, 0, none⟩ = some (.int .u8 (bt b 8)) := (HC.out 0 (by decide)).trans (congrArg (fun x => some (Value.int .u8 x)) (HX2.out 0 (by decide)))
        have hm_0 : bt b 8 % 4294967296 = bt b 8 := by have := bt_range b 8; omega
        have cb_1 : w6.cell? ⟨gb, 1, none⟩ = some (.int .u8 (bt b 9)) := (HC.out 1 (by decide)).trans (congrArg (fun x => some (Value.int .u8 x)) (HX2.out 1 (by decide)))
        have hm_1 : bt b 9 % 4294967296 = bt b 9 := by have := bt_range b 9; omega
        have cb_2 : w6.cell? ⟨gb, 2, none⟩ = some (.int .u8 (bt b 10)) := (HC.out 2 (by decide)).trans (congrArg (fun x => some (Value.int .u8 x)) (HX2.out 2 (by decide)))
        have hm_2 : bt b 10 % 4294967296 = bt b 10 := by have := bt_range b 10; omega
        have cb_3 : w6.cell? ⟨gb, 3, none⟩ = some (.int .u8 (bt b 11)) := (HC.out 3 (by decide)).trans (congrArg (fun x => some (Value.int .u8 x)) (HX2.out 3 (by decide)))
        have hm_3 : bt b 11 % 4294967296 = bt b 11 := by have := bt_range b 11; omega
        go_wp2
        refine wp_loop_in (inLoop_k fun K1 hK1 => ?_)
        go_wp2
        try clear hK1
        try clear K1
        refine inLoop_k fun K1 hK1 => ?_
        go_wp2
        try clear hK1
        try clear K1
        refine inLoop_gen (fun w' => Below w.heap.size w w' ∧ w'.heap[g0]? = some (.cells #[.int .u32 0, .int .u32 0, .int .u32 0, .int .u32 0] 24 (0, 0)) ∧ w'.heap[g1]? = some (.cells #[.int .u32 ((pw b 0 8)), .int .u32 ((pw b 1 8)), .int .u32 ((pw b 2 10)), .int .u32 ((pw b 3 8))] 24 (0, 0)) ∧ w'.cell? ⟨gb, 2, none⟩ = some (.int .u8 (bt b 10)) ∧ w'.cell? ⟨gb, 3, none⟩ = some (.int .u8 (bt b 11))) ⟨(by repeat (first | (with_reducible first | exact HB.out | apply below_alloc | apply pw_below_drewN | apply below_drew1 | refine below_set ?_ Gg0.out | refine below_set ?_ Gg1.out) | exact HB.out)), (Eq.trans (by (with_reducible repeat (first | exact Kg0.out | apply blk_set | apply far_put Ng0g1.out | apply far_put Ng0g1.out.symm | apply blk_drewN | apply blk_drew | apply blk_alloc))) (by first | rfl)), (Eq.trans (by (with_reducible repeat (first | exact Kg1.out | apply blk_set | apply far_put Ng0g1.out | apply far_put Ng0g1.out.symm | apply blk_drewN | apply blk_drew | apply blk_alloc))) (by first | rfl)), (World.cell?_setCell_far _ _ _ _ Nb.out.symm).trans ((World.cell?_setCell_far _ _ _ _ Nb.out.symm).trans cb_2), (World.cell?_setCell_far _ _ _ _ Nb.out.symm).trans ((World.cell?_setCell_far _ _ _ _ Nb.out.symm).trans cb_3)⟩ ?_
        clear cg1_0 zg1_0 cb_0 cg1_1 zg1_1 cb_1 cg1_2 zg1_2 cb_2 cg1_3 zg1_3 cb_3 HC
        intro w7 hF
        clear HB Kg0 Kg1
        obtain ⟨n0_, n1_, n2_, cb_2, cb_3⟩ := hF
        have HB := Aside0.mk n0_
        have Kg0 := Aside0.mk n1_
        have Kg1 := Aside0.mk n2_
        clear n0_ n1_ n2_
        have cg1_0 : w7.cell? ⟨g1, 0, none⟩ = some (.int .u32 (pw b 0 8)) := (blk_cell Kg1.out 0).trans rfl
        have zg1_0 := blk_frozen Kg1.out 0
        have cg1_1 : w7.cell? ⟨g1, 1, none⟩ = some (.int .u32 (pw b 1 8)) := (blk_cell Kg1.out 1).trans rfl
        have zg1_1 := blk_frozen Kg1.out 1
        have cg1_2 : w7.cell? ⟨g1, 2, none⟩ = some (.int .u32 (pw b 2 10)) := (blk_cell Kg1.out 2).trans rfl
        have zg1_2 := blk_frozen Kg1.out 2
        have cg1_3 : w7.cell? ⟨g1, 3, none⟩ = some (.int .u32 (pw b 3 8)) := (blk_cell Kg1.out 3).trans rfl
        have zg1_3 := blk_frozen Kg1.out 3
        refine inLoop_k fun K1 hK1 => ?_
        go_wp2
        try clear hK1
        try clear K1
        refine inLoop_k fun K1 hK1 => ?_
        go_wp2
        try clear hK1
        try clear K1
        refine inLoop_k fun K1 hK1 => ?_
        go_wp2
        go_roundg 1
        case measure => omega
        case rel => exact ⟨3, by first | rfl | (simp; done), ⟨rfl⟩, ⟨(by repeat (first | (with_reducible first | exact HB.out | apply below_alloc | apply pw_below_drewN | apply below_drew1 | refine below_set ?_ Gg0.out | refine below_set ?_ Gg1.out) | exact HB.out))⟩, ⟨(Eq.trans (by (with_reducible repeat (first | exact Kg0.out | apply blk_set | apply far_put Ng0g1.out | apply far_put Ng0g1.out.symm | apply blk_drewN | apply blk_drew | apply blk_alloc))) (by first | rfl))⟩, ⟨(Eq.trans (by (with_reducible repeat (first | exact Kg1.out | apply blk_set | apply far_put Ng0g1.out | apply far_put Ng0g1.out.symm | apply blk_drewN | apply blk_drew | apply blk_alloc))) (by first | rfl))⟩⟩
      · obtain rfl : gk = 0 + 1 := by have := HA.out; omega
        clear HA hi
        obtain ⟨hx1, hx2⟩ := extract_spec b HS.out 12 (by decide)
        have HX1 := Aside0.mk hx1
        have HX2 := Aside0.mk hx2
        clear hx1 hx2
        have kb := fun W => print_bytes (P := Tryd.prog) 9 41 5 Tryd.underlying9 Tryd.underlying41 Tryd.underlying5 (b.extract 12 (12 + 4)) W
        go_wp2_with (first | ((with_reducible refine gate_dst (N := 35) rfl ?_); refine bytes_event ?hg (N := 35) ?hd 5 (b.extract 12 (12 + 4)) 4 HX1.out ?hr ?_; (case hd => rfl); (case hg => rfl); (case hr => first | (go_simp; done) | (go_simp; rfl)); intro gb cb hg w6 hcells hb; have HC := Aside0.mk hcells; have n0_ := Aside0.mk (below_step (by repeat (first | (with_reducible first | exact HB.out | apply below_alloc | apply pw_below_drewN | apply below_drew1) | exact HB.out)) hb); have n1_ := Aside0.mk (blk_below Kg0.out hb); have n2_ := Aside0.mk (blk_below Kg1.out hb); have n3_ := Aside0.mk (show gb ≠ g1 by rw [hg]; exact (Nat.ne_of_lt (blk_lt Kg1.out)).symm); clear HB Kg0 Kg1 hcells hb hg kb; have HB := n0_; have Kg0 := n1_; have Kg1 := n2_; have Nb := n3_; clear n0_ n1_ n2_ n3_))
        have cg1_0 : w6.cell? ⟨g1, 0, none⟩ = some (.int .u32 (pw b 0 12)) := (blk_cell Kg1.out 0).trans rfl
        have zg1_0 := blk_frozen Kg1.out 0
        have cg1_1 : w6.cell? ⟨g1, 1, none⟩ = some (.int .u32 (pw b 1 12)) := (blk_cell Kg1.out 1).trans rfl
        have zg1_1 := blk_frozen Kg1.out 1
        have cg1_2 : w6.cell? ⟨g1, 2, none⟩ = some (.int .u32 (pw b 2 12)) := (blk_cell Kg1.out 2).trans rfl
        have zg1_2 := blk_frozen Kg1.out 2
        have cg1_3 : w6.cell? ⟨g1, 3, none⟩ = some (.int .u32 (pw b 3 12)) := (blk_cell Kg1.out 3).trans rfl
        have zg1_3 := blk_frozen Kg1.out 3
        have fb1 : (gb = g1) = False := eq_false Nb.out
        have fb2 : (g1 = gb) = False := eq_false Nb.out.symm
        have cb_0 : w6.cell? ⟨gb, 0, none⟩ = some (.int .u8 (bt b 12)) := (HC.out 0 (by decide)).trans (congrArg (fun x => some (Value.int .u8 x)) (HX2.out 0 (by decide)))
        have hm_0 : bt b 12 % 4294967296 = bt b 12 := by have := bt_range b 12; omega
        have cb_1 : w6.cell? ⟨gb, 1, none⟩ = some (.int .u8 (bt b 13)) := (HC.out 1 (by decide)).trans (congrArg (fun x => some (Value.int .u8 x)) (HX2.out 1 (by decide)))
        have hm_1 : bt b 13 % 4294967296 = bt b 13 := by have := bt_range b 13; omega
        have cb_2 : w6.cell? ⟨gb, 2, none⟩ = some (.int .u8 (bt b 14)) := (HC.out 2 (by decide)).trans (congrArg (fun x => some (Value.int .u8 x)) (HX2.out 2 (by decide)))
        have hm_2 : bt b 14 % 4294967296 = bt b 14 := by have := bt_range b 14; omega
        have cb_3 : w6.cell? ⟨gb, 3, none⟩ = some (.int .u8 (bt b 15)) := (HC.out 3 (by decide)).trans (congrArg (fun x => some (Value.int .u8 x)) (HX2.out 3 (by decide)))
        have hm_3 : bt b 15 % 4294967296 = bt b 15 := by have := bt_range b 15; omega
        go_wp2
        refine wp_loop_in (inLoop_k fun K1 hK1 => ?_)
        go_wp2
        try clear hK1
        try clear K1
        refine inLoop_k fun K1 hK1 => ?_
        go_wp2
        try clear hK1
        try clear K1
        refine inLoop_gen (fun w' => Below w.heap.size w w' ∧ w'.heap[g0]? = some (.cells #[.int .u32 0, .int .u32 0, .int .u32 0, .int .u32 0] 24 (0, 0)) ∧ w'.heap[g1]? = some (.cells #[.int .u32 ((pw b 0 12)), .int .u32 ((pw b 1 12)), .int .u32 ((pw b 2 12)), .int .u32 ((pw b 3 14))] 24 (0, 0)) ∧ w'.cell? ⟨gb, 2, none⟩ = some (.int .u8 (bt b 14)) ∧ w'.cell? ⟨gb, 3, none⟩ = some (.int .u8 (bt b 15))) ⟨(by repeat (first | (with_reducible first | exact HB.out | apply below_alloc | apply pw_below_drewN | apply below_drew1 | refine below_set ?_ Gg0.out | refine below_set ?_ Gg1.out) | exact HB.out)), (Eq.trans (by (with_reducible repeat (first | exact Kg0.out | apply blk_set | apply far_put Ng0g1.out | apply far_put Ng0g1.out.symm | apply blk_drewN | apply blk_drew | apply blk_alloc))) (by first | rfl)), (Eq.trans (by (with_reducible repeat (first | exact Kg1.out | apply blk_set | apply far_put Ng0g1.out | apply far_put Ng0g1.out.symm | apply blk_drewN | apply blk_drew | apply blk_alloc))) (by first | rfl)), (World.cell?_setCell_far _ _ _ _ Nb.out.symm).trans ((World.cell?_setCell_far _ _ _ _ Nb.out.symm).trans cb_2), (World.cell?_setCell_far _ _ _ _ Nb.out.symm).trans ((World.cell?_setCell_far _ _ _ _ Nb.out.symm).trans cb_3)⟩ ?_
        clear cg1_0 zg1_0 cb_0 cg1_1 zg1_1 cb_1 cg1_2 zg1_2 cb_2 cg1_3 zg1_3 cb_3 HC
        intro w7 hF
        clear HB Kg0 Kg1
        obtain ⟨n0_, n1_, n2_, cb_2, cb_3⟩ := hF
        have HB := Aside0.mk n0_
        have Kg0 := Aside0.mk n1_
        have Kg1 := Aside0.mk n2_
        clear n0_ n1_ n2_
        have cg1_0 : w7.cell? ⟨g1, 0, none⟩ = some (.int .u32 (pw b 0 12)) := (blk_cell Kg1.out 0).trans rfl
        have zg1_0 := blk_frozen Kg1.out 0
        have cg1_1 : w7.cell? ⟨g1, 1, none⟩ = some (.int .u32 (pw b 1 12)) := (blk_cell Kg1.out 1).trans rfl
        have zg1_1 := blk_frozen Kg1.out 1
        have cg1_2 : w7.cell? ⟨g1, 2, none⟩ = some (.int .u32 (pw b 2 12)) := (blk_cell Kg1.out 2).trans rfl
        have zg1_2 := blk_frozen Kg1.out 2
        have cg1_3 : w7.cell? ⟨g1, 3, none⟩ = some (.int .u32 (pw b 3 14)) := (blk_cell Kg1.out 3).trans rfl
        have zg1_3 := blk_frozen Kg1.out 3
        refine inLoop_k fun K1 hK1 => ?_
        go_wp2
        try clear hK1
        try clear K1
        refine inLoop_k fun K1 hK1 => ?_
        go_wp2
        try clear hK1
        try clear K1
        refine inLoop_k fun K1 hK1 => ?_
        go_wp2
        go_roundg 0
        case measure => omega
        case rel => exact ⟨4, by first | rfl | (simp; done), ⟨rfl⟩, ⟨(by repeat (first | (with_reducible first | exact HB.out | apply below_alloc | apply pw_below_drewN | apply below_drew1 | refine below_set ?_ Gg0.out | refine below_set ?_ Gg1.out) | exact HB.out))⟩, ⟨(Eq.trans (by (with_reducible repeat (first | exact Kg0.out | apply blk_set | apply far_put Ng0g1.out | apply far_put Ng0g1.out.symm | apply blk_drewN | apply blk_drew | apply blk_alloc))) (by first | rfl))⟩, ⟨(Eq.trans (by (with_reducible repeat (first | exact Kg1.out | apply blk_set | apply far_put Ng0g1.out | apply far_put Ng0g1.out.symm | apply blk_drewN | apply blk_drew | apply blk_alloc))) (by first | rfl))⟩⟩
      · clear HA hi
        have cg0_0 : wr.cell? ⟨g0, 0, none⟩ = some (.int .u32 0) := (blk_cell Kg0.out 0).trans rfl
        have zg0_0 := blk_frozen Kg0.out 0
        have cg0_1 : wr.cell? ⟨g0, 1, none⟩ = some (.int .u32 0) := (blk_cell Kg0.out 1).trans rfl
        have zg0_1 := blk_frozen Kg0.out 1
        have cg0_2 : wr.cell? ⟨g0, 2, none⟩ = some (.int .u32 0) := (blk_cell Kg0.out 2).trans rfl
        have zg0_2 := blk_frozen Kg0.out 2
        have cg0_3 : wr.cell? ⟨g0, 3, none⟩ = some (.int .u32 0) := (blk_cell Kg0.out 3).trans rfl
        have zg0_3 := blk_frozen Kg0.out 3
        have cg1_0 : wr.cell? ⟨g1, 0, none⟩ = some (.int .u32 (pw b 0 16)) := (blk_cell Kg1.out 0).trans rfl
        have zg1_0 := blk_frozen Kg1.out 0
        have cg1_1 : wr.cell? ⟨g1, 1, none⟩ = some (.int .u32 (pw b 1 16)) := (blk_cell Kg1.out 1).trans rfl
        have zg1_1 := blk_frozen Kg1.out 1
        have cg1_2 : wr.cell? ⟨g1, 2, none⟩ = some (.int .u32 (pw b 2 16)) := (blk_cell Kg1.out 2).trans rfl
        have zg1_2 := blk_frozen Kg1.out 2
        have cg1_3 : wr.cell? ⟨g1, 3, none⟩ = some (.int .u32 (pw b 3 16)) := (blk_cell Kg1.out 3).trans rfl
        have zg1_3 := blk_frozen Kg1.out 3
        have hv := HV.out
        simp only [Prod.mk.injEq] at hv
        obtain ⟨e1, e2, e3, e4, e5⟩ := hv
        have E1 := Aside0.mk e1
        have E2 := Aside0.mk e2
        have E3 := Aside0.mk e3
        have E4 := Aside0.mk e4
        have E5 := Aside0.mk e5
        clear e1 e2 e3 e4 e5
        go_wp2
        refine bodyPost_ret (results_ct rfl _ _ g0 24 #[.int .u32 ((pw b 0 16)), .int .u32 ((pw b 1 16)), .int .u32 ((pw b 2 16)), .int .u32 ((pw b 3 16))] (0, 0) _ rfl (Eq.trans (by (with_reducible repeat (first | exact Kg0.out | apply blk_set | apply far_put Ng0g1.out | apply blk_drewN | apply blk_drew | apply blk_alloc))) (by rfl)) Tryd.underlying24 rfl (by kernel_rfl)) rfl ?_
        exact ⟨by rw [E1.out, E2.out, E3.out, E4.out, ← E5.out]; rfl, (by repeat (first | (with_reducible first | exact HB.out | apply below_alloc | apply pw_below_drewN | apply below_drew1 | refine below_set ?_ Gg0.out | refine below_set ?_ Gg1.out) | exact HB.out))⟩
  · have HV : Aside0 (((0 : Int), (0 : Int), (0 : Int), (0 : Int), (3 : Int)) = (r1, r2, r3, r4, r5)) := by
      have h := HH.out
      rw [if_neg c1] at h
      exact ⟨Option.some.inj h⟩
    clear HH
    have hv := HV.out
    simp only [Prod.mk.injEq] at hv
    obtain ⟨rfl, rfl, rfl, rfl, rfl⟩ := hv
    have hc : (!(e1 == 0) || !((b.size : Int) == 16)) = true := by
      rw [Bool.or_eq_true]
      by_cases c2 : e1 = 0
      · right
        have : ¬ (b.size : Int) = 16 := fun h => c1 ⟨c2, by omega⟩
        simp [this]
      · left
        simp [c2]
    have HC := Aside0.mk hc
    clear hc
    go_enter Tryd.func19, Tryd.ntmps19
    go_wp2_with (first | ((with_reducible refine gate_dst (N := 2) rfl ?_); refine box_event ?hg (N := 2) ?hd (cs := #[.int .u32 0, .int .u32 0, .int .u32 0, .int .u32 0]) (t := 24) ?hr ?_; (case hd => rfl); (case hg => rfl); (case hr => first | (go_simp; done) | (go_simp; rfl)); intro g0 hg w2 hbox hb; have n0_ := Aside0.mk (below_step (by repeat (first | (with_reducible first | exact HB.out | apply below_alloc | apply pw_below_drewN | apply below_drew1) | exact HB.out)) hb); have n1_ := Aside0.mk hbox; have n2_ := Aside0.mk ((by rw [hg]; exact (below_size HB.out)) : w.heap.size ≤ g0); clear HB; have HB := n0_; have Kg0 := n1_; have Gg0 := n2_; clear n0_ n1_ n2_; clear hb hbox hg) | ((with_reducible refine gate_callee (f := 48) rfl ?_); refine goesL_ (some 13) rfl rfl Tryd.func48 (by kernel_rfl) rfl #[.string a0] rfl (by (try simp only [List.map_toArray, List.map_cons, List.map_nil]); first | done | rfl) ?_; (with_reducible refine (hex_Parse.calls (2 * a0.size + 8) a0 b q e1 _ A.out).mono ?_); rintro e w3 ⟨rfl, hb⟩; refine ⟨_, rfl, ?_⟩; have n0_ := Aside0.mk (below_step (by repeat (first | (with_reducible first | exact HB.out | apply below_alloc | apply pw_below_drewN | apply below_drew1) | exact HB.out)) hb); have n1_ := Aside0.mk (blk_below Kg0.out hb); clear HB Kg0; have HB := n0_; have Kg0 := n1_; clear n0_ n1_ hb; have cz_0 : w3.cell? ⟨g0, 0, none⟩ = some (.int .u32 0) := (blk_cell Kg0.out 0).trans rfl; have fz_0 := blk_frozen Kg0.out 0; have cz_1 : w3.cell? ⟨g0, 1, none⟩ = some (.int .u32 0) := (blk_cell Kg0.out 1).trans rfl; have fz_1 := blk_frozen Kg0.out 1; have cz_2 : w3.cell? ⟨g0, 2, none⟩ = some (.int .u32 0) := (blk_cell Kg0.out 2).trans rfl; have fz_2 := blk_frozen Kg0.out 2; have cz_3 : w3.cell? ⟨g0, 3, none⟩ = some (.int .u32 0) := (blk_cell Kg0.out 3).trans rfl; have fz_3 := blk_frozen Kg0.out 3))
    all_goals first
      | (refine bodyPost_ret (results_ct rfl _ _ g0 24 #[.int .u32 0, .int .u32 0, .int .u32 0, .int .u32 0] (0, 0) _ rfl (Eq.trans (by (with_reducible repeat (first | exact Kg0.out | apply blk_set | apply blk_drewN | apply blk_drew | apply blk_alloc))) (by rfl)) Tryd.underlying24 rfl (by kernel_rfl)) rfl ?_
         exact ⟨rfl, (by repeat (first | (with_reducible first | exact HB.out | apply below_alloc | apply pw_below_drewN | apply below_drew1 | refine below_set ?_ Gg0.out) | exact HB.out))⟩)
      | exact absurd ⟨by first | rfl | assumption | (simp_all; done), by first | assumption | (simp_all; omega) | omega⟩ c1


end

section
/-! ### word_Bytes: function 45 -/
def word_Bytes.l0 : Nat → List Int → List Int → Int → Int → Option (ByteArray)
  | 0, _, _, _, _ => none
  | k + 1, x3, x10, x11, x12 => if x12 < x11 then (if 0 ≤ x12 then (if x12 < (x10.length : Int) then ((some (([(rd x10 x12) % 256, ((rd x10 x12) / 256) % 256, ((rd x10 x12) / 65536) % 256, ((rd x10 x12) / 16777216) % 256] : List Int) : List Int)).bind fun y103 => (if x3.length + y103.length < 140737488355328 then (word_Bytes.l0 k (x3 ++ y103) x10 x11 (wrap64 (x12 + 1))) else (none))) else (none)) else (none)) else (some (strOfNums x3))
def word_Bytes.f (k : Nat) (l0 : List Int) : Option (ByteArray) := word_Bytes.l0 k ([] : List Int) l0 (l0.length : Int) 0
theorem word_Bytes.mono_l : ∀ k, (∀ y0 y1 y2 y3, LeO (word_Bytes.l0 k y0 y1 y2 y3) (word_Bytes.l0 (k + 1) y0 y1 y2 y3))
  | 0 => fun _ _ _ _ r h => by simp [word_Bytes.l0] at h
  | k + 1 => by
    have ih0 := word_Bytes.mono_l k
    · intro y0 y1 y2 y3
      unfold word_Bytes.l0
      repeat' first
      | (with_reducible exact ih0 _ _ _ _)
      | (with_reducible exact LeO.refl _)
      | (with_reducible exact LeO.none _)
      | (with_reducible refine LeO.ite ?_ ?_)
      | (with_reducible refine LeO.bind ?_ (fun _ => ?_))
      | exact ih0 _ _ _ _
      | exact LeO.none _
      | refine LeO.ite ?_ ?_
      | refine LeO.bind ?_ (fun _ => ?_)
theorem word_Bytes.mono : ∀ a0 k, LeO (word_Bytes.f k a0) (word_Bytes.f (k + 1) a0) := by
  intro a0 k
  have ih0 := word_Bytes.mono_l k
  unfold word_Bytes.f
  repeat' first
      | (with_reducible exact ih0 _ _ _ _)
      | (with_reducible exact LeO.refl _)
      | (with_reducible exact LeO.none _)
      | (with_reducible refine LeO.ite ?_ ?_)
      | (with_reducible refine LeO.bind ?_ (fun _ => ?_))
      | exact ih0 _ _ _ _
      | exact LeO.none _
      | refine LeO.ite ?_ ?_
      | refine LeO.bind ?_ (fun _ => ?_)
theorem word_Bytes.len_l (l : List Int) (r : ByteArray) : ∀ (k : Nat) (x : List Int) (i : Int), 0 ≤ i → i ≤ l.length → (x.length : Int) = 4 * i → x.length ≤ 140737488355328 → word_Bytes.l0 k x l (l.length : Int) i = some r → 4 * l.length ≤ 140737488355328
  | 0, _, _, _, _, _, _, h => by simp [word_Bytes.l0] at h
  | k + 1, x, i, h0, h1, hx, hm, h => by
    simp only [word_Bytes.l0, Option.bind_some] at h
    by_cases c1 : i < (l.length : Int)
    · rw [if_pos c1, if_pos h0, if_pos c1] at h
      by_cases c2 : x.length + ([(rd l i) % 256, ((rd l i) / 256) % 256, ((rd l i) / 65536) % 256, ((rd l i) / 16777216) % 256] : List Int).length < 140737488355328
      · rw [if_pos c2] at h
        have c3 : x.length + 4 < 140737488355328 := c2
        have e : wrap64 (i + 1) = i + 1 := by unfold wrap64; omega
        rw [e] at h
        exact word_Bytes.len_l l r k _ (i + 1) (by omega) (by omega) (by rw [List.length_append]; show ((x.length + 4 : Nat) : Int) = _; omega) (by rw [List.length_append]; show x.length + 4 ≤ _; omega) h
      · rw [if_neg c2] at h
        cases h
    · omega
set_option maxHeartbeats 8000000 in
set_option maxRecDepth 100000 in
theorem word_Bytes.calls (k : Nat) (A0 : Option Addr) (c0 : Nat) (l0 : List Int) (r : ByteArray) (w : World) (hr0 : Kd.C (Kd.int .u32) w A0 l0.length l0) (hc0 : l0.length ≤ c0) (h : word_Bytes.f k l0 = some r) :
    Calls Tryd.prog 45 #[.slice A0 l0.length c0] w fun e w' => e = .returned (.string r) ∧ Below w.heap.size w w' := by
  have HR0 := Aside0.mk hr0
  have HC0 := Aside0.mk hc0
  clear hr0 hc0
  have HB := Aside0.mk (Below.refl w.heap.size w)
  have H : (word_Bytes.l0 k ([] : List Int) l0 (l0.length : Int) 0) = some r := h
  clear h
  have H' := Aside0.mk H
  have hlen := word_Bytes.len_l l0 r k [] 0 (by omega) (by omega) rfl (by simp) H
  clear H
  have hb1 : 0 ≤ 4 * (l0.length : Int) := by omega
  have hb2 : 4 * (l0.length : Int) ≤ 140737488355328 := by omega
  go_enter Tryd.func45, Tryd.ntmps45
  go_wp2_with (at_make; refine HX.R_mk0 (Kd.int .u8) (w0 := w) w.heap.size 5 rfl 41 _ _ rfl (4 * (l0.length : Int)) rfl rfl Tryd.underlying41 (.int .u8 0) 1 info5 (by decide) (ok := fun _ => True) trivial hb1 (by omega) (Below.refl _ _) (Nat.le_refl _) ?_; intro v1 w1 hm1 hb3 hg3; have HM := Aside0.mk hm1; have HBM := Aside0.mk hb3; clear hm1 hb3 hg3)
  go_loopg [3, 12] k (fun kq v3 v12 w' => ∃ (x3_1 : List Int) (x12_1 : Int), v12 = .int .i64 x12_1 ∧ Aside0 (word_Bytes.l0 kq x3_1 l0 (l0.length : Int) x12_1 = some r) ∧ Aside0 (kq ≤ k) ∧ Aside0 (Kd.R (Kd.int .u8) 5 w' w.heap.size (fun _ => True) v3 x3_1) ∧ Aside0 (Below w.heap.size w w'))
  case atStart => exact ⟨(([] : List Int)), (0), (by first | rfl | (simp; done) | (simp [*]; done)), H', ⟨Nat.le_refl _⟩, ⟨by exact HM.out⟩, ⟨by exact HBM.out⟩⟩
  case round =>
    clear H' HM HBM hb1 hb2 hlen
    try clear c1
    obtain ⟨x3_1, x12_1, rfl, HA, HK1, HO_3, HB⟩ := hrel
    cases gk with
    | zero => exact absurd HA.out (by simp [word_Bytes.l0])
    | succ k1 =>
      have H := HA.out
      clear HA
      simp only [word_Bytes.l0] at H
      by_cases c2 : x12_1 < (l0.length : Int)
      · rw [if_pos c2] at H
        have c2b0 : decide (x12_1 < (l0.length : Int)) = true := decide_eq_true c2
        clear c2
        by_cases c3 : 0 ≤ x12_1
        · rw [if_pos c3] at H
          have c3b0 : decide (0 ≤ x12_1) = true := decide_eq_true c3
          clear c3
          by_cases c4 : x12_1 < (l0.length : Int)
          · rw [if_pos c4] at H
            have c4b0 : decide (x12_1 < (l0.length : Int)) = true := decide_eq_true c4
            clear c4
            obtain ⟨y103, hy103⟩ : ∃ y_ : List Int, y_ = (([(rd l0 x12_1) % 256, ((rd l0 x12_1) / 256) % 256, ((rd l0 x12_1) / 65536) % 256, ((rd l0 x12_1) / 16777216) % 256] : List Int)) := ⟨_, rfl⟩
            replace H : (if x3_1.length + y103.length < 140737488355328 then (word_Bytes.l0 k1 (x3_1 ++ y103) l0 (l0.length : Int) (wrap64 (x12_1 + 1))) else (none)) = some r := by first | (rw [hy103]; with_reducible exact H) | (have H2_ := (Option.bind_some _ _).symm.trans H; rw [hy103]; with_reducible exact H2_) | (have H2_ := (Option.bind_some _ _).symm.trans H; with_reducible exact H2_) | with_reducible exact H | (rw [hy103]; exact H) | exact H
            have Ny103 := Aside0.mk hy103
            clear hy103
            by_cases c5 : x3_1.length + y103.length < 140737488355328
            · rw [if_pos c5] at H
              have LMc5 := Aside0.mk c5
              clear c5
              obtain ⟨y106, hy106⟩ : ∃ y_ : List Int, y_ = (x3_1 ++ y103) := ⟨_, rfl⟩
              replace H : (word_Bytes.l0 k1 y106 l0 (l0.length : Int) (wrap64 (x12_1 + 1))) = some r := by first | (rw [hy106]; with_reducible exact H) | (have H2_ := (Option.bind_some _ _).symm.trans H; rw [hy106]; with_reducible exact H2_) | (have H2_ := (Option.bind_some _ _).symm.trans H; with_reducible exact H2_) | with_reducible exact H | (rw [hy106]; exact H) | exact H
              have Ny106 := Aside0.mk hy106
              clear hy106
              have H' := Aside0.mk H
              clear H
              have p102 : 0 ≤ (x12_1 : Int) := of_decide_eq_true (by first | (with_reducible assumption) | assumption)
              have q102 : x12_1 < (l0.length : Int) := of_decide_eq_true (by first | (with_reducible assumption) | assumption)
              obtain ⟨ad102, e102, hx102_0⟩ := Kd.at_int HR0.out x12_1 p102 q102
              cases e102
              replace hx102_0 := (HB.out.cell (World.block_lt_of_cell? w _ hx102_0)).trans hx102_0
              replace p102 := eq_true p102
              replace q102 := eq_true q102
              go_wp2_with (first | ((with_reducible refine gate_dst (N := 28) rfl ?_); refine Kd.R_lit (Kd.int .u8) _ 5 ?hg (N := 28) ?hd (xs := ([(rd l0 x12_1) % 256, ((rd l0 x12_1) / 256) % 256, ((rd l0 x12_1) / 65536) % 256, ((rd l0 x12_1) / 16777216) % 256] : List Int)) (inner := [.int .u8 ((rd l0 x12_1) % 256), .int .u8 (((rd l0 x12_1) / 256) % 256), .int .u8 (((rd l0 x12_1) / 65536) % 256), .int .u8 (((rd l0 x12_1) / 16777216) % 256)]) (ok := fun _ => True) (okp := fun _ => True) ?hr ?hp (fun _ hk => hk) trivial (Below.refl _ _) (Nat.le_refl _) (by simp) ?_; (case hd => rfl); (case hg => rfl); (case hr => first | (go_simp; done) | (go_simp; rfl)); (case hp => exact (Reps.one (show Kd.M (Kd.int .u8) _ _ _ ((rd l0 x12_1) % 256) [.int .u8 ((rd l0 x12_1) % 256)] from rfl) (Reps.one (show Kd.M (Kd.int .u8) _ _ _ (((rd l0 x12_1) / 256) % 256) [.int .u8 (((rd l0 x12_1) / 256) % 256)] from rfl) (Reps.one (show Kd.M (Kd.int .u8) _ _ _ (((rd l0 x12_1) / 65536) % 256) [.int .u8 (((rd l0 x12_1) / 65536) % 256)] from rfl) (Reps.one (show Kd.M (Kd.int .u8) _ _ _ (((rd l0 x12_1) / 16777216) % 256) [.int .u8 (((rd l0 x12_1) / 16777216) % 256)] from rfl) (Reps.none _ _)))))); intro v104 w6 ho7 hb hg_ hnew_; clear hg_ hnew_; (first | rw [← Ny103.out] at ho7 | (simp only [Int.reduceToNat] at ho7; rw [← Ny103.out] at ho7)); have n0_ := Aside0.mk (Kd.R_elder' (by (with_reducible repeat (first | apply Kd.R_alloc | apply Kd.R_drewN | apply Kd.R_drew)); exact HO_3.out) (Kd.R_base ho7) hb); have n1_ := Aside0.mk (Kd.R_lower (Kd.R_new' ho7 (Kd.R_lt (by (with_reducible repeat (first | apply Kd.R_alloc | apply Kd.R_drewN | apply Kd.R_drew)); exact HO_3.out))) (below_size (by repeat (first | (with_reducible first | exact HB.out | apply below_alloc | apply pw_below_drewN | apply below_drew1) | exact HB.out)))); have n2_ := Aside0.mk (below_step (by repeat (first | (with_reducible first | exact HB.out | apply below_alloc | apply pw_below_drewN | apply below_drew1) | exact HB.out)) hb); clear HO_3; clear HB; have HO_3 := n0_; have HO105 := n1_; have HB := n2_; clear n0_ n1_ n2_; clear hb ho7; obtain ⟨Ao9, co9, eo9⟩ := Kd.R_slice HO105.out; subst eo9) | ((with_reducible refine gate_builtin (b := .append) (xs := #[.tmp 16, .tmp 28]) rfl ?_); at_builtin; refine Kd.R_append_rows (Kd.int .u8) (w0 := w) w.heap.size rfl (.tmp 16) (.tmp 28) 41 5 (.int .u8 0) 1 rfl Tryd.underlying41 info5 rfl (by decide) (by omega) u3 x3_1 y103 _ _ _ (fun k_ => some k_ ≠ (.slice Ao9 y103.length co9 : Value).ownBlock) (fun _ => False) rfl rfl ?aO ?aR (fun _ _ h => h) (fun _ h => h.elim) ?aF ?aB ?aS ?aL ?_; (case aR => repeat (first | exact (Kd.R_reads' HO105.out).2.2 | (with_reducible refine Kd.C_alloc ?_ _) | (with_reducible refine Kd.C_drewN ?_ _) | (with_reducible refine Kd.C_drew ?_))); (case aB => exact (by repeat (first | (with_reducible first | exact HB.out | apply below_alloc | apply pw_below_drewN | apply below_drew1) | exact HB.out))); (case aF => exact (fun k_ hk => Kd.fresh' (Kd.R_lt (by (with_reducible repeat (first | apply Kd.R_alloc | apply Kd.R_drewN | apply Kd.R_drew)); exact HO105.out)) k_ hk)); (case aO => exact (by (with_reducible repeat (first | apply Kd.R_alloc | apply Kd.R_drewN | apply Kd.R_drew)); exact Kd.R_mono HO_3.out (fun _ hk => hk.2))); (case aS => exact (below_size (by repeat (first | (with_reducible first | exact HB.out | apply below_alloc | apply pw_below_drewN | apply below_drew1) | exact HB.out)))); (case aL => have := LMc5.out; omega); intro v107 w8 ho hb hg hat; rw [← Ny106.out] at ho; have n0_ := Aside0.mk (Kd.R_after (ok := (fun _ => True)) (by (with_reducible repeat (first | apply Kd.R_alloc | apply Kd.R_drewN | apply Kd.R_drew)); exact HO105.out) hg hat); have n1_ := Aside0.mk (hb); have n2_ := Aside0.mk (ho); clear HO105; clear HB; clear HO_3; have HO105 := n0_; have HB := n1_; have HO108 := n2_; clear n0_ n1_ n2_; clear ho hb hg hat))
              go_roundg k1
              case measure => have := HK1.out; omega
              case rel => exact ⟨(y106), (wrap64 (x12_1 + 1)), (by first | rfl | (simp; done) | (simp [*]; done)), H', ⟨by have := HK1.out; omega⟩, ⟨by (with_reducible repeat (first | apply Kd.R_alloc | apply Kd.R_drewN | apply Kd.R_drew)); exact Kd.R_mono HO108.out (fun _ hk => trivial)⟩, ⟨by repeat (first | (with_reducible first | exact HB.out | apply below_alloc | apply pw_below_drewN | apply below_drew1) | exact HB.out)⟩⟩
            · rw [if_neg c5] at H
              exact absurd H (by simp)
          · rw [if_neg c4] at H
            exact absurd H (by simp)
        · rw [if_neg c3] at H
          exact absurd H (by simp)
      · rw [if_neg c2] at H
        have c2b0 : decide (x12_1 < (l0.length : Int)) = false := decide_eq_false c2
        clear c2
        obtain rfl := Option.some.inj H
        have hcv10 := own_string (P := Tryd.prog) Tryd.underlying41 Tryd.underlying5 Tryd.underlying9 (Kd.own_of_R HO_3.out)
        go_wp2
        go_ret
        exact ⟨by first | rfl | (simp [errW_none, errW_some] <;> rfl) | (simp [*, errW_none, errW_some] <;> rfl), by repeat (first | (with_reducible first | exact HB.out | apply below_alloc | apply pw_below_drewN | apply below_drew1) | exact HB.out)⟩



end

section
/-! ### hex_two: function 76 -/
def hex_two.f (a0 : Int) : Option (List Int) := if 0 ≤ (a0 / 16) then (if (a0 / 16) < 16 then (if 0 ≤ (Go.bits .and .u8 a0 15) then (if (Go.bits .and .u8 a0 15) < 16 then (some (([bt (⟨#[48, 49, 50, 51, 52, 53, 54, 55, 56, 57, 97, 98, 99, 100, 101, 102]⟩ : ByteArray) (a0 / 16), bt (⟨#[48, 49, 50, 51, 52, 53, 54, 55, 56, 57, 97, 98, 99, 100, 101, 102]⟩ : ByteArray) (Go.bits .and .u8 a0 15)] : List Int))) else (none)) else (none)) else (none)) else (none)
def hex_two.T1 : Bool × List (List Nat × List Nat) := (true, [([], []), ([0], [0]), ([1], [1]), ([], []), ([3], [3]), ([4], [4]), ([2, 5], [2, 5]), ([6, 0, 1, 2, 3, 4, 5, 6], [6])])
def hex_two.B1 : List Nat := [0, 1, 3, 0, 8, 24, 63, 127]
theorem hex_two.tab1 : rtab .any (opsOf Tryd.f76 1) = hex_two.T1 := by kernel_rfl
theorem hex_two.bits1 : waitsOk hex_two.T1.2 hex_two.B1 = true := by kernel_rfl
set_option maxHeartbeats 8000000 in
set_option maxRecDepth 100000 in
theorem hex_two.calls (a0 : Int) (r : List Int) (w : World) (h : hex_two.f a0 = some r) :
    Calls Tryd.prog 76 #[.int .u8 a0] w fun e w' => ∃ v0_ : Value, e = .returned (v0_) ∧ Kd.R (Kd.int .u8) 5 w' w.heap.size (fun _ => True) v0_ r ∧ Below w.heap.size w w' := by
  have HB := Aside0.mk (Below.refl w.heap.size w)
  have H : (if 0 ≤ (a0 / 16) then (if (a0 / 16) < 16 then (if 0 ≤ (Go.bits .and .u8 a0 15) then (if (Go.bits .and .u8 a0 15) < 16 then (some (([bt (⟨#[48, 49, 50, 51, 52, 53, 54, 55, 56, 57, 97, 98, 99, 100, 101, 102]⟩ : ByteArray) (a0 / 16), bt (⟨#[48, 49, 50, 51, 52, 53, 54, 55, 56, 57, 97, 98, 99, 100, 101, 102]⟩ : ByteArray) (Go.bits .and .u8 a0 15)] : List Int))) else (none)) else (none)) else (none)) else (none)) = some r := h
  clear h
  obtain ⟨ji2, hji2⟩ : ∃ j_ : Int, (a0 / 16) = j_ := ⟨_, rfl⟩
  replace H : (if 0 ≤ (ji2) then (if (ji2) < 16 then (if 0 ≤ (Go.bits .and .u8 a0 15) then (if (Go.bits .and .u8 a0 15) < 16 then (some (([bt (⟨#[48, 49, 50, 51, 52, 53, 54, 55, 56, 57, 97, 98, 99, 100, 101, 102]⟩ : ByteArray) (ji2), bt (⟨#[48, 49, 50, 51, 52, 53, 54, 55, 56, 57, 97, 98, 99, 100, 101, 102]⟩ : ByteArray) (Go.bits .and .u8 a0 15)] : List Int))) else (none)) else (none)) else (none)) else (none)) = some r := by first | (rw [hji2] at H; exact H) | (simp only [hji2] at H ⊢; exact H)
  by_cases c3 : 0 ≤ (ji2)
  · rw [if_pos c3] at H
    have c3b0 : decide (0 ≤ (ji2)) = true := decide_eq_true c3
    clear c3
    by_cases c4 : (ji2) < 16
    · rw [if_pos c4] at H
      have c4b0 : decide ((ji2) < 16) = true := decide_eq_true c4
      clear c4
      by_cases c6 : 0 ≤ (Go.bits .and .u8 a0 15)
      · rw [if_pos c6] at H
        have c6b0 : decide (0 ≤ (Go.bits .and .u8 a0 15)) = true := decide_eq_true c6
        clear c6
        by_cases c7 : (Go.bits .and .u8 a0 15) < 16
        · rw [if_pos c7] at H
          have c7b0 : decide ((Go.bits .and .u8 a0 15) < 16) = true := decide_eq_true c7
          clear c7
          obtain ⟨y134, hy134⟩ : ∃ y_ : List Int, y_ = (([bt (⟨#[48, 49, 50, 51, 52, 53, 54, 55, 56, 57, 97, 98, 99, 100, 101, 102]⟩ : ByteArray) (ji2), bt (⟨#[48, 49, 50, 51, 52, 53, 54, 55, 56, 57, 97, 98, 99, 100, 101, 102]⟩ : ByteArray) (Go.bits .and .u8 a0 15)] : List Int)) := ⟨_, rfl⟩
          replace H : (some y134) = some r := by first | (rw [hy134]; with_reducible exact H) | (have H2_ := (Option.bind_some _ _).symm.trans H; rw [hy134]; with_reducible exact H2_) | (have H2_ := (Option.bind_some _ _).symm.trans H; with_reducible exact H2_) | with_reducible exact H | (rw [hy134]; exact H) | exact H
          have Ny134 := Aside0.mk hy134
          clear hy134
          obtain rfl := Option.some.inj H
          go_enter Tryd.func76, Tryd.ntmps76
          try go_wp2
          have n0_ := Aside0.mk (below_drew1 HB.out)
          clear HB
          have HB := n0_
          clear n0_
          have p5 : 0 ≤ ((ji2) : Int) := of_decide_eq_true (by first | (with_reducible assumption) | assumption)
          have q5 : (ji2) < (16 : Int) := of_decide_eq_true (by first | (with_reducible assumption) | assumption)
          have hx5 := bt_at (⟨#[48, 49, 50, 51, 52, 53, 54, 55, 56, 57, 97, 98, 99, 100, 101, 102]⟩ : ByteArray) (ji2)
          replace p5 := eq_true p5
          replace q5 := eq_true q5
          have p8 : 0 ≤ ((Go.bits .and .u8 a0 15) : Int) := of_decide_eq_true (by first | (with_reducible assumption) | assumption)
          have q8 : (Go.bits .and .u8 a0 15) < (16 : Int) := of_decide_eq_true (by first | (with_reducible assumption) | assumption)
          have hx8 := bt_at (⟨#[48, 49, 50, 51, 52, 53, 54, 55, 56, 57, 97, 98, 99, 100, 101, 102]⟩ : ByteArray) (Go.bits .and .u8 a0 15)
          replace p8 := eq_true p8
          replace q8 := eq_true q8
          refine start_ (n := 8) (S := fun w' => True) (ds := []) #[false, false, false, false, false, false, false, false] (by kernel_rfl) rfl rfl trivial (fun hHeld => ?_); refine with_tabW hex_two.tab1 hex_two.bits1 (fun HT_ HW_ => ?_)
          generalize w.drew = w9 at HB hHeld ⊢
          refine pure_ (i := 0) (N := some 3) (v := ?_) (a' := ?_) #[true, false, false, false, false, false, false, false] rfl rfl (any_of HT_.out (by kernel_rfl)) (fun _ _ _ h => h) (Or.inl ⟨by rfl, ?_⟩) ?_ ?_
          rotate_left
          · intro w'
            go_simp
            with_reducible rfl
          rotate_left
          · simp only [Act.put, List.setIfInBounds_toArray, List.set_cons_zero, List.set_cons_succ, i64_w, i32_w]
            rfl
          refine pure_ (i := 1) (N := some 4) (v := ?_) (a' := ?_) #[true, true, false, false, false, false, false, false] rfl rfl (any_of HT_.out (by kernel_rfl)) (fun _ _ _ h => h) (Or.inl ⟨by rfl, ?_⟩) ?_ ?_
          rotate_left
          · intro w'
            go_simp
            with_reducible rfl
          rotate_left
          · simp only [Act.put, List.setIfInBounds_toArray, List.set_cons_zero, List.set_cons_succ, i64_w, i32_w]
            rfl
          refine pure_ (i := 3) (N := some 6) (v := ?_) (a' := ?_) #[true, true, false, true, false, false, false, false] rfl rfl (any_of HT_.out (by kernel_rfl)) (fun _ _ _ h => h) (Or.inl ⟨by rfl, ?_⟩) ?_ ?_
          rotate_left
          · intro w'
            go_simp
            with_reducible rfl
          rotate_left
          · simp only [Act.put, List.setIfInBounds_toArray, List.set_cons_zero, List.set_cons_succ, i64_w, i32_w]
            rfl
          refine pure_ (i := 4) (N := some 7) (v := ?_) (a' := ?_) #[true, true, false, true, true, false, false, false] rfl rfl (any_of HT_.out (by kernel_rfl)) (fun _ _ _ h => h) (Or.inl ⟨by rfl, ?_⟩) ?_ ?_
          rotate_left
          · intro w'
            go_simp
            with_reducible rfl
          rotate_left
          · simp only [Act.put, List.setIfInBounds_toArray, List.set_cons_zero, List.set_cons_succ, i64_w, i32_w]
            rfl
          refine take_ (i := 2) (N := some 5) (v := ?_) (a' := ?_) #[true, true, true, true, true, false, false, false] rfl rfl (take_ofW HT_.out HW_.out (by kernel_rfl)) (fun _ _ _ h => h) (Or.inl ⟨by rfl, ?_⟩) hHeld ?_ ?_
          rotate_left
          · intro w' _
            go_simp
            with_reducible rfl
          rotate_left
          · simp only [Act.put, List.setIfInBounds_toArray, List.set_cons_zero, List.set_cons_succ, i64_w, i32_w]
            rfl
          refine take_ (i := 5) (N := some 8) (v := ?_) (a' := ?_) #[true, true, true, true, true, true, false, false] rfl rfl (take_ofW HT_.out HW_.out (by kernel_rfl)) (fun _ _ _ h => h) (Or.inl ⟨by rfl, ?_⟩) hHeld ?_ ?_
          rotate_left
          · intro w' _
            go_simp
            with_reducible rfl
          rotate_left
          · simp only [Act.put, List.setIfInBounds_toArray, List.set_cons_zero, List.set_cons_succ, i64_w, i32_w]
            rfl
          refine one_ (i := 6) (N := some 9) #[true, true, true, true, true, true, true, false] rfl rfl (one_of HT_.out (by kernel_rfl)) (by decide) (fun K hK => ?_)
          refine Kd.R_lit_step (Kd.int .u8) _ 5 ?hg (N := 9) ?hd (xs := ([bt (⟨#[48, 49, 50, 51, 52, 53, 54, 55, 56, 57, 97, 98, 99, 100, 101, 102]⟩ : ByteArray) (ji2), bt (⟨#[48, 49, 50, 51, 52, 53, 54, 55, 56, 57, 97, 98, 99, 100, 101, 102]⟩ : ByteArray) (Go.bits .and .u8 a0 15)] : List Int)) (inner := [.int .u8 (bt (⟨#[48, 49, 50, 51, 52, 53, 54, 55, 56, 57, 97, 98, 99, 100, 101, 102]⟩ : ByteArray) (ji2)), .int .u8 (bt (⟨#[48, 49, 50, 51, 52, 53, 54, 55, 56, 57, 97, 98, 99, 100, 101, 102]⟩ : ByteArray) (Go.bits .and .u8 a0 15))]) (ok := fun _ => True) (okp := fun _ => True) ?hr ?hp (fun _ hk => hk) trivial (Below.refl _ _) (Nat.le_refl _) (by simp) ?_; (case hd => rfl); (case hg => rfl); (case hr => first | (go_simp; done) | (go_simp; rfl)); (case hp => exact (Reps.one (show Kd.M (Kd.int .u8) _ _ _ (bt (⟨#[48, 49, 50, 51, 52, 53, 54, 55, 56, 57, 97, 98, 99, 100, 101, 102]⟩ : ByteArray) (ji2)) [.int .u8 (bt (⟨#[48, 49, 50, 51, 52, 53, 54, 55, 56, 57, 97, 98, 99, 100, 101, 102]⟩ : ByteArray) (ji2))] from rfl) (Reps.one (show Kd.M (Kd.int .u8) _ _ _ (bt (⟨#[48, 49, 50, 51, 52, 53, 54, 55, 56, 57, 97, 98, 99, 100, 101, 102]⟩ : ByteArray) (Go.bits .and .u8 a0 15)) [.int .u8 (bt (⟨#[48, 49, 50, 51, 52, 53, 54, 55, 56, 57, 97, 98, 99, 100, 101, 102]⟩ : ByteArray) (Go.bits .and .u8 a0 15))] from rfl) (Reps.none _ _))))
          intro v135 w10 ho11 hb hg_ hnew_
          clear hg_ hnew_
          (first | rw [← Ny134.out] at ho11 | (simp only [Int.reduceToNat] at ho11; rw [← Ny134.out] at ho11))
          have n0_ := Aside0.mk (Kd.R_lower ho11 (below_size (by repeat (first | (with_reducible first | exact HB.out | apply below_alloc | apply pw_below_drewN | apply below_drew1) | exact HB.out))))
          have n1_ := Aside0.mk (below_step (by repeat (first | (with_reducible first | exact HB.out | apply below_alloc | apply pw_below_drewN | apply below_drew1) | exact HB.out)) hb)
          clear HB
          have HO136 := n0_
          have HB := n1_
          clear n0_ n1_
          clear hb ho11
          refine hK.out _ _ trivial (fun hHeld => ?_)
          clear hK K
          refine norm_ (a' := ?_) ?_ ?_
          rotate_left
          · show Act.put _ (some 9) _ = _
            simp only [Act.put, List.setIfInBounds_toArray, List.set_cons_zero, List.set_cons_succ, i64_w, i32_w]
            rfl
          refine pure_ (i := 7) (N := some 2) (v := ?_) (a' := ?_) #[true, true, true, true, true, true, true, true] rfl rfl (any_of HT_.out (by kernel_rfl)) (fun _ _ _ h => h) (Or.inl ⟨by rfl, ?_⟩) ?_ ?_
          rotate_left
          · intro w'
            go_simp
            with_reducible rfl
          rotate_left
          · simp only [Act.put, List.setIfInBounds_toArray, List.set_cons_zero, List.set_cons_succ, i64_w, i32_w]
            rfl
          refine done_ (done_of HT_.out (by kernel_rfl)) ?_
          try go_wp2
          go_ret
          exact ⟨_, by first | rfl | (simp [errW_none, errW_some] <;> rfl) | (simp only [← hji2]; first | rfl | (simp [errW_none, errW_some] <;> rfl)) | (simp [*, errW_none, errW_some] <;> rfl), by (with_reducible repeat (first | apply Kd.R_alloc | apply Kd.R_drewN | apply Kd.R_drew)); exact HO136.out, by repeat (first | (with_reducible first | exact HB.out | apply below_alloc | apply pw_below_drewN | apply below_drew1) | exact HB.out)⟩
        · rw [if_neg c7] at H
          exact absurd H (by simp)
      · rw [if_neg c6] at H
        exact absurd H (by simp)
    · rw [if_neg c4] at H
      exact absurd H (by simp)
  · rw [if_neg c3] at H
    exact absurd H (by simp)


end

section
/-! ### hex_Text: function 50 -/
-- import HWrite
/-- A digit's sign. -/
def digs : ByteArray := ⟨#[48, 49, 50, 51, 52, 53, 54, 55, 56, 57, 97, 98, 99, 100, 101, 102]⟩
def hexTwo (c : UInt8) : List UInt8 := [(digs.data.toList.getD (c.toNat / 16) 0), (digs.data.toList.getD (c.toNat % 16) 0)]
def hexL (l : List UInt8) : List UInt8 := l.flatMap hexTwo
theorem hexL_snoc (l : List UInt8) (c : UInt8) : hexL (l ++ [c]) = hexL l ++ hexTwo c := by simp [hexL]
theorem hexL_length (l : List UInt8) : (hexL l).length = 2 * l.length := by
  induction l with
  | nil => rfl
  | cons a l ih => simp only [hexL, List.flatMap_cons, List.length_append, List.length_cons] at ih ⊢; rw [ih]; simp [hexTwo]; omega
theorem hexTwo_len (c : UInt8) : (hexTwo c).length = 2 := rfl
theorem two_eq (c : UInt8) : hex_two.f (c.toNat : Int) = some ((hexTwo c).map fun x : UInt8 => (x.toNat : Int)) := by
  have h : ∀ n : Fin 256, hex_two.f ((UInt8.ofNat n.val).toNat : Int) = some ((hexTwo (UInt8.ofNat n.val)).map fun x : UInt8 => (x.toNat : Int)) := by decide +kernel
  have h1 := h ⟨c.toNat, c.toNat_lt⟩
  simpa using h1
def hex_Text.f (a0 : ByteArray) : Option ByteArray := if a0.size ≤ 4294967296 then some ⟨(hexL a0.data.toList).toArray⟩ else none
theorem hexL_take (s : ByteArray) (i : Nat) (h : i < s.size) : hexL (s.data.toList.take (i + 1)) = hexL (s.data.toList.take i) ++ hexTwo (s[i]) := by
  rw [List.take_succ_eq_append_getElem (by simpa using h), hexL_snoc]
  rfl
set_option maxHeartbeats 8000000 in
set_option maxRecDepth 100000 in
theorem hex_Text.calls (a0 : ByteArray) (r : ByteArray) (w : World) (h : hex_Text.f a0 = some r) :
    Calls Tryd.prog 50 #[.string a0] w fun e w' => e = .returned (.string r) ∧ Below w.heap.size w w' := by
  have hsz : a0.size ≤ 4294967296 := by
    unfold hex_Text.f at h
    split at h
    · assumption
    · cases h
  have hr : r = ⟨(hexL a0.data.toList).toArray⟩ := by
    unfold hex_Text.f at h
    rw [if_pos hsz] at h
    exact (Option.some.inj h).symm
  clear h
  have HR := Aside0.mk hr
  clear hr
  have HS := Aside0.mk hsz
  clear hsz
  go_enter Tryd.func50, Tryd.ntmps50
  go_wp2
  have hB0 : Lib.IsBuilder 68 5 w.heap.size w.heap.size (Lib.byteCells (hexL (a0.data.toList.take 0))) (w.alloc (.cells #[.pointer none, .slice none 0 0] 68 (0, 0))) := by
    refine .inl ⟨Nat.le_refl _, .slice none 0 0, blk_newAt rfl, ⟨rfl, .inl ⟨rfl, rfl⟩⟩, by simp [Value.ownBlock]⟩
  have HI := Aside0.mk hB0
  clear hB0
  have HB := Aside0.mk (below_alloc (Below.refl w.heap.size w) (o := .cells #[.pointer none, .slice none 0 0] 68 (0, 0)))
  go_loopg [7] a0.size (fun kq v7 w' => ∃ (i : Nat), v7 = .int .i64 (i : Int) ∧ Aside0 (i + kq = a0.size) ∧ Aside0 (Lib.IsBuilder 68 5 w.heap.size w.heap.size (Lib.byteCells (hexL (a0.data.toList.take i))) w') ∧ Aside0 (Below w.heap.size w w'))
  case atStart => exact ⟨0, by first | rfl | (simp; done), ⟨by omega⟩, HI, HB⟩
  case round =>
    clear HI HB
    obtain ⟨i, rfl, HA, HI, HB⟩ := hrel
    cases gk with
    | zero =>
      obtain rfl : i = a0.size := by have := HA.out; omega
      go_wp2_with (go_at_call 51; refine (Any.Builder_String_any { Tryd.lays105 with } Tryd.Builder_Extra_105 w.heap.size w.heap.size _ _ HI.out (below_size HB.out)).mono ?_)
      rintro e w1 ⟨rfl, hb⟩
      have HB1 := Aside0.mk (HB.out.trans hb)
      clear hb HB
      go_wp2
      go_ret
      exact ⟨by rw [HR.out, List.take_of_length_le (by simp)]; rfl, HB1.out⟩
    | succ k1 =>
      have hlt : i < a0.size := by have := HA.out; omega
      have htw := two_eq a0[i]
      have HT := Aside0.mk htw
      clear htw
      go_wp2_with (go_at_call 76; refine (hex_two.calls _ _ _ HT.out).mono ?_)
      rintro e w1 ⟨v1, rfl, hR, hb⟩
      have HI1 := Aside0.mk (isBuilder_below HI.out hb)
      have hlt1 := below_size HB.out
      have hl1 : (hexL (a0.data.toList.take i)).length = 2 * i := by rw [hexL_length, List.length_take]; simp; omega
      have hs1 := HS.out
      have hblt : w.heap.size < wr.heap.size := by rcases HI.out with h | h <;> exact h.lt
      have HB1 := Aside0.mk (HB.out.trans (hb.mono hlt1))
      have hw1 := below_size HB1.out
      have HRR := Aside0.mk (write_row w.heap.size w.heap.size wr.heap.size _ (hexL (a0.data.toList.take i)) (hexTwo a0[i]) _ v1 w1 HI1.out hR rfl (by rw [hexTwo_len]; omega) hblt (by rw [hexTwo_len, hl1]; omega) hw1)
      clear hR hb HI HB HI1 hw1 hblt hlt1 hl1 hs1 HT
      go_wp2_with (go_at_call 75; refine (HRR.out).mono ?_)
      rintro e w2 ⟨rfl, hb2, hb3⟩
      have HI2 := Aside0.mk (show Lib.IsBuilder 68 5 w.heap.size w.heap.size (Lib.byteCells (hexL (a0.data.toList.take (i + 1)))) w2 by rw [hexL_take a0 i hlt]; exact .inr hb2)
      have HB2 := Aside0.mk (HB1.out.trans hb3)
      clear hb2 hb3 HB1 HRR
      have hi2 : (i : Int) ≤ 4294967296 := by have := HS.out; omega
      have hi3 : (0 : Int) ≤ (i : Int) := by omega
      go_wp2
      go_roundg k1
      case measure => omega
      case rel => exact ⟨i + 1, by first | rfl | (simp; done) | go_num, ⟨by have := HA.out; omega⟩, HI2, HB2⟩


end

section
/-! ### digest_Text: function 20 -/
-- import HWrite
-- import HMix
/-- A word's four bytes, the highest first. -/
def be4 (x : Int) : List UInt8 := [UInt8.ofNat (x / 16777216).toNat, UInt8.ofNat (x / 65536 % 256).toNat, UInt8.ofNat (x / 256 % 256).toNat, UInt8.ofNat (x % 256).toNat]
def beL : List Int → List UInt8
  | [] => []
  | x :: l => be4 x ++ beL l
theorem beL_length : ∀ l : List Int, (beL l).length = 4 * l.length
  | [] => rfl
  | x :: l => by rw [beL, List.length_append, beL_length l]; show 4 + _ = 4 * (l.length + 1); omega
def digest_Text.f (a0_0 : Int) (a0_1 : Int) (a0_2 : Int) (a0_3 : Int) : Option ByteArray := if InR a0_0 ∧ InR a0_1 ∧ InR a0_2 ∧ InR a0_3 then some ⟨(hexL (beL [a0_0, a0_1, a0_2, a0_3])).toArray⟩ else none
theorem low_spec (x : Int) (h : InR x) : ∃ lo : ByteArray, word_Bytes.f 2 [x] = some lo ∧ ∃ h : Aside0 (lo.size = 4), ((lo[0]'(by rw [h.out]; decide)).toNat : Int) = x % 256 ∧ ((lo[1]'(by rw [h.out]; decide)).toNat : Int) = x / 256 % 256 ∧ ((lo[2]'(by rw [h.out]; decide)).toNat : Int) = x / 65536 % 256 ∧ ((lo[3]'(by rw [h.out]; decide)).toNat : Int) = x / 16777216 := by
  obtain ⟨h0, h1⟩ := h
  refine ⟨strOfNums [x % 256, x / 256 % 256, x / 65536 % 256, x / 16777216 % 256], ?_, ⟨rfl⟩, ?_⟩
  · have e : wrap64 1 = 1 := by unfold wrap64; omega
    simp [word_Bytes.f, word_Bytes.l0, rd, e]
  · have k : ∀ n : Int, 0 ≤ n → n < 256 → (((UInt8.ofNat n.toNat).toNat : Nat) : Int) = n := fun n h0 h1 => by
      rw [UInt8.toNat_ofNat']
      omega
    exact ⟨k _ (by omega) (by omega), k _ (by omega) (by omega), k _ (by omega) (by omega), (k _ (by omega) (by omega)).trans (by omega)⟩
theorem bytes_one (A0 : Option Addr) (c0 : Nat) (x : Int) (lo : ByteArray) (w : World) (hr0 : Kd.C (Kd.int .u32) w A0 1 [x]) (hc0 : 1 ≤ c0) (h : word_Bytes.f 2 [x] = some lo) :
    Calls Tryd.prog 45 #[.slice A0 1 c0] w fun e w' => e = .returned (.string lo) ∧ Below w.heap.size w w' := word_Bytes.calls 2 A0 c0 [x] lo w hr0 hc0 h
theorem hex_be4 (x : Int) (h : InR x) : hex_Text.f (strOfNums [x / 16777216, x / 65536 % 256, x / 256 % 256, x % 256]) = some ⟨(hexL (be4 x)).toArray⟩ := by
  unfold hex_Text.f
  rw [if_pos (show (strOfNums [x / 16777216, x / 65536 % 256, x / 256 % 256, x % 256]).size ≤ 4294967296 from show 4 ≤ 4294967296 by decide)]
  rfl
set_option maxHeartbeats 8000000 in
set_option maxRecDepth 100000 in
theorem digest_Text.calls (a0_0 : Int) (a0_1 : Int) (a0_2 : Int) (a0_3 : Int) (r : ByteArray) (w : World) (h : digest_Text.f a0_0 a0_1 a0_2 a0_3 = some r) :
    Calls Tryd.prog 20 #[.agg #[.int .u32 a0_0, .int .u32 a0_1, .int .u32 a0_2, .int .u32 a0_3]] w fun e w' => e = .returned (.string r) ∧ Below w.heap.size w w' := by
  have hu24 := Tryd.underlying24
  have hi : InR a0_0 ∧ InR a0_1 ∧ InR a0_2 ∧ InR a0_3 := by
    unfold digest_Text.f at h
    split at h
    · assumption
    · cases h
  have hr : r = ⟨(hexL (beL [a0_0, a0_1, a0_2, a0_3])).toArray⟩ := by
    unfold digest_Text.f at h
    rw [if_pos hi] at h
    exact (Option.some.inj h).symm
  clear h
  have HR := Aside0.mk hr
  clear hr
  have HS := Aside0.mk hi
  clear hi
  go_enter Tryd.func20, Tryd.ntmps20
  go_wp2
  have HX := Aside0.mk (show Lib.IsBuilder 68 5 w.heap.size (w.heap.size + 1) (Lib.byteCells (hexL (beL ([a0_0, a0_1, a0_2, a0_3].take 0)))) ((w.alloc (.cells #[.int .u32 a0_0, .int .u32 a0_1, .int .u32 a0_2, .int .u32 a0_3] 24 (0, 0))).alloc (.cells #[.pointer none, .slice none 0 0] 68 (0, 0))) from .inl ⟨by omega, .slice none 0 0, blk_newAt (by simp), ⟨rfl, .inl ⟨rfl, rfl⟩⟩, by simp [Value.ownBlock]⟩)
  have HY := Aside0.mk (show Below w.heap.size w ((w.alloc (.cells #[.int .u32 a0_0, .int .u32 a0_1, .int .u32 a0_2, .int .u32 a0_3] 24 (0, 0))).alloc (.cells #[.pointer none, .slice none 0 0] 68 (0, 0))) from ((Below.refl w.heap.size w).alloc (Nat.le_refl _) _).alloc (by simp) _)
  go_loopg [8] 4 (fun kq v8 w' => ∃ (i : Nat), v8 = .int .i64 (i : Int) ∧ Aside0 (i + kq = 4) ∧ Aside0 (Lib.IsBuilder 68 5 w.heap.size (w.heap.size + 1) (Lib.byteCells (hexL (beL ([a0_0, a0_1, a0_2, a0_3].take i)))) w') ∧ Aside0 (Below w.heap.size w w'))
  case atStart => exact ⟨0, by first | rfl | (simp; done), ⟨rfl⟩, HX, HY⟩
  case round =>
    clear HX HY
    obtain ⟨i, rfl, HA, HI, HW⟩ := hrel
    have hi : i ≤ 4 := by have := HA.out; omega
    have hcase : i = 0 ∨ i = 1 ∨ i = 2 ∨ i = 3 ∨ i = 4 := by omega
    rcases hcase with rfl | rfl | rfl | rfl | rfl
    · obtain rfl : gk = 3 + 1 := by have := HA.out; omega
      clear HA hi
      have hx := HS.out.1
      have HH := Aside0.mk (hex_be4 a0_0 hx)
      obtain ⟨lo, hl, HSZ, e0, e1, e2, e3⟩ := low_spec a0_0 hx
      have HL := Aside0.mk hl
      have E0 := Aside0.mk e0
      have E1 := Aside0.mk e1
      have E2 := Aside0.mk e2
      have E3 := Aside0.mk e3
      have hszi : (lo.size : Int) = 4 := by have := HSZ.out; omega
      clear hl e0 e1 e2 e3 hx
      have HLN := Aside0.mk (show (Lib.byteCells (hexL (beL ([a0_0, a0_1, a0_2, a0_3].take 0)))).length + (⟨(hexL (be4 a0_0)).toArray⟩ : ByteArray).size ≤ 140737488355328 by rw [Lib.byteCells_length, hexL_length, beL_length]; show 2 * (4 * 0) + (hexL (be4 a0_0)).length ≤ _; rw [hexL_length]; show 2 * (4 * 0) + 2 * 4 ≤ 140737488355328; decide)
      have HB := Aside0.mk (Below.refl wr.heap.size wr)
      have hix := ix24_0 wr a0_0 a0_1 a0_2 a0_3
      go_wp2_with (first | ((with_reducible refine gate_dst (N := 12) rfl ?_); refine Kd.R_lit (Kd.int .u32) _ 22 ?hg (N := 12) ?hd (xs := ([a0_0] : List Int)) (inner := [.int .u32 a0_0]) (ok := fun _ => True) (okp := fun _ => True) ?hr ?hp (fun _ hk => hk) trivial (Below.refl _ _) (Nat.le_refl _) (by simp) ?_; (case hd => rfl); (case hg => rfl); (case hr => first | (go_simp; done) | (go_simp; rfl)); (case hp => exact (Reps.one (show Kd.M (Kd.int .u32) _ _ _ (a0_0) [.int .u32 (a0_0)] from rfl) (Reps.none _ _))); intro va wa ho hb hg_ hnew_; clear hg_ hnew_; have n0_ := Aside0.mk (below_step (by repeat (first | (with_reducible first | exact HB.out | apply below_alloc | apply pw_below_drewN | apply below_drew1) | exact HB.out)) hb); have HOa := Aside0.mk ho; clear HB; have HB := n0_; clear n0_ hb ho; obtain ⟨Aoa, coa, eoa⟩ := Kd.R_slice HOa.out; subst eoa) | ((go_at_call 45); (with_reducible refine (bytes_one _ _ a0_0 lo _ (Kd.R_reads' HOa.out).2.2 (Kd.R_reads' HOa.out).2.1 HL.out).mono ?_); rintro e w2 ⟨rfl, hb⟩; have n0_ := Aside0.mk (below_step (by repeat (first | (with_reducible first | exact HB.out | apply below_alloc | apply pw_below_drewN | apply below_drew1) | exact HB.out)) hb); clear HB HOa; have HB := n0_; clear n0_ hb))
      refine still_tail 8 (by kernel_rfl) (by kernel_rfl) ?_
      simp only [List.take_succ_cons, List.take_zero, List.drop_succ_cons, List.drop_zero]
      repeat still_step
      try refine wpStill_nil ?_
      rw [E3.out, E2.out, E1.out, E0.out]
      go_wp2_with (first | ((with_reducible refine gate_dst (N := 22) rfl ?_); refine Kd.R_lit (Kd.int .u8) _ 5 ?hg (N := 22) ?hd (xs := ([a0_0 / 16777216, a0_0 / 65536 % 256, a0_0 / 256 % 256, a0_0 % 256] : List Int)) (inner := [.int .u8 (a0_0 / 16777216), .int .u8 (a0_0 / 65536 % 256), .int .u8 (a0_0 / 256 % 256), .int .u8 (a0_0 % 256)]) (ok := fun _ => True) (okp := fun _ => True) ?hr ?hp (fun _ hk => hk) trivial (Below.refl _ _) (Nat.le_refl _) (by simp) ?_; (case hd => rfl); (case hg => rfl); (case hr => first | (go_simp; done) | (go_simp; rfl)); (case hp => exact (Reps.one (show Kd.M (Kd.int .u8) _ _ _ (a0_0 / 16777216) [.int .u8 (a0_0 / 16777216)] from rfl) (Reps.one (show Kd.M (Kd.int .u8) _ _ _ (a0_0 / 65536 % 256) [.int .u8 (a0_0 / 65536 % 256)] from rfl) (Reps.one (show Kd.M (Kd.int .u8) _ _ _ (a0_0 / 256 % 256) [.int .u8 (a0_0 / 256 % 256)] from rfl) (Reps.one (show Kd.M (Kd.int .u8) _ _ _ (a0_0 % 256) [.int .u8 (a0_0 % 256)] from rfl) (Reps.none _ _)))))); intro vb wb ho hb hg_ hnew_; clear hg_ hnew_; have n0_ := Aside0.mk (below_step (by repeat (first | (with_reducible first | exact HB.out | apply below_alloc | apply pw_below_drewN | apply below_drew1) | exact HB.out)) hb); have HOb := Aside0.mk ho; clear HB; have HB := n0_; clear n0_ hb ho; obtain ⟨Aob, cob, eob⟩ := Kd.R_slice HOb.out; subst eob; have hcv : (convert 41 9 (.slice Aob 4 cob)).run Tryd.prog wb = .ok (.string (strOfNums [a0_0 / 16777216, a0_0 / 65536 % 256, a0_0 / 256 % 256, a0_0 % 256])) wb := own_string (P := Tryd.prog) Tryd.underlying41 Tryd.underlying5 Tryd.underlying9 (Kd.own_of_R HOb.out)) | ((go_at_call 50); (with_reducible refine (hex_Text.calls _ ⟨(hexL (be4 a0_0)).toArray⟩ _ HH.out).mono ?_); rintro e w4 ⟨rfl, hb⟩; have n0_ := Aside0.mk (below_step (by repeat (first | (with_reducible first | exact HB.out | apply below_alloc | apply pw_below_drewN | apply below_drew1) | exact HB.out)) hb); clear HB hcv HOb; have HB := n0_; have HI4 := Aside0.mk (isBuilder_below HI.out HB.out); have HW4 := Aside0.mk (below_step HW.out HB.out); clear n0_ hb) | ((go_at_call 49); (with_reducible refine (write_string w.heap.size (w.heap.size + 1) _ ⟨(hexL (be4 a0_0)).toArray⟩ _ HI4.out HLN.out (below_size HW4.out)).mono ?_); rintro e w5 ⟨rfl, hx5, hb⟩; have n0_ := Aside0.mk (HW4.out.trans hb); have n1_ := Aside0.mk hx5; clear HW4 HI4; have HW5 := n0_; have HI5 := n1_; clear n0_ n1_ hb hx5))
      go_roundg 3
      case measure => omega
      case rel => exact ⟨1, by first | rfl | (simp; done), ⟨rfl⟩, ⟨show Lib.IsBuilder 68 5 w.heap.size (w.heap.size + 1) (Lib.byteCells (hexL (beL ([a0_0, a0_1, a0_2, a0_3].take 1)))) _ from .inr (by have h5 := HI5.out; simpa [beL, hexL, Lib.byteCells, Lib.strCells] using h5)⟩, HW5⟩
    · obtain rfl : gk = 2 + 1 := by have := HA.out; omega
      clear HA hi
      have hx := HS.out.2.1
      have HH := Aside0.mk (hex_be4 a0_1 hx)
      obtain ⟨lo, hl, HSZ, e0, e1, e2, e3⟩ := low_spec a0_1 hx
      have HL := Aside0.mk hl
      have E0 := Aside0.mk e0
      have E1 := Aside0.mk e1
      have E2 := Aside0.mk e2
      have E3 := Aside0.mk e3
      have hszi : (lo.size : Int) = 4 := by have := HSZ.out; omega
      clear hl e0 e1 e2 e3 hx
      have HLN := Aside0.mk (show (Lib.byteCells (hexL (beL ([a0_0, a0_1, a0_2, a0_3].take 1)))).length + (⟨(hexL (be4 a0_1)).toArray⟩ : ByteArray).size ≤ 140737488355328 by rw [Lib.byteCells_length, hexL_length, beL_length]; show 2 * (4 * 1) + (hexL (be4 a0_1)).length ≤ _; rw [hexL_length]; show 2 * (4 * 1) + 2 * 4 ≤ 140737488355328; decide)
      have HB := Aside0.mk (Below.refl wr.heap.size wr)
      have hix := ix24_1 wr a0_0 a0_1 a0_2 a0_3
      go_wp2_with (first | ((with_reducible refine gate_dst (N := 12) rfl ?_); refine Kd.R_lit (Kd.int .u32) _ 22 ?hg (N := 12) ?hd (xs := ([a0_1] : List Int)) (inner := [.int .u32 a0_1]) (ok := fun _ => True) (okp := fun _ => True) ?hr ?hp (fun _ hk => hk) trivial (Below.refl _ _) (Nat.le_refl _) (by simp) ?_; (case hd => rfl); (case hg => rfl); (case hr => first | (go_simp; done) | (go_simp; rfl)); (case hp => exact (Reps.one (show Kd.M (Kd.int .u32) _ _ _ (a0_1) [.int .u32 (a0_1)] from rfl) (Reps.none _ _))); intro va wa ho hb hg_ hnew_; clear hg_ hnew_; have n0_ := Aside0.mk (below_step (by repeat (first | (with_reducible first | exact HB.out | apply below_alloc | apply pw_below_drewN | apply below_drew1) | exact HB.out)) hb); have HOa := Aside0.mk ho; clear HB; have HB := n0_; clear n0_ hb ho; obtain ⟨Aoa, coa, eoa⟩ := Kd.R_slice HOa.out; subst eoa) | ((go_at_call 45); (with_reducible refine (bytes_one _ _ a0_1 lo _ (Kd.R_reads' HOa.out).2.2 (Kd.R_reads' HOa.out).2.1 HL.out).mono ?_); rintro e w2 ⟨rfl, hb⟩; have n0_ := Aside0.mk (below_step (by repeat (first | (with_reducible first | exact HB.out | apply below_alloc | apply pw_below_drewN | apply below_drew1) | exact HB.out)) hb); clear HB HOa; have HB := n0_; clear n0_ hb))
      refine still_tail 8 (by kernel_rfl) (by kernel_rfl) ?_
      simp only [List.take_succ_cons, List.take_zero, List.drop_succ_cons, List.drop_zero]
      repeat still_step
      try refine wpStill_nil ?_
      rw [E3.out, E2.out, E1.out, E0.out]
      go_wp2_with (first | ((with_reducible refine gate_dst (N := 22) rfl ?_); refine Kd.R_lit (Kd.int .u8) _ 5 ?hg (N := 22) ?hd (xs := ([a0_1 / 16777216, a0_1 / 65536 % 256, a0_1 / 256 % 256, a0_1 % 256] : List Int)) (inner := [.int .u8 (a0_1 / 16777216), .int .u8 (a0_1 / 65536 % 256), .int .u8 (a0_1 / 256 % 256), .int .u8 (a0_1 % 256)]) (ok := fun _ => True) (okp := fun _ => True) ?hr ?hp (fun _ hk => hk) trivial (Below.refl _ _) (Nat.le_refl _) (by simp) ?_; (case hd => rfl); (case hg => rfl); (case hr => first | (go_simp; done) | (go_simp; rfl)); (case hp => exact (Reps.one (show Kd.M (Kd.int .u8) _ _ _ (a0_1 / 16777216) [.int .u8 (a0_1 / 16777216)] from rfl) (Reps.one (show Kd.M (Kd.int .u8) _ _ _ (a0_1 / 65536 % 256) [.int .u8 (a0_1 / 65536 % 256)] from rfl) (Reps.one (show Kd.M (Kd.int .u8) _ _ _ (a0_1 / 256 % 256) [.int .u8 (a0_1 / 256 % 256)] from rfl) (Reps.one (show Kd.M (Kd.int .u8) _ _ _ (a0_1 % 256) [.int .u8 (a0_1 % 256)] from rfl) (Reps.none _ _)))))); intro vb wb ho hb hg_ hnew_; clear hg_ hnew_; have n0_ := Aside0.mk (below_step (by repeat (first | (with_reducible first | exact HB.out | apply below_alloc | apply pw_below_drewN | apply below_drew1) | exact HB.out)) hb); have HOb := Aside0.mk ho; clear HB; have HB := n0_; clear n0_ hb ho; obtain ⟨Aob, cob, eob⟩ := Kd.R_slice HOb.out; subst eob; have hcv : (convert 41 9 (.slice Aob 4 cob)).run Tryd.prog wb = .ok (.string (strOfNums [a0_1 / 16777216, a0_1 / 65536 % 256, a0_1 / 256 % 256, a0_1 % 256])) wb := own_string (P := Tryd.prog) Tryd.underlying41 Tryd.underlying5 Tryd.underlying9 (Kd.own_of_R HOb.out)) | ((go_at_call 50); (with_reducible refine (hex_Text.calls _ ⟨(hexL (be4 a0_1)).toArray⟩ _ HH.out).mono ?_); rintro e w4 ⟨rfl, hb⟩; have n0_ := Aside0.mk (below_step (by repeat (first | (with_reducible first | exact HB.out | apply below_alloc | apply pw_below_drewN | apply below_drew1) | exact HB.out)) hb); clear HB hcv HOb; have HB := n0_; have HI4 := Aside0.mk (isBuilder_below HI.out HB.out); have HW4 := Aside0.mk (below_step HW.out HB.out); clear n0_ hb) | ((go_at_call 49); (with_reducible refine (write_string w.heap.size (w.heap.size + 1) _ ⟨(hexL (be4 a0_1)).toArray⟩ _ HI4.out HLN.out (below_size HW4.out)).mono ?_); rintro e w5 ⟨rfl, hx5, hb⟩; have n0_ := Aside0.mk (HW4.out.trans hb); have n1_ := Aside0.mk hx5; clear HW4 HI4; have HW5 := n0_; have HI5 := n1_; clear n0_ n1_ hb hx5))
      go_roundg 2
      case measure => omega
      case rel => exact ⟨2, by first | rfl | (simp; done), ⟨rfl⟩, ⟨show Lib.IsBuilder 68 5 w.heap.size (w.heap.size + 1) (Lib.byteCells (hexL (beL ([a0_0, a0_1, a0_2, a0_3].take 2)))) _ from .inr (by have h5 := HI5.out; simpa [beL, hexL, Lib.byteCells, Lib.strCells] using h5)⟩, HW5⟩
    · obtain rfl : gk = 1 + 1 := by have := HA.out; omega
      clear HA hi
      have hx := HS.out.2.2.1
      have HH := Aside0.mk (hex_be4 a0_2 hx)
      obtain ⟨lo, hl, HSZ, e0, e1, e2, e3⟩ := low_spec a0_2 hx
      have HL := Aside0.mk hl
      have E0 := Aside0.mk e0
      have E1 := Aside0.mk e1
      have E2 := Aside0.mk e2
      have E3 := Aside0.mk e3
      have hszi : (lo.size : Int) = 4 := by have := HSZ.out; omega
      clear hl e0 e1 e2 e3 hx
      have HLN := Aside0.mk (show (Lib.byteCells (hexL (beL ([a0_0, a0_1, a0_2, a0_3].take 2)))).length + (⟨(hexL (be4 a0_2)).toArray⟩ : ByteArray).size ≤ 140737488355328 by rw [Lib.byteCells_length, hexL_length, beL_length]; show 2 * (4 * 2) + (hexL (be4 a0_2)).length ≤ _; rw [hexL_length]; show 2 * (4 * 2) + 2 * 4 ≤ 140737488355328; decide)
      have HB := Aside0.mk (Below.refl wr.heap.size wr)
      have hix := ix24_2 wr a0_0 a0_1 a0_2 a0_3
      go_wp2_with (first | ((with_reducible refine gate_dst (N := 12) rfl ?_); refine Kd.R_lit (Kd.int .u32) _ 22 ?hg (N := 12) ?hd (xs := ([a0_2] : List Int)) (inner := [.int .u32 a0_2]) (ok := fun _ => True) (okp := fun _ => True) ?hr ?hp (fun _ hk => hk) trivial (Below.refl _ _) (Nat.le_refl _) (by simp) ?_; (case hd => rfl); (case hg => rfl); (case hr => first | (go_simp; done) | (go_simp; rfl)); (case hp => exact (Reps.one (show Kd.M (Kd.int .u32) _ _ _ (a0_2) [.int .u32 (a0_2)] from rfl) (Reps.none _ _))); intro va wa ho hb hg_ hnew_; clear hg_ hnew_; have n0_ := Aside0.mk (below_step (by repeat (first | (with_reducible first | exact HB.out | apply below_alloc | apply pw_below_drewN | apply below_drew1) | exact HB.out)) hb); have HOa := Aside0.mk ho; clear HB; have HB := n0_; clear n0_ hb ho; obtain ⟨Aoa, coa, eoa⟩ := Kd.R_slice HOa.out; subst eoa) | ((go_at_call 45); (with_reducible refine (bytes_one _ _ a0_2 lo _ (Kd.R_reads' HOa.out).2.2 (Kd.R_reads' HOa.out).2.1 HL.out).mono ?_); rintro e w2 ⟨rfl, hb⟩; have n0_ := Aside0.mk (below_step (by repeat (first | (with_reducible first | exact HB.out | apply below_alloc | apply pw_below_drewN | apply below_drew1) | exact HB.out)) hb); clear HB HOa; have HB := n0_; clear n0_ hb))
      refine still_tail 8 (by kernel_rfl) (by kernel_rfl) ?_
      simp only [List.take_succ_cons, List.take_zero, List.drop_succ_cons, List.drop_zero]
      repeat still_step
      try refine wpStill_nil ?_
      rw [E3.out, E2.out, E1.out, E0.out]
      go_wp2_with (first | ((with_reducible refine gate_dst (N := 22) rfl ?_); refine Kd.R_lit (Kd.int .u8) _ 5 ?hg (N := 22) ?hd (xs := ([a0_2 / 16777216, a0_2 / 65536 % 256, a0_2 / 256 % 256, a0_2 % 256] : List Int)) (inner := [.int .u8 (a0_2 / 16777216), .int .u8 (a0_2 / 65536 % 256), .int .u8 (a0_2 / 256 % 256), .int .u8 (a0_2 % 256)]) (ok := fun _ => True) (okp := fun _ => True) ?hr ?hp (fun _ hk => hk) trivial (Below.refl _ _) (Nat.le_refl _) (by simp) ?_; (case hd => rfl); (case hg => rfl); (case hr => first | (go_simp; done) | (go_simp; rfl)); (case hp => exact (Reps.one (show Kd.M (Kd.int .u8) _ _ _ (a0_2 / 16777216) [.int .u8 (a0_2 / 16777216)] from rfl) (Reps.one (show Kd.M (Kd.int .u8) _ _ _ (a0_2 / 65536 % 256) [.int .u8 (a0_2 / 65536 % 256)] from rfl) (Reps.one (show Kd.M (Kd.int .u8) _ _ _ (a0_2 / 256 % 256) [.int .u8 (a0_2 / 256 % 256)] from rfl) (Reps.one (show Kd.M (Kd.int .u8) _ _ _ (a0_2 % 256) [.int .u8 (a0_2 % 256)] from rfl) (Reps.none _ _)))))); intro vb wb ho hb hg_ hnew_; clear hg_ hnew_; have n0_ := Aside0.mk (below_step (by repeat (first | (with_reducible first | exact HB.out | apply below_alloc | apply pw_below_drewN | apply below_drew1) | exact HB.out)) hb); have HOb := Aside0.mk ho; clear HB; have HB := n0_; clear n0_ hb ho; obtain ⟨Aob, cob, eob⟩ := Kd.R_slice HOb.out; subst eob; have hcv : (convert 41 9 (.slice Aob 4 cob)).run Tryd.prog wb = .ok (.string (strOfNums [a0_2 / 16777216, a0_2 / 65536 % 256, a0_2 / 256 % 256, a0_2 % 256])) wb := own_string (P := Tryd.prog) Tryd.underlying41 Tryd.underlying5 Tryd.underlying9 (Kd.own_of_R HOb.out)) | ((go_at_call 50); (with_reducible refine (hex_Text.calls _ ⟨(hexL (be4 a0_2)).toArray⟩ _ HH.out).mono ?_); rintro e w4 ⟨rfl, hb⟩; have n0_ := Aside0.mk (below_step (by repeat (first | (with_reducible first | exact HB.out | apply below_alloc | apply pw_below_drewN | apply below_drew1) | exact HB.out)) hb); clear HB hcv HOb; have HB := n0_; have HI4 := Aside0.mk (isBuilder_below HI.out HB.out); have HW4 := Aside0.mk (below_step HW.out HB.out); clear n0_ hb) | ((go_at_call 49); (with_reducible refine (write_string w.heap.size (w.heap.size + 1) _ ⟨(hexL (be4 a0_2)).toArray⟩ _ HI4.out HLN.out (below_size HW4.out)).mono ?_); rintro e w5 ⟨rfl, hx5, hb⟩; have n0_ := Aside0.mk (HW4.out.trans hb); have n1_ := Aside0.mk hx5; clear HW4 HI4; have HW5 := n0_; have HI5 := n1_; clear n0_ n1_ hb hx5))
      go_roundg 1
      case measure => omega
      case rel => exact ⟨3, by first | rfl | (simp; done), ⟨rfl⟩, ⟨show Lib.IsBuilder 68 5 w.heap.size (w.heap.size + 1) (Lib.byteCells (hexL (beL ([a0_0, a0_1, a0_2, a0_3].take 3)))) _ from .inr (by have h5 := HI5.out; simpa [beL, hexL, Lib.byteCells, Lib.strCells] using h5)⟩, HW5⟩
    · obtain rfl : gk = 0 + 1 := by have := HA.out; omega
      clear HA hi
      have hx := HS.out.2.2.2
      have HH := Aside0.mk (hex_be4 a0_3 hx)
      obtain ⟨lo, hl, HSZ, e0, e1, e2, e3⟩ := low_spec a0_3 hx
      have HL := Aside0.mk hl
      have E0 := Aside0.mk e0
      have E1 := Aside0.mk e1
      have E2 := Aside0.mk e2
      have E3 := Aside0.mk e3
      have hszi : (lo.size : Int) = 4 := by have := HSZ.out; omega
      clear hl e0 e1 e2 e3 hx
      have HLN := Aside0.mk (show (Lib.byteCells (hexL (beL ([a0_0, a0_1, a0_2, a0_3].take 3)))).length + (⟨(hexL (be4 a0_3)).toArray⟩ : ByteArray).size ≤ 140737488355328 by rw [Lib.byteCells_length, hexL_length, beL_length]; show 2 * (4 * 3) + (hexL (be4 a0_3)).length ≤ _; rw [hexL_length]; show 2 * (4 * 3) + 2 * 4 ≤ 140737488355328; decide)
      have HB := Aside0.mk (Below.refl wr.heap.size wr)
      have hix := ix24_3 wr a0_0 a0_1 a0_2 a0_3
      go_wp2_with (first | ((with_reducible refine gate_dst (N := 12) rfl ?_); refine Kd.R_lit (Kd.int .u32) _ 22 ?hg (N := 12) ?hd (xs := ([a0_3] : List Int)) (inner := [.int .u32 a0_3]) (ok := fun _ => True) (okp := fun _ => True) ?hr ?hp (fun _ hk => hk) trivial (Below.refl _ _) (Nat.le_refl _) (by simp) ?_; (case hd => rfl); (case hg => rfl); (case hr => first | (go_simp; done) | (go_simp; rfl)); (case hp => exact (Reps.one (show Kd.M (Kd.int .u32) _ _ _ (a0_3) [.int .u32 (a0_3)] from rfl) (Reps.none _ _))); intro va wa ho hb hg_ hnew_; clear hg_ hnew_; have n0_ := Aside0.mk (below_step (by repeat (first | (with_reducible first | exact HB.out | apply below_alloc | apply pw_below_drewN | apply below_drew1) | exact HB.out)) hb); have HOa := Aside0.mk ho; clear HB; have HB := n0_; clear n0_ hb ho; obtain ⟨Aoa, coa, eoa⟩ := Kd.R_slice HOa.out; subst eoa) | ((go_at_call 45); (with_reducible refine (bytes_one _ _ a0_3 lo _ (Kd.R_reads' HOa.out).2.2 (Kd.R_reads' HOa.out).2.1 HL.out).mono ?_); rintro e w2 ⟨rfl, hb⟩; have n0_ := Aside0.mk (below_step (by repeat (first | (with_reducible first | exact HB.out | apply below_alloc | apply pw_below_drewN | apply below_drew1) | exact HB.out)) hb); clear HB HOa; have HB := n0_; clear n0_ hb))
      refine still_tail 8 (by kernel_rfl) (by kernel_rfl) ?_
      simp only [List.take_succ_cons, List.take_zero, List.drop_succ_cons, List.drop_zero]
      repeat still_step
      try refine wpStill_nil ?_
      rw [E3.out, E2.out, E1.out, E0.out]
      go_wp2_with (first | ((with_reducible refine gate_dst (N := 22) rfl ?_); refine Kd.R_lit (Kd.int .u8) _ 5 ?hg (N := 22) ?hd (xs := ([a0_3 / 16777216, a0_3 / 65536 % 256, a0_3 / 256 % 256, a0_3 % 256] : List Int)) (inner := [.int .u8 (a0_3 / 16777216), .int .u8 (a0_3 / 65536 % 256), .int .u8 (a0_3 / 256 % 256), .int .u8 (a0_3 % 256)]) (ok := fun _ => True) (okp := fun _ => True) ?hr ?hp (fun _ hk => hk) trivial (Below.refl _ _) (Nat.le_refl _) (by simp) ?_; (case hd => rfl); (case hg => rfl); (case hr => first | (go_simp; done) | (go_simp; rfl)); (case hp => exact (Reps.one (show Kd.M (Kd.int .u8) _ _ _ (a0_3 / 16777216) [.int .u8 (a0_3 / 16777216)] from rfl) (Reps.one (show Kd.M (Kd.int .u8) _ _ _ (a0_3 / 65536 % 256) [.int .u8 (a0_3 / 65536 % 256)] from rfl) (Reps.one (show Kd.M (Kd.int .u8) _ _ _ (a0_3 / 256 % 256) [.int .u8 (a0_3 / 256 % 256)] from rfl) (Reps.one (show Kd.M (Kd.int .u8) _ _ _ (a0_3 % 256) [.int .u8 (a0_3 % 256)] from rfl) (Reps.none _ _)))))); intro vb wb ho hb hg_ hnew_; clear hg_ hnew_; have n0_ := Aside0.mk (below_step (by repeat (first | (with_reducible first | exact HB.out | apply below_alloc | apply pw_below_drewN | apply below_drew1) | exact HB.out)) hb); have HOb := Aside0.mk ho; clear HB; have HB := n0_; clear n0_ hb ho; obtain ⟨Aob, cob, eob⟩ := Kd.R_slice HOb.out; subst eob; have hcv : (convert 41 9 (.slice Aob 4 cob)).run Tryd.prog wb = .ok (.string (strOfNums [a0_3 / 16777216, a0_3 / 65536 % 256, a0_3 / 256 % 256, a0_3 % 256])) wb := own_string (P := Tryd.prog) Tryd.underlying41 Tryd.underlying5 Tryd.underlying9 (Kd.own_of_R HOb.out)) | ((go_at_call 50); (with_reducible refine (hex_Text.calls _ ⟨(hexL (be4 a0_3)).toArray⟩ _ HH.out).mono ?_); rintro e w4 ⟨rfl, hb⟩; have n0_ := Aside0.mk (below_step (by repeat (first | (with_reducible first | exact HB.out | apply below_alloc | apply pw_below_drewN | apply below_drew1) | exact HB.out)) hb); clear HB hcv HOb; have HB := n0_; have HI4 := Aside0.mk (isBuilder_below HI.out HB.out); have HW4 := Aside0.mk (below_step HW.out HB.out); clear n0_ hb) | ((go_at_call 49); (with_reducible refine (write_string w.heap.size (w.heap.size + 1) _ ⟨(hexL (be4 a0_3)).toArray⟩ _ HI4.out HLN.out (below_size HW4.out)).mono ?_); rintro e w5 ⟨rfl, hx5, hb⟩; have n0_ := Aside0.mk (HW4.out.trans hb); have n1_ := Aside0.mk hx5; clear HW4 HI4; have HW5 := n0_; have HI5 := n1_; clear n0_ n1_ hb hx5))
      go_roundg 0
      case measure => omega
      case rel => exact ⟨4, by first | rfl | (simp; done), ⟨rfl⟩, ⟨show Lib.IsBuilder 68 5 w.heap.size (w.heap.size + 1) (Lib.byteCells (hexL (beL ([a0_0, a0_1, a0_2, a0_3].take 4)))) _ from .inr (by have h5 := HI5.out; simpa [beL, hexL, Lib.byteCells, Lib.strCells] using h5)⟩, HW5⟩
    · clear HA hi
      go_wp2_with (go_at_call 51; refine (Any.Builder_String_any { Tryd.lays105 with } Tryd.Builder_Extra_105 w.heap.size (w.heap.size + 1) _ _ HI.out (below_size HW.out)).mono ?_)
      rintro e w1 ⟨rfl, hb⟩
      have HB1 := Aside0.mk (HW.out.trans hb)
      clear hb HW
      go_wp2
      go_ret
      exact ⟨by rw [HR.out]; rfl, HB1.out⟩


end

end Go.Proofs.YthimgiphlenjdaaDoor.PI
