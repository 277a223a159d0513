/- Contracts of the Go functions of this seat, each over a Lean function of the same answers; written by a program of this session's. -/
import Derived.Test.YthimgiphlenjdaaDoorPIx0
import Derived.Test.YthimgiphlenjdaaDoorHWords
import Derived.Test.YthimgiphlenjdaaDoorF73
namespace Go.Proofs.YthimgiphlenjdaaDoor.PI
open Go.RowKit Go.Proofs.YthimgiphlenjdaaDoorW.PrintWords Go.Proofs.YthimgiphlenjdaaDoorW.PrintLast Go.Proofs.YthimgiphlenjdaaDoorW.PrintMore
attribute [local go_sem] max2_int min2_int max_two min_two max_three min_three max_four min_four   -- for this text's walks alone
open HX
set_option linter.unusedVariables false
set_option linter.unusedSimpArgs false

/-! ### hex_Parse: function 48 -/
def hex_Parse.l0 : Nat → ByteArray → List Int → Int → Int → Option (ByteArray × Int × Int)
  | 0, _, _, _, _ => none
  | k + 1, x0, x5, x13, x14 => if x14 < x13 then (if 0 ≤ x14 then (if x14 < (x0.size : Int) then ((hex_value.f k (bt x0 x14)).bind fun t127 => (if t127 = 255 then (some ((⟨#[]⟩ : ByteArray), x14, 3)) else (if (Int.tmod x14 2) = 0 then (if x5.length < 140737488355328 then (hex_Parse.l0 k x0 (x5 ++ [(t127 * 16) % 256]) x13 (wrap64 (x14 + 1))) else (none)) else (if 0 ≤ (wrap64 (Int.tdiv x14 2)) then (if (wrap64 (Int.tdiv x14 2)) < (x5.length : Int) then (hex_Parse.l0 k x0 (x5.set ((wrap64 (Int.tdiv x14 2)) : Int).toNat (Go.bits .or .u8 (rd x5 (wrap64 (Int.tdiv x14 2))) t127)) x13 (wrap64 (x14 + 1))) else (none)) else (none))))) else (none)) else (none)) else (if ((x0.size : Int) % 2) = 1 then (some ((⟨#[]⟩ : ByteArray), (x0.size : Int), 3)) else (some (strOfNums x5, 0, 0)))
def hex_Parse.f (k : Nat) (a0 : ByteArray) : Option (ByteArray × Int × Int) := if a0.size ≤ 140737488355328 then (hex_Parse.l0 k a0 ([] : List Int) (a0.size : Int) 0) else none
theorem hex_Parse.mono_l : ∀ k, (∀ y0 y1 y2 y3, LeO (hex_Parse.l0 k y0 y1 y2 y3) (hex_Parse.l0 (k + 1) y0 y1 y2 y3))
  | 0 => fun _ _ _ _ r h => by simp [hex_Parse.l0] at h
  | k + 1 => by
    have ih0 := hex_Parse.mono_l k
    · intro y0 y1 y2 y3
      unfold hex_Parse.l0
      repeat' first
      | (with_reducible exact ih0 _ _ _ _)
      | (with_reducible exact hex_value.mono _ _)
      | (with_reducible exact LeO.refl _)
      | (with_reducible exact LeO.none _)
      | (with_reducible refine LeO.ite ?_ ?_)
      | (with_reducible refine LeO.bind ?_ (fun _ => ?_))
      | exact ih0 _ _ _ _
      | exact hex_value.mono _ _
      | exact LeO.none _
      | refine LeO.ite ?_ ?_
      | refine LeO.bind ?_ (fun _ => ?_)
theorem hex_Parse.mono : ∀ a0 k, LeO (hex_Parse.f k a0) (hex_Parse.f (k + 1) a0) := by
  intro a0 k
  have ih0 := hex_Parse.mono_l k
  unfold hex_Parse.f
  repeat' first
      | (with_reducible exact ih0 _ _ _ _)
      | (with_reducible exact hex_value.mono _ _)
      | (with_reducible exact LeO.refl _)
      | (with_reducible exact LeO.none _)
      | (with_reducible refine LeO.ite ?_ ?_)
      | (with_reducible refine LeO.bind ?_ (fun _ => ?_))
      | exact ih0 _ _ _ _
      | exact hex_value.mono _ _
      | exact LeO.none _
      | refine LeO.ite ?_ ?_
      | refine LeO.bind ?_ (fun _ => ?_)
set_option maxHeartbeats 8000000 in
set_option maxRecDepth 100000 in
theorem hex_Parse.calls (k : Nat) (a0 : ByteArray) (r1 : ByteArray) (r2 : Int) (r3 : Int) (w : World) (h : hex_Parse.f k a0 = some (r1, r2, r3)) :
    Calls Tryd.prog 48 #[.string a0] w fun e w' => e = .returned (.tuple #[.string r1, .int .i64 r2, .int .i64 r3]) ∧ Below w.heap.size w w' := by
  have HB := Aside0.mk (Below.refl w.heap.size w)
  have hcap : a0.size ≤ 140737488355328 := by
    unfold hex_Parse.f at h
    split at h
    · assumption
    · cases h
  unfold hex_Parse.f at h
  rw [if_pos hcap] at h
  have hb1 : 0 ≤ (a0.size : Int) / 2 := by omega
  have hb2 : ((a0.size : Int) / 2).toNat * 1 ≤ 281474976710656 := by omega
  have HCAP := Aside0.mk hb2
  have HCAQ := Aside0.mk hb1
  clear hb1 hb2
  have H : (hex_Parse.l0 k a0 ([] : List Int) (a0.size : Int) 0) = some (r1, r2, r3) := h
  clear h
  have H' := Aside0.mk H
  clear H
  go_enter Tryd.func48, Tryd.ntmps48
  go_wp2_with (at_make; refine HX.R_mk0 (Kd.int .u8) (w0 := w) w.heap.size 5 rfl 41 _ _ rfl ((a0.size : Int) / 2) rfl rfl Tryd.underlying41 (.int .u8 0) 1 info5 (by decide) (ok := fun _ => True) trivial HCAQ.out HCAP.out (Below.refl _ _) (Nat.le_refl _) ?_; intro v1 w1 hm1 hb3 hg3; have HM := Aside0.mk hm1; have HBM := Aside0.mk hb3; clear hm1 hb3 hg3)
  go_loopg [5, 14] k (fun kq v5 v14 w' => ∃ (x5_1 : List Int) (x14_1 : Int), v14 = .int .i64 x14_1 ∧ Aside0 (hex_Parse.l0 kq a0 x5_1 (a0.size : Int) x14_1 = some (r1, r2, r3)) ∧ Aside0 (kq ≤ k) ∧ Aside0 (Kd.R (Kd.int .u8) 5 w' w.heap.size (fun _ => True) v5 x5_1) ∧ Aside0 (Below w.heap.size w w'))
  case atStart => exact ⟨(([] : List Int)), (0), (by first | rfl | (simp; done) | (simp [*]; done)), H', ⟨Nat.le_refl _⟩, ⟨by exact HM.out⟩, ⟨by exact HBM.out⟩⟩
  case round =>
    clear H' HM HBM HCAP HCAQ
    try clear hcap
    obtain ⟨x5_1, x14_1, rfl, HA, HK1, HO_5, HB⟩ := hrel
    cases gk with
    | zero => exact absurd HA.out (by simp [hex_Parse.l0])
    | succ k1 =>
      have H := HA.out
      clear HA
      simp only [hex_Parse.l0] at H
      by_cases c2 : x14_1 < (a0.size : Int)
      · rw [if_pos c2] at H
        have c2b0 : decide (x14_1 < (a0.size : Int)) = true := decide_eq_true c2
        clear c2
        by_cases c3 : 0 ≤ x14_1
        · rw [if_pos c3] at H
          have c3b0 : decide (0 ≤ x14_1) = true := decide_eq_true c3
          clear c3
          by_cases c4 : x14_1 < (a0.size : Int)
          · rw [if_pos c4] at H
            have c4b0 : decide (x14_1 < (a0.size : Int)) = true := decide_eq_true c4
            clear c4
            replace H := Option.bind_eq_some_iff.mp H
            obtain ⟨t127, A60, H⟩ := H
            replace H : (if t127 = 255 then (some ((⟨#[]⟩ : ByteArray), x14_1, 3)) else (if (Int.tmod x14_1 2) = 0 then (if x5_1.length < 140737488355328 then (hex_Parse.l0 k1 a0 (x5_1 ++ [(t127 * 16) % 256]) (a0.size : Int) (wrap64 (x14_1 + 1))) else (none)) else (if 0 ≤ (wrap64 (Int.tdiv x14_1 2)) then (if (wrap64 (Int.tdiv x14_1 2)) < (x5_1.length : Int) then (hex_Parse.l0 k1 a0 (x5_1.set ((wrap64 (Int.tdiv x14_1 2)) : Int).toNat (Go.bits .or .u8 (rd x5_1 (wrap64 (Int.tdiv x14_1 2))) t127)) (a0.size : Int) (wrap64 (x14_1 + 1))) else (none)) else (none)))) = some (r1, r2, r3) := H
            have A6 := Aside0.mk A60
            clear A60
            by_cases c7 : t127 = 255
            · rw [if_pos c7] at H
              have c7b0 : (t127 == 255) = true := beq_iff_eq.mpr c7
              have c7b1 : (t127 != 255) = false := bne_eq_false_iff_eq.mpr c7
              clear c7
              simp only [Option.some.injEq, Prod.mk.injEq] at H
              obtain ⟨rfl, rfl, rfl⟩ := H
              have p5 : 0 ≤ (x14_1 : Int) := of_decide_eq_true (by first | (with_reducible assumption) | assumption)
              have q5 : x14_1 < (a0.size : Int) := of_decide_eq_true (by first | (with_reducible assumption) | assumption)
              have hx5 := bt_at a0 x14_1
              replace p5 := eq_true p5
              replace q5 := eq_true q5
              go_wp2_with (first | ((with_reducible refine gate_callee (f := 73) rfl ?_); refine goesL_ (some 20) rfl rfl Tryd.func73 (by kernel_rfl) rfl #[.int .u8 (bt a0 x14_1)] rfl (by (try simp only [List.map_toArray, List.map_cons, List.map_nil]); first | done | rfl | (simp only [List.length_drop, List.length_take]; rfl)) ?_; (with_reducible refine (hex_value.calls k1 (bt a0 x14_1) t127 _ A6.out).mono ?_); rintro e w' ⟨rfl, ⟨nd, rfl⟩⟩; refine ⟨_, rfl, ?_⟩))
              go_ret3
              exact ⟨by first | rfl | (simp [errW_none, errW_some] <;> rfl) | (simp [*, errW_none, errW_some] <;> rfl), by repeat (first | (with_reducible first | exact HB.out | apply below_alloc | apply pw_below_drewN | apply below_drew1) | exact HB.out)⟩
            · rw [if_neg c7] at H
              have c7b0 : (t127 == 255) = false := beq_eq_false_iff_ne.mpr c7
              have c7b1 : (t127 != 255) = true := bne_iff_ne.mpr c7
              by_cases c8 : (Int.tmod x14_1 2) = 0
              · rw [if_pos c8] at H
                have c8b0 : ((Int.tmod x14_1 2) == 0) = true := beq_iff_eq.mpr c8
                have c8b1 : ((Int.tmod x14_1 2) != 0) = false := bne_eq_false_iff_eq.mpr c8
                clear c8
                by_cases c9 : x5_1.length < 140737488355328
                · rw [if_pos c9] at H
                  have LMc9 := Aside0.mk c9
                  clear c9
                  obtain ⟨y128, hy128⟩ : ∃ y_ : List Int, y_ = (x5_1 ++ [(t127 * 16) % 256]) := ⟨_, rfl⟩
                  replace H : (hex_Parse.l0 k1 a0 y128 (a0.size : Int) (wrap64 (x14_1 + 1))) = some (r1, r2, r3) := by first | (rw [hy128]; with_reducible exact H) | (have H2_ := (Option.bind_some _ _).symm.trans H; rw [hy128]; with_reducible exact H2_) | (have H2_ := (Option.bind_some _ _).symm.trans H; with_reducible exact H2_) | with_reducible exact H | (rw [hy128]; exact H) | exact H
                  have Ny128 := Aside0.mk hy128
                  clear hy128
                  have H' := Aside0.mk H
                  clear H
                  have p5 : 0 ≤ (x14_1 : Int) := of_decide_eq_true (by first | (with_reducible assumption) | assumption)
                  have q5 : x14_1 < (a0.size : Int) := of_decide_eq_true (by first | (with_reducible assumption) | assumption)
                  have hx5 := bt_at a0 x14_1
                  replace p5 := eq_true p5
                  replace q5 := eq_true q5
                  go_wp2_with (first | ((with_reducible refine gate_callee (f := 73) rfl ?_); refine goesL_ (some 20) rfl rfl Tryd.func73 (by kernel_rfl) rfl #[.int .u8 (bt a0 x14_1)] rfl (by (try simp only [List.map_toArray, List.map_cons, List.map_nil]); first | done | rfl | (simp only [List.length_drop, List.length_take]; rfl)) ?_; (with_reducible refine (hex_value.calls k1 (bt a0 x14_1) t127 _ A6.out).mono ?_); rintro e w' ⟨rfl, ⟨nd, rfl⟩⟩; refine ⟨_, rfl, ?_⟩) | ((with_reducible refine gate_builtin (b := .append) (xs := #[.tmp 27, .tmp 30]) rfl ?_); at_builtin; refine Kd.R_append (Kd.int .u8) (w0 := w) w.heap.size rfl (.tmp 27) (.tmp 30) 41 5 (.int .u8 0) 1 rfl Tryd.underlying41 info5 rfl (by decide) (by omega) u5 x5_1 ((t127 * 16) % 256) [.int .u8 ((t127 * 16) % 256)] (fun _ => True) (fun _ => False) rfl rfl ?aP (fun _ hk => hk.elim) ?aF ?aO ?aB ?aS ?aL ?_; (case aP => exact rfl); (case aB => exact (by repeat (first | (with_reducible first | exact HB.out | apply below_alloc | apply pw_below_drewN | apply below_drew1) | exact HB.out))); (case aF => exact (fun _ _ => trivial)); (case aO => exact (by (with_reducible repeat (first | apply Kd.R_alloc | apply Kd.R_drewN | apply Kd.R_drew)); exact HO_5.out)); (case aS => exact (below_size (by repeat (first | (with_reducible first | exact HB.out | apply below_alloc | apply pw_below_drewN | apply below_drew1) | exact HB.out)))); (case aL => have := LMc9.out; omega); intro v129 w10 ho hb hg hat; rw [← Ny128.out] at ho; have n0_ := Aside0.mk (hb); have n1_ := Aside0.mk (ho); clear HB; clear HO_5; have HB := n0_; have HO130 := n1_; clear n0_ n1_; clear ho hb hg hat))
                  go_roundg k1
                  case measure => have := HK1.out; omega
                  case rel => exact ⟨(y128), (wrap64 (x14_1 + 1)), (by first | rfl | (simp; done) | (simp [*]; done)), H', ⟨by have := HK1.out; omega⟩, ⟨by (with_reducible repeat (first | apply Kd.R_alloc | apply Kd.R_drewN | apply Kd.R_drew)); exact HO130.out⟩, ⟨by repeat (first | (with_reducible first | exact HB.out | apply below_alloc | apply pw_below_drewN | apply below_drew1) | exact HB.out)⟩⟩
                · rw [if_neg c9] at H
                  exact absurd H (by simp)
              · rw [if_neg c8] at H
                have c8b0 : ((Int.tmod x14_1 2) == 0) = false := beq_eq_false_iff_ne.mpr c8
                have c8b1 : ((Int.tmod x14_1 2) != 0) = true := bne_iff_ne.mpr c8
                obtain ⟨ji11, hji11⟩ : ∃ j_ : Int, (wrap64 (Int.tdiv x14_1 2)) = j_ := ⟨_, rfl⟩
                replace H : (if 0 ≤ (ji11) then (if (ji11) < (x5_1.length : Int) then (hex_Parse.l0 k1 a0 (x5_1.set ((ji11) : Int).toNat (Go.bits .or .u8 (rd x5_1 (ji11)) t127)) (a0.size : Int) (wrap64 (x14_1 + 1))) else (none)) else (none)) = some (r1, r2, r3) := by first | (rw [hji11] at H; exact H) | (simp only [hji11] at H ⊢; exact H)
                (try rw [hji11] at A6)
                have hji11w : (IntKind.i64.wrap (Int.tdiv x14_1 2)) = ji11 := (i64_w _).trans hji11
                by_cases c12 : 0 ≤ (ji11)
                · rw [if_pos c12] at H
                  have c12b0 : decide (0 ≤ (ji11)) = true := decide_eq_true c12
                  clear c12
                  by_cases c13 : (ji11) < (x5_1.length : Int)
                  · rw [if_pos c13] at H
                    have c13b0 : decide ((ji11) < (x5_1.length : Int)) = true := decide_eq_true c13
                    clear c13
                    obtain ⟨y132, hy132⟩ : ∃ y_ : List Int, y_ = (x5_1.set ((ji11) : Int).toNat (Go.bits .or .u8 (rd x5_1 (ji11)) t127)) := ⟨_, rfl⟩
                    replace H : (hex_Parse.l0 k1 a0 y132 (a0.size : Int) (wrap64 (x14_1 + 1))) = some (r1, r2, r3) := by first | (rw [hy132]; with_reducible exact H) | (have H2_ := (Option.bind_some _ _).symm.trans H; rw [hy132]; with_reducible exact H2_) | (have H2_ := (Option.bind_some _ _).symm.trans H; with_reducible exact H2_) | with_reducible exact H | (rw [hy132]; exact H) | exact H
                    have Ny132 := Aside0.mk hy132
                    clear hy132
                    have H' := Aside0.mk H
                    clear H
                    have p5 : 0 ≤ (x14_1 : Int) := of_decide_eq_true (by first | (with_reducible assumption) | assumption)
                    have q5 : x14_1 < (a0.size : Int) := of_decide_eq_true (by first | (with_reducible assumption) | assumption)
                    have hx5 := bt_at a0 x14_1
                    replace p5 := eq_true p5
                    replace q5 := eq_true q5
                    go_wp2_with (first | ((with_reducible refine gate_callee (f := 73) rfl ?_); refine goesL_ (some 20) rfl rfl Tryd.func73 (by kernel_rfl) rfl #[.int .u8 (bt a0 x14_1)] rfl (by (try simp only [List.map_toArray, List.map_cons, List.map_nil]); first | done | rfl | (simp only [List.length_drop, List.length_take]; rfl)) ?_; (with_reducible refine (hex_value.calls k1 (bt a0 x14_1) t127 _ A6.out).mono ?_); rintro e w' ⟨rfl, ⟨nd, rfl⟩⟩; refine ⟨_, rfl, ?_⟩; (try (rw [drewN_self wr]; generalize hq_ : World.drewN wr _ = wr; have n0_ : Aside0 (Kd.R (Kd.int .u8) 5 wr w.heap.size (fun _ => True) u5 x5_1) := ⟨by rw [← hq_]; exact (by (with_reducible repeat (first | apply Kd.R_alloc | apply Kd.R_drewN | apply Kd.R_drew)); exact HO_5.out)⟩; have n1_ : Aside0 (Below w.heap.size w wr) := ⟨by rw [← hq_]; exact (by repeat (first | (with_reducible first | exact HB.out | apply below_alloc | apply pw_below_drewN | apply below_drew1) | exact HB.out))⟩; clear HO_5 HB hq_; have HO_5 := n0_; have HB := n1_; clear n0_ n1_)); obtain ⟨Ao15, co15, eo15⟩ := Kd.R_slice HO_5.out; subst eo15; have p131 : 0 ≤ ((ji11) : Int) := of_decide_eq_true (by first | (with_reducible assumption) | assumption); have q131 : (ji11) < (x5_1.length : Int) := of_decide_eq_true (by first | (with_reducible assumption) | assumption); obtain ⟨ad131, e131, hx131_0⟩ := Kd.at_int (Kd.R_reads' HO_5.out).2.2 (ji11) p131 q131; cases e131; replace p131 := eq_true p131; replace q131 := eq_true q131; have p14 : 0 ≤ ((ji11) : Int) := of_decide_eq_true (by first | (with_reducible assumption) | assumption); have q14 : ((ji11) : Int) < ((x5_1.length : Int) : Int) := of_decide_eq_true (by first | (with_reducible assumption) | assumption); obtain ⟨go14, co14, eo14, gb14, gl14, cl14, HG14⟩ := Kd.R_form HO_5.out (by omega); (first | cases eo14 | (injection eo14 with ea_ en_ ec_; (first | subst ea_ | (injection ea_ with ea_; subst ea_)); subst ec_; clear en_)); have GB14 := Aside0.mk gb14; have GG14 := Aside0.mk HG14; clear gb14 gl14 HG14; (first | simp only [add_plain] at hx131_0 | skip); obtain ⟨hx14_0, hf14_0⟩ := Kd.R_celln 0 HO_5.out ((ji11) : Int) p14 q14; replace p14 := eq_true p14; replace q14 := eq_true q14; obtain ⟨hy16_, hz16_⟩ := Kd.R_celln 0 HO_5.out ((ji11) : Int) (of_decide_eq_true (by first | (with_reducible assumption) | assumption)) (of_decide_eq_true (by first | (with_reducible assumption) | assumption)); have HP16 := Kd.R_putg HO_5.out ((ji11) : Int) (Go.bits .or .u8 (rd x5_1 (ji11)) t127)) | ((with_reducible refine gate_store (t := 5) (p := 39) rfl ?_); refine store_event (t := 5) (p := 39) (v := ?vo_w17) (w1 := (wr.setCell ⟨go14, ((ji11) : Int).toNat, none⟩ (.int .u8 (Go.bits .or .u8 (rd x5_1 (ji11)) t127)))) ?hg ?ho ?hn ?hr ?_; (case ho => rfl); (case hg => rfl); (case hn => rfl); (case hr => first | (go_simp; done) | (go_simp; rfl)); intro w17 hw; have hg : wr.grownBy w17 (some go14) := (by rw [hw]; exact HP16.2); have hp_ : Kd.R (Kd.int .u8) 5 w17 w.heap.size (fun _ => True) (.slice (some ⟨go14, 0, none⟩) x5_1.length co15) y132 := (by rw [hw, Ny132.out]; exact HP16.1); clear HP16; have n0_ := Aside0.mk (hp_); have n1_ := Aside0.mk ((by rw [hw]; exact below_set (HB.out) GB14.out : Below w.heap.size w w17)); clear HO_5; clear HB; have HO_5 := n0_; have HB := n1_; clear n0_ n1_; clear hg hw hp_))
                    go_roundg k1
                    case measure => have := HK1.out; omega
                    case rel => exact ⟨(y132), (wrap64 (x14_1 + 1)), (by first | rfl | (simp; done) | (simp [*]; done)), H', ⟨by have := HK1.out; omega⟩, ⟨by (with_reducible repeat (first | apply Kd.R_alloc | apply Kd.R_drewN | apply Kd.R_drew)); exact HO_5.out⟩, ⟨by repeat (first | (with_reducible first | exact HB.out | apply below_alloc | apply pw_below_drewN | apply below_drew1) | exact HB.out)⟩⟩
                  · rw [if_neg c13] at H
                    exact absurd H (by simp)
                · rw [if_neg c12] at H
                  exact absurd H (by simp)
          · rw [if_neg c4] at H
            exact absurd H (by simp)
        · rw [if_neg c3] at H
          exact absurd H (by simp)
      · rw [if_neg c2] at H
        have c2b0 : decide (x14_1 < (a0.size : Int)) = false := decide_eq_false c2
        clear c2
        by_cases c18 : ((a0.size : Int) % 2) = 1
        · rw [if_pos c18] at H
          have c18b0 : (((a0.size : Int) % 2) == 1) = true := beq_iff_eq.mpr c18
          have c18b1 : (((a0.size : Int) % 2) != 1) = false := bne_eq_false_iff_eq.mpr c18
          clear c18
          simp only [Option.some.injEq, Prod.mk.injEq] at H
          obtain ⟨rfl, rfl, rfl⟩ := H
          go_wp2
          go_ret3
          exact ⟨by first | rfl | (simp [errW_none, errW_some] <;> rfl) | (simp [*, errW_none, errW_some] <;> rfl), by repeat (first | (with_reducible first | exact HB.out | apply below_alloc | apply pw_below_drewN | apply below_drew1) | exact HB.out)⟩
        · rw [if_neg c18] at H
          have c18b0 : (((a0.size : Int) % 2) == 1) = false := beq_eq_false_iff_ne.mpr c18
          have c18b1 : (((a0.size : Int) % 2) != 1) = true := bne_iff_ne.mpr c18
          simp only [Option.some.injEq, Prod.mk.injEq] at H
          obtain ⟨rfl, rfl, rfl⟩ := H
          have hcv19 := own_string (P := Tryd.prog) Tryd.underlying41 Tryd.underlying5 Tryd.underlying9 (Kd.own_of_R HO_5.out)
          go_wp2
          go_ret3
          exact ⟨by first | rfl | (simp [errW_none, errW_some] <;> rfl) | (simp [*, errW_none, errW_some] <;> rfl), by repeat (first | (with_reducible first | exact HB.out | apply below_alloc | apply pw_below_drewN | apply below_drew1) | exact HB.out)⟩


end Go.Proofs.YthimgiphlenjdaaDoor.PI
