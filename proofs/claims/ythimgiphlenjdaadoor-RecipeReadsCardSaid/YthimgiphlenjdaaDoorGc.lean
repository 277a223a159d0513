/- Contracts of the Go functions of this seat, each over a Lean function of the same answers; written by a program of this session's. -/
import Derived.Test.YthimgiphlenjdaaDoorPIx0
import Derived.Test.YthimgiphlenjdaaDoorHWords
import Derived.Test.YthimgiphlenjdaaDoorHShelf
import Derived.Test.YthimgiphlenjdaaDoorHMix
import Derived.Test.YthimgiphlenjdaaDoorHWrite
import Derived.Test.YthimgiphlenjdaaDoorF22
namespace Go.Proofs.YthimgiphlenjdaaDoor.PI
open Go.RowKit Go.Proofs.YthimgiphlenjdaaDoorW.PrintWords Go.Proofs.YthimgiphlenjdaaDoorW.PrintLast
open HX
set_option linter.unusedVariables false
set_option linter.unusedSimpArgs false

section
/-! ### word_Bytes: function 45 -/
def word_Bytes.l0 : Nat → List Int → List Int → Int → Int → Option (ByteArray)
  | 0, _, _, _, _ => none
  | k + 1, x3, x10, x11, x12 => if x12 < x11 then (if 0 ≤ x12 then (if x12 < (x10.length : Int) then ((some (([(rd x10 x12) % 256, ((rd x10 x12) / 256) % 256, ((rd x10 x12) / 65536) % 256, ((rd x10 x12) / 16777216) % 256] : List Int) : List Int)).bind fun y103 => (if x3.length + y103.length < 140737488355328 then (word_Bytes.l0 k (x3 ++ y103) x10 x11 (wrap64 (x12 + 1))) else (none))) else (none)) else (none)) else (some (strOfNums x3))
def word_Bytes.f (k : Nat) (l0 : List Int) : Option (ByteArray) := word_Bytes.l0 k ([] : List Int) l0 (l0.length : Int) 0
theorem word_Bytes.mono_l : ∀ k, (∀ y0 y1 y2 y3, LeO (word_Bytes.l0 k y0 y1 y2 y3) (word_Bytes.l0 (k + 1) y0 y1 y2 y3))
  | 0 => fun _ _ _ _ r h => by simp [word_Bytes.l0] at h
  | k + 1 => by
    have ih0 := word_Bytes.mono_l k
    · intro y0 y1 y2 y3
      unfold word_Bytes.l0
      repeat' first
      | (with_reducible exact ih0 _ _ _ _)
      | (with_reducible exact LeO.refl _)
      | (with_reducible exact LeO.none _)
      | (with_reducible refine LeO.ite ?_ ?_)
      | (with_reducible refine LeO.bind ?_ (fun _ => ?_))
      | exact ih0 _ _ _ _
      | exact LeO.none _
      | refine LeO.ite ?_ ?_
      | refine LeO.bind ?_ (fun _ => ?_)
theorem word_Bytes.mono : ∀ a0 k, LeO (word_Bytes.f k a0) (word_Bytes.f (k + 1) a0) := by
  intro a0 k
  have ih0 := word_Bytes.mono_l k
  unfold word_Bytes.f
  repeat' first
      | (with_reducible exact ih0 _ _ _ _)
      | (with_reducible exact LeO.refl _)
      | (with_reducible exact LeO.none _)
      | (with_reducible refine LeO.ite ?_ ?_)
      | (with_reducible refine LeO.bind ?_ (fun _ => ?_))
      | exact ih0 _ _ _ _
      | exact LeO.none _
      | refine LeO.ite ?_ ?_
      | refine LeO.bind ?_ (fun _ => ?_)
theorem word_Bytes.len_l (l : List Int) (r : ByteArray) : ∀ (k : Nat) (x : List Int) (i : Int), 0 ≤ i → i ≤ l.length → (x.length : Int) = 4 * i → x.length ≤ 140737488355328 → word_Bytes.l0 k x l (l.length : Int) i = some r → 4 * l.length ≤ 140737488355328
  | 0, _, _, _, _, _, _, h => by simp [word_Bytes.l0] at h
  | k + 1, x, i, h0, h1, hx, hm, h => by
    simp only [word_Bytes.l0, Option.bind_some] at h
    by_cases c1 : i < (l.length : Int)
    · rw [if_pos c1, if_pos h0, if_pos c1] at h
      by_cases c2 : x.length + ([(rd l i) % 256, ((rd l i) / 256) % 256, ((rd l i) / 65536) % 256, ((rd l i) / 16777216) % 256] : List Int).length < 140737488355328
      · rw [if_pos c2] at h
        have c3 : x.length + 4 < 140737488355328 := c2
        have e : wrap64 (i + 1) = i + 1 := by unfold wrap64; omega
        rw [e] at h
        exact word_Bytes.len_l l r k _ (i + 1) (by omega) (by omega) (by rw [List.length_append]; show ((x.length + 4 : Nat) : Int) = _; omega) (by rw [List.length_append]; show x.length + 4 ≤ _; omega) h
      · rw [if_neg c2] at h
        cases h
    · omega
set_option maxHeartbeats 8000000 in
set_option maxRecDepth 100000 in
theorem word_Bytes.calls (k : Nat) (A0 : Option Addr) (c0 : Nat) (l0 : List Int) (r : ByteArray) (w : World) (hr0 : Kd.C (Kd.int .u32) w A0 l0.length l0) (hc0 : l0.length ≤ c0) (h : word_Bytes.f k l0 = some r) :
    Calls Tryd.prog 45 #[.slice A0 l0.length c0] w fun e w' => e = .returned (.string r) ∧ Below w.heap.size w w' := by
  have HR0 := Aside0.mk hr0
  have HC0 := Aside0.mk hc0
  clear hr0 hc0
  have HB := Aside0.mk (Below.refl w.heap.size w)
  have H : (word_Bytes.l0 k ([] : List Int) l0 (l0.length : Int) 0) = some r := h
  clear h
  have H' := Aside0.mk H
  have hlen := word_Bytes.len_l l0 r k [] 0 (by omega) (by omega) rfl (by simp) H
  clear H
  have hb1 : 0 ≤ 4 * (l0.length : Int) := by omega
  have hb2 : 4 * (l0.length : Int) ≤ 140737488355328 := by omega
  go_enter Tryd.func45, Tryd.ntmps45
  go_wp2_with (at_make; refine HX.R_mk0 (Kd.int .u8) (w0 := w) w.heap.size 5 rfl 41 _ _ rfl (4 * (l0.length : Int)) rfl rfl Tryd.underlying41 (.int .u8 0) 1 info5 (by decide) (ok := fun _ => True) trivial hb1 (by omega) (Below.refl _ _) (Nat.le_refl _) ?_; intro v1 w1 hm1 hb3 hg3; have HM := Aside0.mk hm1; have HBM := Aside0.mk hb3; clear hm1 hb3 hg3)
  go_loopg [3, 12] k (fun kq v3 v12 w' => ∃ (x3_1 : List Int) (x12_1 : Int), v12 = .int .i64 x12_1 ∧ Aside0 (word_Bytes.l0 kq x3_1 l0 (l0.length : Int) x12_1 = some r) ∧ Aside0 (kq ≤ k) ∧ Aside0 (Kd.R (Kd.int .u8) 5 w' w.heap.size (fun _ => True) v3 x3_1) ∧ Aside0 (Below w.heap.size w w'))
  case atStart => exact ⟨(([] : List Int)), (0), (by first | rfl | (simp; done) | (simp [*]; done)), H', ⟨Nat.le_refl _⟩, ⟨by exact HM.out⟩, ⟨by exact HBM.out⟩⟩
  case round =>
    clear H' HM HBM hb1 hb2 hlen
    try clear c1
    obtain ⟨x3_1, x12_1, rfl, HA, HK1, HO_3, HB⟩ := hrel
    cases gk with
    | zero => exact absurd HA.out (by simp [word_Bytes.l0])
    | succ k1 =>
      have H := HA.out
      clear HA
      simp only [word_Bytes.l0] at H
      by_cases c2 : x12_1 < (l0.length : Int)
      · rw [if_pos c2] at H
        have c2b0 : decide (x12_1 < (l0.length : Int)) = true := decide_eq_true c2
        clear c2
        by_cases c3 : 0 ≤ x12_1
        · rw [if_pos c3] at H
          have c3b0 : decide (0 ≤ x12_1) = true := decide_eq_true c3
          clear c3
          by_cases c4 : x12_1 < (l0.length : Int)
          · rw [if_pos c4] at H
            have c4b0 : decide (x12_1 < (l0.length : Int)) = true := decide_eq_true c4
            clear c4
            obtain ⟨y103, hy103⟩ : ∃ y_ : List Int, y_ = (([(rd l0 x12_1) % 256, ((rd l0 x12_1) / 256) % 256, ((rd l0 x12_1) / 65536) % 256, ((rd l0 x12_1) / 16777216) % 256] : List Int)) := ⟨_, rfl⟩
            replace H : (if x3_1.length + y103.length < 140737488355328 then (word_Bytes.l0 k1 (x3_1 ++ y103) l0 (l0.length : Int) (wrap64 (x12_1 + 1))) else (none)) = some r := by first | (rw [hy103]; with_reducible exact H) | (have H2_ := (Option.bind_some _ _).symm.trans H; rw [hy103]; with_reducible exact H2_) | (have H2_ := (Option.bind_some _ _).symm.trans H; with_reducible exact H2_) | with_reducible exact H | (rw [hy103]; exact H) | exact H
            have Ny103 := Aside0.mk hy103
            clear hy103
            by_cases c5 : x3_1.length + y103.length < 140737488355328
            · rw [if_pos c5] at H
              have LMc5 := Aside0.mk c5
              clear c5
              obtain ⟨y106, hy106⟩ : ∃ y_ : List Int, y_ = (x3_1 ++ y103) := ⟨_, rfl⟩
              replace H : (word_Bytes.l0 k1 y106 l0 (l0.length : Int) (wrap64 (x12_1 + 1))) = some r := by first | (rw [hy106]; with_reducible exact H) | (have H2_ := (Option.bind_some _ _).symm.trans H; rw [hy106]; with_reducible exact H2_) | (have H2_ := (Option.bind_some _ _).symm.trans H; with_reducible exact H2_) | with_reducible exact H | (rw [hy106]; exact H) | exact H
              have Ny106 := Aside0.mk hy106
              clear hy106
              have H' := Aside0.mk H
              clear H
              have p102 : 0 ≤ (x12_1 : Int) := of_decide_eq_true (by first | (with_reducible assumption) | assumption)
              have q102 : x12_1 < (l0.length : Int) := of_decide_eq_true (by first | (with_reducible assumption) | assumption)
              obtain ⟨ad102, e102, hx102_0⟩ := Kd.at_int HR0.out x12_1 p102 q102
              cases e102
              replace hx102_0 := (HB.out.cell (World.block_lt_of_cell? w _ hx102_0)).trans hx102_0
              replace p102 := eq_true p102
              replace q102 := eq_true q102
              go_wp2_with (first | ((with_reducible refine gate_dst (N := 28) rfl ?_); refine Kd.R_lit (Kd.int .u8) _ 5 ?hg (N := 28) ?hd (xs := ([(rd l0 x12_1) % 256, ((rd l0 x12_1) / 256) % 256, ((rd l0 x12_1) / 65536) % 256, ((rd l0 x12_1) / 16777216) % 256] : List Int)) (inner := [.int .u8 ((rd l0 x12_1) % 256), .int .u8 (((rd l0 x12_1) / 256) % 256), .int .u8 (((rd l0 x12_1) / 65536) % 256), .int .u8 (((rd l0 x12_1) / 16777216) % 256)]) (ok := fun _ => True) (okp := fun _ => True) ?hr ?hp (fun _ hk => hk) trivial (Below.refl _ _) (Nat.le_refl _) (by simp) ?_; (case hd => rfl); (case hg => rfl); (case hr => first | (go_simp; done) | (go_simp; rfl)); (case hp => exact (Reps.one (show Kd.M (Kd.int .u8) _ _ _ ((rd l0 x12_1) % 256) [.int .u8 ((rd l0 x12_1) % 256)] from rfl) (Reps.one (show Kd.M (Kd.int .u8) _ _ _ (((rd l0 x12_1) / 256) % 256) [.int .u8 (((rd l0 x12_1) / 256) % 256)] from rfl) (Reps.one (show Kd.M (Kd.int .u8) _ _ _ (((rd l0 x12_1) / 65536) % 256) [.int .u8 (((rd l0 x12_1) / 65536) % 256)] from rfl) (Reps.one (show Kd.M (Kd.int .u8) _ _ _ (((rd l0 x12_1) / 16777216) % 256) [.int .u8 (((rd l0 x12_1) / 16777216) % 256)] from rfl) (Reps.none _ _)))))); intro v104 w6 ho7 hb hg_ hnew_; clear hg_ hnew_; (first | rw [← Ny103.out] at ho7 | (simp only [Int.reduceToNat] at ho7; rw [← Ny103.out] at ho7)); have n0_ := Aside0.mk (Kd.R_elder' (by (with_reducible repeat (first | apply Kd.R_alloc | apply Kd.R_drewN | apply Kd.R_drew)); exact HO_3.out) (Kd.R_base ho7) hb); have n1_ := Aside0.mk (Kd.R_lower (Kd.R_new' ho7 (Kd.R_lt (by (with_reducible repeat (first | apply Kd.R_alloc | apply Kd.R_drewN | apply Kd.R_drew)); exact HO_3.out))) (below_size (by repeat (first | (with_reducible first | exact HB.out | apply below_alloc | apply pw_below_drewN | apply below_drew1) | exact HB.out)))); have n2_ := Aside0.mk (below_step (by repeat (first | (with_reducible first | exact HB.out | apply below_alloc | apply pw_below_drewN | apply below_drew1) | exact HB.out)) hb); clear HO_3; clear HB; have HO_3 := n0_; have HO105 := n1_; have HB := n2_; clear n0_ n1_ n2_; clear hb ho7; obtain ⟨Ao9, co9, eo9⟩ := Kd.R_slice HO105.out; subst eo9) | ((with_reducible refine gate_builtin (b := .append) (xs := #[.tmp 16, .tmp 28]) rfl ?_); at_builtin; refine Kd.R_append_rows (Kd.int .u8) (w0 := w) w.heap.size rfl (.tmp 16) (.tmp 28) 41 5 (.int .u8 0) 1 rfl Tryd.underlying41 info5 rfl (by decide) (by omega) u3 x3_1 y103 _ _ _ (fun k_ => some k_ ≠ (.slice Ao9 y103.length co9 : Value).ownBlock) (fun _ => False) rfl rfl ?aO ?aR (fun _ _ h => h) (fun _ h => h.elim) ?aF ?aB ?aS ?aL ?_; (case aR => repeat (first | exact (Kd.R_reads' HO105.out).2.2 | (with_reducible refine Kd.C_alloc ?_ _) | (with_reducible refine Kd.C_drewN ?_ _) | (with_reducible refine Kd.C_drew ?_))); (case aB => exact (by repeat (first | (with_reducible first | exact HB.out | apply below_alloc | apply pw_below_drewN | apply below_drew1) | exact HB.out))); (case aF => exact (fun k_ hk => Kd.fresh' (Kd.R_lt (by (with_reducible repeat (first | apply Kd.R_alloc | apply Kd.R_drewN | apply Kd.R_drew)); exact HO105.out)) k_ hk)); (case aO => exact (by (with_reducible repeat (first | apply Kd.R_alloc | apply Kd.R_drewN | apply Kd.R_drew)); exact Kd.R_mono HO_3.out (fun _ hk => hk.2))); (case aS => exact (below_size (by repeat (first | (with_reducible first | exact HB.out | apply below_alloc | apply pw_below_drewN | apply below_drew1) | exact HB.out)))); (case aL => have := LMc5.out; omega); intro v107 w8 ho hb hg hat; rw [← Ny106.out] at ho; have n0_ := Aside0.mk (Kd.R_after (ok := (fun _ => True)) (by (with_reducible repeat (first | apply Kd.R_alloc | apply Kd.R_drewN | apply Kd.R_drew)); exact HO105.out) hg hat); have n1_ := Aside0.mk (hb); have n2_ := Aside0.mk (ho); clear HO105; clear HB; clear HO_3; have HO105 := n0_; have HB := n1_; have HO108 := n2_; clear n0_ n1_ n2_; clear ho hb hg hat))
              go_roundg k1
              case measure => have := HK1.out; omega
              case rel => exact ⟨(y106), (wrap64 (x12_1 + 1)), (by first | rfl | (simp; done) | (simp [*]; done)), H', ⟨by have := HK1.out; omega⟩, ⟨by (with_reducible repeat (first | apply Kd.R_alloc | apply Kd.R_drewN | apply Kd.R_drew)); exact Kd.R_mono HO108.out (fun _ hk => trivial)⟩, ⟨by repeat (first | (with_reducible first | exact HB.out | apply below_alloc | apply pw_below_drewN | apply below_drew1) | exact HB.out)⟩⟩
            · rw [if_neg c5] at H
              exact absurd H (by simp)
          · rw [if_neg c4] at H
            exact absurd H (by simp)
        · rw [if_neg c3] at H
          exact absurd H (by simp)
      · rw [if_neg c2] at H
        have c2b0 : decide (x12_1 < (l0.length : Int)) = false := decide_eq_false c2
        clear c2
        obtain rfl := Option.some.inj H
        have hcv10 := own_string (P := Tryd.prog) Tryd.underlying41 Tryd.underlying5 Tryd.underlying9 (Kd.own_of_R HO_3.out)
        go_wp2
        go_ret
        exact ⟨by first | rfl | (simp [errW_none, errW_some] <;> rfl) | (simp [*, errW_none, errW_some] <;> rfl), by repeat (first | (with_reducible first | exact HB.out | apply below_alloc | apply pw_below_drewN | apply below_drew1) | exact HB.out)⟩



end

section
/-! ### strings_Repeat: function 44 -/
-- import HShelf
def strings_Repeat.f (a0 : ByteArray) (a1 : Int) : Option (ByteArray) := if 0 ≤ a1 ∧ a1 ≤ 64 ∧ a0.size ≤ 64 then some ⟨(Go.Lib.repeatL a0.data.toList a1.toNat).toArray⟩ else none
theorem strings_Repeat.calls (a0 : ByteArray) (a1 : Int) (r : ByteArray) (w : World) (h : strings_Repeat.f a0 a1 = some r) :
    Calls Tryd.prog 44 #[.string a0, .int .i64 a1] w fun e w' => e = .returned (.string r) ∧ Below w.heap.size w w' := by
  unfold strings_Repeat.f at h
  split at h
  · rename_i hc
    obtain ⟨h0, h1, h2⟩ := hc
    obtain ⟨n, rfl⟩ := Int.eq_ofNat_of_zero_le h0
    cases h
    exact Tryd.strings_Repeat a0 n w (by omega) (Nat.le_trans (Nat.mul_le_mul h2 (show n ≤ 64 by omega)) (by decide))
  · cases h


end

section
/-! ### word_Words: function 46 -/
def word_Words.l0 : Nat → ByteArray → List Int → Option (List Int × Int)
  | 0, _, _ => none
  | k + 1, x0, x4 => if (x0.size : Int) > 0 then (if 0 < (x0.size : Int) then (if 1 < (x0.size : Int) then (if 2 < (x0.size : Int) then (if 3 < (x0.size : Int) then (if x4.length < 35184372088832 then (if 4 ≤ (x0.size : Int) then (word_Words.l0 k (x0.extract 4 x0.size) (x4 ++ [Go.bits .or .u32 (Go.bits .or .u32 (Go.bits .or .u32 ((bt x0 0) % 4294967296) ((((bt x0 1) % 4294967296) * 256) % 4294967296)) ((((bt x0 2) % 4294967296) * 65536) % 4294967296)) ((((bt x0 3) % 4294967296) * 16777216) % 4294967296)])) else (none)) else (none)) else (none)) else (none)) else (none)) else (none)) else (some (x4, 0))
def word_Words.f (k : Nat) (a0 : ByteArray) : Option (List Int × Int) := if ((a0.size : Int) % 4) = 0 then (word_Words.l0 k a0 ([] : List Int)) else (some (([] : List Int), 7))
theorem word_Words.mono_l : ∀ k, (∀ y0 y1, LeO (word_Words.l0 k y0 y1) (word_Words.l0 (k + 1) y0 y1))
  | 0 => fun _ _ r h => by simp [word_Words.l0] at h
  | k + 1 => by
    have ih0 := word_Words.mono_l k
    · intro y0 y1
      unfold word_Words.l0
      repeat' first
      | (with_reducible exact ih0 _ _)
      | (with_reducible exact LeO.refl _)
      | (with_reducible exact LeO.none _)
      | (with_reducible refine LeO.ite ?_ ?_)
      | (with_reducible refine LeO.bind ?_ (fun _ => ?_))
      | exact ih0 _ _
      | exact LeO.none _
      | refine LeO.ite ?_ ?_
      | refine LeO.bind ?_ (fun _ => ?_)
theorem word_Words.mono : ∀ a0 k, LeO (word_Words.f k a0) (word_Words.f (k + 1) a0) := by
  intro a0 k
  have ih0 := word_Words.mono_l k
  unfold word_Words.f
  repeat' first
      | (with_reducible exact ih0 _ _)
      | (with_reducible exact LeO.refl _)
      | (with_reducible exact LeO.none _)
      | (with_reducible refine LeO.ite ?_ ?_)
      | (with_reducible refine LeO.bind ?_ (fun _ => ?_))
      | exact ih0 _ _
      | exact LeO.none _
      | refine LeO.ite ?_ ?_
      | refine LeO.bind ?_ (fun _ => ?_)
def word_Words.T6 : Bool × List (List Nat × List Nat) := (true, [([], []), ([], []), ([1], [1]), ([2], [2]), ([], []), ([4], [4]), ([5], [5]), ([6], [6]), ([3, 7], [3, 7]), ([], []), ([9], [9]), ([10], [10]), ([11], [11]), ([8, 12], [8, 12]), ([], []), ([14], [14]), ([15], [15]), ([16], [16]), ([13, 17], [13, 17]), ([18], [18]), ([0, 19], [0, 19]), ([20, 20, 0, 1, 2, 3, 4, 5, 6, 7, 8, 9, 10, 11, 12, 13, 14, 15, 16, 17, 18, 19, 20], [0, 20])])
def word_Words.B6 : List Nat := [0, 0, 2, 6, 0, 16, 48, 112, 254, 0, 512, 1536, 3584, 8190, 0, 16384, 49152, 114688, 262142, 524286, 1048575, 2097151]
theorem word_Words.tab6 : rtab .any (opsOf Tryd.f46 6) = word_Words.T6 := by kernel_rfl
theorem word_Words.bits6 : waitsOk word_Words.T6.2 word_Words.B6 = true := by kernel_rfl
set_option maxHeartbeats 8000000 in
set_option maxRecDepth 100000 in
theorem word_Words.calls (k : Nat) (a0 : ByteArray) (r1 : List Int) (r2 : Int) (w : World) (h : word_Words.f k a0 = some (r1, r2)) :
    Calls Tryd.prog 46 #[.string a0] w fun e w' => ∃ v0_ : Value, e = .returned (.tuple #[v0_, .int .i64 r2]) ∧ Kd.R (Kd.int .u32) 22 w' w.heap.size (fun _ => True) v0_ r1 ∧ Below w.heap.size w w' := by
  have HB := Aside0.mk (Below.refl w.heap.size w)
  have H : (if ((a0.size : Int) % 4) = 0 then (word_Words.l0 k a0 ([] : List Int)) else (some (([] : List Int), 7))) = some (r1, r2) := h
  clear h
  by_cases c2 : ((a0.size : Int) % 4) = 0
  · rw [if_pos c2] at H
    have c2b0 : (((a0.size : Int) % 4) == 0) = true := beq_iff_eq.mpr c2
    have c2b1 : (((a0.size : Int) % 4) != 0) = false := bne_eq_false_iff_eq.mpr c2
    clear c2
    have H' := Aside0.mk H
    clear H
    go_enter Tryd.func46, Tryd.ntmps46
    go_wp2
    go_loopg [0, 4] k (fun kq v0 v4 w' => ∃ (x0_1 : ByteArray) (x4_1 : List Int), v0 = .string x0_1 ∧ Aside0 (word_Words.l0 kq x0_1 x4_1 = some (r1, r2)) ∧ Aside0 (kq ≤ k) ∧ Aside0 (Kd.R (Kd.int .u32) 22 w' w.heap.size (fun _ => True) v4 x4_1) ∧ Aside0 (Below w.heap.size w w'))
    case atStart => exact ⟨(a0), (([] : List Int)), (by first | rfl | (simp; done) | (simp [*]; done)), H', ⟨Nat.le_refl _⟩, ⟨by first | exact Kd.R_nil _ _ _ _ _ | exact Kd.N_nil _ _ _ _ _ | exact Kd.V_nil _ _ _ _ _ | exact Kd.Q_nil _ _ _ _ _ | exact Kd.S_nil _ _ _ _ _⟩, ⟨by repeat (first | (with_reducible first | exact HB.out | apply below_alloc | apply pw_below_drewN | apply below_drew1) | exact HB.out)⟩⟩
    case round =>
      clear H'
      try clear c2
      try clear c2b0
      try clear c2b1
      try clear p2
      obtain ⟨x0_1, x4_1, rfl, HA, HK1, HO_4, HB⟩ := hrel
      cases gk with
      | zero => exact absurd HA.out (by simp [word_Words.l0])
      | succ k1 =>
        have H := HA.out
        clear HA
        simp only [word_Words.l0] at H
        by_cases c3 : (x0_1.size : Int) > 0
        · rw [if_pos c3] at H
          have c3b0 : decide (0 < (x0_1.size : Int)) = true := decide_eq_true c3
          have c3b1 : decide (0 < x0_1.size) = true := decide_eq_true (by omega)
          clear c3
          by_cases c4 : 0 < (x0_1.size : Int)
          · rw [if_pos c4] at H
            have c4b0 : decide (0 < (x0_1.size : Int)) = true := decide_eq_true c4
            have c4b1 : decide (0 < x0_1.size) = true := decide_eq_true (by omega)
            clear c4
            by_cases c6 : 1 < (x0_1.size : Int)
            · rw [if_pos c6] at H
              have c6b0 : decide (1 < (x0_1.size : Int)) = true := decide_eq_true c6
              have c6b1 : decide (1 < x0_1.size) = true := decide_eq_true (by omega)
              clear c6
              by_cases c8 : 2 < (x0_1.size : Int)
              · rw [if_pos c8] at H
                have c8b0 : decide (2 < (x0_1.size : Int)) = true := decide_eq_true c8
                have c8b1 : decide (2 < x0_1.size) = true := decide_eq_true (by omega)
                clear c8
                by_cases c10 : 3 < (x0_1.size : Int)
                · rw [if_pos c10] at H
                  have c10b0 : decide (3 < (x0_1.size : Int)) = true := decide_eq_true c10
                  have c10b1 : decide (3 < x0_1.size) = true := decide_eq_true (by omega)
                  clear c10
                  by_cases c12 : x4_1.length < 35184372088832
                  · rw [if_pos c12] at H
                    have LMc12 := Aside0.mk c12
                    clear c12
                    obtain ⟨y109, hy109⟩ : ∃ y_ : List Int, y_ = (x4_1 ++ [Go.bits .or .u32 (Go.bits .or .u32 (Go.bits .or .u32 ((bt x0_1 0) % 4294967296) ((((bt x0_1 1) % 4294967296) * 256) % 4294967296)) ((((bt x0_1 2) % 4294967296) * 65536) % 4294967296)) ((((bt x0_1 3) % 4294967296) * 16777216) % 4294967296)]) := ⟨_, rfl⟩
                    replace H : (if 4 ≤ (x0_1.size : Int) then (word_Words.l0 k1 (x0_1.extract 4 x0_1.size) y109) else (none)) = some (r1, r2) := by first | (rw [hy109]; with_reducible exact H) | (have H2_ := (Option.bind_some _ _).symm.trans H; rw [hy109]; with_reducible exact H2_) | (have H2_ := (Option.bind_some _ _).symm.trans H; with_reducible exact H2_) | with_reducible exact H | (rw [hy109]; exact H) | exact H
                    have Ny109 := Aside0.mk hy109
                    clear hy109
                    by_cases c13 : 4 ≤ (x0_1.size : Int)
                    · rw [if_pos c13] at H
                      have c13b0 := eq_true c13
                      have c13b1 : decide (4 ≤ (x0_1.size : Int)) = true := decide_eq_true c13
                      clear c13
                      have H' := Aside0.mk H
                      clear H
                      try go_wp2
                      have n0_ := Aside0.mk (Kd.R_drew HO_4.out)
                      have n1_ := Aside0.mk (below_drew1 HB.out)
                      clear HO_4
                      clear HB
                      have HO_4 := n0_
                      have HB := n1_
                      clear n0_ n1_
                      have p5 : 0 ≤ (0 : Int) := (by omega)
                      have q5 : 0 < x0_1.size := (by have : (0 : Int) < (x0_1.size : Int) := of_decide_eq_true (by first | (with_reducible assumption) | assumption); omega)
                      have hx5 : ∀ h : 0 < x0_1.size, ((x0_1[0]'h).toNat : Int) = bt x0_1 0 := bt_at x0_1 0
                      clear p5
                      have qi5 : (0 < (x0_1.size : Int)) = True := eq_true (of_decide_eq_true (by first | (with_reducible assumption) | assumption))
                      replace q5 := eq_true q5
                      have p7 : 0 ≤ (1 : Int) := (by omega)
                      have q7 : 1 < x0_1.size := (by have : (1 : Int) < (x0_1.size : Int) := of_decide_eq_true (by first | (with_reducible assumption) | assumption); omega)
                      have hx7 : ∀ h : 1 < x0_1.size, ((x0_1[1]'h).toNat : Int) = bt x0_1 1 := bt_at x0_1 1
                      clear p7
                      have qi7 : (1 < (x0_1.size : Int)) = True := eq_true (of_decide_eq_true (by first | (with_reducible assumption) | assumption))
                      replace q7 := eq_true q7
                      have p9 : 0 ≤ (2 : Int) := (by omega)
                      have q9 : 2 < x0_1.size := (by have : (2 : Int) < (x0_1.size : Int) := of_decide_eq_true (by first | (with_reducible assumption) | assumption); omega)
                      have hx9 : ∀ h : 2 < x0_1.size, ((x0_1[2]'h).toNat : Int) = bt x0_1 2 := bt_at x0_1 2
                      clear p9
                      have qi9 : (2 < (x0_1.size : Int)) = True := eq_true (of_decide_eq_true (by first | (with_reducible assumption) | assumption))
                      replace q9 := eq_true q9
                      have p11 : 0 ≤ (3 : Int) := (by omega)
                      have q11 : 3 < x0_1.size := (by have : (3 : Int) < (x0_1.size : Int) := of_decide_eq_true (by first | (with_reducible assumption) | assumption); omega)
                      have hx11 : ∀ h : 3 < x0_1.size, ((x0_1[3]'h).toNat : Int) = bt x0_1 3 := bt_at x0_1 3
                      clear p11
                      have qi11 : (3 < (x0_1.size : Int)) = True := eq_true (of_decide_eq_true (by first | (with_reducible assumption) | assumption))
                      replace q11 := eq_true q11
                      refine start_ (n := 22) (S := fun w' => True) (ds := []) #[false, false, false, false, false, false, false, false, false, false, false, false, false, false, false, false, false, false, false, false, false, false] (by kernel_rfl) rfl rfl trivial (fun hHeld => ?_); refine with_tabW word_Words.tab6 word_Words.bits6 (fun HT_ HW_ => ?_)
                      generalize wr.drew = w14 at HO_4 HB hHeld ⊢
                      refine pure_ (i := 0) (N := some 14) (v := ?_) (a' := ?_) #[true, false, false, false, false, false, false, false, false, false, false, false, false, false, false, false, false, false, false, false, false, false] rfl rfl (any_of HT_.out (by kernel_rfl)) (fun _ _ _ h => h) (Or.inl ⟨by rfl, ?_⟩) ?_ ?_
                      rotate_left
                      · intro w'
                        go_simp
                        with_reducible rfl
                      rotate_left
                      · simp only [Act.put, List.setIfInBounds_toArray, List.set_cons_zero, List.set_cons_succ, i64_w, i32_w]
                        rfl
                      refine pure_ (i := 1) (N := some 15) (v := ?_) (a' := ?_) #[true, true, false, false, false, false, false, false, false, false, false, false, false, false, false, false, false, false, false, false, false, false] rfl rfl (any_of HT_.out (by kernel_rfl)) (fun _ _ _ h => h) (Or.inl ⟨by rfl, ?_⟩) ?_ ?_
                      rotate_left
                      · intro w'
                        go_simp
                        with_reducible rfl
                      rotate_left
                      · simp only [Act.put, List.setIfInBounds_toArray, List.set_cons_zero, List.set_cons_succ, i64_w, i32_w]
                        rfl
                      refine pure_ (i := 4) (N := some 18) (v := ?_) (a' := ?_) #[true, true, false, false, true, false, false, false, false, false, false, false, false, false, false, false, false, false, false, false, false, false] rfl rfl (any_of HT_.out (by kernel_rfl)) (fun _ _ _ h => h) (Or.inl ⟨by rfl, ?_⟩) ?_ ?_
                      rotate_left
                      · intro w'
                        go_simp
                        with_reducible rfl
                      rotate_left
                      · simp only [Act.put, List.setIfInBounds_toArray, List.set_cons_zero, List.set_cons_succ, i64_w, i32_w]
                        rfl
                      refine pure_ (i := 9) (N := some 23) (v := ?_) (a' := ?_) #[true, true, false, false, true, false, false, false, false, true, false, false, false, false, false, false, false, false, false, false, false, false] rfl rfl (any_of HT_.out (by kernel_rfl)) (fun _ _ _ h => h) (Or.inl ⟨by rfl, ?_⟩) ?_ ?_
                      rotate_left
                      · intro w'
                        go_simp
                        with_reducible rfl
                      rotate_left
                      · simp only [Act.put, List.setIfInBounds_toArray, List.set_cons_zero, List.set_cons_succ, i64_w, i32_w]
                        rfl
                      refine pure_ (i := 14) (N := some 28) (v := ?_) (a' := ?_) #[true, true, false, false, true, false, false, false, false, true, false, false, false, false, true, false, false, false, false, false, false, false] rfl rfl (any_of HT_.out (by kernel_rfl)) (fun _ _ _ h => h) (Or.inl ⟨by rfl, ?_⟩) ?_ ?_
                      rotate_left
                      · intro w'
                        go_simp
                        with_reducible rfl
                      rotate_left
                      · simp only [Act.put, List.setIfInBounds_toArray, List.set_cons_zero, List.set_cons_succ, i64_w, i32_w]
                        rfl
                      refine take_ (i := 2) (N := some 16) (v := ?_) (a' := ?_) #[true, true, true, false, true, false, false, false, false, true, false, false, false, false, true, false, false, false, false, false, false, false] rfl rfl (take_ofW HT_.out HW_.out (by kernel_rfl)) (fun _ _ _ h => h) (Or.inl ⟨by rfl, ?_⟩) hHeld ?_ ?_
                      rotate_left
                      · intro w' _
                        go_simp
                        with_reducible rfl
                      rotate_left
                      · simp only [Act.put, List.setIfInBounds_toArray, List.set_cons_zero, List.set_cons_succ, i64_w, i32_w]
                        rfl
                      refine pure_ (i := 3) (N := some 17) (v := ?_) (a' := ?_) #[true, true, true, true, true, false, false, false, false, true, false, false, false, false, true, false, false, false, false, false, false, false] rfl rfl (any_of HT_.out (by kernel_rfl)) (fun _ _ _ h => h) (Or.inl ⟨by rfl, ?_⟩) ?_ ?_
                      rotate_left
                      · intro w'
                        go_simp
                        with_reducible rfl
                      rotate_left
                      · simp only [Act.put, List.setIfInBounds_toArray, List.set_cons_zero, List.set_cons_succ, i64_w, i32_w]
                        rfl
                      refine take_ (i := 5) (N := some 19) (v := ?_) (a' := ?_) #[true, true, true, true, true, true, false, false, false, true, false, false, false, false, true, false, false, false, false, false, false, false] rfl rfl (take_ofW HT_.out HW_.out (by kernel_rfl)) (fun _ _ _ h => h) (Or.inl ⟨by rfl, ?_⟩) hHeld ?_ ?_
                      rotate_left
                      · intro w' _
                        go_simp
                        with_reducible rfl
                      rotate_left
                      · simp only [Act.put, List.setIfInBounds_toArray, List.set_cons_zero, List.set_cons_succ, i64_w, i32_w]
                        rfl
                      refine pure_ (i := 6) (N := some 20) (v := ?_) (a' := ?_) #[true, true, true, true, true, true, true, false, false, true, false, false, false, false, true, false, false, false, false, false, false, false] rfl rfl (any_of HT_.out (by kernel_rfl)) (fun _ _ _ h => h) (Or.inl ⟨by rfl, ?_⟩) ?_ ?_
                      rotate_left
                      · intro w'
                        go_simp
                        with_reducible rfl
                      rotate_left
                      · simp only [Act.put, List.setIfInBounds_toArray, List.set_cons_zero, List.set_cons_succ, i64_w, i32_w]
                        rfl
                      refine pure_ (i := 7) (N := some 21) (v := ?_) (a' := ?_) #[true, true, true, true, true, true, true, true, false, true, false, false, false, false, true, false, false, false, false, false, false, false] rfl rfl (any_of HT_.out (by kernel_rfl)) (fun _ _ _ h => h) (Or.inl ⟨by rfl, ?_⟩) ?_ ?_
                      rotate_left
                      · intro w'
                        go_simp
                        with_reducible rfl
                      rotate_left
                      · simp only [Act.put, List.setIfInBounds_toArray, List.set_cons_zero, List.set_cons_succ, i64_w, i32_w]
                        rfl
                      refine pure_ (i := 8) (N := some 22) (v := ?_) (a' := ?_) #[true, true, true, true, true, true, true, true, true, true, false, false, false, false, true, false, false, false, false, false, false, false] rfl rfl (any_of HT_.out (by kernel_rfl)) (fun _ _ _ h => h) (Or.inl ⟨by rfl, ?_⟩) ?_ ?_
                      rotate_left
                      · intro w'
                        go_simp
                        with_reducible rfl
                      rotate_left
                      · simp only [Act.put, List.setIfInBounds_toArray, List.set_cons_zero, List.set_cons_succ, i64_w, i32_w]
                        rfl
                      refine take_ (i := 10) (N := some 24) (v := ?_) (a' := ?_) #[true, true, true, true, true, true, true, true, true, true, true, false, false, false, true, false, false, false, false, false, false, false] rfl rfl (take_ofW HT_.out HW_.out (by kernel_rfl)) (fun _ _ _ h => h) (Or.inl ⟨by rfl, ?_⟩) hHeld ?_ ?_
                      rotate_left
                      · intro w' _
                        go_simp
                        with_reducible rfl
                      rotate_left
                      · simp only [Act.put, List.setIfInBounds_toArray, List.set_cons_zero, List.set_cons_succ, i64_w, i32_w]
                        rfl
                      refine pure_ (i := 11) (N := some 25) (v := ?_) (a' := ?_) #[true, true, true, true, true, true, true, true, true, true, true, true, false, false, true, false, false, false, false, false, false, false] rfl rfl (any_of HT_.out (by kernel_rfl)) (fun _ _ _ h => h) (Or.inl ⟨by rfl, ?_⟩) ?_ ?_
                      rotate_left
                      · intro w'
                        go_simp
                        with_reducible rfl
                      rotate_left
                      · simp only [Act.put, List.setIfInBounds_toArray, List.set_cons_zero, List.set_cons_succ, i64_w, i32_w]
                        rfl
                      refine pure_ (i := 12) (N := some 26) (v := ?_) (a' := ?_) #[true, true, true, true, true, true, true, true, true, true, true, true, true, false, true, false, false, false, false, false, false, false] rfl rfl (any_of HT_.out (by kernel_rfl)) (fun _ _ _ h => h) (Or.inl ⟨by rfl, ?_⟩) ?_ ?_
                      rotate_left
                      · intro w'
                        go_simp
                        with_reducible rfl
                      rotate_left
                      · simp only [Act.put, List.setIfInBounds_toArray, List.set_cons_zero, List.set_cons_succ, i64_w, i32_w]
                        rfl
                      refine pure_ (i := 13) (N := some 27) (v := ?_) (a' := ?_) #[true, true, true, true, true, true, true, true, true, true, true, true, true, true, true, false, false, false, false, false, false, false] rfl rfl (any_of HT_.out (by kernel_rfl)) (fun _ _ _ h => h) (Or.inl ⟨by rfl, ?_⟩) ?_ ?_
                      rotate_left
                      · intro w'
                        go_simp
                        with_reducible rfl
                      rotate_left
                      · simp only [Act.put, List.setIfInBounds_toArray, List.set_cons_zero, List.set_cons_succ, i64_w, i32_w]
                        rfl
                      refine take_ (i := 15) (N := some 29) (v := ?_) (a' := ?_) #[true, true, true, true, true, true, true, true, true, true, true, true, true, true, true, true, false, false, false, false, false, false] rfl rfl (take_ofW HT_.out HW_.out (by kernel_rfl)) (fun _ _ _ h => h) (Or.inl ⟨by rfl, ?_⟩) hHeld ?_ ?_
                      rotate_left
                      · intro w' _
                        go_simp
                        with_reducible rfl
                      rotate_left
                      · simp only [Act.put, List.setIfInBounds_toArray, List.set_cons_zero, List.set_cons_succ, i64_w, i32_w]
                        rfl
                      refine pure_ (i := 16) (N := some 30) (v := ?_) (a' := ?_) #[true, true, true, true, true, true, true, true, true, true, true, true, true, true, true, true, true, false, false, false, false, false] rfl rfl (any_of HT_.out (by kernel_rfl)) (fun _ _ _ h => h) (Or.inl ⟨by rfl, ?_⟩) ?_ ?_
                      rotate_left
                      · intro w'
                        go_simp
                        with_reducible rfl
                      rotate_left
                      · simp only [Act.put, List.setIfInBounds_toArray, List.set_cons_zero, List.set_cons_succ, i64_w, i32_w]
                        rfl
                      refine pure_ (i := 17) (N := some 31) (v := ?_) (a' := ?_) #[true, true, true, true, true, true, true, true, true, true, true, true, true, true, true, true, true, true, false, false, false, false] rfl rfl (any_of HT_.out (by kernel_rfl)) (fun _ _ _ h => h) (Or.inl ⟨by rfl, ?_⟩) ?_ ?_
                      rotate_left
                      · intro w'
                        go_simp
                        with_reducible rfl
                      rotate_left
                      · simp only [Act.put, List.setIfInBounds_toArray, List.set_cons_zero, List.set_cons_succ, i64_w, i32_w]
                        rfl
                      refine pure_ (i := 18) (N := some 32) (v := ?_) (a' := ?_) #[true, true, true, true, true, true, true, true, true, true, true, true, true, true, true, true, true, true, true, false, false, false] rfl rfl (any_of HT_.out (by kernel_rfl)) (fun _ _ _ h => h) (Or.inl ⟨by rfl, ?_⟩) ?_ ?_
                      rotate_left
                      · intro w'
                        go_simp
                        with_reducible rfl
                      rotate_left
                      · simp only [Act.put, List.setIfInBounds_toArray, List.set_cons_zero, List.set_cons_succ, i64_w, i32_w]
                        rfl
                      refine one_ (i := 19) (N := some 33) #[true, true, true, true, true, true, true, true, true, true, true, true, true, true, true, true, true, true, true, true, false, false] rfl rfl (one_of HT_.out (by kernel_rfl)) (by decide) (fun K hK => ?_)
                      refine value_ (w1 := ?_) (v := ?_) (by rfl) rfl ?_ ?_
                      rotate_left 2
                      · go_simp
                        constructor
                        · rfl
                        · rfl
                      refine hK.out _ _ trivial (fun hHeld => ?_)
                      clear hK K
                      refine norm_ (a' := ?_) ?_ ?_
                      rotate_left
                      · show Act.put _ (some 33) _ = _
                        simp only [Act.put, List.setIfInBounds_toArray, List.set_cons_zero, List.set_cons_succ, i64_w, i32_w]
                        rfl
                      refine one_ (i := 20) (N := some 34) #[true, true, true, true, true, true, true, true, true, true, true, true, true, true, true, true, true, true, true, true, true, false] rfl rfl (one_of HT_.out (by kernel_rfl)) (by decide) (fun K hK => ?_)
                      refine Kd.R_append_step (Kd.int .u32) (w0 := w) w.heap.size (by rfl) (.tmp 14) (.tmp 33) 60 22 (.int .u32 0) 4 rfl Tryd.underlying60 info22 rfl (by decide) (by omega) u4 x4_1 (Go.bits .or .u32 (Go.bits .or .u32 (Go.bits .or .u32 ((bt x0_1 0) % 4294967296) ((((bt x0_1 1) % 4294967296) * 256) % 4294967296)) ((((bt x0_1 2) % 4294967296) * 65536) % 4294967296)) ((((bt x0_1 3) % 4294967296) * 16777216) % 4294967296)) [.int .u32 (Go.bits .or .u32 (Go.bits .or .u32 (Go.bits .or .u32 ((bt x0_1 0) % 4294967296) ((((bt x0_1 1) % 4294967296) * 256) % 4294967296)) ((((bt x0_1 2) % 4294967296) * 65536) % 4294967296)) ((((bt x0_1 3) % 4294967296) * 16777216) % 4294967296))] (fun _ => True) (fun _ => False) rfl rfl ?aP (fun _ hk => hk.elim) ?aF ?aO ?aB ?aS ?aL ?_
                      (case aP => exact rfl)
                      (case aB => exact (by repeat (first | (with_reducible first | exact HB.out | apply below_alloc | apply pw_below_drewN | apply below_drew1) | exact HB.out)))
                      (case aF => exact (fun _ _ => trivial))
                      (case aO => exact (by (with_reducible repeat (first | apply Kd.R_alloc | apply Kd.R_drewN | apply Kd.R_drew)); exact HO_4.out))
                      (case aS => exact (below_size (by repeat (first | (with_reducible first | exact HB.out | apply below_alloc | apply pw_below_drewN | apply below_drew1) | exact HB.out))))
                      (case aL => have := LMc12.out; omega)
                      intro v110 w15 ho hb hg hat
                      rw [← Ny109.out] at ho
                      have n0_ := Aside0.mk (hb)
                      have n1_ := Aside0.mk (ho)
                      clear HB
                      clear HO_4
                      have HB := n0_
                      have HO111 := n1_
                      clear n0_ n1_
                      clear ho hb hg hat
                      refine hK.out _ _ trivial (fun hHeld => ?_)
                      clear hK K
                      refine norm_ (a' := ?_) ?_ ?_
                      rotate_left
                      · show Act.put _ (some 34) _ = _
                        simp only [Act.put, List.setIfInBounds_toArray, List.set_cons_zero, List.set_cons_succ, i64_w, i32_w]
                        rfl
                      refine pure_ (i := 21) (N := some 4) (v := ?_) (a' := ?_) #[true, true, true, true, true, true, true, true, true, true, true, true, true, true, true, true, true, true, true, true, true, true] rfl rfl (any_of HT_.out (by kernel_rfl)) (fun _ _ _ h => h) (Or.inl ⟨by rfl, ?_⟩) ?_ ?_
                      rotate_left
                      · intro w'
                        go_simp
                        with_reducible rfl
                      rotate_left
                      · simp only [Act.put, List.setIfInBounds_toArray, List.set_cons_zero, List.set_cons_succ, i64_w, i32_w]
                        rfl
                      refine done_ (done_of HT_.out (by kernel_rfl)) ?_
                      try go_wp2
                      go_roundg k1
                      case measure => have := HK1.out; omega
                      case rel => exact ⟨(x0_1.extract 4 x0_1.size), (y109), (by first | rfl | (simp; done) | (simp [*]; done)), H', ⟨by have := HK1.out; omega⟩, ⟨by (with_reducible repeat (first | apply Kd.R_alloc | apply Kd.R_drewN | apply Kd.R_drew)); exact HO111.out⟩, ⟨by repeat (first | (with_reducible first | exact HB.out | apply below_alloc | apply pw_below_drewN | apply below_drew1) | exact HB.out)⟩⟩
                    · rw [if_neg c13] at H
                      exact absurd H (by simp)
                  · rw [if_neg c12] at H
                    exact absurd H (by simp)
                · rw [if_neg c10] at H
                  exact absurd H (by simp)
              · rw [if_neg c8] at H
                exact absurd H (by simp)
            · rw [if_neg c6] at H
              exact absurd H (by simp)
          · rw [if_neg c4] at H
            exact absurd H (by simp)
        · rw [if_neg c3] at H
          have c3b0 : decide (0 < (x0_1.size : Int)) = false := decide_eq_false c3
          have c3b1 : decide (0 < x0_1.size) = false := decide_eq_false (by omega)
          clear c3
          simp only [Option.some.injEq, Prod.mk.injEq] at H
          obtain ⟨rfl, rfl⟩ := H
          go_wp2
          go_ret2
          exact ⟨_, by first | rfl | (simp [errW_none, errW_some] <;> rfl) | (simp [*, errW_none, errW_some] <;> rfl), by (with_reducible repeat (first | apply Kd.R_alloc | apply Kd.R_drewN | apply Kd.R_drew)); exact HO_4.out, by repeat (first | (with_reducible first | exact HB.out | apply below_alloc | apply pw_below_drewN | apply below_drew1) | exact HB.out)⟩
  · rw [if_neg c2] at H
    have c2b0 : (((a0.size : Int) % 4) == 0) = false := beq_eq_false_iff_ne.mpr c2
    have c2b1 : (((a0.size : Int) % 4) != 0) = true := bne_iff_ne.mpr c2
    simp only [Option.some.injEq, Prod.mk.injEq] at H
    obtain ⟨rfl, rfl⟩ := H
    go_enter Tryd.func46, Tryd.ntmps46
    go_wp2
    go_ret2
    exact ⟨_, by first | rfl | (simp [errW_none, errW_some] <;> rfl) | (simp [*, errW_none, errW_some] <;> rfl), by first | exact Kd.R_nil _ _ _ _ _ | exact Kd.N_nil _ _ _ _ _ | exact Kd.V_nil _ _ _ _ _ | exact Kd.Q_nil _ _ _ _ _ | exact Kd.S_nil _ _ _ _ _, by repeat (first | (with_reducible first | exact HB.out | apply below_alloc | apply pw_below_drewN | apply below_drew1) | exact HB.out)⟩


end

section
/-! ### digest_take: function 47 -/
-- import HMix
-- import HWrite
/-- Blocks of four words, taken in one behind the other. -/
def spongeL : List Int → St → St
  | a :: b :: c :: d :: l, s => spongeL l (mixS ⟨xor32 s.a a, xor32 s.b b, xor32 s.c c, xor32 s.d d, s.e, s.f, s.g, s.h⟩)
  | _, s => s
theorem spongeL_short : ∀ (l : List Int) (s : St), l.length < 4 → spongeL l s = s
  | [], _, _ => rfl
  | [_], _, _ => rfl
  | [_, _], _, _ => rfl
  | [_, _, _], _, _ => rfl
  | _ :: _ :: _ :: _ :: _, _, h => by simp at h; omega
theorem spongeL_step (l : List Int) (s : St) (h : 4 ≤ l.length) : spongeL l s = spongeL (l.drop 4) (mixS ⟨xor32 s.a (rd l 0), xor32 s.b (rd l 1), xor32 s.c (rd l 2), xor32 s.d (rd l 3), s.e, s.f, s.g, s.h⟩) := by
  match l, h with
  | a :: b :: c :: d :: l, _ => rfl
def digest_take.f (a0 : Int) (l1 : List Int) : Option (Int × Int × Int × Int) := if InR a0 then some ((spongeL l1 ⟨a0, 0, 0, 0, 0, 0, 0, 0⟩).a, (spongeL l1 ⟨a0, 0, 0, 0, 0, 0, 0, 0⟩).b, (spongeL l1 ⟨a0, 0, 0, 0, 0, 0, 0, 0⟩).c, (spongeL l1 ⟨a0, 0, 0, 0, 0, 0, 0, 0⟩).d) else none
theorem arrayAt24 (g : Nat) (w : World) : (Instr.arrayAt 24 (.slice (some ⟨g, 0, none⟩) 4 8)).run Tryd.prog w = .ok (.pointer (some ⟨g, 0, none⟩)) w := by
  simp [Instr.arrayAt, run_underlying Tryd.underlying24]
theorem inR0 : InR 0 := by decide
theorem store_step {P : Program} {ops : Array Oper} {o : Oper} {a : Act} {Q : Exit → Act → World → Prop} {Kc : Act → World → Prop} {W w1 : World} (hw : Region.wanted o (yielded ops a.tmps) = true) (hN : o.dst = none) (hrun : (execOp a.eval o).run P W = .ok .skip w1) (h : Kc a w1) : if Region.wanted o (yielded ops a.tmps) = true then Oper.wp P o a W Kc Q else Kc (a.put none undef) W := by
  rw [if_pos hw]
  unfold Oper.wp
  rw [hrun]
  show Kc (a.put o.dst undef) w1
  rw [hN]
  exact h
set_option maxHeartbeats 8000000 in
set_option maxRecDepth 100000 in
theorem digest_take.calls (a0 : Int) (A1 : Option Addr) (c1 : Nat) (l1 : List Int) (r1 : Int) (r2 : Int) (r3 : Int) (r4 : Int) (w : World) (hr1 : Kd.C (Kd.int .u32) w A1 l1.length l1) (hc1 : l1.length ≤ c1) (h : digest_take.f a0 l1 = some (r1, r2, r3, r4)) (htb_ : Tab w) :
    Calls Tryd.prog 47 #[.int .u32 a0, .slice A1 l1.length c1] w fun e w' => e = .returned (.agg #[.int .u32 r1, .int .u32 r2, .int .u32 r3, .int .u32 r4]) ∧ Below w.heap.size w w' := by
  have hu24 := Tryd.underlying24
  have hu31 := Tryd.underlying31
  have HTB := Aside0.mk htb_
  clear htb_
  have hin : InR a0 := by
    unfold digest_take.f at h
    split at h
    · assumption
    · cases h
  obtain ⟨s0, hs0⟩ : ∃ s : St, spongeL l1 ⟨a0, 0, 0, 0, 0, 0, 0, 0⟩ = s := ⟨_, rfl⟩
  have HR : Aside0 (s0.a = r1 ∧ s0.b = r2 ∧ s0.c = r3 ∧ s0.d = r4) := by
    unfold digest_take.f at h
    rw [if_pos hin, hs0] at h
    have e := Option.some.inj h
    simp only [Prod.mk.injEq] at e
    exact ⟨e⟩
  have HS := Aside0.mk (And.intro hs0 (show (St.mk a0 0 0 0 0 0 0 0).Ok from ⟨hin, inR0, inR0, inR0, inR0, inR0, inR0, inR0⟩))
  clear h hin hs0
  have HC := Aside0.mk (And.intro hr1 hc1)
  clear hr1 hc1
  have HB := Aside0.mk (Below.refl w.heap.size w)
  go_enter Tryd.func47, Tryd.ntmps47
  go_wp2_with (first | ((with_reducible refine gate_dst (N := 4) rfl ?_); refine box_event ?hg (N := 4) ?hd (cs := #[.int .u32 0, .int .u32 0, .int .u32 0, .int .u32 0]) (t := 24) ?hr ?_; (case hd => rfl); (case hg => rfl); (case hr => first | (go_simp; done) | (go_simp; rfl)); intro g0 hg w2 hbox hb; have n0_ := Aside0.mk (below_step (by repeat (first | (with_reducible first | exact HB.out | apply below_alloc | apply pw_below_drewN | apply below_drew1) | exact HB.out)) hb); have n1_ := Aside0.mk hbox; have n2_ := Aside0.mk ((by rw [hg]; exact (below_size HB.out)) : w.heap.size ≤ g0); clear HB; have HB := n0_; have Kg0 := n1_; have Gg0 := n2_; clear n0_ n1_ n2_; clear hb hbox hg) | ((with_reducible refine gate_dst (N := 5) rfl ?_); refine box_event ?hg (N := 5) ?hd (cs := #[.int .u32 0, .int .u32 0, .int .u32 0, .int .u32 0, .int .u32 0, .int .u32 0, .int .u32 0, .int .u32 0]) (t := 31) ?hr ?_; (case hd => rfl); (case hg => rfl); (case hr => first | (go_simp; done) | (go_simp; rfl)); intro g1 hg w3 hbox hb; have n0_ := Aside0.mk (below_step (by repeat (first | (with_reducible first | exact HB.out | apply below_alloc | apply pw_below_drewN | apply below_drew1) | exact HB.out)) hb); have n1_ := Aside0.mk hbox; have n2_ := Aside0.mk ((by rw [hg]; exact (below_size HB.out)) : w.heap.size ≤ g1); have n3_ := Aside0.mk (blk_below (by (with_reducible repeat (first | refine blk_drewN ?_ _ | refine blk_drew ?_ | refine blk_alloc ?_ _)); exact Kg0.out) hb); have n4_ := Aside0.mk (show g0 ≠ g1 by rw [hg]; exact Nat.ne_of_lt (blk_lt Kg0.out)); clear HB Kg0; have HB := n0_; have Kg1 := n1_; have Gg1 := n2_; have Kg0 := n3_; have Ng0g1 := n4_; clear n0_ n1_ n2_ n3_ n4_; have cz_0 : w3.cell? ⟨g1, 0, none⟩ = some (.int .u32 0) := (blk_cell Kg1.out 0).trans rfl; have fz_0 := blk_frozen Kg1.out 0; have cz_1 : w3.cell? ⟨g1, 1, none⟩ = some (.int .u32 0) := (blk_cell Kg1.out 1).trans rfl; have fz_1 := blk_frozen Kg1.out 1; have cz_2 : w3.cell? ⟨g1, 2, none⟩ = some (.int .u32 0) := (blk_cell Kg1.out 2).trans rfl; have fz_2 := blk_frozen Kg1.out 2; have cz_3 : w3.cell? ⟨g1, 3, none⟩ = some (.int .u32 0) := (blk_cell Kg1.out 3).trans rfl; have fz_3 := blk_frozen Kg1.out 3; have cz_4 : w3.cell? ⟨g1, 4, none⟩ = some (.int .u32 0) := (blk_cell Kg1.out 4).trans rfl; have fz_4 := blk_frozen Kg1.out 4; have cz_5 : w3.cell? ⟨g1, 5, none⟩ = some (.int .u32 0) := (blk_cell Kg1.out 5).trans rfl; have fz_5 := blk_frozen Kg1.out 5; have cz_6 : w3.cell? ⟨g1, 6, none⟩ = some (.int .u32 0) := (blk_cell Kg1.out 6).trans rfl; have fz_6 := blk_frozen Kg1.out 6; have cz_7 : w3.cell? ⟨g1, 7, none⟩ = some (.int .u32 0) := (blk_cell Kg1.out 7).trans rfl; have fz_7 := blk_frozen Kg1.out 7; clear hb hbox hg))
  go_loopg [1] l1.length (fun kq v w' => ∃ (l : List Int) (A : Option Addr) (c : Nat) (s : St), v = .slice A l.length c ∧ Aside0 (l.length ≤ kq ∧ Kd.C (Kd.int .u32) w A l.length l ∧ l.length ≤ c) ∧ Aside0 (spongeL l s = s0 ∧ s.Ok) ∧ Aside0 (Below w.heap.size w w') ∧ Aside0 (w'.heap[g0]? = some (.cells #[.int .u32 0, .int .u32 0, .int .u32 0, .int .u32 0] 24 (0, 0))) ∧ Aside0 (w'.heap[g1]? = some (.cells #[.int .u32 (s.a), .int .u32 (s.b), .int .u32 (s.c), .int .u32 (s.d), .int .u32 (s.e), .int .u32 (s.f), .int .u32 (s.g), .int .u32 (s.h)] 31 (0, 0))))
  case atStart => exact ⟨l1, A1, c1, ⟨a0, 0, 0, 0, 0, 0, 0, 0⟩, rfl, ⟨Nat.le_refl _, HC.out.1, HC.out.2⟩, HS, ⟨(by repeat (first | (with_reducible first | exact HB.out | apply below_alloc | apply pw_below_drewN | apply below_drew1 | refine below_set ?_ Gg0.out | refine below_set ?_ Gg1.out) | exact HB.out))⟩, ⟨(Eq.trans (by (with_reducible repeat (first | exact Kg0.out | apply blk_set | apply far_put Ng0g1.out | apply far_put Ng0g1.out.symm | apply blk_drewN | apply blk_drew | apply blk_alloc))) (by first | rfl))⟩, ⟨(Eq.trans (by (with_reducible repeat (first | exact Kg1.out | apply blk_set | apply far_put Ng0g1.out | apply far_put Ng0g1.out.symm | apply blk_drewN | apply blk_drew | apply blk_alloc))) (by first | rfl))⟩⟩
  case round =>
    clear HB Kg0 Kg1 HS HC cz_0 fz_0 cz_1 fz_1 cz_2 fz_2 cz_3 fz_3 cz_4 fz_4 cz_5 fz_5 cz_6 fz_6 cz_7 fz_7
    obtain ⟨l, A, c, s, rfl, HL, HS, HB, Kg0, Kg1⟩ := hrel
    by_cases c1 : 4 ≤ l.length
    · obtain ⟨kp, rfl⟩ : ∃ kp, gk = kp + 1 := ⟨gk - 1, by have := HL.out.1; omega⟩
      have c1b : decide ((l.length : Int) ≥ 4) = true := decide_eq_true (by omega)
      have c1c : decide ((4 : Int) ≤ (l.length : Int)) = true := decide_eq_true (by omega)
      have c4c : (4 : Int) ≤ (c : Int) := by have := HL.out.2.2; omega
      have c4d : 4 ≤ c := by have := HL.out.2.2; omega
      obtain ⟨ad, rfl, hx⟩ := HL.out.2.1.2.2 (by omega)
      clear hx
      have HX0 : Aside0 (w.cell? (ad.add 0) = some (.int .u32 (rd l 0))) := by
        obtain ⟨ad_, e_, hx_⟩ := Kd.at_int HL.out.2.1 0 (by omega) (by omega)
        obtain rfl := Option.some.inj e_
        exact ⟨hx_⟩
      have HX1 : Aside0 (w.cell? (ad.add 1) = some (.int .u32 (rd l 1))) := by
        obtain ⟨ad_, e_, hx_⟩ := Kd.at_int HL.out.2.1 1 (by omega) (by omega)
        obtain rfl := Option.some.inj e_
        exact ⟨hx_⟩
      have HX2 : Aside0 (w.cell? (ad.add 2) = some (.int .u32 (rd l 2))) := by
        obtain ⟨ad_, e_, hx_⟩ := Kd.at_int HL.out.2.1 2 (by omega) (by omega)
        obtain rfl := Option.some.inj e_
        exact ⟨hx_⟩
      have HX3 : Aside0 (w.cell? (ad.add 3) = some (.int .u32 (rd l 3))) := by
        obtain ⟨ad_, e_, hx_⟩ := Kd.at_int HL.out.2.1 3 (by omega) (by omega)
        obtain rfl := Option.some.inj e_
        exact ⟨hx_⟩
      have HL4 := Aside0.mk c1
      clear c1
      go_wp2
      refine wp_loop_in ?_
      have fg0g1 : (g0 = g1) = False := eq_false Ng0g1.out
      have fg1g0 : (g1 = g0) = False := eq_false Ng0g1.out.symm
      refine inLoop_gen (fun w' => Below w.heap.size w w' ∧ w'.heap[g0]? = some (.cells #[.int .u32 0, .int .u32 0, .int .u32 0, .int .u32 0] 24 (0, 0)) ∧ w'.heap[g1]? = some (.cells #[.int .u32 (s.a), .int .u32 (s.b), .int .u32 (s.c), .int .u32 (s.d), .int .u32 (s.e), .int .u32 (s.f), .int .u32 (s.g), .int .u32 (s.h)] 31 (0, 0))) ⟨(by repeat (first | (with_reducible first | exact HB.out | apply below_alloc | apply pw_below_drewN | apply below_drew1 | refine below_set ?_ Gg0.out | refine below_set ?_ Gg1.out) | exact HB.out)), (Eq.trans (by (with_reducible repeat (first | exact Kg0.out | apply blk_set | apply far_put Ng0g1.out | apply far_put Ng0g1.out.symm | apply blk_drewN | apply blk_drew | apply blk_alloc))) (by first | rfl)), (Eq.trans (by (with_reducible repeat (first | exact Kg1.out | apply blk_set | apply far_put Ng0g1.out | apply far_put Ng0g1.out.symm | apply blk_drewN | apply blk_drew | apply blk_alloc))) (by first | rfl))⟩ ?_
      try clear K1
      intro wA hF
      clear HB
      obtain ⟨n0_, n1_, n2_⟩ := hF
      try clear Kg0
      try clear Kg1
      have HB := Aside0.mk n0_
      have Kg0 := Aside0.mk n1_
      have Kg1 := Aside0.mk n2_
      clear n0_ n1_ n2_
      have cg0_0 : wA.cell? ⟨g0, 0, none⟩ = some (.int .u32 0) := (blk_cell Kg0.out 0).trans rfl
      have zg0_0 := blk_frozen Kg0.out 0
      have cg0_1 : wA.cell? ⟨g0, 1, none⟩ = some (.int .u32 0) := (blk_cell Kg0.out 1).trans rfl
      have zg0_1 := blk_frozen Kg0.out 1
      have cg0_2 : wA.cell? ⟨g0, 2, none⟩ = some (.int .u32 0) := (blk_cell Kg0.out 2).trans rfl
      have zg0_2 := blk_frozen Kg0.out 2
      have cg0_3 : wA.cell? ⟨g0, 3, none⟩ = some (.int .u32 0) := (blk_cell Kg0.out 3).trans rfl
      have zg0_3 := blk_frozen Kg0.out 3
      have cg1_0 : wA.cell? ⟨g1, 0, none⟩ = some (.int .u32 s.a) := (blk_cell Kg1.out 0).trans rfl
      have zg1_0 := blk_frozen Kg1.out 0
      have cg1_1 : wA.cell? ⟨g1, 1, none⟩ = some (.int .u32 s.b) := (blk_cell Kg1.out 1).trans rfl
      have zg1_1 := blk_frozen Kg1.out 1
      have cg1_2 : wA.cell? ⟨g1, 2, none⟩ = some (.int .u32 s.c) := (blk_cell Kg1.out 2).trans rfl
      have zg1_2 := blk_frozen Kg1.out 2
      have cg1_3 : wA.cell? ⟨g1, 3, none⟩ = some (.int .u32 s.d) := (blk_cell Kg1.out 3).trans rfl
      have zg1_3 := blk_frozen Kg1.out 3
      have cg1_4 : wA.cell? ⟨g1, 4, none⟩ = some (.int .u32 s.e) := (blk_cell Kg1.out 4).trans rfl
      have zg1_4 := blk_frozen Kg1.out 4
      have cg1_5 : wA.cell? ⟨g1, 5, none⟩ = some (.int .u32 s.f) := (blk_cell Kg1.out 5).trans rfl
      have zg1_5 := blk_frozen Kg1.out 5
      have cg1_6 : wA.cell? ⟨g1, 6, none⟩ = some (.int .u32 s.g) := (blk_cell Kg1.out 6).trans rfl
      have zg1_6 := blk_frozen Kg1.out 6
      have cg1_7 : wA.cell? ⟨g1, 7, none⟩ = some (.int .u32 s.h) := (blk_cell Kg1.out 7).trans rfl
      have zg1_7 := blk_frozen Kg1.out 7
      have hx0 : wA.cell? (ad.add 0) = some (.int .u32 (rd l 0)) := (HB.out.cell (World.block_lt_of_cell? w _ HX0.out)).trans HX0.out
      have hx0' : wA.cell? ad = some (.int .u32 (rd l 0)) := hx0
      refine inLoop_k fun K1 hK1 => ?_
      go_wp2
      try clear hK1
      clear hx0 hx0'
      refine inLoop_gen (fun w' => Below w.heap.size w w' ∧ w'.heap[g0]? = some (.cells #[.int .u32 0, .int .u32 0, .int .u32 0, .int .u32 0] 24 (0, 0)) ∧ w'.heap[g1]? = some (.cells #[.int .u32 ((bits .xor .u32 s.a (rd l 0))), .int .u32 (s.b), .int .u32 (s.c), .int .u32 (s.d), .int .u32 (s.e), .int .u32 (s.f), .int .u32 (s.g), .int .u32 (s.h)] 31 (0, 0))) ⟨(by repeat (first | (with_reducible first | exact HB.out | apply below_alloc | apply pw_below_drewN | apply below_drew1 | refine below_set ?_ Gg0.out | refine below_set ?_ Gg1.out) | exact HB.out)), (Eq.trans (by (with_reducible repeat (first | exact Kg0.out | apply blk_set | apply far_put Ng0g1.out | apply far_put Ng0g1.out.symm | apply blk_drewN | apply blk_drew | apply blk_alloc))) (by first | rfl)), (Eq.trans (by (with_reducible repeat (first | exact Kg1.out | apply blk_set | apply far_put Ng0g1.out | apply far_put Ng0g1.out.symm | apply blk_drewN | apply blk_drew | apply blk_alloc))) (by first | rfl))⟩ ?_
      clear cg0_0 zg0_0 cg0_1 zg0_1 cg0_2 zg0_2 cg0_3 zg0_3
      clear cg1_0 zg1_0 cg1_1 zg1_1 cg1_2 zg1_2 cg1_3 zg1_3 cg1_4 zg1_4 cg1_5 zg1_5 cg1_6 zg1_6 cg1_7 zg1_7
      try clear K1
      intro wA hF
      clear HB
      obtain ⟨n0_, n1_, n2_⟩ := hF
      try clear Kg0
      try clear Kg1
      have HB := Aside0.mk n0_
      have Kg0 := Aside0.mk n1_
      have Kg1 := Aside0.mk n2_
      clear n0_ n1_ n2_
      have cg0_0 : wA.cell? ⟨g0, 0, none⟩ = some (.int .u32 0) := (blk_cell Kg0.out 0).trans rfl
      have zg0_0 := blk_frozen Kg0.out 0
      have cg0_1 : wA.cell? ⟨g0, 1, none⟩ = some (.int .u32 0) := (blk_cell Kg0.out 1).trans rfl
      have zg0_1 := blk_frozen Kg0.out 1
      have cg0_2 : wA.cell? ⟨g0, 2, none⟩ = some (.int .u32 0) := (blk_cell Kg0.out 2).trans rfl
      have zg0_2 := blk_frozen Kg0.out 2
      have cg0_3 : wA.cell? ⟨g0, 3, none⟩ = some (.int .u32 0) := (blk_cell Kg0.out 3).trans rfl
      have zg0_3 := blk_frozen Kg0.out 3
      have cg1_0 : wA.cell? ⟨g1, 0, none⟩ = some (.int .u32 (bits .xor .u32 s.a (rd l 0))) := (blk_cell Kg1.out 0).trans rfl
      have zg1_0 := blk_frozen Kg1.out 0
      have cg1_1 : wA.cell? ⟨g1, 1, none⟩ = some (.int .u32 s.b) := (blk_cell Kg1.out 1).trans rfl
      have zg1_1 := blk_frozen Kg1.out 1
      have cg1_2 : wA.cell? ⟨g1, 2, none⟩ = some (.int .u32 s.c) := (blk_cell Kg1.out 2).trans rfl
      have zg1_2 := blk_frozen Kg1.out 2
      have cg1_3 : wA.cell? ⟨g1, 3, none⟩ = some (.int .u32 s.d) := (blk_cell Kg1.out 3).trans rfl
      have zg1_3 := blk_frozen Kg1.out 3
      have cg1_4 : wA.cell? ⟨g1, 4, none⟩ = some (.int .u32 s.e) := (blk_cell Kg1.out 4).trans rfl
      have zg1_4 := blk_frozen Kg1.out 4
      have cg1_5 : wA.cell? ⟨g1, 5, none⟩ = some (.int .u32 s.f) := (blk_cell Kg1.out 5).trans rfl
      have zg1_5 := blk_frozen Kg1.out 5
      have cg1_6 : wA.cell? ⟨g1, 6, none⟩ = some (.int .u32 s.g) := (blk_cell Kg1.out 6).trans rfl
      have zg1_6 := blk_frozen Kg1.out 6
      have cg1_7 : wA.cell? ⟨g1, 7, none⟩ = some (.int .u32 s.h) := (blk_cell Kg1.out 7).trans rfl
      have zg1_7 := blk_frozen Kg1.out 7
      have hx1 : wA.cell? ⟨ad.block, ad.off + 1, none⟩ = some (.int .u32 (rd l 1)) := (HB.out.cell (World.block_lt_of_cell? w _ HX1.out)).trans HX1.out
      refine inLoop_k fun K1 hK1 => ?_
      go_wp2
      try clear hK1
      clear hx1
      refine inLoop_gen (fun w' => Below w.heap.size w w' ∧ w'.heap[g0]? = some (.cells #[.int .u32 0, .int .u32 0, .int .u32 0, .int .u32 0] 24 (0, 0)) ∧ w'.heap[g1]? = some (.cells #[.int .u32 ((bits .xor .u32 s.a (rd l 0))), .int .u32 ((bits .xor .u32 s.b (rd l 1))), .int .u32 (s.c), .int .u32 (s.d), .int .u32 (s.e), .int .u32 (s.f), .int .u32 (s.g), .int .u32 (s.h)] 31 (0, 0))) ⟨(by repeat (first | (with_reducible first | exact HB.out | apply below_alloc | apply pw_below_drewN | apply below_drew1 | refine below_set ?_ Gg0.out | refine below_set ?_ Gg1.out) | exact HB.out)), (Eq.trans (by (with_reducible repeat (first | exact Kg0.out | apply blk_set | apply far_put Ng0g1.out | apply far_put Ng0g1.out.symm | apply blk_drewN | apply blk_drew | apply blk_alloc))) (by first | rfl)), (Eq.trans (by (with_reducible repeat (first | exact Kg1.out | apply blk_set | apply far_put Ng0g1.out | apply far_put Ng0g1.out.symm | apply blk_drewN | apply blk_drew | apply blk_alloc))) (by first | rfl))⟩ ?_
      clear cg0_0 zg0_0 cg0_1 zg0_1 cg0_2 zg0_2 cg0_3 zg0_3
      clear cg1_0 zg1_0 cg1_1 zg1_1 cg1_2 zg1_2 cg1_3 zg1_3 cg1_4 zg1_4 cg1_5 zg1_5 cg1_6 zg1_6 cg1_7 zg1_7
      try clear K1
      intro wA hF
      clear HB
      obtain ⟨n0_, n1_, n2_⟩ := hF
      try clear Kg0
      try clear Kg1
      have HB := Aside0.mk n0_
      have Kg0 := Aside0.mk n1_
      have Kg1 := Aside0.mk n2_
      clear n0_ n1_ n2_
      have cg0_0 : wA.cell? ⟨g0, 0, none⟩ = some (.int .u32 0) := (blk_cell Kg0.out 0).trans rfl
      have zg0_0 := blk_frozen Kg0.out 0
      have cg0_1 : wA.cell? ⟨g0, 1, none⟩ = some (.int .u32 0) := (blk_cell Kg0.out 1).trans rfl
      have zg0_1 := blk_frozen Kg0.out 1
      have cg0_2 : wA.cell? ⟨g0, 2, none⟩ = some (.int .u32 0) := (blk_cell Kg0.out 2).trans rfl
      have zg0_2 := blk_frozen Kg0.out 2
      have cg0_3 : wA.cell? ⟨g0, 3, none⟩ = some (.int .u32 0) := (blk_cell Kg0.out 3).trans rfl
      have zg0_3 := blk_frozen Kg0.out 3
      have cg1_0 : wA.cell? ⟨g1, 0, none⟩ = some (.int .u32 (bits .xor .u32 s.a (rd l 0))) := (blk_cell Kg1.out 0).trans rfl
      have zg1_0 := blk_frozen Kg1.out 0
      have cg1_1 : wA.cell? ⟨g1, 1, none⟩ = some (.int .u32 (bits .xor .u32 s.b (rd l 1))) := (blk_cell Kg1.out 1).trans rfl
      have zg1_1 := blk_frozen Kg1.out 1
      have cg1_2 : wA.cell? ⟨g1, 2, none⟩ = some (.int .u32 s.c) := (blk_cell Kg1.out 2).trans rfl
      have zg1_2 := blk_frozen Kg1.out 2
      have cg1_3 : wA.cell? ⟨g1, 3, none⟩ = some (.int .u32 s.d) := (blk_cell Kg1.out 3).trans rfl
      have zg1_3 := blk_frozen Kg1.out 3
      have cg1_4 : wA.cell? ⟨g1, 4, none⟩ = some (.int .u32 s.e) := (blk_cell Kg1.out 4).trans rfl
      have zg1_4 := blk_frozen Kg1.out 4
      have cg1_5 : wA.cell? ⟨g1, 5, none⟩ = some (.int .u32 s.f) := (blk_cell Kg1.out 5).trans rfl
      have zg1_5 := blk_frozen Kg1.out 5
      have cg1_6 : wA.cell? ⟨g1, 6, none⟩ = some (.int .u32 s.g) := (blk_cell Kg1.out 6).trans rfl
      have zg1_6 := blk_frozen Kg1.out 6
      have cg1_7 : wA.cell? ⟨g1, 7, none⟩ = some (.int .u32 s.h) := (blk_cell Kg1.out 7).trans rfl
      have zg1_7 := blk_frozen Kg1.out 7
      have hx2 : wA.cell? ⟨ad.block, ad.off + 2, none⟩ = some (.int .u32 (rd l 2)) := (HB.out.cell (World.block_lt_of_cell? w _ HX2.out)).trans HX2.out
      refine inLoop_k fun K1 hK1 => ?_
      go_wp2
      try clear hK1
      clear hx2
      refine inLoop_gen (fun w' => Below w.heap.size w w' ∧ w'.heap[g0]? = some (.cells #[.int .u32 0, .int .u32 0, .int .u32 0, .int .u32 0] 24 (0, 0)) ∧ w'.heap[g1]? = some (.cells #[.int .u32 ((bits .xor .u32 s.a (rd l 0))), .int .u32 ((bits .xor .u32 s.b (rd l 1))), .int .u32 ((bits .xor .u32 s.c (rd l 2))), .int .u32 (s.d), .int .u32 (s.e), .int .u32 (s.f), .int .u32 (s.g), .int .u32 (s.h)] 31 (0, 0))) ⟨(by repeat (first | (with_reducible first | exact HB.out | apply below_alloc | apply pw_below_drewN | apply below_drew1 | refine below_set ?_ Gg0.out | refine below_set ?_ Gg1.out) | exact HB.out)), (Eq.trans (by (with_reducible repeat (first | exact Kg0.out | apply blk_set | apply far_put Ng0g1.out | apply far_put Ng0g1.out.symm | apply blk_drewN | apply blk_drew | apply blk_alloc))) (by first | rfl)), (Eq.trans (by (with_reducible repeat (first | exact Kg1.out | apply blk_set | apply far_put Ng0g1.out | apply far_put Ng0g1.out.symm | apply blk_drewN | apply blk_drew | apply blk_alloc))) (by first | rfl))⟩ ?_
      clear cg0_0 zg0_0 cg0_1 zg0_1 cg0_2 zg0_2 cg0_3 zg0_3
      clear cg1_0 zg1_0 cg1_1 zg1_1 cg1_2 zg1_2 cg1_3 zg1_3 cg1_4 zg1_4 cg1_5 zg1_5 cg1_6 zg1_6 cg1_7 zg1_7
      try clear K1
      intro wA hF
      clear HB
      obtain ⟨n0_, n1_, n2_⟩ := hF
      try clear Kg0
      try clear Kg1
      have HB := Aside0.mk n0_
      have Kg0 := Aside0.mk n1_
      have Kg1 := Aside0.mk n2_
      clear n0_ n1_ n2_
      have cg0_0 : wA.cell? ⟨g0, 0, none⟩ = some (.int .u32 0) := (blk_cell Kg0.out 0).trans rfl
      have zg0_0 := blk_frozen Kg0.out 0
      have cg0_1 : wA.cell? ⟨g0, 1, none⟩ = some (.int .u32 0) := (blk_cell Kg0.out 1).trans rfl
      have zg0_1 := blk_frozen Kg0.out 1
      have cg0_2 : wA.cell? ⟨g0, 2, none⟩ = some (.int .u32 0) := (blk_cell Kg0.out 2).trans rfl
      have zg0_2 := blk_frozen Kg0.out 2
      have cg0_3 : wA.cell? ⟨g0, 3, none⟩ = some (.int .u32 0) := (blk_cell Kg0.out 3).trans rfl
      have zg0_3 := blk_frozen Kg0.out 3
      have cg1_0 : wA.cell? ⟨g1, 0, none⟩ = some (.int .u32 (bits .xor .u32 s.a (rd l 0))) := (blk_cell Kg1.out 0).trans rfl
      have zg1_0 := blk_frozen Kg1.out 0
      have cg1_1 : wA.cell? ⟨g1, 1, none⟩ = some (.int .u32 (bits .xor .u32 s.b (rd l 1))) := (blk_cell Kg1.out 1).trans rfl
      have zg1_1 := blk_frozen Kg1.out 1
      have cg1_2 : wA.cell? ⟨g1, 2, none⟩ = some (.int .u32 (bits .xor .u32 s.c (rd l 2))) := (blk_cell Kg1.out 2).trans rfl
      have zg1_2 := blk_frozen Kg1.out 2
      have cg1_3 : wA.cell? ⟨g1, 3, none⟩ = some (.int .u32 s.d) := (blk_cell Kg1.out 3).trans rfl
      have zg1_3 := blk_frozen Kg1.out 3
      have cg1_4 : wA.cell? ⟨g1, 4, none⟩ = some (.int .u32 s.e) := (blk_cell Kg1.out 4).trans rfl
      have zg1_4 := blk_frozen Kg1.out 4
      have cg1_5 : wA.cell? ⟨g1, 5, none⟩ = some (.int .u32 s.f) := (blk_cell Kg1.out 5).trans rfl
      have zg1_5 := blk_frozen Kg1.out 5
      have cg1_6 : wA.cell? ⟨g1, 6, none⟩ = some (.int .u32 s.g) := (blk_cell Kg1.out 6).trans rfl
      have zg1_6 := blk_frozen Kg1.out 6
      have cg1_7 : wA.cell? ⟨g1, 7, none⟩ = some (.int .u32 s.h) := (blk_cell Kg1.out 7).trans rfl
      have zg1_7 := blk_frozen Kg1.out 7
      have hx3 : wA.cell? ⟨ad.block, ad.off + 3, none⟩ = some (.int .u32 (rd l 3)) := (HB.out.cell (World.block_lt_of_cell? w _ HX3.out)).trans HX3.out
      refine inLoop_k fun K1 hK1 => ?_
      go_wp2
      try clear hK1
      clear hx3
      refine inLoop_gen (fun w' => Below w.heap.size w w' ∧ w'.heap[g0]? = some (.cells #[.int .u32 0, .int .u32 0, .int .u32 0, .int .u32 0] 24 (0, 0)) ∧ w'.heap[g1]? = some (.cells #[.int .u32 ((bits .xor .u32 s.a (rd l 0))), .int .u32 ((bits .xor .u32 s.b (rd l 1))), .int .u32 ((bits .xor .u32 s.c (rd l 2))), .int .u32 ((bits .xor .u32 s.d (rd l 3))), .int .u32 (s.e), .int .u32 (s.f), .int .u32 (s.g), .int .u32 (s.h)] 31 (0, 0))) ⟨(by repeat (first | (with_reducible first | exact HB.out | apply below_alloc | apply pw_below_drewN | apply below_drew1 | refine below_set ?_ Gg0.out | refine below_set ?_ Gg1.out) | exact HB.out)), (Eq.trans (by (with_reducible repeat (first | exact Kg0.out | apply blk_set | apply far_put Ng0g1.out | apply far_put Ng0g1.out.symm | apply blk_drewN | apply blk_drew | apply blk_alloc))) (by first | rfl)), (Eq.trans (by (with_reducible repeat (first | exact Kg1.out | apply blk_set | apply far_put Ng0g1.out | apply far_put Ng0g1.out.symm | apply blk_drewN | apply blk_drew | apply blk_alloc))) (by first | rfl))⟩ ?_
      clear cg0_0 zg0_0 cg0_1 zg0_1 cg0_2 zg0_2 cg0_3 zg0_3
      clear cg1_0 zg1_0 cg1_1 zg1_1 cg1_2 zg1_2 cg1_3 zg1_3 cg1_4 zg1_4 cg1_5 zg1_5 cg1_6 zg1_6 cg1_7 zg1_7
      try clear K1
      intro wA hF
      clear HB
      obtain ⟨n0_, n1_, n2_⟩ := hF
      try clear Kg0
      try clear Kg1
      have HB := Aside0.mk n0_
      have Kg0 := Aside0.mk n1_
      have Kg1 := Aside0.mk n2_
      clear n0_ n1_ n2_
      have cg0_0 : wA.cell? ⟨g0, 0, none⟩ = some (.int .u32 0) := (blk_cell Kg0.out 0).trans rfl
      have zg0_0 := blk_frozen Kg0.out 0
      have cg0_1 : wA.cell? ⟨g0, 1, none⟩ = some (.int .u32 0) := (blk_cell Kg0.out 1).trans rfl
      have zg0_1 := blk_frozen Kg0.out 1
      have cg0_2 : wA.cell? ⟨g0, 2, none⟩ = some (.int .u32 0) := (blk_cell Kg0.out 2).trans rfl
      have zg0_2 := blk_frozen Kg0.out 2
      have cg0_3 : wA.cell? ⟨g0, 3, none⟩ = some (.int .u32 0) := (blk_cell Kg0.out 3).trans rfl
      have zg0_3 := blk_frozen Kg0.out 3
      have cg1_0 : wA.cell? ⟨g1, 0, none⟩ = some (.int .u32 (bits .xor .u32 s.a (rd l 0))) := (blk_cell Kg1.out 0).trans rfl
      have zg1_0 := blk_frozen Kg1.out 0
      have cg1_1 : wA.cell? ⟨g1, 1, none⟩ = some (.int .u32 (bits .xor .u32 s.b (rd l 1))) := (blk_cell Kg1.out 1).trans rfl
      have zg1_1 := blk_frozen Kg1.out 1
      have cg1_2 : wA.cell? ⟨g1, 2, none⟩ = some (.int .u32 (bits .xor .u32 s.c (rd l 2))) := (blk_cell Kg1.out 2).trans rfl
      have zg1_2 := blk_frozen Kg1.out 2
      have cg1_3 : wA.cell? ⟨g1, 3, none⟩ = some (.int .u32 (bits .xor .u32 s.d (rd l 3))) := (blk_cell Kg1.out 3).trans rfl
      have zg1_3 := blk_frozen Kg1.out 3
      have cg1_4 : wA.cell? ⟨g1, 4, none⟩ = some (.int .u32 s.e) := (blk_cell Kg1.out 4).trans rfl
      have zg1_4 := blk_frozen Kg1.out 4
      have cg1_5 : wA.cell? ⟨g1, 5, none⟩ = some (.int .u32 s.f) := (blk_cell Kg1.out 5).trans rfl
      have zg1_5 := blk_frozen Kg1.out 5
      have cg1_6 : wA.cell? ⟨g1, 6, none⟩ = some (.int .u32 s.g) := (blk_cell Kg1.out 6).trans rfl
      have zg1_6 := blk_frozen Kg1.out 6
      have cg1_7 : wA.cell? ⟨g1, 7, none⟩ = some (.int .u32 s.h) := (blk_cell Kg1.out 7).trans rfl
      have zg1_7 := blk_frozen Kg1.out 7
      refine inLoop_k fun K1 hK1 => ?_
      go_wp2
      try clear hK1
      clear cg0_0 zg0_0 cg0_1 zg0_1 cg0_2 zg0_2 cg0_3 zg0_3
      clear cg1_0 zg1_0 cg1_1 zg1_1 cg1_2 zg1_2 cg1_3 zg1_3 cg1_4 zg1_4 cg1_5 zg1_5 cg1_6 zg1_6 cg1_7 zg1_7
      try clear K1
      obtain ⟨A', hcut, HC2⟩ := cut4 (some ad) c l HL4.out HL.out.2.1 HL.out.2.2
      have HC3 := Aside0.mk HC2
      clear HC2
      obtain ⟨m, hm⟩ : ∃ m : St, m = mixS ⟨xor32 s.a (rd l 0), xor32 s.b (rd l 1), xor32 s.c (rd l 2), xor32 s.d (rd l 3), s.e, s.f, s.g, s.h⟩ := ⟨_, rfl⟩
      have hmf : digest_Mix.f (bits .xor .u32 s.a (rd l 0)) (bits .xor .u32 s.b (rd l 1)) (bits .xor .u32 s.c (rd l 2)) (bits .xor .u32 s.d (rd l 3)) s.e s.f s.g s.h = some (m.a, m.b, m.c, m.d, m.e, m.f, m.g, m.h) := by
        rw [hm]
        exact if_pos ⟨xor32_range _ _, xor32_range _ _, xor32_range _ _, xor32_range _ _, HS.out.2.2.2.2.2.1, HS.out.2.2.2.2.2.2.1, HS.out.2.2.2.2.2.2.2.1, HS.out.2.2.2.2.2.2.2.2⟩
      have HMF := Aside0.mk hmf
      have HM := Aside0.mk hm
      clear hm hmf
      refine start_ (n := 6) (S := fun w' => w'.heap[g1]? = some (.cells #[.int .u32 ((bits .xor .u32 s.a (rd l 0))), .int .u32 ((bits .xor .u32 s.b (rd l 1))), .int .u32 ((bits .xor .u32 s.c (rd l 2))), .int .u32 ((bits .xor .u32 s.d (rd l 3))), .int .u32 (s.e), .int .u32 (s.f), .int .u32 (s.g), .int .u32 (s.h)] 31 (0, 0))) (ds := [4]) #[false, false, false, false, false, false] (by kernel_rfl) rfl rfl (blk_drew Kg1.out) (fun hHeld => ?_)
      refine pure_ (i := 2) (N := (some 30)) (v := ?_) (a' := ?_) #[false, false, true, false, false, false] rfl rfl (by kernel_rfl) (fun _ _ _ h => h) (Or.inl ⟨by rfl, ?_⟩) ?_ ?_
      rotate_left
      · intro w'
        go_simp
        with_reducible rfl
      rotate_left
      · simp only [Act.put, List.setIfInBounds_toArray, List.set_cons_zero, List.set_cons_succ, i64_w, i32_w]
        rfl
      refine pure_ (i := 3) (N := (some 31)) (v := ?_) (a' := ?_) #[false, false, true, true, false, false] rfl rfl (by kernel_rfl) (fun _ _ _ h => h) (Or.inl ⟨by rfl, ?_⟩) ?_ ?_
      rotate_left
      · intro w'
        go_simp
        with_reducible rfl
      rotate_left
      · simp only [Act.put, List.setIfInBounds_toArray, List.set_cons_zero, List.set_cons_succ, i64_w, i32_w]
        rfl
      refine take_ (i := 0) (N := (some 28)) (v := ?_) (a' := ?_) #[true, false, true, true, false, false] rfl rfl (by kernel_rfl) (fun _ _ _ h => h) (Or.inl ⟨by rfl, ?_⟩) hHeld ?_ ?_
      rotate_left
      · intro w' hS_
        have cz0_ := (blk_cell hS_ 0).trans rfl; have cz1_ := (blk_cell hS_ 1).trans rfl; have cz2_ := (blk_cell hS_ 2).trans rfl; have cz3_ := (blk_cell hS_ 3).trans rfl; have cz4_ := (blk_cell hS_ 4).trans rfl; have cz5_ := (blk_cell hS_ 5).trans rfl; have cz6_ := (blk_cell hS_ 6).trans rfl; have cz7_ := (blk_cell hS_ 7).trans rfl
        go_simp
        with_reducible rfl
      rotate_left
      · simp only [Act.put, List.setIfInBounds_toArray, List.set_cons_zero, List.set_cons_succ, i64_w, i32_w]
        rfl
      refine one_ (i := 1) (N := (some 29)) #[true, true, true, true, false, false] rfl rfl (by kernel_rfl) (by decide) (fun K hK => ?_)
      refine goes_ Tryd.func22 (by kernel_rfl) rfl #[.agg #[.int .u32 ((bits .xor .u32 s.a (rd l 0))), .int .u32 ((bits .xor .u32 s.b (rd l 1))), .int .u32 ((bits .xor .u32 s.c (rd l 2))), .int .u32 ((bits .xor .u32 s.d (rd l 3))), .int .u32 (s.e), .int .u32 (s.f), .int .u32 (s.g), .int .u32 (s.h)]] (by rfl) rfl rfl (by (try simp only [List.map_toArray, List.map_cons, List.map_nil]); first | done | rfl) ?_
      with_reducible refine (digest_Mix.calls _ _ _ _ _ _ _ _ m.a m.b m.c m.d m.e m.f m.g m.h _ HMF.out (Tab.below HTB.out (by repeat (first | (with_reducible first | exact HB.out | apply below_alloc | apply pw_below_drewN | apply below_drew1 | refine below_set ?_ Gg0.out | refine below_set ?_ Gg1.out) | exact HB.out)))).mono ?_
      rintro e w5 ⟨rfl, hb⟩
      refine ⟨_, rfl, ?_⟩
      have n0_ := Aside0.mk (blk_below hHeld hb)
      have n1_ := Aside0.mk (blk_below (blk_drew Kg0.out) hb)
      have n2_ := Aside0.mk (below_step (by repeat (first | (with_reducible first | exact HB.out | apply below_alloc | apply pw_below_drewN | apply below_drew1 | refine below_set ?_ Gg0.out | refine below_set ?_ Gg1.out) | exact HB.out)) hb)
      clear HB Kg0 Kg1 hb
      have Kg1 := n0_
      have Kg0 := n1_
      have HB := n2_
      clear n0_ n1_ n2_
      refine hK.out _ _ Kg1.out (fun hHeld => ?_)
      clear hK K
      refine norm_ (a' := ?_) ?_ ?_
      rotate_left
      · show Act.put _ (some 29) _ = _
        simp only [Act.put, List.setIfInBounds_toArray, List.set_cons_zero, List.set_cons_succ, i64_w, i32_w]
        rfl
      refine last_ (i := 4) (N := none) #[true, true, true, true, true, false] rfl rfl (by kernel_rfl) (by decide) (fun K hK => ?_)
      have cz_0 := (blk_cell Kg1.out 0).trans rfl
      have fz_0 := blk_frozen Kg1.out 0
      have cz_1 := (blk_cell Kg1.out 1).trans rfl
      have fz_1 := blk_frozen Kg1.out 1
      have cz_2 := (blk_cell Kg1.out 2).trans rfl
      have fz_2 := blk_frozen Kg1.out 2
      have cz_3 := (blk_cell Kg1.out 3).trans rfl
      have fz_3 := blk_frozen Kg1.out 3
      have cz_4 := (blk_cell Kg1.out 4).trans rfl
      have fz_4 := blk_frozen Kg1.out 4
      have cz_5 := (blk_cell Kg1.out 5).trans rfl
      have fz_5 := blk_frozen Kg1.out 5
      have cz_6 := (blk_cell Kg1.out 6).trans rfl
      have fz_6 := blk_frozen Kg1.out 6
      have cz_7 := (blk_cell Kg1.out 7).trans rfl
      have fz_7 := blk_frozen Kg1.out 7
      refine store_step (w1 := ?w1_) ?hg ?hN ?hr ?_; (case hg => rfl); (case hN => rfl); (case hr => first | (go_simp; done) | (go_simp; rfl))
      refine hK.out _ _ ?_
      clear hK K
      refine pure_ (i := 5) (N := (some 1)) (v := ?_) (a' := ?_) #[true, true, true, true, true, true] rfl rfl (by kernel_rfl) (fun _ _ _ h => h) (Or.inl ⟨by rfl, ?_⟩) ?_ ?_
      rotate_left
      · intro w'
        go_simp
        with_reducible rfl
      rotate_left
      · simp only [Act.put, List.setIfInBounds_toArray, List.set_cons_zero, List.set_cons_succ, i64_w, i32_w]
        rfl
      refine done_ (by kernel_rfl) ?_
      go_wp2
      go_roundg kp
      case measure => omega
      case rel => exact ⟨l.drop 4, A', c - 4, m, by first | rfl | (simp; done), ⟨by have := HL.out.1; have := HL4.out; rw [List.length_drop]; omega, HC3.out.1, HC3.out.2⟩, ⟨by rw [HM.out]; exact (spongeL_step l s HL4.out).symm.trans HS.out.1, by rw [HM.out]; exact mixN_ok 8 1 _ ⟨xor32_range _ _, xor32_range _ _, xor32_range _ _, xor32_range _ _, HS.out.2.2.2.2.2.1, HS.out.2.2.2.2.2.2.1, HS.out.2.2.2.2.2.2.2.1, HS.out.2.2.2.2.2.2.2.2⟩⟩, ⟨(by repeat (first | (with_reducible first | exact HB.out | apply below_alloc | apply pw_below_drewN | apply below_drew1 | refine below_set ?_ Gg0.out | refine below_set ?_ Gg1.out) | exact HB.out))⟩, ⟨(Eq.trans (by (with_reducible repeat (first | exact Kg0.out | apply blk_set | apply far_put Ng0g1.out | apply far_put Ng0g1.out.symm | apply blk_drewN | apply blk_drew | apply blk_alloc))) (by first | rfl))⟩, ⟨(Eq.trans (by (with_reducible repeat (first | exact Kg1.out | apply blk_set | apply far_put Ng0g1.out | apply far_put Ng0g1.out.symm | apply blk_drewN | apply blk_drew | apply blk_alloc))) (by first | rfl))⟩⟩
    · have c1b : decide ((l.length : Int) ≥ 4) = false := decide_eq_false (by omega)
      have c1c : decide ((4 : Int) ≤ (l.length : Int)) = false := decide_eq_false (by omega)
      have hs : s = s0 := (spongeL_short l s (by omega)).symm.trans HS.out.1
      subst hs
      obtain ⟨q1, q2, q3, q4⟩ := HR.out
      have Q1 := Aside0.mk q1
      have Q2 := Aside0.mk q2
      have Q3 := Aside0.mk q3
      have Q4 := Aside0.mk q4
      clear q1 q2 q3 q4 HR
      have cg0_0 : wr.cell? ⟨g0, 0, none⟩ = some (.int .u32 0) := (blk_cell Kg0.out 0).trans rfl
      have zg0_0 := blk_frozen Kg0.out 0
      have cg0_1 : wr.cell? ⟨g0, 1, none⟩ = some (.int .u32 0) := (blk_cell Kg0.out 1).trans rfl
      have zg0_1 := blk_frozen Kg0.out 1
      have cg0_2 : wr.cell? ⟨g0, 2, none⟩ = some (.int .u32 0) := (blk_cell Kg0.out 2).trans rfl
      have zg0_2 := blk_frozen Kg0.out 2
      have cg0_3 : wr.cell? ⟨g0, 3, none⟩ = some (.int .u32 0) := (blk_cell Kg0.out 3).trans rfl
      have zg0_3 := blk_frozen Kg0.out 3
      have cg1_0 : wr.cell? ⟨g1, 0, none⟩ = some (.int .u32 s.a) := (blk_cell Kg1.out 0).trans rfl
      have zg1_0 := blk_frozen Kg1.out 0
      have cg1_1 : wr.cell? ⟨g1, 1, none⟩ = some (.int .u32 s.b) := (blk_cell Kg1.out 1).trans rfl
      have zg1_1 := blk_frozen Kg1.out 1
      have cg1_2 : wr.cell? ⟨g1, 2, none⟩ = some (.int .u32 s.c) := (blk_cell Kg1.out 2).trans rfl
      have zg1_2 := blk_frozen Kg1.out 2
      have cg1_3 : wr.cell? ⟨g1, 3, none⟩ = some (.int .u32 s.d) := (blk_cell Kg1.out 3).trans rfl
      have zg1_3 := blk_frozen Kg1.out 3
      have cg1_4 : wr.cell? ⟨g1, 4, none⟩ = some (.int .u32 s.e) := (blk_cell Kg1.out 4).trans rfl
      have zg1_4 := blk_frozen Kg1.out 4
      have cg1_5 : wr.cell? ⟨g1, 5, none⟩ = some (.int .u32 s.f) := (blk_cell Kg1.out 5).trans rfl
      have zg1_5 := blk_frozen Kg1.out 5
      have cg1_6 : wr.cell? ⟨g1, 6, none⟩ = some (.int .u32 s.g) := (blk_cell Kg1.out 6).trans rfl
      have zg1_6 := blk_frozen Kg1.out 6
      have cg1_7 : wr.cell? ⟨g1, 7, none⟩ = some (.int .u32 s.h) := (blk_cell Kg1.out 7).trans rfl
      have zg1_7 := blk_frozen Kg1.out 7
      have fg0g1 : (g0 = g1) = False := eq_false Ng0g1.out
      have fg1g0 : (g1 = g0) = False := eq_false Ng0g1.out.symm
      have hat := arrayAt24 g1 wr
      go_wp2
      refine bodyPost_ret (results_cell_row rfl _ _ (g0) 24 #[.int .u32 (s.a), .int .u32 (s.b), .int .u32 (s.c), .int .u32 (s.d)] (0, 0) _ rfl (by (with_reducible repeat (first | refine blk_drewN ?_ _ | refine blk_drew ?_)); refine blk_put (cs := #[.int .u32 (s.a), .int .u32 (s.b), .int .u32 (s.c), .int .u32 0]) ?_ 3 _ rfl; (with_reducible repeat (first | refine blk_drewN ?_ _ | refine blk_drew ?_)); refine blk_put (cs := #[.int .u32 (s.a), .int .u32 (s.b), .int .u32 0, .int .u32 0]) ?_ 2 _ rfl; (with_reducible repeat (first | refine blk_drewN ?_ _ | refine blk_drew ?_)); refine blk_put (cs := #[.int .u32 (s.a), .int .u32 0, .int .u32 0, .int .u32 0]) ?_ 1 _ rfl; (with_reducible repeat (first | refine blk_drewN ?_ _ | refine blk_drew ?_)); refine blk_put (cs := #[.int .u32 0, .int .u32 0, .int .u32 0, .int .u32 0]) ?_ 0 _ rfl; (with_reducible repeat (first | refine blk_drewN ?_ _ | refine blk_drew ?_)); exact Kg0.out) Tryd.underlying24 rfl (by kernel_rfl)) rfl ?_
      exact ⟨by rw [← Q1.out, ← Q2.out, ← Q3.out, ← Q4.out], (by repeat (first | (with_reducible first | exact HB.out | apply below_alloc | apply pw_below_drewN | apply below_drew1 | refine below_set ?_ Gg0.out | refine below_set ?_ Gg1.out) | exact HB.out))⟩


end

section
attribute [local go_sem high] eqA24
/-! ### digest_Pair: function 28 -/
-- import HMix
-- import HWrite
def digest_Pair.f (a0_0 : Int) (a0_1 : Int) (a0_2 : Int) (a0_3 : Int) (a1_0 : Int) (a1_1 : Int) (a1_2 : Int) (a1_3 : Int) : Option (Int × Int × Int × Int) := digest_take.f 2 [a0_0, a0_1, a0_2, a0_3, a1_0, a1_1, a1_2, a1_3]
/-- Two boxes of four words, appended: a new row of eight. -/
theorem append8 (W : World) (ga gb : Nat) (x0 x1 x2 x3 y0 y1 y2 y3 : Int) (ha : W.heap[ga]? = some (.cells #[.int .u32 x0, .int .u32 x1, .int .u32 x2, .int .u32 x3] 24 (0, 0))) (hb : W.heap[gb]? = some (.cells #[.int .u32 y0, .int .u32 y1, .int .u32 y2, .int .u32 y3] 24 (0, 0))) :
    ∃ (c : Nat) (w1 : World), (Builtin.append_ #[60, 60] 60 #[.slice (some ⟨ga, 0, none⟩) 4 4, .slice (some ⟨gb, 0, none⟩) 4 4]).run Tryd.prog W = .ok (.slice (some ⟨W.heap.size, 0, none⟩) 8 c) w1 ∧ 8 ≤ c ∧ Below W.heap.size W w1 ∧ Kd.C (Kd.int .u32) w1 (some ⟨W.heap.size, 0, none⟩) 8 [x0, x1, x2, x3, y0, y1, y2, y3] := by
  obtain ⟨i, hi, hh⟩ := Option.map_eq_some_iff.1 info22
  simp only [Prod.mk.injEq] at hh
  obtain ⟨hz, hsz, hby⟩ := hh
  have hr := run_append_grow (P := Tryd.prog) W 60 60 22 i (.int .u32 0) Tryd.underlying60 hi hz ⟨ga, 0, none⟩ 4 4 [.int .u32 x0, .int .u32 x1, .int .u32 x2, .int .u32 x3] (by rw [hsz]; rfl)
    (fun j v hj => by rw [add_at, Nat.zero_add]; exact (blk_cell ha j).trans (by simpa using hj)) ⟨gb, 0, none⟩ 4 4 [.int .u32 y0, .int .u32 y1, .int .u32 y2, .int .u32 y3] (by rw [hsz]; rfl) (fun j v hj => by rw [add_at, Nat.zero_add]; exact (blk_cell hb j).trans (by simpa using hj)) (by decide) (by decide) (growslice_fits (by decide) (by rw [hby]; decide))
  have hge : 8 ≤ grownCap W 8 4 22 := grownCap_ge W 8 4 22
  have hle : grownCap W 8 4 22 ≤ maxLen := grownCap_le_maxLen W 8 4 22 (by unfold maxLen; decide)
  refine ⟨grownCap W 8 4 22, _, hr, hge, below_alloc (below_drew1 (Below.refl _ _)) _, ?_⟩
  have ho : ((W.drew.alloc (.cells (#[.int .u32 x0, .int .u32 x1, .int .u32 x2, .int .u32 x3] ++ #[.int .u32 y0, .int .u32 y1, .int .u32 y2, .int .u32 y3] ++ Builtin.zeroCells (Value.int .u32 0).cells (grownCap W 8 4 22 - 8)) 22)) : World).ownsRow W.heap.size 22 1 (.slice (some ⟨W.heap.size, 0, none⟩) 8 (grownCap W 8 4 22)) 8 (encs (Value.int .u32) [x0, x1, x2, x3, y0, y1, y2, y3]) := by
    refine ⟨rfl, .inr ⟨W.heap.size, _, _, rfl, Nat.le_refl _, heap_alloc_new W.drew _, hge, hle, ?_, ?_⟩⟩
    · have hz1 : (Value.int IntKind.u32 0).cells.size = 1 := rfl
      simp only [Array.size_append, List.size_toArray, size_zeroCells, hz1]
      simp only [List.length_cons, List.length_nil]
      omega
    · simp [encs]
  exact (Kd.R_reads' (Kd.R_of_own (h1 := fun _ => rfl) (ok := fun _ => True) (xs := [x0, x1, x2, x3, y0, y1, y2, y3]) ho (fun _ _ => trivial))).2.2
set_option maxHeartbeats 8000000 in
set_option maxRecDepth 100000 in
theorem digest_Pair.calls (a0_0 : Int) (a0_1 : Int) (a0_2 : Int) (a0_3 : Int) (a1_0 : Int) (a1_1 : Int) (a1_2 : Int) (a1_3 : Int) (r1 : Int) (r2 : Int) (r3 : Int) (r4 : Int) (w : World) (h : digest_Pair.f a0_0 a0_1 a0_2 a0_3 a1_0 a1_1 a1_2 a1_3 = some (r1, r2, r3, r4)) (htb_ : Tab w) :
    Calls Tryd.prog 28 #[.agg #[.int .u32 a0_0, .int .u32 a0_1, .int .u32 a0_2, .int .u32 a0_3], .agg #[.int .u32 a1_0, .int .u32 a1_1, .int .u32 a1_2, .int .u32 a1_3]] w fun e w' => e = .returned (.agg #[.int .u32 r1, .int .u32 r2, .int .u32 r3, .int .u32 r4]) ∧ Below w.heap.size w w' := by
  have hu24 := Tryd.underlying24
  have HTB := Aside0.mk htb_
  clear htb_
  have HF := Aside0.mk h
  clear h
  have HB := Aside0.mk (Below.refl w.heap.size w)
  go_enter Tryd.func28, Tryd.ntmps28
  go_wp2_with (first | ((with_reducible refine gate_dst (N := 2) rfl ?_); refine box_event ?hg (N := 2) ?hd (cs := #[.int .u32 a0_0, .int .u32 a0_1, .int .u32 a0_2, .int .u32 a0_3]) (t := 24) ?hr ?_; (case hd => rfl); (case hg => rfl); (case hr => first | (go_simp; done) | (go_simp; rfl)); intro g0 hg w2 hbox hb; have n0_ := Aside0.mk (below_step (by repeat (first | (with_reducible first | exact HB.out | apply below_alloc | apply pw_below_drewN | apply below_drew1) | exact HB.out)) hb); have n1_ := Aside0.mk hbox; have n2_ := Aside0.mk ((by rw [hg]; exact (below_size HB.out)) : w.heap.size ≤ g0); clear HB ; have HB := n0_; have Kg0 := n1_; have Gg0 := n2_; clear n0_ n1_ n2_;  clear hb hbox hg) | ((with_reducible refine gate_dst (N := 3) rfl ?_); refine box_event ?hg (N := 3) ?hd (cs := #[.int .u32 a1_0, .int .u32 a1_1, .int .u32 a1_2, .int .u32 a1_3]) (t := 24) ?hr ?_; (case hd => rfl); (case hg => rfl); (case hr => first | (go_simp; done) | (go_simp; rfl)); intro g1 hg w3 hbox hb; have n0_ := Aside0.mk (below_step (by repeat (first | (with_reducible first | exact HB.out | apply below_alloc | apply pw_below_drewN | apply below_drew1) | exact HB.out)) hb); have n1_ := Aside0.mk hbox; have n2_ := Aside0.mk ((by rw [hg]; exact (below_size HB.out)) : w.heap.size ≤ g1); have m0_ := Aside0.mk (blk_below (by (with_reducible repeat (first | refine blk_drewN ?_ _ | refine blk_drew ?_ | refine blk_alloc ?_ _)); exact Kg0.out) hb); have k0_ := Aside0.mk (show g0 ≠ g1 by rw [hg]; exact Nat.ne_of_lt (blk_lt Kg0.out)); clear HB Kg0; have HB := n0_; have Kg1 := n1_; have Gg1 := n2_; clear n0_ n1_ n2_; have Kg0 := m0_; have Ng0g1 := k0_; clear m0_ k0_;  clear hb hbox hg) | ((with_reducible refine gate_dst (N := 4) rfl ?_); refine box_event ?hg (N := 4) ?hd (cs := #[.int .u32 0, .int .u32 0, .int .u32 0, .int .u32 0]) (t := 24) ?hr ?_; (case hd => rfl); (case hg => rfl); (case hr => first | (go_simp; done) | (go_simp; rfl)); intro g2 hg w4 hbox hb; have n0_ := Aside0.mk (below_step (by repeat (first | (with_reducible first | exact HB.out | apply below_alloc | apply pw_below_drewN | apply below_drew1) | exact HB.out)) hb); have n1_ := Aside0.mk hbox; have n2_ := Aside0.mk ((by rw [hg]; exact (below_size HB.out)) : w.heap.size ≤ g2); have m0_ := Aside0.mk (blk_below (by (with_reducible repeat (first | refine blk_drewN ?_ _ | refine blk_drew ?_ | refine blk_alloc ?_ _)); exact Kg0.out) hb); have k0_ := Aside0.mk (show g0 ≠ g2 by rw [hg]; exact Nat.ne_of_lt (blk_lt Kg0.out)); have m1_ := Aside0.mk (blk_below (by (with_reducible repeat (first | refine blk_drewN ?_ _ | refine blk_drew ?_ | refine blk_alloc ?_ _)); exact Kg1.out) hb); have k1_ := Aside0.mk (show g1 ≠ g2 by rw [hg]; exact Nat.ne_of_lt (blk_lt Kg1.out)); clear HB Kg0 Kg1; have HB := n0_; have Kg2 := n1_; have Gg2 := n2_; clear n0_ n1_ n2_; have Kg0 := m0_; have Ng0g2 := k0_; clear m0_ k0_; have Kg1 := m1_; have Ng1g2 := k1_; clear m1_ k1_;  clear hb hbox hg))
  obtain ⟨c, w5, hrun, hc, hb5, hC⟩ := append8 w4.drew g0 g1 a0_0 a0_1 a0_2 a0_3 a1_0 a1_1 a1_2 a1_3 (blk_drew Kg0.out) (blk_drew Kg1.out)
  have HC := Aside0.mk (And.intro hc hC)
  have HRUN := Aside0.mk hrun
  have n0_ := Aside0.mk (blk_below (blk_drew Kg2.out) hb5)
  have n1_ := Aside0.mk (below_step (by repeat (first | (with_reducible first | exact HB.out | apply below_alloc | apply pw_below_drewN | apply below_drew1 | refine below_set ?_ Gg0.out | refine below_set ?_ Gg1.out | refine below_set ?_ Gg2.out) | exact HB.out)) hb5)
  clear hc hC hrun hb5
  refine start_ (n := 5) (S := fun w' => True) (ds := [4]) #[false, false, false, false, false] (by kernel_rfl) rfl rfl trivial (fun hHeld => ?_)
  refine pure_ (i := 0) (N := (some 5)) (v := ?_) (a' := ?_) #[true, false, false, false, false] rfl rfl (by kernel_rfl) (fun _ _ _ h => h) (Or.inl ⟨by rfl, ?_⟩) ?_ ?_
  rotate_left
  · intro w'
    go_simp
    with_reducible rfl
  rotate_left
  · simp only [Act.put, List.setIfInBounds_toArray, List.set_cons_zero, List.set_cons_succ, i64_w, i32_w]
    rfl
  refine pure_ (i := 1) (N := (some 6)) (v := ?_) (a' := ?_) #[true, true, false, false, false] rfl rfl (by kernel_rfl) (fun _ _ _ h => h) (Or.inl ⟨by rfl, ?_⟩) ?_ ?_
  rotate_left
  · intro w'
    go_simp
    with_reducible rfl
  rotate_left
  · simp only [Act.put, List.setIfInBounds_toArray, List.set_cons_zero, List.set_cons_succ, i64_w, i32_w]
    rfl
  refine one_ (i := 2) (N := (some 7)) #[true, true, true, false, false] rfl rfl (by kernel_rfl) (by decide) (fun K hK => ?_)
  refine event_step (v := .slice (some ⟨w4.heap.size, 0, none⟩) 8 c) (w1 := w5) ?hg ?hr ?_; (case hg => rfl); (case hr => exact step_append HRUN.out)
  refine hK.out _ _ trivial (fun hHeld => ?_)
  clear hK K HB Kg2 Kg0 Kg1
  have HB := n1_
  have Kg2 := n0_
  clear n0_ n1_
  refine norm_ (a' := ?_) ?_ ?_
  rotate_left
  · show Act.put _ (some 7) _ = _
    simp only [Act.put, List.setIfInBounds_toArray, List.set_cons_zero, List.set_cons_succ, i64_w, i32_w]
    rfl
  refine one_ (i := 3) (N := (some 8)) #[true, true, true, true, false] rfl rfl (by kernel_rfl) (by decide) (fun K hK => ?_)
  refine goes_ Tryd.func47 (by kernel_rfl) rfl #[.int .u32 2, .slice (some ⟨w4.heap.size, 0, none⟩) 8 c] (by rfl) rfl rfl (by (try simp only [List.map_toArray, List.map_cons, List.map_nil]); first | done | rfl) ?_
  refine (digest_take.calls 2 (some ⟨w4.heap.size, 0, none⟩) c [a0_0, a0_1, a0_2, a0_3, a1_0, a1_1, a1_2, a1_3] r1 r2 r3 r4 w5 HC.out.2 HC.out.1 HF.out (Tab.below HTB.out HB.out)).mono ?_
  rintro e w6 ⟨rfl, hb⟩
  refine ⟨_, rfl, ?_⟩
  have n0_ := Aside0.mk (blk_below Kg2.out hb)
  have n1_ := Aside0.mk (below_step HB.out hb)
  clear HB Kg2 hb
  have Kg2 := n0_
  have HB := n1_
  clear n0_ n1_
  refine hK.out _ _ trivial (fun hHeld => ?_)
  clear hK K
  refine norm_ (a' := ?_) ?_ ?_
  rotate_left
  · show Act.put _ (some 8) _ = _
    simp only [Act.put, List.setIfInBounds_toArray, List.set_cons_zero, List.set_cons_succ, i64_w, i32_w]
    rfl
  refine last_ (i := 4) (N := none) #[true, true, true, true, true] rfl rfl (by kernel_rfl) (by decide) (fun K hK => ?_)
  have cz_0 : w6.cell? ⟨g2, 0, none⟩ = some (.int .u32 0) := (blk_cell Kg2.out 0).trans rfl
  have fz_0 := blk_frozen Kg2.out 0
  have cz_1 : w6.cell? ⟨g2, 1, none⟩ = some (.int .u32 0) := (blk_cell Kg2.out 1).trans rfl
  have fz_1 := blk_frozen Kg2.out 1
  have cz_2 : w6.cell? ⟨g2, 2, none⟩ = some (.int .u32 0) := (blk_cell Kg2.out 2).trans rfl
  have fz_2 := blk_frozen Kg2.out 2
  have cz_3 : w6.cell? ⟨g2, 3, none⟩ = some (.int .u32 0) := (blk_cell Kg2.out 3).trans rfl
  have fz_3 := blk_frozen Kg2.out 3
  refine store_step (w1 := ?w1_) ?hg ?hN ?hr ?_; (case hg => rfl); (case hN => rfl); (case hr => first | (go_simp; done) | (go_simp; rfl))
  refine hK.out _ _ ?_
  clear hK K
  refine done_ (by kernel_rfl) ?_
  go_wp2
  refine bodyPost_ret (results_cell_row rfl _ _ (g2) 24 #[.int .u32 r1, .int .u32 r2, .int .u32 r3, .int .u32 r4] (0, 0) _ rfl (by (with_reducible repeat (first | refine blk_drewN ?_ _ | refine blk_drew ?_)); refine blk_put (cs := #[.int .u32 r1, .int .u32 r2, .int .u32 r3, .int .u32 0]) ?_ 3 _ rfl; (with_reducible repeat (first | refine blk_drewN ?_ _ | refine blk_drew ?_)); refine blk_put (cs := #[.int .u32 r1, .int .u32 r2, .int .u32 0, .int .u32 0]) ?_ 2 _ rfl; (with_reducible repeat (first | refine blk_drewN ?_ _ | refine blk_drew ?_)); refine blk_put (cs := #[.int .u32 r1, .int .u32 0, .int .u32 0, .int .u32 0]) ?_ 1 _ rfl; (with_reducible repeat (first | refine blk_drewN ?_ _ | refine blk_drew ?_)); refine blk_put (cs := #[.int .u32 0, .int .u32 0, .int .u32 0, .int .u32 0]) ?_ 0 _ rfl; (with_reducible repeat (first | refine blk_drewN ?_ _ | refine blk_drew ?_)); exact Kg2.out) Tryd.underlying24 rfl (by kernel_rfl)) rfl ?_
  exact ⟨rfl, (by repeat (first | (with_reducible first | exact HB.out | apply below_alloc | apply pw_below_drewN | apply below_drew1 | refine below_set ?_ Gg2.out) | exact HB.out))⟩


end

section
/-! ### digest_Of: function 18 -/
def digest_Of.f (k : Nat) (a0 : ByteArray) : Option (Int × Int × Int × Int) := if a0.size + 1 ≤ 9223372036854775807 then ((strings_Repeat.f (⟨#[0]⟩ : ByteArray) (Int.tmod (wrap64 (24 - (Int.tmod (wrap64 ((a0.size : Int) + 1)) 16))) 16)).bind fun t114 => (if (a0 ++ (⟨#[128]⟩ : ByteArray)).size + t114.size ≤ 9223372036854775807 then ((word_Bytes.f k (([((a0.size : Int)) % 4294967296, ((a0.size : Int)) / 4294967296] : List Int))).bind fun t118 => (if ((a0 ++ (⟨#[128]⟩ : ByteArray)) ++ t114).size + t118.size ≤ 9223372036854775807 then ((word_Words.f k (((a0 ++ (⟨#[128]⟩ : ByteArray)) ++ t114) ++ t118)).bind fun bt119 => ((digest_take.f 1 bt119.1).bind fun bt123 => (some (bt123.1, bt123.2.1, bt123.2.2.1, bt123.2.2.2)))) else (none))) else (none))) else (none)
theorem digest_Of.mono : ∀ a0 k, LeO (digest_Of.f k a0) (digest_Of.f (k + 1) a0) := by
  intro a0 k
  unfold digest_Of.f
  repeat' first
      | (with_reducible exact word_Bytes.mono _ _)
      | (with_reducible exact word_Words.mono _ _)
      | (with_reducible exact LeO.refl _)
      | (with_reducible exact LeO.none _)
      | (with_reducible refine LeO.ite ?_ ?_)
      | (with_reducible refine LeO.bind ?_ (fun _ => ?_))
      | exact word_Bytes.mono _ _
      | exact word_Words.mono _ _
      | exact LeO.none _
      | refine LeO.ite ?_ ?_
      | refine LeO.bind ?_ (fun _ => ?_)
set_option maxHeartbeats 8000000 in
set_option maxRecDepth 100000 in
theorem digest_Of.calls (k : Nat) (a0 : ByteArray) (r1 : Int) (r2 : Int) (r3 : Int) (r4 : Int) (w : World) (h : digest_Of.f k a0 = some (r1, r2, r3, r4)) (htb_ : Tab w) :
    Calls Tryd.prog 18 #[.string a0] w fun e w' => e = .returned (.agg #[.int .u32 r1, .int .u32 r2, .int .u32 r3, .int .u32 r4]) ∧ Below w.heap.size w w' := by
  have HTB := Aside0.mk htb_
  clear htb_
  have hu24 := Tryd.underlying24
  have HB := Aside0.mk (Below.refl w.heap.size w)
  have H : (if a0.size + 1 ≤ 9223372036854775807 then ((strings_Repeat.f (⟨#[0]⟩ : ByteArray) (Int.tmod (wrap64 (24 - (Int.tmod (wrap64 ((a0.size : Int) + 1)) 16))) 16)).bind fun t114 => (if (a0 ++ (⟨#[128]⟩ : ByteArray)).size + t114.size ≤ 9223372036854775807 then ((word_Bytes.f k (([((a0.size : Int)) % 4294967296, ((a0.size : Int)) / 4294967296] : List Int))).bind fun t118 => (if ((a0 ++ (⟨#[128]⟩ : ByteArray)) ++ t114).size + t118.size ≤ 9223372036854775807 then ((word_Words.f k (((a0 ++ (⟨#[128]⟩ : ByteArray)) ++ t114) ++ t118)).bind fun bt119 => ((digest_take.f 1 bt119.1).bind fun bt123 => (some (bt123.1, bt123.2.1, bt123.2.2.1, bt123.2.2.2)))) else (none))) else (none))) else (none)) = some (r1, r2, r3, r4) := h
  clear h
  by_cases c2 : a0.size + 1 ≤ 9223372036854775807
  · rw [if_pos c2] at H
    have c2b0 := eq_true c2
    have c2b1 : decide (a0.size + 1 ≤ 9223372036854775807) = true := decide_eq_true c2
    try have c2b2 : (9223372036854775807 < a0.size + 1) = False := eq_false (Nat.not_lt.2 c2)
    replace H := Option.bind_eq_some_iff.mp H
    obtain ⟨t114, A30, H⟩ := H
    replace H : (if (a0 ++ (⟨#[128]⟩ : ByteArray)).size + t114.size ≤ 9223372036854775807 then ((word_Bytes.f k (([((a0.size : Int)) % 4294967296, ((a0.size : Int)) / 4294967296] : List Int))).bind fun t118 => (if ((a0 ++ (⟨#[128]⟩ : ByteArray)) ++ t114).size + t118.size ≤ 9223372036854775807 then ((word_Words.f k (((a0 ++ (⟨#[128]⟩ : ByteArray)) ++ t114) ++ t118)).bind fun bt119 => ((digest_take.f 1 bt119.1).bind fun bt123 => (some (bt123.1, bt123.2.1, bt123.2.2.1, bt123.2.2.2)))) else (none))) else (none)) = some (r1, r2, r3, r4) := H
    rw [HX.zeros_eq a0.size c2] at A30
    have A3 := Aside0.mk A30
    clear A30
    by_cases c4 : (a0 ++ (⟨#[128]⟩ : ByteArray)).size + t114.size ≤ 9223372036854775807
    · rw [if_pos c4] at H
      have c4b0 := eq_true c4
      have c4b1 : decide ((a0 ++ (⟨#[128]⟩ : ByteArray)).size + t114.size ≤ 9223372036854775807) = true := decide_eq_true c4
      try have c4b2 : (9223372036854775807 < (a0 ++ (⟨#[128]⟩ : ByteArray)).size + t114.size) = False := eq_false (Nat.not_lt.2 c4)
      have c4b3 : (9223372036854775807 < a0.size + 1 + t114.size) = False := eq_false (by have z := c4; rw [ByteArray.size_append] at z; have z4 : (⟨#[128]⟩ : ByteArray).size = 1 := rfl; omega)
      obtain ⟨y115, hy115⟩ : ∃ y_ : List Int, y_ = (([((a0.size : Int)) % 4294967296, ((a0.size : Int)) / 4294967296] : List Int)) := ⟨_, rfl⟩
      replace H : ((word_Bytes.f k y115).bind fun t118 => (if ((a0 ++ (⟨#[128]⟩ : ByteArray)) ++ t114).size + t118.size ≤ 9223372036854775807 then ((word_Words.f k (((a0 ++ (⟨#[128]⟩ : ByteArray)) ++ t114) ++ t118)).bind fun bt119 => ((digest_take.f 1 bt119.1).bind fun bt123 => (some (bt123.1, bt123.2.1, bt123.2.2.1, bt123.2.2.2)))) else (none))) = some (r1, r2, r3, r4) := by first | (rw [hy115]; with_reducible exact H) | (have H2_ := (Option.bind_some _ _).symm.trans H; rw [hy115]; with_reducible exact H2_) | (have H2_ := (Option.bind_some _ _).symm.trans H; with_reducible exact H2_) | with_reducible exact H | (rw [hy115]; exact H) | exact H
      have Ny115 := Aside0.mk hy115
      clear hy115
      replace H := Option.bind_eq_some_iff.mp H
      obtain ⟨t118, A50, H⟩ := H
      replace H : (if ((a0 ++ (⟨#[128]⟩ : ByteArray)) ++ t114).size + t118.size ≤ 9223372036854775807 then ((word_Words.f k (((a0 ++ (⟨#[128]⟩ : ByteArray)) ++ t114) ++ t118)).bind fun bt119 => ((digest_take.f 1 bt119.1).bind fun bt123 => (some (bt123.1, bt123.2.1, bt123.2.2.1, bt123.2.2.2)))) else (none)) = some (r1, r2, r3, r4) := H
      have A5 := Aside0.mk A50
      clear A50
      by_cases c6 : ((a0 ++ (⟨#[128]⟩ : ByteArray)) ++ t114).size + t118.size ≤ 9223372036854775807
      · rw [if_pos c6] at H
        have c6b0 := eq_true c6
        have c6b1 : decide (((a0 ++ (⟨#[128]⟩ : ByteArray)) ++ t114).size + t118.size ≤ 9223372036854775807) = true := decide_eq_true c6
        try have c6b2 : (9223372036854775807 < ((a0 ++ (⟨#[128]⟩ : ByteArray)) ++ t114).size + t118.size) = False := eq_false (Nat.not_lt.2 c6)
        have c6b3 : (9223372036854775807 < a0.size + 1 + t114.size + t118.size) = False := eq_false (by have z := c6; rw [ByteArray.size_append, ByteArray.size_append] at z; have z4 : (⟨#[128]⟩ : ByteArray).size = 1 := rfl; omega)
        replace H := Option.bind_eq_some_iff.mp H
        obtain ⟨⟨t119, t120⟩, A70, H⟩ := H
        replace H : ((digest_take.f 1 t119).bind fun bt123 => (some (bt123.1, bt123.2.1, bt123.2.2.1, bt123.2.2.2))) = some (r1, r2, r3, r4) := H
        have A7 := Aside0.mk A70
        clear A70
        replace H := Option.bind_eq_some_iff.mp H
        obtain ⟨⟨t123, t124, t125, t126⟩, A80, H⟩ := H
        replace H : (some (t123, t124, t125, t126)) = some (r1, r2, r3, r4) := H
        have A8 := Aside0.mk A80
        clear A80
        simp only [Option.some.injEq, Prod.mk.injEq] at H
        obtain ⟨rfl, rfl, rfl, rfl⟩ := H
        go_enter Tryd.func18, Tryd.ntmps18
        go_wp2_with (first | ((with_reducible refine gate_dst (N := 2) rfl ?_); refine box_event ?hg (N := 2) ?hd (cs := #[.int .u32 0, .int .u32 0, .int .u32 0, .int .u32 0]) (t := 24) ?hr ?_; (case hd => rfl); (case hg => rfl); (case hr => first | (go_simp; done) | (go_simp; rfl)); intro gb113 hg w9 hbox hb; have n0_ := Aside0.mk (below_step (by repeat (first | (with_reducible first | exact HB.out | apply below_alloc | apply pw_below_drewN | apply below_drew1) | exact HB.out)) hb); have n1_ := Aside0.mk (hbox); have n2_ := Aside0.mk ((by rw [hg]; exact (below_size (by repeat (first | (with_reducible first | exact HB.out | apply below_alloc | apply pw_below_drewN | apply below_drew1) | exact HB.out))) : w.heap.size ≤ gb113)); have n3_ := n2_; clear HB; have HB := n0_; have BK113 := n1_; have GW113 := n2_; have GE113 := n3_; clear n0_ n1_ n2_ n3_; clear hb hbox hg) | ((with_reducible refine gate_callee (f := 44) rfl ?_); refine goesL_ (some 20) rfl rfl Tryd.func44 (by kernel_rfl) rfl #[.string (⟨#[0]⟩ : ByteArray), .int .i64 ((24 - ((a0.size : Int) + 1) % 16) % 16)] rfl (by (try simp only [List.map_toArray, List.map_cons, List.map_nil]); first | done | rfl | (simp only [List.length_drop, List.length_take]; rfl)) ?_; (with_reducible refine (strings_Repeat.calls (⟨#[0]⟩ : ByteArray) ((24 - ((a0.size : Int) + 1) % 16) % 16) t114 _ A3.out).mono ?_); rintro e w10 ⟨rfl, hb⟩; refine ⟨_, rfl, ?_⟩; have n0_ := Aside0.mk (blk_below (g := gb113) (by (with_reducible repeat (first | refine blk_drewN ?_ _ | refine blk_drew ?_ | refine blk_alloc ?_ _)); exact BK113.out) hb); have n1_ := Aside0.mk (below_step (by repeat (first | (with_reducible first | exact HB.out | apply below_alloc | apply pw_below_drewN | apply below_drew1 | refine below_set ?_ GE113.out) | exact HB.out)) hb); clear BK113; clear HB; have BK113 := n0_; have HB := n1_; clear n0_ n1_; (try clear hb); (try clear hb2); (try clear hk); (try clear hi)) | ((with_reducible refine gate_dst (N := 27) rfl ?_); refine Kd.R_lit (Kd.int .u32) _ 22 ?hg (N := 27) ?hd (xs := ([((a0.size : Int)) % 4294967296, ((a0.size : Int)) / 4294967296] : List Int)) (inner := [.int .u32 (((a0.size : Int)) % 4294967296), .int .u32 (((a0.size : Int)) / 4294967296)]) (ok := fun _ => True) (okp := fun _ => True) ?hr ?hp (fun _ hk => hk) trivial (Below.refl _ _) (Nat.le_refl _) (by simp) ?_; (case hd => rfl); (case hg => rfl); (case hr => first | (go_simp; done) | (go_simp; rfl)); (case hp => exact (Reps.one (show Kd.M (Kd.int .u32) _ _ _ (((a0.size : Int)) % 4294967296) [.int .u32 (((a0.size : Int)) % 4294967296)] from rfl) (Reps.one (show Kd.M (Kd.int .u32) _ _ _ (((a0.size : Int)) / 4294967296) [.int .u32 (((a0.size : Int)) / 4294967296)] from rfl) (Reps.none _ _)))); intro v116 w11 ho12 hb hg_ hnew_; clear hg_ hnew_; (first | rw [← Ny115.out] at ho12 | (simp only [Int.reduceToNat] at ho12; rw [← Ny115.out] at ho12)); have n0_ := Aside0.mk (Kd.R_lower ho12 (below_size (by repeat (first | (with_reducible first | exact HB.out | apply below_alloc | apply pw_below_drewN | apply below_drew1 | refine below_set ?_ GE113.out) | exact HB.out)))); have n1_ := Aside0.mk (blk_below (g := gb113) (by (with_reducible repeat (first | refine blk_drewN ?_ _ | refine blk_drew ?_ | refine blk_alloc ?_ _)); exact BK113.out) hb); have n2_ := Aside0.mk (below_step (by repeat (first | (with_reducible first | exact HB.out | apply below_alloc | apply pw_below_drewN | apply below_drew1 | refine below_set ?_ GE113.out) | exact HB.out)) hb); clear BK113; clear HB; have HO117 := n0_; have BK113 := n1_; have HB := n2_; clear n0_ n1_ n2_; clear hb ho12; obtain ⟨Ao13, co13, eo13⟩ := Kd.R_slice HO117.out; subst eo13) | ((with_reducible refine gate_callee (f := 45) rfl ?_); refine goesL_ (some 28) rfl rfl Tryd.func45 (by kernel_rfl) rfl #[.slice Ao13 y115.length co13] rfl (by (try simp only [List.map_toArray, List.map_cons, List.map_nil]); first | done | rfl | (simp only [List.length_drop, List.length_take]; rfl)) ?_; (with_reducible refine (word_Bytes.calls k _ _ y115 t118 _ ?side1 ?side2 A5.out).mono ?_); (case side1 => repeat (first | exact (Kd.R_reads' HO117.out).2.2 | (with_reducible refine Kd.C_alloc ?_ _) | (with_reducible refine Kd.C_drewN ?_ _) | (with_reducible refine Kd.C_drew ?_))); (case side2 => exact (Kd.R_reads' HO117.out).2.1); rintro e w14 ⟨rfl, hb⟩; refine ⟨_, rfl, ?_⟩; have n0_ := Aside0.mk (Kd.R_below (by (with_reducible repeat (first | apply Kd.R_alloc | apply Kd.R_drewN | apply Kd.R_drew)); exact HO117.out) hb); have n1_ := Aside0.mk (blk_below (g := gb113) (by (with_reducible repeat (first | refine blk_drewN ?_ _ | refine blk_drew ?_ | refine blk_alloc ?_ _)); exact BK113.out) hb); have n2_ := Aside0.mk (below_step (by repeat (first | (with_reducible first | exact HB.out | apply below_alloc | apply pw_below_drewN | apply below_drew1 | refine below_set ?_ GE113.out) | exact HB.out)) hb); clear HO117; clear BK113; clear HB; have HO117 := n0_; have BK113 := n1_; have HB := n2_; clear n0_ n1_ n2_; (try clear hb); (try clear hb2); (try clear hk); (try clear hi)) | ((with_reducible refine gate_callee (f := 46) rfl ?_); refine goesL_ (some 32) rfl rfl Tryd.func46 (by kernel_rfl) rfl #[.string (((a0 ++ (⟨#[128]⟩ : ByteArray)) ++ t114) ++ t118)] rfl (by (try simp only [List.map_toArray, List.map_cons, List.map_nil]); first | done | rfl | (simp only [List.length_drop, List.length_take]; rfl)) ?_; (with_reducible refine (word_Words.calls k (((a0 ++ (⟨#[128]⟩ : ByteArray)) ++ t114) ++ t118) t119 t120 _ A7.out).mono ?_); rintro e w15 ⟨v121, rfl, ho0, hb⟩; refine ⟨_, rfl, ?_⟩; have n0_ := Aside0.mk (Kd.R_elder' (by (with_reducible repeat (first | apply Kd.R_alloc | apply Kd.R_drewN | apply Kd.R_drew)); exact HO117.out) (Kd.R_base ho0) hb); have n1_ := Aside0.mk (Kd.R_lower (Kd.R_new' ho0 (Kd.R_lt (by (with_reducible repeat (first | apply Kd.R_alloc | apply Kd.R_drewN | apply Kd.R_drew)); exact HO117.out))) (below_size (by repeat (first | (with_reducible first | exact HB.out | apply below_alloc | apply pw_below_drewN | apply below_drew1 | refine below_set ?_ GE113.out) | exact HB.out)))); have n2_ := Aside0.mk (blk_below (g := gb113) (by (with_reducible repeat (first | refine blk_drewN ?_ _ | refine blk_drew ?_ | refine blk_alloc ?_ _)); exact BK113.out) hb); have n3_ := Aside0.mk (below_step (by repeat (first | (with_reducible first | exact HB.out | apply below_alloc | apply pw_below_drewN | apply below_drew1 | refine below_set ?_ GE113.out) | exact HB.out)) hb); clear HO117; clear BK113; clear HB; have HO117 := n0_; have HO122 := n1_; have BK113 := n2_; have HB := n3_; clear n0_ n1_ n2_ n3_; (try clear hb); (try clear hb2); (try clear hk); (try clear hi); (try clear ho0); obtain ⟨Ao16, co16, eo16⟩ := Kd.R_slice HO122.out; subst eo16) | ((with_reducible refine gate_callee (f := 47) rfl ?_); refine goesL_ (some 36) rfl rfl Tryd.func47 (by kernel_rfl) rfl #[.int .u32 1, .slice Ao16 t119.length co16] rfl (by (try simp only [List.map_toArray, List.map_cons, List.map_nil]); first | done | rfl | (simp only [List.length_drop, List.length_take]; rfl)) ?_; (with_reducible refine (digest_take.calls 1 _ _ t119 t123 t124 t125 t126 _ ?side1 ?side2 A8.out (Tab.below HTB.out (by repeat (first | (with_reducible first | exact HB.out | apply below_alloc | apply pw_below_drewN | apply below_drew1 | refine below_set ?_ GE113.out) | exact HB.out)))).mono ?_); (case side1 => repeat (first | exact (Kd.R_reads' HO122.out).2.2 | (with_reducible refine Kd.C_alloc ?_ _) | (with_reducible refine Kd.C_drewN ?_ _) | (with_reducible refine Kd.C_drew ?_))); (case side2 => exact (Kd.R_reads' HO122.out).2.1); rintro e w17 ⟨rfl, hb⟩; refine ⟨_, rfl, ?_⟩; have n0_ := Aside0.mk (Kd.R_below (by (with_reducible repeat (first | apply Kd.R_alloc | apply Kd.R_drewN | apply Kd.R_drew)); exact HO117.out) hb); have n1_ := Aside0.mk (Kd.R_below (by (with_reducible repeat (first | apply Kd.R_alloc | apply Kd.R_drewN | apply Kd.R_drew)); exact HO122.out) hb); have n2_ := Aside0.mk (blk_below (g := gb113) (by (with_reducible repeat (first | refine blk_drewN ?_ _ | refine blk_drew ?_ | refine blk_alloc ?_ _)); exact BK113.out) hb); have n3_ := Aside0.mk (below_step (by repeat (first | (with_reducible first | exact HB.out | apply below_alloc | apply pw_below_drewN | apply below_drew1 | refine below_set ?_ GE113.out) | exact HB.out)) hb); clear HO117; clear HO122; clear BK113; clear HB; have HO117 := n0_; have HO122 := n1_; have BK113 := n2_; have HB := n3_; clear n0_ n1_ n2_ n3_; (try clear hb); (try clear hb2); (try clear hk); (try clear hi); obtain ⟨hcz18_0, hcz18_1, hcz18_2, hcz18_3, hfz18_0, hfz18_1, hfz18_2, hfz18_3⟩ := HX.cells4 BK113.out))
        refine bodyPost_ret (results_cell_row rfl _ _ gb113 24 #[.int .u32 t123, .int .u32 t124, .int .u32 t125, .int .u32 t126] (0, 0) _ rfl (by (with_reducible repeat (first | refine blk_drewN ?_ _ | refine blk_drew ?_ | refine blk_alloc ?_ _)); refine blk_put (cs := #[.int .u32 t123, .int .u32 t124, .int .u32 t125, .int .u32 0]) ?_ 3 _ rfl; (with_reducible repeat (first | refine blk_drewN ?_ _ | refine blk_drew ?_ | refine blk_alloc ?_ _)); refine blk_put (cs := #[.int .u32 t123, .int .u32 t124, .int .u32 0, .int .u32 0]) ?_ 2 _ rfl; (with_reducible repeat (first | refine blk_drewN ?_ _ | refine blk_drew ?_ | refine blk_alloc ?_ _)); refine blk_put (cs := #[.int .u32 t123, .int .u32 0, .int .u32 0, .int .u32 0]) ?_ 1 _ rfl; (with_reducible repeat (first | refine blk_drewN ?_ _ | refine blk_drew ?_ | refine blk_alloc ?_ _)); refine blk_put (cs := #[.int .u32 0, .int .u32 0, .int .u32 0, .int .u32 0]) ?_ 0 _ rfl; (with_reducible repeat (first | refine blk_drewN ?_ _ | refine blk_drew ?_ | refine blk_alloc ?_ _)); exact BK113.out) Tryd.underlying24 rfl (by kernel_rfl)) rfl ?_
        exact ⟨by first | rfl | (simp [errW_none, errW_some] <;> rfl) | (simp [*, errW_none, errW_some] <;> rfl), by repeat (first | (with_reducible first | exact HB.out | apply below_alloc | apply pw_below_drewN | apply below_drew1 | refine below_set ?_ GE113.out) | exact HB.out)⟩
      · rw [if_neg c6] at H
        exact absurd H (by simp)
    · rw [if_neg c4] at H
      exact absurd H (by simp)
  · rw [if_neg c2] at H
    exact absurd H (by simp)


end

end Go.Proofs.YthimgiphlenjdaaDoor.PI
