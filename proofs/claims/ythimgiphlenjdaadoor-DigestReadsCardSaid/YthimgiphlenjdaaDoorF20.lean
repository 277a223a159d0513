/- Contracts of the Go functions of this seat, each over a Lean function of the same answers; written by a program of this session's. -/
import Derived.Test.YthimgiphlenjdaaDoorPIx0
import Derived.Test.YthimgiphlenjdaaDoorHWords
import Derived.Test.YthimgiphlenjdaaDoorHWrite
import Derived.Test.YthimgiphlenjdaaDoorHMix
import Derived.Test.YthimgiphlenjdaaDoorF45
import Derived.Test.YthimgiphlenjdaaDoorF50
namespace Go.Proofs.YthimgiphlenjdaaDoor.PI
open Go.RowKit Go.Proofs.YthimgiphlenjdaaDoorW.PrintWords Go.Proofs.YthimgiphlenjdaaDoorW.PrintLast Go.Proofs.YthimgiphlenjdaaDoorW.PrintMore
attribute [local go_sem] max2_int min2_int max_two min_two max_three min_three max_four min_four   -- for this text's walks alone
open HX
set_option linter.unusedVariables false
set_option linter.unusedSimpArgs false

/-! ### digest_Text: function 20 -/
-- import HWrite
-- import HMix
/-- A word's four bytes, the highest first. -/
def be4 (x : Int) : List UInt8 := [UInt8.ofNat (x / 16777216).toNat, UInt8.ofNat (x / 65536 % 256).toNat, UInt8.ofNat (x / 256 % 256).toNat, UInt8.ofNat (x % 256).toNat]
def beL : List Int → List UInt8
  | [] => []
  | x :: l => be4 x ++ beL l
theorem beL_length : ∀ l : List Int, (beL l).length = 4 * l.length
  | [] => rfl
  | x :: l => by rw [beL, List.length_append, beL_length l]; show 4 + _ = 4 * (l.length + 1); omega
def digest_Text.f (a0_0 : Int) (a0_1 : Int) (a0_2 : Int) (a0_3 : Int) : Option ByteArray := if InR a0_0 ∧ InR a0_1 ∧ InR a0_2 ∧ InR a0_3 then some ⟨(hexL (beL [a0_0, a0_1, a0_2, a0_3])).toArray⟩ else none
theorem low_spec (x : Int) (h : InR x) : ∃ lo : ByteArray, word_Bytes.f 2 [x] = some lo ∧ ∃ h : Aside0 (lo.size = 4), ((lo[0]'(by rw [h.out]; decide)).toNat : Int) = x % 256 ∧ ((lo[1]'(by rw [h.out]; decide)).toNat : Int) = x / 256 % 256 ∧ ((lo[2]'(by rw [h.out]; decide)).toNat : Int) = x / 65536 % 256 ∧ ((lo[3]'(by rw [h.out]; decide)).toNat : Int) = x / 16777216 := by
  obtain ⟨h0, h1⟩ := h
  refine ⟨strOfNums [x % 256, x / 256 % 256, x / 65536 % 256, x / 16777216 % 256], ?_, ⟨rfl⟩, ?_⟩
  · have e : wrap64 1 = 1 := by unfold wrap64; omega
    simp [word_Bytes.f, word_Bytes.l0, rd, e]
  · have k : ∀ n : Int, 0 ≤ n → n < 256 → (((UInt8.ofNat n.toNat).toNat : Nat) : Int) = n := fun n h0 h1 => by
      rw [UInt8.toNat_ofNat']
      omega
    exact ⟨k _ (by omega) (by omega), k _ (by omega) (by omega), k _ (by omega) (by omega), (k _ (by omega) (by omega)).trans (by omega)⟩
theorem bytes_one (A0 : Option Addr) (c0 : Nat) (x : Int) (lo : ByteArray) (w : World) (hr0 : Kd.C (Kd.int .u32) w A0 1 [x]) (hc0 : 1 ≤ c0) (h : word_Bytes.f 2 [x] = some lo) :
    Calls Tryd.prog 45 #[.slice A0 1 c0] w fun e w' => e = .returned (.string lo) ∧ Below w.heap.size w w' := word_Bytes.calls 2 A0 c0 [x] lo w hr0 hc0 h
theorem hex_be4 (x : Int) (h : InR x) : hex_Text.f (strOfNums [x / 16777216, x / 65536 % 256, x / 256 % 256, x % 256]) = some ⟨(hexL (be4 x)).toArray⟩ := by
  unfold hex_Text.f
  rw [if_pos (show (strOfNums [x / 16777216, x / 65536 % 256, x / 256 % 256, x % 256]).size ≤ 4294967296 from show 4 ≤ 4294967296 by decide)]
  rfl
set_option maxHeartbeats 8000000 in
set_option maxRecDepth 100000 in
theorem digest_Text.calls (a0_0 : Int) (a0_1 : Int) (a0_2 : Int) (a0_3 : Int) (r : ByteArray) (w : World) (h : digest_Text.f a0_0 a0_1 a0_2 a0_3 = some r) :
    Calls Tryd.prog 20 #[.agg #[.int .u32 a0_0, .int .u32 a0_1, .int .u32 a0_2, .int .u32 a0_3]] w fun e w' => e = .returned (.string r) ∧ Below w.heap.size w w' := by
  have hu24 := Tryd.underlying24
  have hi : InR a0_0 ∧ InR a0_1 ∧ InR a0_2 ∧ InR a0_3 := by
    unfold digest_Text.f at h
    split at h
    · assumption
    · cases h
  have hr : r = ⟨(hexL (beL [a0_0, a0_1, a0_2, a0_3])).toArray⟩ := by
    unfold digest_Text.f at h
    rw [if_pos hi] at h
    exact (Option.some.inj h).symm
  clear h
  have HR := Aside0.mk hr
  clear hr
  have HS := Aside0.mk hi
  clear hi
  go_enter Tryd.func20, Tryd.ntmps20
  go_wp2
  have HX := Aside0.mk (show Lib.IsBuilder 68 5 w.heap.size (w.heap.size + 1) (Lib.byteCells (hexL (beL ([a0_0, a0_1, a0_2, a0_3].take 0)))) ((w.alloc (.cells #[.int .u32 a0_0, .int .u32 a0_1, .int .u32 a0_2, .int .u32 a0_3] 24 (0, 0))).alloc (.cells #[.pointer none, .slice none 0 0] 68 (0, 0))) from .inl ⟨by omega, .slice none 0 0, blk_newAt (by simp), ⟨rfl, .inl ⟨rfl, rfl⟩⟩, by simp [Value.ownBlock]⟩)
  have HY := Aside0.mk (show Below w.heap.size w ((w.alloc (.cells #[.int .u32 a0_0, .int .u32 a0_1, .int .u32 a0_2, .int .u32 a0_3] 24 (0, 0))).alloc (.cells #[.pointer none, .slice none 0 0] 68 (0, 0))) from ((Below.refl w.heap.size w).alloc (Nat.le_refl _) _).alloc (by simp) _)
  go_loopg [8] 4 (fun kq v8 w' => ∃ (i : Nat), v8 = .int .i64 (i : Int) ∧ Aside0 (i + kq = 4) ∧ Aside0 (Lib.IsBuilder 68 5 w.heap.size (w.heap.size + 1) (Lib.byteCells (hexL (beL ([a0_0, a0_1, a0_2, a0_3].take i)))) w') ∧ Aside0 (Below w.heap.size w w'))
  case atStart => exact ⟨0, by first | rfl | (simp; done), ⟨rfl⟩, HX, HY⟩
  case round =>
    clear HX HY
    obtain ⟨i, rfl, HA, HI, HW⟩ := hrel
    have hi : i ≤ 4 := by have := HA.out; omega
    have hcase : i = 0 ∨ i = 1 ∨ i = 2 ∨ i = 3 ∨ i = 4 := by omega
    rcases hcase with rfl | rfl | rfl | rfl | rfl
    · obtain rfl : gk = 3 + 1 := by have := HA.out; omega
      clear HA hi
      have hx := HS.out.1
      have HH := Aside0.mk (hex_be4 a0_0 hx)
      obtain ⟨lo, hl, HSZ, e0, e1, e2, e3⟩ := low_spec a0_0 hx
      have HL := Aside0.mk hl
      have E0 := Aside0.mk e0
      have E1 := Aside0.mk e1
      have E2 := Aside0.mk e2
      have E3 := Aside0.mk e3
      have hszi : (lo.size : Int) = 4 := by have := HSZ.out; omega
      clear hl e0 e1 e2 e3 hx
      have HLN := Aside0.mk (show (Lib.byteCells (hexL (beL ([a0_0, a0_1, a0_2, a0_3].take 0)))).length + (⟨(hexL (be4 a0_0)).toArray⟩ : ByteArray).size ≤ 140737488355328 by rw [Lib.byteCells_length, hexL_length, beL_length]; show 2 * (4 * 0) + (hexL (be4 a0_0)).length ≤ _; rw [hexL_length]; show 2 * (4 * 0) + 2 * 4 ≤ 140737488355328; decide)
      have HB := Aside0.mk (Below.refl wr.heap.size wr)
      have hix := ix24_0 wr a0_0 a0_1 a0_2 a0_3
      go_wp2_with (first | ((with_reducible refine gate_dst (N := 12) rfl ?_); refine Kd.R_lit (Kd.int .u32) _ 22 ?hg (N := 12) ?hd (xs := ([a0_0] : List Int)) (inner := [.int .u32 a0_0]) (ok := fun _ => True) (okp := fun _ => True) ?hr ?hp (fun _ hk => hk) trivial (Below.refl _ _) (Nat.le_refl _) (by simp) ?_; (case hd => rfl); (case hg => rfl); (case hr => first | (go_simp; done) | (go_simp; rfl)); (case hp => exact (Reps.one (show Kd.M (Kd.int .u32) _ _ _ (a0_0) [.int .u32 (a0_0)] from rfl) (Reps.none _ _))); intro va wa ho hb hg_ hnew_; clear hg_ hnew_; have n0_ := Aside0.mk (below_step (by repeat (first | (with_reducible first | exact HB.out | apply below_alloc | apply pw_below_drewN | apply below_drew1) | exact HB.out)) hb); have HOa := Aside0.mk ho; clear HB; have HB := n0_; clear n0_ hb ho; obtain ⟨Aoa, coa, eoa⟩ := Kd.R_slice HOa.out; subst eoa) | ((go_at_call 45); (with_reducible refine (bytes_one _ _ a0_0 lo _ (Kd.R_reads' HOa.out).2.2 (Kd.R_reads' HOa.out).2.1 HL.out).mono ?_); rintro e w2 ⟨rfl, hb⟩; have n0_ := Aside0.mk (below_step (by repeat (first | (with_reducible first | exact HB.out | apply below_alloc | apply pw_below_drewN | apply below_drew1) | exact HB.out)) hb); clear HB HOa; have HB := n0_; clear n0_ hb))
      refine still_tail 8 (by kernel_rfl) (by kernel_rfl) ?_
      simp only [List.take_succ_cons, List.take_zero, List.drop_succ_cons, List.drop_zero]
      repeat still_step
      try refine wpStill_nil ?_
      rw [E3.out, E2.out, E1.out, E0.out]
      go_wp2_with (first | ((with_reducible refine gate_dst (N := 22) rfl ?_); refine Kd.R_lit (Kd.int .u8) _ 5 ?hg (N := 22) ?hd (xs := ([a0_0 / 16777216, a0_0 / 65536 % 256, a0_0 / 256 % 256, a0_0 % 256] : List Int)) (inner := [.int .u8 (a0_0 / 16777216), .int .u8 (a0_0 / 65536 % 256), .int .u8 (a0_0 / 256 % 256), .int .u8 (a0_0 % 256)]) (ok := fun _ => True) (okp := fun _ => True) ?hr ?hp (fun _ hk => hk) trivial (Below.refl _ _) (Nat.le_refl _) (by simp) ?_; (case hd => rfl); (case hg => rfl); (case hr => first | (go_simp; done) | (go_simp; rfl)); (case hp => exact (Reps.one (show Kd.M (Kd.int .u8) _ _ _ (a0_0 / 16777216) [.int .u8 (a0_0 / 16777216)] from rfl) (Reps.one (show Kd.M (Kd.int .u8) _ _ _ (a0_0 / 65536 % 256) [.int .u8 (a0_0 / 65536 % 256)] from rfl) (Reps.one (show Kd.M (Kd.int .u8) _ _ _ (a0_0 / 256 % 256) [.int .u8 (a0_0 / 256 % 256)] from rfl) (Reps.one (show Kd.M (Kd.int .u8) _ _ _ (a0_0 % 256) [.int .u8 (a0_0 % 256)] from rfl) (Reps.none _ _)))))); intro vb wb ho hb hg_ hnew_; clear hg_ hnew_; have n0_ := Aside0.mk (below_step (by repeat (first | (with_reducible first | exact HB.out | apply below_alloc | apply pw_below_drewN | apply below_drew1) | exact HB.out)) hb); have HOb := Aside0.mk ho; clear HB; have HB := n0_; clear n0_ hb ho; obtain ⟨Aob, cob, eob⟩ := Kd.R_slice HOb.out; subst eob; have hcv : (convert 41 9 (.slice Aob 4 cob)).run Tryd.prog wb = .ok (.string (strOfNums [a0_0 / 16777216, a0_0 / 65536 % 256, a0_0 / 256 % 256, a0_0 % 256])) wb := own_string (P := Tryd.prog) Tryd.underlying41 Tryd.underlying5 Tryd.underlying9 (Kd.own_of_R HOb.out)) | ((go_at_call 50); (with_reducible refine (hex_Text.calls _ ⟨(hexL (be4 a0_0)).toArray⟩ _ HH.out).mono ?_); rintro e w4 ⟨rfl, hb⟩; have n0_ := Aside0.mk (below_step (by repeat (first | (with_reducible first | exact HB.out | apply below_alloc | apply pw_below_drewN | apply below_drew1) | exact HB.out)) hb); clear HB hcv HOb; have HB := n0_; have HI4 := Aside0.mk (isBuilder_below HI.out HB.out); have HW4 := Aside0.mk (below_step HW.out HB.out); clear n0_ hb) | ((go_at_call 49); (with_reducible refine (write_string w.heap.size (w.heap.size + 1) _ ⟨(hexL (be4 a0_0)).toArray⟩ _ HI4.out HLN.out (below_size HW4.out)).mono ?_); rintro e w5 ⟨rfl, hx5, hb⟩; have n0_ := Aside0.mk (HW4.out.trans hb); have n1_ := Aside0.mk hx5; clear HW4 HI4; have HW5 := n0_; have HI5 := n1_; clear n0_ n1_ hb hx5))
      go_roundg 3
      case measure => omega
      case rel => exact ⟨1, by first | rfl | (simp; done), ⟨rfl⟩, ⟨show Lib.IsBuilder 68 5 w.heap.size (w.heap.size + 1) (Lib.byteCells (hexL (beL ([a0_0, a0_1, a0_2, a0_3].take 1)))) _ from .inr (by have h5 := HI5.out; simpa [beL, hexL, Lib.byteCells, Lib.strCells] using h5)⟩, HW5⟩
    · obtain rfl : gk = 2 + 1 := by have := HA.out; omega
      clear HA hi
      have hx := HS.out.2.1
      have HH := Aside0.mk (hex_be4 a0_1 hx)
      obtain ⟨lo, hl, HSZ, e0, e1, e2, e3⟩ := low_spec a0_1 hx
      have HL := Aside0.mk hl
      have E0 := Aside0.mk e0
      have E1 := Aside0.mk e1
      have E2 := Aside0.mk e2
      have E3 := Aside0.mk e3
      have hszi : (lo.size : Int) = 4 := by have := HSZ.out; omega
      clear hl e0 e1 e2 e3 hx
      have HLN := Aside0.mk (show (Lib.byteCells (hexL (beL ([a0_0, a0_1, a0_2, a0_3].take 1)))).length + (⟨(hexL (be4 a0_1)).toArray⟩ : ByteArray).size ≤ 140737488355328 by rw [Lib.byteCells_length, hexL_length, beL_length]; show 2 * (4 * 1) + (hexL (be4 a0_1)).length ≤ _; rw [hexL_length]; show 2 * (4 * 1) + 2 * 4 ≤ 140737488355328; decide)
      have HB := Aside0.mk (Below.refl wr.heap.size wr)
      have hix := ix24_1 wr a0_0 a0_1 a0_2 a0_3
      go_wp2_with (first | ((with_reducible refine gate_dst (N := 12) rfl ?_); refine Kd.R_lit (Kd.int .u32) _ 22 ?hg (N := 12) ?hd (xs := ([a0_1] : List Int)) (inner := [.int .u32 a0_1]) (ok := fun _ => True) (okp := fun _ => True) ?hr ?hp (fun _ hk => hk) trivial (Below.refl _ _) (Nat.le_refl _) (by simp) ?_; (case hd => rfl); (case hg => rfl); (case hr => first | (go_simp; done) | (go_simp; rfl)); (case hp => exact (Reps.one (show Kd.M (Kd.int .u32) _ _ _ (a0_1) [.int .u32 (a0_1)] from rfl) (Reps.none _ _))); intro va wa ho hb hg_ hnew_; clear hg_ hnew_; have n0_ := Aside0.mk (below_step (by repeat (first | (with_reducible first | exact HB.out | apply below_alloc | apply pw_below_drewN | apply below_drew1) | exact HB.out)) hb); have HOa := Aside0.mk ho; clear HB; have HB := n0_; clear n0_ hb ho; obtain ⟨Aoa, coa, eoa⟩ := Kd.R_slice HOa.out; subst eoa) | ((go_at_call 45); (with_reducible refine (bytes_one _ _ a0_1 lo _ (Kd.R_reads' HOa.out).2.2 (Kd.R_reads' HOa.out).2.1 HL.out).mono ?_); rintro e w2 ⟨rfl, hb⟩; have n0_ := Aside0.mk (below_step (by repeat (first | (with_reducible first | exact HB.out | apply below_alloc | apply pw_below_drewN | apply below_drew1) | exact HB.out)) hb); clear HB HOa; have HB := n0_; clear n0_ hb))
      refine still_tail 8 (by kernel_rfl) (by kernel_rfl) ?_
      simp only [List.take_succ_cons, List.take_zero, List.drop_succ_cons, List.drop_zero]
      repeat still_step
      try refine wpStill_nil ?_
      rw [E3.out, E2.out, E1.out, E0.out]
      go_wp2_with (first | ((with_reducible refine gate_dst (N := 22) rfl ?_); refine Kd.R_lit (Kd.int .u8) _ 5 ?hg (N := 22) ?hd (xs := ([a0_1 / 16777216, a0_1 / 65536 % 256, a0_1 / 256 % 256, a0_1 % 256] : List Int)) (inner := [.int .u8 (a0_1 / 16777216), .int .u8 (a0_1 / 65536 % 256), .int .u8 (a0_1 / 256 % 256), .int .u8 (a0_1 % 256)]) (ok := fun _ => True) (okp := fun _ => True) ?hr ?hp (fun _ hk => hk) trivial (Below.refl _ _) (Nat.le_refl _) (by simp) ?_; (case hd => rfl); (case hg => rfl); (case hr => first | (go_simp; done) | (go_simp; rfl)); (case hp => exact (Reps.one (show Kd.M (Kd.int .u8) _ _ _ (a0_1 / 16777216) [.int .u8 (a0_1 / 16777216)] from rfl) (Reps.one (show Kd.M (Kd.int .u8) _ _ _ (a0_1 / 65536 % 256) [.int .u8 (a0_1 / 65536 % 256)] from rfl) (Reps.one (show Kd.M (Kd.int .u8) _ _ _ (a0_1 / 256 % 256) [.int .u8 (a0_1 / 256 % 256)] from rfl) (Reps.one (show Kd.M (Kd.int .u8) _ _ _ (a0_1 % 256) [.int .u8 (a0_1 % 256)] from rfl) (Reps.none _ _)))))); intro vb wb ho hb hg_ hnew_; clear hg_ hnew_; have n0_ := Aside0.mk (below_step (by repeat (first | (with_reducible first | exact HB.out | apply below_alloc | apply pw_below_drewN | apply below_drew1) | exact HB.out)) hb); have HOb := Aside0.mk ho; clear HB; have HB := n0_; clear n0_ hb ho; obtain ⟨Aob, cob, eob⟩ := Kd.R_slice HOb.out; subst eob; have hcv : (convert 41 9 (.slice Aob 4 cob)).run Tryd.prog wb = .ok (.string (strOfNums [a0_1 / 16777216, a0_1 / 65536 % 256, a0_1 / 256 % 256, a0_1 % 256])) wb := own_string (P := Tryd.prog) Tryd.underlying41 Tryd.underlying5 Tryd.underlying9 (Kd.own_of_R HOb.out)) | ((go_at_call 50); (with_reducible refine (hex_Text.calls _ ⟨(hexL (be4 a0_1)).toArray⟩ _ HH.out).mono ?_); rintro e w4 ⟨rfl, hb⟩; have n0_ := Aside0.mk (below_step (by repeat (first | (with_reducible first | exact HB.out | apply below_alloc | apply pw_below_drewN | apply below_drew1) | exact HB.out)) hb); clear HB hcv HOb; have HB := n0_; have HI4 := Aside0.mk (isBuilder_below HI.out HB.out); have HW4 := Aside0.mk (below_step HW.out HB.out); clear n0_ hb) | ((go_at_call 49); (with_reducible refine (write_string w.heap.size (w.heap.size + 1) _ ⟨(hexL (be4 a0_1)).toArray⟩ _ HI4.out HLN.out (below_size HW4.out)).mono ?_); rintro e w5 ⟨rfl, hx5, hb⟩; have n0_ := Aside0.mk (HW4.out.trans hb); have n1_ := Aside0.mk hx5; clear HW4 HI4; have HW5 := n0_; have HI5 := n1_; clear n0_ n1_ hb hx5))
      go_roundg 2
      case measure => omega
      case rel => exact ⟨2, by first | rfl | (simp; done), ⟨rfl⟩, ⟨show Lib.IsBuilder 68 5 w.heap.size (w.heap.size + 1) (Lib.byteCells (hexL (beL ([a0_0, a0_1, a0_2, a0_3].take 2)))) _ from .inr (by have h5 := HI5.out; simpa [beL, hexL, Lib.byteCells, Lib.strCells] using h5)⟩, HW5⟩
    · obtain rfl : gk = 1 + 1 := by have := HA.out; omega
      clear HA hi
      have hx := HS.out.2.2.1
      have HH := Aside0.mk (hex_be4 a0_2 hx)
      obtain ⟨lo, hl, HSZ, e0, e1, e2, e3⟩ := low_spec a0_2 hx
      have HL := Aside0.mk hl
      have E0 := Aside0.mk e0
      have E1 := Aside0.mk e1
      have E2 := Aside0.mk e2
      have E3 := Aside0.mk e3
      have hszi : (lo.size : Int) = 4 := by have := HSZ.out; omega
      clear hl e0 e1 e2 e3 hx
      have HLN := Aside0.mk (show (Lib.byteCells (hexL (beL ([a0_0, a0_1, a0_2, a0_3].take 2)))).length + (⟨(hexL (be4 a0_2)).toArray⟩ : ByteArray).size ≤ 140737488355328 by rw [Lib.byteCells_length, hexL_length, beL_length]; show 2 * (4 * 2) + (hexL (be4 a0_2)).length ≤ _; rw [hexL_length]; show 2 * (4 * 2) + 2 * 4 ≤ 140737488355328; decide)
      have HB := Aside0.mk (Below.refl wr.heap.size wr)
      have hix := ix24_2 wr a0_0 a0_1 a0_2 a0_3
      go_wp2_with (first | ((with_reducible refine gate_dst (N := 12) rfl ?_); refine Kd.R_lit (Kd.int .u32) _ 22 ?hg (N := 12) ?hd (xs := ([a0_2] : List Int)) (inner := [.int .u32 a0_2]) (ok := fun _ => True) (okp := fun _ => True) ?hr ?hp (fun _ hk => hk) trivial (Below.refl _ _) (Nat.le_refl _) (by simp) ?_; (case hd => rfl); (case hg => rfl); (case hr => first | (go_simp; done) | (go_simp; rfl)); (case hp => exact (Reps.one (show Kd.M (Kd.int .u32) _ _ _ (a0_2) [.int .u32 (a0_2)] from rfl) (Reps.none _ _))); intro va wa ho hb hg_ hnew_; clear hg_ hnew_; have n0_ := Aside0.mk (below_step (by repeat (first | (with_reducible first | exact HB.out | apply below_alloc | apply pw_below_drewN | apply below_drew1) | exact HB.out)) hb); have HOa := Aside0.mk ho; clear HB; have HB := n0_; clear n0_ hb ho; obtain ⟨Aoa, coa, eoa⟩ := Kd.R_slice HOa.out; subst eoa) | ((go_at_call 45); (with_reducible refine (bytes_one _ _ a0_2 lo _ (Kd.R_reads' HOa.out).2.2 (Kd.R_reads' HOa.out).2.1 HL.out).mono ?_); rintro e w2 ⟨rfl, hb⟩; have n0_ := Aside0.mk (below_step (by repeat (first | (with_reducible first | exact HB.out | apply below_alloc | apply pw_below_drewN | apply below_drew1) | exact HB.out)) hb); clear HB HOa; have HB := n0_; clear n0_ hb))
      refine still_tail 8 (by kernel_rfl) (by kernel_rfl) ?_
      simp only [List.take_succ_cons, List.take_zero, List.drop_succ_cons, List.drop_zero]
      repeat still_step
      try refine wpStill_nil ?_
      rw [E3.out, E2.out, E1.out, E0.out]
      go_wp2_with (first | ((with_reducible refine gate_dst (N := 22) rfl ?_); refine Kd.R_lit (Kd.int .u8) _ 5 ?hg (N := 22) ?hd (xs := ([a0_2 / 16777216, a0_2 / 65536 % 256, a0_2 / 256 % 256, a0_2 % 256] : List Int)) (inner := [.int .u8 (a0_2 / 16777216), .int .u8 (a0_2 / 65536 % 256), .int .u8 (a0_2 / 256 % 256), .int .u8 (a0_2 % 256)]) (ok := fun _ => True) (okp := fun _ => True) ?hr ?hp (fun _ hk => hk) trivial (Below.refl _ _) (Nat.le_refl _) (by simp) ?_; (case hd => rfl); (case hg => rfl); (case hr => first | (go_simp; done) | (go_simp; rfl)); (case hp => exact (Reps.one (show Kd.M (Kd.int .u8) _ _ _ (a0_2 / 16777216) [.int .u8 (a0_2 / 16777216)] from rfl) (Reps.one (show Kd.M (Kd.int .u8) _ _ _ (a0_2 / 65536 % 256) [.int .u8 (a0_2 / 65536 % 256)] from rfl) (Reps.one (show Kd.M (Kd.int .u8) _ _ _ (a0_2 / 256 % 256) [.int .u8 (a0_2 / 256 % 256)] from rfl) (Reps.one (show Kd.M (Kd.int .u8) _ _ _ (a0_2 % 256) [.int .u8 (a0_2 % 256)] from rfl) (Reps.none _ _)))))); intro vb wb ho hb hg_ hnew_; clear hg_ hnew_; have n0_ := Aside0.mk (below_step (by repeat (first | (with_reducible first | exact HB.out | apply below_alloc | apply pw_below_drewN | apply below_drew1) | exact HB.out)) hb); have HOb := Aside0.mk ho; clear HB; have HB := n0_; clear n0_ hb ho; obtain ⟨Aob, cob, eob⟩ := Kd.R_slice HOb.out; subst eob; have hcv : (convert 41 9 (.slice Aob 4 cob)).run Tryd.prog wb = .ok (.string (strOfNums [a0_2 / 16777216, a0_2 / 65536 % 256, a0_2 / 256 % 256, a0_2 % 256])) wb := own_string (P := Tryd.prog) Tryd.underlying41 Tryd.underlying5 Tryd.underlying9 (Kd.own_of_R HOb.out)) | ((go_at_call 50); (with_reducible refine (hex_Text.calls _ ⟨(hexL (be4 a0_2)).toArray⟩ _ HH.out).mono ?_); rintro e w4 ⟨rfl, hb⟩; have n0_ := Aside0.mk (below_step (by repeat (first | (with_reducible first | exact HB.out | apply below_alloc | apply pw_below_drewN | apply below_drew1) | exact HB.out)) hb); clear HB hcv HOb; have HB := n0_; have HI4 := Aside0.mk (isBuilder_below HI.out HB.out); have HW4 := Aside0.mk (below_step HW.out HB.out); clear n0_ hb) | ((go_at_call 49); (with_reducible refine (write_string w.heap.size (w.heap.size + 1) _ ⟨(hexL (be4 a0_2)).toArray⟩ _ HI4.out HLN.out (below_size HW4.out)).mono ?_); rintro e w5 ⟨rfl, hx5, hb⟩; have n0_ := Aside0.mk (HW4.out.trans hb); have n1_ := Aside0.mk hx5; clear HW4 HI4; have HW5 := n0_; have HI5 := n1_; clear n0_ n1_ hb hx5))
      go_roundg 1
      case measure => omega
      case rel => exact ⟨3, by first | rfl | (simp; done), ⟨rfl⟩, ⟨show Lib.IsBuilder 68 5 w.heap.size (w.heap.size + 1) (Lib.byteCells (hexL (beL ([a0_0, a0_1, a0_2, a0_3].take 3)))) _ from .inr (by have h5 := HI5.out; simpa [beL, hexL, Lib.byteCells, Lib.strCells] using h5)⟩, HW5⟩
    · obtain rfl : gk = 0 + 1 := by have := HA.out; omega
      clear HA hi
      have hx := HS.out.2.2.2
      have HH := Aside0.mk (hex_be4 a0_3 hx)
      obtain ⟨lo, hl, HSZ, e0, e1, e2, e3⟩ := low_spec a0_3 hx
      have HL := Aside0.mk hl
      have E0 := Aside0.mk e0
      have E1 := Aside0.mk e1
      have E2 := Aside0.mk e2
      have E3 := Aside0.mk e3
      have hszi : (lo.size : Int) = 4 := by have := HSZ.out; omega
      clear hl e0 e1 e2 e3 hx
      have HLN := Aside0.mk (show (Lib.byteCells (hexL (beL ([a0_0, a0_1, a0_2, a0_3].take 3)))).length + (⟨(hexL (be4 a0_3)).toArray⟩ : ByteArray).size ≤ 140737488355328 by rw [Lib.byteCells_length, hexL_length, beL_length]; show 2 * (4 * 3) + (hexL (be4 a0_3)).length ≤ _; rw [hexL_length]; show 2 * (4 * 3) + 2 * 4 ≤ 140737488355328; decide)
      have HB := Aside0.mk (Below.refl wr.heap.size wr)
      have hix := ix24_3 wr a0_0 a0_1 a0_2 a0_3
      go_wp2_with (first | ((with_reducible refine gate_dst (N := 12) rfl ?_); refine Kd.R_lit (Kd.int .u32) _ 22 ?hg (N := 12) ?hd (xs := ([a0_3] : List Int)) (inner := [.int .u32 a0_3]) (ok := fun _ => True) (okp := fun _ => True) ?hr ?hp (fun _ hk => hk) trivial (Below.refl _ _) (Nat.le_refl _) (by simp) ?_; (case hd => rfl); (case hg => rfl); (case hr => first | (go_simp; done) | (go_simp; rfl)); (case hp => exact (Reps.one (show Kd.M (Kd.int .u32) _ _ _ (a0_3) [.int .u32 (a0_3)] from rfl) (Reps.none _ _))); intro va wa ho hb hg_ hnew_; clear hg_ hnew_; have n0_ := Aside0.mk (below_step (by repeat (first | (with_reducible first | exact HB.out | apply below_alloc | apply pw_below_drewN | apply below_drew1) | exact HB.out)) hb); have HOa := Aside0.mk ho; clear HB; have HB := n0_; clear n0_ hb ho; obtain ⟨Aoa, coa, eoa⟩ := Kd.R_slice HOa.out; subst eoa) | ((go_at_call 45); (with_reducible refine (bytes_one _ _ a0_3 lo _ (Kd.R_reads' HOa.out).2.2 (Kd.R_reads' HOa.out).2.1 HL.out).mono ?_); rintro e w2 ⟨rfl, hb⟩; have n0_ := Aside0.mk (below_step (by repeat (first | (with_reducible first | exact HB.out | apply below_alloc | apply pw_below_drewN | apply below_drew1) | exact HB.out)) hb); clear HB HOa; have HB := n0_; clear n0_ hb))
      refine still_tail 8 (by kernel_rfl) (by kernel_rfl) ?_
      simp only [List.take_succ_cons, List.take_zero, List.drop_succ_cons, List.drop_zero]
      repeat still_step
      try refine wpStill_nil ?_
      rw [E3.out, E2.out, E1.out, E0.out]
      go_wp2_with (first | ((with_reducible refine gate_dst (N := 22) rfl ?_); refine Kd.R_lit (Kd.int .u8) _ 5 ?hg (N := 22) ?hd (xs := ([a0_3 / 16777216, a0_3 / 65536 % 256, a0_3 / 256 % 256, a0_3 % 256] : List Int)) (inner := [.int .u8 (a0_3 / 16777216), .int .u8 (a0_3 / 65536 % 256), .int .u8 (a0_3 / 256 % 256), .int .u8 (a0_3 % 256)]) (ok := fun _ => True) (okp := fun _ => True) ?hr ?hp (fun _ hk => hk) trivial (Below.refl _ _) (Nat.le_refl _) (by simp) ?_; (case hd => rfl); (case hg => rfl); (case hr => first | (go_simp; done) | (go_simp; rfl)); (case hp => exact (Reps.one (show Kd.M (Kd.int .u8) _ _ _ (a0_3 / 16777216) [.int .u8 (a0_3 / 16777216)] from rfl) (Reps.one (show Kd.M (Kd.int .u8) _ _ _ (a0_3 / 65536 % 256) [.int .u8 (a0_3 / 65536 % 256)] from rfl) (Reps.one (show Kd.M (Kd.int .u8) _ _ _ (a0_3 / 256 % 256) [.int .u8 (a0_3 / 256 % 256)] from rfl) (Reps.one (show Kd.M (Kd.int .u8) _ _ _ (a0_3 % 256) [.int .u8 (a0_3 % 256)] from rfl) (Reps.none _ _)))))); intro vb wb ho hb hg_ hnew_; clear hg_ hnew_; have n0_ := Aside0.mk (below_step (by repeat (first | (with_reducible first | exact HB.out | apply below_alloc | apply pw_below_drewN | apply below_drew1) | exact HB.out)) hb); have HOb := Aside0.mk ho; clear HB; have HB := n0_; clear n0_ hb ho; obtain ⟨Aob, cob, eob⟩ := Kd.R_slice HOb.out; subst eob; have hcv : (convert 41 9 (.slice Aob 4 cob)).run Tryd.prog wb = .ok (.string (strOfNums [a0_3 / 16777216, a0_3 / 65536 % 256, a0_3 / 256 % 256, a0_3 % 256])) wb := own_string (P := Tryd.prog) Tryd.underlying41 Tryd.underlying5 Tryd.underlying9 (Kd.own_of_R HOb.out)) | ((go_at_call 50); (with_reducible refine (hex_Text.calls _ ⟨(hexL (be4 a0_3)).toArray⟩ _ HH.out).mono ?_); rintro e w4 ⟨rfl, hb⟩; have n0_ := Aside0.mk (below_step (by repeat (first | (with_reducible first | exact HB.out | apply below_alloc | apply pw_below_drewN | apply below_drew1) | exact HB.out)) hb); clear HB hcv HOb; have HB := n0_; have HI4 := Aside0.mk (isBuilder_below HI.out HB.out); have HW4 := Aside0.mk (below_step HW.out HB.out); clear n0_ hb) | ((go_at_call 49); (with_reducible refine (write_string w.heap.size (w.heap.size + 1) _ ⟨(hexL (be4 a0_3)).toArray⟩ _ HI4.out HLN.out (below_size HW4.out)).mono ?_); rintro e w5 ⟨rfl, hx5, hb⟩; have n0_ := Aside0.mk (HW4.out.trans hb); have n1_ := Aside0.mk hx5; clear HW4 HI4; have HW5 := n0_; have HI5 := n1_; clear n0_ n1_ hb hx5))
      go_roundg 0
      case measure => omega
      case rel => exact ⟨4, by first | rfl | (simp; done), ⟨rfl⟩, ⟨show Lib.IsBuilder 68 5 w.heap.size (w.heap.size + 1) (Lib.byteCells (hexL (beL ([a0_0, a0_1, a0_2, a0_3].take 4)))) _ from .inr (by have h5 := HI5.out; simpa [beL, hexL, Lib.byteCells, Lib.strCells] using h5)⟩, HW5⟩
    · clear HA hi
      go_wp2_with (go_at_call 51; refine (Any.Builder_String_any { Tryd.lays105 with } Tryd.Builder_Extra_105 w.heap.size (w.heap.size + 1) _ _ HI.out (below_size HW.out)).mono ?_)
      rintro e w1 ⟨rfl, hb⟩
      have HB1 := Aside0.mk (HW.out.trans hb)
      clear hb HW
      go_wp2
      go_ret
      exact ⟨by rw [HR.out]; rfl, HB1.out⟩


end Go.Proofs.YthimgiphlenjdaaDoor.PI
