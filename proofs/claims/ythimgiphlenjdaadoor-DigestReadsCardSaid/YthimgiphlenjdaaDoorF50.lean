/- Contracts of the Go functions of this seat, each over a Lean function of the same answers; written by a program of this session's. -/
import Derived.Test.YthimgiphlenjdaaDoorPIx0
import Derived.Test.YthimgiphlenjdaaDoorHWords
import Derived.Test.YthimgiphlenjdaaDoorHWrite
import Derived.Test.YthimgiphlenjdaaDoorF76
namespace Go.Proofs.YthimgiphlenjdaaDoor.PI
open Go.RowKit Go.Proofs.YthimgiphlenjdaaDoorW.PrintWords Go.Proofs.YthimgiphlenjdaaDoorW.PrintLast Go.Proofs.YthimgiphlenjdaaDoorW.PrintMore
attribute [local go_sem] max2_int min2_int max_two min_two max_three min_three max_four min_four   -- for this text's walks alone
open HX
set_option linter.unusedVariables false
set_option linter.unusedSimpArgs false

/-! ### hex_Text: function 50 -/
-- import HWrite
/-- A digit's sign. -/
def digs : ByteArray := ⟨#[48, 49, 50, 51, 52, 53, 54, 55, 56, 57, 97, 98, 99, 100, 101, 102]⟩
def hexTwo (c : UInt8) : List UInt8 := [(digs.data.toList.getD (c.toNat / 16) 0), (digs.data.toList.getD (c.toNat % 16) 0)]
def hexL (l : List UInt8) : List UInt8 := l.flatMap hexTwo
theorem hexL_snoc (l : List UInt8) (c : UInt8) : hexL (l ++ [c]) = hexL l ++ hexTwo c := by simp [hexL]
theorem hexL_length (l : List UInt8) : (hexL l).length = 2 * l.length := by
  induction l with
  | nil => rfl
  | cons a l ih => simp only [hexL, List.flatMap_cons, List.length_append, List.length_cons] at ih ⊢; rw [ih]; simp [hexTwo]; omega
theorem hexTwo_len (c : UInt8) : (hexTwo c).length = 2 := rfl
theorem two_eq (c : UInt8) : hex_two.f (c.toNat : Int) = some ((hexTwo c).map fun x : UInt8 => (x.toNat : Int)) := by
  have h : ∀ n : Fin 256, hex_two.f ((UInt8.ofNat n.val).toNat : Int) = some ((hexTwo (UInt8.ofNat n.val)).map fun x : UInt8 => (x.toNat : Int)) := by decide +kernel
  have h1 := h ⟨c.toNat, c.toNat_lt⟩
  simpa using h1
def hex_Text.f (a0 : ByteArray) : Option ByteArray := if a0.size ≤ 4294967296 then some ⟨(hexL a0.data.toList).toArray⟩ else none
theorem hexL_take (s : ByteArray) (i : Nat) (h : i < s.size) : hexL (s.data.toList.take (i + 1)) = hexL (s.data.toList.take i) ++ hexTwo (s[i]) := by
  rw [List.take_succ_eq_append_getElem (by simpa using h), hexL_snoc]
  rfl
set_option maxHeartbeats 8000000 in
set_option maxRecDepth 100000 in
theorem hex_Text.calls (a0 : ByteArray) (r : ByteArray) (w : World) (h : hex_Text.f a0 = some r) :
    Calls Tryd.prog 50 #[.string a0] w fun e w' => e = .returned (.string r) ∧ Below w.heap.size w w' := by
  have hsz : a0.size ≤ 4294967296 := by
    unfold hex_Text.f at h
    split at h
    · assumption
    · cases h
  have hr : r = ⟨(hexL a0.data.toList).toArray⟩ := by
    unfold hex_Text.f at h
    rw [if_pos hsz] at h
    exact (Option.some.inj h).symm
  clear h
  have HR := Aside0.mk hr
  clear hr
  have HS := Aside0.mk hsz
  clear hsz
  go_enter Tryd.func50, Tryd.ntmps50
  go_wp2
  have hB0 : Lib.IsBuilder 68 5 w.heap.size w.heap.size (Lib.byteCells (hexL (a0.data.toList.take 0))) (w.alloc (.cells #[.pointer none, .slice none 0 0] 68 (0, 0))) := by
    refine .inl ⟨Nat.le_refl _, .slice none 0 0, blk_newAt rfl, ⟨rfl, .inl ⟨rfl, rfl⟩⟩, by simp [Value.ownBlock]⟩
  have HI := Aside0.mk hB0
  clear hB0
  have HB := Aside0.mk (below_alloc (Below.refl w.heap.size w) (o := .cells #[.pointer none, .slice none 0 0] 68 (0, 0)))
  go_loopg [7] a0.size (fun kq v7 w' => ∃ (i : Nat), v7 = .int .i64 (i : Int) ∧ Aside0 (i + kq = a0.size) ∧ Aside0 (Lib.IsBuilder 68 5 w.heap.size w.heap.size (Lib.byteCells (hexL (a0.data.toList.take i))) w') ∧ Aside0 (Below w.heap.size w w'))
  case atStart => exact ⟨0, by first | rfl | (simp; done), ⟨by omega⟩, HI, HB⟩
  case round =>
    clear HI HB
    obtain ⟨i, rfl, HA, HI, HB⟩ := hrel
    cases gk with
    | zero =>
      obtain rfl : i = a0.size := by have := HA.out; omega
      go_wp2_with (go_at_call 51; refine (Any.Builder_String_any { Tryd.lays105 with } Tryd.Builder_Extra_105 w.heap.size w.heap.size _ _ HI.out (below_size HB.out)).mono ?_)
      rintro e w1 ⟨rfl, hb⟩
      have HB1 := Aside0.mk (HB.out.trans hb)
      clear hb HB
      go_wp2
      go_ret
      exact ⟨by rw [HR.out, List.take_of_length_le (by simp)]; rfl, HB1.out⟩
    | succ k1 =>
      have hlt : i < a0.size := by have := HA.out; omega
      have htw := two_eq a0[i]
      have HT := Aside0.mk htw
      clear htw
      go_wp2_with (go_at_call 76; refine (hex_two.calls _ _ _ HT.out).mono ?_)
      rintro e w1 ⟨v1, rfl, hR, hb⟩
      have HI1 := Aside0.mk (isBuilder_below HI.out hb)
      have hlt1 := below_size HB.out
      have hl1 : (hexL (a0.data.toList.take i)).length = 2 * i := by rw [hexL_length, List.length_take]; simp; omega
      have hs1 := HS.out
      have hblt : w.heap.size < wr.heap.size := by rcases HI.out with h | h <;> exact h.lt
      have HB1 := Aside0.mk (HB.out.trans (hb.mono hlt1))
      have hw1 := below_size HB1.out
      have HRR := Aside0.mk (write_row w.heap.size w.heap.size wr.heap.size _ (hexL (a0.data.toList.take i)) (hexTwo a0[i]) _ v1 w1 HI1.out hR rfl (by rw [hexTwo_len]; omega) hblt (by rw [hexTwo_len, hl1]; omega) hw1)
      clear hR hb HI HB HI1 hw1 hblt hlt1 hl1 hs1 HT
      go_wp2_with (go_at_call 75; refine (HRR.out).mono ?_)
      rintro e w2 ⟨rfl, hb2, hb3⟩
      have HI2 := Aside0.mk (show Lib.IsBuilder 68 5 w.heap.size w.heap.size (Lib.byteCells (hexL (a0.data.toList.take (i + 1)))) w2 by rw [hexL_take a0 i hlt]; exact .inr hb2)
      have HB2 := Aside0.mk (HB1.out.trans hb3)
      clear hb2 hb3 HB1 HRR
      have hi2 : (i : Int) ≤ 4294967296 := by have := HS.out; omega
      have hi3 : (0 : Int) ≤ (i : Int) := by omega
      go_wp2
      go_roundg k1
      case measure => omega
      case rel => exact ⟨i + 1, by first | rfl | (simp; done) | go_num, ⟨by have := HA.out; omega⟩, HI2, HB2⟩


end Go.Proofs.YthimgiphlenjdaaDoor.PI
