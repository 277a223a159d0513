/- Bytes as words, by the program and by the reference; the digest of bytes, in plain words. -/
import Derived.Test.YthimgiphlenjdaaDoorPureTake
import Derived.Test.YthimgiphlenjdaaDoorGc
set_option linter.unusedVariables false
namespace Go.Proofs.YthimgiphlenjdaaDoor.PI
open Go.RowKit Go.Proofs.YthimgiphlenjdaaDoorW.PrintWords HX
theorem w64' (x : Int) (h0 : -9223372036854775808 ≤ x) (h1 : x ≤ 9223372036854775807) : wrap64 x = x := by unfold wrap64; omega
/-- Four bytes as a word, the low end first. -/
def le4 (a b c d : Int) : Int := ((d * 256 + c) * 256 + b) * 256 + a
def wordsL : List Int → List Int
  | a :: b :: c :: d :: t => le4 a b c d :: wordsL t
  | _ => []
theorem wordsL_append : ∀ (l m : List Int), l.length % 4 = 0 → wordsL (l ++ m) = wordsL l ++ wordsL m
  | [], m, _ => rfl
  | [_], _, h => by simp at h
  | [_, _], _, h => by simp at h
  | [_, _, _], _, h => by simp at h
  | a :: b :: c :: d :: t, m, h => by
    show le4 a b c d :: wordsL (t ++ m) = _
    rw [wordsL_append t m (by simp at h; omega)]
    rfl
theorem wordsL_length : ∀ (l : List Int), l.length % 4 = 0 → 4 * (wordsL l).length = l.length
  | [], _ => rfl
  | [_], h => by simp at h
  | [_, _], h => by simp at h
  | [_, _, _], h => by simp at h
  | a :: b :: c :: d :: t, h => by
    have := wordsL_length t (by simp at h; omega)
    simp only [wordsL, List.length_cons]
    omega
theorem or_le (a b c d : Int) (ha : 0 ≤ a ∧ a ≤ 255) (hb : 0 ≤ b ∧ b ≤ 255) (hc : 0 ≤ c ∧ c ≤ 255) (hd : 0 ≤ d ∧ d ≤ 255) :
    Go.bits .or .u32 (Go.bits .or .u32 (Go.bits .or .u32 (a % 4294967296) (((b % 4294967296) * 256) % 4294967296)) (((c % 4294967296) * 65536) % 4294967296)) (((d % 4294967296) * 16777216) % 4294967296) = le4 a b c d := by
  obtain ⟨A, rfl⟩ := Int.eq_ofNat_of_zero_le ha.1
  obtain ⟨B, rfl⟩ := Int.eq_ofNat_of_zero_le hb.1
  obtain ⟨C, rfl⟩ := Int.eq_ofNat_of_zero_le hc.1
  obtain ⟨D, rfl⟩ := Int.eq_ofNat_of_zero_le hd.1
  have orn : ∀ (x y i : Nat), x < 2 ^ i → (x ||| y * 2 ^ i) = x + y * 2 ^ i := fun x y i hx => by
    have h := Nat.shiftLeft_add_eq_or_of_lt hx y
    rw [Nat.shiftLeft_eq] at h
    rw [Nat.or_comm, ← h, Nat.add_comm]
  have h1 := orn A B 8 (by omega)
  have h2 := orn (A + B * 2 ^ 8) C 16 (by omega)
  have h3 := orn (A + B * 2 ^ 8 + C * 2 ^ 16) D 24 (by omega)
  rw [show (A : Int) % 4294967296 = (A : Int) by omega, show (B : Int) % 4294967296 * 256 % 4294967296 = ((B * 2 ^ 8 : Nat) : Int) by omega, show (C : Int) % 4294967296 * 65536 % 4294967296 = ((C * 2 ^ 16 : Nat) : Int) by omega, show (D : Int) % 4294967296 * 16777216 % 4294967296 = ((D * 2 ^ 24 : Nat) : Int) by omega]
  rw [u32_or_nat A (B * 2 ^ 8) (by omega) (by omega), h1, u32_or_nat _ (C * 2 ^ 16) (by omega) (by omega), h2, u32_or_nat _ (D * 2 ^ 24) (by omega) (by omega), h3]
  unfold le4
  omega
theorem bytes_at (x0 : ByteArray) (j : Nat) : bt x0 (j : Int) = (bytesOf x0).getD j 0 := by
  rw [← rd_bytesOf]
  rfl
theorem bytes_ext (x0 : ByteArray) : bytesOf (x0.extract 4 x0.size) = (bytesOf x0).drop 4 := by
  unfold bytesOf
  rw [← List.map_drop]
  refine congrArg (List.map _) ?_
  rw [ByteArray.data_extract, Array.toList_extract]
  show (x0.data.toList.drop 4).take (x0.data.size - 4) = _
  rw [List.take_of_length_le (by simp)]
theorem words_loop : ∀ (bs : List Int) (x0 : ByteArray) (x4 : List Int) (k : Nat), bytesOf x0 = bs → bs.length % 4 = 0 → bs.length + 2 ≤ k → x4.length + bs.length < 35184372088832 →
    word_Words.l0 k x0 x4 = some (x4 ++ wordsL bs, 0)
  | [], x0, x4, k, hb, hm, hk, hl => by
    obtain ⟨k, rfl⟩ : ∃ m, k = m + 1 := ⟨k - 1, by omega⟩
    have hs : x0.size = 0 := by rw [← bytesOf_length, hb]; rfl
    rw [word_Words.l0, if_neg (by omega)]
    simp [wordsL]
  | [_], _, _, _, _, hm, _, _ => by simp at hm
  | [_, _], _, _, _, _, hm, _, _ => by simp at hm
  | [_, _, _], _, _, _, _, hm, _, _ => by simp at hm
  | a :: b :: c :: d :: t, x0, x4, k, hb, hm, hk, hl => by
    obtain ⟨k, rfl⟩ : ∃ m, k = m + 1 := ⟨k - 1, by omega⟩
    have hs : x0.size = t.length + 4 := by rw [← bytesOf_length, hb]; rfl
    have e0 := bytes_at x0 0
    have e1 := bytes_at x0 1
    have e2 := bytes_at x0 2
    have e3 := bytes_at x0 3
    rw [hb] at e0 e1 e2 e3
    have f0 : bt x0 0 = a := e0
    have f1 : bt x0 1 = b := e1
    have f2 : bt x0 2 = c := e2
    have f3 : bt x0 3 = d := e3
    have r0 := bt_range x0 0
    have r1 := bt_range x0 1
    have r2 := bt_range x0 2
    have r3 := bt_range x0 3
    rw [f0] at r0
    rw [f1] at r1
    rw [f2] at r2
    rw [f3] at r3
    simp only [List.length_cons] at hm hk hl
    rw [word_Words.l0, if_pos (by omega), if_pos (by omega), if_pos (by omega), if_pos (by omega), if_pos (by omega), if_pos (by omega), if_pos (by omega), f0, f1, f2, f3, or_le a b c d r0 r1 r2 r3]
    rw [words_loop t (x0.extract 4 x0.size) _ k (by rw [bytes_ext, hb]; rfl) (by omega) (by omega) (by rw [List.length_append]; simp only [List.length_cons, List.length_nil]; omega)]
    simp [wordsL]
theorem words_of (x0 : ByteArray) (k : Nat) (hm : x0.size % 4 = 0) (hk : x0.size + 2 ≤ k) (hs : x0.size ≤ 1099511627776) : word_Words.f k x0 = some (wordsL (bytesOf x0), 0) := by
  unfold word_Words.f
  rw [if_pos (by omega)]
  have h := words_loop (bytesOf x0) x0 [] k rfl (by rw [bytesOf_length]; exact hm) (by rw [bytesOf_length]; exact hk) (by rw [bytesOf_length]; simp; omega)
  simpa using h
end Go.Proofs.YthimgiphlenjdaaDoor.PI
