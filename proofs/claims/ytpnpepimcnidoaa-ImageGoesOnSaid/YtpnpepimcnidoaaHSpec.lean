/- Plain facts on bytes and words: four bytes as a word, or-sums of disjoint bytes, cuts of byte strings. -/
import Derived.Test.YtpnpepimcnidoaaHWords
namespace Go.Proofs.Ytpnpepimcnidoaa.HX
open Go.RowKit Go.Proofs.YtpnpepimcnidoaaW.PrintWords

theorem wraps_u32 (n : Int) (h₀ : 0 ≤ n) (h₁ : n < 2 ^ 32) : IntKind.u32.wrap n = n := by rw [IntKind.wrap_u32]; omega

theorem bits_or_comm (x y : Int) : bits .or .u32 x y = bits .or .u32 y x := by
  simp only [bits, BitVec.or_comm]

theorem or_add (i : Nat) (x y : Int) (hx0 : 0 ≤ x) (hx : x < 2 ^ i) (hx1 : x < 2 ^ 32) (hy0 : 0 ≤ y) (hy : y % 2 ^ i = 0) (hy1 : y < 2 ^ 32) : bits .or .u32 x y = x + y := by
  rw [bits_or_comm, bits_join .u32 32 (by decide) wraps_u32 i y x hy0 hy hy1 hx0 hx hx1]
  omega

/-- Four bytes, the lowest first. -/
def word4 (a b c d : Int) : Int := a + 256 * b + 65536 * c + 16777216 * d

theorem or_word (a b c d : Int) (ha : 0 ≤ a ∧ a ≤ 255) (hb : 0 ≤ b ∧ b ≤ 255) (hc : 0 ≤ c ∧ c ≤ 255) (hd : 0 ≤ d ∧ d ≤ 255) :
    bits .or .u32 (bits .or .u32 (bits .or .u32 (a % 4294967296) (((b % 4294967296) * 256) % 4294967296)) (((c % 4294967296) * 65536) % 4294967296)) (((d % 4294967296) * 16777216) % 4294967296) = word4 a b c d := by
  have e1 : a % 4294967296 = a := by omega
  have e2 : ((b % 4294967296) * 256) % 4294967296 = b * 256 := by omega
  have e3 : ((c % 4294967296) * 65536) % 4294967296 = c * 65536 := by omega
  have e4 : ((d % 4294967296) * 16777216) % 4294967296 = d * 16777216 := by omega
  rw [e1, e2, e3, e4]
  rw [or_add 8 a (b * 256) (by omega) (by omega) (by omega) (by omega) (by omega) (by omega)]
  rw [or_add 16 (a + b * 256) (c * 65536) (by omega) (by omega) (by omega) (by omega) (by omega) (by omega)]
  rw [or_add 24 (a + b * 256 + c * 65536) (d * 16777216) (by omega) (by omega) (by omega) (by omega) (by omega) (by omega)]
  unfold word4
  omega

theorem word4_range (a b c d : Int) (ha : 0 ≤ a ∧ a ≤ 255) (hb : 0 ≤ b ∧ b ≤ 255) (hc : 0 ≤ c ∧ c ≤ 255) (hd : 0 ≤ d ∧ d ≤ 255) : 0 ≤ word4 a b c d ∧ word4 a b c d < 4294967296 := by
  unfold word4
  omega

/-- The word that stands from place i on. -/
def wd (s : ByteArray) (i : Nat) : Int := word4 (bt s (i : Nat)) (bt s ((i + 1 : Nat) : Int)) (bt s ((i + 2 : Nat) : Int)) (bt s ((i + 3 : Nat) : Int))
theorem wd_range (s : ByteArray) (i : Nat) : 0 ≤ wd s i ∧ wd s i < 4294967296 := word4_range _ _ _ _ (bt_range _ _) (bt_range _ _) (bt_range _ _) (bt_range _ _)
/-- n words from place i on. -/
def wds (s : ByteArray) (i n : Nat) : List Int := (List.range n).map fun j => wd s (i + 4 * j)
theorem wds_length (s : ByteArray) (i n : Nat) : (wds s i n).length = n := by simp [wds]
theorem wds_succ (s : ByteArray) (i n : Nat) : wds s i (n + 1) = wd s i :: wds s (i + 4) n := by
  simp only [wds, List.range_succ_eq_map, List.map_cons, List.map_map, Nat.mul_zero, Nat.add_zero]
  congr 1
  apply List.map_congr_left
  intro j _
  simp only [Function.comp_def]
  congr 1
  omega

theorem bt_extract (s : ByteArray) (a j : Nat) (h : a + j < s.size) : bt (s.extract a s.size) (j : Nat) = bt s ((a + j : Nat) : Int) := by
  unfold bt
  have h1 : j < (s.extract a s.size).size := by rw [ByteArray.size_extract]; omega
  rw [dif_pos (by rw [Int.toNat_natCast]; exact h1), dif_pos (by rw [Int.toNat_natCast]; exact h)]
  simp only [Int.toNat_natCast]
  congr 2
  rw [ByteArray.getElem_extract]

theorem wd_extract (s : ByteArray) (a j : Nat) (h : a + j + 3 < s.size) : wd (s.extract a s.size) j = wd s (a + j) := by
  unfold wd
  rw [bt_extract s a j (by omega), bt_extract s a (j + 1) (by omega), bt_extract s a (j + 2) (by omega), bt_extract s a (j + 3) (by omega)]
  simp only [Nat.add_assoc]
theorem wds_extract (s : ByteArray) (a i n : Nat) (h : a + i + 4 * n ≤ s.size) : wds (s.extract a s.size) i n = wds s (a + i) n := by
  apply List.map_congr_left
  intro j hj
  have : j < n := by simpa using hj
  rw [wd_extract s a (i + 4 * j) (by omega), Nat.add_assoc]
end Go.Proofs.Ytpnpepimcnidoaa.HX
