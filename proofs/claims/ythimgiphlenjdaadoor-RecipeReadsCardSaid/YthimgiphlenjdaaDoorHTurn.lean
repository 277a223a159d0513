/- Turning a word: word.Turn (function 52) and the reference's Turn (function 54), at the turns that Mix and Unmix use. -/
import Derived.Test.YthimgiphlenjdaaDoorPIx0
import Derived.Test.YthimgiphlenjdaaDoorHWords
namespace Go.Proofs.YthimgiphlenjdaaDoor.HX
open Go.RowKit Go.Proofs.YthimgiphlenjdaaDoorW.PrintWords Go.Proofs.YthimgiphlenjdaaDoorW.PrintLast
set_option linter.unusedVariables false
set_option linter.unusedSimpArgs false
/-- A number of 32 bits. -/
def InR (x : Int) : Prop := 0 ≤ x ∧ x < 4294967296
/-- A word turned to the left: by its factor, and what goes round. -/
def turn (c d a : Int) : Int := bits .or .u32 (a * c % 4294967296) (a / d)
theorem wraps_u32 (n : Int) (h₀ : 0 ≤ n) (h₁ : n < 2 ^ 32) : IntKind.u32.wrap n = n := by rw [IntKind.wrap_u32]; omega
theorem bits_or_comm (x y : Int) : bits .or .u32 x y = bits .or .u32 y x := by
  simp only [bits, BitVec.or_comm]
theorem or_add (i : Nat) (x y : Int) (hx0 : 0 ≤ x) (hx : x < 2 ^ i) (hx1 : x < 2 ^ 32) (hy0 : 0 ≤ y) (hy : y % 2 ^ i = 0) (hy1 : y < 2 ^ 32) : bits .or .u32 x y = x + y := by
  rw [bits_or_comm, bits_join .u32 32 (by decide) wraps_u32 i y x hy0 hy hy1 hx0 hx hx1]
  omega
/-- One place to the left. -/
def step1 (x : Int) : Int := 2 * x % 4294967296 + x / 2147483648
def steps : Nat → Int → Int
  | 0, a => a
  | k + 1, a => step1 (steps k a)
theorem step1_range (x : Int) (h : InR x) : InR (step1 x) := by
  unfold InR step1 at *
  omega
theorem steps_range (a : Int) (h : InR a) : ∀ k, InR (steps k a)
  | 0 => h
  | k + 1 => step1_range _ (steps_range a h k)
theorem steps_1 (a : Int) (h : InR a) : steps 1 a = a * 2 % 4294967296 + a / 2147483648 := by
  unfold InR at h
  simp only [steps, step1]
  omega
theorem steps_2 (a : Int) (h : InR a) : steps 2 a = a * 4 % 4294967296 + a / 1073741824 := by
  rw [steps, steps_1 a h]
  unfold InR at h
  obtain ⟨L, hL⟩ : ∃ L, L = a % 1073741824 := ⟨_, rfl⟩
  obtain ⟨q, hq⟩ : ∃ q, q = a / 2147483648 := ⟨_, rfl⟩
  obtain ⟨t, ht⟩ : ∃ t, t = a / 1073741824 % 2 := ⟨_, rfl⟩
  have e0 : a / 1073741824 = 2 * q + t := by omega
  have e1 : a = (2 * q + t) * 1073741824 + L := by omega
  have b1 : 0 ≤ L ∧ L < 1073741824 := by omega
  have b2 : 0 ≤ q ∧ q < 2 := by omega
  have b3 : t = 0 ∨ t = 1 := by omega
  have e2 : a * 2 % 4294967296 = t * 2147483648 + L * 2 := by rcases b3 with rfl | rfl <;> omega
  have e3 : a * 4 % 4294967296 = L * 4 := by rcases b3 with rfl | rfl <;> omega
  rw [e0, e2, e3, ← hq]
  unfold step1
  clear hq hL ht e0 e1 e2 e3
  rcases b3 with rfl | rfl <;> omega
theorem steps_3 (a : Int) (h : InR a) : steps 3 a = a * 8 % 4294967296 + a / 536870912 := by
  rw [steps, steps_2 a h]
  unfold InR at h
  obtain ⟨L, hL⟩ : ∃ L, L = a % 536870912 := ⟨_, rfl⟩
  obtain ⟨q, hq⟩ : ∃ q, q = a / 1073741824 := ⟨_, rfl⟩
  obtain ⟨t, ht⟩ : ∃ t, t = a / 536870912 % 2 := ⟨_, rfl⟩
  have e0 : a / 536870912 = 2 * q + t := by omega
  have e1 : a = (2 * q + t) * 536870912 + L := by omega
  have b1 : 0 ≤ L ∧ L < 536870912 := by omega
  have b2 : 0 ≤ q ∧ q < 4 := by omega
  have b3 : t = 0 ∨ t = 1 := by omega
  have e2 : a * 4 % 4294967296 = t * 2147483648 + L * 4 := by rcases b3 with rfl | rfl <;> omega
  have e3 : a * 8 % 4294967296 = L * 8 := by rcases b3 with rfl | rfl <;> omega
  rw [e0, e2, e3, ← hq]
  unfold step1
  clear hq hL ht e0 e1 e2 e3
  rcases b3 with rfl | rfl <;> omega
theorem steps_4 (a : Int) (h : InR a) : steps 4 a = a * 16 % 4294967296 + a / 268435456 := by
  rw [steps, steps_3 a h]
  unfold InR at h
  obtain ⟨L, hL⟩ : ∃ L, L = a % 268435456 := ⟨_, rfl⟩
  obtain ⟨q, hq⟩ : ∃ q, q = a / 536870912 := ⟨_, rfl⟩
  obtain ⟨t, ht⟩ : ∃ t, t = a / 268435456 % 2 := ⟨_, rfl⟩
  have e0 : a / 268435456 = 2 * q + t := by omega
  have e1 : a = (2 * q + t) * 268435456 + L := by omega
  have b1 : 0 ≤ L ∧ L < 268435456 := by omega
  have b2 : 0 ≤ q ∧ q < 8 := by omega
  have b3 : t = 0 ∨ t = 1 := by omega
  have e2 : a * 8 % 4294967296 = t * 2147483648 + L * 8 := by rcases b3 with rfl | rfl <;> omega
  have e3 : a * 16 % 4294967296 = L * 16 := by rcases b3 with rfl | rfl <;> omega
  rw [e0, e2, e3, ← hq]
  unfold step1
  clear hq hL ht e0 e1 e2 e3
  rcases b3 with rfl | rfl <;> omega
theorem steps_5 (a : Int) (h : InR a) : steps 5 a = a * 32 % 4294967296 + a / 134217728 := by
  rw [steps, steps_4 a h]
  unfold InR at h
  obtain ⟨L, hL⟩ : ∃ L, L = a % 134217728 := ⟨_, rfl⟩
  obtain ⟨q, hq⟩ : ∃ q, q = a / 268435456 := ⟨_, rfl⟩
  obtain ⟨t, ht⟩ : ∃ t, t = a / 134217728 % 2 := ⟨_, rfl⟩
  have e0 : a / 134217728 = 2 * q + t := by omega
  have e1 : a = (2 * q + t) * 134217728 + L := by omega
  have b1 : 0 ≤ L ∧ L < 134217728 := by omega
  have b2 : 0 ≤ q ∧ q < 16 := by omega
  have b3 : t = 0 ∨ t = 1 := by omega
  have e2 : a * 16 % 4294967296 = t * 2147483648 + L * 16 := by rcases b3 with rfl | rfl <;> omega
  have e3 : a * 32 % 4294967296 = L * 32 := by rcases b3 with rfl | rfl <;> omega
  rw [e0, e2, e3, ← hq]
  unfold step1
  clear hq hL ht e0 e1 e2 e3
  rcases b3 with rfl | rfl <;> omega
theorem steps_6 (a : Int) (h : InR a) : steps 6 a = a * 64 % 4294967296 + a / 67108864 := by
  rw [steps, steps_5 a h]
  unfold InR at h
  obtain ⟨L, hL⟩ : ∃ L, L = a % 67108864 := ⟨_, rfl⟩
  obtain ⟨q, hq⟩ : ∃ q, q = a / 134217728 := ⟨_, rfl⟩
  obtain ⟨t, ht⟩ : ∃ t, t = a / 67108864 % 2 := ⟨_, rfl⟩
  have e0 : a / 67108864 = 2 * q + t := by omega
  have e1 : a = (2 * q + t) * 67108864 + L := by omega
  have b1 : 0 ≤ L ∧ L < 67108864 := by omega
  have b2 : 0 ≤ q ∧ q < 32 := by omega
  have b3 : t = 0 ∨ t = 1 := by omega
  have e2 : a * 32 % 4294967296 = t * 2147483648 + L * 32 := by rcases b3 with rfl | rfl <;> omega
  have e3 : a * 64 % 4294967296 = L * 64 := by rcases b3 with rfl | rfl <;> omega
  rw [e0, e2, e3, ← hq]
  unfold step1
  clear hq hL ht e0 e1 e2 e3
  rcases b3 with rfl | rfl <;> omega
theorem steps_7 (a : Int) (h : InR a) : steps 7 a = a * 128 % 4294967296 + a / 33554432 := by
  rw [steps, steps_6 a h]
  unfold InR at h
  obtain ⟨L, hL⟩ : ∃ L, L = a % 33554432 := ⟨_, rfl⟩
  obtain ⟨q, hq⟩ : ∃ q, q = a / 67108864 := ⟨_, rfl⟩
  obtain ⟨t, ht⟩ : ∃ t, t = a / 33554432 % 2 := ⟨_, rfl⟩
  have e0 : a / 33554432 = 2 * q + t := by omega
  have e1 : a = (2 * q + t) * 33554432 + L := by omega
  have b1 : 0 ≤ L ∧ L < 33554432 := by omega
  have b2 : 0 ≤ q ∧ q < 64 := by omega
  have b3 : t = 0 ∨ t = 1 := by omega
  have e2 : a * 64 % 4294967296 = t * 2147483648 + L * 64 := by rcases b3 with rfl | rfl <;> omega
  have e3 : a * 128 % 4294967296 = L * 128 := by rcases b3 with rfl | rfl <;> omega
  rw [e0, e2, e3, ← hq]
  unfold step1
  clear hq hL ht e0 e1 e2 e3
  rcases b3 with rfl | rfl <;> omega
theorem steps_8 (a : Int) (h : InR a) : steps 8 a = a * 256 % 4294967296 + a / 16777216 := by
  rw [steps, steps_7 a h]
  unfold InR at h
  obtain ⟨L, hL⟩ : ∃ L, L = a % 16777216 := ⟨_, rfl⟩
  obtain ⟨q, hq⟩ : ∃ q, q = a / 33554432 := ⟨_, rfl⟩
  obtain ⟨t, ht⟩ : ∃ t, t = a / 16777216 % 2 := ⟨_, rfl⟩
  have e0 : a / 16777216 = 2 * q + t := by omega
  have e1 : a = (2 * q + t) * 16777216 + L := by omega
  have b1 : 0 ≤ L ∧ L < 16777216 := by omega
  have b2 : 0 ≤ q ∧ q < 128 := by omega
  have b3 : t = 0 ∨ t = 1 := by omega
  have e2 : a * 128 % 4294967296 = t * 2147483648 + L * 128 := by rcases b3 with rfl | rfl <;> omega
  have e3 : a * 256 % 4294967296 = L * 256 := by rcases b3 with rfl | rfl <;> omega
  rw [e0, e2, e3, ← hq]
  unfold step1
  clear hq hL ht e0 e1 e2 e3
  rcases b3 with rfl | rfl <;> omega
theorem steps_9 (a : Int) (h : InR a) : steps 9 a = a * 512 % 4294967296 + a / 8388608 := by
  rw [steps, steps_8 a h]
  unfold InR at h
  obtain ⟨L, hL⟩ : ∃ L, L = a % 8388608 := ⟨_, rfl⟩
  obtain ⟨q, hq⟩ : ∃ q, q = a / 16777216 := ⟨_, rfl⟩
  obtain ⟨t, ht⟩ : ∃ t, t = a / 8388608 % 2 := ⟨_, rfl⟩
  have e0 : a / 8388608 = 2 * q + t := by omega
  have e1 : a = (2 * q + t) * 8388608 + L := by omega
  have b1 : 0 ≤ L ∧ L < 8388608 := by omega
  have b2 : 0 ≤ q ∧ q < 256 := by omega
  have b3 : t = 0 ∨ t = 1 := by omega
  have e2 : a * 256 % 4294967296 = t * 2147483648 + L * 256 := by rcases b3 with rfl | rfl <;> omega
  have e3 : a * 512 % 4294967296 = L * 512 := by rcases b3 with rfl | rfl <;> omega
  rw [e0, e2, e3, ← hq]
  unfold step1
  clear hq hL ht e0 e1 e2 e3
  rcases b3 with rfl | rfl <;> omega
theorem steps_10 (a : Int) (h : InR a) : steps 10 a = a * 1024 % 4294967296 + a / 4194304 := by
  rw [steps, steps_9 a h]
  unfold InR at h
  obtain ⟨L, hL⟩ : ∃ L, L = a % 4194304 := ⟨_, rfl⟩
  obtain ⟨q, hq⟩ : ∃ q, q = a / 8388608 := ⟨_, rfl⟩
  obtain ⟨t, ht⟩ : ∃ t, t = a / 4194304 % 2 := ⟨_, rfl⟩
  have e0 : a / 4194304 = 2 * q + t := by omega
  have e1 : a = (2 * q + t) * 4194304 + L := by omega
  have b1 : 0 ≤ L ∧ L < 4194304 := by omega
  have b2 : 0 ≤ q ∧ q < 512 := by omega
  have b3 : t = 0 ∨ t = 1 := by omega
  have e2 : a * 512 % 4294967296 = t * 2147483648 + L * 512 := by rcases b3 with rfl | rfl <;> omega
  have e3 : a * 1024 % 4294967296 = L * 1024 := by rcases b3 with rfl | rfl <;> omega
  rw [e0, e2, e3, ← hq]
  unfold step1
  clear hq hL ht e0 e1 e2 e3
  rcases b3 with rfl | rfl <;> omega
theorem steps_11 (a : Int) (h : InR a) : steps 11 a = a * 2048 % 4294967296 + a / 2097152 := by
  rw [steps, steps_10 a h]
  unfold InR at h
  obtain ⟨L, hL⟩ : ∃ L, L = a % 2097152 := ⟨_, rfl⟩
  obtain ⟨q, hq⟩ : ∃ q, q = a / 4194304 := ⟨_, rfl⟩
  obtain ⟨t, ht⟩ : ∃ t, t = a / 2097152 % 2 := ⟨_, rfl⟩
  have e0 : a / 2097152 = 2 * q + t := by omega
  have e1 : a = (2 * q + t) * 2097152 + L := by omega
  have b1 : 0 ≤ L ∧ L < 2097152 := by omega
  have b2 : 0 ≤ q ∧ q < 1024 := by omega
  have b3 : t = 0 ∨ t = 1 := by omega
  have e2 : a * 1024 % 4294967296 = t * 2147483648 + L * 1024 := by rcases b3 with rfl | rfl <;> omega
  have e3 : a * 2048 % 4294967296 = L * 2048 := by rcases b3 with rfl | rfl <;> omega
  rw [e0, e2, e3, ← hq]
  unfold step1
  clear hq hL ht e0 e1 e2 e3
  rcases b3 with rfl | rfl <;> omega
theorem steps_12 (a : Int) (h : InR a) : steps 12 a = a * 4096 % 4294967296 + a / 1048576 := by
  rw [steps, steps_11 a h]
  unfold InR at h
  obtain ⟨L, hL⟩ : ∃ L, L = a % 1048576 := ⟨_, rfl⟩
  obtain ⟨q, hq⟩ : ∃ q, q = a / 2097152 := ⟨_, rfl⟩
  obtain ⟨t, ht⟩ : ∃ t, t = a / 1048576 % 2 := ⟨_, rfl⟩
  have e0 : a / 1048576 = 2 * q + t := by omega
  have e1 : a = (2 * q + t) * 1048576 + L := by omega
  have b1 : 0 ≤ L ∧ L < 1048576 := by omega
  have b2 : 0 ≤ q ∧ q < 2048 := by omega
  have b3 : t = 0 ∨ t = 1 := by omega
  have e2 : a * 2048 % 4294967296 = t * 2147483648 + L * 2048 := by rcases b3 with rfl | rfl <;> omega
  have e3 : a * 4096 % 4294967296 = L * 4096 := by rcases b3 with rfl | rfl <;> omega
  rw [e0, e2, e3, ← hq]
  unfold step1
  clear hq hL ht e0 e1 e2 e3
  rcases b3 with rfl | rfl <;> omega
theorem steps_13 (a : Int) (h : InR a) : steps 13 a = a * 8192 % 4294967296 + a / 524288 := by
  rw [steps, steps_12 a h]
  unfold InR at h
  obtain ⟨L, hL⟩ : ∃ L, L = a % 524288 := ⟨_, rfl⟩
  obtain ⟨q, hq⟩ : ∃ q, q = a / 1048576 := ⟨_, rfl⟩
  obtain ⟨t, ht⟩ : ∃ t, t = a / 524288 % 2 := ⟨_, rfl⟩
  have e0 : a / 524288 = 2 * q + t := by omega
  have e1 : a = (2 * q + t) * 524288 + L := by omega
  have b1 : 0 ≤ L ∧ L < 524288 := by omega
  have b2 : 0 ≤ q ∧ q < 4096 := by omega
  have b3 : t = 0 ∨ t = 1 := by omega
  have e2 : a * 4096 % 4294967296 = t * 2147483648 + L * 4096 := by rcases b3 with rfl | rfl <;> omega
  have e3 : a * 8192 % 4294967296 = L * 8192 := by rcases b3 with rfl | rfl <;> omega
  rw [e0, e2, e3, ← hq]
  unfold step1
  clear hq hL ht e0 e1 e2 e3
  rcases b3 with rfl | rfl <;> omega
theorem steps_14 (a : Int) (h : InR a) : steps 14 a = a * 16384 % 4294967296 + a / 262144 := by
  rw [steps, steps_13 a h]
  unfold InR at h
  obtain ⟨L, hL⟩ : ∃ L, L = a % 262144 := ⟨_, rfl⟩
  obtain ⟨q, hq⟩ : ∃ q, q = a / 524288 := ⟨_, rfl⟩
  obtain ⟨t, ht⟩ : ∃ t, t = a / 262144 % 2 := ⟨_, rfl⟩
  have e0 : a / 262144 = 2 * q + t := by omega
  have e1 : a = (2 * q + t) * 262144 + L := by omega
  have b1 : 0 ≤ L ∧ L < 262144 := by omega
  have b2 : 0 ≤ q ∧ q < 8192 := by omega
  have b3 : t = 0 ∨ t = 1 := by omega
  have e2 : a * 8192 % 4294967296 = t * 2147483648 + L * 8192 := by rcases b3 with rfl | rfl <;> omega
  have e3 : a * 16384 % 4294967296 = L * 16384 := by rcases b3 with rfl | rfl <;> omega
  rw [e0, e2, e3, ← hq]
  unfold step1
  clear hq hL ht e0 e1 e2 e3
  rcases b3 with rfl | rfl <;> omega
theorem steps_15 (a : Int) (h : InR a) : steps 15 a = a * 32768 % 4294967296 + a / 131072 := by
  rw [steps, steps_14 a h]
  unfold InR at h
  obtain ⟨L, hL⟩ : ∃ L, L = a % 131072 := ⟨_, rfl⟩
  obtain ⟨q, hq⟩ : ∃ q, q = a / 262144 := ⟨_, rfl⟩
  obtain ⟨t, ht⟩ : ∃ t, t = a / 131072 % 2 := ⟨_, rfl⟩
  have e0 : a / 131072 = 2 * q + t := by omega
  have e1 : a = (2 * q + t) * 131072 + L := by omega
  have b1 : 0 ≤ L ∧ L < 131072 := by omega
  have b2 : 0 ≤ q ∧ q < 16384 := by omega
  have b3 : t = 0 ∨ t = 1 := by omega
  have e2 : a * 16384 % 4294967296 = t * 2147483648 + L * 16384 := by rcases b3 with rfl | rfl <;> omega
  have e3 : a * 32768 % 4294967296 = L * 32768 := by rcases b3 with rfl | rfl <;> omega
  rw [e0, e2, e3, ← hq]
  unfold step1
  clear hq hL ht e0 e1 e2 e3
  rcases b3 with rfl | rfl <;> omega
theorem steps_16 (a : Int) (h : InR a) : steps 16 a = a * 65536 % 4294967296 + a / 65536 := by
  rw [steps, steps_15 a h]
  unfold InR at h
  obtain ⟨L, hL⟩ : ∃ L, L = a % 65536 := ⟨_, rfl⟩
  obtain ⟨q, hq⟩ : ∃ q, q = a / 131072 := ⟨_, rfl⟩
  obtain ⟨t, ht⟩ : ∃ t, t = a / 65536 % 2 := ⟨_, rfl⟩
  have e0 : a / 65536 = 2 * q + t := by omega
  have e1 : a = (2 * q + t) * 65536 + L := by omega
  have b1 : 0 ≤ L ∧ L < 65536 := by omega
  have b2 : 0 ≤ q ∧ q < 32768 := by omega
  have b3 : t = 0 ∨ t = 1 := by omega
  have e2 : a * 32768 % 4294967296 = t * 2147483648 + L * 32768 := by rcases b3 with rfl | rfl <;> omega
  have e3 : a * 65536 % 4294967296 = L * 65536 := by rcases b3 with rfl | rfl <;> omega
  rw [e0, e2, e3, ← hq]
  unfold step1
  clear hq hL ht e0 e1 e2 e3
  rcases b3 with rfl | rfl <;> omega
theorem steps_17 (a : Int) (h : InR a) : steps 17 a = a * 131072 % 4294967296 + a / 32768 := by
  rw [steps, steps_16 a h]
  unfold InR at h
  obtain ⟨L, hL⟩ : ∃ L, L = a % 32768 := ⟨_, rfl⟩
  obtain ⟨q, hq⟩ : ∃ q, q = a / 65536 := ⟨_, rfl⟩
  obtain ⟨t, ht⟩ : ∃ t, t = a / 32768 % 2 := ⟨_, rfl⟩
  have e0 : a / 32768 = 2 * q + t := by omega
  have e1 : a = (2 * q + t) * 32768 + L := by omega
  have b1 : 0 ≤ L ∧ L < 32768 := by omega
  have b2 : 0 ≤ q ∧ q < 65536 := by omega
  have b3 : t = 0 ∨ t = 1 := by omega
  have e2 : a * 65536 % 4294967296 = t * 2147483648 + L * 65536 := by rcases b3 with rfl | rfl <;> omega
  have e3 : a * 131072 % 4294967296 = L * 131072 := by rcases b3 with rfl | rfl <;> omega
  rw [e0, e2, e3, ← hq]
  unfold step1
  clear hq hL ht e0 e1 e2 e3
  rcases b3 with rfl | rfl <;> omega
theorem steps_18 (a : Int) (h : InR a) : steps 18 a = a * 262144 % 4294967296 + a / 16384 := by
  rw [steps, steps_17 a h]
  unfold InR at h
  obtain ⟨L, hL⟩ : ∃ L, L = a % 16384 := ⟨_, rfl⟩
  obtain ⟨q, hq⟩ : ∃ q, q = a / 32768 := ⟨_, rfl⟩
  obtain ⟨t, ht⟩ : ∃ t, t = a / 16384 % 2 := ⟨_, rfl⟩
  have e0 : a / 16384 = 2 * q + t := by omega
  have e1 : a = (2 * q + t) * 16384 + L := by omega
  have b1 : 0 ≤ L ∧ L < 16384 := by omega
  have b2 : 0 ≤ q ∧ q < 131072 := by omega
  have b3 : t = 0 ∨ t = 1 := by omega
  have e2 : a * 131072 % 4294967296 = t * 2147483648 + L * 131072 := by rcases b3 with rfl | rfl <;> omega
  have e3 : a * 262144 % 4294967296 = L * 262144 := by rcases b3 with rfl | rfl <;> omega
  rw [e0, e2, e3, ← hq]
  unfold step1
  clear hq hL ht e0 e1 e2 e3
  rcases b3 with rfl | rfl <;> omega
theorem steps_19 (a : Int) (h : InR a) : steps 19 a = a * 524288 % 4294967296 + a / 8192 := by
  rw [steps, steps_18 a h]
  unfold InR at h
  obtain ⟨L, hL⟩ : ∃ L, L = a % 8192 := ⟨_, rfl⟩
  obtain ⟨q, hq⟩ : ∃ q, q = a / 16384 := ⟨_, rfl⟩
  obtain ⟨t, ht⟩ : ∃ t, t = a / 8192 % 2 := ⟨_, rfl⟩
  have e0 : a / 8192 = 2 * q + t := by omega
  have e1 : a = (2 * q + t) * 8192 + L := by omega
  have b1 : 0 ≤ L ∧ L < 8192 := by omega
  have b2 : 0 ≤ q ∧ q < 262144 := by omega
  have b3 : t = 0 ∨ t = 1 := by omega
  have e2 : a * 262144 % 4294967296 = t * 2147483648 + L * 262144 := by rcases b3 with rfl | rfl <;> omega
  have e3 : a * 524288 % 4294967296 = L * 524288 := by rcases b3 with rfl | rfl <;> omega
  rw [e0, e2, e3, ← hq]
  unfold step1
  clear hq hL ht e0 e1 e2 e3
  rcases b3 with rfl | rfl <;> omega
theorem steps_20 (a : Int) (h : InR a) : steps 20 a = a * 1048576 % 4294967296 + a / 4096 := by
  rw [steps, steps_19 a h]
  unfold InR at h
  obtain ⟨L, hL⟩ : ∃ L, L = a % 4096 := ⟨_, rfl⟩
  obtain ⟨q, hq⟩ : ∃ q, q = a / 8192 := ⟨_, rfl⟩
  obtain ⟨t, ht⟩ : ∃ t, t = a / 4096 % 2 := ⟨_, rfl⟩
  have e0 : a / 4096 = 2 * q + t := by omega
  have e1 : a = (2 * q + t) * 4096 + L := by omega
  have b1 : 0 ≤ L ∧ L < 4096 := by omega
  have b2 : 0 ≤ q ∧ q < 524288 := by omega
  have b3 : t = 0 ∨ t = 1 := by omega
  have e2 : a * 524288 % 4294967296 = t * 2147483648 + L * 524288 := by rcases b3 with rfl | rfl <;> omega
  have e3 : a * 1048576 % 4294967296 = L * 1048576 := by rcases b3 with rfl | rfl <;> omega
  rw [e0, e2, e3, ← hq]
  unfold step1
  clear hq hL ht e0 e1 e2 e3
  rcases b3 with rfl | rfl <;> omega
theorem steps_21 (a : Int) (h : InR a) : steps 21 a = a * 2097152 % 4294967296 + a / 2048 := by
  rw [steps, steps_20 a h]
  unfold InR at h
  obtain ⟨L, hL⟩ : ∃ L, L = a % 2048 := ⟨_, rfl⟩
  obtain ⟨q, hq⟩ : ∃ q, q = a / 4096 := ⟨_, rfl⟩
  obtain ⟨t, ht⟩ : ∃ t, t = a / 2048 % 2 := ⟨_, rfl⟩
  have e0 : a / 2048 = 2 * q + t := by omega
  have e1 : a = (2 * q + t) * 2048 + L := by omega
  have b1 : 0 ≤ L ∧ L < 2048 := by omega
  have b2 : 0 ≤ q ∧ q < 1048576 := by omega
  have b3 : t = 0 ∨ t = 1 := by omega
  have e2 : a * 1048576 % 4294967296 = t * 2147483648 + L * 1048576 := by rcases b3 with rfl | rfl <;> omega
  have e3 : a * 2097152 % 4294967296 = L * 2097152 := by rcases b3 with rfl | rfl <;> omega
  rw [e0, e2, e3, ← hq]
  unfold step1
  clear hq hL ht e0 e1 e2 e3
  rcases b3 with rfl | rfl <;> omega
theorem steps_22 (a : Int) (h : InR a) : steps 22 a = a * 4194304 % 4294967296 + a / 1024 := by
  rw [steps, steps_21 a h]
  unfold InR at h
  obtain ⟨L, hL⟩ : ∃ L, L = a % 1024 := ⟨_, rfl⟩
  obtain ⟨q, hq⟩ : ∃ q, q = a / 2048 := ⟨_, rfl⟩
  obtain ⟨t, ht⟩ : ∃ t, t = a / 1024 % 2 := ⟨_, rfl⟩
  have e0 : a / 1024 = 2 * q + t := by omega
  have e1 : a = (2 * q + t) * 1024 + L := by omega
  have b1 : 0 ≤ L ∧ L < 1024 := by omega
  have b2 : 0 ≤ q ∧ q < 2097152 := by omega
  have b3 : t = 0 ∨ t = 1 := by omega
  have e2 : a * 2097152 % 4294967296 = t * 2147483648 + L * 2097152 := by rcases b3 with rfl | rfl <;> omega
  have e3 : a * 4194304 % 4294967296 = L * 4194304 := by rcases b3 with rfl | rfl <;> omega
  rw [e0, e2, e3, ← hq]
  unfold step1
  clear hq hL ht e0 e1 e2 e3
  rcases b3 with rfl | rfl <;> omega
theorem steps_23 (a : Int) (h : InR a) : steps 23 a = a * 8388608 % 4294967296 + a / 512 := by
  rw [steps, steps_22 a h]
  unfold InR at h
  obtain ⟨L, hL⟩ : ∃ L, L = a % 512 := ⟨_, rfl⟩
  obtain ⟨q, hq⟩ : ∃ q, q = a / 1024 := ⟨_, rfl⟩
  obtain ⟨t, ht⟩ : ∃ t, t = a / 512 % 2 := ⟨_, rfl⟩
  have e0 : a / 512 = 2 * q + t := by omega
  have e1 : a = (2 * q + t) * 512 + L := by omega
  have b1 : 0 ≤ L ∧ L < 512 := by omega
  have b2 : 0 ≤ q ∧ q < 4194304 := by omega
  have b3 : t = 0 ∨ t = 1 := by omega
  have e2 : a * 4194304 % 4294967296 = t * 2147483648 + L * 4194304 := by rcases b3 with rfl | rfl <;> omega
  have e3 : a * 8388608 % 4294967296 = L * 8388608 := by rcases b3 with rfl | rfl <;> omega
  rw [e0, e2, e3, ← hq]
  unfold step1
  clear hq hL ht e0 e1 e2 e3
  rcases b3 with rfl | rfl <;> omega
theorem steps_24 (a : Int) (h : InR a) : steps 24 a = a * 16777216 % 4294967296 + a / 256 := by
  rw [steps, steps_23 a h]
  unfold InR at h
  obtain ⟨L, hL⟩ : ∃ L, L = a % 256 := ⟨_, rfl⟩
  obtain ⟨q, hq⟩ : ∃ q, q = a / 512 := ⟨_, rfl⟩
  obtain ⟨t, ht⟩ : ∃ t, t = a / 256 % 2 := ⟨_, rfl⟩
  have e0 : a / 256 = 2 * q + t := by omega
  have e1 : a = (2 * q + t) * 256 + L := by omega
  have b1 : 0 ≤ L ∧ L < 256 := by omega
  have b2 : 0 ≤ q ∧ q < 8388608 := by omega
  have b3 : t = 0 ∨ t = 1 := by omega
  have e2 : a * 8388608 % 4294967296 = t * 2147483648 + L * 8388608 := by rcases b3 with rfl | rfl <;> omega
  have e3 : a * 16777216 % 4294967296 = L * 16777216 := by rcases b3 with rfl | rfl <;> omega
  rw [e0, e2, e3, ← hq]
  unfold step1
  clear hq hL ht e0 e1 e2 e3
  rcases b3 with rfl | rfl <;> omega
theorem steps_25 (a : Int) (h : InR a) : steps 25 a = a * 33554432 % 4294967296 + a / 128 := by
  rw [steps, steps_24 a h]
  unfold InR at h
  obtain ⟨L, hL⟩ : ∃ L, L = a % 128 := ⟨_, rfl⟩
  obtain ⟨q, hq⟩ : ∃ q, q = a / 256 := ⟨_, rfl⟩
  obtain ⟨t, ht⟩ : ∃ t, t = a / 128 % 2 := ⟨_, rfl⟩
  have e0 : a / 128 = 2 * q + t := by omega
  have e1 : a = (2 * q + t) * 128 + L := by omega
  have b1 : 0 ≤ L ∧ L < 128 := by omega
  have b2 : 0 ≤ q ∧ q < 16777216 := by omega
  have b3 : t = 0 ∨ t = 1 := by omega
  have e2 : a * 16777216 % 4294967296 = t * 2147483648 + L * 16777216 := by rcases b3 with rfl | rfl <;> omega
  have e3 : a * 33554432 % 4294967296 = L * 33554432 := by rcases b3 with rfl | rfl <;> omega
  rw [e0, e2, e3, ← hq]
  unfold step1
  clear hq hL ht e0 e1 e2 e3
  rcases b3 with rfl | rfl <;> omega
theorem turn_sum_7 (a : Int) (h : InR a) : turn 128 33554432 a = a * 128 % 4294967296 + a / 33554432 := by
  unfold InR at h
  unfold turn
  rw [bits_or_comm, or_add 7 (a / 33554432) (a * 128 % 4294967296) (by omega) (by omega) (by omega) (by omega) (by omega) (by omega)]
  omega
theorem turn_range_7 (a : Int) (h : InR a) : InR (turn 128 33554432 a) := by
  rw [turn_sum_7 a h]
  unfold InR at *
  omega
set_option maxHeartbeats 800000 in
theorem word_turn_7 (a : Int) (w : World) : Calls Tryd.prog 52 #[.int .u32 a, .int .i64 (7)] w fun e w' => e = .returned (.int .u32 (turn 128 33554432 a)) ∧ w' = w := by
  have hb : bits .and .u64 7 31 = 7 := by kernel_rfl
  go_enter Tryd.func52, Tryd.ntmps52
  go_wp2
  simp only [Array.getD_eq_getD_getElem?, List.getElem?_toArray, List.getElem?_cons_succ, List.getElem?_cons_zero, Option.getD_some]
  go_ret
  exact ⟨rfl, rfl⟩
theorem turn_sum_9 (a : Int) (h : InR a) : turn 512 8388608 a = a * 512 % 4294967296 + a / 8388608 := by
  unfold InR at h
  unfold turn
  rw [bits_or_comm, or_add 9 (a / 8388608) (a * 512 % 4294967296) (by omega) (by omega) (by omega) (by omega) (by omega) (by omega)]
  omega
theorem turn_range_9 (a : Int) (h : InR a) : InR (turn 512 8388608 a) := by
  rw [turn_sum_9 a h]
  unfold InR at *
  omega
set_option maxHeartbeats 800000 in
theorem word_turn_9 (a : Int) (w : World) : Calls Tryd.prog 52 #[.int .u32 a, .int .i64 (9)] w fun e w' => e = .returned (.int .u32 (turn 512 8388608 a)) ∧ w' = w := by
  have hb : bits .and .u64 9 31 = 9 := by kernel_rfl
  go_enter Tryd.func52, Tryd.ntmps52
  go_wp2
  simp only [Array.getD_eq_getD_getElem?, List.getElem?_toArray, List.getElem?_cons_succ, List.getElem?_cons_zero, Option.getD_some]
  go_ret
  exact ⟨rfl, rfl⟩
theorem turn_sum_13 (a : Int) (h : InR a) : turn 8192 524288 a = a * 8192 % 4294967296 + a / 524288 := by
  unfold InR at h
  unfold turn
  rw [bits_or_comm, or_add 13 (a / 524288) (a * 8192 % 4294967296) (by omega) (by omega) (by omega) (by omega) (by omega) (by omega)]
  omega
theorem turn_range_13 (a : Int) (h : InR a) : InR (turn 8192 524288 a) := by
  rw [turn_sum_13 a h]
  unfold InR at *
  omega
set_option maxHeartbeats 800000 in
theorem word_turn_13 (a : Int) (w : World) : Calls Tryd.prog 52 #[.int .u32 a, .int .i64 (13)] w fun e w' => e = .returned (.int .u32 (turn 8192 524288 a)) ∧ w' = w := by
  have hb : bits .and .u64 13 31 = 13 := by kernel_rfl
  go_enter Tryd.func52, Tryd.ntmps52
  go_wp2
  simp only [Array.getD_eq_getD_getElem?, List.getElem?_toArray, List.getElem?_cons_succ, List.getElem?_cons_zero, Option.getD_some]
  go_ret
  exact ⟨rfl, rfl⟩
theorem turn_sum_18 (a : Int) (h : InR a) : turn 262144 16384 a = a * 262144 % 4294967296 + a / 16384 := by
  unfold InR at h
  unfold turn
  rw [bits_or_comm, or_add 18 (a / 16384) (a * 262144 % 4294967296) (by omega) (by omega) (by omega) (by omega) (by omega) (by omega)]
  omega
theorem turn_range_18 (a : Int) (h : InR a) : InR (turn 262144 16384 a) := by
  rw [turn_sum_18 a h]
  unfold InR at *
  omega
set_option maxHeartbeats 800000 in
theorem word_turn_18 (a : Int) (w : World) : Calls Tryd.prog 52 #[.int .u32 a, .int .i64 (18)] w fun e w' => e = .returned (.int .u32 (turn 262144 16384 a)) ∧ w' = w := by
  have hb : bits .and .u64 18 31 = 18 := by kernel_rfl
  go_enter Tryd.func52, Tryd.ntmps52
  go_wp2
  simp only [Array.getD_eq_getD_getElem?, List.getElem?_toArray, List.getElem?_cons_succ, List.getElem?_cons_zero, Option.getD_some]
  go_ret
  exact ⟨rfl, rfl⟩
theorem turn_sum_m7 (a : Int) (h : InR a) : turn 33554432 128 a = a * 33554432 % 4294967296 + a / 128 := by
  unfold InR at h
  unfold turn
  rw [bits_or_comm, or_add 25 (a / 128) (a * 33554432 % 4294967296) (by omega) (by omega) (by omega) (by omega) (by omega) (by omega)]
  omega
theorem turn_range_m7 (a : Int) (h : InR a) : InR (turn 33554432 128 a) := by
  rw [turn_sum_m7 a h]
  unfold InR at *
  omega
set_option maxHeartbeats 800000 in
theorem word_turn_m7 (a : Int) (w : World) : Calls Tryd.prog 52 #[.int .u32 a, .int .i64 (-7)] w fun e w' => e = .returned (.int .u32 (turn 33554432 128 a)) ∧ w' = w := by
  have hb : bits .and .u64 (IntKind.u64.wrap (-7)) 31 = 25 := by kernel_rfl
  go_enter Tryd.func52, Tryd.ntmps52
  go_wp2
  simp only [Array.getD_eq_getD_getElem?, List.getElem?_toArray, List.getElem?_cons_succ, List.getElem?_cons_zero, Option.getD_some]
  go_ret
  exact ⟨rfl, rfl⟩
theorem turn_sum_m9 (a : Int) (h : InR a) : turn 8388608 512 a = a * 8388608 % 4294967296 + a / 512 := by
  unfold InR at h
  unfold turn
  rw [bits_or_comm, or_add 23 (a / 512) (a * 8388608 % 4294967296) (by omega) (by omega) (by omega) (by omega) (by omega) (by omega)]
  omega
theorem turn_range_m9 (a : Int) (h : InR a) : InR (turn 8388608 512 a) := by
  rw [turn_sum_m9 a h]
  unfold InR at *
  omega
set_option maxHeartbeats 800000 in
theorem word_turn_m9 (a : Int) (w : World) : Calls Tryd.prog 52 #[.int .u32 a, .int .i64 (-9)] w fun e w' => e = .returned (.int .u32 (turn 8388608 512 a)) ∧ w' = w := by
  have hb : bits .and .u64 (IntKind.u64.wrap (-9)) 31 = 23 := by kernel_rfl
  go_enter Tryd.func52, Tryd.ntmps52
  go_wp2
  simp only [Array.getD_eq_getD_getElem?, List.getElem?_toArray, List.getElem?_cons_succ, List.getElem?_cons_zero, Option.getD_some]
  go_ret
  exact ⟨rfl, rfl⟩
theorem turn_sum_m13 (a : Int) (h : InR a) : turn 524288 8192 a = a * 524288 % 4294967296 + a / 8192 := by
  unfold InR at h
  unfold turn
  rw [bits_or_comm, or_add 19 (a / 8192) (a * 524288 % 4294967296) (by omega) (by omega) (by omega) (by omega) (by omega) (by omega)]
  omega
theorem turn_range_m13 (a : Int) (h : InR a) : InR (turn 524288 8192 a) := by
  rw [turn_sum_m13 a h]
  unfold InR at *
  omega
set_option maxHeartbeats 800000 in
theorem word_turn_m13 (a : Int) (w : World) : Calls Tryd.prog 52 #[.int .u32 a, .int .i64 (-13)] w fun e w' => e = .returned (.int .u32 (turn 524288 8192 a)) ∧ w' = w := by
  have hb : bits .and .u64 (IntKind.u64.wrap (-13)) 31 = 19 := by kernel_rfl
  go_enter Tryd.func52, Tryd.ntmps52
  go_wp2
  simp only [Array.getD_eq_getD_getElem?, List.getElem?_toArray, List.getElem?_cons_succ, List.getElem?_cons_zero, Option.getD_some]
  go_ret
  exact ⟨rfl, rfl⟩
theorem turn_sum_m18 (a : Int) (h : InR a) : turn 16384 262144 a = a * 16384 % 4294967296 + a / 262144 := by
  unfold InR at h
  unfold turn
  rw [bits_or_comm, or_add 14 (a / 262144) (a * 16384 % 4294967296) (by omega) (by omega) (by omega) (by omega) (by omega) (by omega)]
  omega
theorem turn_range_m18 (a : Int) (h : InR a) : InR (turn 16384 262144 a) := by
  rw [turn_sum_m18 a h]
  unfold InR at *
  omega
set_option maxHeartbeats 800000 in
theorem word_turn_m18 (a : Int) (w : World) : Calls Tryd.prog 52 #[.int .u32 a, .int .i64 (-18)] w fun e w' => e = .returned (.int .u32 (turn 16384 262144 a)) ∧ w' = w := by
  have hb : bits .and .u64 (IntKind.u64.wrap (-18)) 31 = 14 := by kernel_rfl
  go_enter Tryd.func52, Tryd.ntmps52
  go_wp2
  simp only [Array.getD_eq_getD_getElem?, List.getElem?_toArray, List.getElem?_cons_succ, List.getElem?_cons_zero, Option.getD_some]
  go_ret
  exact ⟨rfl, rfl⟩
theorem roundtrip_7 (a : Int) (h : InR a) : (a * 128 % 4294967296 + a / 33554432) * 33554432 % 4294967296 + (a * 128 % 4294967296 + a / 33554432) / 128 = a := by
  unfold InR at h
  obtain ⟨L, hL⟩ : ∃ L, L = a % 33554432 := ⟨_, rfl⟩
  obtain ⟨q, hq⟩ : ∃ q, q = a / 33554432 := ⟨_, rfl⟩
  have e1 : a = q * 33554432 + L := by omega
  have b1 : 0 ≤ L ∧ L < 33554432 := by omega
  have b2 : 0 ≤ q ∧ q < 128 := by omega
  have e2 : a * 128 % 4294967296 = L * 128 := by omega
  rw [e2, ← hq]
  have e3 : (L * 128 + q) / 128 = L := by omega
  have e4 : (L * 128 + q) * 33554432 % 4294967296 = q * 33554432 := by omega
  omega
theorem roundtrip_9 (a : Int) (h : InR a) : (a * 512 % 4294967296 + a / 8388608) * 8388608 % 4294967296 + (a * 512 % 4294967296 + a / 8388608) / 512 = a := by
  unfold InR at h
  obtain ⟨L, hL⟩ : ∃ L, L = a % 8388608 := ⟨_, rfl⟩
  obtain ⟨q, hq⟩ : ∃ q, q = a / 8388608 := ⟨_, rfl⟩
  have e1 : a = q * 8388608 + L := by omega
  have b1 : 0 ≤ L ∧ L < 8388608 := by omega
  have b2 : 0 ≤ q ∧ q < 512 := by omega
  have e2 : a * 512 % 4294967296 = L * 512 := by omega
  rw [e2, ← hq]
  have e3 : (L * 512 + q) / 512 = L := by omega
  have e4 : (L * 512 + q) * 8388608 % 4294967296 = q * 8388608 := by omega
  omega
theorem roundtrip_13 (a : Int) (h : InR a) : (a * 8192 % 4294967296 + a / 524288) * 524288 % 4294967296 + (a * 8192 % 4294967296 + a / 524288) / 8192 = a := by
  unfold InR at h
  obtain ⟨L, hL⟩ : ∃ L, L = a % 524288 := ⟨_, rfl⟩
  obtain ⟨q, hq⟩ : ∃ q, q = a / 524288 := ⟨_, rfl⟩
  have e1 : a = q * 524288 + L := by omega
  have b1 : 0 ≤ L ∧ L < 524288 := by omega
  have b2 : 0 ≤ q ∧ q < 8192 := by omega
  have e2 : a * 8192 % 4294967296 = L * 8192 := by omega
  rw [e2, ← hq]
  have e3 : (L * 8192 + q) / 8192 = L := by omega
  have e4 : (L * 8192 + q) * 524288 % 4294967296 = q * 524288 := by omega
  omega
theorem roundtrip_18 (a : Int) (h : InR a) : (a * 262144 % 4294967296 + a / 16384) * 16384 % 4294967296 + (a * 262144 % 4294967296 + a / 16384) / 262144 = a := by
  unfold InR at h
  obtain ⟨L, hL⟩ : ∃ L, L = a % 16384 := ⟨_, rfl⟩
  obtain ⟨q, hq⟩ : ∃ q, q = a / 16384 := ⟨_, rfl⟩
  have e1 : a = q * 16384 + L := by omega
  have b1 : 0 ≤ L ∧ L < 16384 := by omega
  have b2 : 0 ≤ q ∧ q < 262144 := by omega
  have e2 : a * 262144 % 4294967296 = L * 262144 := by omega
  rw [e2, ← hq]
  have e3 : (L * 262144 + q) / 262144 = L := by omega
  have e4 : (L * 262144 + q) * 16384 % 4294967296 = q * 16384 := by omega
  omega
theorem roundtrip_m7 (a : Int) (h : InR a) : (a * 33554432 % 4294967296 + a / 128) * 128 % 4294967296 + (a * 33554432 % 4294967296 + a / 128) / 33554432 = a := by
  unfold InR at h
  obtain ⟨L, hL⟩ : ∃ L, L = a % 128 := ⟨_, rfl⟩
  obtain ⟨q, hq⟩ : ∃ q, q = a / 128 := ⟨_, rfl⟩
  have e1 : a = q * 128 + L := by omega
  have b1 : 0 ≤ L ∧ L < 128 := by omega
  have b2 : 0 ≤ q ∧ q < 33554432 := by omega
  have e2 : a * 33554432 % 4294967296 = L * 33554432 := by omega
  rw [e2, ← hq]
  have e3 : (L * 33554432 + q) / 33554432 = L := by omega
  have e4 : (L * 33554432 + q) * 128 % 4294967296 = q * 128 := by omega
  omega
theorem roundtrip_m9 (a : Int) (h : InR a) : (a * 8388608 % 4294967296 + a / 512) * 512 % 4294967296 + (a * 8388608 % 4294967296 + a / 512) / 8388608 = a := by
  unfold InR at h
  obtain ⟨L, hL⟩ : ∃ L, L = a % 512 := ⟨_, rfl⟩
  obtain ⟨q, hq⟩ : ∃ q, q = a / 512 := ⟨_, rfl⟩
  have e1 : a = q * 512 + L := by omega
  have b1 : 0 ≤ L ∧ L < 512 := by omega
  have b2 : 0 ≤ q ∧ q < 8388608 := by omega
  have e2 : a * 8388608 % 4294967296 = L * 8388608 := by omega
  rw [e2, ← hq]
  have e3 : (L * 8388608 + q) / 8388608 = L := by omega
  have e4 : (L * 8388608 + q) * 512 % 4294967296 = q * 512 := by omega
  omega
theorem roundtrip_m13 (a : Int) (h : InR a) : (a * 524288 % 4294967296 + a / 8192) * 8192 % 4294967296 + (a * 524288 % 4294967296 + a / 8192) / 524288 = a := by
  unfold InR at h
  obtain ⟨L, hL⟩ : ∃ L, L = a % 8192 := ⟨_, rfl⟩
  obtain ⟨q, hq⟩ : ∃ q, q = a / 8192 := ⟨_, rfl⟩
  have e1 : a = q * 8192 + L := by omega
  have b1 : 0 ≤ L ∧ L < 8192 := by omega
  have b2 : 0 ≤ q ∧ q < 524288 := by omega
  have e2 : a * 524288 % 4294967296 = L * 524288 := by omega
  rw [e2, ← hq]
  have e3 : (L * 524288 + q) / 524288 = L := by omega
  have e4 : (L * 524288 + q) * 8192 % 4294967296 = q * 8192 := by omega
  omega
theorem roundtrip_m18 (a : Int) (h : InR a) : (a * 16384 % 4294967296 + a / 262144) * 262144 % 4294967296 + (a * 16384 % 4294967296 + a / 262144) / 16384 = a := by
  unfold InR at h
  obtain ⟨L, hL⟩ : ∃ L, L = a % 262144 := ⟨_, rfl⟩
  obtain ⟨q, hq⟩ : ∃ q, q = a / 262144 := ⟨_, rfl⟩
  have e1 : a = q * 262144 + L := by omega
  have b1 : 0 ≤ L ∧ L < 262144 := by omega
  have b2 : 0 ≤ q ∧ q < 16384 := by omega
  have e2 : a * 16384 % 4294967296 = L * 16384 := by omega
  rw [e2, ← hq]
  have e3 : (L * 16384 + q) / 16384 = L := by omega
  have e4 : (L * 16384 + q) * 262144 % 4294967296 = q * 262144 := by omega
  omega
theorem turn_back_7 (a : Int) (h : InR a) : turn 33554432 128 (turn 128 33554432 a) = a := by
  rw [turn_sum_m7 _ (turn_range_7 a h), turn_sum_7 a h]
  exact roundtrip_7 a h
theorem turn_forth_7 (a : Int) (h : InR a) : turn 128 33554432 (turn 33554432 128 a) = a := by
  rw [turn_sum_7 _ (turn_range_m7 a h), turn_sum_m7 a h]
  exact roundtrip_m7 a h
theorem turn_back_9 (a : Int) (h : InR a) : turn 8388608 512 (turn 512 8388608 a) = a := by
  rw [turn_sum_m9 _ (turn_range_9 a h), turn_sum_9 a h]
  exact roundtrip_9 a h
theorem turn_forth_9 (a : Int) (h : InR a) : turn 512 8388608 (turn 8388608 512 a) = a := by
  rw [turn_sum_9 _ (turn_range_m9 a h), turn_sum_m9 a h]
  exact roundtrip_m9 a h
theorem turn_back_13 (a : Int) (h : InR a) : turn 524288 8192 (turn 8192 524288 a) = a := by
  rw [turn_sum_m13 _ (turn_range_13 a h), turn_sum_13 a h]
  exact roundtrip_13 a h
theorem turn_forth_13 (a : Int) (h : InR a) : turn 8192 524288 (turn 524288 8192 a) = a := by
  rw [turn_sum_13 _ (turn_range_m13 a h), turn_sum_m13 a h]
  exact roundtrip_m13 a h
theorem turn_back_18 (a : Int) (h : InR a) : turn 16384 262144 (turn 262144 16384 a) = a := by
  rw [turn_sum_m18 _ (turn_range_18 a h), turn_sum_18 a h]
  exact roundtrip_18 a h
theorem turn_forth_18 (a : Int) (h : InR a) : turn 262144 16384 (turn 16384 262144 a) = a := by
  rw [turn_sum_18 _ (turn_range_m18 a h), turn_sum_m18 a h]
  exact roundtrip_m18 a h
end Go.Proofs.YthimgiphlenjdaaDoor.HX
