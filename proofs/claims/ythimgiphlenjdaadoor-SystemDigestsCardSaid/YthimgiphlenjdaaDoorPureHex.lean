/- Digits read and written: the program's and the reference's answers, in plain words. -/
import Derived.Test.YthimgiphlenjdaaDoorGa
set_option linter.unusedVariables false
namespace Go.Proofs.YthimgiphlenjdaaDoor.PI
open Go.RowKit Go.Proofs.YthimgiphlenjdaaDoorW.PrintWords HX
/-- A digit's value; 255: it is none. -/
def hv (c : Int) : Int := if 48 ≤ c ∧ c ≤ 57 then c - 48 else if 97 ≤ c ∧ c ≤ 102 then c - 87 else if 65 ≤ c ∧ c ≤ 70 then c - 55 else 255
theorem hv_range (c : Int) : 0 ≤ hv c ∧ hv c ≤ 255 := by
  unfold hv
  repeat' split
  all_goals omega
theorem hv_digit (c : Int) (h : hv c ≠ 255) : 0 ≤ hv c ∧ hv c ≤ 15 := by
  unfold hv at h ⊢
  repeat' split
  all_goals first | omega | (rename_i h1 h2 h3; rw [if_neg h1, if_neg h2, if_neg h3] at h; exact absurd rfl h)
theorem value_of (k : Nat) (c : Int) (h0 : 0 ≤ c) (h1 : c ≤ 255) : hex_value.f (k + 2) c = some (hv c) := by
  unfold hex_value.f hv
  simp only [hex_value.j0, hex_value.j1, decide_eq_true_eq, Bool.false_eq_true, if_false]
  repeat' split
  all_goals first | (refine congrArg some ?_; omega) | (exfalso; omega)
theorem w64 (x : Int) (h0 : -9223372036854775808 ≤ x) (h1 : x ≤ 9223372036854775807) : wrap64 x = x := by unfold wrap64; omega
/-- Pairs of digits alone? -/
def good : List Int → Bool
  | [] => true
  | [_] => false
  | a :: b :: t => hv a != 255 && (hv b != 255 && good t)
/-- What they say. -/
def dec : List Int → List Int
  | a :: b :: t => (hv a * 16 + hv b) :: dec t
  | _ => []
theorem or16 (a b : Int) (h : 0 ≤ a ∧ a ≤ 15) (k : 0 ≤ b ∧ b ≤ 15) : bits .or .u8 ((a * 16) % 256) b = a * 16 + b := by
  have h16 : ∀ x y : Fin 16, bits .or .u8 (((x.val : Int) * 16) % 256) (y.val : Int) = (x.val : Int) * 16 + (y.val : Int) := by decide +kernel
  obtain ⟨m, rfl⟩ := Int.eq_ofNat_of_zero_le h.1
  obtain ⟨n, rfl⟩ := Int.eq_ofNat_of_zero_le k.1
  exact h16 ⟨m, by omega⟩ ⟨n, by omega⟩
theorem tm2 (x : Int) (h : 0 ≤ x) : Int.tmod x 2 = x % 2 := Int.tmod_eq_emod_of_nonneg h
theorem drop_at {x0 : ByteArray} {i : Nat} {c : Int} {t : List Int} (h : (bytesOf x0).drop i = c :: t) : i < x0.size ∧ bt x0 (i : Int) = c ∧ (bytesOf x0).drop (i + 1) = t := by
  have hl : i < (bytesOf x0).length := by
    apply Nat.lt_of_not_le
    intro hn
    rw [List.drop_eq_nil_of_le hn] at h
    cases h
  rw [List.drop_eq_getElem_cons hl] at h
  injection h with h1 h2
  refine ⟨by rwa [bytesOf_length] at hl, ?_, h2⟩
  rw [← rd_bytesOf]
  unfold rd
  rw [Int.toNat_natCast, List.getD_eq_getElem?_getD, List.getElem?_eq_getElem hl]
  exact h1
theorem parse_loop (x0 : ByteArray) (hs : x0.size ≤ 1099511627776) : ∀ (cs : List Int) (i k : Nat) (x5 : List Int), (bytesOf x0).drop (2 * i) = cs → 2 * i ≤ x0.size → x5.length = i → cs.length + 4 ≤ k →
    ∃ q : Int, hex_Parse.l0 k x0 x5 (x0.size : Int) ((2 * i : Nat) : Int) = some (if good cs then (strOfNums (x5 ++ dec cs), 0, 0) else (⟨#[]⟩, q, 3))
  | [], i, k, x5, hd, hi, hl, hk => by
    obtain ⟨k, rfl⟩ : ∃ m, k = m + 1 := ⟨k - 1, by omega⟩
    have hn : x0.size ≤ 2 * i := by rw [← bytesOf_length]; exact List.drop_eq_nil_iff.1 hd
    refine ⟨0, ?_⟩
    rw [hex_Parse.l0, if_neg (by omega), if_neg (by omega)]
    simp [good, dec]
  | [a], i, k, x5, hd, hi, hl, hk => by
    obtain ⟨k, rfl⟩ : ∃ m, k = m + 3 + 1 := ⟨k - 4, by simp at hk; omega⟩
    obtain ⟨h1, h2, h3⟩ := drop_at hd
    have hn : x0.size ≤ 2 * i + 1 := by rw [← bytesOf_length]; exact List.drop_eq_nil_iff.1 h3
    have hb := bt_range x0 ((2 * i : Nat) : Int)
    have hm := tm2 ((2 * i : Nat) : Int) (by omega)
    rw [hex_Parse.l0, if_pos (by omega), if_pos (by omega), if_pos (by omega), h2, value_of _ _ (by omega) (by omega), Option.bind_some]
    by_cases c1 : hv a = 255
    · exact ⟨_, by rw [if_pos c1]; rfl⟩
    · rw [if_neg c1, if_pos (by omega), if_pos (by omega), w64 _ (by omega) (by omega)]
      refine ⟨(x0.size : Int), ?_⟩
      rw [hex_Parse.l0, if_neg (by omega), if_pos (by omega)]
      rfl
  | a :: b :: t, i, k, x5, hd, hi, hl, hk => by
    obtain ⟨k, rfl⟩ : ∃ m, k = m + 4 + 1 := ⟨k - 5, by simp at hk; omega⟩
    obtain ⟨h1, h2, h3⟩ := drop_at hd
    obtain ⟨h4, h5, h6⟩ := drop_at h3
    have hb := bt_range x0 ((2 * i : Nat) : Int)
    have hb2 := bt_range x0 ((2 * i + 1 : Nat) : Int)
    have hm := tm2 ((2 * i : Nat) : Int) (by omega)
    have hm2 := tm2 ((2 * i + 1 : Nat) : Int) (by omega)
    rw [hex_Parse.l0, if_pos (by omega), if_pos (by omega), if_pos (by omega), h2, value_of _ _ (by omega) (by omega), Option.bind_some]
    by_cases c1 : hv a = 255
    · exact ⟨_, by rw [if_pos c1, good]; simp [c1]; rfl⟩
    · rw [if_neg c1, if_pos (by omega), if_pos (by omega), w64 _ (by omega) (by omega)]
      rw [show ((2 * i : Nat) : Int) + 1 = ((2 * i + 1 : Nat) : Int) from rfl]
      rw [hex_Parse.l0, if_pos (by omega), if_pos (by omega), if_pos (by omega), h5, value_of _ _ (by omega) (by omega), Option.bind_some]
      by_cases c2 : hv b = 255
      · exact ⟨_, by rw [if_pos c2, good]; simp [c2]; rfl⟩
      · have hdiv : Int.tdiv ((2 * i + 1 : Nat) : Int) 2 = (i : Int) := by rw [Int.tdiv_eq_ediv_of_nonneg (by omega)]; omega
        rw [if_neg c2, if_neg (by omega), hdiv, w64 _ (by omega) (by omega), if_pos (by omega), if_pos (by rw [List.length_append, hl]; simp; omega), w64 _ (by omega) (by omega)]
        have hrd : rd (x5 ++ [hv a * 16 % 256]) (i : Int) = hv a * 16 % 256 := by
          unfold rd
          rw [Int.toNat_natCast, ← hl]
          simp
        have hset : (x5 ++ [hv a * 16 % 256]).set (i : Int).toNat (hv a * 16 + hv b) = x5 ++ [hv a * 16 + hv b] := by
          rw [Int.toNat_natCast, ← hl]
          simp
        rw [hrd, or16 _ _ (hv_digit a c1) (hv_digit b c2), hset]
        obtain ⟨q, hq⟩ := parse_loop x0 hs t (i + 1) (k + 3) (x5 ++ [hv a * 16 + hv b]) (by rw [show 2 * (i + 1) = 2 * i + 1 + 1 by omega]; exact h6) (by omega) (by rw [List.length_append, hl]; rfl) (by simp at hk; omega)
        refine ⟨q, ?_⟩
        rw [show ((2 * i + 1 : Nat) : Int) + 1 = ((2 * (i + 1) : Nat) : Int) by omega, hq]
        have e : good (a :: b :: t) = good t := by rw [good, show (hv a != 255) = true from bne_iff_ne.2 c1, show (hv b != 255) = true from bne_iff_ne.2 c2]; rfl
        rw [e, dec]
        simp
theorem parse_of (x0 : ByteArray) (hs : x0.size ≤ 1099511627776) : ∃ q : Int, hex_Parse.f (2 * x0.size + 8) x0 = some (if good (bytesOf x0) then (strOfNums (dec (bytesOf x0)), 0, 0) else (⟨#[]⟩, q, 3)) := by
  unfold hex_Parse.f
  rw [if_pos (by omega)]
  exact parse_loop x0 hs (bytesOf x0) 0 _ [] rfl (by omega) rfl (by rw [bytesOf_length]; omega)
/-- A digest of a text, by both. -/
def parseP (x0 : ByteArray) : Int × Int × Int × Int × Int :=
  if good (bytesOf x0) = true ∧ (strOfNums (dec (bytesOf x0))).size = 16 then (pw (strOfNums (dec (bytesOf x0))) 0 16, pw (strOfNums (dec (bytesOf x0))) 1 16, pw (strOfNums (dec (bytesOf x0))) 2 16, pw (strOfNums (dec (bytesOf x0))) 3 16, 0) else (0, 0, 0, 0, 3)
theorem dparse_of (x0 : ByteArray) (hs : x0.size ≤ 1099511627776) : digest_Parse.f x0 = some (parseP x0) := by
  obtain ⟨q, hq⟩ := parse_of x0 hs
  unfold digest_Parse.f parseP
  rw [hq, Option.bind_some]
  by_cases c1 : good (bytesOf x0) = true
  · rw [if_pos c1]
    by_cases c2 : (strOfNums (dec (bytesOf x0))).size = 16
    · rw [if_pos ⟨rfl, c2⟩, if_pos ⟨c1, c2⟩]
    · rw [if_neg (fun h => c2 h.2), if_neg (fun h => c2 h.2)]
  · rw [if_neg c1, if_neg (fun h => by have h2 := h.1; simp at h2), if_neg (fun h => c1 h.1)]
end Go.Proofs.YthimgiphlenjdaaDoor.PI
