/- Over any two rows of words and numbers: Right and Same answer as the document says. -/
import Derived.Test.YtpnpepimcnidoaaHFns
import Derived.Test.YtpnpepimcnidoaaPIL8
set_option linter.unusedVariables false
set_option linter.unusedSimpArgs false
namespace Go.Proofs.Ytpnpepimcnidoaa.Pure
open Go.RowKit Go.Proofs.Ytpnpepimcnidoaa.PI Go.Proofs.Ytpnpepimcnidoaa.HX Go.Proofs.YtpnpepimcnidoaaW.PrintWords Go.Proofs.YtpnpepimcnidoaaW.PrintLast
theorem eq_l (l m : List Int) (hlm : l.length = m.length) (hm : l.length ≤ 35184372088832) (n : Nat) : ∀ (k i : Nat), i + n = l.length → n < k → l.take i = m.take i →
    slices_Equal_uint32_uint32.l0 k l m (l.length : Int) (i : Int) = some (decide (l = m)) := by
  induction n with
  | zero =>
    intro k i hi hk ht
    obtain ⟨k, rfl⟩ : ∃ j, k = j + 1 := ⟨k - 1, by omega⟩
    simp only [slices_Equal_uint32_uint32.l0]
    rw [if_neg (by omega)]
    rw [List.take_of_length_le (by omega), List.take_of_length_le (by omega)] at ht
    rw [decide_eq_true ht]
  | succ n ih =>
    intro k i hi hk ht
    obtain ⟨k, rfl⟩ : ∃ j, k = j + 1 := ⟨k - 1, by omega⟩
    simp only [slices_Equal_uint32_uint32.l0]
    rw [if_pos (by omega), if_pos (by omega), if_pos (by omega), if_pos (by omega)]
    have e1 : rd l (i : Nat) = l[i]'(by omega) := by simp [rd, List.getD_eq_getElem?_getD, List.getElem?_eq_getElem (show i < l.length by omega)]
    have e2 : rd m (i : Nat) = m[i]'(by omega) := by simp [rd, List.getD_eq_getElem?_getD, List.getElem?_eq_getElem (show i < m.length by omega)]
    by_cases h : rd l (i : Nat) = rd m (i : Nat)
    · rw [if_pos h, show wrap64 ((i : Int) + 1) = ((i + 1 : Nat) : Int) from wrap64_of (by omega) (by omega)]
      refine ih k (i + 1) (by omega) (by omega) ?_
      rw [List.take_succ_eq_append_getElem (by omega), List.take_succ_eq_append_getElem (by omega), ht, ← e1, ← e2, h]
    · rw [if_neg h]
      have : l ≠ m := fun hh => h (by subst hh; rfl)
      rw [decide_eq_false this]
theorem same_f (l m : List Int) (d e : Int) (hm : l.length ≤ 35184372088832) (k : Nat) (hk : l.length < k) : image_Same.f k l d m e = some (sameB l d m e) := by
  unfold image_Same.f slices_Equal_uint32_uint32.f sameB
  by_cases h : d = e
  · rw [if_pos h]
    by_cases hl : (l.length : Int) = (m.length : Int)
    · rw [if_pos hl]
      have := eq_l l m (by omega) hm l.length k 0 (by omega) (by omega) rfl
      rw [show ((0 : Nat) : Int) = 0 from rfl] at this
      rw [this]; simp [h]
    · rw [if_neg hl]
      have : l ≠ m := fun hh => hl (by rw [hh])
      simp [this]
  · rw [if_neg h, decide_eq_false h, Bool.and_false]
theorem ImageRight (l : List Int) (d : Int) (m : List Int) (e : Int) : ∃ k, seedcornlaw08_ImageRight.f k l d m e = some true := by
  refine ⟨200000 + 1, ?_⟩
  have stop : seedcornlaw08_ImageRight.j0 (200000 + 1) true l d m e = some true := by rw [seedcornlaw08_ImageRight.j0, if_pos rfl]
  unfold seedcornlaw08_ImageRight.f
  rw [awake_f _ (by omega)]
  simp only [Option.bind_some, if_true]
  by_cases h2 : (l.length : Int) > 20000
  · rw [if_pos h2]; exact stop
  rw [if_neg h2]
  by_cases h3 : (m.length : Int) > 20000
  · rw [decide_eq_true h3]; exact stop
  rw [decide_eq_false h3, seedcornlaw08_ImageRight.j0, if_neg (by decide), right_f, rright_f, same_f l m d e (by omega) _ (by omega), rsame_f l m d e (by omega) _ (by omega)]
  simp
end Go.Proofs.Ytpnpepimcnidoaa.Pure
