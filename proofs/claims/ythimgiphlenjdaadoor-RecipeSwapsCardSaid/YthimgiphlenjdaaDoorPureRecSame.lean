/- recipe.Same tells whether two recipes are one. -/
import Derived.Test.YthimgiphlenjdaaDoorPureRecR
import Derived.Test.YthimgiphlenjdaaDoorGg
set_option linter.unusedVariables false
namespace Go.Proofs.YthimgiphlenjdaaDoor.PI
open Go.RowKit Go.Proofs.YthimgiphlenjdaaDoorW.PrintWords
theorem eq_ints_loop (l m : List Int) (hl : l.length = m.length) (hs : l.length ≤ 1000) : ∀ (d i k : Nat), l.length - i = d → i ≤ l.length → d < k →
    ∃ v, slices_Equal_int_int.l0 k l m (l.length : Int) (i : Int) = some v ∧ (v = true ↔ l.drop i = m.drop i)
  | 0, i, k, hd, hi, hk => by
    obtain ⟨k, rfl⟩ : ∃ m, k = m + 1 := ⟨k - 1, by omega⟩
    refine ⟨true, by rw [slices_Equal_int_int.l0, if_neg (by omega)], ?_⟩
    rw [List.drop_eq_nil_of_le (by omega), List.drop_eq_nil_of_le (by omega)]
    exact ⟨fun _ => rfl, fun _ => rfl⟩
  | d + 1, i, k, hd, hi, hk => by
    obtain ⟨k, rfl⟩ : ∃ m, k = m + 1 := ⟨k - 1, by omega⟩
    have h1 : i < l.length := by omega
    have h2 : i < m.length := by omega
    obtain ⟨v, hv, hv'⟩ := eq_ints_loop l m hl hs d (i + 1) k (by omega) (by omega) (by omega)
    have HW := Aside0.mk (wsucc i (by omega))
    rw [slices_Equal_int_int.l0, if_pos (by omega), if_pos (by omega), if_pos (by omega), if_pos (by omega), rd_at _ i h1, rd_at _ i h2, HW.out, hv, drop_eq _ _ i h1 h2]
    by_cases he : l[i] = m[i]
    · rw [if_pos he]
      exact ⟨v, rfl, hv'.trans ⟨fun h => ⟨he, h⟩, fun h => h.2⟩⟩
    · rw [if_neg he]
      exact ⟨false, rfl, ⟨fun h => (by cases h), fun h => absurd h.1 he⟩⟩
theorem eq_ints (l m : List Int) (hs : l.length ≤ 1000) (k : Nat) (hk : l.length < k) : ∃ v, slices_Equal_int_int.f k l m = some v ∧ (v = true ↔ l = m) := by
  unfold slices_Equal_int_int.f
  by_cases h : l.length = m.length
  · rw [if_pos (by omega)]
    obtain ⟨v, hv, hv'⟩ := eq_ints_loop l m h hs l.length 0 k (by omega) (by omega) hk
    exact ⟨v, hv, by rw [hv', List.drop_zero, List.drop_zero]⟩
  · rw [if_neg (by omega)]
    exact ⟨false, rfl, ⟨fun h => (by cases h), fun e => absurd (by rw [e]) h⟩⟩
theorem eq_digs_loop (l m : List S24) (hl : l.length = m.length) (hs : l.length ≤ 1000) : ∀ (d i k : Nat), l.length - i = d → i ≤ l.length → d < k →
    ∃ v, api_Digest.l0 k l m (l.length : Int) (i : Int) = some v ∧ (v = true ↔ l.drop i = m.drop i)
  | 0, i, k, hd, hi, hk => by
    obtain ⟨k, rfl⟩ : ∃ m, k = m + 1 := ⟨k - 1, by omega⟩
    refine ⟨true, by rw [api_Digest.l0, if_neg (by omega)], ?_⟩
    rw [List.drop_eq_nil_of_le (by omega), List.drop_eq_nil_of_le (by omega)]
    exact ⟨fun _ => rfl, fun _ => rfl⟩
  | d + 1, i, k, hd, hi, hk => by
    obtain ⟨k, rfl⟩ : ∃ m, k = m + 1 := ⟨k - 1, by omega⟩
    have h1 : i < l.length := by omega
    have h2 : i < m.length := by omega
    obtain ⟨v, hv, hv'⟩ := eq_digs_loop l m hl hs d (i + 1) k (by omega) (by omega) (by omega)
    have HW := Aside0.mk (wsucc i (by omega))
    rw [api_Digest.l0, if_pos (by omega), if_pos (by omega), if_pos (by omega), if_pos (by omega), rdT_at _ i h1, rdT_at _ i h2, HW.out, hv, drop_eq _ _ i h1 h2]
    by_cases he : l[i] = m[i]
    · rw [if_neg (fun h => (S24_ext _ _).1 h he)]
      exact ⟨v, rfl, hv'.trans ⟨fun h => ⟨he, h⟩, fun h => h.2⟩⟩
    · rw [if_pos ((S24_ext _ _).2 he)]
      exact ⟨false, rfl, ⟨fun h => (by cases h), fun h => absurd h.1 he⟩⟩
theorem eq_digs (l m : List S24) (hs : l.length ≤ 1000) (k : Nat) (hk : l.length < k) : ∃ v, api_Digest.f k l m = some v ∧ (v = true ↔ l = m) := by
  unfold api_Digest.f
  by_cases h : l.length = m.length
  · rw [if_pos (by omega)]
    obtain ⟨v, hv, hv'⟩ := eq_digs_loop l m h hs l.length 0 k (by omega) (by omega) hk
    exact ⟨v, hv, by rw [hv', List.drop_zero, List.drop_zero]⟩
  · rw [if_neg (by omega)]
    exact ⟨false, rfl, ⟨fun h => (by cases h), fun e => absurd (by rw [e]) h⟩⟩
theorem psame_of (a b : Rec) (hps : a.ps.length ≤ 1000) (hs : a.ds.length ≤ 1000) (k : Nat) (hk : a.ps.length + a.ds.length < k) :
    ∃ v, recipe_Same.f k a.tool a.i0 a.i1 a.i2 a.i3 a.ps a.ds a.fuel b.tool b.i0 b.i1 b.i2 b.i3 b.ps b.ds b.fuel = some v ∧ (v = true ↔ a = b) := by
  have no : ¬ a = b → ∃ v, some false = some v ∧ (v = true ↔ a = b) := fun h => ⟨false, rfl, ⟨fun h' => (by cases h'), fun h' => absurd h' h⟩⟩
  obtain ⟨v1, h1, h1'⟩ := eq_ints a.ps b.ps hps k (by omega)
  obtain ⟨v2, h2, h2'⟩ := eq_digs a.ds b.ds hs k (by omega)
  unfold recipe_Same.f
  by_cases e0 : a.tool = b.tool
  · rw [if_pos e0]
    by_cases e1 : a.i0 = b.i0 ∧ a.i1 = b.i1 ∧ a.i2 = b.i2 ∧ a.i3 = b.i3
    · rw [if_pos (by obtain ⟨p, q, r, s⟩ := e1; rw [p, q, r, s]; simp)]
      by_cases e2 : a.fuel = b.fuel
      · rw [if_pos e2, h1, Option.bind_some]
        by_cases e3 : a.ps = b.ps
        · rw [if_pos (h1'.2 e3), h2, Option.bind_some]
          refine ⟨v2, rfl, h2'.trans ?_⟩
          obtain ⟨p, q, r, s⟩ := e1
          obtain ⟨t1, u0, u1, u2, u3, ps1, ds1, f1⟩ := a
          obtain ⟨t2, v0, v1, v2, v3, ps2, ds2, f2⟩ := b
          simp only at e0 p q r s e2 e3 ⊢
          subst e0 p q r s e2 e3
          simp
        · rw [if_neg (fun h => e3 (h1'.1 h))]
          exact no (fun h => e3 (by rw [h]))
      · rw [if_neg e2]
        exact no (fun h => e2 (by rw [h]))
    · rw [if_neg]
      · exact no (fun h => e1 (by rw [h]; exact ⟨rfl, rfl, rfl, rfl⟩))
      · simp only [Bool.and_eq_true, beq_iff_eq]
        exact e1
  · rw [if_neg e0]
    exact no (fun h => e0 (by rw [h]))
end Go.Proofs.YthimgiphlenjdaaDoor.PI
