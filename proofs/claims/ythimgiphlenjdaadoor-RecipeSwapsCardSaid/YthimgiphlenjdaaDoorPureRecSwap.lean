/- Two of a recipe's inputs, or passes, exchanged: in plain words. -/
import Derived.Test.YthimgiphlenjdaaDoorPureRec
import Derived.Test.YthimgiphlenjdaaDoorPureRecR
import Derived.Test.YthimgiphlenjdaaDoorPureRecSame
set_option linter.unusedVariables false
namespace Go.Proofs.YthimgiphlenjdaaDoor.PI
open Go.RowKit Go.Proofs.YthimgiphlenjdaaDoorW.PrintWords HX
theorem swap_eq {α : Type} (l : List α) (i k : Nat) (hi : i < l.length) (hk : k < l.length) (m : List α) (hm : m = (l.set i l[k]).set k l[i]) : l = m ↔ l[i] = l[k] := by
  subst hm
  constructor
  · intro h
    have h1 : l[k]? = ((l.set i l[k]).set k l[i])[k]? := congrArg (fun x => x[k]?) h
    rw [List.getElem?_set_self (by rw [List.length_set]; exact hk), List.getElem?_eq_getElem hk] at h1
    exact (Option.some.inj h1).symm
  · intro h
    rw [h, ← h, List.set_getElem_self, h, List.set_getElem_self]
theorem dig_beq (x y : S24) : (x.f0 == y.f0 && (x.f1 == y.f1 && (x.f2 == y.f2 && (x.f3 == y.f3)))) = true ↔ x = y := by
  obtain ⟨a, b, c, d⟩ := x
  obtain ⟨a', b', c', d'⟩ := y
  simp only [Bool.and_eq_true, beq_iff_eq, S24.mk.injEq]
theorem right_C (l lc : List S24) (h : (Rec.mk 6 0 0 0 0 [] l 0).right) (hl : lc.length = l.length) : (Rec.mk 6 0 0 0 0 [] lc 0).right := by
  obtain ⟨h1, h2, h3, h4, h5, h6, h7, h8⟩ := h
  exact ⟨h1, h2, h3, h4, h5, by show lc.length ≤ 20; rw [hl]; exact h6, .inr (.inl rfl), h8⟩
theorem right_D (l ld : List Int) (b7 : List S24) (h : (Rec.mk 3 0 0 0 0 l b7 0).right) (hl : ld.length = l.length) (hm : ∀ p ∈ ld, p ∈ l) : (Rec.mk 3 0 0 0 0 ld b7 0).right := by
  obtain ⟨h1, h2, h3, h4, h5, h6, h7, h8⟩ := h
  refine ⟨h1, h2, h3, h4, h5, h6, h7, ?_⟩
  have h9 : l.length ≤ 20 ∧ ∀ p ∈ l, 1 ≤ p ∧ p ≤ 4 := h8
  exact (show ld.length ≤ 20 ∧ ∀ p ∈ ld, 1 ≤ p ∧ p ≤ 4 from ⟨by rw [hl]; exact h9.1, fun p hp => h9.2 p (hm p hp)⟩)
theorem w0 : W32 0 := ⟨by decide, by decide⟩
theorem str_beq (s t : ByteArray) : (s.toList == t.toList) = true ↔ s = t := by
  rw [beq_iff_eq]
  constructor
  · intro h
    rw [Lib.toList_data, Lib.toList_data] at h
    exact ByteArray.ext (Array.toList_inj.1 h)
  · intro h
    rw [h]
theorem swaps_of (a c : Rec) (b0 : Bool) (ha : a.right) (hc : c.right) (oa : a.Ok) (oc : c.Ok) (hl : a.ps.length = c.ps.length) (hd : a.ds.length = c.ds.length) (he : a = c ↔ b0 = true) : ∃ sA sC : ByteArray,
    putS a = (sA, 0) ∧ putS c = (sC, 0) ∧ sA.size = sC.size ∧ 0 < sA.size ∧ sA.size ≤ 1000 ∧ (sA.toList == sC.toList) = b0 ∧ decide (sA = sC) = b0 ∧ recipe_Same.f 100 a.tool a.i0 a.i1 a.i2 a.i3 a.ps a.ds a.fuel c.tool c.i0 c.i1 c.i2 c.i3 c.ps c.ds c.fuel = some b0 := by
  have hs := right_small a ha
  obtain ⟨v, hv, hv'⟩ := psame_of a c (by omega) (by omega) 100 (by omega)
  have e : recBytes a = recBytes c ↔ b0 = true := ⟨fun h => he.1 (rec_inj a c ha hc oa oc h), fun h => by rw [he.2 h]⟩
  refine ⟨recBytes a, recBytes c, if_pos ha, if_pos hc, by rw [rec_size, rec_size, hl, hd], by rw [rec_size]; omega, by have := rec_small a ha; omega, ?_, ?_, ?_⟩
  · rw [Bool.eq_iff_iff, str_beq]
    exact e
  · rw [Bool.eq_iff_iff, decide_eq_true_iff]
    exact e
  · rw [hv, Bool.eq_iff_iff.2 (hv'.trans he)]
theorem swaps_A (l0 : List S24) (i k : Nat) (hi : i < l0.length) (hk : k < l0.length) (di dk : S24) (hdi : di = rd_T24 l0 (i : Int)) (hdk : dk = rd_T24 l0 (k : Int)) (lc : List S24) (hlc : lc = (l0.set i dk).set k di) (hok : ∀ d ∈ l0, DigOk d) (ra : (Rec.mk 6 0 0 0 0 [] l0 0).right) : ∃ (b : Bool) (sA sC : ByteArray),
    (di.f0 == dk.f0 && (di.f1 == dk.f1 && (di.f2 == dk.f2 && (di.f3 == dk.f3)))) = b ∧ putS (Rec.mk 6 0 0 0 0 [] l0 0) = (sA, 0) ∧ putS (Rec.mk 6 0 0 0 0 [] lc 0) = (sC, 0) ∧ sA.size = sC.size ∧ 0 < sA.size ∧ sA.size ≤ 1000 ∧ (sA.toList == sC.toList) = b ∧ decide (sA = sC) = b ∧ recipe_Same.f 100 6 0 0 0 0 [] l0 0 6 0 0 0 0 [] lc 0 = some b := by
  rw [rdT_at l0 i hi] at hdi
  rw [rdT_at l0 k hk] at hdk
  subst hdi
  subst hdk
  have hl : lc.length = l0.length := by rw [hlc, List.length_set, List.length_set]
  have hoc : ∀ d ∈ lc, DigOk d := fun d hd => by
    rw [hlc] at hd
    rcases List.mem_or_eq_of_mem_set hd with h | h
    · rcases List.mem_or_eq_of_mem_set h with h | h
      · exact hok d h
      · rw [h]; exact hok _ (List.getElem_mem hk)
    · rw [h]; exact hok _ (List.getElem_mem hi)
  obtain ⟨sA, sC, h⟩ := swaps_of (Rec.mk 6 0 0 0 0 [] l0 0) (Rec.mk 6 0 0 0 0 [] lc 0) ((l0[i]).f0 == (l0[k]).f0 && ((l0[i]).f1 == (l0[k]).f1 && ((l0[i]).f2 == (l0[k]).f2 && ((l0[i]).f3 == (l0[k]).f3)))) ra (right_C l0 lc ra hl) ⟨w0, w0, w0, w0, hok⟩ ⟨w0, w0, w0, w0, hoc⟩ rfl hl.symm (by
    rw [dig_beq, ← swap_eq l0 i k hi hk lc hlc]
    simp only [Rec.mk.injEq, true_and, and_true])
  exact ⟨_, sA, sC, rfl, h⟩
theorem swaps_B (l1 : List Int) (b7 : List S24) (m n : Nat) (hi : m < l1.length) (hk : n < l1.length) (pm pn : Int) (hdi : pm = rd l1 (m : Int)) (hdk : pn = rd l1 (n : Int)) (ld : List Int) (hlc : ld = (l1.set m pn).set n pm) (hb7 : b7 = [⟨7, 0, 0, 0⟩]) (rb : (Rec.mk 3 0 0 0 0 l1 b7 0).right) : ∃ (b : Bool) (sA sC : ByteArray),
    (pm == pn) = b ∧ putS (Rec.mk 3 0 0 0 0 l1 b7 0) = (sA, 0) ∧ putS (Rec.mk 3 0 0 0 0 ld b7 0) = (sC, 0) ∧ sA.size = sC.size ∧ 0 < sA.size ∧ sA.size ≤ 1000 ∧ (sA.toList == sC.toList) = b ∧ decide (sA = sC) = b ∧ recipe_Same.f 100 3 0 0 0 0 l1 b7 0 3 0 0 0 0 ld b7 0 = some b := by
  rw [rd_at l1 m hi] at hdi
  rw [rd_at l1 n hk] at hdk
  subst hdi
  subst hdk
  have hl : ld.length = l1.length := by rw [hlc, List.length_set, List.length_set]
  have hm : ∀ p ∈ ld, p ∈ l1 := fun d hd => by
    rw [hlc] at hd
    rcases List.mem_or_eq_of_mem_set hd with h | h
    · rcases List.mem_or_eq_of_mem_set h with h | h
      · exact h
      · rw [h]; exact List.getElem_mem hk
    · rw [h]; exact List.getElem_mem hi
  have hok : ∀ d ∈ b7, DigOk d := fun d hd => by
    rw [hb7] at hd
    obtain rfl := List.mem_singleton.1 hd
    exact ⟨⟨by decide, by decide⟩, w0, w0, w0⟩
  obtain ⟨sA, sC, h⟩ := swaps_of (Rec.mk 3 0 0 0 0 l1 b7 0) (Rec.mk 3 0 0 0 0 ld b7 0) (l1[m] == l1[n]) rb (right_D l1 ld b7 rb hl hm) ⟨w0, w0, w0, w0, hok⟩ ⟨w0, w0, w0, w0, hok⟩ hl.symm rfl (by
    rw [beq_iff_eq, ← swap_eq l1 m n hi hk ld hlc]
    simp only [Rec.mk.injEq, true_and, and_true])
  exact ⟨_, sA, sC, rfl, h⟩
end Go.Proofs.YthimgiphlenjdaaDoor.PI
