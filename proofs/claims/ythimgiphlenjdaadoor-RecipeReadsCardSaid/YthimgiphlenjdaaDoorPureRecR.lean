/- The reference's answers of recipes: whether they may be, are alike. -/
import Derived.Test.YthimgiphlenjdaaDoorPureRight
import Derived.Test.YthimgiphlenjdaaDoorF41
import Derived.Test.YthimgiphlenjdaaDoorGf
set_option linter.unusedVariables false
namespace Go.Proofs.YthimgiphlenjdaaDoor.PI
open Go.RowKit Go.Proofs.YthimgiphlenjdaaDoorW.PrintWords
theorem wsucc (i : Nat) (h : i ≤ 1000000) : wrap64 ((i : Int) + 1) = ((i + 1 : Nat) : Int) := by
  have e : wrap64 ((i : Int) + 1) = (i : Int) + 1 := by unfold wrap64; omega
  rw [e]
  omega
theorem rd_at (l : List Int) (i : Nat) (h : i < l.length) : rd l (i : Int) = l[i] := by
  unfold rd
  rw [Int.toNat_natCast, List.getD_eq_getElem?_getD, List.getElem?_eq_getElem h]
  rfl
theorem rdT_at (l : List S24) (i : Nat) (h : i < l.length) : rd_T24 l (i : Int) = l[i] := by
  unfold rd_T24
  rw [Int.toNat_natCast, List.getD_eq_getElem?_getD, List.getElem?_eq_getElem h]
  rfl
theorem some_iff {b c : Bool} (h : b = true ↔ c = true) : some b = some c := by rw [Bool.eq_iff_iff.2 h]
theorem rright_loop (a0 a1 a2 a3 a4 : Int) (ps : List Int) (ds : List S24) (a7 : Int) (hl : ps.length ≤ 1000) : ∀ (d i k : Nat), ps.length - i = d → i ≤ ps.length → d < k →
    seedcornref37_Right.l0 k (i : Int) a0 a1 a2 a3 a4 ps ds a7 = some (decide ((∀ p ∈ ps.drop i, 1 ≤ p ∧ p ≤ 4) ∧ (a0 = 1 ∨ a0 = 6 ∨ ds.length = 1)))
  | 0, i, k, hd, hi, hk => by
    obtain ⟨k, rfl⟩ : ∃ m, k = m + 1 := ⟨k - 1, by omega⟩
    have e : ps.drop i = [] := List.drop_eq_nil_of_le (by omega)
    rw [seedcornref37_Right.l0, if_neg (by omega), e]
    split
    · rename_i h
      refine some_iff ?_
      simp [h]
    · split
      · rename_i h
        refine some_iff ?_
        simp [h]
      · rename_i h1 h2
        refine some_iff ?_
        simp only [beq_iff_eq, decide_eq_true_iff, List.not_mem_nil, false_imp_iff, implies_true, true_and]
        omega
  | d + 1, i, k, hd, hi, hk => by
    obtain ⟨k, rfl⟩ : ∃ m, k = m + 1 := ⟨k - 1, by omega⟩
    have hlt : i < ps.length := by omega
    have e : ps.drop i = ps[i] :: ps.drop (i + 1) := List.drop_eq_getElem_cons hlt
    have ih := rright_loop a0 a1 a2 a3 a4 ps ds a7 hl d (i + 1) k (by omega) (by omega) (by omega)
    have HW := Aside0.mk (wsucc i (by omega))
    rw [seedcornref37_Right.l0, if_pos (by omega), if_pos (by omega), rd_at ps i hlt, HW.out, ih, e]
    split
    · rename_i h
      refine some_iff ?_
      simp only [decide_eq_true_iff]
      constructor
      · intro h'
        cases h'
      · rintro ⟨h', _⟩
        have := h' ps[i] List.mem_cons_self
        omega
    · split
      · rename_i h
        refine some_iff ?_
        simp only [decide_eq_true_iff]
        constructor
        · intro h'
          cases h'
        · rintro ⟨h', _⟩
          have := h' ps[i] List.mem_cons_self
          omega
      · rename_i h1 h2
        refine some_iff ?_
        simp only [decide_eq_true_iff, List.forall_mem_cons]
        constructor
        · rintro ⟨p, q⟩
          exact ⟨⟨by omega, p⟩, q⟩
        · rintro ⟨⟨_, p⟩, q⟩
          exact ⟨p, q⟩
theorem rright_of (a0 a1 a2 a3 a4 : Int) (ps : List Int) (ds : List S24) (a7 : Int) (k : Nat) : seedcornref37_Right.f (k + 30) a0 a1 a2 a3 a4 ps ds a7 = some (decide (Rec.mk a0 a1 a2 a3 a4 ps ds a7).right) := by
  have j2 : ∀ b : Bool, (b = false → ps.length ≤ 20) → seedcornref37_Right.j2 (k + 28) b a0 a1 a2 a3 a4 ps ds a7 = some (!b && decide ((∀ p ∈ ps, 1 ≤ p ∧ p ≤ 4) ∧ (a0 = 1 ∨ a0 = 6 ∨ ds.length = 1))) := by
    intro b hb
    rw [seedcornref37_Right.j2]
    cases b with
    | true => rw [if_pos rfl]; rfl
    | false =>
      have hl := hb rfl
      have h := rright_loop a0 a1 a2 a3 a4 ps ds a7 (by omega) ps.length 0 (k + 27) (by omega) (by omega) (by omega)
      rw [if_neg (by decide)]
      refine h.trans ?_
      rw [List.drop_zero]
      rfl
  have J2 := Aside0.mk j2
  clear j2
  have j1 : ∀ b : Bool, seedcornref37_Right.j1 (k + 29) b a0 a1 a2 a3 a4 ps ds a7 = some (!b && decide ((if a0 = 3 then ps.length ≤ 20 ∧ ∀ p ∈ ps, 1 ≤ p ∧ p ≤ 4 else ps = []) ∧ (a0 = 1 ∨ a0 = 6 ∨ ds.length = 1))) := by
    intro b
    rw [seedcornref37_Right.j1]
    cases b with
    | true => rw [if_pos rfl]; rfl
    | false =>
      rw [if_neg (by decide)]
      by_cases h3 : a0 = 3
      · rw [if_pos h3]
        by_cases hl : ps.length ≤ 20
        · rw [J2.out _ (fun _ => hl)]
          refine some_iff ?_
          rw [decide_eq_false (show ¬ ((ps.length : Int) > 20) by omega)]
          simp only [Bool.not_false, Bool.true_and, decide_eq_true_iff]
          rw [if_pos h3]
          exact ⟨fun ⟨p, q⟩ => ⟨⟨hl, p⟩, q⟩, fun ⟨⟨_, p⟩, q⟩ => ⟨p, q⟩⟩
        · rw [J2.out _ (fun h => absurd h (by rw [decide_eq_true (show (ps.length : Int) > 20 by omega)]; decide))]
          refine some_iff ?_
          rw [decide_eq_true (show (ps.length : Int) > 20 by omega)]
          simp only [Bool.not_true, Bool.false_and, Bool.not_false, Bool.true_and, decide_eq_true_iff]
          rw [if_pos h3]
          exact ⟨fun h => (by cases h), fun ⟨⟨p, _⟩, _⟩ => absurd p hl⟩
      · rw [if_neg h3]
        by_cases hl : (ps.length : Int) > 0
        · rw [if_pos hl, J2.out _ (fun h => by cases h)]
          refine some_iff ?_
          simp only [Bool.not_true, Bool.false_and, Bool.not_false, Bool.true_and, decide_eq_true_iff]
          rw [if_neg h3]
          exact ⟨fun h => (by cases h), fun ⟨p, _⟩ => by rw [p] at hl; simp at hl⟩
        · have hn : ps = [] := List.length_eq_zero_iff.1 (by omega)
          rw [if_neg hl, J2.out _ (fun _ => by omega)]
          refine some_iff ?_
          rw [decide_eq_false (show ¬ ((ps.length : Int) > 20) by omega)]
          simp only [Bool.not_false, Bool.true_and, decide_eq_true_iff]
          rw [if_neg h3]
          exact ⟨fun ⟨_, q⟩ => ⟨hn, q⟩, fun ⟨_, q⟩ => ⟨fun p hp => by rw [hn] at hp; exact absurd hp List.not_mem_nil, q⟩⟩
  have J1 := Aside0.mk j1
  clear j1 J2
  have bad : ¬ (Rec.mk a0 a1 a2 a3 a4 ps ds a7).right → some false = some (decide (Rec.mk a0 a1 a2 a3 a4 ps ds a7).right) := fun h => by rw [decide_eq_false h]
  have j0b : seedcornref37_Right.j0 (k + 30) true a0 a1 a2 a3 a4 ps ds a7 = some false := by rw [seedcornref37_Right.j0, if_pos rfl]
  unfold seedcornref37_Right.f
  split
  · rename_i h
    rw [j0b]
    exact bad (by rintro ⟨h1, _⟩; simp only at h1; omega)
  · split
    · rename_i h
      rw [j0b]
      exact bad (by rintro ⟨_, h1, _⟩; simp only at h1; omega)
    · rename_i h0 h6
      by_cases hd : ds.length ≤ 20
      · rw [decide_eq_false (show ¬ ((ds.length : Int) > 20) by omega), seedcornref37_Right.j0, if_neg (by decide)]
        have fin : ∀ b : Bool, (b = false ↔ (a0 = 1 ∨ (a1 = 0 ∧ a2 = 0 ∧ a3 = 0 ∧ a4 = 0 ∧ a7 = 0)) ∧ 0 ≤ a7 ∧ a7 ≤ 100000000) → some (!b && decide ((if a0 = 3 then ps.length ≤ 20 ∧ ∀ p ∈ ps, 1 ≤ p ∧ p ≤ 4 else ps = []) ∧ (a0 = 1 ∨ a0 = 6 ∨ ds.length = 1))) = some (decide (Rec.mk a0 a1 a2 a3 a4 ps ds a7).right) := by
          intro b hb
          refine some_iff ?_
          simp only [Bool.and_eq_true, Bool.not_eq_true', decide_eq_true_iff]
          rw [hb]
          unfold Rec.right
          simp only
          constructor
          · rintro ⟨⟨p, q, r⟩, s, t⟩
            exact ⟨by omega, by omega, p, q, r, hd, t, s⟩
          · rintro ⟨_, _, p, q, r, _, t, s⟩
            exact ⟨⟨p, q, r⟩, s, t⟩
        by_cases h1 : a0 = 1
        · rw [if_pos h1]
          by_cases hf : a7 < 0
          · rw [if_pos hf, J1.out]
            exact fin true ⟨fun h => (by cases h), fun ⟨_, p, _⟩ => by omega⟩
          · rw [if_neg hf, J1.out]
            refine fin _ ?_
            rw [decide_eq_false_iff_not]
            omega
        · rw [if_neg h1]
          by_cases hi : a1 = 0 ∧ a2 = 0 ∧ a3 = 0 ∧ a4 = 0
          · obtain ⟨e1, e2, e3, e4⟩ := hi
            rw [if_neg (by rw [e1, e2, e3, e4]; decide)]
            by_cases hf : a7 = 0
            · rw [if_pos hf]
              by_cases hn : a7 < 0
              · omega
              · rw [if_neg hn, J1.out]
                refine fin _ ?_
                rw [decide_eq_false_iff_not]
                omega
            · rw [if_neg hf, J1.out]
              exact fin true ⟨fun h => (by cases h), fun ⟨p, _, _⟩ => by omega⟩
          · rw [if_pos, J1.out]
            · exact fin true ⟨fun h => (by cases h), fun ⟨p, _, _⟩ => by omega⟩
            · simp only [Bool.or_eq_true, Bool.not_eq_true', beq_eq_false_iff_ne, ne_eq]
              omega
      · rw [decide_eq_true (show (ds.length : Int) > 20 by omega), j0b]
        exact bad (by rintro ⟨_, _, _, _, _, h1, _⟩; simp only at h1; omega)
/-! Alike. -/
theorem S24_ext (x y : S24) : ((!(x.f0 == y.f0) || (!(x.f1 == y.f1) || (!(x.f2 == y.f2) || (!(x.f3 == y.f3))))) = true) ↔ x ≠ y := by
  obtain ⟨a, b, c, d⟩ := x
  obtain ⟨e, f, g, h⟩ := y
  simp only [Bool.or_eq_true, Bool.not_eq_true', beq_eq_false_iff_ne, ne_eq, S24.mk.injEq]
  omega
theorem drop_eq {α : Type} (l m : List α) (i : Nat) (h1 : i < l.length) (h2 : i < m.length) : l.drop i = m.drop i ↔ l[i] = m[i] ∧ l.drop (i + 1) = m.drop (i + 1) := by
  rw [List.drop_eq_getElem_cons h1, List.drop_eq_getElem_cons h2, List.cons.injEq]
theorem rsame_loop1 (a b : Rec) (hl : a.ds.length = b.ds.length) (hs : a.ds.length ≤ 1000) : ∀ (d i k : Nat), a.ds.length - i = d → i ≤ a.ds.length → d < k →
    ∃ v, seedcornref37_Same.l1 k (i : Int) a.tool a.i0 a.i1 a.i2 a.i3 a.ps a.ds a.fuel b.tool b.i0 b.i1 b.i2 b.i3 b.ps b.ds b.fuel = some v ∧ (v = true ↔ a.ds.drop i = b.ds.drop i)
  | 0, i, k, hd, hi, hk => by
    obtain ⟨k, rfl⟩ : ∃ m, k = m + 1 := ⟨k - 1, by omega⟩
    refine ⟨true, by rw [seedcornref37_Same.l1, if_neg (by omega)], ?_⟩
    rw [List.drop_eq_nil_of_le (by omega), List.drop_eq_nil_of_le (by omega)]
    exact ⟨fun _ => rfl, fun _ => rfl⟩
  | d + 1, i, k, hd, hi, hk => by
    obtain ⟨k, rfl⟩ : ∃ m, k = m + 1 := ⟨k - 1, by omega⟩
    have h1 : i < a.ds.length := by omega
    have h2 : i < b.ds.length := by omega
    obtain ⟨v, hv, hv'⟩ := rsame_loop1 a b hl hs d (i + 1) k (by omega) (by omega) (by omega)
    have HW := Aside0.mk (wsucc i (by omega))
    rw [seedcornref37_Same.l1, if_pos (by omega), if_pos (by omega), if_pos (by omega), rdT_at _ i h1, rdT_at _ i h2, HW.out, hv, drop_eq _ _ i h1 h2]
    by_cases he : a.ds[i] = b.ds[i]
    · rw [if_neg (fun h => (S24_ext _ _).1 h he)]
      exact ⟨v, rfl, hv'.trans ⟨fun h => ⟨he, h⟩, fun h => h.2⟩⟩
    · rw [if_pos ((S24_ext _ _).2 he)]
      exact ⟨false, rfl, ⟨fun h => (by cases h), fun h => absurd h.1 he⟩⟩
theorem rsame_loop0 (a b : Rec) (hp : a.ps.length = b.ps.length) (hps : a.ps.length ≤ 1000) (hl : a.ds.length = b.ds.length) (hs : a.ds.length ≤ 1000) : ∀ (d i k : Nat), a.ps.length - i = d → i ≤ a.ps.length → d + a.ds.length + 1 < k →
    ∃ v, seedcornref37_Same.l0 k (i : Int) a.tool a.i0 a.i1 a.i2 a.i3 a.ps a.ds a.fuel b.tool b.i0 b.i1 b.i2 b.i3 b.ps b.ds b.fuel = some v ∧ (v = true ↔ a.ps.drop i = b.ps.drop i ∧ a.ds = b.ds)
  | 0, i, k, hd, hi, hk => by
    obtain ⟨k, rfl⟩ : ∃ m, k = m + 1 := ⟨k - 1, by omega⟩
    obtain ⟨v, hv, hv'⟩ := rsame_loop1 a b hl hs a.ds.length 0 k (by omega) (by omega) (by omega)
    refine ⟨v, by rw [seedcornref37_Same.l0, if_neg (by omega)]; exact hv, ?_⟩
    rw [hv', List.drop_zero, List.drop_zero, List.drop_eq_nil_of_le (by omega), List.drop_eq_nil_of_le (by omega)]
    exact ⟨fun h => ⟨rfl, h⟩, fun h => h.2⟩
  | d + 1, i, k, hd, hi, hk => by
    obtain ⟨k, rfl⟩ : ∃ m, k = m + 1 := ⟨k - 1, by omega⟩
    have h1 : i < a.ps.length := by omega
    have h2 : i < b.ps.length := by omega
    obtain ⟨v, hv, hv'⟩ := rsame_loop0 a b hp hps hl hs d (i + 1) k (by omega) (by omega) (by omega)
    have HW := Aside0.mk (wsucc i (by omega))
    rw [seedcornref37_Same.l0, if_pos (by omega), if_pos (by omega), if_pos (by omega), rd_at _ i h1, rd_at _ i h2, HW.out, hv, drop_eq _ _ i h1 h2]
    by_cases he : a.ps[i] = b.ps[i]
    · rw [if_pos he]
      exact ⟨v, rfl, hv'.trans ⟨fun h => ⟨⟨he, h.1⟩, h.2⟩, fun h => ⟨h.1.2, h.2⟩⟩⟩
    · rw [if_neg he]
      exact ⟨false, rfl, ⟨fun h => (by cases h), fun h => absurd h.1.1 he⟩⟩
theorem rsame_of (a b : Rec) (hps : a.ps.length ≤ 1000) (hs : a.ds.length ≤ 1000) (k : Nat) (hk : a.ps.length + a.ds.length + 3 ≤ k) :
    ∃ v, seedcornref37_Same.f k a.tool a.i0 a.i1 a.i2 a.i3 a.ps a.ds a.fuel b.tool b.i0 b.i1 b.i2 b.i3 b.ps b.ds b.fuel = some v ∧ (v = true ↔ a = b) := by
  obtain ⟨k, rfl⟩ : ∃ m, k = m + 1 := ⟨k - 1, by omega⟩
  have j0b : seedcornref37_Same.j0 (k + 1) true a.tool a.i0 a.i1 a.i2 a.i3 a.ps a.ds a.fuel b.tool b.i0 b.i1 b.i2 b.i3 b.ps b.ds b.fuel = some false := by rw [seedcornref37_Same.j0, if_pos rfl]
  have no : ¬ a = b → ∃ v, some false = some v ∧ (v = true ↔ a = b) := fun h => ⟨false, rfl, ⟨fun h' => (by cases h'), fun h' => absurd h' h⟩⟩
  unfold seedcornref37_Same.f
  by_cases e0 : a.tool = b.tool
  · rw [if_pos e0]
    by_cases e1 : a.i0 = b.i0 ∧ a.i1 = b.i1 ∧ a.i2 = b.i2 ∧ a.i3 = b.i3
    · rw [if_neg (by obtain ⟨p, q, r, s⟩ := e1; rw [p, q, r, s]; simp)]
      by_cases e2 : a.fuel = b.fuel
      · rw [if_pos e2]
        by_cases e3 : a.ps.length = b.ps.length
        · rw [if_pos (by omega)]
          by_cases e4 : a.ds.length = b.ds.length
          · have hb : (((a.ds.length : Nat) : Int) != ((b.ds.length : Nat) : Int)) = false := by rw [e4]; simp
            rw [hb, seedcornref37_Same.j0, if_neg (by decide)]
            obtain ⟨v, hv, hv'⟩ := rsame_loop0 a b e3 hps e4 hs a.ps.length 0 k (by omega) (by omega) (by omega)
            refine ⟨v, hv, hv'.trans ?_⟩
            rw [List.drop_zero, List.drop_zero]
            obtain ⟨p, q, r, s⟩ := e1
            obtain ⟨t1, u0, u1, u2, u3, ps1, ds1, f1⟩ := a
            obtain ⟨t2, v0, v1, v2, v3, ps2, ds2, f2⟩ := b
            simp only at e0 p q r s e2 ⊢
            subst e0 p q r s e2
            simp
          · have hb : (((a.ds.length : Nat) : Int) != ((b.ds.length : Nat) : Int)) = true := by rw [bne_iff_ne]; omega
            rw [hb, j0b]
            exact no (fun h => e4 (by rw [h]))
        · rw [if_neg (by omega), j0b]
          exact no (fun h => e3 (by rw [h]))
      · rw [if_neg e2, j0b]
        exact no (fun h => e2 (by rw [h]))
    · rw [if_pos, j0b]
      · exact no (fun h => e1 (by rw [h]; exact ⟨rfl, rfl, rfl, rfl⟩))
      · simp only [Bool.or_eq_true, Bool.not_eq_true', beq_eq_false_iff_ne, ne_eq]
        omega
  · rw [if_neg e0, j0b]
    exact no (fun h => e0 (by rw [h]))
end Go.Proofs.YthimgiphlenjdaaDoor.PI
