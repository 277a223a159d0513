/- What the law RecipeRight asks, in plain words. -/
import Derived.Test.YthimgiphlenjdaaDoorPureRecSame
import Derived.Test.YthimgiphlenjdaaDoorF16
set_option linter.unusedVariables false
namespace Go.Proofs.YthimgiphlenjdaaDoor.PI
open Go.RowKit Go.Proofs.YthimgiphlenjdaaDoorW.PrintWords
theorem awake_at (k : Nat) (hk : 300 ≤ k) : seedcornlaw37_awake.f k = some true := at_rounds (g := fun k => seedcornlaw37_awake.f k) seedcornlaw37_awake.mono hk seedcornlaw37_awake.is
theorem few_of (r : Rec) (n : Nat) : seedcornref37_Few.f r.tool r.i0 r.i1 r.i2 r.i3 r.ps r.ds r.fuel (n : Int) = some (decide (r.ps.length ≤ n ∧ r.ds.length ≤ n)) := by
  unfold seedcornref37_Few.f
  by_cases h : r.ps.length ≤ n
  · rw [if_pos (by omega)]
    refine congrArg some ?_
    rw [decide_eq_decide]
    omega
  · rw [if_neg (by omega), decide_eq_false (fun e => h e.1)]
theorem pureRecipeRight (a b : Rec) : ∃ k, seedcornlaw37_RecipeRight.f k a.tool a.i0 a.i1 a.i2 a.i3 a.ps a.ds a.fuel b.tool b.i0 b.i1 b.i2 b.i3 b.ps b.ds b.fuel = some true := by
  obtain ⟨m, hm⟩ : ∃ m : Nat, m = 1000 := ⟨_, rfl⟩
  refine ⟨m + 1, ?_⟩
  have fa := few_of a 100
  have fb := few_of b 100
  have fa' : seedcornref37_Few.f a.tool a.i0 a.i1 a.i2 a.i3 a.ps a.ds a.fuel 100 = _ := fa
  have fb' : seedcornref37_Few.f b.tool b.i0 b.i1 b.i2 b.i3 b.ps b.ds b.fuel 100 = _ := fb
  unfold seedcornlaw37_RecipeRight.f
  rw [awake_at (m + 1) (by omega), Option.bind_some, if_pos rfl, fa', Option.bind_some]
  by_cases ha : a.ps.length ≤ 100 ∧ a.ds.length ≤ 100
  · rw [if_pos (decide_eq_true ha), fb', Option.bind_some]
    by_cases hb : b.ps.length ≤ 100 ∧ b.ds.length ≤ 100
    · obtain ⟨v, hv, hv'⟩ := psame_of a b (by omega) (by omega) m (by omega)
      obtain ⟨u, hu, hu'⟩ := rsame_of a b (by omega) (by omega) m (by omega)
      have h1 : recipe_Right.f m a.tool a.i0 a.i1 a.i2 a.i3 a.ps a.ds a.fuel = some (decide a.right) := by
        obtain ⟨n, rfl⟩ : ∃ n, m = n + 4 := ⟨m - 4, by omega⟩
        exact right_of _ _ _ _ _ _ _ _ n
      have h2 : seedcornref37_Right.f m a.tool a.i0 a.i1 a.i2 a.i3 a.ps a.ds a.fuel = some (decide a.right) := by
        obtain ⟨n, rfl⟩ : ∃ n, m = n + 30 := ⟨m - 30, by omega⟩
        exact rright_of _ _ _ _ _ _ _ _ n
      rw [decide_eq_true hb, seedcornlaw37_RecipeRight.j0, if_neg (by decide), h1, Option.bind_some, h2, Option.bind_some, if_pos (beq_self_eq_true _), hv, Option.bind_some, hu, Option.bind_some]
      rw [Bool.eq_iff_iff.2 (hv'.trans hu'.symm), beq_self_eq_true]
    · rw [decide_eq_false hb, seedcornlaw37_RecipeRight.j0, if_pos (by decide)]
  · rw [if_neg (by rw [decide_eq_true_iff]; exact ha), seedcornlaw37_RecipeRight.j0, if_pos rfl]
end Go.Proofs.YthimgiphlenjdaaDoor.PI
