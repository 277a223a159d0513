/- What the law RecipePrefix asks, in plain words. -/
import Derived.Test.YthimgiphlenjdaaDoorPureRec
import Derived.Test.YthimgiphlenjdaaDoorPureRecR
import Derived.Test.YthimgiphlenjdaaDoorF15
set_option linter.unusedVariables false
namespace Go.Proofs.YthimgiphlenjdaaDoor.PI
open Go.RowKit Go.Proofs.YthimgiphlenjdaaDoorW.PrintWords HX
theorem awake_at (k : Nat) (hk : 300 ≤ k) : seedcornlaw37_awake.f k = some true := at_rounds (g := fun k => seedcornlaw37_awake.f k) seedcornlaw37_awake.mono hk seedcornlaw37_awake.is
theorem few_of (r : Rec) (n : Nat) : seedcornref37_Few.f r.tool r.i0 r.i1 r.i2 r.i3 r.ps r.ds r.fuel (n : Int) = some (decide (r.ps.length ≤ n ∧ r.ds.length ≤ n)) := by
  unfold seedcornref37_Few.f
  by_cases h : r.ps.length ≤ n
  · rw [if_pos (by omega)]
    refine congrArg some ?_
    rw [decide_eq_decide]
    omega
  · rw [if_neg (by omega), decide_eq_false (fun e => h e.1)]
theorem str_eq (s t : ByteArray) : (s.toList == t.toList) = true ↔ s = t := by
  rw [beq_iff_eq]
  refine ⟨fun h => ?_, fun h => by rw [h]⟩
  rw [Lib.toList_data, Lib.toList_data] at h
  exact ByteArray.ext (Array.toList_inj.1 h)
theorem prefix_j0 (m : Nat) (a b : Rec) (ha : a.right) (hb : b.right) (oa : a.Ok) (ob : b.Ok) (hm : 1000 ≤ m) :
    seedcornlaw37_RecipePrefix.j0 (m + 1) false a.tool a.i0 a.i1 a.i2 a.i3 a.ps a.ds a.fuel b.tool b.i0 b.i1 b.i2 b.i3 b.ps b.ds b.fuel = some true := by
  have sa := right_small a ha
  obtain ⟨v, hv, hv'⟩ := rsame_of a b (by omega) (by omega) m (by omega)
  have pa : recipe_Put.f a.tool a.i0 a.i1 a.i2 a.i3 a.ps a.ds a.fuel = some (recBytes a, 0) := congrArg some (if_pos ha)
  have pb : recipe_Put.f b.tool b.i0 b.i1 b.i2 b.i3 b.ps b.ds b.fuel = some (recBytes b, 0) := congrArg some (if_pos hb)
  have key : ((recBytes b).extract 0 (recBytes a).size = recBytes a) ↔ a = b := by
    constructor
    · intro h
      refine rec_prefix a b ha hb oa ob ?_
      have h1 := congrArg bytesOf h
      rw [bytesOf_extract, List.drop_zero] at h1
      exact h1
    · rintro rfl
      apply bytesOf_inj
      rw [bytesOf_extract, List.drop_zero, List.take_of_length_le (by rw [bytesOf_length]; exact Nat.le_refl _)]
  have big : ¬ (recBytes a).size ≤ (recBytes b).size → ¬ a = b := fun h e => h (by rw [e]; exact Nat.le_refl _)
  generalize recBytes a = s at pa key big
  generalize recBytes b = t at pb key big
  rw [seedcornlaw37_RecipePrefix.j0, if_neg (by decide), pa, Option.bind_some, pb, Option.bind_some, if_pos rfl, if_pos rfl]
  by_cases h : s.size ≤ t.size
  · rw [if_pos (by show (s.size : Int) ≤ (t.size : Int); omega), if_pos (by show (0 : Int) ≤ (s.size : Int); omega), hv, Option.bind_some]
    refine congrArg some ?_
    have e : ((t.extract 0 ((s.size : Int)).toNat).toList == s.toList) = v := by
      rw [Int.toNat_natCast, Bool.eq_iff_iff, str_eq, key, hv']
    rw [e, beq_self_eq_true]
  · rw [if_neg (by show ¬ (s.size : Int) ≤ (t.size : Int); omega), hv, Option.bind_some]
    have e : v = false := by
      cases v with
      | false => rfl
      | true => exact absurd (hv'.1 rfl) (big h)
    rw [e]
    rfl
theorem pureRecipePrefix (a b : Rec) (oa : a.Ok) (ob : b.Ok) : ∃ k, seedcornlaw37_RecipePrefix.f k a.tool a.i0 a.i1 a.i2 a.i3 a.ps a.ds a.fuel b.tool b.i0 b.i1 b.i2 b.i3 b.ps b.ds b.fuel = some true := by
  obtain ⟨m, hm⟩ : ∃ m : Nat, m = 1000 := ⟨_, rfl⟩
  refine ⟨m + 1, ?_⟩
  have fa : seedcornref37_Few.f a.tool a.i0 a.i1 a.i2 a.i3 a.ps a.ds a.fuel 20 = _ := few_of a 20
  have fb : seedcornref37_Few.f b.tool b.i0 b.i1 b.i2 b.i3 b.ps b.ds b.fuel 20 = _ := few_of b 20
  have ra : seedcornref37_Right.f (m + 1) a.tool a.i0 a.i1 a.i2 a.i3 a.ps a.ds a.fuel = some (decide a.right) := by
    obtain ⟨n, e⟩ : ∃ n, m + 1 = n + 30 := ⟨m - 29, by omega⟩
    rw [e]
    exact rright_of _ _ _ _ _ _ _ _ n
  have rb : seedcornref37_Right.f (m + 1) b.tool b.i0 b.i1 b.i2 b.i3 b.ps b.ds b.fuel = some (decide b.right) := by
    obtain ⟨n, e⟩ : ∃ n, m + 1 = n + 30 := ⟨m - 29, by omega⟩
    rw [e]
    exact rright_of _ _ _ _ _ _ _ _ n
  have jt : seedcornlaw37_RecipePrefix.j0 (m + 1) true a.tool a.i0 a.i1 a.i2 a.i3 a.ps a.ds a.fuel b.tool b.i0 b.i1 b.i2 b.i3 b.ps b.ds b.fuel = some true := by rw [seedcornlaw37_RecipePrefix.j0, if_pos rfl]
  unfold seedcornlaw37_RecipePrefix.f
  rw [awake_at (m + 1) (by omega), Option.bind_some, if_pos rfl, fa, Option.bind_some]
  split
  · rw [fb, Option.bind_some]
    split
    · rw [ra, Option.bind_some]
      split
      · rename_i ha
        rw [rb, Option.bind_some]
        by_cases hb : b.right
        · rw [decide_eq_true hb]
          exact prefix_j0 m a b (of_decide_eq_true ha) hb oa ob (by omega)
        · rw [decide_eq_false hb]
          exact jt
      · exact jt
    · exact jt
  · exact jt
end Go.Proofs.YthimgiphlenjdaaDoor.PI
