/- What the law RecipeApart asks, in plain words. -/
import Derived.Test.YthimgiphlenjdaaDoorPureRecOf
import Derived.Test.YthimgiphlenjdaaDoorPureRecR
import Derived.Test.YthimgiphlenjdaaDoorF14
set_option linter.unusedVariables false
namespace Go.Proofs.YthimgiphlenjdaaDoor.PI
open Go.RowKit Go.Proofs.YthimgiphlenjdaaDoorW.PrintWords HX
theorem awake_at (k : Nat) (hk : 300 ≤ k) : seedcornlaw37_awake.f k = some true := at_rounds (g := fun k => seedcornlaw37_awake.f k) seedcornlaw37_awake.mono hk seedcornlaw37_awake.is
theorem few_of (r : Rec) (n : Nat) : seedcornref37_Few.f r.tool r.i0 r.i1 r.i2 r.i3 r.ps r.ds r.fuel (n : Int) = some (decide (r.ps.length ≤ n ∧ r.ds.length ≤ n)) := by
  unfold seedcornref37_Few.f
  by_cases h : r.ps.length ≤ n
  · rw [if_pos (by omega)]
    refine congrArg some ?_
    rw [decide_eq_decide]
    omega
  · rw [if_neg (by omega), decide_eq_false (fun e => h e.1)]
theorem str_eq (s t : ByteArray) : s.toList = t.toList ↔ s = t := by
  refine ⟨fun h => ?_, fun h => by rw [h]⟩
  rw [Lib.toList_data, Lib.toList_data] at h
  exact ByteArray.ext (Array.toList_inj.1 h)
theorem apart_j1 (m : Nat) (hm : 4000 ≤ m) (a b : Rec) (s t : ByteArray) (hs : s.size ≤ 1000) (ht : t.size ≤ 1000)
    (ha : recipe_Of.f m a.tool a.i0 a.i1 a.i2 a.i3 a.ps a.ds a.fuel = some ((ofP s).a, (ofP s).b, (ofP s).c, (ofP s).d, 0)) (hb : recipe_Of.f m b.tool b.i0 b.i1 b.i2 b.i3 b.ps b.ds b.fuel = some ((ofP t).a, (ofP t).b, (ofP t).c, (ofP t).d, 0)) :
    seedcornlaw37_RecipeApart.j1 (m + 1) s t false a.tool a.i0 a.i1 a.i2 a.i3 a.ps a.ds a.fuel b.tool b.i0 b.i1 b.i2 b.i3 b.ps b.ds b.fuel = some true := by
  rw [seedcornlaw37_RecipeApart.j1, if_neg (by decide), ha, Option.bind_some, hb, Option.bind_some]
  by_cases h : s.toList = t.toList
  · have e := (str_eq s t).1 h
    subst e
    rw [if_pos rfl]
    simp
  · have h1 := of_of3 s hs m (by omega)
    have h2 := of_of3 t ht m (by omega)
    have h3 := of_of3 strRecipe (by decide) m (by omega)
    have q1 := pair_of (ofS s).a (ofS s).b (ofS s).c (ofS s).d (ofS strRecipe).a (ofS strRecipe).b (ofS strRecipe).c (ofS strRecipe).d
    have q2 := pair_of (ofS t).a (ofS t).b (ofS t).c (ofS t).d (ofS strRecipe).a (ofS strRecipe).b (ofS strRecipe).c (ofS strRecipe).d
    have e1 : pairS (ofS s).a (ofS s).b (ofS s).c (ofS s).d (ofS strRecipe).a (ofS strRecipe).b (ofS strRecipe).c (ofS strRecipe).d = ofP s := rfl
    have e2 : pairS (ofS t).a (ofS t).b (ofS t).c (ofS t).d (ofS strRecipe).a (ofS strRecipe).b (ofS strRecipe).c (ofS strRecipe).d = ofP t := rfl
    rw [e1] at q1
    rw [e2] at q2
    clear e1 e2
    generalize ofP s = P at q1 ⊢
    generalize ofP t = R at q2 ⊢
    generalize ofS s = X at h1 q1
    generalize ofS t = Y at h2 q2
    generalize ofS strRecipe = Z at h3 q1 q2
    have h3' : digest_Of.f m (⟨#[114, 101, 99, 105, 112, 101]⟩ : ByteArray) = some (Z.a, Z.b, Z.c, Z.d) := h3
    rw [if_neg h, h1, Option.bind_some, h2, Option.bind_some, h3', Option.bind_some]
    by_cases hc : P.a = R.a ∧ P.b = R.b ∧ P.c = R.c ∧ P.d = R.d
    · obtain ⟨c0, c1, c2, c3⟩ := hc
      rw [if_neg (by simp only []; rw [c0, c1, c2, c3]; simp)]
      by_cases hx : (X.a == Y.a && (X.b == Y.b && (X.c == Y.c && (X.d == Y.d)))) = true
      · rw [if_pos hx]
      · rw [if_neg hx]
        simp only []
        rw [q1, Option.bind_some, q2, Option.bind_some]
        simp only []
        rw [c0, c1, c2, c3]
        simp
    · rw [if_pos]
      simp only [Bool.or_eq_true, Bool.not_eq_true', beq_eq_false_iff_ne, ne_eq]
      omega
theorem apart_j0 (m : Nat) (a b : Rec) (ha : a.right) (hb : b.right) (oa : a.Ok) (ob : b.Ok) (hm : 4000 ≤ m) :
    seedcornlaw37_RecipeApart.j0 (m + 1 + 1) false a.tool a.i0 a.i1 a.i2 a.i3 a.ps a.ds a.fuel b.tool b.i0 b.i1 b.i2 b.i3 b.ps b.ds b.fuel = some true := by
  have sa := right_small a ha
  have za := rec_small a ha
  have zb := rec_small b hb
  obtain ⟨v, hv, hv'⟩ := rsame_of a b (by omega) (by omega) (m + 1) (by omega)
  have pa : recipe_Put.f a.tool a.i0 a.i1 a.i2 a.i3 a.ps a.ds a.fuel = some (recBytes a, 0) := congrArg some (if_pos ha)
  have pb : recipe_Put.f b.tool b.i0 b.i1 b.i2 b.i3 b.ps b.ds b.fuel = some (recBytes b, 0) := congrArg some (if_pos hb)
  have fa : recipe_Of.f m a.tool a.i0 a.i1 a.i2 a.i3 a.ps a.ds a.fuel = some ((ofP (recBytes a)).a, (ofP (recBytes a)).b, (ofP (recBytes a)).c, (ofP (recBytes a)).d, 0) := (pof_of a m hm).trans (congrArg some (if_pos ha))
  have fb : recipe_Of.f m b.tool b.i0 b.i1 b.i2 b.i3 b.ps b.ds b.fuel = some ((ofP (recBytes b)).a, (ofP (recBytes b)).b, (ofP (recBytes b)).c, (ofP (recBytes b)).d, 0) := (pof_of b m hm).trans (congrArg some (if_pos hb))
  have hj := apart_j1 m hm a b (recBytes a) (recBytes b) (by omega) (by omega) fa fb
  have e : ((recBytes a).toList == (recBytes b).toList) = v := by
    rw [Bool.eq_iff_iff, beq_iff_eq, str_eq, hv']
    exact ⟨rec_inj a b ha hb oa ob, fun h => by rw [h]⟩
  clear fa fb
  generalize recBytes a = s at *
  generalize recBytes b = t at *
  rw [seedcornlaw37_RecipeApart.j0, if_neg (by decide), pa, Option.bind_some, pb, Option.bind_some, if_pos rfl, if_pos rfl, hv, Option.bind_some]
  simp only []
  rw [e, bne_self_eq_false]
  exact hj
theorem pureRecipeApart (a b : Rec) (oa : a.Ok) (ob : b.Ok) : ∃ k, seedcornlaw37_RecipeApart.f k a.tool a.i0 a.i1 a.i2 a.i3 a.ps a.ds a.fuel b.tool b.i0 b.i1 b.i2 b.i3 b.ps b.ds b.fuel = some true := by
  obtain ⟨m, hm⟩ : ∃ m : Nat, m = 4000 := ⟨_, rfl⟩
  refine ⟨m + 1 + 1, ?_⟩
  have fa : seedcornref37_Few.f a.tool a.i0 a.i1 a.i2 a.i3 a.ps a.ds a.fuel 20 = _ := few_of a 20
  have fb : seedcornref37_Few.f b.tool b.i0 b.i1 b.i2 b.i3 b.ps b.ds b.fuel 20 = _ := few_of b 20
  have ra : seedcornref37_Right.f (m + 1 + 1) a.tool a.i0 a.i1 a.i2 a.i3 a.ps a.ds a.fuel = some (decide a.right) := by
    obtain ⟨n, e⟩ : ∃ n, m + 1 + 1 = n + 30 := ⟨m - 28, by omega⟩
    rw [e]
    exact rright_of _ _ _ _ _ _ _ _ n
  have rb : seedcornref37_Right.f (m + 1 + 1) b.tool b.i0 b.i1 b.i2 b.i3 b.ps b.ds b.fuel = some (decide b.right) := by
    obtain ⟨n, e⟩ : ∃ n, m + 1 + 1 = n + 30 := ⟨m - 28, by omega⟩
    rw [e]
    exact rright_of _ _ _ _ _ _ _ _ n
  have jt : seedcornlaw37_RecipeApart.j0 (m + 1 + 1) true a.tool a.i0 a.i1 a.i2 a.i3 a.ps a.ds a.fuel b.tool b.i0 b.i1 b.i2 b.i3 b.ps b.ds b.fuel = some true := by rw [seedcornlaw37_RecipeApart.j0, if_pos rfl]
  unfold seedcornlaw37_RecipeApart.f
  rw [awake_at (m + 1 + 1) (by omega), Option.bind_some, if_pos rfl, fa, Option.bind_some]
  split
  · rw [fb, Option.bind_some]
    split
    · rw [ra, Option.bind_some]
      split
      · rename_i ha
        rw [rb, Option.bind_some]
        by_cases hb : b.right
        · rw [decide_eq_true hb]
          exact apart_j0 m a b (of_decide_eq_true ha) hb oa ob (by omega)
        · rw [decide_eq_false hb]
          exact jt
      · exact jt
    · exact jt
  · exact jt
end Go.Proofs.YthimgiphlenjdaaDoor.PI
