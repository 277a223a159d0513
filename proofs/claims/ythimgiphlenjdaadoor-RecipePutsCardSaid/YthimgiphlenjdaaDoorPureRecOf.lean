/- The digest of a recipe, by the program. -/
import Derived.Test.YthimgiphlenjdaaDoorPureRec
import Derived.Test.YthimgiphlenjdaaDoorPureOf3
import Derived.Test.YthimgiphlenjdaaDoorGi
set_option linter.unusedVariables false
namespace Go.Proofs.YthimgiphlenjdaaDoor.PI
open Go.RowKit Go.Proofs.YthimgiphlenjdaaDoorW.PrintWords HX
/-- The digest of a recipe. -/
def strRecipe : ByteArray := ⟨#[114, 101, 99, 105, 112, 101]⟩
def ofP (s : ByteArray) : St := pairS (ofS s).a (ofS s).b (ofS s).c (ofS s).d (ofS strRecipe).a (ofS strRecipe).b (ofS strRecipe).c (ofS strRecipe).d
def ofT (r : Rec) : Int × Int × Int × Int × Int := if r.right then ((ofP (recBytes r)).a, (ofP (recBytes r)).b, (ofP (recBytes r)).c, (ofP (recBytes r)).d, 0) else (0, 0, 0, 0, 1)
theorem pof_of (r : Rec) (k : Nat) (hk : 4000 ≤ k) : recipe_Of.f k r.tool r.i0 r.i1 r.i2 r.i3 r.ps r.ds r.fuel = some (ofT r) := by
  have hp : recipe_Put.f r.tool r.i0 r.i1 r.i2 r.i3 r.ps r.ds r.fuel = some (putS r) := rfl
  unfold recipe_Of.f
  rw [hp, Option.bind_some]
  unfold putS ofT
  by_cases h : r.right
  · have hs := rec_small r h
    have h1 := of_of3 (recBytes r) (by omega) k (by omega)
    have h2 := of_of3 strRecipe (by decide) k (by omega)
    have h3 := pair_of (ofS (recBytes r)).a (ofS (recBytes r)).b (ofS (recBytes r)).c (ofS (recBytes r)).d (ofS strRecipe).a (ofS strRecipe).b (ofS strRecipe).c (ofS strRecipe).d
    unfold ofP
    generalize ofS (recBytes r) = X at h1 h3 ⊢
    generalize ofS strRecipe = Y at h2 h3 ⊢
    generalize pairS X.a X.b X.c X.d Y.a Y.b Y.c Y.d = Z at h3 ⊢
    rw [if_pos h, if_pos h, if_pos rfl]
    show (digest_Of.f k (recBytes r)).bind _ = _
    rw [h1, Option.bind_some]
    show (digest_Of.f k strRecipe).bind _ = _
    rw [h2, Option.bind_some]
    show (digest_Pair.f X.a X.b X.c X.d Y.a Y.b Y.c Y.d).bind _ = _
    rw [h3, Option.bind_some]
  · rw [if_neg h, if_neg h, if_neg (by decide)]
end Go.Proofs.YthimgiphlenjdaaDoor.PI
