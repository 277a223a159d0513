/- What the law RecipeSwaps asks of what comes in. (That it answers true is shown in its walk.) -/
import Derived.Test.YthimgiphlenjdaaDoorF17
set_option linter.unusedVariables false
namespace Go.Proofs.YthimgiphlenjdaaDoor.PI
open Go.RowKit Go.Proofs.YthimgiphlenjdaaDoorW.PrintWords HX
theorem pureRecipeSwaps (l0 : List S24) (l1 : List Int) (x y : Int) (hok : ∀ d ∈ l0, DigOk d) (hx : 0 ≤ x ∧ x ≤ 255) (hy : 0 ≤ y ∧ y ≤ 255) : SwOk l0 x y true := ⟨rfl, hok, hx, hy⟩
end Go.Proofs.YthimgiphlenjdaaDoor.PI
