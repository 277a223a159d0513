/- The digest of a pair is the reference's: what the law DigestPairs asks. -/
import Derived.Test.YthimgiphlenjdaaDoorPureTake
import Derived.Test.YthimgiphlenjdaaDoorF8
set_option linter.unusedVariables false
namespace Go.Proofs.YthimgiphlenjdaaDoor.PI
open Go.RowKit Go.Proofs.YthimgiphlenjdaaDoorW.PrintWords HX
theorem pairs_law (a0 a1 a2 a3 b0 b1 b2 b3 : Int) (X Y : St) (h1 : digest_Pair.f a0 a1 a2 a3 b0 b1 b2 b3 = some (X.a, X.b, X.c, X.d)) (h2 : seedcornref03_Pair.f a0 a1 a2 a3 b0 b1 b2 b3 = some (X.a, X.b, X.c, X.d)) (h3 : digest_Pair.f b0 b1 b2 b3 a0 a1 a2 a3 = some (Y.a, Y.b, Y.c, Y.d)) (h4 : seedcornref03_Pair.f b0 b1 b2 b3 a0 a1 a2 a3 = some (Y.a, Y.b, Y.c, Y.d)) : seedcornlaw03_DigestPairs.f a0 a1 a2 a3 b0 b1 b2 b3 = some true := by
  unfold seedcornlaw03_DigestPairs.f
  rw [seedcornlaw03_awake.is, Option.bind_some, if_pos rfl, h1, Option.bind_some, h2, Option.bind_some, h3, Option.bind_some, h4, Option.bind_some]
  simp
theorem pureDigestPairs (a0 a1 a2 a3 b0 b1 b2 b3 : Int) (ha0 : InR a0) (ha1 : InR a1) (ha2 : InR a2) (ha3 : InR a3) (hb0 : InR b0) (hb1 : InR b1) (hb2 : InR b2) (hb3 : InR b3) : seedcornlaw03_DigestPairs.f a0 a1 a2 a3 b0 b1 b2 b3 = some true :=
  pairs_law a0 a1 a2 a3 b0 b1 b2 b3 (pairS a0 a1 a2 a3 b0 b1 b2 b3) (pairS b0 b1 b2 b3 a0 a1 a2 a3) (pair_of _ _ _ _ _ _ _ _) (rpair_of _ _ _ _ _ _ _ _) (pair_of _ _ _ _ _ _ _ _) (rpair_of _ _ _ _ _ _ _ _)
end Go.Proofs.YthimgiphlenjdaaDoor.PI
