/- What the law DigestChain asks: shown in its walk; here it is named. -/
import Derived.Test.YthimgiphlenjdaaDoorF9
namespace Go.Proofs.YthimgiphlenjdaaDoor.PI
open Go.RowKit HX
theorem pureDigestChain (a0 a1 a2 a3 b0 b1 b2 b3 : Int) (ha0 : InR a0) (ha1 : InR a1) (ha2 : InR a2) (ha3 : InR a3) (hb0 : InR b0) (hb1 : InR b1) (hb2 : InR b2) (hb3 : InR b3) : seedcornlaw03_DigestChain.f a0 a1 a2 a3 b0 b1 b2 b3 = some true :=
  if_pos ⟨ha0, ha1, ha2, ha3, hb0, hb1, hb2, hb3⟩
end Go.Proofs.YthimgiphlenjdaaDoor.PI
