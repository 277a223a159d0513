/- What the law DigestSponge asks: its contract answers true at every string. -/
import Derived.Test.YthimgiphlenjdaaDoorF11
namespace Go.Proofs.YthimgiphlenjdaaDoor.PI
theorem pureDigestSponge (s : ByteArray) : seedcornlaw03_DigestSponge.f s = some true := rfl
end Go.Proofs.YthimgiphlenjdaaDoor.PI
