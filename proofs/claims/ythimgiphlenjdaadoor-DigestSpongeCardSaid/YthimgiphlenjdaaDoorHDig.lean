/- Plain words for digests' texts: four bytes, the highest first, as a word. -/
import Derived.Test.YthimgiphlenjdaaDoorHWords
namespace Go.Proofs.YthimgiphlenjdaaDoor.HX
open Go.RowKit Go.Proofs.YthimgiphlenjdaaDoorW.PrintWords
/-- A word, eight places to the left, and a byte. -/
def sh8 (d c : Int) : Int := bits .or .u32 (d * 256 % 4294967296) c
/-- n bytes from place s on, the highest first. -/
def shN (b : ByteArray) (s : Nat) : Nat → Int
  | 0 => 0
  | n + 1 => sh8 (shN b s n) (bt b ((s + n : Nat) : Int))
/-- The m-th word when i bytes of all have been taken in. -/
def pw (b : ByteArray) (m i : Nat) : Int := shN b (4 * m) (min (i - 4 * m) 4)
theorem sh8_zero (c : Int) : bits .or .u32 0 c = sh8 0 c := rfl
end Go.Proofs.YthimgiphlenjdaaDoor.HX
