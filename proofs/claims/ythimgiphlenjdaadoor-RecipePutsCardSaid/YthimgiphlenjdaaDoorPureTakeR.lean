/- Blocks taken in by the reference. -/
import Derived.Test.YthimgiphlenjdaaDoorPureTake
import Derived.Test.YthimgiphlenjdaaDoorGd
set_option linter.unusedVariables false
namespace Go.Proofs.YthimgiphlenjdaaDoor.PI
open Go.RowKit Go.Proofs.YthimgiphlenjdaaDoorW.PrintWords HX
theorem rtake_of (s : St) (h : s.Ok) (b0 b1 b2 b3 : Int) : seedcornref03_take.f s.a s.b s.c s.d s.e s.f s.g s.h b0 b1 b2 b3 = some (tk s b0 b1 b2 b3).tup := by
  unfold seedcornref03_take.f seedcornref03_Mix.f
  exact if_pos (blk_ok s h b0 b1 b2 b3)
theorem rtake2 (b0 b1 b2 b3 : Int) : seedcornref03_take.f 2 0 0 0 0 0 0 0 b0 b1 b2 b3 = some (tk st2 b0 b1 b2 b3).tup := by
  unfold seedcornref03_take.f seedcornref03_Mix.f
  rw [if_pos (show (St.mk (bits .xor .u32 2 b0) (bits .xor .u32 0 b1) (bits .xor .u32 0 b2) (bits .xor .u32 0 b3) 0 0 0 0).Ok from blk_ok st2 st2_ok b0 b1 b2 b3)]
  unfold tk st2 xor32
  rfl
theorem rpair_of (a0 a1 a2 a3 b0 b1 b2 b3 : Int) : seedcornref03_Pair.f a0 a1 a2 a3 b0 b1 b2 b3 = some ((pairS a0 a1 a2 a3 b0 b1 b2 b3).a, (pairS a0 a1 a2 a3 b0 b1 b2 b3).b, (pairS a0 a1 a2 a3 b0 b1 b2 b3).c, (pairS a0 a1 a2 a3 b0 b1 b2 b3).d) := by
  have h1 := rtake2 a0 a1 a2 a3
  have h2 := rtake_of (tk st2 a0 a1 a2 a3) (tk_ok st2 st2_ok a0 a1 a2 a3) b0 b1 b2 b3
  have e : pairS a0 a1 a2 a3 b0 b1 b2 b3 = tk (tk st2 a0 a1 a2 a3) b0 b1 b2 b3 := rfl
  rw [e]
  generalize tk (tk st2 a0 a1 a2 a3) b0 b1 b2 b3 = Y at h2 ⊢
  generalize tk st2 a0 a1 a2 a3 = X at h1 h2 ⊢
  unfold seedcornref03_Pair.f
  rw [h1, Option.bind_some]
  unfold St.tup at *
  simp only []
  rw [h2, Option.bind_some]
end Go.Proofs.YthimgiphlenjdaaDoor.PI
