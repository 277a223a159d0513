/- Blocks taken in: the program's answer and the reference's, in plain words. -/
import Derived.Test.YthimgiphlenjdaaDoorGc
set_option linter.unusedVariables false
namespace Go.Proofs.YthimgiphlenjdaaDoor.PI
open Go.RowKit Go.Proofs.YthimgiphlenjdaaDoorW.PrintWords HX
/-- A state into which a block was taken. -/
def tk (s : St) (b0 b1 b2 b3 : Int) : St := mixS ⟨xor32 s.a b0, xor32 s.b b1, xor32 s.c b2, xor32 s.d b3, s.e, s.f, s.g, s.h⟩
theorem blk_ok (s : St) (h : s.Ok) (b0 b1 b2 b3 : Int) : (St.mk (xor32 s.a b0) (xor32 s.b b1) (xor32 s.c b2) (xor32 s.d b3) s.e s.f s.g s.h).Ok :=
  ⟨xor32_range _ _, xor32_range _ _, xor32_range _ _, xor32_range _ _, h.2.2.2.2.1, h.2.2.2.2.2.1, h.2.2.2.2.2.2.1, h.2.2.2.2.2.2.2⟩
theorem tk_ok (s : St) (h : s.Ok) (b0 b1 b2 b3 : Int) : (tk s b0 b1 b2 b3).Ok := mixN_ok 8 1 _ (blk_ok s h b0 b1 b2 b3)
def st2 : St := ⟨2, 0, 0, 0, 0, 0, 0, 0⟩
def st1 : St := ⟨1, 0, 0, 0, 0, 0, 0, 0⟩
theorem st2_ok : st2.Ok := ⟨by decide, by decide, by decide, by decide, by decide, by decide, by decide, by decide⟩
theorem st1_ok : st1.Ok := ⟨by decide, by decide, by decide, by decide, by decide, by decide, by decide, by decide⟩
/-- The digest of a pair. -/
def pairS (a0 a1 a2 a3 b0 b1 b2 b3 : Int) : St := tk (tk st2 a0 a1 a2 a3) b0 b1 b2 b3
theorem pair_of (a0 a1 a2 a3 b0 b1 b2 b3 : Int) : digest_Pair.f a0 a1 a2 a3 b0 b1 b2 b3 = some ((pairS a0 a1 a2 a3 b0 b1 b2 b3).a, (pairS a0 a1 a2 a3 b0 b1 b2 b3).b, (pairS a0 a1 a2 a3 b0 b1 b2 b3).c, (pairS a0 a1 a2 a3 b0 b1 b2 b3).d) := by
  have e : spongeL [a0, a1, a2, a3, b0, b1, b2, b3] ⟨2, 0, 0, 0, 0, 0, 0, 0⟩ = pairS a0 a1 a2 a3 b0 b1 b2 b3 := by
    unfold pairS tk st2
    rw [spongeL, spongeL, spongeL_short _ _ (by decide)]
  unfold digest_Pair.f digest_take.f
  rw [if_pos (show InR 2 by decide), e]
end Go.Proofs.YthimgiphlenjdaaDoor.PI
