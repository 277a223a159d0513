/- Blocks of bytes as words, one byte after the other; a block taken in. -/
import Derived.Test.YthimgiphlenjdaaDoorPureOf
import Derived.Test.YthimgiphlenjdaaDoorF30
set_option linter.unusedVariables false
namespace Go.Proofs.YthimgiphlenjdaaDoor.PI
open Go.RowKit Go.Proofs.YthimgiphlenjdaaDoorW.PrintWords HX
/-- All bytes that are taken in. -/
def spB (s : ByteArray) : List Int := padL s ++ [(s.size : Int) % 256, (s.size : Int) / 256, 0, 0, 0, 0, 0, 0]
/-- A word into which one byte more was taken, at place c. -/
def orw (p x c : Int) : Int := bits .or .u32 p (IntKind.u32.wrap (IntKind.u32.wrap x * 2 ^ min (IntKind.u64.wrap (8 * IntKind.u64.wrap c)).toNat 32))
theorem spB_of (s : ByteArray) (hs : s.size ≤ 300) : spongeL (wordsL (spB s)) st1 = ofS s := by
  have hm := zn_mod s.size
  have hl := padL_length s
  unfold spB ofS
  rw [wordsL_append _ _ (by omega)]
  refine congrArg (fun l => spongeL (wordsL (padL s) ++ l) st1) ?_
  simp only [wordsL, le4]
  congr 1
  omega
theorem spB_length (s : ByteArray) : (spB s).length = s.size + 1 + zn s.size + 8 := by
  unfold spB
  rw [List.length_append, padL_length]
  rfl
theorem spB_byte (s : ByteArray) (hs : s.size ≤ 300) : ∀ x ∈ spB s, 0 ≤ x ∧ x ≤ 255 := by
  intro x hx
  unfold spB padL at hx
  rw [List.mem_append, List.mem_append] at hx
  rcases hx with (hx | hx) | hx
  · unfold bytesOf at hx
    obtain ⟨b, _, rfl⟩ := List.mem_map.1 hx
    have := b.toNat_lt
    omega
  · rcases List.mem_cons.1 hx with rfl | hx
    · omega
    · have := (List.mem_replicate.1 hx).2
      omega
  · simp only [List.mem_cons, List.not_mem_nil, or_false] at hx
    rcases hx with rfl | rfl | rfl | rfl | rfl | rfl | rfl | rfl <;> omega
theorem rd_byte (s : ByteArray) (hs : s.size ≤ 300) (i : Nat) (hi : i < (spB s).length) : 0 ≤ rd (spB s) (i : Int) ∧ rd (spB s) (i : Int) ≤ 255 := by
  unfold rd
  rw [Int.toNat_natCast, List.getD_eq_getElem?_getD, List.getElem?_eq_getElem hi]
  exact spB_byte s hs _ (List.getElem_mem hi)
theorem drop_rd (l : List Int) (i : Nat) (h : i < l.length) : l.drop i = rd l (i : Int) :: l.drop (i + 1) := by
  rw [List.drop_eq_getElem_cons h]
  unfold rd
  rw [Int.toNat_natCast, List.getD_eq_getElem?_getD, List.getElem?_eq_getElem h]
  rfl
theorem orw_form (p x : Int) : orw p x 0 = bits .or .u32 p (x % 4294967296 * 1 % 4294967296) ∧ orw p x 1 = bits .or .u32 p (x % 4294967296 * 256 % 4294967296) ∧ orw p x 2 = bits .or .u32 p (x % 4294967296 * 65536 % 4294967296) ∧ orw p x 3 = bits .or .u32 p (x % 4294967296 * 16777216 % 4294967296) := by
  unfold orw
  rw [show min (IntKind.u64.wrap (8 * IntKind.u64.wrap 0)).toNat 32 = 0 by decide, show min (IntKind.u64.wrap (8 * IntKind.u64.wrap 1)).toNat 32 = 8 by decide, show min (IntKind.u64.wrap (8 * IntKind.u64.wrap 2)).toNat 32 = 16 by decide, show min (IntKind.u64.wrap (8 * IntKind.u64.wrap 3)).toNat 32 = 24 by decide]
  rw [show (2 : Int) ^ 0 = 1 by decide, show (2 : Int) ^ 8 = 256 by decide, show (2 : Int) ^ 16 = 65536 by decide, show (2 : Int) ^ 24 = 16777216 by decide]
  simp only [IntKind.wrap_u32]
  exact ⟨trivial, trivial, trivial, trivial⟩
theorem or_zero (a : Int) (ha : 0 ≤ a ∧ a ≤ 255) : bits .or .u32 0 (a % 4294967296 * 1 % 4294967296) = a % 4294967296 := by
  obtain ⟨A, rfl⟩ := Int.eq_ofNat_of_zero_le ha.1
  rw [show (A : Int) % 4294967296 * 1 % 4294967296 = (A : Int) by omega, show (A : Int) % 4294967296 = (A : Int) by omega]
  have h := u32_or_nat 0 A (by omega) (by omega)
  rw [Nat.zero_or] at h
  exact h
theorem orw_le (a b c d : Int) (ha : 0 ≤ a ∧ a ≤ 255) (hb : 0 ≤ b ∧ b ≤ 255) (hc : 0 ≤ c ∧ c ≤ 255) (hd : 0 ≤ d ∧ d ≤ 255) : orw (orw (orw (orw 0 a 0) b 1) c 2) d 3 = le4 a b c d := by
  rw [(orw_form _ d).2.2.2, (orw_form _ c).2.2.1, (orw_form _ b).2.1, (orw_form _ a).1, or_zero a ha]
  exact or_le a b c d ha hb hc hd
theorem orw_at (s : ByteArray) (hs : s.size ≤ 300) (j : Nat) (hj : j + 4 ≤ (spB s).length) :
    orw (orw (orw (orw 0 (rd (spB s) ((j : Nat) : Int)) 0) (rd (spB s) ((j + 1 : Nat) : Int)) 1) (rd (spB s) ((j + 2 : Nat) : Int)) 2) (rd (spB s) ((j + 3 : Nat) : Int)) 3 = le4 (rd (spB s) ((j : Nat) : Int)) (rd (spB s) ((j + 1 : Nat) : Int)) (rd (spB s) ((j + 2 : Nat) : Int)) (rd (spB s) ((j + 3 : Nat) : Int)) :=
  orw_le _ _ _ _ (rd_byte s hs j (by omega)) (rd_byte s hs (j + 1) (by omega)) (rd_byte s hs (j + 2) (by omega)) (rd_byte s hs (j + 3) (by omega))
theorem words_at (l : List Int) (j : Nat) (hj : j + 4 ≤ l.length) : wordsL (l.drop j) = le4 (rd l ((j : Nat) : Int)) (rd l ((j + 1 : Nat) : Int)) (rd l ((j + 2 : Nat) : Int)) (rd l ((j + 3 : Nat) : Int)) :: wordsL (l.drop (j + 4)) := by
  rw [drop_rd l j (by omega), drop_rd l (j + 1) (by omega), drop_rd l (j + 1 + 1) (by omega), drop_rd l (j + 1 + 1 + 1) (by omega)]
  rfl
/-- One block more. -/
theorem sp_step (s : ByteArray) (hs : s.size ≤ 300) (i : Nat) (st : St) (hi : i + 16 ≤ (spB s).length) (h : spongeL (wordsL ((spB s).drop i)) st = ofS s) :
    spongeL (wordsL ((spB s).drop (i + 16))) (tk st
      (orw (orw (orw (orw 0 (rd (spB s) ((i : Nat) : Int)) 0) (rd (spB s) ((i + 1 : Nat) : Int)) 1) (rd (spB s) ((i + 2 : Nat) : Int)) 2) (rd (spB s) ((i + 3 : Nat) : Int)) 3)
      (orw (orw (orw (orw 0 (rd (spB s) ((i + 4 : Nat) : Int)) 0) (rd (spB s) ((i + 5 : Nat) : Int)) 1) (rd (spB s) ((i + 6 : Nat) : Int)) 2) (rd (spB s) ((i + 7 : Nat) : Int)) 3)
      (orw (orw (orw (orw 0 (rd (spB s) ((i + 8 : Nat) : Int)) 0) (rd (spB s) ((i + 9 : Nat) : Int)) 1) (rd (spB s) ((i + 10 : Nat) : Int)) 2) (rd (spB s) ((i + 11 : Nat) : Int)) 3)
      (orw (orw (orw (orw 0 (rd (spB s) ((i + 12 : Nat) : Int)) 0) (rd (spB s) ((i + 13 : Nat) : Int)) 1) (rd (spB s) ((i + 14 : Nat) : Int)) 2) (rd (spB s) ((i + 15 : Nat) : Int)) 3)) = ofS s := by
  rw [orw_at s hs i (by omega), orw_at s hs (i + 4) (by omega), orw_at s hs (i + 8) (by omega), orw_at s hs (i + 12) (by omega)]
  rw [words_at _ i (by omega), words_at _ (i + 4) (by omega), words_at _ (i + 4 + 4) (by omega), words_at _ (i + 4 + 4 + 4) (by omega)] at h
  exact h
theorem sp_end (s : ByteArray) (i : Nat) (st : St) (hi : i = (spB s).length) (h : spongeL (wordsL ((spB s).drop i)) st = ofS s) : st = ofS s := by
  subst hi
  rw [List.drop_length] at h
  exact h
theorem took_at (s : St) (h : s.Ok) (b0 b1 b2 b3 : Int) : seedcornlaw03_took.f s.a s.b s.c s.d s.e s.f s.g s.h b0 b1 b2 b3 = some ((tk s b0 b1 b2 b3).a, (tk s b0 b1 b2 b3).b, (tk s b0 b1 b2 b3).c, (tk s b0 b1 b2 b3).d, (tk s b0 b1 b2 b3).e, (tk s b0 b1 b2 b3).f, (tk s b0 b1 b2 b3).g, (tk s b0 b1 b2 b3).h) := by
  unfold seedcornlaw03_took.f digest_Mix.f
  exact if_pos (blk_ok s h b0 b1 b2 b3)
end Go.Proofs.YthimgiphlenjdaaDoor.PI
