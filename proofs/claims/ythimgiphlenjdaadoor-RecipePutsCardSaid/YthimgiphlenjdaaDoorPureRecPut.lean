/- The reference's bytes and digest of a recipe are the program's. -/
import Derived.Test.YthimgiphlenjdaaDoorPureRecOf
import Derived.Test.YthimgiphlenjdaaDoorPureRecW
import Derived.Test.YthimgiphlenjdaaDoorPureOfR3
import Derived.Test.YthimgiphlenjdaaDoorF35
import Derived.Test.YthimgiphlenjdaaDoorF37
set_option linter.unusedVariables false
namespace Go.Proofs.YthimgiphlenjdaaDoor.PI
open Go.RowKit Go.Proofs.YthimgiphlenjdaaDoorW.PrintWords HX
theorem ww1 : wrap64 (0 + 1) = 1 := by unfold wrap64; omega
theorem ww2 : wrap64 (1 + 1) = 2 := by unfold wrap64; omega
theorem ww3 : wrap64 (2 + 1) = 3 := by unfold wrap64; omega
theorem ww4 : wrap64 (3 + 1) = 4 := by unfold wrap64; omega
theorem tm (x : Int) (h : 0 ≤ x) : Int.tmod x 256 % 256 = x % 256 := by rw [Int.tmod_eq_emod_of_nonneg h]; omega
theorem td (x : Int) (h : 0 ≤ x) (h1 : x < 4294967296) : Int.tdiv x 256 % 4294967296 = x / 256 := by rw [Int.tdiv_eq_ediv_of_nonneg h]; omega
theorem rb_word (l x3 : List Int) (i v : Int) (k : Nat) (hv : W32 v) (hx : x3.length ≤ 1000000) :
    seedcornref01_Bytes.l1 (k + 1 + 1 + 1 + 1 + 1) l x3 i v 0 = seedcornref01_Bytes.l0 k l (x3 ++ [v % 256, v / 256 % 256, v / 65536 % 256, v / 16777216 % 256]) (wrap64 (i + 1)) := by
  obtain ⟨h0, h1⟩ := hv
  rw [seedcornref01_Bytes.l1, if_pos (by decide), if_pos (by omega), ww1, tm v h0, td v h0 h1]
  rw [seedcornref01_Bytes.l1, if_pos (by decide), if_pos (by rw [List.length_append]; simp only [List.length_cons, List.length_nil]; omega), ww2, tm (v / 256) (by omega), td (v / 256) (by omega) (by omega)]
  rw [seedcornref01_Bytes.l1, if_pos (by decide), if_pos (by simp only [List.length_append, List.length_cons, List.length_nil]; omega), ww3, tm (v / 256 / 256) (by omega), td (v / 256 / 256) (by omega) (by omega)]
  rw [seedcornref01_Bytes.l1, if_pos (by decide), if_pos (by simp only [List.length_append, List.length_cons, List.length_nil]; omega), ww4, tm (v / 256 / 256 / 256) (by omega)]
  rw [seedcornref01_Bytes.l1, if_neg (by decide), show v / 256 / 256 / 256 = v / 16777216 by omega, show v / 256 / 256 = v / 65536 by omega]
  simp
theorem rb_loop (l : List Int) (hl : l.length ≤ 100000) (hw : ∀ x ∈ l, W32 x) : ∀ (d i k : Nat) (x3 : List Int), l.length - i = d → i ≤ l.length → 6 * d < k → x3.length ≤ 4 * i →
    seedcornref01_Bytes.l0 k l x3 (i : Int) = some (strOfNums (x3 ++ bytesL (l.drop i)))
  | 0, i, k, x3, hd, hi, hk, hx => by
    obtain ⟨k, rfl⟩ : ∃ m, k = m + 1 := ⟨k - 1, by omega⟩
    rw [seedcornref01_Bytes.l0, if_neg (by omega), List.drop_eq_nil_of_le (by omega)]
    simp [bytesL]
  | d + 1, i, k, x3, hd, hi, hk, hx => by
    obtain ⟨k, rfl⟩ : ∃ m, k = m + 1 + 1 + 1 + 1 + 1 + 1 := ⟨k - 6, by omega⟩
    have h1 : i < l.length := by omega
    have HW := Aside0.mk (wsucc i (by omega))
    rw [seedcornref01_Bytes.l0, if_pos (by omega), if_pos (by omega), rd_at l i h1, rb_word l x3 i l[i] k (hw _ (List.getElem_mem h1)) (by omega), HW.out,
      rb_loop l hl hw d (i + 1) k _ (by omega) (by omega) (by omega) (by rw [List.length_append]; simp only [List.length_cons, List.length_nil]; omega), List.drop_eq_getElem_cons h1, List.append_assoc]
    rfl
theorem rbytes_f (l : List Int) (hl : l.length ≤ 100000) (hw : ∀ x ∈ l, W32 x) (k : Nat) (hk : 6 * l.length < k) : seedcornref01_Bytes.f k l = some (strOfNums (bytesL l)) := by
  unfold seedcornref01_Bytes.f
  have h := rb_loop l hl hw l.length 0 k [] (by omega) (by omega) hk (by simp)
  simpa using h
theorem rput_of (r : Rec) (hok : r.Ok) (k : Nat) (hk : 1000 ≤ k) : seedcornref37_Put.f k r.tool r.i0 r.i1 r.i2 r.i3 r.ps r.ds r.fuel = some (putS r) := by
  obtain ⟨m, rfl⟩ : ∃ m, k = m + 30 := ⟨k - 30, by omega⟩
  have hr := rright_of r.tool r.i0 r.i1 r.i2 r.i3 r.ps r.ds r.fuel m
  unfold seedcornref37_Put.f putS
  rw [hr, Option.bind_some]
  by_cases h : r.right
  · have hs := right_small r h
    have hwl := words_length r
    rw [if_pos (decide_eq_true h), if_pos h, rwords r (by omega) (by omega) (m + 30) (by omega), Option.bind_some, rbytes_f r.words (by omega) (words_ok r hok) (m + 30) (by omega), Option.bind_some,
      if_pos (by rw [strOfNums_size, bytesL_length]; omega), recBytes_eq]
  · rw [if_neg (by rw [decide_eq_true_iff]; exact h), if_neg h]
theorem rof_rec (r : Rec) (hok : r.Ok) (k : Nat) (hk : 4000 ≤ k) : seedcornref37_Of.f k r.tool r.i0 r.i1 r.i2 r.i3 r.ps r.ds r.fuel = some (ofT r) := by
  unfold seedcornref37_Of.f
  rw [rput_of r hok k (by omega), Option.bind_some]
  unfold putS ofT
  by_cases h : r.right
  · have hs := rec_small r h
    have h1 := rof_of3 (recBytes r) (by omega) k (by omega)
    have h2 := rof_of3 strRecipe (by decide) k (by omega)
    have h3 := rpair_of (ofS (recBytes r)).a (ofS (recBytes r)).b (ofS (recBytes r)).c (ofS (recBytes r)).d (ofS strRecipe).a (ofS strRecipe).b (ofS strRecipe).c (ofS strRecipe).d
    unfold ofP
    generalize ofS (recBytes r) = X at h1 h3 ⊢
    generalize ofS strRecipe = Y at h2 h3 ⊢
    generalize pairS X.a X.b X.c X.d Y.a Y.b Y.c Y.d = Z at h3 ⊢
    rw [if_pos h, if_pos h, if_pos rfl]
    show (seedcornref03_Of.f k (recBytes r)).bind _ = _
    rw [h1, Option.bind_some]
    show (seedcornref03_Of.f k strRecipe).bind _ = _
    rw [h2, Option.bind_some]
    show (seedcornref03_Pair.f X.a X.b X.c X.d Y.a Y.b Y.c Y.d).bind _ = _
    rw [h3, Option.bind_some]
  · rw [if_neg h, if_neg h, if_neg (by decide)]
end Go.Proofs.YthimgiphlenjdaaDoor.PI
