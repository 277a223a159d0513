/- The reference's words of a recipe. -/
import Derived.Test.YthimgiphlenjdaaDoorPureRecR
import Derived.Test.YthimgiphlenjdaaDoorGh
set_option linter.unusedVariables false
namespace Go.Proofs.YthimgiphlenjdaaDoor.PI
open Go.RowKit Go.Proofs.YthimgiphlenjdaaDoorW.PrintWords
/-! Words, bytes. -/
theorem rw_loop1 (r : Rec) (hs : r.ds.length ≤ 1000) : ∀ (d i k : Nat) (x : List Int), r.ds.length - i = d → i ≤ r.ds.length → d < k → x.length + 4 * d ≤ 1000000 →
    seedcornref37_Words.l1 k x (i : Int) r.tool r.i0 r.i1 r.i2 r.i3 r.ps r.ds r.fuel = some (x ++ (r.ds.drop i).flatMap dig4)
  | 0, i, k, x, hd, hi, hk, hx => by
    obtain ⟨k, rfl⟩ : ∃ m, k = m + 1 := ⟨k - 1, by omega⟩
    rw [seedcornref37_Words.l1, if_neg (by omega), List.drop_eq_nil_of_le (by omega)]
    simp
  | d + 1, i, k, x, hd, hi, hk, hx => by
    obtain ⟨k, rfl⟩ : ∃ m, k = m + 1 := ⟨k - 1, by omega⟩
    have h1 : i < r.ds.length := by omega
    have HW := Aside0.mk (wsucc i (by omega))
    rw [seedcornref37_Words.l1, if_pos (by omega), if_pos (by omega), Option.bind_some, if_pos (by simp only [List.length_cons, List.length_nil]; omega), HW.out, rdT_at _ i h1,
      rw_loop1 r hs d (i + 1) k _ (by omega) (by omega) (by omega) (by rw [List.length_append]; simp only [List.length_cons, List.length_nil]; omega), List.drop_eq_getElem_cons h1, List.append_assoc]
    rfl
theorem rw_loop0 (r : Rec) (hp : r.ps.length ≤ 1000) (hs : r.ds.length ≤ 1000) : ∀ (d i k : Nat) (x : List Int), r.ps.length - i = d → i ≤ r.ps.length → d + r.ds.length + 1 < k → x.length + d + 1 + 4 * r.ds.length ≤ 1000000 →
    seedcornref37_Words.l0 k x (i : Int) r.tool r.i0 r.i1 r.i2 r.i3 r.ps r.ds r.fuel = some (x ++ ((r.ps.drop i).map m32 ++ (m32 (r.ds.length : Int) :: r.ds.flatMap dig4)))
  | 0, i, k, x, hd, hi, hk, hx => by
    obtain ⟨k, rfl⟩ : ∃ m, k = m + 1 := ⟨k - 1, by omega⟩
    have h := rw_loop1 r hs r.ds.length 0 k (x ++ [(r.ds.length : Int) % 4294967296]) (by omega) (by omega) (by omega) (by rw [List.length_append]; simp only [List.length_cons, List.length_nil]; omega)
    rw [seedcornref37_Words.l0, if_neg (by omega), if_pos (by omega), List.drop_eq_nil_of_le (by omega)]
    refine h.trans ?_
    rw [List.drop_zero]
    simp [m32]
  | d + 1, i, k, x, hd, hi, hk, hx => by
    obtain ⟨k, rfl⟩ : ∃ m, k = m + 1 := ⟨k - 1, by omega⟩
    have h1 : i < r.ps.length := by omega
    have HW := Aside0.mk (wsucc i (by omega))
    rw [seedcornref37_Words.l0, if_pos (by omega), if_pos (by omega), if_pos (by omega), HW.out, rd_at _ i h1,
      rw_loop0 r hp hs d (i + 1) k _ (by omega) (by omega) (by omega) (by rw [List.length_append]; simp only [List.length_cons, List.length_nil]; omega), List.drop_eq_getElem_cons h1, List.append_assoc]
    rfl
theorem rwords (r : Rec) (hp : r.ps.length ≤ 1000) (hs : r.ds.length ≤ 1000) (k : Nat) (hk : r.ps.length + r.ds.length + 2 ≤ k) : seedcornref37_Words.f k r.tool r.i0 r.i1 r.i2 r.i3 r.ps r.ds r.fuel = some r.words := by
  unfold seedcornref37_Words.f
  have h := rw_loop0 r hp hs r.ps.length 0 k [r.tool % 4294967296, r.i0, r.i1, r.i2, r.i3, r.fuel % 4294967296, (r.ps.length : Int) % 4294967296] (by omega) (by omega) (by omega) (by simp only [List.length_cons, List.length_nil]; omega)
  refine h.trans ?_
  rw [List.drop_zero]
  unfold Rec.words
  simp [m32]
end Go.Proofs.YthimgiphlenjdaaDoor.PI
