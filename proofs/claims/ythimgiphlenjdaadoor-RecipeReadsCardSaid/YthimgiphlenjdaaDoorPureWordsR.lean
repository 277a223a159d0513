/- Bytes as words by the reference. -/
import Derived.Test.YthimgiphlenjdaaDoorPureWords
import Derived.Test.YthimgiphlenjdaaDoorF58
set_option linter.unusedVariables false
namespace Go.Proofs.YthimgiphlenjdaaDoor.PI
open Go.RowKit Go.Proofs.YthimgiphlenjdaaDoorW.PrintWords HX
/-! the reference's words -/
theorem horner (a b c d : Int) (ha : 0 ≤ a ∧ a ≤ 255) (hb : 0 ≤ b ∧ b ≤ 255) (hc : 0 ≤ c ∧ c ≤ 255) (hd : 0 ≤ d ∧ d ≤ 255) :
    ((((((0 * 256 % 4294967296 + d % 4294967296) % 4294967296) * 256 % 4294967296 + c % 4294967296) % 4294967296) * 256 % 4294967296 + b % 4294967296) % 4294967296 * 256 % 4294967296 + a % 4294967296) % 4294967296 = le4 a b c d := by
  have e1 : (0 * 256 % 4294967296 + d % 4294967296) % 4294967296 = d := by omega
  rw [e1]
  have e2 : (d * 256 % 4294967296 + c % 4294967296) % 4294967296 = d * 256 + c := by omega
  rw [e2]
  have e3 : ((d * 256 + c) * 256 % 4294967296 + b % 4294967296) % 4294967296 = (d * 256 + c) * 256 + b := by omega
  rw [e3]
  unfold le4
  omega
theorem wi0 (i : Nat) (h : i ≤ 1099511627776) : wrap64 ((i : Int) + 0) = ((i + 0 : Nat) : Int) := by
  rw [w64' _ (by omega) (by omega)]
  omega
theorem wi1 (i : Nat) (h : i ≤ 1099511627776) : wrap64 ((i : Int) + 1) = ((i + 1 : Nat) : Int) := by
  rw [w64' _ (by omega) (by omega)]
  omega
theorem wi2 (i : Nat) (h : i ≤ 1099511627776) : wrap64 ((i : Int) + 2) = ((i + 2 : Nat) : Int) := by
  rw [w64' _ (by omega) (by omega)]
  omega
theorem wi3 (i : Nat) (h : i ≤ 1099511627776) : wrap64 ((i : Int) + 3) = ((i + 3 : Nat) : Int) := by
  rw [w64' _ (by omega) (by omega)]
  omega
theorem wi4 (i : Nat) (h : i ≤ 1099511627776) : wrap64 ((i : Int) + 4) = ((i + 4 : Nat) : Int) := by
  rw [w64' _ (by omega) (by omega)]
  omega
theorem wm3 : wrap64 (3 - 1) = 2 := by rw [w64' _ (by omega) (by omega)]; omega
theorem wm2 : wrap64 (2 - 1) = 1 := by rw [w64' _ (by omega) (by omega)]; omega
theorem wm1 : wrap64 (1 - 1) = 0 := by rw [w64' _ (by omega) (by omega)]; omega
theorem wm0 : wrap64 (0 - 1) = -1 := by rw [w64' _ (by omega) (by omega)]; omega
set_option maxHeartbeats 4000000 in
theorem rwords_step (x0 : ByteArray) (hs : x0.size ≤ 1099511627776) (a b c d : Int) (t : List Int) (i k : Nat) (x4 : List Int) (hb : (bytesOf x0).drop i = a :: b :: c :: d :: t) (hl : x4.length < 35184372088832) :
    seedcornref01_Words.l0 (k + 1 + 1 + 1 + 1 + 1 + 1) x0 x4 (i : Int) = seedcornref01_Words.l0 k x0 (x4 ++ [le4 a b c d]) ((i + 4 : Nat) : Int) := by
  have hlen : (bytesOf x0).length - i = t.length + 4 := by
    have := congrArg List.length hb
    rw [List.length_drop] at this
    exact this
  rw [bytesOf_length] at hlen
  have g : ∀ j : Nat, bt x0 ((i + j : Nat) : Int) = (a :: b :: c :: d :: t).getD j 0 := fun j => by
    rw [bytes_at, ← hb]
    simp [List.getD_eq_getElem?_getD, List.getElem?_drop]
  have f0 : bt x0 ((i + 0 : Nat) : Int) = a := g 0
  have f1 : bt x0 ((i + 1 : Nat) : Int) = b := g 1
  have f2 : bt x0 ((i + 2 : Nat) : Int) = c := g 2
  have f3 : bt x0 ((i + 3 : Nat) : Int) = d := g 3
  have r0 := bt_range x0 ((i + 0 : Nat) : Int)
  have r1 := bt_range x0 ((i + 1 : Nat) : Int)
  have r2 := bt_range x0 ((i + 2 : Nat) : Int)
  have r3 := bt_range x0 ((i + 3 : Nat) : Int)
  rw [f0] at r0
  rw [f1] at r1
  rw [f2] at r2
  rw [f3] at r3
  have F0 := Aside0.mk f0
  have F1 := Aside0.mk f1
  have F2 := Aside0.mk f2
  have F3 := Aside0.mk f3
  clear f0 f1 f2 f3 g
  have q : i ≤ 1099511627776 := by omega
  have H3 := Aside0.mk (wi3 i q)
  have H2 := Aside0.mk (wi2 i q)
  have H1 := Aside0.mk (wi1 i q)
  have H0 := Aside0.mk (wi0 i q)
  rw [seedcornref01_Words.l0, if_pos (by omega), seedcornref01_Words.l1, if_pos (by decide), H3.out, if_pos (by omega), if_pos (by omega), F3.out, wm3, seedcornref01_Words.l1, if_pos (by decide), H2.out, if_pos (by omega), if_pos (by omega), F2.out, wm2,
    seedcornref01_Words.l1, if_pos (by decide), H1.out, if_pos (by omega), if_pos (by omega), F1.out, wm1, seedcornref01_Words.l1, if_pos (by decide), H0.out, if_pos (by omega), if_pos (by omega), F0.out, wm0, seedcornref01_Words.l1, if_neg (by decide), if_pos (by omega), w64' _ (by omega) (by omega)]
  rw [show (i : Int) + 4 = ((i + 4 : Nat) : Int) from rfl]
  rw [horner a b c d r0 r1 r2 r3]
theorem rwords_loop (x0 : ByteArray) (hs : x0.size ≤ 1099511627776) : ∀ (bs : List Int) (i k : Nat) (x4 : List Int), (bytesOf x0).drop i = bs → i ≤ x0.size → bs.length % 4 = 0 → 2 * bs.length + 4 ≤ k → x4.length + bs.length < 35184372088832 →
    seedcornref01_Words.l0 k x0 x4 (i : Int) = some (x4 ++ wordsL bs, 0)
  | [], i, k, x4, hb, hi, hm, hk, hl => by
    obtain ⟨k, rfl⟩ : ∃ m, k = m + 1 := ⟨k - 1, by omega⟩
    have hn : x0.size ≤ i := by rw [← bytesOf_length]; exact List.drop_eq_nil_iff.1 hb
    rw [seedcornref01_Words.l0, if_neg (by omega)]
    simp [wordsL]
  | [_], _, _, _, _, _, hm, _, _ => by simp at hm
  | [_, _], _, _, _, _, _, hm, _, _ => by simp at hm
  | [_, _, _], _, _, _, _, _, hm, _, _ => by simp at hm
  | a :: b :: c :: d :: t, i, k, x4, hb, hi, hm, hk, hl => by
    simp only [List.length_cons] at hm hk hl
    obtain ⟨k, rfl⟩ : ∃ m, k = m + 1 + 1 + 1 + 1 + 1 + 1 := ⟨k - 6, by omega⟩
    have hlen : (bytesOf x0).length - i = t.length + 4 := by
      have := congrArg List.length hb
      rw [List.length_drop] at this
      exact this
    rw [bytesOf_length] at hlen
    rw [rwords_step x0 hs a b c d t i k x4 hb (by omega), rwords_loop x0 hs t (i + 4) k _ (by rw [← List.drop_drop, hb]; rfl) (by omega) (by omega) (by omega) (by rw [List.length_append]; simp only [List.length_cons, List.length_nil]; omega)]
    simp [wordsL]
theorem rwords_of (x0 : ByteArray) (k : Nat) (hm : x0.size % 4 = 0) (hk : 2 * x0.size + 4 ≤ k) (hs : x0.size ≤ 1099511627776) : seedcornref01_Words.f k x0 = some (wordsL (bytesOf x0), 0) := by
  unfold seedcornref01_Words.f
  rw [if_pos (by omega), if_pos (by omega)]
  have h := rwords_loop x0 hs (bytesOf x0) 0 k [] rfl (by omega) (by rw [bytesOf_length]; exact hm) (by rw [bytesOf_length]; exact hk) (by rw [bytesOf_length]; simp; omega)
  simpa using h
end Go.Proofs.YthimgiphlenjdaaDoor.PI
