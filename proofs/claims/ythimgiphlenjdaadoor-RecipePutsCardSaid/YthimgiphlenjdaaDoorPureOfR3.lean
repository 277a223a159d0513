/- The digest of bytes, a thousand at most, by the reference. -/
import Derived.Test.YthimgiphlenjdaaDoorPureOf
import Derived.Test.YthimgiphlenjdaaDoorPureWordsR
import Derived.Test.YthimgiphlenjdaaDoorPureTakeR
set_option linter.unusedVariables false
namespace Go.Proofs.YthimgiphlenjdaaDoor.PI
open Go.RowKit Go.Proofs.YthimgiphlenjdaaDoorW.PrintWords HX
theorem sponge_loop3 (L : List Int) (hL : L.length ≤ 1000000) : ∀ (ls : List Int) (i k : Nat) (s : St), s.Ok → L.drop i = ls → i ≤ L.length → ls.length % 4 = 0 → ls.length + 2 ≤ k →
    seedcornref03_Of.l1 k L (i : Int) s.a s.b s.c s.d s.e s.f s.g s.h = some ((spongeL ls s).a, (spongeL ls s).b, (spongeL ls s).c, (spongeL ls s).d)
  | [], i, k, s, hok, hd, hi, hm, hk => by
    obtain ⟨k, rfl⟩ : ∃ m, k = m + 1 := ⟨k - 1, by omega⟩
    have hn : L.length ≤ i := List.drop_eq_nil_iff.1 hd
    rw [seedcornref03_Of.l1, if_neg (by omega)]
    rfl
  | [_], _, _, _, _, _, _, hm, _ => by simp at hm
  | [_, _], _, _, _, _, _, _, hm, _ => by simp at hm
  | [_, _, _], _, _, _, _, _, _, hm, _ => by simp at hm
  | a :: b :: c :: d :: t, i, k, s, hok, hd, hi, hm, hk => by
    obtain ⟨k, rfl⟩ : ∃ m, k = m + 1 := ⟨k - 1, by omega⟩
    simp only [List.length_cons] at hm hk
    have hlen : L.length - i = t.length + 4 := by
      have := congrArg List.length hd
      rw [List.length_drop] at this
      exact this
    have g : ∀ j : Nat, rd L ((i + j : Nat) : Int) = (a :: b :: c :: d :: t).getD j 0 := fun j => by
      rw [← hd]
      unfold rd
      rw [Int.toNat_natCast]
      simp [List.getD_eq_getElem?_getD, List.getElem?_drop]
    have f0 : rd L (i : Int) = a := g 0
    have f1 : rd L ((i + 1 : Nat) : Int) = b := g 1
    have f2 : rd L ((i + 2 : Nat) : Int) = c := g 2
    have f3 : rd L ((i + 3 : Nat) : Int) = d := g 3
    have F0 := Aside0.mk f0
    have F1 := Aside0.mk f1
    have F2 := Aside0.mk f2
    have F3 := Aside0.mk f3
    clear f0 f1 f2 f3 g
    have q : i ≤ 1099511627776 := by omega
    have H3 := Aside0.mk (wi3 i q)
    have H2 := Aside0.mk (wi2 i q)
    have H1 := Aside0.mk (wi1 i q)
    have H4 := Aside0.mk (wi4 i q)
    have ih := sponge_loop3 L hL t (i + 4) k (tk s a b c d) (tk_ok s hok a b c d) (by rw [← List.drop_drop, hd]; rfl) (by omega) (by omega) (by omega)
    have ht := rtake_of s hok a b c d
    have es : spongeL (a :: b :: c :: d :: t) s = spongeL t (tk s a b c d) := rfl
    rw [es]
    generalize spongeL t (tk s a b c d) = Z at ih ⊢
    generalize tk s a b c d = X at ih ht
    rw [seedcornref03_Of.l1, if_pos (by omega), if_pos (by omega), H1.out, H2.out, H3.out, H4.out, if_pos (by omega), if_pos (by omega), if_pos (by omega), if_pos (by omega), if_pos (by omega), if_pos (by omega), F0.out, F1.out, F2.out, F3.out, ht, Option.bind_some]
    exact ih
theorem rpad_loop3 (n : Nat) (hn : n ≤ 1000) : ∀ (j : Nat) (x0 : ByteArray) (k : Nat), j < 16 → (x0.size + j) % 16 = 8 → x0.size + j ≤ 1100 → 3000 + j ≤ k →
    seedcornref03_Of.l0 k x0 (n : Int) = some ((spongeL (wordsL (bytesOf x0 ++ List.replicate j 0) ++ [(n : Int), 0]) st1).a, (spongeL (wordsL (bytesOf x0 ++ List.replicate j 0) ++ [(n : Int), 0]) st1).b, (spongeL (wordsL (bytesOf x0 ++ List.replicate j 0) ++ [(n : Int), 0]) st1).c, (spongeL (wordsL (bytesOf x0 ++ List.replicate j 0) ++ [(n : Int), 0]) st1).d)
  | 0, x0, k, hj, hm, hs, hk => by
    obtain ⟨k, rfl⟩ : ∃ m, k = m + 1 := ⟨k - 1, by omega⟩
    have hwl := wordsL_length (bytesOf x0) (by rw [bytesOf_length]; omega)
    rw [bytesOf_length] at hwl
    have hsp := sponge_loop3 (wordsL (bytesOf x0) ++ [(n : Int), 0]) (by rw [List.length_append]; show _ + 2 ≤ _; omega) (wordsL (bytesOf x0) ++ [(n : Int), 0]) 0 k st1 st1_ok rfl (by omega) (by rw [List.length_append]; show (_ + 2) % 4 = 0; omega) (by rw [List.length_append]; show _ + 2 + 2 ≤ _; omega)
    rw [List.replicate_zero, List.append_nil]
    generalize spongeL (wordsL (bytesOf x0) ++ [(n : Int), 0]) st1 = Z at hsp ⊢
    have e1 : (n : Int) % 4294967296 = (n : Int) := by omega
    have e2 : (n : Int) / 4294967296 % 4294967296 = 0 := by omega
    rw [seedcornref03_Of.l0, if_pos (by omega), rwords_of x0 k (by omega) (by omega) (by omega), Option.bind_some, Option.bind_some, e1, e2]
    rw [if_pos (by show (wordsL (bytesOf x0)).length + 2 < _; omega)]
    exact hsp
  | j + 1, x0, k, hj, hm, hs, hk => by
    obtain ⟨k, rfl⟩ : ∃ m, k = m + 1 := ⟨k - 1, by omega⟩
    have hsz : (x0 ++ (⟨#[0]⟩ : ByteArray)).size = x0.size + 1 := by rw [ByteArray.size_append]; rfl
    have ih := rpad_loop3 n hn j (x0 ++ (⟨#[0]⟩ : ByteArray)) k (by omega) (by rw [hsz]; omega) (by rw [hsz]; omega) (by omega)
    have eb : bytesOf (x0 ++ (⟨#[0]⟩ : ByteArray)) ++ List.replicate j 0 = bytesOf x0 ++ List.replicate (j + 1) 0 := by
      rw [bytesOf_app, List.append_assoc]
      rfl
    rw [eb] at ih
    rw [seedcornref03_Of.l0, if_neg (by omega), if_pos (by omega)]
    exact ih
theorem rof_of3 (s : ByteArray) (hs : s.size ≤ 1000) (k : Nat) (hk : 4000 ≤ k) : seedcornref03_Of.f k s = some ((ofS s).a, (ofS s).b, (ofS s).c, (ofS s).d) := by
  have hs1 : (s ++ (⟨#[128]⟩ : ByteArray)).size = s.size + 1 := by rw [ByteArray.size_append]; rfl
  have hz := zn_lt s.size
  have hm := zn_mod s.size
  have h := rpad_loop3 s.size hs (zn s.size) (s ++ (⟨#[128]⟩ : ByteArray)) k hz (by rw [hs1]; exact hm) (by rw [hs1]; omega) (by omega)
  have e : bytesOf (s ++ (⟨#[128]⟩ : ByteArray)) ++ List.replicate (zn s.size) 0 = padL s := by
    rw [bytesOf_app]
    unfold padL
    simp [bytesOf]
  rw [e] at h
  unfold seedcornref03_Of.f
  rw [if_pos (by omega)]
  exact h
end Go.Proofs.YthimgiphlenjdaaDoor.PI
