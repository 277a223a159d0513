/- The digest of bytes, by the program and by the reference; what the law DigestOf asks. -/
import Derived.Test.YthimgiphlenjdaaDoorPureWords
import Derived.Test.YthimgiphlenjdaaDoorF10
set_option linter.unusedVariables false
namespace Go.Proofs.YthimgiphlenjdaaDoor.PI
open Go.RowKit Go.Proofs.YthimgiphlenjdaaDoorW.PrintWords HX
def zn (n : Nat) : Nat := (24 - (n + 1) % 16) % 16
/-- The bytes, one byte 128, and noughts. -/
def padL (s : ByteArray) : List Int := bytesOf s ++ (128 :: List.replicate (zn s.size) 0)
theorem padL_length (s : ByteArray) : (padL s).length = s.size + 1 + zn s.size := by
  unfold padL
  rw [List.length_append, bytesOf_length, List.length_cons, List.length_replicate]
  omega
theorem zn_mod (n : Nat) : (n + 1 + zn n) % 16 = 8 := by unfold zn; omega
theorem zn_lt (n : Nat) : zn n < 16 := by unfold zn; omega
theorem bytesOf_app (a b : ByteArray) : bytesOf (a ++ b) = bytesOf a ++ bytesOf b := by
  unfold bytesOf
  rw [ByteArray.data_append, Array.toList_append, List.map_append]
theorem bytesOf_str (l : List Int) (h : ∀ x ∈ l, 0 ≤ x ∧ x ≤ 255) : bytesOf (strOfNums l) = l := by
  show ((l.map fun n => UInt8.ofNat n.toNat)).map _ = l
  rw [List.map_map]
  conv => rhs; rw [← List.map_id l]
  refine List.map_congr_left fun x hx => ?_
  have := h x hx
  show (((UInt8.ofNat x.toNat).toNat : Nat) : Int) = x
  rw [UInt8.toNat_ofNat']
  omega
theorem bytes2 (x y : Int) (k : Nat) : word_Bytes.f (k + 3) [x, y] = some (strOfNums [x % 256, x / 256 % 256, x / 65536 % 256, x / 16777216 % 256, y % 256, y / 256 % 256, y / 65536 % 256, y / 16777216 % 256]) := by
  have e1 : wrap64 1 = 1 := by unfold wrap64; omega
  have e2 : wrap64 2 = 2 := by unfold wrap64; omega
  simp [word_Bytes.f, word_Bytes.l0, rd, e1, e2]
theorem rep0 : ∀ z : Fin 16, bytesOf ⟨(Go.Lib.repeatL [0] z.val).toArray⟩ = List.replicate z.val 0 ∧ (⟨(Go.Lib.repeatL [0] z.val).toArray⟩ : ByteArray).size = z.val := by decide +kernel
/-- The digest of bytes. -/
def ofS (s : ByteArray) : St := spongeL (wordsL (padL s) ++ [(s.size : Int), 0]) st1
theorem of_of (s : ByteArray) (hs : s.size ≤ 300) (k : Nat) (hk : 2000 ≤ k) : digest_Of.f k s = some ((ofS s).a, (ofS s).b, (ofS s).c, (ofS s).d) := by
  obtain ⟨k, rfl⟩ : ∃ m, k = m + 3 := ⟨k - 3, by omega⟩
  have hz := zn_lt s.size
  obtain ⟨r1, r2⟩ := rep0 ⟨zn s.size, hz⟩
  simp only at r1 r2
  have hrep : strings_Repeat.f (⟨#[0]⟩ : ByteArray) (Int.tmod (wrap64 (24 - (Int.tmod (wrap64 ((s.size : Int) + 1)) 16))) 16) = some ⟨(Go.Lib.repeatL [0] (zn s.size)).toArray⟩ := by
    rw [HX.zeros_eq s.size (by omega)]
    have e : ((24 - ((s.size : Int) + 1) % 16) % 16) = (zn s.size : Int) := by unfold zn; omega
    rw [e]
    unfold strings_Repeat.f
    rw [if_pos ⟨by omega, by omega, by decide⟩]
    rfl
  have hm := zn_mod s.size
  have hpl := padL_length s
  generalize hz0 : (⟨(Go.Lib.repeatL [0] (zn s.size)).toArray⟩ : ByteArray) = z0 at hrep r1 r2
  have h8 : bytesOf (strOfNums [(s.size : Int) % 4294967296 % 256, (s.size : Int) % 4294967296 / 256 % 256, (s.size : Int) % 4294967296 / 65536 % 256, (s.size : Int) % 4294967296 / 16777216 % 256, (s.size : Int) / 4294967296 % 256, (s.size : Int) / 4294967296 / 256 % 256, (s.size : Int) / 4294967296 / 65536 % 256, (s.size : Int) / 4294967296 / 16777216 % 256]) = [(s.size : Int) % 4294967296 % 256, (s.size : Int) % 4294967296 / 256 % 256, (s.size : Int) % 4294967296 / 65536 % 256, (s.size : Int) % 4294967296 / 16777216 % 256, (s.size : Int) / 4294967296 % 256, (s.size : Int) / 4294967296 / 256 % 256, (s.size : Int) / 4294967296 / 65536 % 256, (s.size : Int) / 4294967296 / 16777216 % 256] := by
    refine bytesOf_str _ fun x hx => ?_
    simp only [List.mem_cons, List.not_mem_nil, or_false] at hx
    rcases hx with rfl | rfl | rfl | rfl | rfl | rfl | rfl | rfl <;> omega
  have hb2 := bytes2 ((s.size : Int) % 4294967296) ((s.size : Int) / 4294967296) k
  generalize ht8 : strOfNums [(s.size : Int) % 4294967296 % 256, (s.size : Int) % 4294967296 / 256 % 256, (s.size : Int) % 4294967296 / 65536 % 256, (s.size : Int) % 4294967296 / 16777216 % 256, (s.size : Int) / 4294967296 % 256, (s.size : Int) / 4294967296 / 256 % 256, (s.size : Int) / 4294967296 / 65536 % 256, (s.size : Int) / 4294967296 / 16777216 % 256] = t8 at h8 hb2
  have s8 : t8.size = 8 := by rw [← ht8]; rfl
  have hs1 : (s ++ (⟨#[128]⟩ : ByteArray)).size = s.size + 1 := by rw [ByteArray.size_append]; rfl
  have hs2 : ((s ++ (⟨#[128]⟩ : ByteArray)) ++ z0).size = s.size + 1 + zn s.size := by rw [ByteArray.size_append, hs1, r2]
  have hs3 : (((s ++ (⟨#[128]⟩ : ByteArray)) ++ z0) ++ t8).size = s.size + 1 + zn s.size + 8 := by rw [ByteArray.size_append, hs2, s8]
  have hbt : bytesOf (((s ++ (⟨#[128]⟩ : ByteArray)) ++ z0) ++ t8) = padL s ++ bytesOf t8 := by
    rw [bytesOf_app, bytesOf_app, bytesOf_app, r1]
    unfold padL
    simp [bytesOf]
  have hwo := words_of (((s ++ (⟨#[128]⟩ : ByteArray)) ++ z0) ++ t8) (k + 3) (by omega) (by omega) (by omega)
  have hw8 : wordsL (bytesOf t8) = [(s.size : Int), 0] := by
    rw [h8]
    simp only [wordsL, le4]
    congr 1
    · omega
    · congr 1
      omega
  rw [hbt, wordsL_append _ _ (by omega), hw8] at hwo
  have htk : digest_take.f 1 (wordsL (padL s) ++ [(s.size : Int), 0]) = some ((ofS s).a, (ofS s).b, (ofS s).c, (ofS s).d) := by
    unfold digest_take.f ofS st1
    exact if_pos (by decide)
  generalize ofS s = Y at htk ⊢
  unfold digest_Of.f
  rw [if_pos (by omega), hrep, Option.bind_some, if_pos (by omega), hb2, Option.bind_some, if_pos (by omega), hwo, Option.bind_some]
  simp only []
  rw [htk, Option.bind_some]
/-! the reference's -/
theorem sponge_loop (L : List Int) (hL : L.length ≤ 1000000) : ∀ (ls : List Int) (i k : Nat) (s : St), s.Ok → L.drop i = ls → i ≤ L.length → ls.length % 4 = 0 → ls.length + 2 ≤ k →
    seedcornref03_Of.l1 k L (i : Int) s.a s.b s.c s.d s.e s.f s.g s.h = some ((spongeL ls s).a, (spongeL ls s).b, (spongeL ls s).c, (spongeL ls s).d)
  | [], i, k, s, hok, hd, hi, hm, hk => by
    obtain ⟨k, rfl⟩ : ∃ m, k = m + 1 := ⟨k - 1, by omega⟩
    have hn : L.length ≤ i := List.drop_eq_nil_iff.1 hd
    rw [seedcornref03_Of.l1, if_neg (by omega)]
    rfl
  | [_], _, _, _, _, _, _, hm, _ => by simp at hm
  | [_, _], _, _, _, _, _, _, hm, _ => by simp at hm
  | [_, _, _], _, _, _, _, _, _, hm, _ => by simp at hm
  | a :: b :: c :: d :: t, i, k, s, hok, hd, hi, hm, hk => by
    obtain ⟨k, rfl⟩ : ∃ m, k = m + 1 := ⟨k - 1, by omega⟩
    simp only [List.length_cons] at hm hk
    have hlen : L.length - i = t.length + 4 := by
      have := congrArg List.length hd
      rw [List.length_drop] at this
      exact this
    have g : ∀ j : Nat, rd L ((i + j : Nat) : Int) = (a :: b :: c :: d :: t).getD j 0 := fun j => by
      rw [← hd]
      unfold rd
      rw [Int.toNat_natCast]
      simp [List.getD_eq_getElem?_getD, List.getElem?_drop]
    have f0 : rd L (i : Int) = a := g 0
    have f1 : rd L ((i + 1 : Nat) : Int) = b := g 1
    have f2 : rd L ((i + 2 : Nat) : Int) = c := g 2
    have f3 : rd L ((i + 3 : Nat) : Int) = d := g 3
    have F0 := Aside0.mk f0
    have F1 := Aside0.mk f1
    have F2 := Aside0.mk f2
    have F3 := Aside0.mk f3
    clear f0 f1 f2 f3 g
    have q : i ≤ 1099511627776 := by omega
    have H3 := Aside0.mk (wi3 i q)
    have H2 := Aside0.mk (wi2 i q)
    have H1 := Aside0.mk (wi1 i q)
    have H4 := Aside0.mk (wi4 i q)
    have ih := sponge_loop L hL t (i + 4) k (tk s a b c d) (tk_ok s hok a b c d) (by rw [← List.drop_drop, hd]; rfl) (by omega) (by omega) (by omega)
    have ht := rtake_of s hok a b c d
    have es : spongeL (a :: b :: c :: d :: t) s = spongeL t (tk s a b c d) := rfl
    rw [es]
    generalize spongeL t (tk s a b c d) = Z at ih ⊢
    generalize tk s a b c d = X at ih ht
    rw [seedcornref03_Of.l1, if_pos (by omega), if_pos (by omega), H1.out, H2.out, H3.out, H4.out, if_pos (by omega), if_pos (by omega), if_pos (by omega), if_pos (by omega), if_pos (by omega), if_pos (by omega), F0.out, F1.out, F2.out, F3.out, ht, Option.bind_some]
    exact ih
theorem rpad_loop (n : Nat) (hn : n ≤ 300) : ∀ (j : Nat) (x0 : ByteArray) (k : Nat), j < 16 → (x0.size + j) % 16 = 8 → x0.size + j ≤ 400 → 1500 + j ≤ k →
    seedcornref03_Of.l0 k x0 (n : Int) = some ((spongeL (wordsL (bytesOf x0 ++ List.replicate j 0) ++ [(n : Int), 0]) st1).a, (spongeL (wordsL (bytesOf x0 ++ List.replicate j 0) ++ [(n : Int), 0]) st1).b, (spongeL (wordsL (bytesOf x0 ++ List.replicate j 0) ++ [(n : Int), 0]) st1).c, (spongeL (wordsL (bytesOf x0 ++ List.replicate j 0) ++ [(n : Int), 0]) st1).d)
  | 0, x0, k, hj, hm, hs, hk => by
    obtain ⟨k, rfl⟩ : ∃ m, k = m + 1 := ⟨k - 1, by omega⟩
    have hwl := wordsL_length (bytesOf x0) (by rw [bytesOf_length]; omega)
    rw [bytesOf_length] at hwl
    have hsp := sponge_loop (wordsL (bytesOf x0) ++ [(n : Int), 0]) (by rw [List.length_append]; show _ + 2 ≤ _; omega) (wordsL (bytesOf x0) ++ [(n : Int), 0]) 0 k st1 st1_ok rfl (by omega) (by rw [List.length_append]; show (_ + 2) % 4 = 0; omega) (by rw [List.length_append]; show _ + 2 + 2 ≤ _; omega)
    rw [List.replicate_zero, List.append_nil]
    generalize spongeL (wordsL (bytesOf x0) ++ [(n : Int), 0]) st1 = Z at hsp ⊢
    have e1 : (n : Int) % 4294967296 = (n : Int) := by omega
    have e2 : (n : Int) / 4294967296 % 4294967296 = 0 := by omega
    rw [seedcornref03_Of.l0, if_pos (by omega), rwords_of x0 k (by omega) (by omega) (by omega), Option.bind_some, Option.bind_some, e1, e2]
    rw [if_pos (by show (wordsL (bytesOf x0)).length + 2 < _; omega)]
    exact hsp
  | j + 1, x0, k, hj, hm, hs, hk => by
    obtain ⟨k, rfl⟩ : ∃ m, k = m + 1 := ⟨k - 1, by omega⟩
    have hsz : (x0 ++ (⟨#[0]⟩ : ByteArray)).size = x0.size + 1 := by rw [ByteArray.size_append]; rfl
    have ih := rpad_loop n hn j (x0 ++ (⟨#[0]⟩ : ByteArray)) k (by omega) (by rw [hsz]; omega) (by rw [hsz]; omega) (by omega)
    have eb : bytesOf (x0 ++ (⟨#[0]⟩ : ByteArray)) ++ List.replicate j 0 = bytesOf x0 ++ List.replicate (j + 1) 0 := by
      rw [bytesOf_app, List.append_assoc]
      rfl
    rw [eb] at ih
    rw [seedcornref03_Of.l0, if_neg (by omega), if_pos (by omega)]
    exact ih
theorem rof_of (s : ByteArray) (hs : s.size ≤ 300) (k : Nat) (hk : 2000 ≤ k) : seedcornref03_Of.f k s = some ((ofS s).a, (ofS s).b, (ofS s).c, (ofS s).d) := by
  have hs1 : (s ++ (⟨#[128]⟩ : ByteArray)).size = s.size + 1 := by rw [ByteArray.size_append]; rfl
  have hz := zn_lt s.size
  have hm := zn_mod s.size
  have h := rpad_loop s.size hs (zn s.size) (s ++ (⟨#[128]⟩ : ByteArray)) k hz (by rw [hs1]; exact hm) (by rw [hs1]; omega) (by omega)
  have e : bytesOf (s ++ (⟨#[128]⟩ : ByteArray)) ++ List.replicate (zn s.size) 0 = padL s := by
    rw [bytesOf_app]
    unfold padL
    simp [bytesOf]
  rw [e] at h
  unfold seedcornref03_Of.f
  rw [if_pos (by omega)]
  exact h
theorem of_law (k : Nat) (s : ByteArray) (hs : s.size ≤ 300) (X : St) (h1 : digest_Of.f k s = some (X.a, X.b, X.c, X.d)) (h2 : seedcornref03_Of.f k s = some (X.a, X.b, X.c, X.d)) : seedcornlaw03_DigestOf.f k s = some true := by
  unfold seedcornlaw03_DigestOf.f
  rw [if_neg (by omega), seedcornlaw03_awake.is, Option.bind_some, if_pos rfl, h1, Option.bind_some, h2, Option.bind_some]
  simp
theorem pureDigestOf (s : ByteArray) : ∃ k, seedcornlaw03_DigestOf.f k s = some true := by
  by_cases hs : s.size ≤ 300
  · exact ⟨2000, of_law 2000 s hs (ofS s) (of_of s hs 2000 (Nat.le_refl _)) (rof_of s hs 2000 (Nat.le_refl _))⟩
  · refine ⟨1, ?_⟩
    unfold seedcornlaw03_DigestOf.f
    rw [if_pos (by omega), seedcornlaw03_awake.is]
    rfl
end Go.Proofs.YthimgiphlenjdaaDoor.PI
