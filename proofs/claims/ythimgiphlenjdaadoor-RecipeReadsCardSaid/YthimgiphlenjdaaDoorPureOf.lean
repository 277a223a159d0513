/- The digest of bytes, by the program and by the reference; what the law DigestOf asks. -/
import Derived.Test.YthimgiphlenjdaaDoorPureWords
set_option linter.unusedVariables false
namespace Go.Proofs.YthimgiphlenjdaaDoor.PI
open Go.RowKit Go.Proofs.YthimgiphlenjdaaDoorW.PrintWords HX
def zn (n : Nat) : Nat := (24 - (n + 1) % 16) % 16
/-- The bytes, one byte 128, and noughts. -/
def padL (s : ByteArray) : List Int := bytesOf s ++ (128 :: List.replicate (zn s.size) 0)
theorem padL_length (s : ByteArray) : (padL s).length = s.size + 1 + zn s.size := by
  unfold padL
  rw [List.length_append, bytesOf_length, List.length_cons, List.length_replicate]
  omega
theorem zn_mod (n : Nat) : (n + 1 + zn n) % 16 = 8 := by unfold zn; omega
theorem zn_lt (n : Nat) : zn n < 16 := by unfold zn; omega
theorem bytesOf_app (a b : ByteArray) : bytesOf (a ++ b) = bytesOf a ++ bytesOf b := by
  unfold bytesOf
  rw [ByteArray.data_append, Array.toList_append, List.map_append]
theorem bytesOf_str (l : List Int) (h : ∀ x ∈ l, 0 ≤ x ∧ x ≤ 255) : bytesOf (strOfNums l) = l := by
  show ((l.map fun n => UInt8.ofNat n.toNat)).map _ = l
  rw [List.map_map]
  conv => rhs; rw [← List.map_id l]
  refine List.map_congr_left fun x hx => ?_
  have := h x hx
  show (((UInt8.ofNat x.toNat).toNat : Nat) : Int) = x
  rw [UInt8.toNat_ofNat']
  omega
theorem bytes2 (x y : Int) (k : Nat) : word_Bytes.f (k + 3) [x, y] = some (strOfNums [x % 256, x / 256 % 256, x / 65536 % 256, x / 16777216 % 256, y % 256, y / 256 % 256, y / 65536 % 256, y / 16777216 % 256]) := by
  have e1 : wrap64 1 = 1 := by unfold wrap64; omega
  have e2 : wrap64 2 = 2 := by unfold wrap64; omega
  simp [word_Bytes.f, word_Bytes.l0, rd, e1, e2]
theorem rep0 : ∀ z : Fin 16, bytesOf ⟨(Go.Lib.repeatL [0] z.val).toArray⟩ = List.replicate z.val 0 ∧ (⟨(Go.Lib.repeatL [0] z.val).toArray⟩ : ByteArray).size = z.val := by decide +kernel
/-- The digest of bytes. -/
def ofS (s : ByteArray) : St := spongeL (wordsL (padL s) ++ [(s.size : Int), 0]) st1
theorem of_of (s : ByteArray) (hs : s.size ≤ 300) (k : Nat) (hk : 2000 ≤ k) : digest_Of.f k s = some ((ofS s).a, (ofS s).b, (ofS s).c, (ofS s).d) := by
  obtain ⟨k, rfl⟩ : ∃ m, k = m + 3 := ⟨k - 3, by omega⟩
  have hz := zn_lt s.size
  obtain ⟨r1, r2⟩ := rep0 ⟨zn s.size, hz⟩
  simp only at r1 r2
  have hrep : strings_Repeat.f (⟨#[0]⟩ : ByteArray) (Int.tmod (wrap64 (24 - (Int.tmod (wrap64 ((s.size : Int) + 1)) 16))) 16) = some ⟨(Go.Lib.repeatL [0] (zn s.size)).toArray⟩ := by
    rw [HX.zeros_eq s.size (by omega)]
    have e : ((24 - ((s.size : Int) + 1) % 16) % 16) = (zn s.size : Int) := by unfold zn; omega
    rw [e]
    unfold strings_Repeat.f
    rw [if_pos ⟨by omega, by omega, by decide⟩]
    rfl
  have hm := zn_mod s.size
  have hpl := padL_length s
  generalize hz0 : (⟨(Go.Lib.repeatL [0] (zn s.size)).toArray⟩ : ByteArray) = z0 at hrep r1 r2
  have h8 : bytesOf (strOfNums [(s.size : Int) % 4294967296 % 256, (s.size : Int) % 4294967296 / 256 % 256, (s.size : Int) % 4294967296 / 65536 % 256, (s.size : Int) % 4294967296 / 16777216 % 256, (s.size : Int) / 4294967296 % 256, (s.size : Int) / 4294967296 / 256 % 256, (s.size : Int) / 4294967296 / 65536 % 256, (s.size : Int) / 4294967296 / 16777216 % 256]) = [(s.size : Int) % 4294967296 % 256, (s.size : Int) % 4294967296 / 256 % 256, (s.size : Int) % 4294967296 / 65536 % 256, (s.size : Int) % 4294967296 / 16777216 % 256, (s.size : Int) / 4294967296 % 256, (s.size : Int) / 4294967296 / 256 % 256, (s.size : Int) / 4294967296 / 65536 % 256, (s.size : Int) / 4294967296 / 16777216 % 256] := by
    refine bytesOf_str _ fun x hx => ?_
    simp only [List.mem_cons, List.not_mem_nil, or_false] at hx
    rcases hx with rfl | rfl | rfl | rfl | rfl | rfl | rfl | rfl <;> omega
  have hb2 := bytes2 ((s.size : Int) % 4294967296) ((s.size : Int) / 4294967296) k
  generalize ht8 : strOfNums [(s.size : Int) % 4294967296 % 256, (s.size : Int) % 4294967296 / 256 % 256, (s.size : Int) % 4294967296 / 65536 % 256, (s.size : Int) % 4294967296 / 16777216 % 256, (s.size : Int) / 4294967296 % 256, (s.size : Int) / 4294967296 / 256 % 256, (s.size : Int) / 4294967296 / 65536 % 256, (s.size : Int) / 4294967296 / 16777216 % 256] = t8 at h8 hb2
  have s8 : t8.size = 8 := by rw [← ht8]; rfl
  have hs1 : (s ++ (⟨#[128]⟩ : ByteArray)).size = s.size + 1 := by rw [ByteArray.size_append]; rfl
  have hs2 : ((s ++ (⟨#[128]⟩ : ByteArray)) ++ z0).size = s.size + 1 + zn s.size := by rw [ByteArray.size_append, hs1, r2]
  have hs3 : (((s ++ (⟨#[128]⟩ : ByteArray)) ++ z0) ++ t8).size = s.size + 1 + zn s.size + 8 := by rw [ByteArray.size_append, hs2, s8]
  have hbt : bytesOf (((s ++ (⟨#[128]⟩ : ByteArray)) ++ z0) ++ t8) = padL s ++ bytesOf t8 := by
    rw [bytesOf_app, bytesOf_app, bytesOf_app, r1]
    unfold padL
    simp [bytesOf]
  have hwo := words_of (((s ++ (⟨#[128]⟩ : ByteArray)) ++ z0) ++ t8) (k + 3) (by omega) (by omega) (by omega)
  have hw8 : wordsL (bytesOf t8) = [(s.size : Int), 0] := by
    rw [h8]
    simp only [wordsL, le4]
    congr 1
    · omega
    · congr 1
      omega
  rw [hbt, wordsL_append _ _ (by omega), hw8] at hwo
  have htk : digest_take.f 1 (wordsL (padL s) ++ [(s.size : Int), 0]) = some ((ofS s).a, (ofS s).b, (ofS s).c, (ofS s).d) := by
    unfold digest_take.f ofS st1
    exact if_pos (by decide)
  generalize ofS s = Y at htk ⊢
  unfold digest_Of.f
  rw [if_pos (by omega), hrep, Option.bind_some, if_pos (by omega), hb2, Option.bind_some, if_pos (by omega), hwo, Option.bind_some]
  simp only []
  rw [htk, Option.bind_some]
end Go.Proofs.YthimgiphlenjdaaDoor.PI
