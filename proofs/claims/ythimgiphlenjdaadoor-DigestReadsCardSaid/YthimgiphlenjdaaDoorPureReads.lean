/- What the law DigestReads asks, in plain words. -/
import Derived.Test.YthimgiphlenjdaaDoorPureText
import Derived.Test.YthimgiphlenjdaaDoorF7
set_option linter.unusedVariables false
namespace Go.Proofs.YthimgiphlenjdaaDoor.PI
open Go.RowKit Go.Proofs.YthimgiphlenjdaaDoorW.PrintWords HX
def lower (c : Int) : Int := if 65 ≤ c ∧ c ≤ 70 then c + 32 else c
theorem dig_lower (c : Int) (h0 : 0 ≤ c) (h1 : c ≤ 255) (h : hv c ≠ 255) : (((digs.data.toList.getD (hv c).toNat 0).toNat : Nat) : Int) = lower c := by
  have k : ∀ n : Fin 256, hv (n.val : Int) ≠ 255 → (((digs.data.toList.getD (hv (n.val : Int)).toNat 0).toNat : Nat) : Int) = lower (n.val : Int) := by decide +kernel
  obtain ⟨m, rfl⟩ := Int.eq_ofNat_of_zero_le h0
  exact k ⟨m, by omega⟩ h
theorem lower_hex : ∀ (bs : List Int) (l : List UInt8), (∀ c ∈ bs, 0 ≤ c ∧ c ≤ 255) → good bs = true → l.map (fun c : UInt8 => (c.toNat : Int)) = dec bs → (hexL l).map (fun c : UInt8 => (c.toNat : Int)) = bs.map lower
  | [], l, _, _, h => by
    have : l = [] := by simpa [dec] using h
    subst this
    rfl
  | [_], l, _, h, _ => by simp [good] at h
  | a :: b :: t, [], _, _, h => by simp [dec] at h
  | a :: b :: t, c :: l, hb, hg, h => by
    rw [good, Bool.and_eq_true, Bool.and_eq_true, bne_iff_ne, bne_iff_ne] at hg
    obtain ⟨g1, g2, g3⟩ := hg
    rw [dec, List.map_cons] at h
    injection h with e1 e2
    have ra := hb a (by simp)
    have rb := hb b (by simp)
    have da := hv_digit a g1
    have db := hv_digit b g2
    have q1 : c.toNat / 16 = (hv a).toNat := by omega
    have q2 : c.toNat % 16 = (hv b).toNat := by omega
    have e : hexL (c :: l) = digs.data.toList.getD (c.toNat / 16) 0 :: digs.data.toList.getD (c.toNat % 16) 0 :: hexL l := rfl
    rw [e, q1, q2, List.map_cons, List.map_cons, List.map_cons, List.map_cons, dig_lower a ra.1 ra.2 g1, dig_lower b rb.1 rb.2 g2, lower_hex t l (fun x hx => hb x (by simp [hx])) g3 e2]
theorem dec_range : ∀ (bs : List Int), good bs = true → ∀ x ∈ dec bs, 0 ≤ x ∧ x ≤ 255
  | [], _, x, hx => by simp [dec] at hx
  | [_], h, _, _ => by simp [good] at h
  | a :: b :: t, hg, x, hx => by
    rw [good, Bool.and_eq_true, Bool.and_eq_true, bne_iff_ne, bne_iff_ne] at hg
    obtain ⟨g1, g2, g3⟩ := hg
    have da := hv_digit a g1
    have db := hv_digit b g2
    rw [dec] at hx
    rcases List.mem_cons.1 hx with rfl | hx
    · omega
    · exact dec_range t g3 x hx
theorem dec_length : ∀ (bs : List Int), good bs = true → 2 * (dec bs).length = bs.length
  | [], _ => rfl
  | [_], h => by simp [good] at h
  | a :: b :: t, hg => by
    rw [good, Bool.and_eq_true, Bool.and_eq_true, bne_iff_ne, bne_iff_ne] at hg
    have := dec_length t hg.2.2
    simp only [dec, List.length_cons]
    omega
theorem nums_str : ∀ (l : List Int), (∀ x ∈ l, 0 ≤ x ∧ x ≤ 255) → ((strOfNums l).data.toList).map (fun c : UInt8 => (c.toNat : Int)) = l := by
  intro l h
  show ((l.map fun n => UInt8.ofNat n.toNat)).map _ = l
  rw [List.map_map]
  conv => rhs; rw [← List.map_id l]
  refine List.map_congr_left fun x hx => ?_
  have := h x hx
  exact u8_nat x (by omega) (by omega)
theorem be4_back (c0 c1 c2 c3 : UInt8) : be4 ((((c0.toNat : Int) * 256 + (c1.toNat : Int)) * 256 + (c2.toNat : Int)) * 256 + (c3.toNat : Int)) = [c0, c1, c2, c3] := by
  have h0 := c0.toNat_lt
  have h1 := c1.toNat_lt
  have h2 := c2.toNat_lt
  have h3 := c3.toNat_lt
  unfold be4
  rw [u8_back c0 _ (by omega), u8_back c1 _ (by omega), u8_back c2 _ (by omega), u8_back c3 _ (by omega)]
theorem beL_back (b : ByteArray) (h : b.size = 16) : beL [pw b 0 16, pw b 1 16, pw b 2 16, pw b 3 16] = b.data.toList := by
  have hl : b.data.toList.length = 16 := by rw [data_length]; exact h
  have hb : ∀ j : Nat, bt b (j : Int) = (b.data.toList.map fun c : UInt8 => (c.toNat : Int)).getD j 0 := fun j => by rw [← rd_bytesOf]; rfl
  rw [pw_16 _ 0 (by omega), pw_16 _ 1 (by omega), pw_16 _ 2 (by omega), pw_16 _ 3 (by omega), shN4, shN4, shN4, shN4]
  simp only [hb]
  generalize b.data.toList = l at hl
  match l, hl with
  | [c0, c1, c2, c3, c4, c5, c6, c7, c8, c9, c10, c11, c12, c13, c14, c15], _ =>
    simp only [beL]
    exact (congr (congrArg HAppend.hAppend (be4_back c0 c1 c2 c3)) (congr (congrArg HAppend.hAppend (be4_back c4 c5 c6 c7)) (congr (congrArg HAppend.hAppend (be4_back c8 c9 c10 c11)) (congr (congrArg HAppend.hAppend (be4_back c12 c13 c14 c15)) (rfl : ([] : List UInt8) = []))))).trans rfl
theorem pw_in (b : ByteArray) (m : Nat) (h : m ≤ 3) : InR (pw b m 16) := by
  rw [pw_16 b m h, shN4]
  have h0 := bt_range b ((4 * m + 0 : Nat) : Int)
  have h1 := bt_range b ((4 * m + 1 : Nat) : Int)
  have h2 := bt_range b ((4 * m + 2 : Nat) : Int)
  have h3 := bt_range b ((4 * m + 3 : Nat) : Int)
  exact ⟨by omega, by omega⟩
theorem reads_loop (x t : ByteArray) (hs : x.size ≤ 80) (ht : t.size = x.size) (hd : ∀ i : Nat, i < x.size → bt t (i : Int) = lower (bt x (i : Int))) :
    ∀ (n i k : Nat), n + i = x.size → 2 * n + 1 ≤ k → seedcornlaw03_DigestReads.l0 k x t (i : Int) = some true
  | 0, i, k, hi, hk => by
    obtain ⟨k, rfl⟩ : ∃ m, k = m + 1 := ⟨k - 1, by omega⟩
    rw [seedcornlaw03_DigestReads.l0, if_neg (by omega), seedcornlaw03_awake.is]
    rfl
  | n + 1, i, k, hi, hk => by
    obtain ⟨k, rfl⟩ : ∃ m, k = m + 1 + 1 := ⟨k - 2, by omega⟩
    have ih := reads_loop x t hs ht hd n (i + 1) k (by omega) (by omega)
    rw [show ((i + 1 : Nat) : Int) = (i : Int) + 1 from rfl] at ih
    have h := hd i (by omega)
    have hr := bt_range x (i : Int)
    rw [seedcornlaw03_DigestReads.l0, if_pos (by omega), if_pos (by omega)]
    unfold lower at h
    by_cases c1 : bt x (i : Int) ≥ 65
    · by_cases c2 : bt x (i : Int) ≤ 70
      · rw [if_pos ⟨c1, c2⟩] at h
        rw [if_pos c1, seedcornlaw03_DigestReads.j2, if_pos (by simpa using c2), if_neg (by omega), if_pos (by omega), if_pos (by omega), if_pos (by omega), w64 _ (by omega) (by omega)]
        exact ih
      · rw [if_neg (fun q => c2 q.2)] at h
        rw [if_pos c1, seedcornlaw03_DigestReads.j2, if_neg (by simpa using c2), if_neg (by omega), if_pos (by omega), if_pos (by omega), if_pos h, w64 _ (by omega) (by omega)]
        exact ih
    · rw [if_neg (fun q => c1 q.1)] at h
      rw [if_neg c1, seedcornlaw03_DigestReads.j2, if_neg (by simp), if_neg (by omega), if_pos (by omega), if_pos (by omega), if_pos h, w64 _ (by omega) (by omega)]
      exact ih
theorem pureDigestReads (x : ByteArray) : ∃ k, seedcornlaw03_DigestReads.f k x = some true := by
  by_cases hs : x.size ≤ 80
  · refine ⟨200, ?_⟩
    unfold seedcornlaw03_DigestReads.f
    rw [if_neg (by omega), dparse_of x (by omega), rdparse_of x (by omega)]
    by_cases hg : good (bytesOf x) = true ∧ (strOfNums (dec (bytesOf x))).size = 16
    · have e : parseP x = (pw (strOfNums (dec (bytesOf x))) 0 16, pw (strOfNums (dec (bytesOf x))) 1 16, pw (strOfNums (dec (bytesOf x))) 2 16, pw (strOfNums (dec (bytesOf x))) 3 16, 0) := if_pos hg
      rw [e]
      obtain ⟨g1, g2⟩ := hg
      have ht := text_of _ _ _ _ (pw_in (strOfNums (dec (bytesOf x))) 0 (by omega)) (pw_in (strOfNums (dec (bytesOf x))) 1 (by omega)) (pw_in (strOfNums (dec (bytesOf x))) 2 (by omega)) (pw_in (strOfNums (dec (bytesOf x))) 3 (by omega))
      rw [beL_back _ g2] at ht
      have hl : (dec (bytesOf x)).length = 16 := by
        have : ((dec (bytesOf x)).map fun n => UInt8.ofNat n.toNat).length = 16 := g2
        simpa using this
      have hxs : x.size = 32 := by
        have := dec_length _ g1
        rw [bytesOf_length] at this
        omega
      have hlow := lower_hex (bytesOf x) (strOfNums (dec (bytesOf x))).data.toList (fun c hc => by unfold bytesOf at hc; obtain ⟨u, _, rfl⟩ := List.mem_map.1 hc; have := u.toNat_lt; omega) g1 (nums_str _ (dec_range _ g1))
      have hfin : seedcornlaw03_DigestReads.l0 199 x ⟨(hexL (strOfNums (dec (bytesOf x))).data.toList).toArray⟩ 0 = some true := by
        refine reads_loop x _ hs ?_ (fun i hi => ?_) x.size 0 199 (by omega) (by omega)
        · show (hexL (strOfNums (dec (bytesOf x))).data.toList).length = x.size
          rw [hexL_length, data_length, g2, hxs]
        · rw [← rd_bytesOf, bytesOf_mk, hlow, ← rd_bytesOf]
          have hi' : i < (bytesOf x).length := by rw [bytesOf_length]; exact hi
          unfold rd
          simp [List.getD_eq_getElem?_getD, List.getElem?_map, List.getElem?_eq_getElem hi']
      generalize pw (strOfNums (dec (bytesOf x))) 0 16 = p0 at ht ⊢
      generalize pw (strOfNums (dec (bytesOf x))) 1 16 = p1 at ht ⊢
      generalize pw (strOfNums (dec (bytesOf x))) 2 16 = p2 at ht ⊢
      generalize pw (strOfNums (dec (bytesOf x))) 3 16 = p3 at ht ⊢
      simp only [Option.bind_some]
      rw [if_neg (by simp), seedcornlaw03_DigestReads.j0, if_neg (by simp), if_pos rfl, ht]
      exact hfin
    · have e : parseP x = (0, 0, 0, 0, 3) := if_neg hg
      rw [e]
      simp only [Option.bind_some]
      rw [if_neg (by simp), seedcornlaw03_DigestReads.j0, if_neg (by simp), if_neg (by decide), seedcornlaw03_awake.is]
      rfl
  · refine ⟨1, ?_⟩
    unfold seedcornlaw03_DigestReads.f
    rw [if_pos (by omega), seedcornlaw03_awake.is]
    rfl
end Go.Proofs.YthimgiphlenjdaaDoor.PI
