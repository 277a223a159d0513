/- A digest's text, read again, is the digest; both programs write one text. -/
import Derived.Test.YthimgiphlenjdaaDoorPureHex
set_option linter.unusedVariables false
namespace Go.Proofs.YthimgiphlenjdaaDoor.PI
open Go.RowKit Go.Proofs.YthimgiphlenjdaaDoorW.PrintWords HX
/-- A byte's sign: a small digit. -/
theorem hexTwo_spec (c : UInt8) : (hexTwo c).map (fun x : UInt8 => (x.toNat : Int)) = [(((digs.data.toList.getD (c.toNat / 16) 0).toNat : Nat) : Int), (((digs.data.toList.getD (c.toNat % 16) 0).toNat : Nat) : Int)] := rfl
theorem hv_digs : ∀ n : Fin 16, hv (((digs.data.toList.getD n.val 0).toNat : Nat) : Int) = (n.val : Int) ∧ ((48 ≤ (digs.data.toList.getD n.val 0).toNat ∧ (digs.data.toList.getD n.val 0).toNat ≤ 57) ∨ (97 ≤ (digs.data.toList.getD n.val 0).toNat ∧ (digs.data.toList.getD n.val 0).toNat ≤ 102)) := by decide +kernel
theorem good_hex : ∀ l : List UInt8, good ((hexL l).map fun x : UInt8 => (x.toNat : Int)) = true ∧ dec ((hexL l).map fun x : UInt8 => (x.toNat : Int)) = l.map fun c : UInt8 => (c.toNat : Int)
  | [] => ⟨rfl, rfl⟩
  | c :: l => by
    obtain ⟨h1, h2⟩ := good_hex l
    have hc := c.toNat_lt
    have e1 := (hv_digs ⟨c.toNat / 16, by omega⟩).1
    have e2 := (hv_digs ⟨c.toNat % 16, by omega⟩).1
    simp only at e1 e2
    have e : hexL (c :: l) = digs.data.toList.getD (c.toNat / 16) 0 :: digs.data.toList.getD (c.toNat % 16) 0 :: hexL l := rfl
    rw [e, List.map_cons, List.map_cons, good, dec, e1, e2, h1, h2]
    refine ⟨?_, ?_⟩
    · simp
      omega
    · rw [List.map_cons]
      refine congrArg (· :: _) ?_
      show ((c.toNat / 16 : Nat) : Int) * 16 + ((c.toNat % 16 : Nat) : Int) = (c.toNat : Int)
      omega
theorem bytesOf_mk (l : List UInt8) : bytesOf ⟨l.toArray⟩ = l.map fun c : UInt8 => (c.toNat : Int) := rfl
theorem strOf_nums (l : List UInt8) : strOfNums (l.map fun c : UInt8 => (c.toNat : Int)) = ⟨l.toArray⟩ := by
  unfold strOfNums
  refine congrArg ByteArray.mk (congrArg List.toArray ?_)
  rw [List.map_map]
  conv => rhs; rw [← List.map_id l]
  refine List.map_congr_left fun c _ => ?_
  simp
/-- The four bytes of a word, the highest first, as a word. -/
theorem or_bytes (x c : Int) (h0 : 0 ≤ x) (h1 : x < 16777216) (k0 : 0 ≤ c) (k1 : c ≤ 255) : sh8 x c = x * 256 + c := by
  obtain ⟨m, rfl⟩ := Int.eq_ofNat_of_zero_le h0
  obtain ⟨n, rfl⟩ := Int.eq_ofNat_of_zero_le k0
  unfold sh8
  rw [show (m : Int) * 256 % 4294967296 = ((m * 256 : Nat) : Int) by omega]
  have hor : m * 256 ||| n = m * 256 + n := by
    have h := Nat.shiftLeft_add_eq_or_of_lt (show n < 2 ^ 8 by omega) m
    rw [Nat.shiftLeft_eq] at h
    exact h.symm
  have hb : bits .or .u32 ((m * 256 : Nat) : Int) (n : Int) = ((m * 256 ||| n : Nat) : Int) := u32_or_nat (m * 256) n (by omega) (by omega)
  rw [hb, hor]
  omega
theorem shN4 (b : ByteArray) (s : Nat) : shN b s 4 = ((bt b ((s + 0 : Nat) : Int) * 256 + bt b ((s + 1 : Nat) : Int)) * 256 + bt b ((s + 2 : Nat) : Int)) * 256 + bt b ((s + 3 : Nat) : Int) := by
  have h0 := bt_range b ((s + 0 : Nat) : Int)
  have h1 := bt_range b ((s + 1 : Nat) : Int)
  have h2 := bt_range b ((s + 2 : Nat) : Int)
  have h3 := bt_range b ((s + 3 : Nat) : Int)
  have e : shN b s 4 = sh8 (sh8 (sh8 (sh8 0 (bt b ((s + 0 : Nat) : Int))) (bt b ((s + 1 : Nat) : Int))) (bt b ((s + 2 : Nat) : Int))) (bt b ((s + 3 : Nat) : Int)) := rfl
  rw [e, or_bytes 0 _ (by omega) (by omega) h0.1 h0.2, or_bytes _ _ (by omega) (by omega) h1.1 h1.2, or_bytes _ _ (by omega) (by omega) h2.1 h2.2, or_bytes _ _ (by omega) (by omega) h3.1 h3.2]
  omega
theorem pw_16 (b : ByteArray) (m : Nat) (h : m ≤ 3) : pw b m 16 = shN b (4 * m) 4 := by
  unfold pw
  rw [show min (16 - 4 * m) 4 = 4 by omega]
theorem u8_nat (n : Int) (h0 : 0 ≤ n) (h1 : n < 256) : (((UInt8.ofNat n.toNat).toNat : Nat) : Int) = n := by
  rw [UInt8.toNat_ofNat']
  omega
theorem u8_back (c : UInt8) (n : Int) (h : n = (c.toNat : Int)) : UInt8.ofNat n.toNat = c := by
  subst h
  simp
theorem text_of (d0 d1 d2 d3 : Int) (h0 : InR d0) (h1 : InR d1) (h2 : InR d2) (h3 : InR d3) : digest_Text.f d0 d1 d2 d3 = some ⟨(hexL (beL [d0, d1, d2, d3])).toArray⟩ := if_pos ⟨h0, h1, h2, h3⟩
theorem be4_nums (x : Int) (h : InR x) : (be4 x).map (fun c : UInt8 => (c.toNat : Int)) = [x / 16777216, x / 65536 % 256, x / 256 % 256, x % 256] := by
  obtain ⟨h0, h1⟩ := h
  unfold be4
  simp only [List.map_cons, List.map_nil]
  rw [u8_nat _ (by omega) (by omega), u8_nat _ (by omega) (by omega), u8_nat _ (by omega) (by omega), u8_nat _ (by omega) (by omega)]
theorem pw_be (d0 d1 d2 d3 : Int) (h0 : InR d0) (h1 : InR d1) (h2 : InR d2) (h3 : InR d3) :
    pw ⟨(beL [d0, d1, d2, d3]).toArray⟩ 0 16 = d0 ∧ pw ⟨(beL [d0, d1, d2, d3]).toArray⟩ 1 16 = d1 ∧ pw ⟨(beL [d0, d1, d2, d3]).toArray⟩ 2 16 = d2 ∧ pw ⟨(beL [d0, d1, d2, d3]).toArray⟩ 3 16 = d3 := by
  have hb : ∀ j : Nat, bt ⟨(beL [d0, d1, d2, d3]).toArray⟩ (j : Int) = ([d0 / 16777216, d0 / 65536 % 256, d0 / 256 % 256, d0 % 256, d1 / 16777216, d1 / 65536 % 256, d1 / 256 % 256, d1 % 256, d2 / 16777216, d2 / 65536 % 256, d2 / 256 % 256, d2 % 256, d3 / 16777216, d3 / 65536 % 256, d3 / 256 % 256, d3 % 256] : List Int).getD j 0 := fun j => by
    rw [← rd_bytesOf, bytesOf_mk]
    have e : (beL [d0, d1, d2, d3]).map (fun c : UInt8 => (c.toNat : Int)) = (be4 d0).map (fun c : UInt8 => (c.toNat : Int)) ++ ((be4 d1).map (fun c : UInt8 => (c.toNat : Int)) ++ ((be4 d2).map (fun c : UInt8 => (c.toNat : Int)) ++ ((be4 d3).map (fun c : UInt8 => (c.toNat : Int)) ++ []))) := by simp [beL]
    rw [e, be4_nums d0 h0, be4_nums d1 h1, be4_nums d2 h2, be4_nums d3 h3]
    rfl
  obtain ⟨_, _⟩ := h0
  obtain ⟨_, _⟩ := h1
  obtain ⟨_, _⟩ := h2
  obtain ⟨_, _⟩ := h3
  refine ⟨?_, ?_, ?_, ?_⟩
  · rw [pw_16 _ 0 (by omega), shN4, hb, hb, hb, hb]
    show ((d0 / 16777216 * 256 + d0 / 65536 % 256) * 256 + d0 / 256 % 256) * 256 + d0 % 256 = d0
    omega
  · rw [pw_16 _ 1 (by omega), shN4, hb, hb, hb, hb]
    show ((d1 / 16777216 * 256 + d1 / 65536 % 256) * 256 + d1 / 256 % 256) * 256 + d1 % 256 = d1
    omega
  · rw [pw_16 _ 2 (by omega), shN4, hb, hb, hb, hb]
    show ((d2 / 16777216 * 256 + d2 / 65536 % 256) * 256 + d2 / 256 % 256) * 256 + d2 % 256 = d2
    omega
  · rw [pw_16 _ 3 (by omega), shN4, hb, hb, hb, hb]
    show ((d3 / 16777216 * 256 + d3 / 65536 % 256) * 256 + d3 / 256 % 256) * 256 + d3 % 256 = d3
    omega
/-- A digest's text is read as it was. -/
theorem parse_text (d0 d1 d2 d3 : Int) (h0 : InR d0) (h1 : InR d1) (h2 : InR d2) (h3 : InR d3) : digest_Parse.f ⟨(hexL (beL [d0, d1, d2, d3])).toArray⟩ = some (d0, d1, d2, d3, 0) := by
  have hl : (hexL (beL [d0, d1, d2, d3])).length = 32 := by rw [hexL_length, beL_length]; rfl
  rw [dparse_of _ (by show (hexL (beL [d0, d1, d2, d3])).length ≤ _; rw [hl]; decide)]
  unfold parseP
  obtain ⟨g1, g2⟩ := good_hex (beL [d0, d1, d2, d3])
  rw [bytesOf_mk, g1, g2, strOf_nums]
  obtain ⟨p0, p1, p2, p3⟩ := pw_be d0 d1 d2 d3 h0 h1 h2 h3
  rw [if_pos ⟨rfl, by show (beL [d0, d1, d2, d3]).length = 16; rw [beL_length]; rfl⟩, p0, p1, p2, p3]
end Go.Proofs.YthimgiphlenjdaaDoor.PI
