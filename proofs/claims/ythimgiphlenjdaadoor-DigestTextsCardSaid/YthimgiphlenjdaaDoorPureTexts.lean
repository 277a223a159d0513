/- What the law DigestTexts asks, in plain words. -/
import Derived.Test.YthimgiphlenjdaaDoorPureText
import Derived.Test.YthimgiphlenjdaaDoorF6
set_option linter.unusedVariables false
namespace Go.Proofs.YthimgiphlenjdaaDoor.PI
open Go.RowKit Go.Proofs.YthimgiphlenjdaaDoorW.PrintWords HX
theorem small_hex : ∀ (l : List UInt8), ∀ x ∈ hexL l, (48 ≤ x.toNat ∧ x.toNat ≤ 57) ∨ (97 ≤ x.toNat ∧ x.toNat ≤ 102)
  | [], x, hx => by simp [hexL] at hx
  | c :: l, x, hx => by
    have hc := c.toNat_lt
    have e : hexL (c :: l) = digs.data.toList.getD (c.toNat / 16) 0 :: digs.data.toList.getD (c.toNat % 16) 0 :: hexL l := rfl
    rw [e] at hx
    rcases List.mem_cons.1 hx with rfl | hx
    · exact (hv_digs ⟨c.toNat / 16, by omega⟩).2
    · rcases List.mem_cons.1 hx with rfl | hx
      · exact (hv_digs ⟨c.toNat % 16, by omega⟩).2
      · exact small_hex l x hx
theorem texts_loop (t : ByteArray) (ht : t.size = 32) (hd : ∀ i : Nat, i < 32 → (48 ≤ bt t (i : Int) ∧ bt t (i : Int) ≤ 57) ∨ (97 ≤ bt t (i : Int) ∧ bt t (i : Int) ≤ 102)) (d0 d1 d2 d3 : Int) (hp : digest_Parse.f t = some (d0, d1, d2, d3, 0)) (hr : seedcornref03_Text.f d0 d1 d2 d3 = some t) :
    ∀ (n i k : Nat), n + i = 32 → n + 1 ≤ k → seedcornlaw03_DigestTexts.l0 k t (i : Int) d0 d1 d2 d3 = some true
  | 0, i, k, hi, hk => by
    obtain ⟨k, rfl⟩ : ∃ m, k = m + 1 := ⟨k - 1, by omega⟩
    rw [seedcornlaw03_DigestTexts.l0, if_neg (by omega), hp, seedcornlaw03_awake.is, hr]
    simp
  | n + 1, i, k, hi, hk => by
    obtain ⟨k, rfl⟩ : ∃ m, k = m + 1 := ⟨k - 1, by omega⟩
    have ih := texts_loop t ht hd d0 d1 d2 d3 hp hr n (i + 1) k (by omega) (by omega)
    rw [show ((i + 1 : Nat) : Int) = (i : Int) + 1 from rfl] at ih
    have h := hd i (by omega)
    rw [seedcornlaw03_DigestTexts.l0, if_pos (by omega), if_pos (by omega), if_neg (by omega), w64 _ (by omega) (by omega)]
    by_cases c1 : bt t (i : Int) > 57
    · rw [if_pos c1, if_neg (by omega), if_neg (by omega)]
      exact ih
    · rw [if_neg c1]
      exact ih
theorem pureDigestTexts (d0 d1 d2 d3 : Int) (h0 : InR d0) (h1 : InR d1) (h2 : InR d2) (h3 : InR d3) : ∃ k, seedcornlaw03_DigestTexts.f k d0 d1 d2 d3 = some true := by
  have hl : (hexL (beL [d0, d1, d2, d3])).length = 32 := by rw [hexL_length, beL_length]; rfl
  refine ⟨40, ?_⟩
  unfold seedcornlaw03_DigestTexts.f
  rw [text_of d0 d1 d2 d3 h0 h1 h2 h3, Option.bind_some, if_pos (by show ((hexL (beL [d0, d1, d2, d3])).length : Int) = 32; rw [hl]; rfl)]
  refine texts_loop ⟨(hexL (beL [d0, d1, d2, d3])).toArray⟩ hl (fun i hi => ?_) d0 d1 d2 d3 (parse_text d0 d1 d2 d3 h0 h1 h2 h3) (rdtext_of d0 d1 d2 d3 h0 h1 h2 h3) 32 0 40 (by omega) (by omega)
  have hlt : (i : Int).toNat < (⟨(hexL (beL [d0, d1, d2, d3])).toArray⟩ : ByteArray).size := by show i < (hexL (beL [d0, d1, d2, d3])).length; omega
  rw [← bt_at _ _ hlt]
  have hs := small_hex (beL [d0, d1, d2, d3]) ((⟨(hexL (beL [d0, d1, d2, d3])).toArray⟩ : ByteArray)[(i : Int).toNat]'hlt) (by
    show (hexL (beL [d0, d1, d2, d3])).toArray[(i : Int).toNat]'hlt ∈ _
    simp)
  omega
end Go.Proofs.YthimgiphlenjdaaDoor.PI
