/- Over any two images and number: two images with the same bytes are alike; one with one word, or Data, another has other bytes. -/
import Derived.Test.YtpnpepimcnidoaaPureImageRight
import Derived.Test.YtpnpepimcnidoaaPIL9
set_option linter.unusedVariables false
set_option linter.unusedSimpArgs false
namespace Go.Proofs.Ytpnpepimcnidoaa.Pure
open Go.RowKit Go.Proofs.Ytpnpepimcnidoaa.PI Go.Proofs.Ytpnpepimcnidoaa.HX Go.Proofs.YtpnpepimcnidoaaW.PrintWords Go.Proofs.YtpnpepimcnidoaaW.PrintLast
theorem ImageApart (l : List Int) (d : Int) (m : List Int) (e : Int) (a : Int) (hu : U32 l) (hv : U32 m) : ∃ k, seedcornlaw08_ImageApart.f k l d m e a = some true := by
  refine ⟨200000 + 1, ?_⟩
  have stop : seedcornlaw08_ImageApart.j0 (200000 + 1) a true l d m e = some true := by rw [seedcornlaw08_ImageApart.j0, if_pos rfl]
  unfold seedcornlaw08_ImageApart.f
  rw [awake_f _ (by omega)]
  simp only [Option.bind_some, if_true]
  by_cases h2 : (l.length : Int) > 500
  · rw [if_pos h2]; exact stop
  rw [if_neg h2]
  by_cases h3 : (m.length : Int) > 500
  · rw [if_pos h3]; exact stop
  rw [if_neg h3, rright_f, rright_f]
  simp only [Option.bind_some]
  cases hok : okB l d with
  | false => rw [if_neg (by decide)]; exact stop
  | true =>
  rw [if_pos rfl]
  cases hok2 : okB m e with
  | false => exact stop
  | true =>
  have h := okB_iff.1 hok
  have g := okB_iff.1 hok2
  have hsz : (strOfNums (enc l d)).size = 12 + 4 * l.length := by rw [strOfNums_size, enc_length]
  rw [Bool.not_true, seedcornlaw08_ImageApart.j0, if_neg (by decide), put_f l d _ (by omega), put_f m e _ (by omega), putS_ok hok, putS_ok hok2, same_f l m d e (by omega) _ (by omega)]
  simp only [Option.bind_some, List.nil_append, List.length_nil, Nat.zero_add]
  have t1 : (((strOfNums (enc l d)).toList == (strOfNums (enc m e)).toList) != sameB l d m e) = false := by
    rw [toList_beq]
    by_cases hs : sameB l d m e = true
    · rw [hs]
      unfold sameB at hs
      simp only [Bool.and_eq_true, decide_eq_true_eq] at hs
      obtain ⟨rfl, rfl⟩ := hs
      simp
    · have hs' := Bool.eq_false_iff.2 hs
      have : ¬ strOfNums (enc l d) = strOfNums (enc m e) := fun hx => hs (by
        obtain ⟨rfl, rfl⟩ := enc_inj hu hv h.1 g.1 h.2 g.2 hx
        simp [sameB])
      rw [hs', decide_eq_false this]
      rfl
  rw [t1, if_neg (by decide), if_pos (by omega)]
  rw [wrap64_of (n := 32768 - d) (by omega) (by omega)]
  have hok3 : okB l (32768 - d) = true := okB_iff.2 ⟨h.1, by omega, by omega⟩
  have h3' := okB_iff.1 hok3
  rw [put_f l (32768 - d) _ (by omega), putS_ok hok3]
  simp only [Option.bind_some]
  have t2 : (((strOfNums (enc l (32768 - d))).toList == (strOfNums (enc l d)).toList) != (d == 16384)) = false := by
    rw [toList_beq]
    by_cases hd : d = 16384
    · subst hd; simp
    · have : ¬ strOfNums (enc l (32768 - d)) = strOfNums (enc l d) := fun hx => hd (by
        have := (enc_inj hu hu h.1 h.1 h3'.2 h.2 hx).2
        omega)
      rw [decide_eq_false this, beq_eq_false_iff_ne.2 hd]
      rfl
  rw [t2, if_neg (by decide)]
  by_cases a0 : a < 0
  · rw [if_pos a0]
  rw [if_neg a0]
  by_cases a1 : a ≥ (l.length : Int)
  · rw [if_pos a1]
  rw [if_neg a1, if_pos (by omega), if_pos (by omega)]
  obtain ⟨i, rfl⟩ := Int.eq_ofNat_of_zero_le (show 0 ≤ a by omega)
  have hi : i < l.length := by omega
  rw [Int.toNat_natCast]
  have hsl : (l.set i ((rd l (i : Nat) + 1) % 4294967296)).length = l.length := List.length_set
  have hok4 : okB (l.set i ((rd l (i : Nat) + 1) % 4294967296)) d = true := okB_iff.2 ⟨by omega, h.2⟩
  have hus : U32 (l.set i ((rd l (i : Nat) + 1) % 4294967296)) := fun x hx => by
    rcases List.mem_or_eq_of_mem_set hx with h1 | h1
    · exact hu x h1
    · omega
  rw [put_f _ d _ (by omega), putS_ok hok4]
  simp only [Option.bind_some]
  have r := rd_u32 hu i hi
  have ne : ¬ (strOfNums (enc (l.set i ((rd l (i : Nat) + 1) % 4294967296)) d)).toList = (strOfNums (enc l d)).toList := fun hx => by
    have hx2 : strOfNums (enc (l.set i ((rd l (i : Nat) + 1) % 4294967296)) d) = strOfNums (enc l d) := of_decide_eq_true (by rw [← toList_beq]; exact beq_iff_eq.2 hx)
    have he := (enc_inj hus hu (by omega) h.1 h.2 h.2 hx2).1
    have hg : (l.set i ((rd l (i : Nat) + 1) % 4294967296))[i]? = l[i]? := by rw [he]
    rw [List.getElem?_set_self hi] at hg
    have e1 : rd l (i : Nat) = l[i] := by simp [rd, List.getD_eq_getElem?_getD, List.getElem?_eq_getElem hi]
    rw [List.getElem?_eq_getElem hi, ← e1] at hg
    have := Option.some.inj hg
    omega
  rw [if_neg ne]
  rw [strOfNums_size, strOfNums_size, enc_length, enc_length, hsl]
  simp
end Go.Proofs.Ytpnpepimcnidoaa.Pure
