/- Over any two images: the one's bytes stand ahead of the other one's only if they are alike. -/
import Derived.Test.YtpnpepimcnidoaaHFns
import Derived.Test.YtpnpepimcnidoaaPIL6
set_option linter.unusedVariables false
set_option linter.unusedSimpArgs false
namespace Go.Proofs.Ytpnpepimcnidoaa.Pure
open Go.RowKit Go.Proofs.Ytpnpepimcnidoaa.PI Go.Proofs.Ytpnpepimcnidoaa.HX Go.Proofs.YtpnpepimcnidoaaW.PrintWords Go.Proofs.YtpnpepimcnidoaaW.PrintLast
theorem ImagePrefix (l : List Int) (d : Int) (m : List Int) (e : Int) (hu : U32 l) (hv : U32 m) : ∃ k, seedcornlaw08_ImagePrefix.f k l d m e = some true := by
  refine ⟨200000 + 1, ?_⟩
  have stop : seedcornlaw08_ImagePrefix.j0 (200000 + 1) true l d m e = some true := by rw [seedcornlaw08_ImagePrefix.j0, if_pos rfl]
  unfold seedcornlaw08_ImagePrefix.f
  rw [awake_f _ (by omega)]
  simp only [Option.bind_some, if_true]
  by_cases h2 : (l.length : Int) > 500
  · rw [if_pos h2]; exact stop
  rw [if_neg h2]
  by_cases h3 : (m.length : Int) > 500
  · rw [if_pos h3]; exact stop
  rw [if_neg h3, rright_f, rright_f]
  simp only [Option.bind_some]
  cases hok : okB l d with
  | false => rw [if_neg (by decide)]; exact stop
  | true =>
  rw [if_pos rfl]
  cases hok2 : okB m e with
  | false => exact stop
  | true =>
  have h := okB_iff.1 hok
  have g := okB_iff.1 hok2
  have hsz : (strOfNums (enc l d)).size = 12 + 4 * l.length := by rw [strOfNums_size, enc_length]
  have gsz : (strOfNums (enc m e)).size = 12 + 4 * m.length := by rw [strOfNums_size, enc_length]
  rw [seedcornlaw08_ImagePrefix.j0, if_neg (by decide), put_f l d _ (by omega), put_f m e _ (by omega), putS_ok hok, putS_ok hok2, rsame_f l m d e (by omega) _ (by omega)]
  simp only [Option.bind_some, if_true]
  by_cases hle : ((strOfNums (enc l d)).size : Int) ≤ ((strOfNums (enc m e)).size : Int)
  · rw [if_pos hle, if_pos (by omega), toList_beq, hsz]
    have : decide ((strOfNums (enc m e)).extract 0 (((12 + 4 * l.length : Nat) : Int)).toNat = strOfNums (enc l d)) = sameB l d m e := by
      rw [Int.toNat_natCast]
      by_cases hs : sameB l d m e = true
      · rw [hs]
        unfold sameB at hs
        simp only [Bool.and_eq_true, decide_eq_true_eq] at hs
        obtain ⟨rfl, rfl⟩ := hs
        refine decide_eq_true (bytes_ext ?_)
        rw [bytesOf_extract, List.drop_zero, List.take_of_length_le (by rw [bytesOf_length]; omega)]
      · have hs' := Bool.eq_false_iff.2 hs
        rw [hs']
        refine decide_eq_false fun hx => hs ?_
        obtain ⟨rfl, rfl⟩ := enc_prefix hu hv h.1 g.1 h.2 g.2 (by omega) hx
        simp [sameB]
    rw [this]
    simp
  · rw [if_neg hle]
    have : l ≠ m := fun hx => hle (by rw [hsz, gsz, hx]; omega)
    simp [sameB, this]
end Go.Proofs.Ytpnpepimcnidoaa.Pure
