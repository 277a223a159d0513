/- Over any words and number: an image's bytes are the document's, or it is refused; they are read as it. -/
import Derived.Test.YtpnpepimcnidoaaHFns
import Derived.Test.YtpnpepimcnidoaaPIL3
set_option linter.unusedVariables false
set_option linter.unusedSimpArgs false
namespace Go.Proofs.Ytpnpepimcnidoaa.Pure
open Go.RowKit Go.Proofs.Ytpnpepimcnidoaa.PI Go.Proofs.Ytpnpepimcnidoaa.HX Go.Proofs.YtpnpepimcnidoaaW.PrintWords Go.Proofs.YtpnpepimcnidoaaW.PrintLast
theorem ImagePuts (l : List Int) (d : Int) (hu : U32 l) : ∃ k, seedcornlaw08_ImagePuts.f k l d = some true := by
  refine ⟨200000 + 1, ?_⟩
  unfold seedcornlaw08_ImagePuts.f
  rw [awake_f _ (by omega)]
  simp only [Option.bind_some, if_true]
  by_cases h2 : (l.length : Int) > 2000
  · rw [if_pos h2]
  rw [if_neg h2, put_f l d _ (by omega), rput_f l d hu _ (by omega)]
  simp only [Option.bind_some, if_true, bne_self_eq_false]
  rw [seedcornlaw08_ImagePuts.j0, if_neg (by decide)]
  cases hok : okB l d with
  | false =>
    rw [putS_no hok, read_f _ (by decide)]
    have : readS (⟨#[]⟩ : ByteArray) = ([], 0, 7) := read_none _ (by
      rw [Bool.eq_false_iff]; intro h
      have h12 := ((readOk_iff _).1 h).2.1
      have : (⟨#[]⟩ : ByteArray).size = 0 := rfl
      omega)
    simp only [this, Option.bind_some]
    rfl
  | true =>
    have h := okB_iff.1 hok
    have hsz : (strOfNums (enc l d)).size = 12 + 4 * l.length := by rw [strOfNums_size, enc_length]
    rw [putS_ok hok, read_f _ (by show (strOfNums (enc l d)).size ≤ _; omega)]
    simp only [read_enc l d hu h.1 h.2, Option.bind_some, if_true]
    rw [rsame_f l l d d (by omega) _ (by omega)]
    simp [sameB]
end Go.Proofs.Ytpnpepimcnidoaa.Pure
