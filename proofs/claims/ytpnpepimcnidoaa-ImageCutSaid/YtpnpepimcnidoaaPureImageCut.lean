/- Over any image, number and string: no part from the front of an image's bytes, nor they with more behind, is an image. -/
import Derived.Test.YtpnpepimcnidoaaHFns
import Derived.Test.YtpnpepimcnidoaaPIL5
set_option linter.unusedVariables false
set_option linter.unusedSimpArgs false
namespace Go.Proofs.Ytpnpepimcnidoaa.Pure
open Go.RowKit Go.Proofs.Ytpnpepimcnidoaa.PI Go.Proofs.Ytpnpepimcnidoaa.HX Go.Proofs.YtpnpepimcnidoaaW.PrintWords Go.Proofs.YtpnpepimcnidoaaW.PrintLast
theorem ImageCut (l : List Int) (d a : Int) (more : ByteArray) (hu : U32 l) : ∃ k, seedcornlaw08_ImageCut.f k l d a more = some true := by
  refine ⟨200000 + 1, ?_⟩
  have stop : seedcornlaw08_ImageCut.j0 (200000 + 1) a more true l d = some true := by rw [seedcornlaw08_ImageCut.j0, if_pos rfl]
  unfold seedcornlaw08_ImageCut.f
  rw [awake_f _ (by omega)]
  simp only [Option.bind_some, if_true]
  by_cases h2 : (l.length : Int) > 2000
  · rw [if_pos h2]; exact stop
  rw [if_neg h2, rright_f]
  simp only [Option.bind_some]
  cases hok : okB l d with
  | false => rw [if_neg (by decide)]; exact stop
  | true =>
    rw [if_pos rfl]
    by_cases hm : (more.size : Int) > 100
    · rw [decide_eq_true hm]; exact stop
    rw [decide_eq_false hm, seedcornlaw08_ImageCut.j0, if_neg (by decide)]
    have h := okB_iff.1 hok
    have hsz : (strOfNums (enc l d)).size = 12 + 4 * l.length := by rw [strOfNums_size, enc_length]
    rw [put_f l d _ (by omega), putS_ok hok]
    simp only [Option.bind_some, if_true]
    rw [if_pos (by omega)]
    have hcat : strOfNums (enc l d) ++ more = strOfNums (enc l d ++ bytesOf more) := by rw [← strOf_append, strOf_bytesOf]
    have hml : (bytesOf more).length = more.size := bytesOf_length more
    have htest : ∀ r : List Int × Int × Int, r = readS (strOfNums (enc l d) ++ more) → ((r.2.2 == 0) != (more.toList == ([] : List UInt8))) = false := by
      rintro r rfl
      rw [Lib.toList_data]
      by_cases hz : more.size = 0
      · have e : more.data.toList = [] := List.eq_nil_of_length_eq_zero (by rw [Array.length_toList]; exact hz)
        have hb : bytesOf more = [] := List.eq_nil_of_length_eq_zero (by omega)
        rw [hcat, hb, List.append_nil, read_enc l d hu h.1 h.2, e]
        rfl
      · have e : more.data.toList ≠ [] := fun e => hz (by have := congrArg List.length e; rw [Array.length_toList] at this; exact this)
        have hb : bytesOf more ≠ [] := fun e => hz (by rw [← hml, e]; rfl)
        rw [hcat, read_more l d _ (bytesOf_b8 more) h.1 h.2 hb]
        rw [beq_eq_false_iff_ne.2 e]
        rfl
    rw [read_f _ (by rw [ByteArray.size_append]; omega)]
    simp only [Option.bind_some]
    rw [htest _ rfl, if_neg (by decide)]
    by_cases a0 : a < 0
    · rw [if_pos a0]
    rw [if_neg a0]
    by_cases a1 : a ≥ ((strOfNums (enc l d)).size : Int)
    · rw [if_pos a1]
    rw [if_neg a1, if_pos (by omega), if_pos (by omega), read_f _ (by rw [ByteArray.size_extract]; omega)]
    simp only [Option.bind_some]
    rw [read_cut l d a.toNat h.1 h.2 (by omega)]
    rfl
end Go.Proofs.Ytpnpepimcnidoaa.Pure
