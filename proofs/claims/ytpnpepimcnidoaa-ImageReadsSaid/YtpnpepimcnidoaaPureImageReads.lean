/- Over any string: what image.Read answers is what the document's Read answers, and what is read has just these bytes. -/
import Derived.Test.YtpnpepimcnidoaaHFns
import Derived.Test.YtpnpepimcnidoaaPIL4
namespace Go.Proofs.Ytpnpepimcnidoaa.Pure
open Go.RowKit Go.Proofs.Ytpnpepimcnidoaa.PI Go.Proofs.Ytpnpepimcnidoaa.HX Go.Proofs.YtpnpepimcnidoaaW.PrintWords Go.Proofs.YtpnpepimcnidoaaW.PrintLast
theorem ImageReads : seedcornlaw08_ImageReads.Pure := by
  intro s hs
  refine ⟨200000 + 1, ?_⟩
  unfold seedcornlaw08_ImageReads.f
  rw [awake_f _ (by omega)]
  simp only [Option.bind_some, if_true]
  by_cases h8 : (s.size : Int) > 8000
  · rw [if_pos h8]
  rw [if_neg h8, read_f s hs, rread_f s hs _ (by omega)]
  simp only [Option.bind_some, if_true]
  cases hok : readOk s with
  | false =>
    rw [read_none s hok, rsame_f [] [] 0 0 (by decide) _ (by simp)]
    simp only [Option.bind_some, sameB, decide_true, Bool.and_true, Bool.not_true]
    rw [seedcornlaw08_ImageReads.j0, if_neg (by decide), if_neg (by decide)]
  | true =>
    have h := (readOk_iff s).1 hok
    have e : readS s = (wds s 12 (wd s 4).toNat, wd s 8, 0) := by unfold readS; rw [if_pos hok]
    have g := wd_range s 8
    have g4 := wd_range s 4
    have hl : (wds s 12 (wd s 4).toNat).length = (wd s 4).toNat := wds_length _ _ _
    rw [e]
    dsimp only
    rw [rsame_f _ _ _ _ (by omega) _ (by omega)]
    simp only [Option.bind_some, sameB, decide_true, Bool.and_true, Bool.not_true]
    rw [seedcornlaw08_ImageReads.j0, if_neg (by decide), if_pos rfl, put_f _ _ _ (by omega)]
    rw [putS_ok (l := wds s 12 (wd s 4).toNat) (d := wd s 8) (okB_iff.2 ⟨by omega, by omega, by omega⟩), enc_read s hok]
    simp
end Go.Proofs.Ytpnpepimcnidoaa.Pure
