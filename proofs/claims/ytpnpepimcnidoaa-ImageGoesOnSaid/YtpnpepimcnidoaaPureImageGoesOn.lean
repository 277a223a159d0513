/- Over any image and words: with words more behind its code an image's bytes are four longer for each, and the same but for how many there are. -/
import Derived.Test.YtpnpepimcnidoaaHFns
import Derived.Test.YtpnpepimcnidoaaPIL7
set_option linter.unusedVariables false
set_option linter.unusedSimpArgs false
namespace Go.Proofs.Ytpnpepimcnidoaa.Pure
open Go.RowKit Go.Proofs.Ytpnpepimcnidoaa.PI Go.Proofs.Ytpnpepimcnidoaa.HX Go.Proofs.YtpnpepimcnidoaaW.PrintWords Go.Proofs.YtpnpepimcnidoaaW.PrintLast
theorem mid (X Y Z : List Int) (n : Nat) (hx : X.length = 8) (hy : Y.length = n) : ((X ++ (Y ++ Z)).take (8 + n)).drop 8 = Y := by
  subst hy
  rw [← hx, ← List.append_assoc, ← List.length_append, List.take_left, List.drop_left]
theorem ImageGoesOn (l : List Int) (d : Int) (m : List Int) (hu : U32 l) (hv : U32 m) : ∃ k, seedcornlaw08_ImageGoesOn.f k l d m = some true := by
  refine ⟨200000 + 1, ?_⟩
  have stop : seedcornlaw08_ImageGoesOn.j0 (200000 + 1) m true l d = some true := by rw [seedcornlaw08_ImageGoesOn.j0, if_pos rfl]
  unfold seedcornlaw08_ImageGoesOn.f
  rw [awake_f _ (by omega)]
  simp only [Option.bind_some, if_true]
  by_cases h2 : (l.length : Int) > 500
  · rw [if_pos h2]; exact stop
  rw [if_neg h2]
  by_cases h3 : (m.length : Int) > 500
  · rw [if_pos h3]; exact stop
  rw [if_neg h3, rright_f]
  simp only [Option.bind_some]
  cases hok : okB l d with
  | false => exact stop
  | true =>
  have h := okB_iff.1 hok
  have hok2 : okB (l ++ m) d = true := okB_iff.2 ⟨by rw [List.length_append]; omega, h.2⟩
  have hsz : (strOfNums (enc l d)).size = 12 + 4 * l.length := by rw [strOfNums_size, enc_length]
  have gsz : (strOfNums (enc (l ++ m) d)).size = 12 + 4 * (l.length + m.length) := by rw [strOfNums_size, enc_length, List.length_append]
  rw [Bool.not_true, seedcornlaw08_ImageGoesOn.j0, if_neg (by decide), put_f l d _ (by omega), putS_ok hok]
  simp only [Option.bind_some, List.nil_append, List.length_nil, Nat.zero_add]
  rw [if_pos (by omega), if_pos (by omega), put_f (l ++ m) d _ (by omega), putS_ok hok2]
  simp only [Option.bind_some, if_true]
  rw [if_pos (by omega)]
  rw [wrap64_of (n := 4 * (m.length : Int)) (by omega) (by omega), wrap64_of (n := ((strOfNums (enc l d)).size : Int) + 4 * (m.length : Int)) (by omega) (by omega)]
  rw [if_pos (by omega), if_pos (by decide), if_pos (by omega), if_pos (by omega)]
  have e4 : (strOfNums (enc (l ++ m) d)).extract 0 4 = (strOfNums (enc l d)).extract 0 4 := by
    apply bytes_ext
    rw [bytesOf_extract, bytesOf_extract, bytesOf_strOf (enc_b8 _ _), bytesOf_strOf (enc_b8 _ _)]
    rfl
  rw [if_pos (by rw [e4]), if_pos (by omega), if_pos (by omega)]
  have e8 : (strOfNums (enc (l ++ m) d)).extract 8 (((strOfNums (enc l d)).size : Int)).toNat = (strOfNums (enc l d)).extract 8 (strOfNums (enc l d)).size := by
    apply bytes_ext
    rw [Int.toNat_natCast, bytesOf_extract, bytesOf_extract, bytesOf_strOf (enc_b8 _ _), bytesOf_strOf (enc_b8 _ _)]
    have a1 : enc (l ++ m) d = ([83, 69, 69, 68] ++ bw1 ((l ++ m).length : Int)) ++ ((bw1 d ++ bw l) ++ bw m) := by simp [enc, bw]
    have a2 : enc l d = ([83, 69, 69, 68] ++ bw1 (l.length : Int)) ++ (bw1 d ++ bw l) := by simp [enc, bw]
    have b1 : ([83, 69, 69, 68] ++ bw1 ((l ++ m).length : Int)).length = 8 := rfl
    have b2 : ([83, 69, 69, 68] ++ bw1 (l.length : Int)).length = 8 := rfl
    have b3 : (bw1 d ++ bw l).length = 4 + 4 * l.length := by rw [List.length_append, bw_length]; rfl
    have r2 : (enc l d).take (strOfNums (enc l d)).size = enc l d := List.take_of_length_le (by rw [enc_length]; omega)
    rw [r2, hsz, a1, a2, show 12 + 4 * l.length = 8 + (4 + 4 * l.length) by omega, mid _ _ _ _ b1 b3, ← b2, List.drop_left]
  rw [e8]
  simp
end Go.Proofs.Ytpnpepimcnidoaa.Pure
