/- Mix and Unmix undo each other; both answers are the reference's: what the laws DigestMixes and DigestBack ask, in plain words. -/
import Derived.Test.YthimgiphlenjdaaDoorF4
import Derived.Test.YthimgiphlenjdaaDoorF5
set_option linter.unusedVariables false
namespace Go.Proofs.YthimgiphlenjdaaDoor.PI
open Go.RowKit Go.Proofs.YthimgiphlenjdaaDoorW.PrintWords HX
theorem mix_of (s : St) (h : s.Ok) : digest_Mix.f s.a s.b s.c s.d s.e s.f s.g s.h = some (mixS s).tup := if_pos h
theorem unmix_of (s : St) (h : s.Ok) : digest_Unmix.f s.a s.b s.c s.d s.e s.f s.g s.h = some (unmixS s).tup := if_pos h
theorem rmix_of (s : St) (h : s.Ok) : seedcornref03_Mix.f s.a s.b s.c s.d s.e s.f s.g s.h = some (mixS s).tup := if_pos h
theorem runmix_of (s : St) (h : s.Ok) : seedcornref03_Unmix.f s.a s.b s.c s.d s.e s.f s.g s.h = some (unmixS s).tup := if_pos h
def stEq (s t : St) : Bool := (s.a == t.a && (s.b == t.b && (s.c == t.c && (s.d == t.d && (s.e == t.e && (s.f == t.f && (s.g == t.g && s.h == t.h)))))))
theorem stEq_refl (s : St) : stEq s s = true := by simp [stEq]
theorem stEq_iff (s t : St) : stEq s t = true ↔ s = t := by
  constructor
  · intro h
    simp only [stEq, Bool.and_eq_true, beq_iff_eq] at h
    obtain ⟨h1, h2, h3, h4, h5, h6, h7, h8⟩ := h
    cases s
    cases t
    simp only at h1 h2 h3 h4 h5 h6 h7 h8
    subst h1 h2 h3 h4 h5 h6 h7 h8
    rfl
  · rintro rfl
    exact stEq_refl s
theorem mixS_ok (s : St) (h : s.Ok) : (mixS s).Ok := mixN_ok 8 1 s h
theorem unmixS_ok (s : St) (h : s.Ok) : (unmixS s).Ok := unmixN_ok 8 s h
theorem mix_inj (s t : St) (hs : s.Ok) (ht : t.Ok) : stEq (mixS s) (mixS t) = stEq s t := by
  rw [Bool.eq_iff_iff, stEq_iff, stEq_iff]
  exact ⟨fun h => by rw [← unmix_mix s hs, ← unmix_mix t ht, h], fun h => by rw [h]⟩
theorem pureDigestMixes (s : St) (h : s.Ok) : seedcornlaw03_DigestMixes.f s.a s.b s.c s.d s.e s.f s.g s.h = some true := by
  unfold seedcornlaw03_DigestMixes.f
  rw [seedcornlaw03_awake.is, mix_of s h, rmix_of s h, unmix_of s h, runmix_of s h]
  have e1 := stEq_refl (mixS s)
  have e2 := stEq_refl (unmixS s)
  unfold stEq at e1 e2
  simp only [Option.bind_some, St.tup, if_true]
  rw [e1, e2]
  rfl
theorem pureDigestBack (s t : St) (h : s.Ok) (k : t.Ok) : seedcornlaw03_DigestBack.f s.a s.b s.c s.d s.e s.f s.g s.h t.a t.b t.c t.d t.e t.f t.g t.h = some true := by
  unfold seedcornlaw03_DigestBack.f
  rw [seedcornlaw03_awake.is, mix_of s h, unmix_of s h, mix_of t k]
  simp only [Option.bind_some, St.tup, if_true]
  rw [unmix_of (mixS s) (mixS_ok s h), mix_of (unmixS s) (unmixS_ok s h), unmix_mix s h, mix_unmix s h]
  simp only [Option.bind_some, St.tup, if_true]
  have e1 := stEq_refl s
  have e2 := mix_inj s t h k
  unfold stEq at e1 e2
  rw [e1, e2]
  simp
end Go.Proofs.YthimgiphlenjdaaDoor.PI
