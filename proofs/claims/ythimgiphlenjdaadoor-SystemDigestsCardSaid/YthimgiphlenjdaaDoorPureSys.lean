/- What the law SystemDigests asks, in plain words. -/
import Derived.Test.YthimgiphlenjdaaDoorPureOf
import Derived.Test.YthimgiphlenjdaaDoorPureText
import Derived.Test.YthimgiphlenjdaaDoorF3
set_option linter.unusedVariables false
namespace Go.Proofs.YthimgiphlenjdaaDoor.PI
open Go.RowKit Go.Proofs.YthimgiphlenjdaaDoorW.PrintWords HX
theorem toList_inj {s t : ByteArray} (h : s.toList = t.toList) : s = t := by
  rw [Lib.toList_data, Lib.toList_data] at h
  exact ByteArray.ext (Array.toList_inj.1 h)
theorem spongeL_ok : ∀ (l : List Int) (s : St), s.Ok → (spongeL l s).Ok
  | [], s, h => h
  | [_], s, h => h
  | [_, _], s, h => h
  | [_, _, _], s, h => h
  | a :: b :: c :: d :: l, s, h => spongeL_ok l _ (tk_ok s h a b c d)
theorem ofS_ok (s : ByteArray) : (ofS s).Ok := spongeL_ok _ _ st1_ok
def digEq (x y : St) : Bool := (x.a == y.a && (x.b == y.b && (x.c == y.c && (x.d == y.d))))
theorem text_inj (x y : St) (hx : x.Ok) (hy : y.Ok) : ((⟨(hexL (beL [x.a, x.b, x.c, x.d])).toArray⟩ : ByteArray).toList == (⟨(hexL (beL [y.a, y.b, y.c, y.d])).toArray⟩ : ByteArray).toList) = digEq x y := by
  rw [Bool.eq_iff_iff]
  unfold digEq
  simp only [Bool.and_eq_true, beq_iff_eq]
  constructor
  · intro h
    have e := toList_inj h
    have px := parse_text x.a x.b x.c x.d hx.1 hx.2.1 hx.2.2.1 hx.2.2.2.1
    have py := parse_text y.a y.b y.c y.d hy.1 hy.2.1 hy.2.2.1 hy.2.2.2.1
    rw [e, py] at px
    have q := Option.some.inj px
    simp only [Prod.mk.injEq] at q
    exact ⟨q.1.symm, q.2.1.symm, q.2.2.1.symm, q.2.2.2.1.symm⟩
  · rintro ⟨h1, h2, h3, h4⟩
    rw [h1, h2, h3, h4]
theorem sys_law (k : Nat) (s t : ByteArray) (x y : St) (hx : x.Ok) (hy : y.Ok) (h1 : digest_Of.f k s = some (x.a, x.b, x.c, x.d)) (h2 : digest_Of.f k t = some (y.a, y.b, y.c, y.d)) (he : s = t → x = y) : seedcorntop_SystemDigests.j0 (k + 1) s t false = some true := by
  have tx := text_of x.a x.b x.c x.d hx.1 hx.2.1 hx.2.2.1 hx.2.2.2.1
  have ty := text_of y.a y.b y.c y.d hy.1 hy.2.1 hy.2.2.1 hy.2.2.2.1
  have px := parse_text x.a x.b x.c x.d hx.1 hx.2.1 hx.2.2.1 hx.2.2.2.1
  have ti := text_inj x y hx hy
  generalize (⟨(hexL (beL [x.a, x.b, x.c, x.d])).toArray⟩ : ByteArray) = u at tx px ti
  generalize (⟨(hexL (beL [y.a, y.b, y.c, y.d])).toArray⟩ : ByteArray) = v at ty ti
  rw [seedcorntop_SystemDigests.j0, if_neg (by decide), h1, Option.bind_some, h2, Option.bind_some]
  simp only []
  rw [tx, Option.bind_some, px, Option.bind_some]
  simp only []
  rw [if_pos trivial, if_pos (by simp), ty]
  simp only [Option.bind_some]
  rw [ti]
  unfold digEq
  by_cases hst : s = t
  · obtain rfl := he hst
    rw [if_pos (by rw [hst]), if_pos (by simp)]
    simp
  · rw [if_neg (fun q => hst (toList_inj q))]
    simp
theorem pureSystemDigests (s t : ByteArray) : ∃ k, seedcorntop_SystemDigests.f k s t = some true := by
  refine ⟨2001, ?_⟩
  unfold seedcorntop_SystemDigests.f
  by_cases h1 : s.size ≤ 200
  · rw [if_neg (by omega)]
    by_cases h2 : t.size ≤ 200
    · rw [show decide ((t.size : Int) > 200) = false from decide_eq_false (by omega)]
      exact sys_law 2000 s t (ofS s) (ofS t) (ofS_ok s) (ofS_ok t) (of_of s (by omega) 2000 (Nat.le_refl _)) (of_of t (by omega) 2000 (Nat.le_refl _)) (fun e => by rw [e])
    · rw [show decide ((t.size : Int) > 200) = true from decide_eq_true (by omega), seedcorntop_SystemDigests.j0, if_pos rfl]
  · rw [if_pos (by omega), seedcorntop_SystemDigests.j0, if_pos rfl]
end Go.Proofs.YthimgiphlenjdaaDoor.PI
