/- How an image and a slice of words that came in are read. -/
import Derived.Test.YtpnpepimcnidoaaRows
import Derived.Test.YtpnpepimcnidoaaHLaw
import Derived.WalkKit
import Derived.ProofKit
import Derived.OpenShut
import Derived.ShutString
import Derived.ChangeOld
import Derived.Below
import Derived.SizedLaws
import Derived.Lib.SmallJoins
namespace Go.Proofs.Ytpnpepimcnidoaa.PI
open Go.ChangeShapes Go.WideShapes Go.ChangeAt Go.RowKit Go.Joins Go.Proofs.YtpnpepimcnidoaaW.PrintWords
theorem laidOut : laidOutB Try.prog = true := by kernel_rfl
theorem cells24 : Try.prog.cellsOf 24 = 2 := by kernel_rfl
section
variable {H : Type} {enc : TypeId × Value → H} {W : World} {base b0 : Nat} {v : Value} {d : DataW H} {p : List MemPlace}
theorem words_of {n : Nat} {c0 : Value} {y : DataW H × List MemPlace} (h : DataW.trod enc Try.prog W base (fun _ => true) true n 22 [c0] = some y) :
    ∃ (A : Option Addr) (c : Nat) (l : List Int), c0 = .slice A l.length c ∧ (Kd.int .u32).C W A l.length l ∧ l.length ≤ c ∧ U32 l := by
  rcases open_ints Try.underlying22 Try.underlying36 (by kernel_rfl) h with ⟨hcs, _⟩ | ⟨x, len, c, zs, hcs, _, hl, hm, hz, _, hcell, hwz⟩
  · simp only [List.cons.injEq, and_true] at hcs
    exact ⟨none, 0, [], hcs, Kd.C_nil _ _, Nat.le_refl _, fun x hx => by simp at hx⟩
  · simp only [List.cons.injEq, and_true] at hcs
    have hz' : zs.length = c := by simpa using hz
    have ht : (zs.take len).length = len := by rw [List.length_take]; omega
    refine ⟨some x, c, zs.take len, by rw [ht]; exact hcs, ?_, by omega, fun y hy => ?_⟩
    · refine Kd.C_of_reads (enc := Value.int .u32) (d := (0 : Int)) (h1 := fun _ => rfl) (readsInt_of.1 ⟨rfl, by rw [ht]; simp only [maxLen] at hm; omega, fun _ => ⟨x, rfl, fun j hj => ?_⟩⟩)
      rw [ht] at hj
      rw [hcell j (by omega)]
      simp [List.getD_eq_getElem?_getD, hj]
    · have := bounds_u32 (hwz y (List.mem_of_mem_take hy))
      omega
theorem open_words (hv : Value.okWide Try.prog W .any b0 22 v) (h : DataW.Trod enc Try.prog W base (fun _ => true) true 22 v d p) :
    ∃ (A : Option Addr) (c : Nat) (l : List Int), v = .slice A l.length c ∧ (Kd.int .u32).C W A l.length l ∧ l.length ≤ c ∧ U32 l := by
  obtain ⟨a, len, cap, rfl⟩ := okWide_slice Try.underlying22 hv
  obtain ⟨fuel, hf⟩ := h
  exact words_of (n := fuel) (by simpa [Value.cells] using hf)
theorem open_image (hv : Value.okWide Try.prog W .any b0 24 v) (h : DataW.Trod enc Try.prog W base (fun _ => true) true 24 v d p) :
    ∃ (A : Option Addr) (c : Nat) (l : List Int) (a : Int), v = .agg #[.slice A l.length c, .int .i64 a] ∧ (Kd.int .u32).C W A l.length l ∧ l.length ≤ c ∧ U32 l ∧ -9223372036854775808 ≤ a ∧ a ≤ 9223372036854775807 := by
  obtain ⟨c0, c1, y0, y1, m, rfl, _, _, hy0, hy1⟩ := open_agg2 Try.underlying24 (by kernel_rfl) cells24 hv h
  obtain ⟨A, c, l, rfl, h1, h2, h3⟩ := words_of hy0
  obtain ⟨a, e0, _, wa⟩ := DataW.trod_int Try.underlying3 hy1
  simp only [List.cons.injEq, and_true] at e0
  subst e0
  have := bounds_i64 wa
  exact ⟨A, c, l, a, rfl, h1, h2, h3, this.1, this.2⟩
end
end Go.Proofs.Ytpnpepimcnidoaa.PI
