/- How what came in is read: arrays of words, strings; the table of turns behind the row's list; the world of the witness. -/
import Derived.Test.YthimgiphlenjdaaDoorCards
import Derived.Test.YthimgiphlenjdaaDoorTie
import Derived.Test.YthimgiphlenjdaaDoorHMix
import Derived.WalkKit
import Derived.ProofKit
import Derived.OpenShut
import Derived.ShutString
import Derived.ChangeOld
import Derived.Below
import Derived.SizedLaws
import Derived.Deep.DeepHandedRow
import Derived.Lib.LaidTab
import Derived.Lib.SmallJoins
set_option linter.unusedVariables false
namespace Go.Proofs.YthimgiphlenjdaaDoor.HX
open Go.ChangeShapes Go.WideShapes Go.ChangeAt Go.RowKit Go.Joins Go.Proofs.YthimgiphlenjdaaDoorW.PrintWords
theorem laidOut : laidOutB Tryd.prog = true := by kernel_rfl
theorem cells31 : Tryd.prog.cellsOf 31 = 8 := by kernel_rfl
theorem cells24 : Tryd.prog.cellsOf 24 = 4 := by kernel_rfl
theorem cells22 : Tryd.prog.cellsOf 22 = 1 := by kernel_rfl
theorem own : ownKnob Tryd.prog.godebug = none := by kernel_rfl
theorem gTab : Tryd.prog.globalNamed "seedcorn/digest.turns" = some 0 := by kernel_rfl
theorem gTabType : (Tryd.prog.globals[0]?).map (·.type) = some 75 := by kernel_rfl
theorem cells75 : Tryd.prog.cellsOf 75 = 4 := by kernel_rfl
theorem cells3 : Tryd.prog.cellsOf 3 = 1 := by kernel_rfl
section
variable {H : Type} {enc : TypeId × Value → H} {P : Program} {W : World} {base : Nat} {sp : Nat → Bool} {held : Bool}
theorem mapM_ints {e : TypeId} {q : IntKind} (he : P.underlying e = some (.int q)) {m : Nat} {cs : List Value} : ∀ (L : List Nat) (ys : List (DataW H × List MemPlace)),
    L.mapM (fun i => DataW.trod enc P W base sp held m e ((cs.drop (i * 1)).take 1)) = some ys → ∀ i ∈ L, ∃ a : Int, (cs.drop i).take 1 = [.int q a] ∧ (Lit.int q a).wf = true
  | [], _, _, _, hi => by simp at hi
  | j :: L, ys, h, i, hi => by
    rw [List.mapM_cons] at h
    simp only [bind, Option.bind_eq_some_iff, pure, Option.some.injEq] at h
    obtain ⟨y, hy, zs, hzs, rfl⟩ := h
    rcases List.mem_cons.1 hi with rfl | hi
    · obtain ⟨a, ea, _, wa⟩ := DataW.trod_int he hy
      exact ⟨a, by simpa using ea, wa⟩
    · exact mapM_ints he L zs hzs i hi
theorem trod_arr {t e : TypeId} {q : IntKind} {n : Nat} (hu : P.underlying t = some (.array n e)) (he : P.underlying e = some (.int q)) (hc : P.cellsOf t = n) (hce : P.cellsOf e = 1) {fuel : Nat} {cs : List Value} {y : DataW H × List MemPlace}
    (h : DataW.trod enc P W base sp held fuel t cs = some y) : ∃ xs : List Int, cs = xs.map (Value.int q) ∧ xs.length = n ∧ ∀ x ∈ xs, (Lit.int q x).wf = true := by
  cases fuel with
  | zero => simp [DataW.trod] at h
  | succ m =>
    rw [DataW.trod_step] at h
    unfold DataW.trodStep at h
    simp only [hu, hce, hc] at h
    split at h
    · rename_i hl
      simp only [Option.map_eq_some_iff] at h
      obtain ⟨ys, hy, _⟩ := h
      have hall : ∀ i (hi : i < cs.length), ∃ a : Int, cs[i] = .int q a ∧ (Lit.int q a).wf = true := fun i hi => by
        obtain ⟨a, ea, wa⟩ := mapM_ints he _ _ hy i (by simp; omega)
        rw [List.drop_eq_getElem_cons hi] at ea
        simp only [List.take_succ_cons, List.take_zero, List.cons.injEq, and_true] at ea
        exact ⟨a, ea, wa⟩
      have build : ∀ l : List Value, (∀ v ∈ l, ∃ a : Int, v = .int q a ∧ (Lit.int q a).wf = true) → ∃ xs : List Int, l = xs.map (Value.int q) ∧ ∀ x ∈ xs, (Lit.int q x).wf = true := by
        intro l
        induction l with
        | nil => exact fun _ => ⟨[], rfl, fun _ hx => by simp at hx⟩
        | cons v l ih =>
          intro hl
          obtain ⟨a, rfl, wa⟩ := hl v (by simp)
          obtain ⟨xs, rfl, hxs⟩ := ih fun u hu => hl u (by simp [hu])
          exact ⟨a :: xs, rfl, fun x hx => (List.mem_cons.1 hx).elim (fun e => by rw [e]; exact wa) (hxs x)⟩
      obtain ⟨xs, rfl, hxs⟩ := build cs fun v hv => by
        obtain ⟨i, hi, rfl⟩ := List.mem_iff_getElem.1 hv
        exact hall i hi
      exact ⟨xs, rfl, by simpa using hl, hxs⟩
    · cases h
end
section
variable {H : Type} {enc : TypeId × Value → H} {W : World} {base b0 : Nat} {v : Value} {d : DataW H} {p : List MemPlace}
theorem inR_of {x : Int} (h : (Lit.int .u32 x).wf = true) : InR x := by
  have := bounds_u32 h
  exact ⟨by omega, by omega⟩
theorem open_state (hv : Value.okWide Tryd.prog W .any b0 31 v) (h : DataW.Trod enc Tryd.prog W base (fun _ => true) true 31 v d p) :
    ∃ x0 x1 x2 x3 x4 x5 x6 x7 : Int, v = .agg #[.int .u32 x0, .int .u32 x1, .int .u32 x2, .int .u32 x3, .int .u32 x4, .int .u32 x5, .int .u32 x6, .int .u32 x7] ∧ (St.mk x0 x1 x2 x3 x4 x5 x6 x7).Ok := by
  simp only [Value.okWide, Tryd.underlying31] at hv
  obtain ⟨cs, rfl, h2, _⟩ := hv
  obtain ⟨fuel, hf⟩ := h
  obtain ⟨xs, e, hl, hw⟩ := trod_arr Tryd.underlying31 Tryd.underlying22 cells31 cells22 hf
  have e' : cs.toList = xs.map (Value.int .u32) := e
  obtain rfl : cs = (xs.map (Value.int .u32)).toArray := by rw [← e']
  match xs, hl with
  | [x0, x1, x2, x3, x4, x5, x6, x7], _ =>
    exact ⟨x0, x1, x2, x3, x4, x5, x6, x7, rfl, inR_of (hw x0 (by simp)), inR_of (hw x1 (by simp)), inR_of (hw x2 (by simp)), inR_of (hw x3 (by simp)), inR_of (hw x4 (by simp)), inR_of (hw x5 (by simp)), inR_of (hw x6 (by simp)), inR_of (hw x7 (by simp))⟩
theorem open_digest (hv : Value.okWide Tryd.prog W .any b0 24 v) (h : DataW.Trod enc Tryd.prog W base (fun _ => true) true 24 v d p) :
    ∃ x0 x1 x2 x3 : Int, v = .agg #[.int .u32 x0, .int .u32 x1, .int .u32 x2, .int .u32 x3] ∧ InR x0 ∧ InR x1 ∧ InR x2 ∧ InR x3 := by
  simp only [Value.okWide, Tryd.underlying24] at hv
  obtain ⟨cs, rfl, h2, _⟩ := hv
  obtain ⟨fuel, hf⟩ := h
  obtain ⟨xs, e, hl, hw⟩ := trod_arr Tryd.underlying24 Tryd.underlying22 cells24 cells22 hf
  have e' : cs.toList = xs.map (Value.int .u32) := e
  obtain rfl : cs = (xs.map (Value.int .u32)).toArray := by rw [← e']
  match xs, hl with
  | [x0, x1, x2, x3], _ => exact ⟨x0, x1, x2, x3, rfl, inR_of (hw x0 (by simp)), inR_of (hw x1 (by simp)), inR_of (hw x2 (by simp)), inR_of (hw x3 (by simp))⟩
end
theorem tabIs {W : World} (h : laidMetH Tryd.prog Rows.digestMixesRow.laid W) : Lib.TabIs Tryd.prog W "seedcorn/digest.turns" .i64 [7, 9, 13, 18] :=
  Lib.tabIs_of_head (rest := []) gTab gTabType Tryd.underlying75 Tryd.underlying3 cells3 cells75 h
theorem tab_of {W : World} (h : laidMetH Tryd.prog Rows.digestMixesRow.laid W) : Tab W := by
  have h1 := tabIs h
  unfold Lib.TabIs World.var? at h1
  rw [gTab] at h1
  simp only [Option.bind_some] at h1
  split at h1
  · rename_i cs t fr hh
    have e : cs = _ := Option.some.inj h1
    subst e
    exact ⟨t, fr, hh⟩
  · cases h1
end Go.Proofs.YthimgiphlenjdaaDoor.HX
