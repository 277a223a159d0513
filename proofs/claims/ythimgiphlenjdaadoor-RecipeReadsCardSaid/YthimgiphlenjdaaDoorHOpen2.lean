/- How recipes, digests, passes and two bytes that came in are read. -/
import Derived.Test.YthimgiphlenjdaaDoorHOpen
import Derived.Test.YthimgiphlenjdaaDoorPureRight
import Derived.Deep.Slices
set_option linter.unusedVariables false
namespace Go.Proofs.YthimgiphlenjdaaDoor.HX
open Go.ChangeShapes Go.WideShapes Go.ChangeAt Go.RowKit Go.Joins Go.Proofs.YthimgiphlenjdaaDoorW.PrintWords PI
theorem cells46 : Tryd.prog.cellsOf 46 = 8 := by kernel_rfl
theorem cells43 : Tryd.prog.cellsOf 43 = 1 := by kernel_rfl
theorem cells44 : Tryd.prog.cellsOf 44 = 1 := by kernel_rfl
theorem cells55 : Tryd.prog.cellsOf 55 = 2 := by kernel_rfl
theorem cells5 : Tryd.prog.cellsOf 5 = 1 := by kernel_rfl
section
variable {H : Type} {enc : TypeId × Value → H} {W : World} {base b0 : Nat} {v : Value} {d : DataW H} {p : List MemPlace}
theorem ints_of {n : Nat} {c0 : Value} {y : DataW H × List MemPlace} (h : DataW.trod enc Tryd.prog W base (fun _ => true) true n 43 [c0] = some y) :
    ∃ (A : Option Addr) (c : Nat) (l : List Int), c0 = .slice A l.length c ∧ (Kd.int .i64).C W A l.length l ∧ l.length ≤ c := by
  rcases open_ints Tryd.underlying43 Tryd.underlying3 (by kernel_rfl) h with ⟨hcs, _⟩ | ⟨x, len, c, zs, hcs, _, hl, hm, hz, _, hcell, hwz⟩
  · simp only [List.cons.injEq, and_true] at hcs
    exact ⟨none, 0, [], hcs, Kd.C_nil _ _, Nat.le_refl _⟩
  · simp only [List.cons.injEq, and_true] at hcs
    have hz' : zs.length = c := by simpa using hz
    have ht : (zs.take len).length = len := by rw [List.length_take]; omega
    refine ⟨some x, c, zs.take len, by rw [ht]; exact hcs, ?_, by omega⟩
    refine Kd.C_of_reads (enc := Value.int .i64) (d := (0 : Int)) (h1 := fun _ => rfl) (readsInt_of.1 ⟨rfl, by rw [ht]; simp only [maxLen] at hm; omega, fun _ => ⟨x, rfl, fun j hj => ?_⟩⟩)
    rw [ht] at hj
    rw [hcell j (by omega)]
    simp [List.getD_eq_getElem?_getD, hj]
theorem dig_of {n : Nat} {cs : List Value} {y : DataW H × List MemPlace} (h : DataW.trod enc Tryd.prog W base (fun _ => true) true n 24 cs = some y) :
    ∃ s : S24, cs = [.int .u32 s.f0, .int .u32 s.f1, .int .u32 s.f2, .int .u32 s.f3] ∧ DigOk s := by
  obtain ⟨xs, e, hl, hw⟩ := trod_arr Tryd.underlying24 Tryd.underlying22 cells24 cells22 h
  match xs, hl with
  | [x0, x1, x2, x3], _ => exact ⟨⟨x0, x1, x2, x3⟩, e, inR_of (hw x0 (by simp)), inR_of (hw x1 (by simp)), inR_of (hw x2 (by simp)), inR_of (hw x3 (by simp))⟩
theorem digs_of {n : Nat} {c0 : Value} {y : DataW H × List MemPlace} (h : DataW.trod enc Tryd.prog W base (fun _ => true) true n 44 [c0] = some y) :
    ∃ (A : Option Addr) (c : Nat) (l : List S24), c0 = .slice A l.length c ∧ k24.C W A l.length l ∧ l.length ≤ c ∧ ∀ s ∈ l, DigOk s := by
  rcases Go.Deep.open_slice Tryd.underlying44 h with ⟨hcs, _⟩ | ⟨a, len, cap, m, k, D, Pl, hcs, _, hl, hm, hmm, _, hx⟩
  · simp only [List.cons.injEq, and_true] at hcs
    exact ⟨none, 0, [], hcs, Kd.C_nil _ _, Nat.le_refl _, fun s hs => by simp at hs⟩
  · simp only [List.cons.injEq, and_true] at hcs
    have hlm : len ≤ m := by rw [hmm]; split <;> omega
    have each : ∀ i, i < len → ∃ s : S24, DigOk s ∧ ∀ j u, [Value.int .u32 s.f0, .int .u32 s.f1, .int .u32 s.f2, .int .u32 s.f3][j]? = some u → W.cell? (a.add (i * 4 + j)) = some u := by
      intro i hi
      obtain ⟨cs', h1, h2⟩ := hx i (by omega)
      rw [cells24] at h1
      obtain ⟨s, rfl, hok⟩ := dig_of h2
      obtain ⟨_, hlen, hcell⟩ := World.cells?_some h1
      refine ⟨s, hok, fun j u hj => ?_⟩
      have hj4 : j < 4 := (List.getElem?_eq_some_iff.1 hj).1
      have e := hcell j hj4
      rw [Go.Deep.add_add] at e
      rw [e]
      exact hj
    haveI : Inhabited S24 := ⟨z24⟩
    obtain ⟨q, hq⟩ := Go.Deep.choose_lt each
    have hlen : ((List.range len).map q).length = len := by simp
    refine ⟨some a, cap, (List.range len).map q, by rw [hlen]; exact hcs, ⟨rfl, by rw [hlen]; simp only [maxLen] at hm; omega, fun _ => ⟨a, rfl, fun j s hj => ?_⟩⟩, by rw [hlen]; exact hl, fun s hs => ?_⟩
    · have hj1 : j < len := by have := (List.getElem?_eq_some_iff.1 hj).1; simpa using this
      have e : s = q j := by
        rw [List.getElem?_map, List.getElem?_range hj1] at hj
        exact (Option.some.inj hj).symm
      subst e
      exact ⟨_, rfl, k24_mk W (q j), (hq j hj1).2⟩
    · obtain ⟨i, hi, rfl⟩ := List.mem_map.1 hs
      exact (hq i (List.mem_range.1 hi)).1
theorem open_digests (hv : Value.okWide Tryd.prog W .any b0 44 v) (h : DataW.Trod enc Tryd.prog W base (fun _ => true) true 44 v d p) :
    ∃ (A : Option Addr) (c : Nat) (l : List S24), v = .slice A l.length c ∧ k24.C W A l.length l ∧ l.length ≤ c ∧ ∀ s ∈ l, DigOk s := by
  obtain ⟨a, len, cap, rfl⟩ := okWide_slice Tryd.underlying44 hv
  obtain ⟨fuel, hf⟩ := h
  exact digs_of (n := fuel) (by simpa [Value.cells] using hf)
theorem open_passes (hv : Value.okWide Tryd.prog W .any b0 43 v) (h : DataW.Trod enc Tryd.prog W base (fun _ => true) true 43 v d p) :
    ∃ (A : Option Addr) (c : Nat) (l : List Int), v = .slice A l.length c ∧ (Kd.int .i64).C W A l.length l ∧ l.length ≤ c := by
  obtain ⟨a, len, cap, rfl⟩ := okWide_slice Tryd.underlying43 hv
  obtain ⟨fuel, hf⟩ := h
  exact ints_of (n := fuel) (by simpa [Value.cells] using hf)
theorem open_two (hv : Value.okWide Tryd.prog W .any b0 55 v) (h : DataW.Trod enc Tryd.prog W base (fun _ => true) true 55 v d p) :
    ∃ x0 x1 : Int, v = .agg #[.int .u8 x0, .int .u8 x1] ∧ (0 ≤ x0 ∧ x0 ≤ 255) ∧ (0 ≤ x1 ∧ x1 ≤ 255) := by
  simp only [Value.okWide, Tryd.underlying55] at hv
  obtain ⟨cs, rfl, h2, _⟩ := hv
  obtain ⟨fuel, hf⟩ := h
  obtain ⟨xs, e, hl, hw⟩ := trod_arr Tryd.underlying55 Tryd.underlying5 cells55 cells5 hf
  have e' : cs.toList = xs.map (Value.int .u8) := e
  obtain rfl : cs = (xs.map (Value.int .u8)).toArray := by rw [← e']
  match xs, hl with
  | [x0, x1], _ =>
    have h0 := hw x0 (by simp)
    have h1 := hw x1 (by simp)
    simp only [Lit.wf, IntKind.bits, Bool.and_eq_true, decide_eq_true_eq] at h0 h1
    exact ⟨x0, x1, rfl, by simpa using bounds_u8 (hw x0 (by simp)), by simpa using bounds_u8 (hw x1 (by simp))⟩
theorem open_recipe (hv : Value.okWide Tryd.prog W .any b0 46 v) (h : DataW.Trod enc Tryd.prog W base (fun _ => true) true 46 v d p) :
    ∃ (A5 : Option Addr) (c5 : Nat) (A6 : Option Addr) (c6 : Nat) (r : Rec), v = .agg #[.int .i64 r.tool, .int .u32 r.i0, .int .u32 r.i1, .int .u32 r.i2, .int .u32 r.i3, .slice A5 r.ps.length c5, .slice A6 r.ds.length c6, .int .i64 r.fuel] ∧
      (Kd.int .i64).C W A5 r.ps.length r.ps ∧ r.ps.length ≤ c5 ∧ k24.C W A6 r.ds.length r.ds ∧ r.ds.length ≤ c6 ∧ r.Ok := by
  obtain ⟨cs, rfl, hsz⟩ := okWide_struct Tryd.underlying46 hv
  rw [cells46] at hsz
  obtain ⟨l⟩ := cs
  match l, hsz with
  | [c0, c1, c2, c3, c4, c5, c6, c7], _ =>
    obtain ⟨fuel, hf⟩ := h
    obtain ⟨xs, n, _, _, hl, hlen, hx⟩ := DataW.trod_struct Tryd.underlying46 hf
    match xs, hlen with
    | [y0, y1, y2, y3, y4], _ =>
      have g0 : DataW.trod enc Tryd.prog W base (fun _ => true) true n 3 (([c0, c1, c2, c3, c4, c5, c6, c7].drop 0).take (Tryd.prog.cellsOf 3)) = some y0 := hx 0 _ rfl
      have g1 : DataW.trod enc Tryd.prog W base (fun _ => true) true n 24 (([c0, c1, c2, c3, c4, c5, c6, c7].drop 1).take (Tryd.prog.cellsOf 24)) = some y1 := hx 1 _ rfl
      have g2 : DataW.trod enc Tryd.prog W base (fun _ => true) true n 43 (([c0, c1, c2, c3, c4, c5, c6, c7].drop 5).take (Tryd.prog.cellsOf 43)) = some y2 := hx 2 _ rfl
      have g3 : DataW.trod enc Tryd.prog W base (fun _ => true) true n 44 (([c0, c1, c2, c3, c4, c5, c6, c7].drop 6).take (Tryd.prog.cellsOf 44)) = some y3 := hx 3 _ rfl
      have g4 : DataW.trod enc Tryd.prog W base (fun _ => true) true n 3 (([c0, c1, c2, c3, c4, c5, c6, c7].drop 7).take (Tryd.prog.cellsOf 3)) = some y4 := hx 4 _ rfl
      rw [cells3] at g0 g4
      rw [cells24] at g1
      rw [cells43] at g2
      rw [cells44] at g3
      obtain ⟨t, e0, _, _⟩ := DataW.trod_int Tryd.underlying3 (show DataW.trod enc Tryd.prog W base (fun _ => true) true n 3 [c0] = some y0 from g0)
      obtain ⟨s, e1, hs⟩ := dig_of (show DataW.trod enc Tryd.prog W base (fun _ => true) true n 24 [c1, c2, c3, c4] = some y1 from g1)
      obtain ⟨A5, k5, ps, e2, h2, l2⟩ := ints_of (show DataW.trod enc Tryd.prog W base (fun _ => true) true n 43 [c5] = some y2 from g2)
      obtain ⟨A6, k6, ds, e3, h3, l3, h3'⟩ := digs_of (show DataW.trod enc Tryd.prog W base (fun _ => true) true n 44 [c6] = some y3 from g3)
      obtain ⟨f, e4, _, _⟩ := DataW.trod_int Tryd.underlying3 (show DataW.trod enc Tryd.prog W base (fun _ => true) true n 3 [c7] = some y4 from g4)
      simp only [List.cons.injEq, and_true] at e0
      simp only [List.cons.injEq, and_true] at e1
      simp only [List.cons.injEq, and_true] at e4
      obtain ⟨rfl, rfl, rfl, rfl⟩ := e1
      subst e0 e2 e3 e4
      exact ⟨A5, k5, A6, k6, ⟨t, s.f0, s.f1, s.f2, s.f3, ps, ds, f⟩, rfl, h2, l2, h3, l3, hs.1, hs.2.1, hs.2.2.1, hs.2.2.2, h3'⟩
end
end Go.Proofs.YthimgiphlenjdaaDoor.HX
