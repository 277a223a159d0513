/- (*strings.Builder).Write at bytes of a row of their own that lies in any block but the builder's. -/
import Derived.Test.YthimgiphlenjdaaDoorHShelf
import Derived.Test.YthimgiphlenjdaaDoorHWords
set_option linter.unusedVariables false
namespace Go.Proofs.YthimgiphlenjdaaDoor.HX
open Go.RowKit Go.Proofs.YthimgiphlenjdaaDoorW.PrintWords
theorem ix24_0 (w : World) (a b c d : Int) : (Instr.index 24 (.agg #[.int .u32 a, .int .u32 b, .int .u32 c, .int .u32 d]) (.int .i64 0)).run Tryd.prog w = .ok (.int .u32 a) w := by
  simp [Instr.index, run_underlying Tryd.underlying24, asIntOf, part, isAgg, run_underlying Tryd.underlying22]
theorem ix24_1 (w : World) (a b c d : Int) : (Instr.index 24 (.agg #[.int .u32 a, .int .u32 b, .int .u32 c, .int .u32 d]) (.int .i64 1)).run Tryd.prog w = .ok (.int .u32 b) w := by
  simp [Instr.index, run_underlying Tryd.underlying24, asIntOf, part, isAgg, run_underlying Tryd.underlying22]
theorem ix24_2 (w : World) (a b c d : Int) : (Instr.index 24 (.agg #[.int .u32 a, .int .u32 b, .int .u32 c, .int .u32 d]) (.int .i64 2)).run Tryd.prog w = .ok (.int .u32 c) w := by
  simp [Instr.index, run_underlying Tryd.underlying24, asIntOf, part, isAgg, run_underlying Tryd.underlying22]
theorem ix24_3 (w : World) (a b c d : Int) : (Instr.index 24 (.agg #[.int .u32 a, .int .u32 b, .int .u32 c, .int .u32 d]) (.int .i64 3)).run Tryd.prog w = .ok (.int .u32 d) w := by
  simp [Instr.index, run_underlying Tryd.underlying24, asIntOf, part, isAgg, run_underlying Tryd.underlying22]
theorem isBuilder_below {T e : TypeId} {B b : Nat} {bs : List Value} {W W' : World} (h : Lib.IsBuilder T e B b bs W) (hb : Below W.heap.size W W') : Lib.IsBuilder T e B b bs W' := by
  have k : ∀ p, Lib.BuilderAt T e B b p bs W → Lib.BuilderAt T e B b p bs W' := fun p h => by
    have hlt := h.lt
    obtain ⟨hB, v, hv, hown, hne⟩ := h
    exact ⟨hB, v, (hb.block b hlt).trans hv, hown.kept (row := none) ⟨hb.os, hb.tape, hb.output, hb.size, fun k hk _ => hb.block k hk⟩ (Classical.em _), hne⟩
  exact h.elim (fun x => .inl (k _ x)) (fun x => .inr (k _ x))
theorem isBuilderF_below {T e : TypeId} {B b : Nat} {bs : List Value} {W W' : World} (h : Lib.IsBuilderF T e B b bs W) (hb : Below W.heap.size W W') : Lib.IsBuilderF T e B b bs W' := by
  have k : ∀ p, Lib.BuilderAtF T e B b p bs W → Lib.BuilderAtF T e B b p bs W' := fun p h => by
    have hlt := h.lt
    obtain ⟨hB, v, hv, hown, hne⟩ := h
    exact ⟨hB, v, (hb.block b hlt).trans hv, hown.kept (row := none) ⟨hb.os, hb.tape, hb.output, hb.size, fun k hk _ => hb.block k hk⟩ (Classical.em _), hne⟩
  exact h.elim (fun x => .inl (k _ x)) (fun x => .inr (k _ x))
theorem copyCheck_cells (B b : Nat) (bs : List Value) (w : World) (h : Lib.IsBuilder 68 5 B b bs w) :
    Calls Tryd.prog 74 #[.pointer (some ⟨b, 0, none⟩)] w fun e w' => e = .returned (.tuple #[]) ∧ Lib.BuilderAt 68 5 B b (.pointer (some ⟨b, 0, none⟩)) bs w' ∧ Below B w w' ∧ ∀ p : Addr, p.block ≠ b → w'.cell? p = w.cell? p := by
  rcases h with h | h
  · refine (Any.Builder_copyCheck_fresh { Tryd.lays105 with } Tryd.Builder_Extra_105.toX72 b w h.cell0 h.shape h.frozen0).mono ?_
    rintro e w' ⟨rfl, rfl⟩
    exact ⟨rfl, h.used _, (Below.refl B w).setCell (p := ⟨b, 0, none⟩) h.1 _, fun p hp => World.cell?_setCell_far _ _ _ _ (fun e => hp e.symm)⟩
  · refine (Any.Builder_copyCheck_used { Tryd.lays105 with } Tryd.Builder_Extra_105.toX72 b w h.cell0).mono ?_
    rintro e w' ⟨rfl, rfl⟩
    exact ⟨rfl, h, Below.refl B _, fun _ _ => rfl⟩
set_option maxHeartbeats 2000000 in
set_option maxRecDepth 100000 in
theorem Builder_Write (B b : Nat) (bs : List Value) (ad : Addr) (m c : Nat) (news : List Value) (w : World) (h : Lib.IsBuilder 68 5 B b bs w)
    (hl : news.length = m) (hnews : ∀ j u, news[j]? = some u → w.cell? (ad.add j) = some u) (hadB : ad.block ≠ b) (h1 : ∀ u ∈ news, u.oneCell' = true)
    (hlen : bs.length + m ≤ 140737488355328) (hBw : B ≤ w.heap.size) :
    Calls Tryd.prog 75 #[.pointer (some ⟨b, 0, none⟩), .slice (some ad) m c] w fun e w' => e = .returned (.tuple #[.int .i64 m, .nilIface]) ∧ (Lib.BuilderAt 68 5 B b (.pointer (some ⟨b, 0, none⟩)) (bs ++ news) w' ∧ Below B w w') := by
  obtain ⟨i0, hi, hz0, hz1, hz2⟩ := info_parts Tryd.Builder_Extra_105.infoByte
  go_enter Tryd.func75, Tryd.ntmps75
  go_wp2_with (go_at_call 74; refine (copyCheck_cells B b bs _ h).mono ?_)
  rintro e w1 ⟨rfl, h1', hb1, hcells⟩
  obtain ⟨hB, v, hbk, hown, hne⟩ := h1'
  have c0 : w1.cell? ⟨b, 0, none⟩ = some (.pointer (some ⟨b, 0, none⟩)) := by rw [Lib.cell_of_heap hbk]; rfl
  have c1 : w1.cell? ⟨b, 1, none⟩ = some v := by rw [Lib.cell_of_heap hbk]; rfl
  have hnews1 : ∀ j u, news[j]? = some u → w1.cell? (ad.add j) = some u := fun j u hj => by rw [hcells (ad.add j) (by unfold Addr.add; split <;> exact hadB)]; exact hnews j u hj
  clear hcells hnews
  have HN := Aside0.mk hnews1
  clear hnews1
  go_wp2_with (at_builtin; refine wpList_append_own _ rfl _ _ 41 rfl B 5 i0 (.int .u8 0) 1 1 Tryd.underlying41 hi hz0 hz1 hz2 rfl (by decide) _ _ _ rfl hown ad m c news rfl (by omega) HN.out h1 ?c3 ?c4 ?c5 ?_)
  case c3 => unfold maxLen; omega
  case c4 => omega
  case c5 => have := hb1.size; omega
  intro v' w2 hown' hgrow _
  have hlt : b < w1.heap.size := by
    rcases Nat.lt_or_ge b w1.heap.size with h' | h'
    · exact h'
    · simp [Array.getElem?_eq_none h'] at hbk
  have hb2 : w2.heap[b]? = some (.cells #[.pointer (some ⟨b, 0, none⟩), v] 68 (0, 0)) := by
    rw [hgrow.block b hlt (fun e => hne e.symm)]
    exact hbk
  have d0 : w2.cell? ⟨b, 0, none⟩ = some (.pointer (some ⟨b, 0, none⟩)) := by rw [Lib.cell_of_heap hb2]; rfl
  have d1 : w2.cell? ⟨b, 1, none⟩ = some v := by rw [Lib.cell_of_heap hb2]; rfl
  have f1 : w2.frozen? ⟨b, 1, none⟩ = false := Lib.frozen_of_heap hb2 1
  obtain ⟨ao, n', cap, rfl⟩ : ∃ ao n' cap, v' = .slice ao n' cap := by
    rcases hown'.2 with ⟨hv, _⟩ | ⟨g, cap, cur, hv, _⟩
    · exact ⟨_, _, _, hv⟩
    · exact ⟨_, _, _, hv⟩
  go_wp2
  go_ret2
  refine ⟨rfl, ?_, ?_⟩
  · exact Lib.BuilderAt.put (T := 68) (e := 5) hB hb2 (bs' := bs ++ news) (by simpa [hl] using hown') (by decide)
  · exact (hb1.grown hgrow (by have := hb1.size; omega) (fun k hk => (hown.lt k hk).1)).setCell (p := ⟨b, 1, none⟩) hB _
/-- At bytes of a row of their own. -/
theorem write_row (B b base : Nat) (ok : Nat → Prop) (l : List UInt8) (x : List UInt8) (y : List Int) (v : Value) (w : World) (h : Lib.IsBuilder 68 5 B b (Lib.byteCells l) w)
    (hv : Kd.R (Kd.int .u8) 5 w base ok v y) (hy : y = x.map fun c : UInt8 => (c.toNat : Int)) (hx : 0 < x.length) (hb : b < base) (hlen : l.length + x.length ≤ 140737488355328) (hBw : B ≤ w.heap.size) :
    Calls Tryd.prog 75 #[.pointer (some ⟨b, 0, none⟩), v] w fun e w' => e = .returned (.tuple #[.int .i64 x.length, .nilIface]) ∧ Lib.BuilderAt 68 5 B b (.pointer (some ⟨b, 0, none⟩)) (Lib.byteCells (l ++ x)) w' ∧ Below B w w' := by
  subst hy
  have ho := Kd.own_of_R (enc := Value.int .u8) (h1 := fun _ => rfl) hv
  have e1 : encs (Value.int .u8) (x.map fun c : UInt8 => (c.toNat : Int)) = Lib.byteCells x := by simp [encs, Lib.byteCells]
  rw [e1, List.length_map] at ho
  have hcs : ∀ g cap, v = .slice (some ⟨g, 0, none⟩) x.length cap → ∀ j u, (Lib.byteCells x)[j]? = some u → w.cell? ((⟨g, 0, none⟩ : Addr).add j) = some u := fun g cap e j u hj => by
    subst e
    exact ho.cells (g := g) rfl j u hj
  rcases ho.2 with ⟨_, h0⟩ | ⟨g, cap, cur, rfl, hg, _⟩
  · omega
  · have e2 : Lib.byteCells (l ++ x) = Lib.byteCells l ++ Lib.byteCells x := by simp [Lib.byteCells]
    rw [e2]
    exact Builder_Write B b (Lib.byteCells l) ⟨g, 0, none⟩ x.length cap (Lib.byteCells x) w h (by simp [Lib.byteCells]) (hcs g cap rfl) (fun e => by have e' : g = b := e; omega) (fun u hu => by simp only [Lib.byteCells, List.mem_map] at hu; obtain ⟨c, _, rfl⟩ := hu; rfl) (by simp [Lib.byteCells]; omega) hBw
theorem write_string (B b : Nat) (bs : List Value) (s : ByteArray) (w : World) (h : Lib.IsBuilder 68 5 B b bs w) (hlen : bs.length + s.size ≤ 140737488355328) (hBw : B ≤ w.heap.size) :
    Calls Tryd.prog 49 #[.pointer (some ⟨b, 0, none⟩), .string s] w fun e w' => e = .returned (.tuple #[.int .i64 s.size, .nilIface]) ∧ (Lib.BuilderAt 68 5 B b (.pointer (some ⟨b, 0, none⟩)) (bs ++ Lib.strCells s) w' ∧ Below B w w') :=
  Any.Builder_WriteString { Tryd.lays105 with } Tryd.Builder_Extra_105 B b bs s w h hlen hBw
theorem builder_string (B b : Nat) (l : List UInt8) (w : World) (h : Lib.IsBuilder 68 5 B b (Lib.byteCells l) w) (hBw : B ≤ w.heap.size) :
    Calls Tryd.prog 51 #[.pointer (some ⟨b, 0, none⟩)] w fun e w' => e = .returned (.string ⟨l.toArray⟩) ∧ Below B w w' :=
  Any.Builder_String_any { Tryd.lays105 with } Tryd.Builder_Extra_105 B b l w h hBw
section
variable {P : Program} {ops : Array Oper} {rest : List Oper} {o : Oper} {a : Act} {Q : Exit → Act → World → Prop}
/-- []byte(s) in a walk: a new block whose cells are the bytes. -/
theorem bytes_event {W : World} (hgd : o.guard = none) {N : Tmp} (_hd : o.dst = some N) (e : TypeId) (s : ByteArray) (n : Nat) (hn : s.size = n)
    (hrun : (execOp a.eval o).run P W = .ok (.value (.slice (some ⟨W.heap.size, 0, none⟩) s.size (grownCap W s.size 0 e))) (Lib.bytesWorld W e s))
    (h : ∀ g c, g = W.heap.size → ∀ w1 : World, (∀ j : Nat, j < n → w1.cell? ⟨g, j, none⟩ = some (.int .u8 (bt s (j : Int)))) → Below W.heap.size W w1 → wpList P ops Q rest (a.put o.dst (.slice (some ⟨g, 0, none⟩) n c)) w1) : wpList P ops Q (o :: rest) a W := by
  subst hn
  refine Kd.event_run hgd hrun (h _ _ rfl _ (fun j hj => ?_) (bytes_below (Below.refl _ _) (Nat.le_refl _) e s))
  rw [Lib.bytesWorld_cell W e s j hj]
  have h' : j < s.data.toList.length := by rw [data_length]; exact hj
  simp [bt, List.getD_eq_getElem?_getD, hj]
  rfl
end
/-- append(x, y) as an operation, by its run. -/
theorem step_append {P : Program} {o : Oper} {a : Act} {W w1 : World} {s x : Tmp} {t u : TypeId} {v y z : Value} (hr : (Builtin.append_ #[t, u] o.type #[v, y]).run P W = .ok z w1) (ho : o.op = .call { callee := .builtin .append, args := #[.tmp s, .tmp x], argTypes := #[t, u] } := by rfl) (hs : a.eval (.tmp s) = v := by rfl) (hx : a.eval (.tmp x) = y := by rfl) :
    (execOp a.eval o).run P W = .ok (.value z) w1 := by
  unfold execOp
  simp only [ho, resolve, invoke, builtin, Sem.run_bind, Sem.run_pure, Result.andThen_ok, List.map_toArray, List.map_cons, List.map_nil, hs, hx, hr]
/-- l[4:] of words that are read. -/
theorem cut4 (A : Option Addr) (c : Nat) (l : List Int) {w : World} (h4 : 4 ≤ l.length) (hC : Kd.C (Kd.int .u32) w A l.length l) (hc : l.length ≤ c) :
    ∃ A' : Option Addr, (∀ W : World, (Instr.slice 60 (.slice A l.length c) (some (.int .i64 4)) none none).run Tryd.prog W = .ok (.slice A' (l.drop 4).length (c - 4)) W) ∧ Kd.C (Kd.int .u32) w A' (l.drop 4).length (l.drop 4) ∧ (l.drop 4).length ≤ c - 4 := by
  refine ⟨if c = 4 then A else A.map (·.add 4), fun W => ?_, ?_, ?_⟩
  · have hel : Tryd.prog.elem 60 = 22 := by simp [Program.elem, Tryd.underlying60]
    have hu : Tryd.prog.underlying 60 = some (.slice (Tryd.prog.elem 60)) := by rw [hel]; exact Tryd.underlying60
    rw [run_slice_l W 60 A l.length c hu .i64 4 (by omega) (by omega), hel]
    have hk : (Tryd.prog.info? 22).map (fun i => i.size) = some 1 := by kernel_rfl
    obtain ⟨i, hi, hs⟩ := Option.map_eq_some_iff.1 hk
    simp [sizeOf, typeInfo, hi, hs, sliced, Result.andThen]
  · have h := Kd.C_drop (c := c) hC h4 hc
    exact h
  · rw [List.length_drop]; omega
end Go.Proofs.YthimgiphlenjdaaDoor.HX
