/- Bytes appended to what []byte(s) has made: the row bears the conversion's mark behind its cells. -/
import Derived.Test.YthimgiphlenjdaaDoorHWrite
set_option linter.unusedVariables false
namespace Go.Proofs.YthimgiphlenjdaaDoor.HX
open Go.RowKit Go.Proofs.YthimgiphlenjdaaDoorW.PrintWords
/-- The slice v holds the bytes bs in a row of the call's own; what is frozen of the row lies behind its cells. -/
def OwnC (w : World) (base : Nat) (v : Value) (bs : List Int) : Prop :=
  ∃ g cap cur fz, v = .slice (some ⟨g, 0, none⟩) bs.length cap ∧ base ≤ g ∧ w.heap[g]? = some (.cells cur 5 fz) ∧ (∀ j, j < cur.size → ¬ (fz.1 ≤ j ∧ j < fz.2)) ∧ bs.length ≤ cap ∧ cap ≤ maxLen ∧ cur.size = cap ∧ cur.toList.take bs.length = bs.map (Value.int .u8)
theorem OwnC.below {w w1 : World} {base : Nat} {v : Value} {bs : List Int} (h : OwnC w base v bs) (hb : Below w.heap.size w w1) : OwnC w1 base v bs := by
  obtain ⟨g, cap, cur, fz, rfl, hg, hh, r⟩ := h
  exact ⟨g, cap, cur, fz, rfl, hg, (hb.block g (blk_lt hh)).trans hh, r⟩
theorem blk_lt' {w : World} {g : Nat} {o : Obj} (h : w.heap[g]? = some o) : g < w.heap.size := (Array.getElem?_eq_some_iff.1 h).1
theorem OwnC.form {w : World} {base : Nat} {v : Value} {bs : List Int} (h : OwnC w base v bs) : ∃ g cap, v = .slice (some ⟨g, 0, none⟩) bs.length cap ∧ base ≤ g ∧ g < w.heap.size ∧ bs.length ≤ cap ∧ ∀ j : Nat, ∀ x, bs[j]? = some x → w.cell? ⟨g, j, none⟩ = some (.int .u8 x) := by
  obtain ⟨g, cap, cur, fz, rfl, hg, hh, hf, h1, h2, h3, h4⟩ := h
  refine ⟨g, cap, rfl, hg, blk_lt' hh, h1, fun j x hj => ?_⟩
  rw [cell_of_row w g j cur 5 fz hh]
  have hlt : j < bs.length := (List.getElem?_eq_some_iff.1 hj).1
  have e := congrArg (fun l : List Value => l[j]?) h4
  simp only [List.getElem?_take, hlt, if_true, List.getElem?_map, hj, Option.map_some] at e
  simpa using e
/-- []byte(s). -/
theorem OwnC_conv (W : World) (s : ByteArray) (hs : s.size ≤ maxLen) : OwnC (Lib.bytesWorld W 5 s) W.heap.size (.slice (some ⟨W.heap.size, 0, none⟩) s.size (grownCap W s.size 0 5)) (bytesOf s) := by
  have hge := grownCap_ge W s.size 0 5
  have hle := grownCap_le_maxLen W s.size 0 5 hs
  have hsz : (Lib.bytesCells W 5 s).size = grownCap W s.size 0 5 := by
    unfold Lib.bytesCells
    simp only [Array.size_append, Array.size_map, Array.size_replicate]
    have : s.data.size = s.size := rfl
    omega
  refine ⟨W.heap.size, grownCap W s.size 0 5, Lib.bytesCells W 5 s, _, by rw [bytesOf_length], Nat.le_refl _, Lib.bytesWorld_at_new W 5 s, fun j hj h => ?_, by rw [bytesOf_length]; exact hge, hle, hsz, ?_⟩
  · simp only at h
    omega
  · unfold Lib.bytesCells
    rw [Array.toList_append, bytesOf_length]
    have e : (s.data.map fun b => Value.int .u8 (b.toNat : Int)).toList.length = s.size := by simp
    rw [← e, List.take_left]
    simp [bytesOf]
theorem run_storeCells_atC (P : Program) (g o : Nat) (t : TypeId) (fz : Nat × Nat) : ∀ (vs : List Value) (i : Nat) (cur : Array Value) (w : World), w.heap[g]? = some (.cells cur t fz) → (∀ j, j < cur.size → ¬ (fz.1 ≤ j ∧ j < fz.2)) → o + i + vs.length ≤ cur.size → (∀ v ∈ vs, v.oneCell' = true) →
    (storeCells ⟨g, o, none⟩ vs i).run P w = .ok () (w.setRow g (cur.toList.take (o + i) ++ vs ++ cur.toList.drop (o + i + vs.length)).toArray)
  | [], i, cur, w, hg, _, _, _ => by
    simp only [storeCells, List.append_nil, List.length_nil, Nat.add_zero, List.take_append_drop, Array.toArray_toList]
    rw [setRow_self w g cur t fz hg]
    rfl
  | v :: rest, i, cur, w, hg, hfz, hl, h1 => by
    have hi : o + i < cur.size := by simp at hl; omega
    have hadd : (⟨g, o, none⟩ : Addr).add i = ⟨g, o + i, none⟩ := by unfold Addr.add; split <;> simp_all
    have hcell : w.cell? ⟨g, o + i, none⟩ = some cur[o + i] := by simp [World.cell?, hg, hi]
    have hfro : w.frozen? ⟨g, o + i, none⟩ = false := by
      obtain ⟨lo, hi'⟩ := fz
      have h2 := hfz (o + i) hi
      simp only [World.frozen?, hg]
      simp only at h2
      rw [Bool.and_eq_false_iff, decide_eq_false_iff_not, decide_eq_false_iff_not]
      by_cases h3 : lo ≤ o + i
      · exact .inr fun h4 => h2 ⟨h3, h4⟩
      · exact .inl h3
    have hst : (store ((⟨g, o, none⟩ : Addr).add i) v).run P w = .ok () (w.setRow g (cur.setIfInBounds (o + i) v)) := by
      rw [hadd, run_store P w _ v _ (h1 v (by simp)), hcell]
      simp [hfro, setCell_eq_setRow w g (o + i) cur t fz v hg]
    have ih := run_storeCells_atC P g o t fz rest (i + 1) (cur.setIfInBounds (o + i) v) (w.setRow g (cur.setIfInBounds (o + i) v)) (setRow_heap w g cur _ t _ hg) (by simpa using hfz) (by simp at hl ⊢; omega) (fun x hx => h1 x (by simp [hx]))
    simp only [storeCells, Sem.run_bind, hst, Result.andThen_ok, ih, setRow_setRow]
    congr 3
    have e := list_seg_step cur.toList (o + i) v rest (by simp at hl ⊢; omega)
    simpa [Array.toList_setIfInBounds, Nat.add_assoc] using e
theorem append_conv (w : World) (base : Nat) (v : Value) (bs : List Int) (hC : OwnC w base v bs) (ad : Addr) (m c : Nat) (ns : List Int) (hl : ns.length = m) (hn : ∀ j u, (ns.map (Value.int .u8))[j]? = some u → w.cell? (ad.add j) = some u) (hm : bs.length + m ≤ 4294967296) (hbase : base ≤ w.heap.size) :
    ∃ v' w', (Builtin.append_ #[41, 41] 41 #[v, .slice (some ad) m c]).run Tryd.prog w = .ok v' w' ∧ OwnC w' base v' (bs ++ ns) ∧ Below base w w' := by
  obtain ⟨g, cap, cur, fz, rfl, hg, hh, hf, h1, h2, h3, h4⟩ := hC
  obtain ⟨i, hi, hz0, hz1, hz2⟩ := info_parts Tryd.Builder_Extra_105.infoByte
  have h1c : ∀ u ∈ ns.map (Value.int .u8), u.oneCell' = true := fun u hu => by obtain ⟨x, _, rfl⟩ := List.mem_map.1 hu; rfl
  have hln : (ns.map (Value.int .u8)).length = m * i.size := by rw [List.length_map, hz1, hl, Nat.mul_one]
  have hfc := run_firstCells_some (P := Tryd.prog) w i.size m ad m c (ns.map (Value.int .u8)) hln hn
  by_cases hroom : bs.length + m ≤ cap
  · have hst := run_storeCells_atC Tryd.prog g (bs.length * i.size) 5 fz (ns.map (Value.int .u8)) 0 cur w hh hf (by rw [hz1, List.length_map]; omega) h1c
    simp only [Nat.add_zero] at hst
    have hr : (Builtin.append_ #[41, 41] 41 #[.slice (some ⟨g, 0, none⟩) bs.length cap, .slice (some ad) m c]).run Tryd.prog w = .ok (.slice (some ⟨g, 0, none⟩) (bs.length + m) cap) (w.setRow g (cur.toList.take (bs.length * i.size) ++ ns.map (Value.int .u8) ++ cur.toList.drop (bs.length * i.size + (ns.map (Value.int .u8)).length)).toArray) := by
      have hi5 : Tryd.prog.info? 5 = some i := hi
      simp [Builtin.append_, run_underlying Tryd.underlying41, sizeOf, typeInfo, hi5, Builtin.lenOf, hroom, hfc, Addr.add_lit, hst]
    refine ⟨_, _, hr, ⟨g, cap, _, fz, by rw [List.length_append, hl], hg, setRow_heap w g cur _ 5 _ hh, ?_, by rw [List.length_append, hl]; exact hroom, h2, ?_, ?_⟩, ?_⟩
    · intro j hj
      refine hf j ?_
      simp only [hz1, Nat.mul_one, List.size_toArray, List.length_append, List.length_take, List.length_map, List.length_drop, Array.length_toList] at hj
      omega
    · simp only [hz1, Nat.mul_one, List.size_toArray, List.length_append, List.length_take, List.length_map, List.length_drop, Array.length_toList]
      omega
    · simp only [hz1, Nat.mul_one]
      rw [h4, List.map_append, List.length_append]
      rw [show bs.length + ns.length = (bs.map (Value.int .u8) ++ ns.map (Value.int .u8)).length by simp]
      exact List.take_left
    · exact ⟨rfl, rfl, rfl, by simp, fun k hk => setRow_other w g k _ (by omega)⟩
  · have holds : ∀ j u, (bs.map (Value.int .u8))[j]? = some u → w.cell? ((⟨g, 0, none⟩ : Addr).add j) = some u := fun j u hj => by
      rw [add_at, Nat.zero_add, cell_of_row w g j cur 5 fz hh]
      rw [← h4, List.getElem?_take] at hj
      split at hj
      · simpa using hj
      · cases hj
    have hr := run_append_grow (P := Tryd.prog) w 41 41 5 i (.int .u8 0) Tryd.underlying41 hi hz0 ⟨g, 0, none⟩ bs.length cap (bs.map (Value.int .u8)) (by rw [hz1]; simp) holds ad m c (ns.map (Value.int .u8)) hln hn (by omega) (by omega) (growslice_fits (by omega) (by rw [hz2]; omega))
    have hge := grownCap_ge w (bs.length + m) cap 5
    have hle : grownCap w (bs.length + m) cap 5 ≤ maxLen := grownCap_le_maxLen w (bs.length + m) cap 5 (by unfold maxLen; omega)
    refine ⟨_, _, hr, ⟨w.heap.size, _, _, (0, 0), by rw [List.length_append, hl], hbase, heap_alloc_new w.drew _, fun j _ h => by omega, by rw [List.length_append, hl]; exact hge, hle, ?_, ?_⟩, ?_⟩
    · have hz9 : (Value.int IntKind.u8 0).cells.size = 1 := rfl
      simp only [Array.size_append, List.size_toArray, size_zeroCells, hz9, List.length_map]
      omega
    · simp only [Array.toList_append]
      rw [List.map_append, List.length_append, show bs.length + ns.length = (bs.map (Value.int .u8) ++ ns.map (Value.int .u8)).length by simp]
      exact List.take_left
    · exact (below_alloc (below_drew1 (Below.refl _ _)) _).mono hbase
theorem OwnC.far {w : World} {base g n cap : Nat} {bs : List Int} (h : OwnC w base (.slice (some ⟨g, 0, none⟩) n cap) bs) {p : Addr} (hne : g ≠ p.block) (u : Value) : OwnC (w.setCell p u) base (.slice (some ⟨g, 0, none⟩) n cap) bs := by
  obtain ⟨g', cap', cur, fz, e, hg, hh, r⟩ := h
  have e1 : g = g' := by injection e with e1; injection e1 with e1; injection e1
  subst e1
  exact ⟨g, cap', cur, fz, e, hg, (Below.heap_setCell w p u g hne).trans hh, r⟩
theorem OwnC.drew {w : World} {base : Nat} {v : Value} {bs : List Int} (h : OwnC w base v bs) : OwnC w.drew base v bs := h
/-- What is read at place j. -/
theorem OwnC.at {w : World} {base g n cap : Nat} {bs : List Int} (h : OwnC w base (.slice (some ⟨g, 0, none⟩) n cap) bs) (j : Nat) (hj : j < bs.length) : w.cell? ⟨g, j, none⟩ = some (.int .u8 (rd bs (j : Int))) := by
  obtain ⟨g', cap', e, _, _, _, hc⟩ := h.form
  have e1 : g = g' := by injection e with e1; injection e1 with e1; injection e1
  subst e1
  refine hc j _ ?_
  unfold rd
  rw [Int.toNat_natCast, List.getD_eq_getElem?_getD, List.getElem?_eq_getElem hj]
  rfl
theorem OwnC.lower {w : World} {base base' : Nat} {v : Value} {bs : List Int} (h : OwnC w base v bs) (hb : base' ≤ base) : OwnC w base' v bs := by
  obtain ⟨g, cap, cur, fz, e, hg, r⟩ := h
  exact ⟨g, cap, cur, fz, e, Nat.le_trans hb hg, r⟩
section
variable {ops : Array Oper} {rest : List Oper} {o : Oper} {a : Act} {Q : Exit → Act → World → Prop} {W : World}
theorem convC_event (hgd : o.guard = none) {N : Tmp} (_hd : o.dst = some N) (base : Nat) (s : ByteArray) (n : Nat) (hn : s.size = n) (hs : s.size ≤ maxLen) (hbase : base ≤ W.heap.size)
    (hrun : (execOp a.eval o).run Tryd.prog W = .ok (.value (.slice (some ⟨W.heap.size, 0, none⟩) s.size (grownCap W s.size 0 5))) (Lib.bytesWorld W 5 s))
    (h : ∀ g cap w1, OwnC w1 base (.slice (some ⟨g, 0, none⟩) n cap) (bytesOf s) → Below W.heap.size W w1 → wpList Tryd.prog ops Q rest (a.put o.dst (.slice (some ⟨g, 0, none⟩) n cap)) w1) : wpList Tryd.prog ops Q (o :: rest) a W := by
  subst hn
  exact Kd.event_run hgd hrun (h _ _ _ ((OwnC_conv W s hs).lower hbase) (bytes_below (Below.refl _ _) (Nat.le_refl _) 5 s))
theorem appC_event (hgd : o.guard = none) {N : Tmp} (_hd : o.dst = some N) (s x : Tmp) (ho : o.op = .call { callee := .builtin .append, args := #[.tmp s, .tmp x], argTypes := #[41, 41] }) (hty : o.type = 41) (base : Nat) (v : Value) (bs : List Int) (A : Option Addr) (m c : Nat) (ns : List Int) (n : Nat) (hn : bs.length + m = n)
    (hs : a.eval (.tmp s) = v) (hx : a.eval (.tmp x) = .slice A m c) (hC : OwnC W base v bs) (hR : Kd.C (Kd.int .u8) W A m ns) (h0 : 0 < m) (hm : n ≤ 4294967296) (hbase : base ≤ W.heap.size)
    (h : ∀ g cap w1, OwnC w1 base (.slice (some ⟨g, 0, none⟩) n cap) (bs ++ ns) → Below base W w1 → wpList Tryd.prog ops Q rest (a.put o.dst (.slice (some ⟨g, 0, none⟩) n cap)) w1) : wpList Tryd.prog ops Q (o :: rest) a W := by
  have hlm : ns.length = m := hR.1
  obtain ⟨ad, rfl, hcells⟩ := hR.2.2 h0
  have hn' : ∀ j u, (ns.map (Value.int .u8))[j]? = some u → W.cell? (ad.add j) = some u := fun j u hj => by
    rw [List.getElem?_map] at hj
    obtain ⟨y, hy, rfl⟩ := Option.map_eq_some_iff.1 hj
    obtain ⟨cs, _, hk, hcc⟩ := hcells j y hy
    have e : cs = [.int .u8 y] := hk
    subst e
    have h9 := hcc 0 (.int .u8 y) rfl
    rwa [show j * (Kd.int .u8).sz + 0 = j from by show j * 1 + 0 = j; omega] at h9
  obtain ⟨v', w1, hr, hC', hB⟩ := append_conv W base v bs hC ad m c ns hlm hn' (by omega) hbase
  obtain ⟨g, cap, e, _⟩ := hC'.form
  have e2 : (bs ++ ns).length = n := by rw [List.length_append]; omega
  rw [e2] at e
  subst e
  exact Kd.event_run hgd (step_append (by rw [hty]; exact hr) ho hs hx) (h g cap w1 hC' hB)
end
end Go.Proofs.YthimgiphlenjdaaDoor.HX
