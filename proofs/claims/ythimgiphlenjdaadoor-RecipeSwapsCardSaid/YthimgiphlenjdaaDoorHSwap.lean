/- The law RecipeSwaps' memory: four recipes' boxes, three rows of the call's own. -/
import Derived.Test.YthimgiphlenjdaaDoorHPut
set_option linter.unusedVariables false
namespace Go.Proofs.YthimgiphlenjdaaDoor.HX
open Go.RowKit Go.Proofs.YthimgiphlenjdaaDoorW.PrintWords PI
theorem blk_put8 {W : World} {g : Nat} {t : TypeId} {z0 z1 z2 z3 z4 z5 z6 z7 : Value} (h : W.heap[g]? = some (.cells #[z0, z1, z2, z3, z4, z5, z6, z7] t (0, 0))) (c0 c1 c2 c3 c4 c5 c6 c7 : Value) :
    ((((((((W.setCell ⟨g, 0, none⟩ c0).setCell ⟨g, 1, none⟩ c1).setCell ⟨g, 2, none⟩ c2).setCell ⟨g, 3, none⟩ c3).setCell ⟨g, 4, none⟩ c4).setCell ⟨g, 5, none⟩ c5).setCell ⟨g, 6, none⟩ c6).setCell ⟨g, 7, none⟩ c7).heap[g]? = some (.cells #[c0, c1, c2, c3, c4, c5, c6, c7] t (0, 0)) := by
  have h0 := blk_put h 0 c0 (cs' := #[c0, z1, z2, z3, z4, z5, z6, z7]) rfl
  have h1 := blk_put h0 1 c1 (cs' := #[c0, c1, z2, z3, z4, z5, z6, z7]) rfl
  have h2 := blk_put h1 2 c2 (cs' := #[c0, c1, c2, z3, z4, z5, z6, z7]) rfl
  have h3 := blk_put h2 3 c3 (cs' := #[c0, c1, c2, c3, z4, z5, z6, z7]) rfl
  have h4 := blk_put h3 4 c4 (cs' := #[c0, c1, c2, c3, c4, z5, z6, z7]) rfl
  have h5 := blk_put h4 5 c5 (cs' := #[c0, c1, c2, c3, c4, c5, z6, z7]) rfl
  have h6 := blk_put h5 6 c6 (cs' := #[c0, c1, c2, c3, c4, c5, c6, z7]) rfl
  exact blk_put h6 7 c7 rfl
/-- Nothing but the block g (type 46) is written. -/
structure Only (g : Nat) (W W' : World) : Prop where
  bel : ∀ {B : Nat} {w0 : World}, Below B w0 W → B ≤ g → Below B w0 W'
  blk : ∀ {g' t : Nat} {cs : Array Value}, W.heap[g']? = some (.cells cs t (0, 0)) → g' ≠ g → W'.heap[g']? = some (.cells cs t (0, 0))
  row : ∀ {α : Type} {d : Kd α} {e base : Nat} {ok : Nat → Prop} {v : Value} {xs : List α}, d.R e W base ok v xs → e ≠ 46 → d.E = [] → d.R e W' base ok v xs
theorem Only.one {g : Nat} {W : World} {cs : Array Value} (h : W.heap[g]? = some (.cells cs 46 (0, 0))) (j : Nat) (u : Value) : Only g W (W.setCell ⟨g, j, none⟩ u) :=
  ⟨fun hb hg => hb.setCell hg _, fun hk hne => blk_far hk (by show _ ≠ g; exact hne) u, fun hR he hE => Kd.R_set hR h (by intro q hq; rw [hE] at hq; rcases List.mem_cons.1 hq with rfl | hq; exact he; exact absurd hq List.not_mem_nil) j u⟩
theorem Only.trans {g : Nat} {W W' W'' : World} (h : Only g W W') (k : Only g W' W'') : Only g W W'' :=
  ⟨fun hb hg => k.bel (h.bel hb hg) hg, fun hk hne => k.blk (h.blk hk hne) hne, fun hR he hE => k.row (h.row hR he hE) he hE⟩
theorem only8 {W : World} {g : Nat} {z0 z1 z2 z3 z4 z5 z6 z7 : Value} (h : W.heap[g]? = some (.cells #[z0, z1, z2, z3, z4, z5, z6, z7] 46 (0, 0))) (c0 c1 c2 c3 c4 c5 c6 c7 : Value) :
    Only g W ((((((((W.setCell ⟨g, 0, none⟩ c0).setCell ⟨g, 1, none⟩ c1).setCell ⟨g, 2, none⟩ c2).setCell ⟨g, 3, none⟩ c3).setCell ⟨g, 4, none⟩ c4).setCell ⟨g, 5, none⟩ c5).setCell ⟨g, 6, none⟩ c6).setCell ⟨g, 7, none⟩ c7) := by
  have h0 := blk_set h 0 c0
  have h1 := blk_set h0 1 c1
  have h2 := blk_set h1 2 c2
  have h3 := blk_set h2 3 c3
  have h4 := blk_set h3 4 c4
  have h5 := blk_set h4 5 c5
  have h6 := blk_set h5 6 c6
  exact ((((((((Only.one h 0 c0).trans (Only.one h0 1 c1)).trans (Only.one h1 2 c2)).trans (Only.one h2 3 c3)).trans (Only.one h3 4 c4)).trans (Only.one h4 5 c5)).trans (Only.one h5 6 c6)).trans (Only.one h6 7 c7))
/-- An element of a row of one's own is stored. -/
theorem store_row {α : Type} {d : Kd α} {P : Program} {W : World} {e base g n cap : Nat} {ok okp : Nat → Prop} {xs : List α} (t : TypeId) (h : d.R e W base ok (.slice (some ⟨g, 0, none⟩) n cap) xs) (z : α) (i : Nat) (hi : i < n) (x' : α) (u : Value) (seg : List Value)
    (hu : u.cells.toList = seg) (hl : seg.length = d.sz) (ht : (P.info? t).map (·.size) = some d.sz) (h1 : ∀ q ∈ seg, q.oneCell' = true) (hM : d.M W base okp x' seg) (hokp : ∀ k, okp k → ok k ∧ k ≠ g) :
    ∃ w1, (Instr.storeAt t (.pointer (some ⟨g, i * d.sz, none⟩)) u).run P W = .ok () w1 ∧ d.R e w1 base ok (.slice (some ⟨g, 0, none⟩) n cap) (xs.set i x') ∧ W.grownBy w1 (some g) := by
  obtain ⟨c, hcl, _, hcc, _⟩ := Kd.R_elem h z (i : Int) (by omega) (by omega)
  have hM2 : d.M W base okp x' (c.take 0 ++ seg ++ c.drop (0 + seg.length)) := by
    rw [List.take_zero, List.nil_append, Nat.zero_add, List.drop_eq_nil_of_le (by omega), List.append_nil]
    exact hM
  obtain ⟨hrow, hg⟩ := Kd.R_seg h (i : Int) (by omega) (by omega) hcl hcc (by omega) hM2 hokp
  rw [Int.toNat_natCast, Nat.add_zero] at hrow hg
  refine ⟨_, ?_, hrow, hg⟩
  have hn := (Kd.R_reads' h).1
  obtain ⟨_, inner, hown, hr⟩ := h
  rcases hown.2 with ⟨hv, _⟩ | ⟨g', cap', cur, hv, hb, hh, hnc, hcm, hcs, _⟩
  · cases hv
  injection hv with ha _ hc
  injection ha with ha
  injection ha with hg'
  subst hg'; subst hc
  refine run_store_run t u seg hh hu (by rw [ht, hl]) ?_ h1
  have h2 : i * d.sz + d.sz ≤ n * d.sz := by rw [← Nat.succ_mul]; exact Nat.mul_le_mul_right _ hi
  have h3 : n * d.sz ≤ cap * d.sz := Nat.mul_le_mul_right _ (by omega)
  omega
theorem storeR_step {P : Program} {ops : Array Oper} {o : Oper} {a : Act} {Q : Exit → Act → World → Prop} {Kc : Act → World → Prop} {W w1 : World} {t : TypeId} {p x : Operand} {ad u : Value} (hw : Region.wanted o (yielded ops a.tmps) = true) (hN : o.dst = none) (ho : o.op = .store t p x) (haddr : a.eval p = ad) (hx : a.eval x = u)
    (hrun : (Instr.storeAt t ad u).run P W = .ok () w1) (h : Kc a w1) : if Region.wanted o (yielded ops a.tmps) = true then Oper.wp P o a W Kc Q else Kc (a.put none undef) W := by
  refine store1 hw hN ?_ h
  unfold execOp
  simp [ho, haddr, hx, hrun]
section
variable {w W W' w1 : World} {NF g5 g7 g8 g11 : Nat} {c5 c7 c8 c11 c14 : Array Value} {vB vC : Value} {b7 : List S24} {lC : List S24}
/-- The state with the third recipe's row of inputs. -/
structure SwC (w : World) (NF g5 g7 g8 g11 : Nat) (c5 c7 c8 c11 : Array Value) (vB : Value) (b7 : List S24) (vC : Value) (lC : List S24) (W : World) : Prop where
  hb : Below w.heap.size w W
  hn : w.heap.size ≤ NF
  k5 : W.heap[g5]? = some (.cells c5 55 (0, 0))
  k7 : W.heap[g7]? = some (.cells c7 46 (0, 0))
  k8 : W.heap[g8]? = some (.cells c8 46 (0, 0))
  k11 : W.heap[g11]? = some (.cells c11 46 (0, 0))
  rB : k24.R 24 W w.heap.size (fun k => k < NF) vB b7
  rC : k24.R 24 W NF (fun _ => True) vC lC
theorem SwC.below (h : SwC w NF g5 g7 g8 g11 c5 c7 c8 c11 vB b7 vC lC W) (hb : Below W.heap.size W W') : SwC w NF g5 g7 g8 g11 c5 c7 c8 c11 vB b7 vC lC W' :=
  ⟨below_step h.hb hb, h.hn, blk_below h.k5 hb, blk_below h.k7 hb, blk_below h.k8 hb, blk_below h.k11 hb, Kd.R_below h.rB hb, Kd.R_below h.rC hb⟩
theorem SwC.drew (h : SwC w NF g5 g7 g8 g11 c5 c7 c8 c11 vB b7 vC lC W) : SwC w NF g5 g7 g8 g11 c5 c7 c8 c11 vB b7 vC lC W.drew := h.below (below_drew (Below.refl _ _))
theorem SwC.stored {gC n cap : Nat} {lC' : List S24} (h : SwC w NF g5 g7 g8 g11 c5 c7 c8 c11 vB b7 (.slice (some ⟨gC, 0, none⟩) n cap) lC W) (hr : k24.R 24 w1 NF (fun _ => True) (.slice (some ⟨gC, 0, none⟩) n cap) lC') (hg : W.grownBy w1 (some gC)) :
    SwC w NF g5 g7 g8 g11 c5 c7 c8 c11 vB b7 (.slice (some ⟨gC, 0, none⟩) n cap) lC' w1 := by
  have hge : NF ≤ gC := Kd.R_base h.rC gC (by simp [Value.ownBlock])
  have hn := h.hn
  have own : ∀ {g t : Nat} {cs : Array Value}, W.heap[g]? = some (.cells cs t (0, 0)) → 24 ≠ t → some g ≠ some gC := fun hk ht e => by
    have := Kd.R_ne h.rC hk ht
    rw [show (Value.slice (some ⟨gC, 0, none⟩) n cap).ownBlock = some gC by simp [Value.ownBlock]] at this
    exact this e
  exact ⟨h.hb.grown hg (below_size h.hb) (fun k hk => by injection hk with hk; omega), hn, blk_grown h.k5 hg (own h.k5 (by decide)), blk_grown h.k7 hg (own h.k7 (by decide)), blk_grown h.k8 hg (own h.k8 (by decide)), blk_grown h.k11 hg (own h.k11 (by decide)),
    Kd.R_grown h.rB hg (fun k hk e => by injection e with e; omega), hr⟩
theorem SwC.only {g : Nat} (h : SwC w NF g5 g7 g8 g11 c5 c7 c8 c11 vB b7 vC lC W) (ho : Only g W W') (hg : w.heap.size ≤ g) (h5 : g5 ≠ g) (h7 : g7 ≠ g) (h8 : g8 ≠ g) (h11 : g11 ≠ g) : SwC w NF g5 g7 g8 g11 c5 c7 c8 c11 vB b7 vC lC W' :=
  ⟨ho.bel h.hb hg, h.hn, ho.blk h.k5 h5, ho.blk h.k7 h7, ho.blk h.k8 h8, ho.blk h.k11 h11, ho.row h.rB (by decide) rfl, ho.row h.rC (by decide) rfl⟩
/-- .. and the fourth recipe's box and row of passes. -/
structure SwD (w : World) (NF g5 g7 g8 g11 g14 : Nat) (c5 c7 c8 c11 c14 : Array Value) (vB : Value) (b7 : List S24) (vC : Value) (lC : List S24) (vD : Value) (lD : List Int) (W : World) : Prop where
  c : SwC w NF g5 g7 g8 g11 c5 c7 c8 c11 vB b7 vC lC W
  k14 : W.heap[g14]? = some (.cells c14 46 (0, 0))
  rD : (Kd.int .i64).R 3 W w.heap.size (fun _ => True) vD lD
theorem SwD.below {g14 : Nat} {vD : Value} {lD : List Int} (h : SwD w NF g5 g7 g8 g11 g14 c5 c7 c8 c11 c14 vB b7 vC lC vD lD W) (hb : Below W.heap.size W W') : SwD w NF g5 g7 g8 g11 g14 c5 c7 c8 c11 c14 vB b7 vC lC vD lD W' := ⟨h.c.below hb, blk_below h.k14 hb, Kd.R_below h.rD hb⟩
theorem SwD.drew {g14 : Nat} {vD : Value} {lD : List Int} (h : SwD w NF g5 g7 g8 g11 g14 c5 c7 c8 c11 c14 vB b7 vC lC vD lD W) : SwD w NF g5 g7 g8 g11 g14 c5 c7 c8 c11 c14 vB b7 vC lC vD lD W.drew := h.below (below_drew (Below.refl _ _))
theorem SwD.stored {g14 gD n cap : Nat} {lD lD' : List Int} (h : SwD w NF g5 g7 g8 g11 g14 c5 c7 c8 c11 c14 vB b7 vC lC (.slice (some ⟨gD, 0, none⟩) n cap) lD W) (hr : (Kd.int .i64).R 3 w1 w.heap.size (fun _ => True) (.slice (some ⟨gD, 0, none⟩) n cap) lD') (hg : W.grownBy w1 (some gD)) :
    SwD w NF g5 g7 g8 g11 g14 c5 c7 c8 c11 c14 vB b7 vC lC (.slice (some ⟨gD, 0, none⟩) n cap) lD' w1 := by
  have hge : w.heap.size ≤ gD := Kd.R_base h.rD gD (by simp [Value.ownBlock])
  have eo : (Value.slice (some ⟨gD, 0, none⟩) n cap).ownBlock = some gD := by simp [Value.ownBlock]
  have own : ∀ {g t : Nat} {cs : Array Value}, W.heap[g]? = some (.cells cs t (0, 0)) → 3 ≠ t → some g ≠ some gD := fun hk ht e => by
    have := Kd.R_ne h.rD hk ht
    rw [eo] at this
    exact this e
  have hg' : W.grownBy w1 (Value.slice (some ⟨gD, 0, none⟩) n cap).ownBlock := by rw [eo]; exact hg
  have ht : ∀ q, q ∈ (24 : Nat) :: k24.E → q ≠ 3 := by
    intro q hq
    rcases List.mem_cons.1 hq with rfl | hq
    · decide
    · exact absurd hq (show q ∉ k24.E from List.not_mem_nil)
  have hc := h.c
  exact ⟨⟨hc.hb.grown hg (below_size hc.hb) (fun k hk => by injection hk with hk; omega), hc.hn, blk_grown hc.k5 hg (own hc.k5 (by decide)), blk_grown hc.k7 hg (own hc.k7 (by decide)), blk_grown hc.k8 hg (own hc.k8 (by decide)), blk_grown hc.k11 hg (own hc.k11 (by decide)),
    Kd.R_over hc.rB h.rD ht hg', Kd.R_over hc.rC h.rD ht hg'⟩, blk_grown h.k14 hg (own h.k14 (by decide)), hr⟩
end
end Go.Proofs.YthimgiphlenjdaaDoor.HX
