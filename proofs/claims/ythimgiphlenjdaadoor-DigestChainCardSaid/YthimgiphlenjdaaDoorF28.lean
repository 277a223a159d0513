/- Contracts of the Go functions of this seat, each over a Lean function of the same answers; written by a program of this session's. -/
import Derived.Test.YthimgiphlenjdaaDoorPIx0
import Derived.Test.YthimgiphlenjdaaDoorHWords
import Derived.Test.YthimgiphlenjdaaDoorHMix
import Derived.Test.YthimgiphlenjdaaDoorHWrite
import Derived.Test.YthimgiphlenjdaaDoorF47
namespace Go.Proofs.YthimgiphlenjdaaDoor.PI
open Go.RowKit Go.Proofs.YthimgiphlenjdaaDoorW.PrintWords Go.Proofs.YthimgiphlenjdaaDoorW.PrintLast Go.Proofs.YthimgiphlenjdaaDoorW.PrintMore
attribute [local go_sem] max2_int min2_int max_two min_two max_three min_three max_four min_four   -- for this text's walks alone
open HX
set_option linter.unusedVariables false
set_option linter.unusedSimpArgs false

attribute [local go_sem high] eqA24
/-! ### digest_Pair: function 28 -/
-- import HMix
-- import HWrite
def digest_Pair.f (a0_0 : Int) (a0_1 : Int) (a0_2 : Int) (a0_3 : Int) (a1_0 : Int) (a1_1 : Int) (a1_2 : Int) (a1_3 : Int) : Option (Int × Int × Int × Int) := digest_take.f 2 [a0_0, a0_1, a0_2, a0_3, a1_0, a1_1, a1_2, a1_3]
/-- Two boxes of four words, appended: a new row of eight. -/
theorem append8 (W : World) (ga gb : Nat) (x0 x1 x2 x3 y0 y1 y2 y3 : Int) (ha : W.heap[ga]? = some (.cells #[.int .u32 x0, .int .u32 x1, .int .u32 x2, .int .u32 x3] 24 (0, 0))) (hb : W.heap[gb]? = some (.cells #[.int .u32 y0, .int .u32 y1, .int .u32 y2, .int .u32 y3] 24 (0, 0))) :
    ∃ (c : Nat) (w1 : World), (Builtin.append_ #[60, 60] 60 #[.slice (some ⟨ga, 0, none⟩) 4 4, .slice (some ⟨gb, 0, none⟩) 4 4]).run Tryd.prog W = .ok (.slice (some ⟨W.heap.size, 0, none⟩) 8 c) w1 ∧ 8 ≤ c ∧ Below W.heap.size W w1 ∧ Kd.C (Kd.int .u32) w1 (some ⟨W.heap.size, 0, none⟩) 8 [x0, x1, x2, x3, y0, y1, y2, y3] := by
  obtain ⟨i, hi, hh⟩ := Option.map_eq_some_iff.1 info22
  simp only [Prod.mk.injEq] at hh
  obtain ⟨hz, hsz, hby⟩ := hh
  have hr := run_append_grow (P := Tryd.prog) W 60 60 22 i (.int .u32 0) Tryd.underlying60 hi hz ⟨ga, 0, none⟩ 4 4 [.int .u32 x0, .int .u32 x1, .int .u32 x2, .int .u32 x3] (by rw [hsz]; rfl)
    (fun j v hj => by rw [add_at, Nat.zero_add]; exact (blk_cell ha j).trans (by simpa using hj)) ⟨gb, 0, none⟩ 4 4 [.int .u32 y0, .int .u32 y1, .int .u32 y2, .int .u32 y3] (by rw [hsz]; rfl) (fun j v hj => by rw [add_at, Nat.zero_add]; exact (blk_cell hb j).trans (by simpa using hj)) (by decide) (by decide) (growslice_fits (by decide) (by rw [hby]; decide))
  have hge : 8 ≤ grownCap W 8 4 22 := grownCap_ge W 8 4 22
  have hle : grownCap W 8 4 22 ≤ maxLen := grownCap_le_maxLen W 8 4 22 (by unfold maxLen; decide)
  refine ⟨grownCap W 8 4 22, _, hr, hge, below_alloc (below_drew1 (Below.refl _ _)) _, ?_⟩
  have ho : ((W.drew.alloc (.cells (#[.int .u32 x0, .int .u32 x1, .int .u32 x2, .int .u32 x3] ++ #[.int .u32 y0, .int .u32 y1, .int .u32 y2, .int .u32 y3] ++ Builtin.zeroCells (Value.int .u32 0).cells (grownCap W 8 4 22 - 8)) 22)) : World).ownsRow W.heap.size 22 1 (.slice (some ⟨W.heap.size, 0, none⟩) 8 (grownCap W 8 4 22)) 8 (encs (Value.int .u32) [x0, x1, x2, x3, y0, y1, y2, y3]) := by
    refine ⟨rfl, .inr ⟨W.heap.size, _, _, rfl, Nat.le_refl _, heap_alloc_new W.drew _, hge, hle, ?_, ?_⟩⟩
    · have hz1 : (Value.int IntKind.u32 0).cells.size = 1 := rfl
      simp only [Array.size_append, List.size_toArray, size_zeroCells, hz1]
      simp only [List.length_cons, List.length_nil]
      omega
    · simp [encs]
  exact (Kd.R_reads' (Kd.R_of_own (h1 := fun _ => rfl) (ok := fun _ => True) (xs := [x0, x1, x2, x3, y0, y1, y2, y3]) ho (fun _ _ => trivial))).2.2
set_option maxHeartbeats 8000000 in
set_option maxRecDepth 100000 in
theorem digest_Pair.calls (a0_0 : Int) (a0_1 : Int) (a0_2 : Int) (a0_3 : Int) (a1_0 : Int) (a1_1 : Int) (a1_2 : Int) (a1_3 : Int) (r1 : Int) (r2 : Int) (r3 : Int) (r4 : Int) (w : World) (h : digest_Pair.f a0_0 a0_1 a0_2 a0_3 a1_0 a1_1 a1_2 a1_3 = some (r1, r2, r3, r4)) (htb_ : Tab w) :
    Calls Tryd.prog 28 #[.agg #[.int .u32 a0_0, .int .u32 a0_1, .int .u32 a0_2, .int .u32 a0_3], .agg #[.int .u32 a1_0, .int .u32 a1_1, .int .u32 a1_2, .int .u32 a1_3]] w fun e w' => e = .returned (.agg #[.int .u32 r1, .int .u32 r2, .int .u32 r3, .int .u32 r4]) ∧ Below w.heap.size w w' := by
  have hu24 := Tryd.underlying24
  have HTB := Aside0.mk htb_
  clear htb_
  have HF := Aside0.mk h
  clear h
  have HB := Aside0.mk (Below.refl w.heap.size w)
  go_enter Tryd.func28, Tryd.ntmps28
  go_wp2_with (first | ((with_reducible refine gate_dst (N := 2) rfl ?_); refine box_event ?hg (N := 2) ?hd (cs := #[.int .u32 a0_0, .int .u32 a0_1, .int .u32 a0_2, .int .u32 a0_3]) (t := 24) ?hr ?_; (case hd => rfl); (case hg => rfl); (case hr => first | (go_simp; done) | (go_simp; rfl)); intro g0 hg w2 hbox hb; have n0_ := Aside0.mk (below_step (by repeat (first | (with_reducible first | exact HB.out | apply below_alloc | apply pw_below_drewN | apply below_drew1) | exact HB.out)) hb); have n1_ := Aside0.mk hbox; have n2_ := Aside0.mk ((by rw [hg]; exact (below_size HB.out)) : w.heap.size ≤ g0); clear HB ; have HB := n0_; have Kg0 := n1_; have Gg0 := n2_; clear n0_ n1_ n2_;  clear hb hbox hg) | ((with_reducible refine gate_dst (N := 3) rfl ?_); refine box_event ?hg (N := 3) ?hd (cs := #[.int .u32 a1_0, .int .u32 a1_1, .int .u32 a1_2, .int .u32 a1_3]) (t := 24) ?hr ?_; (case hd => rfl); (case hg => rfl); (case hr => first | (go_simp; done) | (go_simp; rfl)); intro g1 hg w3 hbox hb; have n0_ := Aside0.mk (below_step (by repeat (first | (with_reducible first | exact HB.out | apply below_alloc | apply pw_below_drewN | apply below_drew1) | exact HB.out)) hb); have n1_ := Aside0.mk hbox; have n2_ := Aside0.mk ((by rw [hg]; exact (below_size HB.out)) : w.heap.size ≤ g1); have m0_ := Aside0.mk (blk_below (by (with_reducible repeat (first | refine blk_drewN ?_ _ | refine blk_drew ?_ | refine blk_alloc ?_ _)); exact Kg0.out) hb); have k0_ := Aside0.mk (show g0 ≠ g1 by rw [hg]; exact Nat.ne_of_lt (blk_lt Kg0.out)); clear HB Kg0; have HB := n0_; have Kg1 := n1_; have Gg1 := n2_; clear n0_ n1_ n2_; have Kg0 := m0_; have Ng0g1 := k0_; clear m0_ k0_;  clear hb hbox hg) | ((with_reducible refine gate_dst (N := 4) rfl ?_); refine box_event ?hg (N := 4) ?hd (cs := #[.int .u32 0, .int .u32 0, .int .u32 0, .int .u32 0]) (t := 24) ?hr ?_; (case hd => rfl); (case hg => rfl); (case hr => first | (go_simp; done) | (go_simp; rfl)); intro g2 hg w4 hbox hb; have n0_ := Aside0.mk (below_step (by repeat (first | (with_reducible first | exact HB.out | apply below_alloc | apply pw_below_drewN | apply below_drew1) | exact HB.out)) hb); have n1_ := Aside0.mk hbox; have n2_ := Aside0.mk ((by rw [hg]; exact (below_size HB.out)) : w.heap.size ≤ g2); have m0_ := Aside0.mk (blk_below (by (with_reducible repeat (first | refine blk_drewN ?_ _ | refine blk_drew ?_ | refine blk_alloc ?_ _)); exact Kg0.out) hb); have k0_ := Aside0.mk (show g0 ≠ g2 by rw [hg]; exact Nat.ne_of_lt (blk_lt Kg0.out)); have m1_ := Aside0.mk (blk_below (by (with_reducible repeat (first | refine blk_drewN ?_ _ | refine blk_drew ?_ | refine blk_alloc ?_ _)); exact Kg1.out) hb); have k1_ := Aside0.mk (show g1 ≠ g2 by rw [hg]; exact Nat.ne_of_lt (blk_lt Kg1.out)); clear HB Kg0 Kg1; have HB := n0_; have Kg2 := n1_; have Gg2 := n2_; clear n0_ n1_ n2_; have Kg0 := m0_; have Ng0g2 := k0_; clear m0_ k0_; have Kg1 := m1_; have Ng1g2 := k1_; clear m1_ k1_;  clear hb hbox hg))
  obtain ⟨c, w5, hrun, hc, hb5, hC⟩ := append8 w4.drew g0 g1 a0_0 a0_1 a0_2 a0_3 a1_0 a1_1 a1_2 a1_3 (blk_drew Kg0.out) (blk_drew Kg1.out)
  have HC := Aside0.mk (And.intro hc hC)
  have HRUN := Aside0.mk hrun
  have n0_ := Aside0.mk (blk_below (blk_drew Kg2.out) hb5)
  have n1_ := Aside0.mk (below_step (by repeat (first | (with_reducible first | exact HB.out | apply below_alloc | apply pw_below_drewN | apply below_drew1 | refine below_set ?_ Gg0.out | refine below_set ?_ Gg1.out | refine below_set ?_ Gg2.out) | exact HB.out)) hb5)
  clear hc hC hrun hb5
  refine start_ (n := 5) (S := fun w' => True) (ds := [4]) #[false, false, false, false, false] (by kernel_rfl) rfl rfl trivial (fun hHeld => ?_)
  refine pure_ (i := 0) (N := (some 5)) (v := ?_) (a' := ?_) #[true, false, false, false, false] rfl rfl (by kernel_rfl) (fun _ _ _ h => h) (Or.inl ⟨by rfl, ?_⟩) ?_ ?_
  rotate_left
  · intro w'
    go_simp
    with_reducible rfl
  rotate_left
  · simp only [Act.put, List.setIfInBounds_toArray, List.set_cons_zero, List.set_cons_succ, i64_w, i32_w]
    rfl
  refine pure_ (i := 1) (N := (some 6)) (v := ?_) (a' := ?_) #[true, true, false, false, false] rfl rfl (by kernel_rfl) (fun _ _ _ h => h) (Or.inl ⟨by rfl, ?_⟩) ?_ ?_
  rotate_left
  · intro w'
    go_simp
    with_reducible rfl
  rotate_left
  · simp only [Act.put, List.setIfInBounds_toArray, List.set_cons_zero, List.set_cons_succ, i64_w, i32_w]
    rfl
  refine one_ (i := 2) (N := (some 7)) #[true, true, true, false, false] rfl rfl (by kernel_rfl) (by decide) (fun K hK => ?_)
  refine event_step (v := .slice (some ⟨w4.heap.size, 0, none⟩) 8 c) (w1 := w5) ?hg ?hr ?_; (case hg => rfl); (case hr => exact step_append HRUN.out)
  refine hK.out _ _ trivial (fun hHeld => ?_)
  clear hK K HB Kg2 Kg0 Kg1
  have HB := n1_
  have Kg2 := n0_
  clear n0_ n1_
  refine norm_ (a' := ?_) ?_ ?_
  rotate_left
  · show Act.put _ (some 7) _ = _
    simp only [Act.put, List.setIfInBounds_toArray, List.set_cons_zero, List.set_cons_succ, i64_w, i32_w]
    rfl
  refine one_ (i := 3) (N := (some 8)) #[true, true, true, true, false] rfl rfl (by kernel_rfl) (by decide) (fun K hK => ?_)
  refine goes_ Tryd.func47 (by kernel_rfl) rfl #[.int .u32 2, .slice (some ⟨w4.heap.size, 0, none⟩) 8 c] (by rfl) rfl rfl (by (try simp only [List.map_toArray, List.map_cons, List.map_nil]); first | done | rfl) ?_
  refine (digest_take.calls 2 (some ⟨w4.heap.size, 0, none⟩) c [a0_0, a0_1, a0_2, a0_3, a1_0, a1_1, a1_2, a1_3] r1 r2 r3 r4 w5 HC.out.2 HC.out.1 HF.out (Tab.below HTB.out HB.out)).mono ?_
  rintro e w6 ⟨rfl, hb⟩
  refine ⟨_, rfl, ?_⟩
  have n0_ := Aside0.mk (blk_below Kg2.out hb)
  have n1_ := Aside0.mk (below_step HB.out hb)
  clear HB Kg2 hb
  have Kg2 := n0_
  have HB := n1_
  clear n0_ n1_
  refine hK.out _ _ trivial (fun hHeld => ?_)
  clear hK K
  refine norm_ (a' := ?_) ?_ ?_
  rotate_left
  · show Act.put _ (some 8) _ = _
    simp only [Act.put, List.setIfInBounds_toArray, List.set_cons_zero, List.set_cons_succ, i64_w, i32_w]
    rfl
  refine last_ (i := 4) (N := none) #[true, true, true, true, true] rfl rfl (by kernel_rfl) (by decide) (fun K hK => ?_)
  have cz_0 : w6.cell? ⟨g2, 0, none⟩ = some (.int .u32 0) := (blk_cell Kg2.out 0).trans rfl
  have fz_0 := blk_frozen Kg2.out 0
  have cz_1 : w6.cell? ⟨g2, 1, none⟩ = some (.int .u32 0) := (blk_cell Kg2.out 1).trans rfl
  have fz_1 := blk_frozen Kg2.out 1
  have cz_2 : w6.cell? ⟨g2, 2, none⟩ = some (.int .u32 0) := (blk_cell Kg2.out 2).trans rfl
  have fz_2 := blk_frozen Kg2.out 2
  have cz_3 : w6.cell? ⟨g2, 3, none⟩ = some (.int .u32 0) := (blk_cell Kg2.out 3).trans rfl
  have fz_3 := blk_frozen Kg2.out 3
  refine store_step (w1 := ?w1_) ?hg ?hN ?hr ?_; (case hg => rfl); (case hN => rfl); (case hr => first | (go_simp; done) | (go_simp; rfl))
  refine hK.out _ _ ?_
  clear hK K
  refine done_ (by kernel_rfl) ?_
  go_wp2
  refine bodyPost_ret (results_cell_row rfl _ _ (g2) 24 #[.int .u32 r1, .int .u32 r2, .int .u32 r3, .int .u32 r4] (0, 0) _ rfl (by (with_reducible repeat (first | refine blk_drewN ?_ _ | refine blk_drew ?_)); refine blk_put (cs := #[.int .u32 r1, .int .u32 r2, .int .u32 r3, .int .u32 0]) ?_ 3 _ rfl; (with_reducible repeat (first | refine blk_drewN ?_ _ | refine blk_drew ?_)); refine blk_put (cs := #[.int .u32 r1, .int .u32 r2, .int .u32 0, .int .u32 0]) ?_ 2 _ rfl; (with_reducible repeat (first | refine blk_drewN ?_ _ | refine blk_drew ?_)); refine blk_put (cs := #[.int .u32 r1, .int .u32 0, .int .u32 0, .int .u32 0]) ?_ 1 _ rfl; (with_reducible repeat (first | refine blk_drewN ?_ _ | refine blk_drew ?_)); refine blk_put (cs := #[.int .u32 0, .int .u32 0, .int .u32 0, .int .u32 0]) ?_ 0 _ rfl; (with_reducible repeat (first | refine blk_drewN ?_ _ | refine blk_drew ?_)); exact Kg2.out) Tryd.underlying24 rfl (by kernel_rfl)) rfl ?_
  exact ⟨rfl, (by repeat (first | (with_reducible first | exact HB.out | apply below_alloc | apply pw_below_drewN | apply below_drew1 | refine below_set ?_ Gg2.out) | exact HB.out))⟩


end Go.Proofs.YthimgiphlenjdaaDoor.PI
