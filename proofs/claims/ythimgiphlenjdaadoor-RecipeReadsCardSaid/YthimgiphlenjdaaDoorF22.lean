/- Contracts of the Go functions of this seat, each over a Lean function of the same answers; written by a program of this session's. -/
import Derived.Test.YthimgiphlenjdaaDoorPIx0
import Derived.Test.YthimgiphlenjdaaDoorHWords
import Derived.Test.YthimgiphlenjdaaDoorHTurn2
import Derived.Test.YthimgiphlenjdaaDoorHMix
namespace Go.Proofs.YthimgiphlenjdaaDoor.PI
open Go.RowKit Go.Proofs.YthimgiphlenjdaaDoorW.PrintWords Go.Proofs.YthimgiphlenjdaaDoorW.PrintLast
open HX
set_option linter.unusedVariables false
set_option linter.unusedSimpArgs false

/-! ### digest_Mix: function 22 -/
-- import HTurn2
-- import HMix
def digest_Mix.f (a0_0 : Int) (a0_1 : Int) (a0_2 : Int) (a0_3 : Int) (a0_4 : Int) (a0_5 : Int) (a0_6 : Int) (a0_7 : Int) : Option (Int × Int × Int × Int × Int × Int × Int × Int) :=
  if (St.mk a0_0 a0_1 a0_2 a0_3 a0_4 a0_5 a0_6 a0_7).Ok then some (mixS ⟨a0_0, a0_1, a0_2, a0_3, a0_4, a0_5, a0_6, a0_7⟩).tup else none
set_option maxHeartbeats 8000000 in
set_option maxRecDepth 100000 in
theorem digest_Mix.calls (a0_0 : Int) (a0_1 : Int) (a0_2 : Int) (a0_3 : Int) (a0_4 : Int) (a0_5 : Int) (a0_6 : Int) (a0_7 : Int) (r1 : Int) (r2 : Int) (r3 : Int) (r4 : Int) (r5 : Int) (r6 : Int) (r7 : Int) (r8 : Int) (w : World) (h : digest_Mix.f a0_0 a0_1 a0_2 a0_3 a0_4 a0_5 a0_6 a0_7 = some (r1, r2, r3, r4, r5, r6, r7, r8)) (htb_ : Tab w) :
    Calls Tryd.prog 22 #[.agg #[.int .u32 a0_0, .int .u32 a0_1, .int .u32 a0_2, .int .u32 a0_3, .int .u32 a0_4, .int .u32 a0_5, .int .u32 a0_6, .int .u32 a0_7]] w fun e w' => e = .returned (.agg #[.int .u32 r1, .int .u32 r2, .int .u32 r3, .int .u32 r4, .int .u32 r5, .int .u32 r6, .int .u32 r7, .int .u32 r8]) ∧ Below w.heap.size w w' := by
  have hu31 := Tryd.underlying31
  have hu75 := Tryd.underlying75
  have HTB := Aside0.mk htb_
  clear htb_
  have hpos := HTB.out.pos
  have hix0 := turns_0
  have hix1 := turns_1
  have hix2 := turns_2
  have hix3 := turns_3
  obtain ⟨hok, hres⟩ : (St.mk a0_0 a0_1 a0_2 a0_3 a0_4 a0_5 a0_6 a0_7).Ok ∧ mixS ⟨a0_0, a0_1, a0_2, a0_3, a0_4, a0_5, a0_6, a0_7⟩ = ⟨r1, r2, r3, r4, r5, r6, r7, r8⟩ := by
    unfold digest_Mix.f at h
    split at h
    · exact ⟨by assumption, St.of_tup (Option.some.inj h)⟩
    · cases h
  have HR := Aside0.mk (And.intro hok hres)
  clear h hok hres
  have HB := Aside0.mk (Below.refl w.heap.size w)
  have hwr4 : IntKind.i64.wrap 4 = 4 := by kernel_rfl
  have hwr5 : IntKind.i64.wrap 5 = 5 := by kernel_rfl
  have hwr6 : IntKind.i64.wrap 6 = 6 := by kernel_rfl
  have hwr7 : IntKind.i64.wrap 7 = 7 := by kernel_rfl
  have hwn7 : IntKind.i64.wrap (-7) = -7 := by kernel_rfl
  have hwn9 : IntKind.i64.wrap (-9) = -9 := by kernel_rfl
  have hwn13 : IntKind.i64.wrap (-13) = -13 := by kernel_rfl
  have hwn18 : IntKind.i64.wrap (-18) = -18 := by kernel_rfl
  go_enter Tryd.func22, Tryd.ntmps22
  go_wp2_with (first | ((with_reducible refine gate_dst (N := 1) rfl ?_); refine box_event ?hg (N := 1) ?hd (cs := #[.int .u32 a0_0, .int .u32 a0_1, .int .u32 a0_2, .int .u32 a0_3, .int .u32 a0_4, .int .u32 a0_5, .int .u32 a0_6, .int .u32 a0_7]) (t := 31) ?hr ?_; (case hd => rfl); (case hg => rfl); (case hr => first | (go_simp; done) | (go_simp; rfl)); intro g0 hg w2 hbox hb; have n0_ := Aside0.mk (below_step (by repeat (first | (with_reducible first | exact HB.out | apply below_alloc | apply pw_below_drewN | apply below_drew1) | exact HB.out)) hb); have n1_ := Aside0.mk hbox; have n2_ := Aside0.mk ((by rw [hg]; exact (below_size HB.out)) : w.heap.size ≤ g0); clear HB; have HB := n0_; have Kg0 := n1_; have Gg0 := n2_; clear n0_ n1_ n2_; clear hb hbox hg) | ((with_reducible refine gate_dst (N := 2) rfl ?_); refine box_event ?hg (N := 2) ?hd (cs := #[.int .u32 0, .int .u32 0, .int .u32 0, .int .u32 0, .int .u32 0, .int .u32 0, .int .u32 0, .int .u32 0]) (t := 31) ?hr ?_; (case hd => rfl); (case hg => rfl); (case hr => first | (go_simp; done) | (go_simp; rfl)); intro g1 hg w3 hbox hb; have n0_ := Aside0.mk (below_step (by repeat (first | (with_reducible first | exact HB.out | apply below_alloc | apply pw_below_drewN | apply below_drew1) | exact HB.out)) hb); have n1_ := Aside0.mk hbox; have n2_ := Aside0.mk ((by rw [hg]; exact (below_size HB.out)) : w.heap.size ≤ g1); have n3_ := Aside0.mk (blk_below (by (with_reducible repeat (first | refine blk_drewN ?_ _ | refine blk_drew ?_ | refine blk_alloc ?_ _)); exact Kg0.out) hb); have n4_ := Aside0.mk (show g0 ≠ g1 by rw [hg]; exact Nat.ne_of_lt (blk_lt Kg0.out)); clear HB Kg0; have HB := n0_; have Kg1 := n1_; have Gg1 := n2_; have Kg0 := n3_; have Ng0g1 := n4_; clear n0_ n1_ n2_ n3_ n4_; clear hb hbox hg))
  go_loopg [8] 8 (fun kq v w' => ∃ (n : Nat) (s : St), v = .int .u32 (n : Int) ∧ Aside0 (n + kq = 8 ∧ s.Ok ∧ mixN kq (n + 1) s = ⟨r1, r2, r3, r4, r5, r6, r7, r8⟩) ∧ Aside0 (Below w.heap.size w w') ∧ Aside0 (w'.heap[g0]? = some (.cells #[.int .u32 (s.a), .int .u32 (s.b), .int .u32 (s.c), .int .u32 (s.d), .int .u32 (s.e), .int .u32 (s.f), .int .u32 (s.g), .int .u32 (s.h)] 31 (0, 0))) ∧ Aside0 (w'.heap[g1]? = some (.cells #[.int .u32 0, .int .u32 0, .int .u32 0, .int .u32 0, .int .u32 0, .int .u32 0, .int .u32 0, .int .u32 0] 31 (0, 0))))
  case atStart => exact ⟨0, ⟨a0_0, a0_1, a0_2, a0_3, a0_4, a0_5, a0_6, a0_7⟩, by first | rfl | (simp; done), ⟨by first | rfl | exact ⟨rfl, by decide⟩, HR.out.1, HR.out.2⟩, HB, Kg0, Kg1⟩
  case round =>
    clear HR HB Kg0 Kg1
    obtain ⟨n, s, rfl, HA, HB, Kg0, Kg1⟩ := hrel
    have hn : n ≤ 8 := by have := HA.out.1; omega
    by_cases c1 : n < 8
    · obtain ⟨kp, rfl⟩ : ∃ kp, gk = kp + 1 := ⟨gk - 1, by have := HA.out.1; omega⟩
      have c1b : decide ((n : Int) < 8) = true := decide_eq_true (by omega)
      have cg0_0 : wr.cell? ⟨g0, 0, none⟩ = some (.int .u32 s.a) := (blk_cell Kg0.out 0).trans rfl
      have zg0_0 := blk_frozen Kg0.out 0
      have cg0_1 : wr.cell? ⟨g0, 1, none⟩ = some (.int .u32 s.b) := (blk_cell Kg0.out 1).trans rfl
      have zg0_1 := blk_frozen Kg0.out 1
      have cg0_2 : wr.cell? ⟨g0, 2, none⟩ = some (.int .u32 s.c) := (blk_cell Kg0.out 2).trans rfl
      have zg0_2 := blk_frozen Kg0.out 2
      have cg0_3 : wr.cell? ⟨g0, 3, none⟩ = some (.int .u32 s.d) := (blk_cell Kg0.out 3).trans rfl
      have zg0_3 := blk_frozen Kg0.out 3
      have cg0_4 : wr.cell? ⟨g0, 4, none⟩ = some (.int .u32 s.e) := (blk_cell Kg0.out 4).trans rfl
      have zg0_4 := blk_frozen Kg0.out 4
      have cg0_5 : wr.cell? ⟨g0, 5, none⟩ = some (.int .u32 s.f) := (blk_cell Kg0.out 5).trans rfl
      have zg0_5 := blk_frozen Kg0.out 5
      have cg0_6 : wr.cell? ⟨g0, 6, none⟩ = some (.int .u32 s.g) := (blk_cell Kg0.out 6).trans rfl
      have zg0_6 := blk_frozen Kg0.out 6
      have cg0_7 : wr.cell? ⟨g0, 7, none⟩ = some (.int .u32 s.h) := (blk_cell Kg0.out 7).trans rfl
      have zg0_7 := blk_frozen Kg0.out 7
      have cg1_0 : wr.cell? ⟨g1, 0, none⟩ = some (.int .u32 0) := (blk_cell Kg1.out 0).trans rfl
      have zg1_0 := blk_frozen Kg1.out 0
      have cg1_1 : wr.cell? ⟨g1, 1, none⟩ = some (.int .u32 0) := (blk_cell Kg1.out 1).trans rfl
      have zg1_1 := blk_frozen Kg1.out 1
      have cg1_2 : wr.cell? ⟨g1, 2, none⟩ = some (.int .u32 0) := (blk_cell Kg1.out 2).trans rfl
      have zg1_2 := blk_frozen Kg1.out 2
      have cg1_3 : wr.cell? ⟨g1, 3, none⟩ = some (.int .u32 0) := (blk_cell Kg1.out 3).trans rfl
      have zg1_3 := blk_frozen Kg1.out 3
      have cg1_4 : wr.cell? ⟨g1, 4, none⟩ = some (.int .u32 0) := (blk_cell Kg1.out 4).trans rfl
      have zg1_4 := blk_frozen Kg1.out 4
      have cg1_5 : wr.cell? ⟨g1, 5, none⟩ = some (.int .u32 0) := (blk_cell Kg1.out 5).trans rfl
      have zg1_5 := blk_frozen Kg1.out 5
      have cg1_6 : wr.cell? ⟨g1, 6, none⟩ = some (.int .u32 0) := (blk_cell Kg1.out 6).trans rfl
      have zg1_6 := blk_frozen Kg1.out 6
      have cg1_7 : wr.cell? ⟨g1, 7, none⟩ = some (.int .u32 0) := (blk_cell Kg1.out 7).trans rfl
      have zg1_7 := blk_frozen Kg1.out 7
      have TB : Aside0 (Tab wr) := ⟨Tab.below HTB.out HB.out⟩
      obtain ⟨ht0, ht1, ht2, ht3⟩ := TB.out.cells
      clear TB
      have ge0 := Gg0.out
      have hg00 : (g0 = 0) = False := eq_false (by omega)
      have hg01 : (0 = g0) = False := eq_false (by omega)
      clear ge0
      obtain ⟨xa, h_x⟩ : ∃ x, x = add32 s.a (gold ((n : Int) + 1)) := ⟨_, rfl⟩
      have h1_ : (s.a + 2654435769 * ((n : Int) + 1)) % 4294967296 = xa := by rw [h_x]; unfold add32 gold; omega
      have h2_ : (s.a + 2654435769 * ((n : Int) + 1) % 4294967296) % 4294967296 = xa := by rw [h_x]; unfold add32 gold; omega
      have H_xa := Aside0.mk h_x
      have HE1 := Aside0.mk h1_
      have HE2 := Aside0.mk h2_
      clear h_x h1_ h2_
      go_wp2
      refine wp_loop_in ?_
      clear ht0 ht1 ht2 ht3
      refine inLoop_gen (fun w' => Below w.heap.size w w' ∧ w'.heap[g0]? = some (.cells #[.int .u32 xa, .int .u32 (s.b), .int .u32 (s.c), .int .u32 (s.d), .int .u32 (s.e), .int .u32 (s.f), .int .u32 (s.g), .int .u32 (s.h)] 31 (0, 0)) ∧ w'.heap[g1]? = some (.cells #[.int .u32 0, .int .u32 0, .int .u32 0, .int .u32 0, .int .u32 0, .int .u32 0, .int .u32 0, .int .u32 0] 31 (0, 0))) ⟨(by repeat (first | (with_reducible first | exact HB.out | apply below_alloc | apply pw_below_drewN | apply below_drew1 | refine below_set ?_ Gg0.out | refine below_set ?_ Gg1.out) | exact HB.out)), (Eq.trans (by (with_reducible repeat (first | exact Kg0.out | apply blk_set | apply far_put Ng0g1.out | apply far_put Ng0g1.out.symm | apply blk_drewN | apply blk_drew | apply blk_alloc))) (by first | rfl | (rw [HE1.out]; rfl) | (rw [HE2.out]; rfl))), (Eq.trans (by (with_reducible repeat (first | exact Kg1.out | apply blk_set | apply far_put Ng0g1.out | apply far_put Ng0g1.out.symm | apply blk_drewN | apply blk_drew | apply blk_alloc))) (by first | rfl | (rw [HE1.out]; rfl) | (rw [HE2.out]; rfl)))⟩ ?_
      clear cg0_0 zg0_0 cg0_1 zg0_1 cg0_2 zg0_2 cg0_3 zg0_3 cg0_4 zg0_4 cg0_5 zg0_5 cg0_6 zg0_6 cg0_7 zg0_7
      clear cg1_0 zg1_0 cg1_1 zg1_1 cg1_2 zg1_2 cg1_3 zg1_3 cg1_4 zg1_4 cg1_5 zg1_5 cg1_6 zg1_6 cg1_7 zg1_7
      try clear K1
      intro wA hF
      clear HB
      obtain ⟨n0_, n1_, n2_⟩ := hF
      try clear Kg0
      try clear Kg1
      have HB := Aside0.mk n0_
      have Kg0 := Aside0.mk n1_
      have Kg1 := Aside0.mk n2_
      clear n0_ n1_ n2_
      have cg0_0 : wA.cell? ⟨g0, 0, none⟩ = some (.int .u32 xa) := (blk_cell Kg0.out 0).trans rfl
      have zg0_0 := blk_frozen Kg0.out 0
      have cg0_1 : wA.cell? ⟨g0, 1, none⟩ = some (.int .u32 s.b) := (blk_cell Kg0.out 1).trans rfl
      have zg0_1 := blk_frozen Kg0.out 1
      have cg0_2 : wA.cell? ⟨g0, 2, none⟩ = some (.int .u32 s.c) := (blk_cell Kg0.out 2).trans rfl
      have zg0_2 := blk_frozen Kg0.out 2
      have cg0_3 : wA.cell? ⟨g0, 3, none⟩ = some (.int .u32 s.d) := (blk_cell Kg0.out 3).trans rfl
      have zg0_3 := blk_frozen Kg0.out 3
      have cg0_4 : wA.cell? ⟨g0, 4, none⟩ = some (.int .u32 s.e) := (blk_cell Kg0.out 4).trans rfl
      have zg0_4 := blk_frozen Kg0.out 4
      have cg0_5 : wA.cell? ⟨g0, 5, none⟩ = some (.int .u32 s.f) := (blk_cell Kg0.out 5).trans rfl
      have zg0_5 := blk_frozen Kg0.out 5
      have cg0_6 : wA.cell? ⟨g0, 6, none⟩ = some (.int .u32 s.g) := (blk_cell Kg0.out 6).trans rfl
      have zg0_6 := blk_frozen Kg0.out 6
      have cg0_7 : wA.cell? ⟨g0, 7, none⟩ = some (.int .u32 s.h) := (blk_cell Kg0.out 7).trans rfl
      have zg0_7 := blk_frozen Kg0.out 7
      have cg1_0 : wA.cell? ⟨g1, 0, none⟩ = some (.int .u32 0) := (blk_cell Kg1.out 0).trans rfl
      have zg1_0 := blk_frozen Kg1.out 0
      have cg1_1 : wA.cell? ⟨g1, 1, none⟩ = some (.int .u32 0) := (blk_cell Kg1.out 1).trans rfl
      have zg1_1 := blk_frozen Kg1.out 1
      have cg1_2 : wA.cell? ⟨g1, 2, none⟩ = some (.int .u32 0) := (blk_cell Kg1.out 2).trans rfl
      have zg1_2 := blk_frozen Kg1.out 2
      have cg1_3 : wA.cell? ⟨g1, 3, none⟩ = some (.int .u32 0) := (blk_cell Kg1.out 3).trans rfl
      have zg1_3 := blk_frozen Kg1.out 3
      have cg1_4 : wA.cell? ⟨g1, 4, none⟩ = some (.int .u32 0) := (blk_cell Kg1.out 4).trans rfl
      have zg1_4 := blk_frozen Kg1.out 4
      have cg1_5 : wA.cell? ⟨g1, 5, none⟩ = some (.int .u32 0) := (blk_cell Kg1.out 5).trans rfl
      have zg1_5 := blk_frozen Kg1.out 5
      have cg1_6 : wA.cell? ⟨g1, 6, none⟩ = some (.int .u32 0) := (blk_cell Kg1.out 6).trans rfl
      have zg1_6 := blk_frozen Kg1.out 6
      have cg1_7 : wA.cell? ⟨g1, 7, none⟩ = some (.int .u32 0) := (blk_cell Kg1.out 7).trans rfl
      have zg1_7 := blk_frozen Kg1.out 7
      obtain ⟨x0, h_x0⟩ : ∃ x, x = add32 xa s.e := ⟨_, rfl⟩
      have h'_x0 : (xa + s.e) % 4294967296 = x0 := h_x0.symm
      have H_x0 := Aside0.mk h_x0
      have H'_x0 := Aside0.mk h'_x0
      clear h_x0 h'_x0
      obtain ⟨y0, h_y0⟩ : ∃ x, x = turn 128 33554432 (xor32 s.e x0) := ⟨_, rfl⟩
      have h'_y0 : turn 128 33554432 (bits .xor .u32 s.e x0) = y0 := h_y0.symm
      have H_y0 := Aside0.mk h_y0
      have H'_y0 := Aside0.mk h'_y0
      clear h_y0 h'_y0
      refine inLoop_k fun K1 hK1 => ?_
      go_wp2
      go_region
      rw [H'_x0.out]
      go_wp2
      refine still_tail 12 (by kernel_rfl) (by kernel_rfl) ?_
      simp only [List.take_succ_cons, List.take_zero, List.drop_succ_cons, List.drop_zero]
      repeat still_step
      still_call (word_turn_7 _ _)
      repeat still_step
      try refine wpStill_nil ?_
      rw [H'_y0.out]
      go_wp2
      try clear hK1
      refine inLoop_gen (fun w' => Below w.heap.size w w' ∧ w'.heap[g0]? = some (.cells #[.int .u32 x0, .int .u32 (s.b), .int .u32 (s.c), .int .u32 (s.d), .int .u32 y0, .int .u32 (s.f), .int .u32 (s.g), .int .u32 (s.h)] 31 (0, 0)) ∧ w'.heap[g1]? = some (.cells #[.int .u32 0, .int .u32 0, .int .u32 0, .int .u32 0, .int .u32 0, .int .u32 0, .int .u32 0, .int .u32 0] 31 (0, 0))) ⟨(by repeat (first | (with_reducible first | exact HB.out | apply below_alloc | apply pw_below_drewN | apply below_drew1 | refine below_set ?_ Gg0.out | refine below_set ?_ Gg1.out) | exact HB.out)), (Eq.trans (by (with_reducible repeat (first | exact Kg0.out | apply blk_set | apply far_put Ng0g1.out | apply far_put Ng0g1.out.symm | apply blk_drewN | apply blk_drew | apply blk_alloc))) (by first | rfl)), (Eq.trans (by (with_reducible repeat (first | exact Kg1.out | apply blk_set | apply far_put Ng0g1.out | apply far_put Ng0g1.out.symm | apply blk_drewN | apply blk_drew | apply blk_alloc))) (by first | rfl))⟩ ?_
      clear cg0_0 zg0_0 cg0_1 zg0_1 cg0_2 zg0_2 cg0_3 zg0_3 cg0_4 zg0_4 cg0_5 zg0_5 cg0_6 zg0_6 cg0_7 zg0_7
      clear cg1_0 zg1_0 cg1_1 zg1_1 cg1_2 zg1_2 cg1_3 zg1_3 cg1_4 zg1_4 cg1_5 zg1_5 cg1_6 zg1_6 cg1_7 zg1_7
      try clear K1
      intro wA hF
      clear HB
      obtain ⟨n0_, n1_, n2_⟩ := hF
      try clear Kg0
      try clear Kg1
      have HB := Aside0.mk n0_
      have Kg0 := Aside0.mk n1_
      have Kg1 := Aside0.mk n2_
      clear n0_ n1_ n2_
      have cg0_0 : wA.cell? ⟨g0, 0, none⟩ = some (.int .u32 x0) := (blk_cell Kg0.out 0).trans rfl
      have zg0_0 := blk_frozen Kg0.out 0
      have cg0_1 : wA.cell? ⟨g0, 1, none⟩ = some (.int .u32 s.b) := (blk_cell Kg0.out 1).trans rfl
      have zg0_1 := blk_frozen Kg0.out 1
      have cg0_2 : wA.cell? ⟨g0, 2, none⟩ = some (.int .u32 s.c) := (blk_cell Kg0.out 2).trans rfl
      have zg0_2 := blk_frozen Kg0.out 2
      have cg0_3 : wA.cell? ⟨g0, 3, none⟩ = some (.int .u32 s.d) := (blk_cell Kg0.out 3).trans rfl
      have zg0_3 := blk_frozen Kg0.out 3
      have cg0_4 : wA.cell? ⟨g0, 4, none⟩ = some (.int .u32 y0) := (blk_cell Kg0.out 4).trans rfl
      have zg0_4 := blk_frozen Kg0.out 4
      have cg0_5 : wA.cell? ⟨g0, 5, none⟩ = some (.int .u32 s.f) := (blk_cell Kg0.out 5).trans rfl
      have zg0_5 := blk_frozen Kg0.out 5
      have cg0_6 : wA.cell? ⟨g0, 6, none⟩ = some (.int .u32 s.g) := (blk_cell Kg0.out 6).trans rfl
      have zg0_6 := blk_frozen Kg0.out 6
      have cg0_7 : wA.cell? ⟨g0, 7, none⟩ = some (.int .u32 s.h) := (blk_cell Kg0.out 7).trans rfl
      have zg0_7 := blk_frozen Kg0.out 7
      have cg1_0 : wA.cell? ⟨g1, 0, none⟩ = some (.int .u32 0) := (blk_cell Kg1.out 0).trans rfl
      have zg1_0 := blk_frozen Kg1.out 0
      have cg1_1 : wA.cell? ⟨g1, 1, none⟩ = some (.int .u32 0) := (blk_cell Kg1.out 1).trans rfl
      have zg1_1 := blk_frozen Kg1.out 1
      have cg1_2 : wA.cell? ⟨g1, 2, none⟩ = some (.int .u32 0) := (blk_cell Kg1.out 2).trans rfl
      have zg1_2 := blk_frozen Kg1.out 2
      have cg1_3 : wA.cell? ⟨g1, 3, none⟩ = some (.int .u32 0) := (blk_cell Kg1.out 3).trans rfl
      have zg1_3 := blk_frozen Kg1.out 3
      have cg1_4 : wA.cell? ⟨g1, 4, none⟩ = some (.int .u32 0) := (blk_cell Kg1.out 4).trans rfl
      have zg1_4 := blk_frozen Kg1.out 4
      have cg1_5 : wA.cell? ⟨g1, 5, none⟩ = some (.int .u32 0) := (blk_cell Kg1.out 5).trans rfl
      have zg1_5 := blk_frozen Kg1.out 5
      have cg1_6 : wA.cell? ⟨g1, 6, none⟩ = some (.int .u32 0) := (blk_cell Kg1.out 6).trans rfl
      have zg1_6 := blk_frozen Kg1.out 6
      have cg1_7 : wA.cell? ⟨g1, 7, none⟩ = some (.int .u32 0) := (blk_cell Kg1.out 7).trans rfl
      have zg1_7 := blk_frozen Kg1.out 7
      obtain ⟨x1, h_x1⟩ : ∃ x, x = add32 s.b s.f := ⟨_, rfl⟩
      have h'_x1 : (s.b + s.f) % 4294967296 = x1 := h_x1.symm
      have H_x1 := Aside0.mk h_x1
      have H'_x1 := Aside0.mk h'_x1
      clear h_x1 h'_x1
      obtain ⟨y1, h_y1⟩ : ∃ x, x = turn 512 8388608 (xor32 s.f x1) := ⟨_, rfl⟩
      have h'_y1 : turn 512 8388608 (bits .xor .u32 s.f x1) = y1 := h_y1.symm
      have H_y1 := Aside0.mk h_y1
      have H'_y1 := Aside0.mk h'_y1
      clear h_y1 h'_y1
      refine inLoop_k fun K1 hK1 => ?_
      go_wp2
      go_region
      rw [H'_x1.out]
      go_wp2
      refine still_tail 12 (by kernel_rfl) (by kernel_rfl) ?_
      simp only [List.take_succ_cons, List.take_zero, List.drop_succ_cons, List.drop_zero]
      repeat still_step
      still_call (word_turn_9 _ _)
      repeat still_step
      try refine wpStill_nil ?_
      rw [H'_y1.out]
      go_wp2
      try clear hK1
      refine inLoop_gen (fun w' => Below w.heap.size w w' ∧ w'.heap[g0]? = some (.cells #[.int .u32 x0, .int .u32 x1, .int .u32 (s.c), .int .u32 (s.d), .int .u32 y0, .int .u32 y1, .int .u32 (s.g), .int .u32 (s.h)] 31 (0, 0)) ∧ w'.heap[g1]? = some (.cells #[.int .u32 0, .int .u32 0, .int .u32 0, .int .u32 0, .int .u32 0, .int .u32 0, .int .u32 0, .int .u32 0] 31 (0, 0))) ⟨(by repeat (first | (with_reducible first | exact HB.out | apply below_alloc | apply pw_below_drewN | apply below_drew1 | refine below_set ?_ Gg0.out | refine below_set ?_ Gg1.out) | exact HB.out)), (Eq.trans (by (with_reducible repeat (first | exact Kg0.out | apply blk_set | apply far_put Ng0g1.out | apply far_put Ng0g1.out.symm | apply blk_drewN | apply blk_drew | apply blk_alloc))) (by first | rfl)), (Eq.trans (by (with_reducible repeat (first | exact Kg1.out | apply blk_set | apply far_put Ng0g1.out | apply far_put Ng0g1.out.symm | apply blk_drewN | apply blk_drew | apply blk_alloc))) (by first | rfl))⟩ ?_
      clear cg0_0 zg0_0 cg0_1 zg0_1 cg0_2 zg0_2 cg0_3 zg0_3 cg0_4 zg0_4 cg0_5 zg0_5 cg0_6 zg0_6 cg0_7 zg0_7
      clear cg1_0 zg1_0 cg1_1 zg1_1 cg1_2 zg1_2 cg1_3 zg1_3 cg1_4 zg1_4 cg1_5 zg1_5 cg1_6 zg1_6 cg1_7 zg1_7
      try clear K1
      intro wA hF
      clear HB
      obtain ⟨n0_, n1_, n2_⟩ := hF
      try clear Kg0
      try clear Kg1
      have HB := Aside0.mk n0_
      have Kg0 := Aside0.mk n1_
      have Kg1 := Aside0.mk n2_
      clear n0_ n1_ n2_
      have cg0_0 : wA.cell? ⟨g0, 0, none⟩ = some (.int .u32 x0) := (blk_cell Kg0.out 0).trans rfl
      have zg0_0 := blk_frozen Kg0.out 0
      have cg0_1 : wA.cell? ⟨g0, 1, none⟩ = some (.int .u32 x1) := (blk_cell Kg0.out 1).trans rfl
      have zg0_1 := blk_frozen Kg0.out 1
      have cg0_2 : wA.cell? ⟨g0, 2, none⟩ = some (.int .u32 s.c) := (blk_cell Kg0.out 2).trans rfl
      have zg0_2 := blk_frozen Kg0.out 2
      have cg0_3 : wA.cell? ⟨g0, 3, none⟩ = some (.int .u32 s.d) := (blk_cell Kg0.out 3).trans rfl
      have zg0_3 := blk_frozen Kg0.out 3
      have cg0_4 : wA.cell? ⟨g0, 4, none⟩ = some (.int .u32 y0) := (blk_cell Kg0.out 4).trans rfl
      have zg0_4 := blk_frozen Kg0.out 4
      have cg0_5 : wA.cell? ⟨g0, 5, none⟩ = some (.int .u32 y1) := (blk_cell Kg0.out 5).trans rfl
      have zg0_5 := blk_frozen Kg0.out 5
      have cg0_6 : wA.cell? ⟨g0, 6, none⟩ = some (.int .u32 s.g) := (blk_cell Kg0.out 6).trans rfl
      have zg0_6 := blk_frozen Kg0.out 6
      have cg0_7 : wA.cell? ⟨g0, 7, none⟩ = some (.int .u32 s.h) := (blk_cell Kg0.out 7).trans rfl
      have zg0_7 := blk_frozen Kg0.out 7
      have cg1_0 : wA.cell? ⟨g1, 0, none⟩ = some (.int .u32 0) := (blk_cell Kg1.out 0).trans rfl
      have zg1_0 := blk_frozen Kg1.out 0
      have cg1_1 : wA.cell? ⟨g1, 1, none⟩ = some (.int .u32 0) := (blk_cell Kg1.out 1).trans rfl
      have zg1_1 := blk_frozen Kg1.out 1
      have cg1_2 : wA.cell? ⟨g1, 2, none⟩ = some (.int .u32 0) := (blk_cell Kg1.out 2).trans rfl
      have zg1_2 := blk_frozen Kg1.out 2
      have cg1_3 : wA.cell? ⟨g1, 3, none⟩ = some (.int .u32 0) := (blk_cell Kg1.out 3).trans rfl
      have zg1_3 := blk_frozen Kg1.out 3
      have cg1_4 : wA.cell? ⟨g1, 4, none⟩ = some (.int .u32 0) := (blk_cell Kg1.out 4).trans rfl
      have zg1_4 := blk_frozen Kg1.out 4
      have cg1_5 : wA.cell? ⟨g1, 5, none⟩ = some (.int .u32 0) := (blk_cell Kg1.out 5).trans rfl
      have zg1_5 := blk_frozen Kg1.out 5
      have cg1_6 : wA.cell? ⟨g1, 6, none⟩ = some (.int .u32 0) := (blk_cell Kg1.out 6).trans rfl
      have zg1_6 := blk_frozen Kg1.out 6
      have cg1_7 : wA.cell? ⟨g1, 7, none⟩ = some (.int .u32 0) := (blk_cell Kg1.out 7).trans rfl
      have zg1_7 := blk_frozen Kg1.out 7
      obtain ⟨x2, h_x2⟩ : ∃ x, x = add32 s.c s.g := ⟨_, rfl⟩
      have h'_x2 : (s.c + s.g) % 4294967296 = x2 := h_x2.symm
      have H_x2 := Aside0.mk h_x2
      have H'_x2 := Aside0.mk h'_x2
      clear h_x2 h'_x2
      obtain ⟨y2, h_y2⟩ : ∃ x, x = turn 8192 524288 (xor32 s.g x2) := ⟨_, rfl⟩
      have h'_y2 : turn 8192 524288 (bits .xor .u32 s.g x2) = y2 := h_y2.symm
      have H_y2 := Aside0.mk h_y2
      have H'_y2 := Aside0.mk h'_y2
      clear h_y2 h'_y2
      refine inLoop_k fun K1 hK1 => ?_
      go_wp2
      go_region
      rw [H'_x2.out]
      go_wp2
      refine still_tail 12 (by kernel_rfl) (by kernel_rfl) ?_
      simp only [List.take_succ_cons, List.take_zero, List.drop_succ_cons, List.drop_zero]
      repeat still_step
      still_call (word_turn_13 _ _)
      repeat still_step
      try refine wpStill_nil ?_
      rw [H'_y2.out]
      go_wp2
      try clear hK1
      refine inLoop_gen (fun w' => Below w.heap.size w w' ∧ w'.heap[g0]? = some (.cells #[.int .u32 x0, .int .u32 x1, .int .u32 x2, .int .u32 (s.d), .int .u32 y0, .int .u32 y1, .int .u32 y2, .int .u32 (s.h)] 31 (0, 0)) ∧ w'.heap[g1]? = some (.cells #[.int .u32 0, .int .u32 0, .int .u32 0, .int .u32 0, .int .u32 0, .int .u32 0, .int .u32 0, .int .u32 0] 31 (0, 0))) ⟨(by repeat (first | (with_reducible first | exact HB.out | apply below_alloc | apply pw_below_drewN | apply below_drew1 | refine below_set ?_ Gg0.out | refine below_set ?_ Gg1.out) | exact HB.out)), (Eq.trans (by (with_reducible repeat (first | exact Kg0.out | apply blk_set | apply far_put Ng0g1.out | apply far_put Ng0g1.out.symm | apply blk_drewN | apply blk_drew | apply blk_alloc))) (by first | rfl)), (Eq.trans (by (with_reducible repeat (first | exact Kg1.out | apply blk_set | apply far_put Ng0g1.out | apply far_put Ng0g1.out.symm | apply blk_drewN | apply blk_drew | apply blk_alloc))) (by first | rfl))⟩ ?_
      clear cg0_0 zg0_0 cg0_1 zg0_1 cg0_2 zg0_2 cg0_3 zg0_3 cg0_4 zg0_4 cg0_5 zg0_5 cg0_6 zg0_6 cg0_7 zg0_7
      clear cg1_0 zg1_0 cg1_1 zg1_1 cg1_2 zg1_2 cg1_3 zg1_3 cg1_4 zg1_4 cg1_5 zg1_5 cg1_6 zg1_6 cg1_7 zg1_7
      try clear K1
      intro wA hF
      clear HB
      obtain ⟨n0_, n1_, n2_⟩ := hF
      try clear Kg0
      try clear Kg1
      have HB := Aside0.mk n0_
      have Kg0 := Aside0.mk n1_
      have Kg1 := Aside0.mk n2_
      clear n0_ n1_ n2_
      have cg0_0 : wA.cell? ⟨g0, 0, none⟩ = some (.int .u32 x0) := (blk_cell Kg0.out 0).trans rfl
      have zg0_0 := blk_frozen Kg0.out 0
      have cg0_1 : wA.cell? ⟨g0, 1, none⟩ = some (.int .u32 x1) := (blk_cell Kg0.out 1).trans rfl
      have zg0_1 := blk_frozen Kg0.out 1
      have cg0_2 : wA.cell? ⟨g0, 2, none⟩ = some (.int .u32 x2) := (blk_cell Kg0.out 2).trans rfl
      have zg0_2 := blk_frozen Kg0.out 2
      have cg0_3 : wA.cell? ⟨g0, 3, none⟩ = some (.int .u32 s.d) := (blk_cell Kg0.out 3).trans rfl
      have zg0_3 := blk_frozen Kg0.out 3
      have cg0_4 : wA.cell? ⟨g0, 4, none⟩ = some (.int .u32 y0) := (blk_cell Kg0.out 4).trans rfl
      have zg0_4 := blk_frozen Kg0.out 4
      have cg0_5 : wA.cell? ⟨g0, 5, none⟩ = some (.int .u32 y1) := (blk_cell Kg0.out 5).trans rfl
      have zg0_5 := blk_frozen Kg0.out 5
      have cg0_6 : wA.cell? ⟨g0, 6, none⟩ = some (.int .u32 y2) := (blk_cell Kg0.out 6).trans rfl
      have zg0_6 := blk_frozen Kg0.out 6
      have cg0_7 : wA.cell? ⟨g0, 7, none⟩ = some (.int .u32 s.h) := (blk_cell Kg0.out 7).trans rfl
      have zg0_7 := blk_frozen Kg0.out 7
      have cg1_0 : wA.cell? ⟨g1, 0, none⟩ = some (.int .u32 0) := (blk_cell Kg1.out 0).trans rfl
      have zg1_0 := blk_frozen Kg1.out 0
      have cg1_1 : wA.cell? ⟨g1, 1, none⟩ = some (.int .u32 0) := (blk_cell Kg1.out 1).trans rfl
      have zg1_1 := blk_frozen Kg1.out 1
      have cg1_2 : wA.cell? ⟨g1, 2, none⟩ = some (.int .u32 0) := (blk_cell Kg1.out 2).trans rfl
      have zg1_2 := blk_frozen Kg1.out 2
      have cg1_3 : wA.cell? ⟨g1, 3, none⟩ = some (.int .u32 0) := (blk_cell Kg1.out 3).trans rfl
      have zg1_3 := blk_frozen Kg1.out 3
      have cg1_4 : wA.cell? ⟨g1, 4, none⟩ = some (.int .u32 0) := (blk_cell Kg1.out 4).trans rfl
      have zg1_4 := blk_frozen Kg1.out 4
      have cg1_5 : wA.cell? ⟨g1, 5, none⟩ = some (.int .u32 0) := (blk_cell Kg1.out 5).trans rfl
      have zg1_5 := blk_frozen Kg1.out 5
      have cg1_6 : wA.cell? ⟨g1, 6, none⟩ = some (.int .u32 0) := (blk_cell Kg1.out 6).trans rfl
      have zg1_6 := blk_frozen Kg1.out 6
      have cg1_7 : wA.cell? ⟨g1, 7, none⟩ = some (.int .u32 0) := (blk_cell Kg1.out 7).trans rfl
      have zg1_7 := blk_frozen Kg1.out 7
      obtain ⟨x3, h_x3⟩ : ∃ x, x = add32 s.d s.h := ⟨_, rfl⟩
      have h'_x3 : (s.d + s.h) % 4294967296 = x3 := h_x3.symm
      have H_x3 := Aside0.mk h_x3
      have H'_x3 := Aside0.mk h'_x3
      clear h_x3 h'_x3
      obtain ⟨y3, h_y3⟩ : ∃ x, x = turn 262144 16384 (xor32 s.h x3) := ⟨_, rfl⟩
      have h'_y3 : turn 262144 16384 (bits .xor .u32 s.h x3) = y3 := h_y3.symm
      have H_y3 := Aside0.mk h_y3
      have H'_y3 := Aside0.mk h'_y3
      clear h_y3 h'_y3
      refine inLoop_k fun K1 hK1 => ?_
      go_wp2
      go_region
      rw [H'_x3.out]
      go_wp2
      refine still_tail 12 (by kernel_rfl) (by kernel_rfl) ?_
      simp only [List.take_succ_cons, List.take_zero, List.drop_succ_cons, List.drop_zero]
      repeat still_step
      still_call (word_turn_18 _ _)
      repeat still_step
      try refine wpStill_nil ?_
      rw [H'_y3.out]
      go_wp2
      try clear hK1
      refine inLoop_gen (fun w' => Below w.heap.size w w' ∧ w'.heap[g0]? = some (.cells #[.int .u32 x0, .int .u32 x1, .int .u32 x2, .int .u32 x3, .int .u32 y0, .int .u32 y1, .int .u32 y2, .int .u32 y3] 31 (0, 0)) ∧ w'.heap[g1]? = some (.cells #[.int .u32 0, .int .u32 0, .int .u32 0, .int .u32 0, .int .u32 0, .int .u32 0, .int .u32 0, .int .u32 0] 31 (0, 0))) ⟨(by repeat (first | (with_reducible first | exact HB.out | apply below_alloc | apply pw_below_drewN | apply below_drew1 | refine below_set ?_ Gg0.out | refine below_set ?_ Gg1.out) | exact HB.out)), (Eq.trans (by (with_reducible repeat (first | exact Kg0.out | apply blk_set | apply far_put Ng0g1.out | apply far_put Ng0g1.out.symm | apply blk_drewN | apply blk_drew | apply blk_alloc))) (by first | rfl)), (Eq.trans (by (with_reducible repeat (first | exact Kg1.out | apply blk_set | apply far_put Ng0g1.out | apply far_put Ng0g1.out.symm | apply blk_drewN | apply blk_drew | apply blk_alloc))) (by first | rfl))⟩ ?_
      clear cg0_0 zg0_0 cg0_1 zg0_1 cg0_2 zg0_2 cg0_3 zg0_3 cg0_4 zg0_4 cg0_5 zg0_5 cg0_6 zg0_6 cg0_7 zg0_7
      clear cg1_0 zg1_0 cg1_1 zg1_1 cg1_2 zg1_2 cg1_3 zg1_3 cg1_4 zg1_4 cg1_5 zg1_5 cg1_6 zg1_6 cg1_7 zg1_7
      try clear K1
      intro wA hF
      clear HB
      obtain ⟨n0_, n1_, n2_⟩ := hF
      try clear Kg0
      try clear Kg1
      have HB := Aside0.mk n0_
      have Kg0 := Aside0.mk n1_
      have Kg1 := Aside0.mk n2_
      clear n0_ n1_ n2_
      have cg0_0 : wA.cell? ⟨g0, 0, none⟩ = some (.int .u32 x0) := (blk_cell Kg0.out 0).trans rfl
      have zg0_0 := blk_frozen Kg0.out 0
      have cg0_1 : wA.cell? ⟨g0, 1, none⟩ = some (.int .u32 x1) := (blk_cell Kg0.out 1).trans rfl
      have zg0_1 := blk_frozen Kg0.out 1
      have cg0_2 : wA.cell? ⟨g0, 2, none⟩ = some (.int .u32 x2) := (blk_cell Kg0.out 2).trans rfl
      have zg0_2 := blk_frozen Kg0.out 2
      have cg0_3 : wA.cell? ⟨g0, 3, none⟩ = some (.int .u32 x3) := (blk_cell Kg0.out 3).trans rfl
      have zg0_3 := blk_frozen Kg0.out 3
      have cg0_4 : wA.cell? ⟨g0, 4, none⟩ = some (.int .u32 y0) := (blk_cell Kg0.out 4).trans rfl
      have zg0_4 := blk_frozen Kg0.out 4
      have cg0_5 : wA.cell? ⟨g0, 5, none⟩ = some (.int .u32 y1) := (blk_cell Kg0.out 5).trans rfl
      have zg0_5 := blk_frozen Kg0.out 5
      have cg0_6 : wA.cell? ⟨g0, 6, none⟩ = some (.int .u32 y2) := (blk_cell Kg0.out 6).trans rfl
      have zg0_6 := blk_frozen Kg0.out 6
      have cg0_7 : wA.cell? ⟨g0, 7, none⟩ = some (.int .u32 y3) := (blk_cell Kg0.out 7).trans rfl
      have zg0_7 := blk_frozen Kg0.out 7
      have cg1_0 : wA.cell? ⟨g1, 0, none⟩ = some (.int .u32 0) := (blk_cell Kg1.out 0).trans rfl
      have zg1_0 := blk_frozen Kg1.out 0
      have cg1_1 : wA.cell? ⟨g1, 1, none⟩ = some (.int .u32 0) := (blk_cell Kg1.out 1).trans rfl
      have zg1_1 := blk_frozen Kg1.out 1
      have cg1_2 : wA.cell? ⟨g1, 2, none⟩ = some (.int .u32 0) := (blk_cell Kg1.out 2).trans rfl
      have zg1_2 := blk_frozen Kg1.out 2
      have cg1_3 : wA.cell? ⟨g1, 3, none⟩ = some (.int .u32 0) := (blk_cell Kg1.out 3).trans rfl
      have zg1_3 := blk_frozen Kg1.out 3
      have cg1_4 : wA.cell? ⟨g1, 4, none⟩ = some (.int .u32 0) := (blk_cell Kg1.out 4).trans rfl
      have zg1_4 := blk_frozen Kg1.out 4
      have cg1_5 : wA.cell? ⟨g1, 5, none⟩ = some (.int .u32 0) := (blk_cell Kg1.out 5).trans rfl
      have zg1_5 := blk_frozen Kg1.out 5
      have cg1_6 : wA.cell? ⟨g1, 6, none⟩ = some (.int .u32 0) := (blk_cell Kg1.out 6).trans rfl
      have zg1_6 := blk_frozen Kg1.out 6
      have cg1_7 : wA.cell? ⟨g1, 7, none⟩ = some (.int .u32 0) := (blk_cell Kg1.out 7).trans rfl
      have zg1_7 := blk_frozen Kg1.out 7
      refine inLoop_k fun K1 hK1 => ?_
      go_wp2
      try clear hK1
      have lg0 := blk_lt Kg0.out
      have lg1 := blk_lt Kg1.out
      have hsz := below_size HB.out
      generalize hgn : wA.heap.size = g2 at lg0 lg1 hsz ⊢
      have Ng0g2 : Aside0 (g0 ≠ g2) := ⟨by omega⟩
      have Ng1g2 : Aside0 (g1 ≠ g2) := ⟨by omega⟩
      have Gg2 : Aside0 (w.heap.size ≤ g2) := ⟨by omega⟩
      have HGg2 := Aside0.mk hgn
      clear hsz hgn lg0 lg1
      refine wp_loop_in ?_
      refine inLoop_gen (fun w' => Below w.heap.size w w' ∧ w'.heap[g0]? = some (.cells #[.int .u32 x0, .int .u32 x1, .int .u32 x2, .int .u32 x3, .int .u32 y0, .int .u32 y1, .int .u32 y2, .int .u32 y3] 31 (0, 0)) ∧ w'.heap[g1]? = some (.cells #[.int .u32 0, .int .u32 0, .int .u32 0, .int .u32 0, .int .u32 0, .int .u32 0, .int .u32 0, .int .u32 0] 31 (0, 0)) ∧ w'.heap[g2]? = some (.cells #[.int .u32 x0, .int .u32 x1, .int .u32 x2, .int .u32 x3, .int .u32 y0, .int .u32 y1, .int .u32 y2, .int .u32 y3] 31 (0, 0))) ⟨(by repeat (first | (with_reducible first | exact HB.out | apply below_alloc | apply pw_below_drewN | apply below_drew1 | refine below_set ?_ Gg0.out | refine below_set ?_ Gg1.out | refine below_set ?_ Gg2.out) | exact HB.out)), (Eq.trans (by (with_reducible repeat (first | exact Kg0.out | apply blk_set | apply far_put Ng0g1.out | apply far_put Ng0g1.out.symm | apply far_put Ng0g2.out | apply far_put Ng0g2.out.symm | apply far_put Ng1g2.out | apply far_put Ng1g2.out.symm | apply blk_drewN | apply blk_drew | apply blk_alloc))) (by first | rfl)), (Eq.trans (by (with_reducible repeat (first | exact Kg1.out | apply blk_set | apply far_put Ng0g1.out | apply far_put Ng0g1.out.symm | apply far_put Ng0g2.out | apply far_put Ng0g2.out.symm | apply far_put Ng1g2.out | apply far_put Ng1g2.out.symm | apply blk_drewN | apply blk_drew | apply blk_alloc))) (by first | rfl)), (Eq.trans (by (with_reducible repeat (first | exact Kg2.out | exact blk_newAt HGg2.out | apply blk_set | apply far_put Ng0g1.out | apply far_put Ng0g1.out.symm | apply far_put Ng0g2.out | apply far_put Ng0g2.out.symm | apply far_put Ng1g2.out | apply far_put Ng1g2.out.symm | apply blk_drewN | apply blk_drew | apply blk_alloc))) (by first | rfl))⟩ ?_
      clear cg0_0 zg0_0 cg0_1 zg0_1 cg0_2 zg0_2 cg0_3 zg0_3 cg0_4 zg0_4 cg0_5 zg0_5 cg0_6 zg0_6 cg0_7 zg0_7
      clear cg1_0 zg1_0 cg1_1 zg1_1 cg1_2 zg1_2 cg1_3 zg1_3 cg1_4 zg1_4 cg1_5 zg1_5 cg1_6 zg1_6 cg1_7 zg1_7
      try clear K1
      intro wB hF
      clear HB
      obtain ⟨n0_, n1_, n2_, n3_⟩ := hF
      try clear Kg0
      try clear Kg1
      try clear Kg2
      have HB := Aside0.mk n0_
      have Kg0 := Aside0.mk n1_
      have Kg1 := Aside0.mk n2_
      have Kg2 := Aside0.mk n3_
      clear n0_ n1_ n2_ n3_
      have cg0_0 : wB.cell? ⟨g0, 0, none⟩ = some (.int .u32 x0) := (blk_cell Kg0.out 0).trans rfl
      have zg0_0 := blk_frozen Kg0.out 0
      have cg0_1 : wB.cell? ⟨g0, 1, none⟩ = some (.int .u32 x1) := (blk_cell Kg0.out 1).trans rfl
      have zg0_1 := blk_frozen Kg0.out 1
      have cg0_2 : wB.cell? ⟨g0, 2, none⟩ = some (.int .u32 x2) := (blk_cell Kg0.out 2).trans rfl
      have zg0_2 := blk_frozen Kg0.out 2
      have cg0_3 : wB.cell? ⟨g0, 3, none⟩ = some (.int .u32 x3) := (blk_cell Kg0.out 3).trans rfl
      have zg0_3 := blk_frozen Kg0.out 3
      have cg0_4 : wB.cell? ⟨g0, 4, none⟩ = some (.int .u32 y0) := (blk_cell Kg0.out 4).trans rfl
      have zg0_4 := blk_frozen Kg0.out 4
      have cg0_5 : wB.cell? ⟨g0, 5, none⟩ = some (.int .u32 y1) := (blk_cell Kg0.out 5).trans rfl
      have zg0_5 := blk_frozen Kg0.out 5
      have cg0_6 : wB.cell? ⟨g0, 6, none⟩ = some (.int .u32 y2) := (blk_cell Kg0.out 6).trans rfl
      have zg0_6 := blk_frozen Kg0.out 6
      have cg0_7 : wB.cell? ⟨g0, 7, none⟩ = some (.int .u32 y3) := (blk_cell Kg0.out 7).trans rfl
      have zg0_7 := blk_frozen Kg0.out 7
      have cg1_0 : wB.cell? ⟨g1, 0, none⟩ = some (.int .u32 0) := (blk_cell Kg1.out 0).trans rfl
      have zg1_0 := blk_frozen Kg1.out 0
      have cg1_1 : wB.cell? ⟨g1, 1, none⟩ = some (.int .u32 0) := (blk_cell Kg1.out 1).trans rfl
      have zg1_1 := blk_frozen Kg1.out 1
      have cg1_2 : wB.cell? ⟨g1, 2, none⟩ = some (.int .u32 0) := (blk_cell Kg1.out 2).trans rfl
      have zg1_2 := blk_frozen Kg1.out 2
      have cg1_3 : wB.cell? ⟨g1, 3, none⟩ = some (.int .u32 0) := (blk_cell Kg1.out 3).trans rfl
      have zg1_3 := blk_frozen Kg1.out 3
      have cg1_4 : wB.cell? ⟨g1, 4, none⟩ = some (.int .u32 0) := (blk_cell Kg1.out 4).trans rfl
      have zg1_4 := blk_frozen Kg1.out 4
      have cg1_5 : wB.cell? ⟨g1, 5, none⟩ = some (.int .u32 0) := (blk_cell Kg1.out 5).trans rfl
      have zg1_5 := blk_frozen Kg1.out 5
      have cg1_6 : wB.cell? ⟨g1, 6, none⟩ = some (.int .u32 0) := (blk_cell Kg1.out 6).trans rfl
      have zg1_6 := blk_frozen Kg1.out 6
      have cg1_7 : wB.cell? ⟨g1, 7, none⟩ = some (.int .u32 0) := (blk_cell Kg1.out 7).trans rfl
      have zg1_7 := blk_frozen Kg1.out 7
      have cg2_0 : wB.cell? ⟨g2, 0, none⟩ = some (.int .u32 x0) := (blk_cell Kg2.out 0).trans rfl
      have zg2_0 := blk_frozen Kg2.out 0
      have cg2_1 : wB.cell? ⟨g2, 1, none⟩ = some (.int .u32 x1) := (blk_cell Kg2.out 1).trans rfl
      have zg2_1 := blk_frozen Kg2.out 1
      have cg2_2 : wB.cell? ⟨g2, 2, none⟩ = some (.int .u32 x2) := (blk_cell Kg2.out 2).trans rfl
      have zg2_2 := blk_frozen Kg2.out 2
      have cg2_3 : wB.cell? ⟨g2, 3, none⟩ = some (.int .u32 x3) := (blk_cell Kg2.out 3).trans rfl
      have zg2_3 := blk_frozen Kg2.out 3
      have cg2_4 : wB.cell? ⟨g2, 4, none⟩ = some (.int .u32 y0) := (blk_cell Kg2.out 4).trans rfl
      have zg2_4 := blk_frozen Kg2.out 4
      have cg2_5 : wB.cell? ⟨g2, 5, none⟩ = some (.int .u32 y1) := (blk_cell Kg2.out 5).trans rfl
      have zg2_5 := blk_frozen Kg2.out 5
      have cg2_6 : wB.cell? ⟨g2, 6, none⟩ = some (.int .u32 y2) := (blk_cell Kg2.out 6).trans rfl
      have zg2_6 := blk_frozen Kg2.out 6
      have cg2_7 : wB.cell? ⟨g2, 7, none⟩ = some (.int .u32 y3) := (blk_cell Kg2.out 7).trans rfl
      have zg2_7 := blk_frozen Kg2.out 7
      try clear fg0g1 fg1g0 fg0g2 fg2g0 fg1g2 fg2g1
      have fg0g1 : (g0 = g1) = False := eq_false Ng0g1.out
      have fg1g0 : (g1 = g0) = False := eq_false Ng0g1.out.symm
      have fg0g2 : (g0 = g2) = False := eq_false Ng0g2.out
      have fg2g0 : (g2 = g0) = False := eq_false Ng0g2.out.symm
      have fg1g2 : (g1 = g2) = False := eq_false Ng1g2.out
      have fg2g1 : (g2 = g1) = False := eq_false Ng1g2.out.symm
      refine inLoop_k fun K1 hK1 => ?_
      go_wp2
      try clear hK1
      try clear K1
      refine inLoop_k fun K1 hK1 => ?_
      go_wp2
      try clear hK1
      try clear K1
      refine inLoop_k fun K1 hK1 => ?_
      go_wp2
      try clear hK1
      try clear K1
      refine inLoop_k fun K1 hK1 => ?_
      go_wp2
      try clear hK1
      try clear K1
      refine inLoop_k fun K1 hK1 => ?_
      go_wp2
      try clear hK1
      try clear K1
      refine inLoop_k fun K1 hK1 => ?_
      go_wp2
      try clear hK1
      try clear K1
      refine inLoop_k fun K1 hK1 => ?_
      go_wp2
      try clear hK1
      try clear K1
      refine inLoop_k fun K1 hK1 => ?_
      go_wp2
      try clear hK1
      try clear K1
      have hm : mixR ((n + 1 : Nat) : Int) s = ⟨x3, y0, y1, y2, y3, x0, x1, x2⟩ := by
        unfold mixR
        rw [show ((n + 1 : Nat) : Int) = (n : Int) + 1 from rfl, H_y0.out, H_y1.out, H_y2.out, H_y3.out, H_x0.out, H_x1.out, H_x2.out, H_x3.out, H_xa.out]
      have HM : Aside0 (n + 1 + kp = 8 ∧ St.Ok ⟨x3, y0, y1, y2, y3, x0, x1, x2⟩ ∧ mixN kp (n + 1 + 1) ⟨x3, y0, y1, y2, y3, x0, x1, x2⟩ = ⟨r1, r2, r3, r4, r5, r6, r7, r8⟩) := ⟨by have := HA.out.1; omega, hm ▸ mixR_ok _ _, by rw [← hm]; exact HA.out.2.2⟩
      clear hm
      have hn1 : ((n : Int) + 1) % 4294967296 = (n : Int) + 1 := by omega
      refine inLoop_k fun K1 hK1 => ?_
      go_wp2
      go_roundg kp
      case measure => omega
      case rel => exact ⟨n + 1, ⟨x3, y0, y1, y2, y3, x0, x1, x2⟩, by first | rfl | (simp; done), HM, ⟨(by repeat (first | (with_reducible first | exact HB.out | apply below_alloc | apply pw_below_drewN | apply below_drew1 | refine below_set ?_ Gg0.out | refine below_set ?_ Gg1.out | refine below_set ?_ Gg2.out) | exact HB.out))⟩, ⟨(Eq.trans (by (with_reducible repeat (first | exact Kg0.out | apply blk_set | apply far_put Ng0g1.out | apply far_put Ng0g1.out.symm | apply far_put Ng0g2.out | apply far_put Ng0g2.out.symm | apply far_put Ng1g2.out | apply far_put Ng1g2.out.symm | apply blk_drewN | apply blk_drew | apply blk_alloc))) (by first | rfl))⟩, ⟨(Eq.trans (by (with_reducible repeat (first | exact Kg1.out | apply blk_set | apply far_put Ng0g1.out | apply far_put Ng0g1.out.symm | apply far_put Ng0g2.out | apply far_put Ng0g2.out.symm | apply far_put Ng1g2.out | apply far_put Ng1g2.out.symm | apply blk_drewN | apply blk_drew | apply blk_alloc))) (by first | rfl))⟩⟩
    · obtain rfl : gk = 0 := by have := HA.out.1; omega
      have c1b : decide ((n : Int) < 8) = false := decide_eq_false (by omega)
      have hs : s = ⟨r1, r2, r3, r4, r5, r6, r7, r8⟩ := HA.out.2.2
      clear HA
      subst hs
      have cg0_0 : wr.cell? ⟨g0, 0, none⟩ = some (.int .u32 r1) := (blk_cell Kg0.out 0).trans rfl
      have zg0_0 := blk_frozen Kg0.out 0
      have cg0_1 : wr.cell? ⟨g0, 1, none⟩ = some (.int .u32 r2) := (blk_cell Kg0.out 1).trans rfl
      have zg0_1 := blk_frozen Kg0.out 1
      have cg0_2 : wr.cell? ⟨g0, 2, none⟩ = some (.int .u32 r3) := (blk_cell Kg0.out 2).trans rfl
      have zg0_2 := blk_frozen Kg0.out 2
      have cg0_3 : wr.cell? ⟨g0, 3, none⟩ = some (.int .u32 r4) := (blk_cell Kg0.out 3).trans rfl
      have zg0_3 := blk_frozen Kg0.out 3
      have cg0_4 : wr.cell? ⟨g0, 4, none⟩ = some (.int .u32 r5) := (blk_cell Kg0.out 4).trans rfl
      have zg0_4 := blk_frozen Kg0.out 4
      have cg0_5 : wr.cell? ⟨g0, 5, none⟩ = some (.int .u32 r6) := (blk_cell Kg0.out 5).trans rfl
      have zg0_5 := blk_frozen Kg0.out 5
      have cg0_6 : wr.cell? ⟨g0, 6, none⟩ = some (.int .u32 r7) := (blk_cell Kg0.out 6).trans rfl
      have zg0_6 := blk_frozen Kg0.out 6
      have cg0_7 : wr.cell? ⟨g0, 7, none⟩ = some (.int .u32 r8) := (blk_cell Kg0.out 7).trans rfl
      have zg0_7 := blk_frozen Kg0.out 7
      have cg1_0 : wr.cell? ⟨g1, 0, none⟩ = some (.int .u32 0) := (blk_cell Kg1.out 0).trans rfl
      have zg1_0 := blk_frozen Kg1.out 0
      have cg1_1 : wr.cell? ⟨g1, 1, none⟩ = some (.int .u32 0) := (blk_cell Kg1.out 1).trans rfl
      have zg1_1 := blk_frozen Kg1.out 1
      have cg1_2 : wr.cell? ⟨g1, 2, none⟩ = some (.int .u32 0) := (blk_cell Kg1.out 2).trans rfl
      have zg1_2 := blk_frozen Kg1.out 2
      have cg1_3 : wr.cell? ⟨g1, 3, none⟩ = some (.int .u32 0) := (blk_cell Kg1.out 3).trans rfl
      have zg1_3 := blk_frozen Kg1.out 3
      have cg1_4 : wr.cell? ⟨g1, 4, none⟩ = some (.int .u32 0) := (blk_cell Kg1.out 4).trans rfl
      have zg1_4 := blk_frozen Kg1.out 4
      have cg1_5 : wr.cell? ⟨g1, 5, none⟩ = some (.int .u32 0) := (blk_cell Kg1.out 5).trans rfl
      have zg1_5 := blk_frozen Kg1.out 5
      have cg1_6 : wr.cell? ⟨g1, 6, none⟩ = some (.int .u32 0) := (blk_cell Kg1.out 6).trans rfl
      have zg1_6 := blk_frozen Kg1.out 6
      have cg1_7 : wr.cell? ⟨g1, 7, none⟩ = some (.int .u32 0) := (blk_cell Kg1.out 7).trans rfl
      have zg1_7 := blk_frozen Kg1.out 7
      go_wp2
      refine bodyPost_ret (results_cell_row rfl _ _ (g1) 31 #[.int .u32 r1, .int .u32 r2, .int .u32 r3, .int .u32 r4, .int .u32 r5, .int .u32 r6, .int .u32 r7, .int .u32 r8] (0, 0) _ rfl (by (with_reducible repeat (first | refine blk_drewN ?_ _ | refine blk_drew ?_)); refine blk_put (cs := #[.int .u32 r1, .int .u32 r2, .int .u32 r3, .int .u32 r4, .int .u32 r5, .int .u32 r6, .int .u32 r7, .int .u32 0]) ?_ 7 _ rfl; (with_reducible repeat (first | refine blk_drewN ?_ _ | refine blk_drew ?_)); refine blk_put (cs := #[.int .u32 r1, .int .u32 r2, .int .u32 r3, .int .u32 r4, .int .u32 r5, .int .u32 r6, .int .u32 0, .int .u32 0]) ?_ 6 _ rfl; (with_reducible repeat (first | refine blk_drewN ?_ _ | refine blk_drew ?_)); refine blk_put (cs := #[.int .u32 r1, .int .u32 r2, .int .u32 r3, .int .u32 r4, .int .u32 r5, .int .u32 0, .int .u32 0, .int .u32 0]) ?_ 5 _ rfl; (with_reducible repeat (first | refine blk_drewN ?_ _ | refine blk_drew ?_)); refine blk_put (cs := #[.int .u32 r1, .int .u32 r2, .int .u32 r3, .int .u32 r4, .int .u32 0, .int .u32 0, .int .u32 0, .int .u32 0]) ?_ 4 _ rfl; (with_reducible repeat (first | refine blk_drewN ?_ _ | refine blk_drew ?_)); refine blk_put (cs := #[.int .u32 r1, .int .u32 r2, .int .u32 r3, .int .u32 0, .int .u32 0, .int .u32 0, .int .u32 0, .int .u32 0]) ?_ 3 _ rfl; (with_reducible repeat (first | refine blk_drewN ?_ _ | refine blk_drew ?_)); refine blk_put (cs := #[.int .u32 r1, .int .u32 r2, .int .u32 0, .int .u32 0, .int .u32 0, .int .u32 0, .int .u32 0, .int .u32 0]) ?_ 2 _ rfl; (with_reducible repeat (first | refine blk_drewN ?_ _ | refine blk_drew ?_)); refine blk_put (cs := #[.int .u32 r1, .int .u32 0, .int .u32 0, .int .u32 0, .int .u32 0, .int .u32 0, .int .u32 0, .int .u32 0]) ?_ 1 _ rfl; (with_reducible repeat (first | refine blk_drewN ?_ _ | refine blk_drew ?_)); refine blk_put (cs := #[.int .u32 0, .int .u32 0, .int .u32 0, .int .u32 0, .int .u32 0, .int .u32 0, .int .u32 0, .int .u32 0]) ?_ 0 _ rfl; (with_reducible repeat (first | refine blk_drewN ?_ _ | refine blk_drew ?_)); exact Kg1.out) Tryd.underlying31 rfl (by kernel_rfl)) rfl ?_
      exact ⟨rfl, (by repeat (first | (with_reducible first | exact HB.out | apply below_alloc | apply pw_below_drewN | apply below_drew1 | refine below_set ?_ Gg1.out) | exact HB.out))⟩


end Go.Proofs.YthimgiphlenjdaaDoor.PI
