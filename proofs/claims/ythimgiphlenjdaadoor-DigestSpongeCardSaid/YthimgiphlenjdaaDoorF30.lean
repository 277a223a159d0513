/- Contracts of the Go functions of this seat, each over a Lean function of the same answers; written by a program of this session's. -/
import Derived.Test.YthimgiphlenjdaaDoorPIx0
import Derived.Test.YthimgiphlenjdaaDoorHWords
import Derived.Test.YthimgiphlenjdaaDoorF22
namespace Go.Proofs.YthimgiphlenjdaaDoor.PI
open Go.RowKit Go.Proofs.YthimgiphlenjdaaDoorW.PrintWords Go.Proofs.YthimgiphlenjdaaDoorW.PrintLast Go.Proofs.YthimgiphlenjdaaDoorW.PrintMore
attribute [local go_sem] max2_int min2_int max_two min_two max_three min_three max_four min_four   -- for this text's walks alone
open HX
set_option linter.unusedVariables false
set_option linter.unusedSimpArgs false

attribute [local go_sem high] eqA24
/-! ### seedcornlaw03_took: function 30 -/
def seedcornlaw03_took.f (a0_0 : Int) (a0_1 : Int) (a0_2 : Int) (a0_3 : Int) (a0_4 : Int) (a0_5 : Int) (a0_6 : Int) (a0_7 : Int) (a1_0 : Int) (a1_1 : Int) (a1_2 : Int) (a1_3 : Int) : Option (Int × Int × Int × Int × Int × Int × Int × Int) :=
  digest_Mix.f (Go.bits .xor .u32 a0_0 a1_0) (Go.bits .xor .u32 a0_1 a1_1) (Go.bits .xor .u32 a0_2 a1_2) (Go.bits .xor .u32 a0_3 a1_3) a0_4 a0_5 a0_6 a0_7
set_option maxHeartbeats 8000000 in
set_option maxRecDepth 100000 in
theorem seedcornlaw03_took.calls (a0_0 : Int) (a0_1 : Int) (a0_2 : Int) (a0_3 : Int) (a0_4 : Int) (a0_5 : Int) (a0_6 : Int) (a0_7 : Int) (a1_0 : Int) (a1_1 : Int) (a1_2 : Int) (a1_3 : Int) (r1 : Int) (r2 : Int) (r3 : Int) (r4 : Int) (r5 : Int) (r6 : Int) (r7 : Int) (r8 : Int) (w : World) (h : seedcornlaw03_took.f a0_0 a0_1 a0_2 a0_3 a0_4 a0_5 a0_6 a0_7 a1_0 a1_1 a1_2 a1_3 = some (r1, r2, r3, r4, r5, r6, r7, r8)) (htb_ : Tab w) :
    Calls Tryd.prog 30 #[.agg #[.int .u32 a0_0, .int .u32 a0_1, .int .u32 a0_2, .int .u32 a0_3, .int .u32 a0_4, .int .u32 a0_5, .int .u32 a0_6, .int .u32 a0_7], .agg #[.int .u32 a1_0, .int .u32 a1_1, .int .u32 a1_2, .int .u32 a1_3]] w fun e w' => e = .returned (.agg #[.int .u32 r1, .int .u32 r2, .int .u32 r3, .int .u32 r4, .int .u32 r5, .int .u32 r6, .int .u32 r7, .int .u32 r8]) ∧ Below w.heap.size w w' := by
  have hu31 := Tryd.underlying31
  have HTB := Aside0.mk htb_
  clear htb_
  have A : Aside0 (digest_Mix.f (Go.bits .xor .u32 a0_0 a1_0) (Go.bits .xor .u32 a0_1 a1_1) (Go.bits .xor .u32 a0_2 a1_2) (Go.bits .xor .u32 a0_3 a1_3) a0_4 a0_5 a0_6 a0_7 = some (r1, r2, r3, r4, r5, r6, r7, r8)) := Aside0.mk h
  clear h
  have HB := Aside0.mk (Below.refl w.heap.size w)
  go_enter Tryd.func30, Tryd.ntmps30
  go_wp2
  refine wp_loop_in (inLoop_k fun K1 hK1 => ?_)
  go_wp2
  go_region
  go_wp2
  try clear hK1
  try clear K1
  refine inLoop_k fun K1 hK1 => ?_
  go_wp2
  go_region
  go_wp2
  try clear hK1
  try clear K1
  refine inLoop_k fun K1 hK1 => ?_
  go_wp2
  go_region
  go_wp2
  try clear hK1
  try clear K1
  refine inLoop_k fun K1 hK1 => ?_
  go_wp2
  go_region
  go_wp2
  try clear hK1
  try clear K1
  refine inLoop_k fun K1 hK1 => ?_
  go_wp2_with (first | ((with_reducible refine gate_callee (f := 22) rfl ?_); refine goesL_ (some 20) rfl rfl Tryd.func22 (by kernel_rfl) rfl #[.agg #[.int .u32 (Go.bits .xor .u32 a0_0 a1_0), .int .u32 (Go.bits .xor .u32 a0_1 a1_1), .int .u32 (Go.bits .xor .u32 a0_2 a1_2), .int .u32 (Go.bits .xor .u32 a0_3 a1_3), .int .u32 a0_4, .int .u32 a0_5, .int .u32 a0_6, .int .u32 a0_7]] rfl (by (try simp only [List.map_toArray, List.map_cons, List.map_nil]); first | done | rfl) ?_; (with_reducible refine (digest_Mix.calls _ _ _ _ _ _ _ _ r1 r2 r3 r4 r5 r6 r7 r8 _ A.out (Tab.below HTB.out (by repeat (first | (with_reducible first | exact HB.out | apply below_alloc | apply pw_below_drewN | apply below_drew1 | refine below_set ?_ (by omega)) | exact HB.out)))).mono ?_); rintro e w1 ⟨rfl, hb⟩; refine ⟨_, rfl, ?_⟩; have n0_ := Aside0.mk (blk_below (g := w.heap.size + 1 + 1) (o := .cells #[.int .u32 0, .int .u32 0, .int .u32 0, .int .u32 0, .int .u32 0, .int .u32 0, .int .u32 0, .int .u32 0] 31 (0, 0)) (by (with_reducible repeat (first | refine blk_drewN ?_ _ | refine blk_drew ?_)); exact blk_newAt (by simp only [World.size_alloc, World.size_setCell, World.size_drew])) hb); have n1_ := Aside0.mk (below_step (by repeat (first | (with_reducible first | exact HB.out | apply below_alloc | apply pw_below_drewN | apply below_drew1 | refine below_set ?_ (by omega)) | exact HB.out)) hb); clear HB; have BKR := n0_; have HB := n1_; clear n0_ n1_; clear hb; have hcz_0 : w1.cell? ⟨w.heap.size + 1 + 1, 0, none⟩ = some (.int .u32 0) := (blk_cell BKR.out 0).trans rfl; have hcz_1 : w1.cell? ⟨w.heap.size + 1 + 1, 1, none⟩ = some (.int .u32 0) := (blk_cell BKR.out 1).trans rfl; have hcz_2 : w1.cell? ⟨w.heap.size + 1 + 1, 2, none⟩ = some (.int .u32 0) := (blk_cell BKR.out 2).trans rfl; have hcz_3 : w1.cell? ⟨w.heap.size + 1 + 1, 3, none⟩ = some (.int .u32 0) := (blk_cell BKR.out 3).trans rfl; have hcz_4 : w1.cell? ⟨w.heap.size + 1 + 1, 4, none⟩ = some (.int .u32 0) := (blk_cell BKR.out 4).trans rfl; have hcz_5 : w1.cell? ⟨w.heap.size + 1 + 1, 5, none⟩ = some (.int .u32 0) := (blk_cell BKR.out 5).trans rfl; have hcz_6 : w1.cell? ⟨w.heap.size + 1 + 1, 6, none⟩ = some (.int .u32 0) := (blk_cell BKR.out 6).trans rfl; have hcz_7 : w1.cell? ⟨w.heap.size + 1 + 1, 7, none⟩ = some (.int .u32 0) := (blk_cell BKR.out 7).trans rfl; have hcz_f0 := blk_frozen BKR.out 0; have hcz_f1 := blk_frozen BKR.out 1; have hcz_f2 := blk_frozen BKR.out 2; have hcz_f3 := blk_frozen BKR.out 3; have hcz_f4 := blk_frozen BKR.out 4; have hcz_f5 := blk_frozen BKR.out 5; have hcz_f6 := blk_frozen BKR.out 6; have hcz_f7 := blk_frozen BKR.out 7))
  refine bodyPost_ret (results_cell_row rfl _ _ (w.heap.size + 1 + 1) 31 #[.int .u32 r1, .int .u32 r2, .int .u32 r3, .int .u32 r4, .int .u32 r5, .int .u32 r6, .int .u32 r7, .int .u32 r8] (0, 0) _ rfl (by (with_reducible repeat (first | refine blk_drewN ?_ _ | refine blk_drew ?_)); refine blk_put (cs := #[.int .u32 r1, .int .u32 r2, .int .u32 r3, .int .u32 r4, .int .u32 r5, .int .u32 r6, .int .u32 r7, .int .u32 0]) ?_ 7 _ rfl; (with_reducible repeat (first | refine blk_drewN ?_ _ | refine blk_drew ?_)); refine blk_put (cs := #[.int .u32 r1, .int .u32 r2, .int .u32 r3, .int .u32 r4, .int .u32 r5, .int .u32 r6, .int .u32 0, .int .u32 0]) ?_ 6 _ rfl; (with_reducible repeat (first | refine blk_drewN ?_ _ | refine blk_drew ?_)); refine blk_put (cs := #[.int .u32 r1, .int .u32 r2, .int .u32 r3, .int .u32 r4, .int .u32 r5, .int .u32 0, .int .u32 0, .int .u32 0]) ?_ 5 _ rfl; (with_reducible repeat (first | refine blk_drewN ?_ _ | refine blk_drew ?_)); refine blk_put (cs := #[.int .u32 r1, .int .u32 r2, .int .u32 r3, .int .u32 r4, .int .u32 0, .int .u32 0, .int .u32 0, .int .u32 0]) ?_ 4 _ rfl; (with_reducible repeat (first | refine blk_drewN ?_ _ | refine blk_drew ?_)); refine blk_put (cs := #[.int .u32 r1, .int .u32 r2, .int .u32 r3, .int .u32 0, .int .u32 0, .int .u32 0, .int .u32 0, .int .u32 0]) ?_ 3 _ rfl; (with_reducible repeat (first | refine blk_drewN ?_ _ | refine blk_drew ?_)); refine blk_put (cs := #[.int .u32 r1, .int .u32 r2, .int .u32 0, .int .u32 0, .int .u32 0, .int .u32 0, .int .u32 0, .int .u32 0]) ?_ 2 _ rfl; (with_reducible repeat (first | refine blk_drewN ?_ _ | refine blk_drew ?_)); refine blk_put (cs := #[.int .u32 r1, .int .u32 0, .int .u32 0, .int .u32 0, .int .u32 0, .int .u32 0, .int .u32 0, .int .u32 0]) ?_ 1 _ rfl; (with_reducible repeat (first | refine blk_drewN ?_ _ | refine blk_drew ?_)); refine blk_put (cs := #[.int .u32 0, .int .u32 0, .int .u32 0, .int .u32 0, .int .u32 0, .int .u32 0, .int .u32 0, .int .u32 0]) ?_ 0 _ rfl; (with_reducible repeat (first | refine blk_drewN ?_ _ | refine blk_drew ?_)); exact BKR.out) Tryd.underlying31 rfl (by kernel_rfl)) rfl ?_
  exact ⟨rfl, (by repeat (first | (with_reducible first | exact HB.out | apply below_alloc | apply pw_below_drewN | apply below_drew1 | refine below_set ?_ (by omega)) | exact HB.out))⟩


end Go.Proofs.YthimgiphlenjdaaDoor.PI
