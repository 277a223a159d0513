/- Contracts of the Go functions of this seat, each over a Lean function of the same answers; written by a program of this session's. -/
import Derived.Test.YthimgiphlenjdaaDoorPIx0
import Derived.Test.YthimgiphlenjdaaDoorHWords
import Derived.Test.YthimgiphlenjdaaDoorF19
import Derived.Test.YthimgiphlenjdaaDoorF20
import Derived.Test.YthimgiphlenjdaaDoorF21
import Derived.Test.YthimgiphlenjdaaDoorF27
namespace Go.Proofs.YthimgiphlenjdaaDoor.PI
open Go.RowKit Go.Proofs.YthimgiphlenjdaaDoorW.PrintWords Go.Proofs.YthimgiphlenjdaaDoorW.PrintLast Go.Proofs.YthimgiphlenjdaaDoorW.PrintMore
attribute [local go_sem] max2_int min2_int max_two min_two max_three min_three max_four min_four   -- for this text's walks alone
open HX
set_option linter.unusedVariables false
set_option linter.unusedSimpArgs false

attribute [local go_sem high] eqA24
/-! ### seedcornlaw03_DigestReads: function 7 -/
mutual
def seedcornlaw03_DigestReads.j0 : Nat → ByteArray → Int → Bool → Int → Int → Int → Int → Option (Bool)
  | 0, _, _, _, _, _, _, _ => none
  | k + 1, x0, x4, x31, x300000, x300001, x300002, x300003 => if x31 = true then (some false) else (if x4 = 0 then ((digest_Text.f x300000 x300001 x300002 x300003).bind fun t307 => (seedcornlaw03_DigestReads.l0 k x0 t307 0)) else ((seedcornlaw03_awake.f).bind fun t306 => (some t306)))
def seedcornlaw03_DigestReads.l0 : Nat → ByteArray → ByteArray → Int → Option (Bool)
  | 0, _, _, _ => none
  | k + 1, x0, x7, x8 => if x8 < (x0.size : Int) then (if 0 ≤ x8 then (if (bt x0 x8) ≥ 65 then (seedcornlaw03_DigestReads.j2 k x0 x7 x8 (bt x0 x8) (decide ((bt x0 x8) ≤ 70))) else (seedcornlaw03_DigestReads.j2 k x0 x7 x8 (bt x0 x8) false)) else (none)) else ((seedcornlaw03_awake.f).bind fun t308 => (some t308))
def seedcornlaw03_DigestReads.j2 : Nat → ByteArray → ByteArray → Int → Int → Bool → Option (Bool)
  | 0, _, _, _, _, _ => none
  | k + 1, x0, x7, x8, x9, x51 => if x51 = true then (if x8 ≥ (x7.size : Int) then (some false) else (if 0 ≤ x8 then (if x8 < (x7.size : Int) then (if (bt x7 x8) = ((x9 + 32) % 256) then (seedcornlaw03_DigestReads.l0 k x0 x7 (wrap64 (x8 + 1))) else (some false)) else (none)) else (none))) else (if x8 ≥ (x7.size : Int) then (some false) else (if 0 ≤ x8 then (if x8 < (x7.size : Int) then (if (bt x7 x8) = x9 then (seedcornlaw03_DigestReads.l0 k x0 x7 (wrap64 (x8 + 1))) else (some false)) else (none)) else (none)))
end
def seedcornlaw03_DigestReads.f (k : Nat) (a0 : ByteArray) : Option (Bool) := if (a0.size : Int) > 80 then ((seedcornlaw03_awake.f).bind fun t293 => (some t293)) else ((digest_Parse.f a0).bind fun bt294 => ((seedcornref03_Parse.f a0).bind fun bt300 => (if (!(bt294.1 == bt300.1) || (!(bt294.2.1 == bt300.2.1) || (!(bt294.2.2.1 == bt300.2.2.1) || (!(bt294.2.2.2.1 == bt300.2.2.2.1))))) = true then (seedcornlaw03_DigestReads.j0 k a0 bt294.2.2.2.2 true bt294.1 bt294.2.1 bt294.2.2.1 bt294.2.2.2.1) else (seedcornlaw03_DigestReads.j0 k a0 bt294.2.2.2.2 (bt294.2.2.2.2 != bt300.2.2.2.2) bt294.1 bt294.2.1 bt294.2.2.1 bt294.2.2.2.1))))
theorem seedcornlaw03_DigestReads.mono_l : ∀ k, (∀ y0 y1 y2 y3 y4 y5 y6, LeO (seedcornlaw03_DigestReads.j0 k y0 y1 y2 y3 y4 y5 y6) (seedcornlaw03_DigestReads.j0 (k + 1) y0 y1 y2 y3 y4 y5 y6)) ∧ (∀ y0 y1 y2, LeO (seedcornlaw03_DigestReads.l0 k y0 y1 y2) (seedcornlaw03_DigestReads.l0 (k + 1) y0 y1 y2)) ∧ (∀ y0 y1 y2 y3 y4, LeO (seedcornlaw03_DigestReads.j2 k y0 y1 y2 y3 y4) (seedcornlaw03_DigestReads.j2 (k + 1) y0 y1 y2 y3 y4))
  | 0 => ⟨fun _ _ _ _ _ _ _ r h => by simp [seedcornlaw03_DigestReads.j0] at h, fun _ _ _ r h => by simp [seedcornlaw03_DigestReads.l0] at h, fun _ _ _ _ _ r h => by simp [seedcornlaw03_DigestReads.j2] at h⟩
  | k + 1 => by
    obtain ⟨ih0, ih1, ih2⟩ := seedcornlaw03_DigestReads.mono_l k
    refine ⟨?_, ?_, ?_⟩
    · intro y0 y1 y2 y3 y4 y5 y6
      unfold seedcornlaw03_DigestReads.j0
      repeat' first
      | (with_reducible exact ih0 _ _ _ _ _ _ _)
      | (with_reducible exact ih1 _ _ _)
      | (with_reducible exact ih2 _ _ _ _ _)
      | (with_reducible exact LeO.refl _)
      | (with_reducible exact LeO.none _)
      | (with_reducible refine LeO.ite ?_ ?_)
      | (with_reducible refine LeO.bind ?_ (fun _ => ?_))
      | exact ih0 _ _ _ _ _ _ _
      | exact ih1 _ _ _
      | exact ih2 _ _ _ _ _
      | exact LeO.none _
      | refine LeO.ite ?_ ?_
      | refine LeO.bind ?_ (fun _ => ?_)
    · intro y0 y1 y2
      unfold seedcornlaw03_DigestReads.l0
      repeat' first
      | (with_reducible exact ih0 _ _ _ _ _ _ _)
      | (with_reducible exact ih1 _ _ _)
      | (with_reducible exact ih2 _ _ _ _ _)
      | (with_reducible exact LeO.refl _)
      | (with_reducible exact LeO.none _)
      | (with_reducible refine LeO.ite ?_ ?_)
      | (with_reducible refine LeO.bind ?_ (fun _ => ?_))
      | exact ih0 _ _ _ _ _ _ _
      | exact ih1 _ _ _
      | exact ih2 _ _ _ _ _
      | exact LeO.none _
      | refine LeO.ite ?_ ?_
      | refine LeO.bind ?_ (fun _ => ?_)
    · intro y0 y1 y2 y3 y4
      unfold seedcornlaw03_DigestReads.j2
      repeat' first
      | (with_reducible exact ih0 _ _ _ _ _ _ _)
      | (with_reducible exact ih1 _ _ _)
      | (with_reducible exact ih2 _ _ _ _ _)
      | (with_reducible exact LeO.refl _)
      | (with_reducible exact LeO.none _)
      | (with_reducible refine LeO.ite ?_ ?_)
      | (with_reducible refine LeO.bind ?_ (fun _ => ?_))
      | exact ih0 _ _ _ _ _ _ _
      | exact ih1 _ _ _
      | exact ih2 _ _ _ _ _
      | exact LeO.none _
      | refine LeO.ite ?_ ?_
      | refine LeO.bind ?_ (fun _ => ?_)
theorem seedcornlaw03_DigestReads.mono : ∀ a0 k, LeO (seedcornlaw03_DigestReads.f k a0) (seedcornlaw03_DigestReads.f (k + 1) a0) := by
  intro a0 k
  obtain ⟨ih0, ih1, ih2⟩ := seedcornlaw03_DigestReads.mono_l k
  unfold seedcornlaw03_DigestReads.f
  repeat' first
      | (with_reducible exact ih0 _ _ _ _ _ _ _)
      | (with_reducible exact ih1 _ _ _)
      | (with_reducible exact ih2 _ _ _ _ _)
      | (with_reducible exact LeO.refl _)
      | (with_reducible exact LeO.none _)
      | (with_reducible refine LeO.ite ?_ ?_)
      | (with_reducible refine LeO.bind ?_ (fun _ => ?_))
      | exact ih0 _ _ _ _ _ _ _
      | exact ih1 _ _ _
      | exact ih2 _ _ _ _ _
      | exact LeO.none _
      | refine LeO.ite ?_ ?_
      | refine LeO.bind ?_ (fun _ => ?_)
set_option maxHeartbeats 8000000 in
set_option maxRecDepth 100000 in
theorem seedcornlaw03_DigestReads.calls (k : Nat) (a0 : ByteArray) (r : Bool) (w : World) (h : seedcornlaw03_DigestReads.f k a0 = some r) (htb_ : Tab w) :
    Calls Tryd.prog 7 #[.string a0] w fun e w' => e = .returned (.bool r) ∧ Below w.heap.size w w' := by
  have HTB := Aside0.mk htb_
  clear htb_
  have hu24 := Tryd.underlying24
  have HB := Aside0.mk (Below.refl w.heap.size w)
  have H : (if (a0.size : Int) > 80 then ((seedcornlaw03_awake.f).bind fun t293 => (some t293)) else ((digest_Parse.f a0).bind fun bt294 => ((seedcornref03_Parse.f a0).bind fun bt300 => (if (!(bt294.1 == bt300.1) || (!(bt294.2.1 == bt300.2.1) || (!(bt294.2.2.1 == bt300.2.2.1) || (!(bt294.2.2.2.1 == bt300.2.2.2.1))))) = true then (seedcornlaw03_DigestReads.j0 k a0 bt294.2.2.2.2 true bt294.1 bt294.2.1 bt294.2.2.1 bt294.2.2.2.1) else (seedcornlaw03_DigestReads.j0 k a0 bt294.2.2.2.2 (bt294.2.2.2.2 != bt300.2.2.2.2) bt294.1 bt294.2.1 bt294.2.2.1 bt294.2.2.2.1))))) = some r := h
  clear h
  by_cases c2 : (a0.size : Int) > 80
  · rw [if_pos c2] at H
    have c2b0 : decide (80 < (a0.size : Int)) = true := decide_eq_true c2
    have c2b1 : decide (80 < a0.size) = true := decide_eq_true (by omega)
    clear c2
    replace H := Option.bind_eq_some_iff.mp H
    obtain ⟨t293, A30, H⟩ := H
    replace H : (some t293) = some r := H
    have A3 := Aside0.mk A30
    clear A30
    obtain rfl := Option.some.inj H
    go_enter Tryd.func7, Tryd.ntmps7
    go_wp2_with (first | ((with_reducible refine gate_callee (f := 21) rfl ?_); refine goesL_ (some 13) rfl rfl Tryd.func21 (by kernel_rfl) rfl #[] rfl (by (try simp only [List.map_toArray, List.map_cons, List.map_nil]); first | done | rfl | (simp only [List.length_drop, List.length_take]; rfl)) ?_; (with_reducible refine (seedcornlaw03_awake.calls  t293 _ A3.out (Tab.below HTB.out (by repeat (first | (with_reducible first | exact HB.out | apply below_alloc | apply pw_below_drewN | apply below_drew1 | refine below_set ?_ GE299.out | refine below_set ?_ GE305.out) | exact HB.out)))).mono ?_); rintro e w4 ⟨rfl, hb⟩; refine ⟨_, rfl, ?_⟩; have n0_ := Aside0.mk (below_step (by repeat (first | (with_reducible first | exact HB.out | apply below_alloc | apply pw_below_drewN | apply below_drew1) | exact HB.out)) hb); clear HB; have HB := n0_; clear n0_; (try clear hb); (try clear hb2); (try clear hk); (try clear hi)))
    go_ret
    exact ⟨by first | rfl | (simp [errW_none, errW_some] <;> rfl) | (simp [*, errW_none, errW_some] <;> rfl), by repeat (first | (with_reducible first | exact HB.out | apply below_alloc | apply pw_below_drewN | apply below_drew1) | exact HB.out)⟩
  · rw [if_neg c2] at H
    have c2b0 : decide (80 < (a0.size : Int)) = false := decide_eq_false c2
    have c2b1 : decide (80 < a0.size) = false := decide_eq_false (by omega)
    clear c2
    replace H := Option.bind_eq_some_iff.mp H
    obtain ⟨⟨t294, t295, t296, t297, t298⟩, A50, H⟩ := H
    replace H : ((seedcornref03_Parse.f a0).bind fun bt300 => (if (!(t294 == bt300.1) || (!(t295 == bt300.2.1) || (!(t296 == bt300.2.2.1) || (!(t297 == bt300.2.2.2.1))))) = true then (seedcornlaw03_DigestReads.j0 k a0 t298 true t294 t295 t296 t297) else (seedcornlaw03_DigestReads.j0 k a0 t298 (t298 != bt300.2.2.2.2) t294 t295 t296 t297))) = some r := H
    have A5 := Aside0.mk A50
    clear A50
    replace H := Option.bind_eq_some_iff.mp H
    obtain ⟨⟨t300, t301, t302, t303, t304⟩, A60, H⟩ := H
    replace H : (if (!(t294 == t300) || (!(t295 == t301) || (!(t296 == t302) || (!(t297 == t303))))) = true then (seedcornlaw03_DigestReads.j0 k a0 t298 true t294 t295 t296 t297) else (seedcornlaw03_DigestReads.j0 k a0 t298 (t298 != t304) t294 t295 t296 t297)) = some r := H
    have A6 := Aside0.mk A60
    clear A60
    have HC7 := Aside0.mk H
    clear H
    go_enter Tryd.func7, Tryd.ntmps7
    go_upto_region 5 with (first | ((with_reducible refine gate_callee (f := 19) rfl ?_); refine goesL_ (some 16) rfl rfl Tryd.func19 (by kernel_rfl) rfl #[.string a0] rfl (by (try simp only [List.map_toArray, List.map_cons, List.map_nil]); first | done | rfl | (simp only [List.length_drop, List.length_take]; rfl)) ?_; (with_reducible refine (digest_Parse.calls a0 t294 t295 t296 t297 t298 _ A5.out).mono ?_); rintro e w8 ⟨rfl, hb⟩; refine ⟨_, rfl, ?_⟩; have n0_ := Aside0.mk (below_step (by repeat (first | (with_reducible first | exact HB.out | apply below_alloc | apply pw_below_drewN | apply below_drew1) | exact HB.out)) hb); clear HB; have HB := n0_; clear n0_; (try clear hb); (try clear hb2); (try clear hk); (try clear hi)) | ((with_reducible refine gate_dst (N := 3) rfl ?_); refine box_event ?hg (N := 3) ?hd (cs := #[.int .u32 0, .int .u32 0, .int .u32 0, .int .u32 0]) (t := 24) ?hr ?_; (case hd => rfl); (case hg => rfl); (case hr => first | (go_simp; done) | (go_simp; rfl)); intro gb299 hg w9 hbox hb; have n0_ := Aside0.mk (below_step (by repeat (first | (with_reducible first | exact HB.out | apply below_alloc | apply pw_below_drewN | apply below_drew1) | exact HB.out)) hb); have n1_ := Aside0.mk (hbox); have n2_ := Aside0.mk ((by rw [hg]; exact (below_size (by repeat (first | (with_reducible first | exact HB.out | apply below_alloc | apply pw_below_drewN | apply below_drew1) | exact HB.out))) : w.heap.size ≤ gb299)); have n3_ := Aside0.mk ((by rw [hg]; exact (below_size (by repeat (first | (with_reducible first | exact HB.out | apply below_alloc | apply pw_below_drewN | apply below_drew1) | exact HB.out))) : w.heap.size ≤ gb299)); clear HB; have HB := n0_; have BK299 := n1_; have GW299 := n2_; have GE299 := n3_; clear n0_ n1_ n2_ n3_; clear hb hbox hg; have hcz10_0 : w9.cell? ⟨gb299, 0, none⟩ = some (.int .u32 0) := (blk_cell BK299.out 0).trans rfl; have hcz10_1 : w9.cell? ⟨gb299, 1, none⟩ = some (.int .u32 0) := (blk_cell BK299.out 1).trans rfl; have hcz10_2 : w9.cell? ⟨gb299, 2, none⟩ = some (.int .u32 0) := (blk_cell BK299.out 2).trans rfl; have hcz10_3 : w9.cell? ⟨gb299, 3, none⟩ = some (.int .u32 0) := (blk_cell BK299.out 3).trans rfl; have hfz10_0 := blk_frozen BK299.out 0; have hfz10_1 := blk_frozen BK299.out 1; have hfz10_2 := blk_frozen BK299.out 2; have hfz10_3 := blk_frozen BK299.out 3) | ((with_reducible refine gate_callee (f := 27) rfl ?_); refine goesL_ (some 21) rfl rfl Tryd.func27 (by kernel_rfl) rfl #[.string a0] rfl (by (try simp only [List.map_toArray, List.map_cons, List.map_nil]); first | done | rfl | (simp only [List.length_drop, List.length_take]; rfl)) ?_; (with_reducible refine (seedcornref03_Parse.calls a0 t300 t301 t302 t303 t304 _ A6.out).mono ?_); rintro e w11 ⟨rfl, hb⟩; refine ⟨_, rfl, ?_⟩; have n0_ := Aside0.mk (blk_below (g := gb299) (o := .cells #[.int .u32 t294, .int .u32 t295, .int .u32 t296, .int .u32 t297] 24 (0, 0)) (by (with_reducible repeat (first | refine blk_drewN ?_ _ | refine blk_drew ?_ | refine blk_alloc ?_ _)); refine blk_put (cs := #[.int .u32 t294, .int .u32 t295, .int .u32 t296, .int .u32 0]) ?_ 3 _ rfl; (with_reducible repeat (first | refine blk_drewN ?_ _ | refine blk_drew ?_ | refine blk_alloc ?_ _)); refine blk_put (cs := #[.int .u32 t294, .int .u32 t295, .int .u32 0, .int .u32 0]) ?_ 2 _ rfl; (with_reducible repeat (first | refine blk_drewN ?_ _ | refine blk_drew ?_ | refine blk_alloc ?_ _)); refine blk_put (cs := #[.int .u32 t294, .int .u32 0, .int .u32 0, .int .u32 0]) ?_ 1 _ rfl; (with_reducible repeat (first | refine blk_drewN ?_ _ | refine blk_drew ?_ | refine blk_alloc ?_ _)); refine blk_put (cs := #[.int .u32 0, .int .u32 0, .int .u32 0, .int .u32 0]) ?_ 0 _ rfl; (with_reducible repeat (first | refine blk_drewN ?_ _ | refine blk_drew ?_ | refine blk_alloc ?_ _)); exact BK299.out) hb); have n1_ := Aside0.mk (below_step (by repeat (first | (with_reducible first | exact HB.out | apply below_alloc | apply pw_below_drewN | apply below_drew1 | refine below_set ?_ GE299.out) | exact HB.out)) hb); clear BK299; clear HB; have BK299 := n0_; have HB := n1_; clear n0_ n1_; (try clear hb); (try clear hb2); (try clear hk); (try clear hi)) | ((with_reducible refine gate_dst (N := 5) rfl ?_); refine box_event ?hg (N := 5) ?hd (cs := #[.int .u32 0, .int .u32 0, .int .u32 0, .int .u32 0]) (t := 24) ?hr ?_; (case hd => rfl); (case hg => rfl); (case hr => first | (go_simp; done) | (go_simp; rfl)); intro gb305 hg w12 hbox hb; have n0_ := Aside0.mk (blk_below (g := gb299) (o := .cells #[.int .u32 t294, .int .u32 t295, .int .u32 t296, .int .u32 t297] 24 (0, 0)) (by (with_reducible repeat (first | refine blk_drewN ?_ _ | refine blk_drew ?_ | refine blk_alloc ?_ _)); exact BK299.out) hb); have n1_ := Aside0.mk (below_step (by repeat (first | (with_reducible first | exact HB.out | apply below_alloc | apply pw_below_drewN | apply below_drew1 | refine below_set ?_ GE299.out) | exact HB.out)) hb); have n2_ := Aside0.mk (hbox); have n3_ := Aside0.mk ((by rw [hg]; exact (below_size (by repeat (first | (with_reducible first | exact HB.out | apply below_alloc | apply pw_below_drewN | apply below_drew1 | refine below_set ?_ GE299.out) | exact HB.out))) : w.heap.size ≤ gb305)); have n4_ := Aside0.mk ((by rw [hg]; exact (below_size (by repeat (first | (with_reducible first | exact HB.out | apply below_alloc | apply pw_below_drewN | apply below_drew1 | refine below_set ?_ GE299.out) | exact HB.out))) : w.heap.size ≤ gb305)); have n5_ := Aside0.mk ((by rw [hg]; exact Nat.ne_of_lt (blk_lt (g := gb299) (o := .cells #[.int .u32 t294, .int .u32 t295, .int .u32 t296, .int .u32 t297] 24 (0, 0)) (by (with_reducible repeat (first | refine blk_drewN ?_ _ | refine blk_drew ?_ | refine blk_alloc ?_ _)); exact BK299.out)) : gb299 ≠ gb305)); have n6_ := Aside0.mk ((by rw [hg]; exact Nat.ne_of_gt (blk_lt (g := gb299) (o := .cells #[.int .u32 t294, .int .u32 t295, .int .u32 t296, .int .u32 t297] 24 (0, 0)) (by (with_reducible repeat (first | refine blk_drewN ?_ _ | refine blk_drew ?_ | refine blk_alloc ?_ _)); exact BK299.out)) : gb305 ≠ gb299)); clear BK299; clear HB; have BK299 := n0_; have HB := n1_; have BK305 := n2_; have GW305 := n3_; have GE305 := n4_; have NB299_305 := n5_; have NB305_299 := n6_; clear n0_ n1_ n2_ n3_ n4_ n5_ n6_; clear hb hbox hg; have hnb13 := NB305_299.out; have hnc13 := NB299_305.out; have hcz14_0 : w12.cell? ⟨gb305, 0, none⟩ = some (.int .u32 0) := (blk_cell BK305.out 0).trans rfl; have hcz14_1 : w12.cell? ⟨gb305, 1, none⟩ = some (.int .u32 0) := (blk_cell BK305.out 1).trans rfl; have hcz14_2 : w12.cell? ⟨gb305, 2, none⟩ = some (.int .u32 0) := (blk_cell BK305.out 2).trans rfl; have hcz14_3 : w12.cell? ⟨gb305, 3, none⟩ = some (.int .u32 0) := (blk_cell BK305.out 3).trans rfl; have hfz14_0 := blk_frozen BK305.out 0; have hfz14_1 := blk_frozen BK305.out 1; have hfz14_2 := blk_frozen BK305.out 2; have hfz14_3 := blk_frozen BK305.out 3))
    (try simp only [Act.put, List.setIfInBounds_toArray, List.set_cons_zero, List.set_cons_succ])
    go_cut [31] (fun v31 wc => ∃ (kq : Nat) (x31_6 : Bool), v31 = .bool x31_6 ∧ Aside0 (seedcornlaw03_DigestReads.j0 kq a0 t298 x31_6 t294 t295 t296 t297 = some r) ∧ Aside0 (kq ≤ k) ∧ Aside0 (wc.heap[gb299]? = some (.cells #[.int .u32 t294, .int .u32 t295, .int .u32 t296, .int .u32 t297] 24 (0, 0))) ∧ Aside0 (wc.heap[gb305]? = some (.cells #[.int .u32 t300, .int .u32 t301, .int .u32 t302, .int .u32 t303] 24 (0, 0))) ∧ Aside0 (Below w.heap.size w wc))
    case first =>
      have H := HC7.out
      clear HC7
      by_cases c15 : (!(t294 == t300) || (!(t295 == t301) || (!(t296 == t302) || (!(t297 == t303))))) = true
      · rw [if_pos c15] at H
        have c15b0 : (!(t294 == t300) || (!(t295 == t301) || (!(t296 == t302) || (!(t297 == t303))))) = true := c15
        clear c15
        (first | rw [c15b0] | (simp only [i64_w, i32_w]; rw [c15b0]) | skip)
        have H' := Aside0.mk H
        clear H
        have hnb16 := NB299_305.out
        have hnc16 := NB305_299.out
        have hcz17_0 : w12.cell? ⟨gb299, 0, none⟩ = some (.int .u32 t294) := (blk_cell BK299.out 0).trans rfl
        have hcz17_1 : w12.cell? ⟨gb299, 1, none⟩ = some (.int .u32 t295) := (blk_cell BK299.out 1).trans rfl
        have hcz17_2 : w12.cell? ⟨gb299, 2, none⟩ = some (.int .u32 t296) := (blk_cell BK299.out 2).trans rfl
        have hcz17_3 : w12.cell? ⟨gb299, 3, none⟩ = some (.int .u32 t297) := (blk_cell BK299.out 3).trans rfl
        have hfz17_0 := blk_frozen BK299.out 0
        have hfz17_1 := blk_frozen BK299.out 1
        have hfz17_2 := blk_frozen BK299.out 2
        have hfz17_3 := blk_frozen BK299.out 3
        have hcz18_0 : w12.cell? ⟨gb305, 0, none⟩ = some (.int .u32 0) := (blk_cell BK305.out 0).trans rfl
        have hcz18_1 : w12.cell? ⟨gb305, 1, none⟩ = some (.int .u32 0) := (blk_cell BK305.out 1).trans rfl
        have hcz18_2 : w12.cell? ⟨gb305, 2, none⟩ = some (.int .u32 0) := (blk_cell BK305.out 2).trans rfl
        have hcz18_3 : w12.cell? ⟨gb305, 3, none⟩ = some (.int .u32 0) := (blk_cell BK305.out 3).trans rfl
        have hfz18_0 := blk_frozen BK305.out 0
        have hfz18_1 := blk_frozen BK305.out 1
        have hfz18_2 := blk_frozen BK305.out 2
        have hfz18_3 := blk_frozen BK305.out 3
        go_wp2
        go_meet
        case rel => exact ⟨_, (true), (by first | rfl | (simp; done) | (simp [*]; done)), H', ⟨by first | omega | exact Nat.le_refl _⟩, ⟨by (with_reducible repeat (first | refine blk_drewN ?_ _ | refine blk_drew ?_ | refine blk_alloc ?_ _)); refine blk_far ?_ NB299_305.out _; (with_reducible repeat (first | refine blk_drewN ?_ _ | refine blk_drew ?_ | refine blk_alloc ?_ _)); refine blk_far ?_ NB299_305.out _; (with_reducible repeat (first | refine blk_drewN ?_ _ | refine blk_drew ?_ | refine blk_alloc ?_ _)); refine blk_far ?_ NB299_305.out _; (with_reducible repeat (first | refine blk_drewN ?_ _ | refine blk_drew ?_ | refine blk_alloc ?_ _)); refine blk_far ?_ NB299_305.out _; (with_reducible repeat (first | refine blk_drewN ?_ _ | refine blk_drew ?_ | refine blk_alloc ?_ _)); exact BK299.out⟩, ⟨by (with_reducible repeat (first | refine blk_drewN ?_ _ | refine blk_drew ?_ | refine blk_alloc ?_ _)); refine blk_put (cs := #[.int .u32 t300, .int .u32 t301, .int .u32 t302, .int .u32 0]) ?_ 3 _ rfl; (with_reducible repeat (first | refine blk_drewN ?_ _ | refine blk_drew ?_ | refine blk_alloc ?_ _)); refine blk_put (cs := #[.int .u32 t300, .int .u32 t301, .int .u32 0, .int .u32 0]) ?_ 2 _ rfl; (with_reducible repeat (first | refine blk_drewN ?_ _ | refine blk_drew ?_ | refine blk_alloc ?_ _)); refine blk_put (cs := #[.int .u32 t300, .int .u32 0, .int .u32 0, .int .u32 0]) ?_ 1 _ rfl; (with_reducible repeat (first | refine blk_drewN ?_ _ | refine blk_drew ?_ | refine blk_alloc ?_ _)); refine blk_put (cs := #[.int .u32 0, .int .u32 0, .int .u32 0, .int .u32 0]) ?_ 0 _ rfl; (with_reducible repeat (first | refine blk_drewN ?_ _ | refine blk_drew ?_ | refine blk_alloc ?_ _)); exact BK305.out⟩, ⟨by repeat (first | (with_reducible first | exact HB.out | apply below_alloc | apply pw_below_drewN | apply below_drew1 | refine below_set ?_ GE299.out | refine below_set ?_ GE305.out) | exact HB.out)⟩⟩
      · rw [if_neg c15] at H
        have c15b0 : (!(t294 == t300) || (!(t295 == t301) || (!(t296 == t302) || (!(t297 == t303))))) = false := by simpa using c15
        clear c15
        (first | rw [c15b0] | (simp only [i64_w, i32_w]; rw [c15b0]) | skip)
        have H' := Aside0.mk H
        clear H
        have hnb19 := NB299_305.out
        have hnc19 := NB305_299.out
        have hcz20_0 : w12.cell? ⟨gb299, 0, none⟩ = some (.int .u32 t294) := (blk_cell BK299.out 0).trans rfl
        have hcz20_1 : w12.cell? ⟨gb299, 1, none⟩ = some (.int .u32 t295) := (blk_cell BK299.out 1).trans rfl
        have hcz20_2 : w12.cell? ⟨gb299, 2, none⟩ = some (.int .u32 t296) := (blk_cell BK299.out 2).trans rfl
        have hcz20_3 : w12.cell? ⟨gb299, 3, none⟩ = some (.int .u32 t297) := (blk_cell BK299.out 3).trans rfl
        have hfz20_0 := blk_frozen BK299.out 0
        have hfz20_1 := blk_frozen BK299.out 1
        have hfz20_2 := blk_frozen BK299.out 2
        have hfz20_3 := blk_frozen BK299.out 3
        have hcz21_0 : w12.cell? ⟨gb305, 0, none⟩ = some (.int .u32 0) := (blk_cell BK305.out 0).trans rfl
        have hcz21_1 : w12.cell? ⟨gb305, 1, none⟩ = some (.int .u32 0) := (blk_cell BK305.out 1).trans rfl
        have hcz21_2 : w12.cell? ⟨gb305, 2, none⟩ = some (.int .u32 0) := (blk_cell BK305.out 2).trans rfl
        have hcz21_3 : w12.cell? ⟨gb305, 3, none⟩ = some (.int .u32 0) := (blk_cell BK305.out 3).trans rfl
        have hfz21_0 := blk_frozen BK305.out 0
        have hfz21_1 := blk_frozen BK305.out 1
        have hfz21_2 := blk_frozen BK305.out 2
        have hfz21_3 := blk_frozen BK305.out 3
        go_wp2
        go_meet
        case rel => exact ⟨_, ((t298 != t304)), (by first | rfl | (simp; done) | (simp [*]; done)), H', ⟨by first | omega | exact Nat.le_refl _⟩, ⟨by (with_reducible repeat (first | refine blk_drewN ?_ _ | refine blk_drew ?_ | refine blk_alloc ?_ _)); refine blk_far ?_ NB299_305.out _; (with_reducible repeat (first | refine blk_drewN ?_ _ | refine blk_drew ?_ | refine blk_alloc ?_ _)); refine blk_far ?_ NB299_305.out _; (with_reducible repeat (first | refine blk_drewN ?_ _ | refine blk_drew ?_ | refine blk_alloc ?_ _)); refine blk_far ?_ NB299_305.out _; (with_reducible repeat (first | refine blk_drewN ?_ _ | refine blk_drew ?_ | refine blk_alloc ?_ _)); refine blk_far ?_ NB299_305.out _; (with_reducible repeat (first | refine blk_drewN ?_ _ | refine blk_drew ?_ | refine blk_alloc ?_ _)); exact BK299.out⟩, ⟨by (with_reducible repeat (first | refine blk_drewN ?_ _ | refine blk_drew ?_ | refine blk_alloc ?_ _)); refine blk_put (cs := #[.int .u32 t300, .int .u32 t301, .int .u32 t302, .int .u32 0]) ?_ 3 _ rfl; (with_reducible repeat (first | refine blk_drewN ?_ _ | refine blk_drew ?_ | refine blk_alloc ?_ _)); refine blk_put (cs := #[.int .u32 t300, .int .u32 t301, .int .u32 0, .int .u32 0]) ?_ 2 _ rfl; (with_reducible repeat (first | refine blk_drewN ?_ _ | refine blk_drew ?_ | refine blk_alloc ?_ _)); refine blk_put (cs := #[.int .u32 t300, .int .u32 0, .int .u32 0, .int .u32 0]) ?_ 1 _ rfl; (with_reducible repeat (first | refine blk_drewN ?_ _ | refine blk_drew ?_ | refine blk_alloc ?_ _)); refine blk_put (cs := #[.int .u32 0, .int .u32 0, .int .u32 0, .int .u32 0]) ?_ 0 _ rfl; (with_reducible repeat (first | refine blk_drewN ?_ _ | refine blk_drew ?_ | refine blk_alloc ?_ _)); exact BK305.out⟩, ⟨by repeat (first | (with_reducible first | exact HB.out | apply below_alloc | apply pw_below_drewN | apply below_drew1 | refine below_set ?_ GE299.out | refine below_set ?_ GE305.out) | exact HB.out)⟩⟩
    case rest =>
      clear HC7
      try clear c1
      try clear c2
      try clear c2b0
      try clear c2b1
      try clear p2
      try clear c7
      try clear c13
      try clear c15
      try clear c15b0
      try clear c16
      try clear c19
      try clear c21
      try clear hcz10_0
      try clear hcz10_1
      try clear hcz10_2
      try clear hcz10_3
      try clear hcz14_0
      try clear hcz14_1
      try clear hcz14_2
      try clear hcz14_3
      try clear hcz17_0
      try clear hcz17_1
      try clear hcz17_2
      try clear hcz17_3
      try clear hcz18_0
      try clear hcz18_1
      try clear hcz18_2
      try clear hcz18_3
      try clear hcz20_0
      try clear hcz20_1
      try clear hcz20_2
      try clear hcz20_3
      try clear hcz21_0
      try clear hcz21_1
      try clear hcz21_2
      try clear hcz21_3
      try clear hfz10_0
      try clear hfz10_1
      try clear hfz10_2
      try clear hfz10_3
      try clear hfz14_0
      try clear hfz14_1
      try clear hfz14_2
      try clear hfz14_3
      try clear hfz17_0
      try clear hfz17_1
      try clear hfz17_2
      try clear hfz17_3
      try clear hfz18_0
      try clear hfz18_1
      try clear hfz18_2
      try clear hfz18_3
      try clear hfz20_0
      try clear hfz20_1
      try clear hfz20_2
      try clear hfz20_3
      try clear hfz21_0
      try clear hfz21_1
      try clear hfz21_2
      try clear hfz21_3
      obtain ⟨kq, x31_6, rfl, HA, HJ6, BK299, BK305, HB⟩ := hcut
      cases kq with
      | zero => exact absurd HA.out (by simp [seedcornlaw03_DigestReads.j0])
      | succ kj6 =>
        have H := HA.out
        clear HA
        simp only [seedcornlaw03_DigestReads.j0] at H
        by_cases c22 : x31_6 = true
        · subst c22
          have H1 : (some false) = some r := by rw [if_pos rfl] at H; exact H
          clear H
          have H := H1
          clear H1
          obtain rfl := Option.some.inj H
          go_wp2
          go_ret
          exact ⟨by first | rfl | (simp [errW_none, errW_some] <;> rfl) | (simp [*, errW_none, errW_some] <;> rfl), by repeat (first | (with_reducible first | exact HB.out | apply below_alloc | apply pw_below_drewN | apply below_drew1 | refine below_set ?_ GE299.out | refine below_set ?_ GE305.out) | exact HB.out)⟩
        · replace c22 := Bool.eq_false_iff.mpr c22
          subst c22
          have H1 : (if t298 = 0 then ((digest_Text.f t294 t295 t296 t297).bind fun t307 => (seedcornlaw03_DigestReads.l0 kj6 a0 t307 0)) else ((seedcornlaw03_awake.f).bind fun t306 => (some t306))) = some r := by rw [if_neg (show ¬ (false = true) by decide)] at H; exact H
          clear H
          have H := H1
          clear H1
          by_cases c23 : t298 = 0
          · rw [if_pos c23] at H
            have c23b0 : (t298 == 0) = true := beq_iff_eq.mpr c23
            have c23b1 : (t298 != 0) = false := bne_eq_false_iff_eq.mpr c23
            clear c23
            replace H := Option.bind_eq_some_iff.mp H
            obtain ⟨t307, A240, H⟩ := H
            replace H : (seedcornlaw03_DigestReads.l0 kj6 a0 t307 0) = some r := H
            have A24 := Aside0.mk A240
            clear A240
            have H' := Aside0.mk H
            clear H
            have hnb25 := NB299_305.out
            have hnc25 := NB305_299.out
            have hcz26_0 : wc.cell? ⟨gb299, 0, none⟩ = some (.int .u32 t294) := (blk_cell BK299.out 0).trans rfl
            have hcz26_1 : wc.cell? ⟨gb299, 1, none⟩ = some (.int .u32 t295) := (blk_cell BK299.out 1).trans rfl
            have hcz26_2 : wc.cell? ⟨gb299, 2, none⟩ = some (.int .u32 t296) := (blk_cell BK299.out 2).trans rfl
            have hcz26_3 : wc.cell? ⟨gb299, 3, none⟩ = some (.int .u32 t297) := (blk_cell BK299.out 3).trans rfl
            have hfz26_0 := blk_frozen BK299.out 0
            have hfz26_1 := blk_frozen BK299.out 1
            have hfz26_2 := blk_frozen BK299.out 2
            have hfz26_3 := blk_frozen BK299.out 3
            go_wp2_with (first | ((with_reducible refine gate_callee (f := 20) rfl ?_); refine goesL_ (some 36) rfl rfl Tryd.func20 (by kernel_rfl) rfl #[.agg #[.int .u32 t294, .int .u32 t295, .int .u32 t296, .int .u32 t297]] rfl (by (try simp only [List.map_toArray, List.map_cons, List.map_nil]); first | done | rfl | (simp only [List.length_drop, List.length_take]; rfl)) ?_; (with_reducible refine (digest_Text.calls t294 t295 t296 t297 t307 _ A24.out).mono ?_); rintro e w27 ⟨rfl, hb⟩; refine ⟨_, rfl, ?_⟩; have n0_ := Aside0.mk (blk_below (g := gb299) (o := .cells #[.int .u32 t294, .int .u32 t295, .int .u32 t296, .int .u32 t297] 24 (0, 0)) (by (with_reducible repeat (first | refine blk_drewN ?_ _ | refine blk_drew ?_ | refine blk_alloc ?_ _)); exact BK299.out) hb); have n1_ := Aside0.mk (blk_below (g := gb305) (o := .cells #[.int .u32 t300, .int .u32 t301, .int .u32 t302, .int .u32 t303] 24 (0, 0)) (by (with_reducible repeat (first | refine blk_drewN ?_ _ | refine blk_drew ?_ | refine blk_alloc ?_ _)); exact BK305.out) hb); have n2_ := Aside0.mk (below_step (by repeat (first | (with_reducible first | exact HB.out | apply below_alloc | apply pw_below_drewN | apply below_drew1 | refine below_set ?_ GE299.out | refine below_set ?_ GE305.out) | exact HB.out)) hb); clear BK299; clear BK305; clear HB; have BK299 := n0_; have BK305 := n1_; have HB := n2_; clear n0_ n1_ n2_; (try clear hb); (try clear hb2); (try clear hk); (try clear hi)))
            go_loopg [8] kj6 (fun kq v8 w' => ∃ (x8_2 : Int), v8 = .int .i64 x8_2 ∧ Aside0 (seedcornlaw03_DigestReads.l0 kq a0 t307 x8_2 = some r) ∧ Aside0 (kq ≤ kj6) ∧ Aside0 (w'.heap[gb299]? = some (.cells #[.int .u32 t294, .int .u32 t295, .int .u32 t296, .int .u32 t297] 24 (0, 0))) ∧ Aside0 (w'.heap[gb305]? = some (.cells #[.int .u32 t300, .int .u32 t301, .int .u32 t302, .int .u32 t303] 24 (0, 0))) ∧ Aside0 (Below w.heap.size w w'))
            case atStart => exact ⟨(0), (by first | rfl | (simp; done) | (simp [*]; done)), H', ⟨Nat.le_refl _⟩, ⟨by (with_reducible repeat (first | refine blk_drewN ?_ _ | refine blk_drew ?_ | refine blk_alloc ?_ _)); exact BK299.out⟩, ⟨by (with_reducible repeat (first | refine blk_drewN ?_ _ | refine blk_drew ?_ | refine blk_alloc ?_ _)); exact BK305.out⟩, ⟨by repeat (first | (with_reducible first | exact HB.out | apply below_alloc | apply pw_below_drewN | apply below_drew1 | refine below_set ?_ GE299.out | refine below_set ?_ GE305.out) | exact HB.out)⟩⟩
            case round =>
              clear H'
              try clear c1
              try clear c2
              try clear c2b0
              try clear c2b1
              try clear p2
              try clear c7
              try clear c13
              try clear c15
              try clear c15b0
              try clear c16
              try clear c19
              try clear c20
              try clear c21
              try clear c22
              try clear c23
              try clear c23b0
              try clear c23b1
              try clear c25
              try clear c27
              try clear hcz10_0
              try clear hcz10_1
              try clear hcz10_2
              try clear hcz10_3
              try clear hcz14_0
              try clear hcz14_1
              try clear hcz14_2
              try clear hcz14_3
              try clear hcz17_0
              try clear hcz17_1
              try clear hcz17_2
              try clear hcz17_3
              try clear hcz18_0
              try clear hcz18_1
              try clear hcz18_2
              try clear hcz18_3
              try clear hcz20_0
              try clear hcz20_1
              try clear hcz20_2
              try clear hcz20_3
              try clear hcz21_0
              try clear hcz21_1
              try clear hcz21_2
              try clear hcz21_3
              try clear hcz26_0
              try clear hcz26_1
              try clear hcz26_2
              try clear hcz26_3
              try clear hfz10_0
              try clear hfz10_1
              try clear hfz10_2
              try clear hfz10_3
              try clear hfz14_0
              try clear hfz14_1
              try clear hfz14_2
              try clear hfz14_3
              try clear hfz17_0
              try clear hfz17_1
              try clear hfz17_2
              try clear hfz17_3
              try clear hfz18_0
              try clear hfz18_1
              try clear hfz18_2
              try clear hfz18_3
              try clear hfz20_0
              try clear hfz20_1
              try clear hfz20_2
              try clear hfz20_3
              try clear hfz21_0
              try clear hfz21_1
              try clear hfz21_2
              try clear hfz21_3
              try clear hfz26_0
              try clear hfz26_1
              try clear hfz26_2
              try clear hfz26_3
              try clear p2
              obtain ⟨x8_2, rfl, HA, HK2, BK299, BK305, HB⟩ := hrel
              cases gk with
              | zero => exact absurd HA.out (by simp [seedcornlaw03_DigestReads.l0])
              | succ k2 =>
                have H := HA.out
                clear HA
                simp only [seedcornlaw03_DigestReads.l0] at H
                by_cases c28 : x8_2 < (a0.size : Int)
                · rw [if_pos c28] at H
                  have c28b0 : decide (x8_2 < (a0.size : Int)) = true := decide_eq_true c28
                  clear c28
                  by_cases c29 : 0 ≤ x8_2
                  · rw [if_pos c29] at H
                    have c29b0 : decide (0 ≤ x8_2) = true := decide_eq_true c29
                    clear c29
                    have HC31 := Aside0.mk H
                    clear H
                    have p30 : 0 ≤ (x8_2 : Int) := of_decide_eq_true (by first | (with_reducible assumption) | assumption)
                    have q30 : x8_2 < (a0.size : Int) := of_decide_eq_true (by first | (with_reducible assumption) | assumption)
                    have hx30 := bt_at a0 x8_2
                    replace p30 := eq_true p30
                    replace q30 := eq_true q30
                    go_upto_region 14 with (fail)
                    go_cut [51] (fun v51 wc => ∃ (kq : Nat) (x51_30 : Bool), v51 = .bool x51_30 ∧ Aside0 (seedcornlaw03_DigestReads.j2 kq a0 t307 x8_2 (bt a0 x8_2) x51_30 = some r) ∧ Aside0 (kq ≤ k2) ∧ Aside0 (wc.heap[gb299]? = some (.cells #[.int .u32 t294, .int .u32 t295, .int .u32 t296, .int .u32 t297] 24 (0, 0))) ∧ Aside0 (wc.heap[gb305]? = some (.cells #[.int .u32 t300, .int .u32 t301, .int .u32 t302, .int .u32 t303] 24 (0, 0))) ∧ Aside0 (Below w.heap.size w wc))
                    case first =>
                      have H := HC31.out
                      clear HC31
                      by_cases c32 : (bt a0 x8_2) ≥ 65
                      · rw [if_pos c32] at H
                        have c32b0 : decide (65 ≤ (bt a0 x8_2)) = true := decide_eq_true c32
                        clear c32
                        (first | rw [c32b0] | (simp only [i64_w, i32_w]; rw [c32b0]) | skip)
                        have H' := Aside0.mk H
                        clear H
                        go_wp2
                        go_meet
                        case rel => exact ⟨_, (decide ((bt a0 x8_2) ≤ 70)), (by first | rfl | (simp; done) | (simp [*]; done)), H', ⟨by have := HJ6.out; have := HK2.out; first | omega | exact Nat.le_refl _⟩, ⟨by (with_reducible repeat (first | refine blk_drewN ?_ _ | refine blk_drew ?_ | refine blk_alloc ?_ _)); exact BK299.out⟩, ⟨by (with_reducible repeat (first | refine blk_drewN ?_ _ | refine blk_drew ?_ | refine blk_alloc ?_ _)); exact BK305.out⟩, ⟨by repeat (first | (with_reducible first | exact HB.out | apply below_alloc | apply pw_below_drewN | apply below_drew1 | refine below_set ?_ GE299.out | refine below_set ?_ GE305.out) | exact HB.out)⟩⟩
                      · rw [if_neg c32] at H
                        have c32b0 : decide (65 ≤ (bt a0 x8_2)) = false := decide_eq_false c32
                        clear c32
                        (first | rw [c32b0] | (simp only [i64_w, i32_w]; rw [c32b0]) | skip)
                        have H' := Aside0.mk H
                        clear H
                        go_wp2
                        go_meet
                        case rel => exact ⟨_, (false), (by first | rfl | (simp; done) | (simp [*]; done)), H', ⟨by have := HJ6.out; have := HK2.out; first | omega | exact Nat.le_refl _⟩, ⟨by (with_reducible repeat (first | refine blk_drewN ?_ _ | refine blk_drew ?_ | refine blk_alloc ?_ _)); exact BK299.out⟩, ⟨by (with_reducible repeat (first | refine blk_drewN ?_ _ | refine blk_drew ?_ | refine blk_alloc ?_ _)); exact BK305.out⟩, ⟨by repeat (first | (with_reducible first | exact HB.out | apply below_alloc | apply pw_below_drewN | apply below_drew1 | refine below_set ?_ GE299.out | refine below_set ?_ GE305.out) | exact HB.out)⟩⟩
                    case rest =>
                      clear HC31
                      try clear c1
                      try clear c2
                      try clear c2b0
                      try clear c2b1
                      try clear p2
                      try clear c3
                      try clear p3
                      try clear q3
                      try clear hx3
                      try clear c7
                      try clear c13
                      try clear c15
                      try clear c15b0
                      try clear c16
                      try clear c19
                      try clear c20
                      try clear c21
                      try clear c22
                      try clear c23
                      try clear c23b0
                      try clear c23b1
                      try clear c25
                      try clear c27
                      try clear c28
                      try clear c28b0
                      try clear c29
                      try clear c29b0
                      try clear p30
                      try clear q30
                      try clear hx30
                      try clear c32
                      try clear c32b0
                      try clear hcz10_0
                      try clear hcz10_1
                      try clear hcz10_2
                      try clear hcz10_3
                      try clear hcz14_0
                      try clear hcz14_1
                      try clear hcz14_2
                      try clear hcz14_3
                      try clear hcz17_0
                      try clear hcz17_1
                      try clear hcz17_2
                      try clear hcz17_3
                      try clear hcz18_0
                      try clear hcz18_1
                      try clear hcz18_2
                      try clear hcz18_3
                      try clear hcz20_0
                      try clear hcz20_1
                      try clear hcz20_2
                      try clear hcz20_3
                      try clear hcz21_0
                      try clear hcz21_1
                      try clear hcz21_2
                      try clear hcz21_3
                      try clear hcz26_0
                      try clear hcz26_1
                      try clear hcz26_2
                      try clear hcz26_3
                      try clear hfz10_0
                      try clear hfz10_1
                      try clear hfz10_2
                      try clear hfz10_3
                      try clear hfz14_0
                      try clear hfz14_1
                      try clear hfz14_2
                      try clear hfz14_3
                      try clear hfz17_0
                      try clear hfz17_1
                      try clear hfz17_2
                      try clear hfz17_3
                      try clear hfz18_0
                      try clear hfz18_1
                      try clear hfz18_2
                      try clear hfz18_3
                      try clear hfz20_0
                      try clear hfz20_1
                      try clear hfz20_2
                      try clear hfz20_3
                      try clear hfz21_0
                      try clear hfz21_1
                      try clear hfz21_2
                      try clear hfz21_3
                      try clear hfz26_0
                      try clear hfz26_1
                      try clear hfz26_2
                      try clear hfz26_3
                      try clear p2
                      try clear p30
                      try clear q30
                      obtain ⟨kq, x51_30, rfl, HA, HJ30, BK299, BK305, HB⟩ := hcut
                      cases kq with
                      | zero => exact absurd HA.out (by simp [seedcornlaw03_DigestReads.j2])
                      | succ kj30 =>
                        have H := HA.out
                        clear HA
                        simp only [seedcornlaw03_DigestReads.j2] at H
                        by_cases c33 : x51_30 = true
                        · subst c33
                          have H1 : (if x8_2 ≥ (t307.size : Int) then (some false) else (if 0 ≤ x8_2 then (if x8_2 < (t307.size : Int) then (if (bt t307 x8_2) = (((bt a0 x8_2) + 32) % 256) then (seedcornlaw03_DigestReads.l0 kj30 a0 t307 (wrap64 (x8_2 + 1))) else (some false)) else (none)) else (none))) = some r := by rw [if_pos rfl] at H; exact H
                          clear H
                          have H := H1
                          clear H1
                          by_cases c34 : x8_2 ≥ (t307.size : Int)
                          · rw [if_pos c34] at H
                            have c34b0 : decide ((t307.size : Int) ≤ x8_2) = true := decide_eq_true c34
                            clear c34
                            obtain rfl := Option.some.inj H
                            go_wp2
                            go_ret
                            exact ⟨by first | rfl | (simp [errW_none, errW_some] <;> rfl) | (simp [*, errW_none, errW_some] <;> rfl), by repeat (first | (with_reducible first | exact HB.out | apply below_alloc | apply pw_below_drewN | apply below_drew1 | refine below_set ?_ GE299.out | refine below_set ?_ GE305.out) | exact HB.out)⟩
                          · rw [if_neg c34] at H
                            have c34b0 : decide ((t307.size : Int) ≤ x8_2) = false := decide_eq_false c34
                            clear c34
                            by_cases c35 : 0 ≤ x8_2
                            · rw [if_pos c35] at H
                              have c35b0 : decide (0 ≤ x8_2) = true := decide_eq_true c35
                              clear c35
                              by_cases c36 : x8_2 < (t307.size : Int)
                              · rw [if_pos c36] at H
                                have c36b0 : decide (x8_2 < (t307.size : Int)) = true := decide_eq_true c36
                                clear c36
                                by_cases c38 : (bt t307 x8_2) = (((bt a0 x8_2) + 32) % 256)
                                · rw [if_pos c38] at H
                                  have c38b0 : ((bt t307 x8_2) == (((bt a0 x8_2) + 32) % 256)) = true := beq_iff_eq.mpr c38
                                  have c38b1 : ((bt t307 x8_2) != (((bt a0 x8_2) + 32) % 256)) = false := bne_eq_false_iff_eq.mpr c38
                                  clear c38
                                  have H' := Aside0.mk H
                                  clear H
                                  have p37 : 0 ≤ (x8_2 : Int) := of_decide_eq_true (by first | (with_reducible assumption) | assumption)
                                  have q37 : x8_2 < (t307.size : Int) := of_decide_eq_true (by first | (with_reducible assumption) | assumption)
                                  have hx37 := bt_at t307 x8_2
                                  replace p37 := eq_true p37
                                  replace q37 := eq_true q37
                                  go_wp2
                                  go_roundg kj30
                                  case measure => have := HJ6.out; have := HK2.out; have := HJ30.out; omega
                                  case rel => exact ⟨(wrap64 (x8_2 + 1)), (by first | rfl | (simp; done) | (simp [*]; done)), H', ⟨by have := HJ6.out; have := HK2.out; have := HJ30.out; omega⟩, ⟨by (with_reducible repeat (first | refine blk_drewN ?_ _ | refine blk_drew ?_ | refine blk_alloc ?_ _)); exact BK299.out⟩, ⟨by (with_reducible repeat (first | refine blk_drewN ?_ _ | refine blk_drew ?_ | refine blk_alloc ?_ _)); exact BK305.out⟩, ⟨by repeat (first | (with_reducible first | exact HB.out | apply below_alloc | apply pw_below_drewN | apply below_drew1 | refine below_set ?_ GE299.out | refine below_set ?_ GE305.out) | exact HB.out)⟩⟩
                                · rw [if_neg c38] at H
                                  have c38b0 : ((bt t307 x8_2) == (((bt a0 x8_2) + 32) % 256)) = false := beq_eq_false_iff_ne.mpr c38
                                  have c38b1 : ((bt t307 x8_2) != (((bt a0 x8_2) + 32) % 256)) = true := bne_iff_ne.mpr c38
                                  obtain rfl := Option.some.inj H
                                  have p37 : 0 ≤ (x8_2 : Int) := of_decide_eq_true (by first | (with_reducible assumption) | assumption)
                                  have q37 : x8_2 < (t307.size : Int) := of_decide_eq_true (by first | (with_reducible assumption) | assumption)
                                  have hx37 := bt_at t307 x8_2
                                  replace p37 := eq_true p37
                                  replace q37 := eq_true q37
                                  go_wp2
                                  go_ret
                                  exact ⟨by first | rfl | (simp [errW_none, errW_some] <;> rfl) | (simp [*, errW_none, errW_some] <;> rfl), by repeat (first | (with_reducible first | exact HB.out | apply below_alloc | apply pw_below_drewN | apply below_drew1 | refine below_set ?_ GE299.out | refine below_set ?_ GE305.out) | exact HB.out)⟩
                              · rw [if_neg c36] at H
                                exact absurd H (by simp)
                            · rw [if_neg c35] at H
                              exact absurd H (by simp)
                        · replace c33 := Bool.eq_false_iff.mpr c33
                          subst c33
                          have H1 : (if x8_2 ≥ (t307.size : Int) then (some false) else (if 0 ≤ x8_2 then (if x8_2 < (t307.size : Int) then (if (bt t307 x8_2) = (bt a0 x8_2) then (seedcornlaw03_DigestReads.l0 kj30 a0 t307 (wrap64 (x8_2 + 1))) else (some false)) else (none)) else (none))) = some r := by rw [if_neg (show ¬ (false = true) by decide)] at H; exact H
                          clear H
                          have H := H1
                          clear H1
                          by_cases c39 : x8_2 ≥ (t307.size : Int)
                          · rw [if_pos c39] at H
                            have c39b0 : decide ((t307.size : Int) ≤ x8_2) = true := decide_eq_true c39
                            clear c39
                            obtain rfl := Option.some.inj H
                            go_wp2
                            go_ret
                            exact ⟨by first | rfl | (simp [errW_none, errW_some] <;> rfl) | (simp [*, errW_none, errW_some] <;> rfl), by repeat (first | (with_reducible first | exact HB.out | apply below_alloc | apply pw_below_drewN | apply below_drew1 | refine below_set ?_ GE299.out | refine below_set ?_ GE305.out) | exact HB.out)⟩
                          · rw [if_neg c39] at H
                            have c39b0 : decide ((t307.size : Int) ≤ x8_2) = false := decide_eq_false c39
                            clear c39
                            by_cases c40 : 0 ≤ x8_2
                            · rw [if_pos c40] at H
                              have c40b0 : decide (0 ≤ x8_2) = true := decide_eq_true c40
                              clear c40
                              by_cases c41 : x8_2 < (t307.size : Int)
                              · rw [if_pos c41] at H
                                have c41b0 : decide (x8_2 < (t307.size : Int)) = true := decide_eq_true c41
                                clear c41
                                by_cases c43 : (bt t307 x8_2) = (bt a0 x8_2)
                                · rw [if_pos c43] at H
                                  have c43b0 : ((bt t307 x8_2) == (bt a0 x8_2)) = true := beq_iff_eq.mpr c43
                                  have c43b1 : ((bt t307 x8_2) != (bt a0 x8_2)) = false := bne_eq_false_iff_eq.mpr c43
                                  clear c43
                                  have H' := Aside0.mk H
                                  clear H
                                  have p42 : 0 ≤ (x8_2 : Int) := of_decide_eq_true (by first | (with_reducible assumption) | assumption)
                                  have q42 : x8_2 < (t307.size : Int) := of_decide_eq_true (by first | (with_reducible assumption) | assumption)
                                  have hx42 := bt_at t307 x8_2
                                  replace p42 := eq_true p42
                                  replace q42 := eq_true q42
                                  go_wp2
                                  go_roundg kj30
                                  case measure => have := HJ6.out; have := HK2.out; have := HJ30.out; omega
                                  case rel => exact ⟨(wrap64 (x8_2 + 1)), (by first | rfl | (simp; done) | (simp [*]; done)), H', ⟨by have := HJ6.out; have := HK2.out; have := HJ30.out; omega⟩, ⟨by (with_reducible repeat (first | refine blk_drewN ?_ _ | refine blk_drew ?_ | refine blk_alloc ?_ _)); exact BK299.out⟩, ⟨by (with_reducible repeat (first | refine blk_drewN ?_ _ | refine blk_drew ?_ | refine blk_alloc ?_ _)); exact BK305.out⟩, ⟨by repeat (first | (with_reducible first | exact HB.out | apply below_alloc | apply pw_below_drewN | apply below_drew1 | refine below_set ?_ GE299.out | refine below_set ?_ GE305.out) | exact HB.out)⟩⟩
                                · rw [if_neg c43] at H
                                  have c43b0 : ((bt t307 x8_2) == (bt a0 x8_2)) = false := beq_eq_false_iff_ne.mpr c43
                                  have c43b1 : ((bt t307 x8_2) != (bt a0 x8_2)) = true := bne_iff_ne.mpr c43
                                  obtain rfl := Option.some.inj H
                                  have p42 : 0 ≤ (x8_2 : Int) := of_decide_eq_true (by first | (with_reducible assumption) | assumption)
                                  have q42 : x8_2 < (t307.size : Int) := of_decide_eq_true (by first | (with_reducible assumption) | assumption)
                                  have hx42 := bt_at t307 x8_2
                                  replace p42 := eq_true p42
                                  replace q42 := eq_true q42
                                  go_wp2
                                  go_ret
                                  exact ⟨by first | rfl | (simp [errW_none, errW_some] <;> rfl) | (simp [*, errW_none, errW_some] <;> rfl), by repeat (first | (with_reducible first | exact HB.out | apply below_alloc | apply pw_below_drewN | apply below_drew1 | refine below_set ?_ GE299.out | refine below_set ?_ GE305.out) | exact HB.out)⟩
                              · rw [if_neg c41] at H
                                exact absurd H (by simp)
                            · rw [if_neg c40] at H
                              exact absurd H (by simp)
                  · rw [if_neg c29] at H
                    exact absurd H (by simp)
                · rw [if_neg c28] at H
                  have c28b0 : decide (x8_2 < (a0.size : Int)) = false := decide_eq_false c28
                  clear c28
                  replace H := Option.bind_eq_some_iff.mp H
                  obtain ⟨t308, A440, H⟩ := H
                  replace H : (some t308) = some r := H
                  have A44 := Aside0.mk A440
                  clear A440
                  obtain rfl := Option.some.inj H
                  go_wp2_with (first | ((with_reducible refine gate_callee (f := 21) rfl ?_); refine goesL_ (some 65) rfl rfl Tryd.func21 (by kernel_rfl) rfl #[] rfl (by (try simp only [List.map_toArray, List.map_cons, List.map_nil]); first | done | rfl | (simp only [List.length_drop, List.length_take]; rfl)) ?_; (with_reducible refine (seedcornlaw03_awake.calls  t308 _ A44.out (Tab.below HTB.out (by repeat (first | (with_reducible first | exact HB.out | apply below_alloc | apply pw_below_drewN | apply below_drew1 | refine below_set ?_ GE299.out | refine below_set ?_ GE305.out) | exact HB.out)))).mono ?_); rintro e w45 ⟨rfl, hb⟩; refine ⟨_, rfl, ?_⟩; have n0_ := Aside0.mk (blk_below (g := gb299) (o := .cells #[.int .u32 t294, .int .u32 t295, .int .u32 t296, .int .u32 t297] 24 (0, 0)) (by (with_reducible repeat (first | refine blk_drewN ?_ _ | refine blk_drew ?_ | refine blk_alloc ?_ _)); exact BK299.out) hb); have n1_ := Aside0.mk (blk_below (g := gb305) (o := .cells #[.int .u32 t300, .int .u32 t301, .int .u32 t302, .int .u32 t303] 24 (0, 0)) (by (with_reducible repeat (first | refine blk_drewN ?_ _ | refine blk_drew ?_ | refine blk_alloc ?_ _)); exact BK305.out) hb); have n2_ := Aside0.mk (below_step (by repeat (first | (with_reducible first | exact HB.out | apply below_alloc | apply pw_below_drewN | apply below_drew1 | refine below_set ?_ GE299.out | refine below_set ?_ GE305.out) | exact HB.out)) hb); clear BK299; clear BK305; clear HB; have BK299 := n0_; have BK305 := n1_; have HB := n2_; clear n0_ n1_ n2_; (try clear hb); (try clear hb2); (try clear hk); (try clear hi)))
                  go_ret
                  exact ⟨by first | rfl | (simp [errW_none, errW_some] <;> rfl) | (simp [*, errW_none, errW_some] <;> rfl), by repeat (first | (with_reducible first | exact HB.out | apply below_alloc | apply pw_below_drewN | apply below_drew1 | refine below_set ?_ GE299.out | refine below_set ?_ GE305.out) | exact HB.out)⟩
          · rw [if_neg c23] at H
            have c23b0 : (t298 == 0) = false := beq_eq_false_iff_ne.mpr c23
            have c23b1 : (t298 != 0) = true := bne_iff_ne.mpr c23
            replace H := Option.bind_eq_some_iff.mp H
            obtain ⟨t306, A460, H⟩ := H
            replace H : (some t306) = some r := H
            have A46 := Aside0.mk A460
            clear A460
            obtain rfl := Option.some.inj H
            go_wp2_with (first | ((with_reducible refine gate_callee (f := 21) rfl ?_); refine goesL_ (some 34) rfl rfl Tryd.func21 (by kernel_rfl) rfl #[] rfl (by (try simp only [List.map_toArray, List.map_cons, List.map_nil]); first | done | rfl | (simp only [List.length_drop, List.length_take]; rfl)) ?_; (with_reducible refine (seedcornlaw03_awake.calls  t306 _ A46.out (Tab.below HTB.out (by repeat (first | (with_reducible first | exact HB.out | apply below_alloc | apply pw_below_drewN | apply below_drew1 | refine below_set ?_ GE299.out | refine below_set ?_ GE305.out) | exact HB.out)))).mono ?_); rintro e w47 ⟨rfl, hb⟩; refine ⟨_, rfl, ?_⟩; have n0_ := Aside0.mk (blk_below (g := gb299) (o := .cells #[.int .u32 t294, .int .u32 t295, .int .u32 t296, .int .u32 t297] 24 (0, 0)) (by (with_reducible repeat (first | refine blk_drewN ?_ _ | refine blk_drew ?_ | refine blk_alloc ?_ _)); exact BK299.out) hb); have n1_ := Aside0.mk (blk_below (g := gb305) (o := .cells #[.int .u32 t300, .int .u32 t301, .int .u32 t302, .int .u32 t303] 24 (0, 0)) (by (with_reducible repeat (first | refine blk_drewN ?_ _ | refine blk_drew ?_ | refine blk_alloc ?_ _)); exact BK305.out) hb); have n2_ := Aside0.mk (below_step (by repeat (first | (with_reducible first | exact HB.out | apply below_alloc | apply pw_below_drewN | apply below_drew1 | refine below_set ?_ GE299.out | refine below_set ?_ GE305.out) | exact HB.out)) hb); clear BK299; clear BK305; clear HB; have BK299 := n0_; have BK305 := n1_; have HB := n2_; clear n0_ n1_ n2_; (try clear hb); (try clear hb2); (try clear hk); (try clear hi)))
            go_ret
            exact ⟨by first | rfl | (simp [errW_none, errW_some] <;> rfl) | (simp [*, errW_none, errW_some] <;> rfl), by repeat (first | (with_reducible first | exact HB.out | apply below_alloc | apply pw_below_drewN | apply below_drew1 | refine below_set ?_ GE299.out | refine below_set ?_ GE305.out) | exact HB.out)⟩


end Go.Proofs.YthimgiphlenjdaaDoor.PI
