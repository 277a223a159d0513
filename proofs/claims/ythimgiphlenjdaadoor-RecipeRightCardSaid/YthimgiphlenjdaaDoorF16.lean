/- Contracts of the Go functions of this seat, each over a Lean function of the same answers; written by a program of this session's. -/
import Derived.Test.YthimgiphlenjdaaDoorPIx0
import Derived.Test.YthimgiphlenjdaaDoorHWords
import Derived.Test.YthimgiphlenjdaaDoorF32
import Derived.Test.YthimgiphlenjdaaDoorGf
import Derived.Test.YthimgiphlenjdaaDoorF41
import Derived.Test.YthimgiphlenjdaaDoorGe
import Derived.Test.YthimgiphlenjdaaDoorGg
namespace Go.Proofs.YthimgiphlenjdaaDoor.PI
open Go.RowKit Go.Proofs.YthimgiphlenjdaaDoorW.PrintWords Go.Proofs.YthimgiphlenjdaaDoorW.PrintLast
open HX
set_option linter.unusedVariables false
set_option linter.unusedSimpArgs false

/-! ### seedcornlaw37_RecipeRight: function 16 -/
def seedcornlaw37_RecipeRight.j0 : Nat → Bool → Int → Int → Int → Int → Int → List Int → List (S24) → Int → Int → Int → Int → Int → Int → List Int → List (S24) → Int → Option (Bool)
  | 0, _, _, _, _, _, _, _, _, _, _, _, _, _, _, _, _, _ => none
  | k + 1, x14, x717000, x717001, x717002, x717003, x717004, x717005, x717006, x717007, x718000, x718001, x718002, x718003, x718004, x718005, x718006, x718007 => if x14 = true then (some true) else ((recipe_Right.f k x717000 x717001 x717002 x717003 x717004 x717005 x717006 x717007).bind fun t721 => ((seedcornref37_Right.f k x717000 x717001 x717002 x717003 x717004 x717005 x717006 x717007).bind fun t722 => (if (t721 == t722) = true then ((recipe_Same.f k x717000 x717001 x717002 x717003 x717004 x717005 x717006 x717007 x718000 x718001 x718002 x718003 x718004 x718005 x718006 x718007).bind fun t723 => ((seedcornref37_Same.f k x717000 x717001 x717002 x717003 x717004 x717005 x717006 x717007 x718000 x718001 x718002 x718003 x718004 x718005 x718006 x718007).bind fun t724 => (some (t723 == t724)))) else (some false))))
def seedcornlaw37_RecipeRight.f (k : Nat) (a0_0 : Int) (a0_1 : Int) (a0_2 : Int) (a0_3 : Int) (a0_4 : Int) (l0_5 : List Int) (l0_6 : List (S24)) (a0_7 : Int) (a1_0 : Int) (a1_1 : Int) (a1_2 : Int) (a1_3 : Int) (a1_4 : Int) (l1_5 : List Int) (l1_6 : List (S24)) (a1_7 : Int) : Option (Bool) := (seedcornlaw37_awake.f k).bind fun t718 => (if t718 = true then ((seedcornref37_Few.f a0_0 a0_1 a0_2 a0_3 a0_4 l0_5 l0_6 a0_7 100).bind fun t719 => (if t719 = true then ((seedcornref37_Few.f a1_0 a1_1 a1_2 a1_3 a1_4 l1_5 l1_6 a1_7 100).bind fun t720 => (seedcornlaw37_RecipeRight.j0 k (!t720) a0_0 a0_1 a0_2 a0_3 a0_4 l0_5 l0_6 a0_7 a1_0 a1_1 a1_2 a1_3 a1_4 l1_5 l1_6 a1_7)) else (seedcornlaw37_RecipeRight.j0 k true a0_0 a0_1 a0_2 a0_3 a0_4 l0_5 l0_6 a0_7 a1_0 a1_1 a1_2 a1_3 a1_4 l1_5 l1_6 a1_7))) else (some false))
theorem seedcornlaw37_RecipeRight.mono_l : ∀ k, (∀ y0 y1 y2 y3 y4 y5 y6 y7 y8 y9 y10 y11 y12 y13 y14 y15 y16, LeO (seedcornlaw37_RecipeRight.j0 k y0 y1 y2 y3 y4 y5 y6 y7 y8 y9 y10 y11 y12 y13 y14 y15 y16) (seedcornlaw37_RecipeRight.j0 (k + 1) y0 y1 y2 y3 y4 y5 y6 y7 y8 y9 y10 y11 y12 y13 y14 y15 y16))
  | 0 => fun _ _ _ _ _ _ _ _ _ _ _ _ _ _ _ _ _ r h => by simp [seedcornlaw37_RecipeRight.j0] at h
  | k + 1 => by
    have ih0 := seedcornlaw37_RecipeRight.mono_l k
    · intro y0 y1 y2 y3 y4 y5 y6 y7 y8 y9 y10 y11 y12 y13 y14 y15 y16
      unfold seedcornlaw37_RecipeRight.j0
      repeat' first
      | (with_reducible exact ih0 _ _ _ _ _ _ _ _ _ _ _ _ _ _ _ _ _)
      | (with_reducible exact recipe_Right.mono _ _ _ _ _ _ _ _ _)
      | (with_reducible exact recipe_Same.mono _ _ _ _ _ _ _ _ _ _ _ _ _ _ _ _ _)
      | (with_reducible exact seedcornlaw37_awake.mono _)
      | (with_reducible exact seedcornref37_Right.mono _ _ _ _ _ _ _ _ _)
      | (with_reducible exact seedcornref37_Same.mono _ _ _ _ _ _ _ _ _ _ _ _ _ _ _ _ _)
      | (with_reducible exact LeO.refl _)
      | (with_reducible exact LeO.none _)
      | (with_reducible refine LeO.ite ?_ ?_)
      | (with_reducible refine LeO.bind ?_ (fun _ => ?_))
      | exact ih0 _ _ _ _ _ _ _ _ _ _ _ _ _ _ _ _ _
      | exact recipe_Right.mono _ _ _ _ _ _ _ _ _
      | exact recipe_Same.mono _ _ _ _ _ _ _ _ _ _ _ _ _ _ _ _ _
      | exact seedcornlaw37_awake.mono _
      | exact seedcornref37_Right.mono _ _ _ _ _ _ _ _ _
      | exact seedcornref37_Same.mono _ _ _ _ _ _ _ _ _ _ _ _ _ _ _ _ _
      | exact LeO.none _
      | refine LeO.ite ?_ ?_
      | refine LeO.bind ?_ (fun _ => ?_)
theorem seedcornlaw37_RecipeRight.mono : ∀ a0 a1 a2 a3 a4 a5 a6 a7 a8 a9 a10 a11 a12 a13 a14 a15 k, LeO (seedcornlaw37_RecipeRight.f k a0 a1 a2 a3 a4 a5 a6 a7 a8 a9 a10 a11 a12 a13 a14 a15) (seedcornlaw37_RecipeRight.f (k + 1) a0 a1 a2 a3 a4 a5 a6 a7 a8 a9 a10 a11 a12 a13 a14 a15) := by
  intro a0 a1 a2 a3 a4 a5 a6 a7 a8 a9 a10 a11 a12 a13 a14 a15 k
  have ih0 := seedcornlaw37_RecipeRight.mono_l k
  unfold seedcornlaw37_RecipeRight.f
  repeat' first
      | (with_reducible exact ih0 _ _ _ _ _ _ _ _ _ _ _ _ _ _ _ _ _)
      | (with_reducible exact recipe_Right.mono _ _ _ _ _ _ _ _ _)
      | (with_reducible exact recipe_Same.mono _ _ _ _ _ _ _ _ _ _ _ _ _ _ _ _ _)
      | (with_reducible exact seedcornlaw37_awake.mono _)
      | (with_reducible exact seedcornref37_Right.mono _ _ _ _ _ _ _ _ _)
      | (with_reducible exact seedcornref37_Same.mono _ _ _ _ _ _ _ _ _ _ _ _ _ _ _ _ _)
      | (with_reducible exact LeO.refl _)
      | (with_reducible exact LeO.none _)
      | (with_reducible refine LeO.ite ?_ ?_)
      | (with_reducible refine LeO.bind ?_ (fun _ => ?_))
      | exact ih0 _ _ _ _ _ _ _ _ _ _ _ _ _ _ _ _ _
      | exact recipe_Right.mono _ _ _ _ _ _ _ _ _
      | exact recipe_Same.mono _ _ _ _ _ _ _ _ _ _ _ _ _ _ _ _ _
      | exact seedcornlaw37_awake.mono _
      | exact seedcornref37_Right.mono _ _ _ _ _ _ _ _ _
      | exact seedcornref37_Same.mono _ _ _ _ _ _ _ _ _ _ _ _ _ _ _ _ _
      | exact LeO.none _
      | refine LeO.ite ?_ ?_
      | refine LeO.bind ?_ (fun _ => ?_)
def seedcornlaw37_RecipeRight.T5 : Bool × List (List Nat × List Nat) := (true, [([], []), ([0], [0]), ([], []), ([2, 1], [2]), ([1, 3], [1, 3]), ([4, 3], [4]), ([5], [5]), ([5], [5]), ([6, 7, 5, 5], [5, 6, 7]), ([5], [5]), ([5], [5]), ([9, 10, 8, 5], [5, 9, 10]), ([8, 11, 5], [5, 8, 11]), ([5, 12], [5, 12]), ([13, 11, 0, 1, 2, 3, 4, 5, 6, 7, 8, 9, 10, 11, 12, 13], [13])])
def seedcornlaw37_RecipeRight.B5 : List Nat := [0, 1, 0, 7, 15, 31, 63, 63, 255, 63, 63, 2047, 4095, 8191, 16383]
theorem seedcornlaw37_RecipeRight.tab5 : rtab .any (opsOf Tryd.f16 5) = seedcornlaw37_RecipeRight.T5 := by kernel_rfl
theorem seedcornlaw37_RecipeRight.bits5 : waitsOk seedcornlaw37_RecipeRight.T5.2 seedcornlaw37_RecipeRight.B5 = true := by kernel_rfl
set_option maxHeartbeats 8000000 in
set_option maxRecDepth 100000 in
theorem seedcornlaw37_RecipeRight.calls (k : Nat) (a0_0 : Int) (a0_1 : Int) (a0_2 : Int) (a0_3 : Int) (a0_4 : Int) (A0_5 : Option Addr) (c0_5 : Nat) (l0_5 : List Int) (A0_6 : Option Addr) (c0_6 : Nat) (l0_6 : List (S24)) (a0_7 : Int) (a1_0 : Int) (a1_1 : Int) (a1_2 : Int) (a1_3 : Int) (a1_4 : Int) (A1_5 : Option Addr) (c1_5 : Nat) (l1_5 : List Int) (A1_6 : Option Addr) (c1_6 : Nat) (l1_6 : List (S24)) (a1_7 : Int) (r : Bool) (w : World) (hr_ : Aside0 (r = true)) (hr0_5 : Kd.C (Kd.int .i64) w A0_5 l0_5.length l0_5) (hc0_5 : l0_5.length ≤ c0_5) (hr0_6 : Kd.C k24 w A0_6 l0_6.length l0_6) (hc0_6 : l0_6.length ≤ c0_6) (hr1_5 : Kd.C (Kd.int .i64) w A1_5 l1_5.length l1_5) (hc1_5 : l1_5.length ≤ c1_5) (hr1_6 : Kd.C k24 w A1_6 l1_6.length l1_6) (hc1_6 : l1_6.length ≤ c1_6) (h : seedcornlaw37_RecipeRight.f k a0_0 a0_1 a0_2 a0_3 a0_4 l0_5 l0_6 a0_7 a1_0 a1_1 a1_2 a1_3 a1_4 l1_5 l1_6 a1_7 = some r) (htb_ : Tab w) :
    Calls Tryd.prog 16 #[.agg #[.int .i64 a0_0, .int .u32 a0_1, .int .u32 a0_2, .int .u32 a0_3, .int .u32 a0_4, .slice A0_5 l0_5.length c0_5, .slice A0_6 l0_6.length c0_6, .int .i64 a0_7], .agg #[.int .i64 a1_0, .int .u32 a1_1, .int .u32 a1_2, .int .u32 a1_3, .int .u32 a1_4, .slice A1_5 l1_5.length c1_5, .slice A1_6 l1_6.length c1_6, .int .i64 a1_7]] w fun e w' => e = .returned (.bool r) ∧ Below w.heap.size w w' := by
  have HTB := Aside0.mk htb_
  clear htb_
  have hu46 := Tryd.underlying46
  have HR0_5 := Aside0.mk hr0_5
  have HC0_5 := Aside0.mk hc0_5
  clear hr0_5 hc0_5
  have HR0_6 := Aside0.mk hr0_6
  have HC0_6 := Aside0.mk hc0_6
  clear hr0_6 hc0_6
  have HR1_5 := Aside0.mk hr1_5
  have HC1_5 := Aside0.mk hc1_5
  clear hr1_5 hc1_5
  have HR1_6 := Aside0.mk hr1_6
  have HC1_6 := Aside0.mk hc1_6
  clear hr1_6 hc1_6
  have HB := Aside0.mk (Below.refl w.heap.size w)
  have H : ((seedcornlaw37_awake.f k).bind fun t718 => (if t718 = true then ((seedcornref37_Few.f a0_0 a0_1 a0_2 a0_3 a0_4 l0_5 l0_6 a0_7 100).bind fun t719 => (if t719 = true then ((seedcornref37_Few.f a1_0 a1_1 a1_2 a1_3 a1_4 l1_5 l1_6 a1_7 100).bind fun t720 => (seedcornlaw37_RecipeRight.j0 k (!t720) a0_0 a0_1 a0_2 a0_3 a0_4 l0_5 l0_6 a0_7 a1_0 a1_1 a1_2 a1_3 a1_4 l1_5 l1_6 a1_7)) else (seedcornlaw37_RecipeRight.j0 k true a0_0 a0_1 a0_2 a0_3 a0_4 l0_5 l0_6 a0_7 a1_0 a1_1 a1_2 a1_3 a1_4 l1_5 l1_6 a1_7))) else (some false))) = some r := h
  clear h
  replace H := Option.bind_eq_some_iff.mp H
  obtain ⟨t718, A30, H⟩ := H
  replace H : (if t718 = true then ((seedcornref37_Few.f a0_0 a0_1 a0_2 a0_3 a0_4 l0_5 l0_6 a0_7 100).bind fun t719 => (if t719 = true then ((seedcornref37_Few.f a1_0 a1_1 a1_2 a1_3 a1_4 l1_5 l1_6 a1_7 100).bind fun t720 => (seedcornlaw37_RecipeRight.j0 k (!t720) a0_0 a0_1 a0_2 a0_3 a0_4 l0_5 l0_6 a0_7 a1_0 a1_1 a1_2 a1_3 a1_4 l1_5 l1_6 a1_7)) else (seedcornlaw37_RecipeRight.j0 k true a0_0 a0_1 a0_2 a0_3 a0_4 l0_5 l0_6 a0_7 a1_0 a1_1 a1_2 a1_3 a1_4 l1_5 l1_6 a1_7))) else (some false)) = some r := H
  have A3 := Aside0.mk A30
  clear A30
  by_cases c4 : t718 = true
  · subst c4
    have H1 : ((seedcornref37_Few.f a0_0 a0_1 a0_2 a0_3 a0_4 l0_5 l0_6 a0_7 100).bind fun t719 => (if t719 = true then ((seedcornref37_Few.f a1_0 a1_1 a1_2 a1_3 a1_4 l1_5 l1_6 a1_7 100).bind fun t720 => (seedcornlaw37_RecipeRight.j0 k (!t720) a0_0 a0_1 a0_2 a0_3 a0_4 l0_5 l0_6 a0_7 a1_0 a1_1 a1_2 a1_3 a1_4 l1_5 l1_6 a1_7)) else (seedcornlaw37_RecipeRight.j0 k true a0_0 a0_1 a0_2 a0_3 a0_4 l0_5 l0_6 a0_7 a1_0 a1_1 a1_2 a1_3 a1_4 l1_5 l1_6 a1_7))) = some r := by rw [if_pos rfl] at H; exact H
    clear H
    have H := H1
    clear H1
    have HC5 := Aside0.mk H
    clear H
    go_enter Tryd.func16, Tryd.ntmps16
    go_upto_region 3 with (first | ((with_reducible refine gate_dst (N := 2) rfl ?_); refine box_event ?hg (N := 2) ?hd (cs := #[.int .i64 a0_0, .int .u32 a0_1, .int .u32 a0_2, .int .u32 a0_3, .int .u32 a0_4, .slice A0_5 l0_5.length c0_5, .slice A0_6 l0_6.length c0_6, .int .i64 a0_7]) (t := 46) ?hr ?_; (case hd => rfl); (case hg => rfl); (case hr => first | (go_simp; done) | (go_simp; rfl)); intro gb716 hg w6 hbox hb; have n0_ := Aside0.mk (below_step (by repeat (first | (with_reducible first | exact HB.out | apply below_alloc | apply pw_below_drewN | apply below_drew1) | exact HB.out)) hb); have n1_ := Aside0.mk (hbox); have n2_ := Aside0.mk ((by rw [hg]; exact (below_size (by repeat (first | (with_reducible first | exact HB.out | apply below_alloc | apply pw_below_drewN | apply below_drew1) | exact HB.out))) : w.heap.size ≤ gb716)); have n3_ := Aside0.mk ((by rw [hg]; exact (below_size (by repeat (first | (with_reducible first | exact HB.out | apply below_alloc | apply pw_below_drewN | apply below_drew1) | exact HB.out))) : w.heap.size ≤ gb716)); clear HB; have HB := n0_; have BK716 := n1_; have GW716 := n2_; have GE716 := n3_; clear n0_ n1_ n2_ n3_; clear hb hbox hg) | ((with_reducible refine gate_dst (N := 3) rfl ?_); refine box_event ?hg (N := 3) ?hd (cs := #[.int .i64 a1_0, .int .u32 a1_1, .int .u32 a1_2, .int .u32 a1_3, .int .u32 a1_4, .slice A1_5 l1_5.length c1_5, .slice A1_6 l1_6.length c1_6, .int .i64 a1_7]) (t := 46) ?hr ?_; (case hd => rfl); (case hg => rfl); (case hr => first | (go_simp; done) | (go_simp; rfl)); intro gb717 hg w7 hbox hb; have n0_ := Aside0.mk (blk_below (g := gb716) (o := .cells #[.int .i64 a0_0, .int .u32 a0_1, .int .u32 a0_2, .int .u32 a0_3, .int .u32 a0_4, .slice A0_5 l0_5.length c0_5, .slice A0_6 l0_6.length c0_6, .int .i64 a0_7] 46 (0, 0)) (by (with_reducible repeat (first | refine blk_drewN ?_ _ | refine blk_drew ?_ | refine blk_alloc ?_ _)); exact BK716.out) hb); have n1_ := Aside0.mk (below_step (by repeat (first | (with_reducible first | exact HB.out | apply below_alloc | apply pw_below_drewN | apply below_drew1 | refine below_set ?_ GE716.out) | exact HB.out)) hb); have n2_ := Aside0.mk (hbox); have n3_ := Aside0.mk ((by rw [hg]; exact (below_size (by repeat (first | (with_reducible first | exact HB.out | apply below_alloc | apply pw_below_drewN | apply below_drew1 | refine below_set ?_ GE716.out) | exact HB.out))) : w.heap.size ≤ gb717)); have n4_ := Aside0.mk ((by rw [hg]; exact (below_size (by repeat (first | (with_reducible first | exact HB.out | apply below_alloc | apply pw_below_drewN | apply below_drew1 | refine below_set ?_ GE716.out) | exact HB.out))) : w.heap.size ≤ gb717)); have n5_ := Aside0.mk ((by rw [hg]; exact Nat.ne_of_lt (blk_lt (g := gb716) (o := .cells #[.int .i64 a0_0, .int .u32 a0_1, .int .u32 a0_2, .int .u32 a0_3, .int .u32 a0_4, .slice A0_5 l0_5.length c0_5, .slice A0_6 l0_6.length c0_6, .int .i64 a0_7] 46 (0, 0)) (by (with_reducible repeat (first | refine blk_drewN ?_ _ | refine blk_drew ?_ | refine blk_alloc ?_ _)); exact BK716.out)) : gb716 ≠ gb717)); have n6_ := Aside0.mk ((by rw [hg]; exact Nat.ne_of_gt (blk_lt (g := gb716) (o := .cells #[.int .i64 a0_0, .int .u32 a0_1, .int .u32 a0_2, .int .u32 a0_3, .int .u32 a0_4, .slice A0_5 l0_5.length c0_5, .slice A0_6 l0_6.length c0_6, .int .i64 a0_7] 46 (0, 0)) (by (with_reducible repeat (first | refine blk_drewN ?_ _ | refine blk_drew ?_ | refine blk_alloc ?_ _)); exact BK716.out)) : gb717 ≠ gb716)); clear BK716; clear HB; have BK716 := n0_; have HB := n1_; have BK717 := n2_; have GW717 := n3_; have GE717 := n4_; have NB716_717 := n5_; have NB717_716 := n6_; clear n0_ n1_ n2_ n3_ n4_ n5_ n6_; clear hb hbox hg) | ((with_reducible refine gate_callee (f := 32) rfl ?_); refine goesL_ (some 5) rfl rfl Tryd.func32 (by kernel_rfl) rfl #[] rfl (by (try simp only [List.map_toArray, List.map_cons, List.map_nil]); first | done | rfl | (simp only [List.length_drop, List.length_take]; rfl)) ?_; (with_reducible refine (seedcornlaw37_awake.calls k  true _ A3.out (Tab.below HTB.out (by repeat (first | (with_reducible first | exact HB.out | apply below_alloc | apply pw_below_drewN | apply below_drew1 | refine below_set ?_ GE716.out | refine below_set ?_ GE717.out) | exact HB.out)))).mono ?_); rintro e w8 ⟨rfl, hb⟩; refine ⟨_, rfl, ?_⟩; have n0_ := Aside0.mk (blk_below (g := gb716) (o := .cells #[.int .i64 a0_0, .int .u32 a0_1, .int .u32 a0_2, .int .u32 a0_3, .int .u32 a0_4, .slice A0_5 l0_5.length c0_5, .slice A0_6 l0_6.length c0_6, .int .i64 a0_7] 46 (0, 0)) (by (with_reducible repeat (first | refine blk_drewN ?_ _ | refine blk_drew ?_ | refine blk_alloc ?_ _)); exact BK716.out) hb); have n1_ := Aside0.mk (blk_below (g := gb717) (o := .cells #[.int .i64 a1_0, .int .u32 a1_1, .int .u32 a1_2, .int .u32 a1_3, .int .u32 a1_4, .slice A1_5 l1_5.length c1_5, .slice A1_6 l1_6.length c1_6, .int .i64 a1_7] 46 (0, 0)) (by (with_reducible repeat (first | refine blk_drewN ?_ _ | refine blk_drew ?_ | refine blk_alloc ?_ _)); exact BK717.out) hb); have n2_ := Aside0.mk (below_step (by repeat (first | (with_reducible first | exact HB.out | apply below_alloc | apply pw_below_drewN | apply below_drew1 | refine below_set ?_ GE716.out | refine below_set ?_ GE717.out) | exact HB.out)) hb); clear BK716; clear BK717; clear HB; have BK716 := n0_; have BK717 := n1_; have HB := n2_; clear n0_ n1_ n2_; (try clear hb); (try clear hb2); (try clear hk); (try clear hi)))
    (try simp only [Act.put, List.setIfInBounds_toArray, List.set_cons_zero, List.set_cons_succ])
    go_cut [14] (fun v14 wc => ∃ (kq : Nat) (x14_4 : Bool), v14 = .bool x14_4 ∧ Aside0 (seedcornlaw37_RecipeRight.j0 kq x14_4 a0_0 a0_1 a0_2 a0_3 a0_4 l0_5 l0_6 a0_7 a1_0 a1_1 a1_2 a1_3 a1_4 l1_5 l1_6 a1_7 = some r) ∧ Aside0 (kq ≤ k) ∧ Aside0 (wc.heap[gb716]? = some (.cells #[.int .i64 a0_0, .int .u32 a0_1, .int .u32 a0_2, .int .u32 a0_3, .int .u32 a0_4, (.slice A0_5 l0_5.length c0_5), (.slice A0_6 l0_6.length c0_6), .int .i64 a0_7] 46 (0, 0))) ∧ Aside0 (wc.heap[gb717]? = some (.cells #[.int .i64 a1_0, .int .u32 a1_1, .int .u32 a1_2, .int .u32 a1_3, .int .u32 a1_4, (.slice A1_5 l1_5.length c1_5), (.slice A1_6 l1_6.length c1_6), .int .i64 a1_7] 46 (0, 0))) ∧ Aside0 (Below w.heap.size w wc))
    case first =>
      have H := HC5.out
      clear HC5
      replace H := Option.bind_eq_some_iff.mp H
      obtain ⟨t719, A90, H⟩ := H
      replace H : (if t719 = true then ((seedcornref37_Few.f a1_0 a1_1 a1_2 a1_3 a1_4 l1_5 l1_6 a1_7 100).bind fun t720 => (seedcornlaw37_RecipeRight.j0 k (!t720) a0_0 a0_1 a0_2 a0_3 a0_4 l0_5 l0_6 a0_7 a1_0 a1_1 a1_2 a1_3 a1_4 l1_5 l1_6 a1_7)) else (seedcornlaw37_RecipeRight.j0 k true a0_0 a0_1 a0_2 a0_3 a0_4 l0_5 l0_6 a0_7 a1_0 a1_1 a1_2 a1_3 a1_4 l1_5 l1_6 a1_7)) = some r := H
      have A9 := Aside0.mk A90
      clear A90
      by_cases c10 : t719 = true
      · subst c10
        have H1 : ((seedcornref37_Few.f a1_0 a1_1 a1_2 a1_3 a1_4 l1_5 l1_6 a1_7 100).bind fun t720 => (seedcornlaw37_RecipeRight.j0 k (!t720) a0_0 a0_1 a0_2 a0_3 a0_4 l0_5 l0_6 a0_7 a1_0 a1_1 a1_2 a1_3 a1_4 l1_5 l1_6 a1_7)) = some r := by rw [if_pos rfl] at H; exact H
        clear H
        have H := H1
        clear H1
        replace H := Option.bind_eq_some_iff.mp H
        obtain ⟨t720, A110, H⟩ := H
        replace H : (seedcornlaw37_RecipeRight.j0 k (!t720) a0_0 a0_1 a0_2 a0_3 a0_4 l0_5 l0_6 a0_7 a1_0 a1_1 a1_2 a1_3 a1_4 l1_5 l1_6 a1_7) = some r := H
        have A11 := Aside0.mk A110
        clear A110
        have H' := Aside0.mk H
        clear H
        have hnb12 := NB716_717.out
        have hnc12 := NB717_716.out
        obtain ⟨hcz13_0, hcz13_1, hcz13_2, hcz13_3, hcz13_4, hcz13_5, hcz13_6, hcz13_7, hfz13_0, hfz13_1, hfz13_2, hfz13_3, hfz13_4, hfz13_5, hfz13_6, hfz13_7⟩ := HX.cells8 BK716.out
        go_wp2_with (first | ((with_reducible refine gate_callee (f := 33) rfl ?_); refine goesL_ (some 8) rfl rfl Tryd.func33 (by kernel_rfl) rfl #[.agg #[.int .i64 a0_0, .int .u32 a0_1, .int .u32 a0_2, .int .u32 a0_3, .int .u32 a0_4, .slice A0_5 l0_5.length c0_5, .slice A0_6 l0_6.length c0_6, .int .i64 a0_7], .int .i64 100] rfl (by (try simp only [List.map_toArray, List.map_cons, List.map_nil]); first | done | rfl | (simp only [List.length_drop, List.length_take]; rfl)) ?_; (with_reducible refine (seedcornref37_Few.calls a0_0 a0_1 a0_2 a0_3 a0_4 _ _ l0_5 _ _ l0_6 a0_7 100 true _ ?side1 ?side2 ?side3 ?side4 A9.out).mono ?_); (case side1 => repeat (first | exact (Kd.C_below HR0_5.out HB.out) | (with_reducible refine Kd.C_alloc ?_ _) | (with_reducible refine Kd.C_drewN ?_ _) | (with_reducible refine Kd.C_drew ?_))); (case side2 => exact HC0_5.out); (case side3 => repeat (first | exact (Kd.C_below HR0_6.out HB.out) | (with_reducible refine Kd.C_alloc ?_ _) | (with_reducible refine Kd.C_drewN ?_ _) | (with_reducible refine Kd.C_drew ?_))); (case side4 => exact HC0_6.out); rintro e w14 ⟨rfl, hb⟩; refine ⟨_, rfl, ?_⟩; have n0_ := Aside0.mk (blk_below (g := gb716) (o := .cells #[.int .i64 a0_0, .int .u32 a0_1, .int .u32 a0_2, .int .u32 a0_3, .int .u32 a0_4, .slice A0_5 l0_5.length c0_5, .slice A0_6 l0_6.length c0_6, .int .i64 a0_7] 46 (0, 0)) (by (with_reducible repeat (first | refine blk_drewN ?_ _ | refine blk_drew ?_ | refine blk_alloc ?_ _)); exact BK716.out) hb); have n1_ := Aside0.mk (blk_below (g := gb717) (o := .cells #[.int .i64 a1_0, .int .u32 a1_1, .int .u32 a1_2, .int .u32 a1_3, .int .u32 a1_4, .slice A1_5 l1_5.length c1_5, .slice A1_6 l1_6.length c1_6, .int .i64 a1_7] 46 (0, 0)) (by (with_reducible repeat (first | refine blk_drewN ?_ _ | refine blk_drew ?_ | refine blk_alloc ?_ _)); exact BK717.out) hb); have n2_ := Aside0.mk (below_step (by repeat (first | (with_reducible first | exact HB.out | apply below_alloc | apply pw_below_drewN | apply below_drew1 | refine below_set ?_ GE716.out | refine below_set ?_ GE717.out) | exact HB.out)) hb); clear BK716; clear BK717; clear HB; have BK716 := n0_; have BK717 := n1_; have HB := n2_; clear n0_ n1_ n2_; (try clear hb); (try clear hb2); (try clear hk); (try clear hi); obtain ⟨hcz15_0, hcz15_1, hcz15_2, hcz15_3, hcz15_4, hcz15_5, hcz15_6, hcz15_7, hfz15_0, hfz15_1, hfz15_2, hfz15_3, hfz15_4, hfz15_5, hfz15_6, hfz15_7⟩ := HX.cells8 BK717.out) | (go_at_call 33; (with_reducible refine (seedcornref37_Few.calls a1_0 a1_1 a1_2 a1_3 a1_4 _ _ l1_5 _ _ l1_6 a1_7 100 t720 _ ?side1 ?side2 ?side3 ?side4 A11.out).mono ?_); (case side1 => repeat (first | exact (Kd.C_below HR1_5.out HB.out) | (with_reducible refine Kd.C_alloc ?_ _) | (with_reducible refine Kd.C_drewN ?_ _) | (with_reducible refine Kd.C_drew ?_))); (case side2 => exact HC1_5.out); (case side3 => repeat (first | exact (Kd.C_below HR1_6.out HB.out) | (with_reducible refine Kd.C_alloc ?_ _) | (with_reducible refine Kd.C_drewN ?_ _) | (with_reducible refine Kd.C_drew ?_))); (case side4 => exact HC1_6.out); rintro e w16 ⟨rfl, hb⟩; have n0_ := Aside0.mk (blk_below (g := gb716) (o := .cells #[.int .i64 a0_0, .int .u32 a0_1, .int .u32 a0_2, .int .u32 a0_3, .int .u32 a0_4, .slice A0_5 l0_5.length c0_5, .slice A0_6 l0_6.length c0_6, .int .i64 a0_7] 46 (0, 0)) (by (with_reducible repeat (first | refine blk_drewN ?_ _ | refine blk_drew ?_ | refine blk_alloc ?_ _)); exact BK716.out) hb); have n1_ := Aside0.mk (blk_below (g := gb717) (o := .cells #[.int .i64 a1_0, .int .u32 a1_1, .int .u32 a1_2, .int .u32 a1_3, .int .u32 a1_4, .slice A1_5 l1_5.length c1_5, .slice A1_6 l1_6.length c1_6, .int .i64 a1_7] 46 (0, 0)) (by (with_reducible repeat (first | refine blk_drewN ?_ _ | refine blk_drew ?_ | refine blk_alloc ?_ _)); exact BK717.out) hb); have n2_ := Aside0.mk (below_step (by repeat (first | (with_reducible first | exact HB.out | apply below_alloc | apply pw_below_drewN | apply below_drew1 | refine below_set ?_ GE716.out | refine below_set ?_ GE717.out) | exact HB.out)) hb); clear BK716; clear BK717; clear HB; have BK716 := n0_; have BK717 := n1_; have HB := n2_; clear n0_ n1_ n2_; (try clear hb); (try clear hb2); (try clear hk); (try clear hi)))
        go_meet
        case rel => exact ⟨_, (!t720), (by first | rfl | (simp; done) | (simp [*]; done)), H', ⟨by first | omega | exact Nat.le_refl _⟩, ⟨by (with_reducible repeat (first | refine blk_drewN ?_ _ | refine blk_drew ?_ | refine blk_alloc ?_ _)); exact BK716.out⟩, ⟨by (with_reducible repeat (first | refine blk_drewN ?_ _ | refine blk_drew ?_ | refine blk_alloc ?_ _)); exact BK717.out⟩, ⟨by repeat (first | (with_reducible first | exact HB.out | apply below_alloc | apply pw_below_drewN | apply below_drew1 | refine below_set ?_ GE716.out | refine below_set ?_ GE717.out) | exact HB.out)⟩⟩
      · replace c10 := Bool.eq_false_iff.mpr c10
        subst c10
        have H1 : (seedcornlaw37_RecipeRight.j0 k true a0_0 a0_1 a0_2 a0_3 a0_4 l0_5 l0_6 a0_7 a1_0 a1_1 a1_2 a1_3 a1_4 l1_5 l1_6 a1_7) = some r := by rw [if_neg (show ¬ (false = true) by decide)] at H; exact H
        clear H
        have H := H1
        clear H1
        have H' := Aside0.mk H
        clear H
        have hnb17 := NB716_717.out
        have hnc17 := NB717_716.out
        obtain ⟨hcz18_0, hcz18_1, hcz18_2, hcz18_3, hcz18_4, hcz18_5, hcz18_6, hcz18_7, hfz18_0, hfz18_1, hfz18_2, hfz18_3, hfz18_4, hfz18_5, hfz18_6, hfz18_7⟩ := HX.cells8 BK716.out
        go_wp2_with (first | ((with_reducible refine gate_callee (f := 33) rfl ?_); refine goesL_ (some 8) rfl rfl Tryd.func33 (by kernel_rfl) rfl #[.agg #[.int .i64 a0_0, .int .u32 a0_1, .int .u32 a0_2, .int .u32 a0_3, .int .u32 a0_4, .slice A0_5 l0_5.length c0_5, .slice A0_6 l0_6.length c0_6, .int .i64 a0_7], .int .i64 100] rfl (by (try simp only [List.map_toArray, List.map_cons, List.map_nil]); first | done | rfl | (simp only [List.length_drop, List.length_take]; rfl)) ?_; (with_reducible refine (seedcornref37_Few.calls a0_0 a0_1 a0_2 a0_3 a0_4 _ _ l0_5 _ _ l0_6 a0_7 100 false _ ?side1 ?side2 ?side3 ?side4 A9.out).mono ?_); (case side1 => repeat (first | exact (Kd.C_below HR0_5.out HB.out) | (with_reducible refine Kd.C_alloc ?_ _) | (with_reducible refine Kd.C_drewN ?_ _) | (with_reducible refine Kd.C_drew ?_))); (case side2 => exact HC0_5.out); (case side3 => repeat (first | exact (Kd.C_below HR0_6.out HB.out) | (with_reducible refine Kd.C_alloc ?_ _) | (with_reducible refine Kd.C_drewN ?_ _) | (with_reducible refine Kd.C_drew ?_))); (case side4 => exact HC0_6.out); rintro e w19 ⟨rfl, hb⟩; refine ⟨_, rfl, ?_⟩; have n0_ := Aside0.mk (blk_below (g := gb716) (o := .cells #[.int .i64 a0_0, .int .u32 a0_1, .int .u32 a0_2, .int .u32 a0_3, .int .u32 a0_4, .slice A0_5 l0_5.length c0_5, .slice A0_6 l0_6.length c0_6, .int .i64 a0_7] 46 (0, 0)) (by (with_reducible repeat (first | refine blk_drewN ?_ _ | refine blk_drew ?_ | refine blk_alloc ?_ _)); exact BK716.out) hb); have n1_ := Aside0.mk (blk_below (g := gb717) (o := .cells #[.int .i64 a1_0, .int .u32 a1_1, .int .u32 a1_2, .int .u32 a1_3, .int .u32 a1_4, .slice A1_5 l1_5.length c1_5, .slice A1_6 l1_6.length c1_6, .int .i64 a1_7] 46 (0, 0)) (by (with_reducible repeat (first | refine blk_drewN ?_ _ | refine blk_drew ?_ | refine blk_alloc ?_ _)); exact BK717.out) hb); have n2_ := Aside0.mk (below_step (by repeat (first | (with_reducible first | exact HB.out | apply below_alloc | apply pw_below_drewN | apply below_drew1 | refine below_set ?_ GE716.out | refine below_set ?_ GE717.out) | exact HB.out)) hb); clear BK716; clear BK717; clear HB; have BK716 := n0_; have BK717 := n1_; have HB := n2_; clear n0_ n1_ n2_; (try clear hb); (try clear hb2); (try clear hk); (try clear hi)))
        go_meet
        case rel => exact ⟨_, (true), (by first | rfl | (simp; done) | (simp [*]; done)), H', ⟨by first | omega | exact Nat.le_refl _⟩, ⟨by (with_reducible repeat (first | refine blk_drewN ?_ _ | refine blk_drew ?_ | refine blk_alloc ?_ _)); exact BK716.out⟩, ⟨by (with_reducible repeat (first | refine blk_drewN ?_ _ | refine blk_drew ?_ | refine blk_alloc ?_ _)); exact BK717.out⟩, ⟨by repeat (first | (with_reducible first | exact HB.out | apply below_alloc | apply pw_below_drewN | apply below_drew1 | refine below_set ?_ GE716.out | refine below_set ?_ GE717.out) | exact HB.out)⟩⟩
    case rest =>
      clear HC5
      try clear c1
      try clear p2
      try clear c3
      try clear c4
      try clear c10
      try clear c12
      try clear c16
      try clear c17
      try clear hcz13_0 hcz13_1 hcz13_2 hcz13_3 hcz13_4 hcz13_5 hcz13_6 hcz13_7
      try clear hcz15_0 hcz15_1 hcz15_2 hcz15_3 hcz15_4 hcz15_5 hcz15_6 hcz15_7
      try clear hcz18_0 hcz18_1 hcz18_2 hcz18_3 hcz18_4 hcz18_5 hcz18_6 hcz18_7
      try clear hfz13_0 hfz13_1 hfz13_2 hfz13_3 hfz13_4 hfz13_5 hfz13_6 hfz13_7
      try clear hfz15_0 hfz15_1 hfz15_2 hfz15_3 hfz15_4 hfz15_5 hfz15_6 hfz15_7
      try clear hfz18_0 hfz18_1 hfz18_2 hfz18_3 hfz18_4 hfz18_5 hfz18_6 hfz18_7
      obtain ⟨kq, x14_4, rfl, HA, HJ4, BK716, BK717, HB⟩ := hcut
      cases kq with
      | zero => exact absurd HA.out (by simp [seedcornlaw37_RecipeRight.j0])
      | succ kj4 =>
        have H := HA.out
        clear HA
        simp only [seedcornlaw37_RecipeRight.j0] at H
        by_cases c20 : x14_4 = true
        · subst c20
          have H1 : (some true) = some r := by rw [if_pos rfl] at H; exact H
          clear H
          have H := H1
          clear H1
          obtain rfl := Option.some.inj H
          go_wp2
          go_ret
          exact ⟨by first | rfl | (simp [errW_none, errW_some] <;> rfl) | (simp [*, errW_none, errW_some] <;> rfl), by repeat (first | (with_reducible first | exact HB.out | apply below_alloc | apply pw_below_drewN | apply below_drew1 | refine below_set ?_ GE716.out | refine below_set ?_ GE717.out) | exact HB.out)⟩
        · replace c20 := Bool.eq_false_iff.mpr c20
          subst c20
          have H1 : ((recipe_Right.f kj4 a0_0 a0_1 a0_2 a0_3 a0_4 l0_5 l0_6 a0_7).bind fun t721 => ((seedcornref37_Right.f kj4 a0_0 a0_1 a0_2 a0_3 a0_4 l0_5 l0_6 a0_7).bind fun t722 => (if (t721 == t722) = true then ((recipe_Same.f kj4 a0_0 a0_1 a0_2 a0_3 a0_4 l0_5 l0_6 a0_7 a1_0 a1_1 a1_2 a1_3 a1_4 l1_5 l1_6 a1_7).bind fun t723 => ((seedcornref37_Same.f kj4 a0_0 a0_1 a0_2 a0_3 a0_4 l0_5 l0_6 a0_7 a1_0 a1_1 a1_2 a1_3 a1_4 l1_5 l1_6 a1_7).bind fun t724 => (some (t723 == t724)))) else (some false)))) = some r := by rw [if_neg (show ¬ (false = true) by decide)] at H; exact H
          clear H
          have H := H1
          clear H1
          replace H := Option.bind_eq_some_iff.mp H
          obtain ⟨t721, A210, H⟩ := H
          replace H : ((seedcornref37_Right.f kj4 a0_0 a0_1 a0_2 a0_3 a0_4 l0_5 l0_6 a0_7).bind fun t722 => (if (t721 == t722) = true then ((recipe_Same.f kj4 a0_0 a0_1 a0_2 a0_3 a0_4 l0_5 l0_6 a0_7 a1_0 a1_1 a1_2 a1_3 a1_4 l1_5 l1_6 a1_7).bind fun t723 => ((seedcornref37_Same.f kj4 a0_0 a0_1 a0_2 a0_3 a0_4 l0_5 l0_6 a0_7 a1_0 a1_1 a1_2 a1_3 a1_4 l1_5 l1_6 a1_7).bind fun t724 => (some (t723 == t724)))) else (some false))) = some r := H
          have A21 := Aside0.mk A210
          clear A210
          replace H := Option.bind_eq_some_iff.mp H
          obtain ⟨t722, A220, H⟩ := H
          replace H : (if (t721 == t722) = true then ((recipe_Same.f kj4 a0_0 a0_1 a0_2 a0_3 a0_4 l0_5 l0_6 a0_7 a1_0 a1_1 a1_2 a1_3 a1_4 l1_5 l1_6 a1_7).bind fun t723 => ((seedcornref37_Same.f kj4 a0_0 a0_1 a0_2 a0_3 a0_4 l0_5 l0_6 a0_7 a1_0 a1_1 a1_2 a1_3 a1_4 l1_5 l1_6 a1_7).bind fun t724 => (some (t723 == t724)))) else (some false)) = some r := H
          have A22 := Aside0.mk A220
          clear A220
          by_cases c23 : (t721 == t722) = true
          · rw [if_pos c23] at H
            have c23b0 : (t721 == t722) = true := c23
            (try (have c23b1 : decide (t721 = t722) = true := by simpa using c23))
            (try (have c23b2 : (t721 == t722) = true := by simpa using c23))
            clear c23
            replace H := Option.bind_eq_some_iff.mp H
            obtain ⟨t723, A240, H⟩ := H
            replace H : ((seedcornref37_Same.f kj4 a0_0 a0_1 a0_2 a0_3 a0_4 l0_5 l0_6 a0_7 a1_0 a1_1 a1_2 a1_3 a1_4 l1_5 l1_6 a1_7).bind fun t724 => (some (t723 == t724))) = some r := H
            have A24 := Aside0.mk A240
            clear A240
            replace H := Option.bind_eq_some_iff.mp H
            obtain ⟨t724, A250, H⟩ := H
            replace H : (some (t723 == t724)) = some r := H
            have A25 := Aside0.mk A250
            clear A250
            obtain rfl := Option.some.inj H
            try go_wp2
            have n0_ := Aside0.mk (blk_drew BK716.out)
            have n1_ := Aside0.mk (blk_drew BK717.out)
            have n2_ := Aside0.mk (below_drew1 HB.out)
            clear BK716
            clear BK717
            clear HB
            have BK716 := n0_
            have BK717 := n1_
            have HB := n2_
            clear n0_ n1_ n2_
            refine start_ (n := 15) (S := fun w' => w'.cell? ⟨gb716, 0, none⟩ = some (.int .i64 a0_0) ∧ w'.cell? ⟨gb716, 1, none⟩ = some (.int .u32 a0_1) ∧ w'.cell? ⟨gb716, 2, none⟩ = some (.int .u32 a0_2) ∧ w'.cell? ⟨gb716, 3, none⟩ = some (.int .u32 a0_3) ∧ w'.cell? ⟨gb716, 4, none⟩ = some (.int .u32 a0_4) ∧ w'.cell? ⟨gb716, 5, none⟩ = some (.slice A0_5 l0_5.length c0_5) ∧ w'.cell? ⟨gb716, 6, none⟩ = some (.slice A0_6 l0_6.length c0_6) ∧ w'.cell? ⟨gb716, 7, none⟩ = some (.int .i64 a0_7) ∧ w'.cell? ⟨gb717, 0, none⟩ = some (.int .i64 a1_0) ∧ w'.cell? ⟨gb717, 1, none⟩ = some (.int .u32 a1_1) ∧ w'.cell? ⟨gb717, 2, none⟩ = some (.int .u32 a1_2) ∧ w'.cell? ⟨gb717, 3, none⟩ = some (.int .u32 a1_3) ∧ w'.cell? ⟨gb717, 4, none⟩ = some (.int .u32 a1_4) ∧ w'.cell? ⟨gb717, 5, none⟩ = some (.slice A1_5 l1_5.length c1_5) ∧ w'.cell? ⟨gb717, 6, none⟩ = some (.slice A1_6 l1_6.length c1_6) ∧ w'.cell? ⟨gb717, 7, none⟩ = some (.int .i64 a1_7)) (ds := []) #[false, false, false, false, false, false, false, false, false, false, false, false, false, false, false] (by kernel_rfl) rfl rfl ⟨(blk_cell BK716.out 0).trans rfl, (blk_cell BK716.out 1).trans rfl, (blk_cell BK716.out 2).trans rfl, (blk_cell BK716.out 3).trans rfl, (blk_cell BK716.out 4).trans rfl, (blk_cell BK716.out 5).trans rfl, (blk_cell BK716.out 6).trans rfl, (blk_cell BK716.out 7).trans rfl, (blk_cell BK717.out 0).trans rfl, (blk_cell BK717.out 1).trans rfl, (blk_cell BK717.out 2).trans rfl, (blk_cell BK717.out 3).trans rfl, (blk_cell BK717.out 4).trans rfl, (blk_cell BK717.out 5).trans rfl, (blk_cell BK717.out 6).trans rfl, (blk_cell BK717.out 7).trans rfl⟩ (fun hHeld => ?_); refine with_tabW seedcornlaw37_RecipeRight.tab5 seedcornlaw37_RecipeRight.bits5 (fun HT_ HW_ => ?_)
            generalize wc.drew = w26 at BK716 BK717 HB hHeld ⊢
            refine take_ (i := 0) (N := some 15) (v := ?_) (a' := ?_) #[true, false, false, false, false, false, false, false, false, false, false, false, false, false, false] rfl rfl (take_ofW HT_.out HW_.out (by kernel_rfl)) (fun _ _ _ h => h) (Or.inl ⟨by rfl, ?_⟩) hHeld ?_ ?_
            rotate_left
            · rintro w' ⟨s0, s1, s2, s3, s4, s5, s6, s7, s8, s9, s10, s11, s12, s13, s14, s15⟩
              go_simp
              with_reducible rfl
            rotate_left
            · simp only [Act.put, List.setIfInBounds_toArray, List.set_cons_zero, List.set_cons_succ, i64_w, i32_w]
              rfl
            refine take_ (i := 2) (N := some 17) (v := ?_) (a' := ?_) #[true, false, true, false, false, false, false, false, false, false, false, false, false, false, false] rfl rfl (take_ofW HT_.out HW_.out (by kernel_rfl)) (fun _ _ _ h => h) (Or.inl ⟨by rfl, ?_⟩) hHeld ?_ ?_
            rotate_left
            · rintro w' ⟨s0, s1, s2, s3, s4, s5, s6, s7, s8, s9, s10, s11, s12, s13, s14, s15⟩
              go_simp
              with_reducible rfl
            rotate_left
            · simp only [Act.put, List.setIfInBounds_toArray, List.set_cons_zero, List.set_cons_succ, i64_w, i32_w]
              rfl
            refine one_ (i := 1) (N := some 16) #[true, true, true, false, false, false, false, false, false, false, false, false, false, false, false] rfl rfl (one_of HT_.out (by kernel_rfl)) (by decide) (fun K hK => ?_)
            refine goes_ Tryd.func42 (by kernel_rfl) rfl #[.agg #[.int .i64 a0_0, .int .u32 a0_1, .int .u32 a0_2, .int .u32 a0_3, .int .u32 a0_4, .slice A0_5 l0_5.length c0_5, .slice A0_6 l0_6.length c0_6, .int .i64 a0_7]] (by rfl) rfl rfl (by (try simp only [List.map_toArray, List.map_cons, List.map_nil]); first | done | rfl | (simp only [List.length_drop, List.length_take]; rfl)) ?_
            with_reducible refine (recipe_Right.calls kj4 a0_0 a0_1 a0_2 a0_3 a0_4 _ _ l0_5 _ _ l0_6 a0_7 t721 _ ?side1 ?side2 ?side3 ?side4 A21.out).mono ?_
            (case side1 => repeat (first | exact (Kd.C_below HR0_5.out HB.out) | (with_reducible refine Kd.C_alloc ?_ _) | (with_reducible refine Kd.C_drewN ?_ _) | (with_reducible refine Kd.C_drew ?_)))
            (case side2 => exact HC0_5.out)
            (case side3 => repeat (first | exact (Kd.C_below HR0_6.out HB.out) | (with_reducible refine Kd.C_alloc ?_ _) | (with_reducible refine Kd.C_drewN ?_ _) | (with_reducible refine Kd.C_drew ?_)))
            (case side4 => exact HC0_6.out)
            rintro e w27 ⟨rfl, hb⟩
            refine ⟨_, rfl, ?_⟩
            have n0_ := Aside0.mk (blk_below (g := gb716) (o := .cells #[.int .i64 a0_0, .int .u32 a0_1, .int .u32 a0_2, .int .u32 a0_3, .int .u32 a0_4, .slice A0_5 l0_5.length c0_5, .slice A0_6 l0_6.length c0_6, .int .i64 a0_7] 46 (0, 0)) (by (with_reducible repeat (first | refine blk_drewN ?_ _ | refine blk_drew ?_ | refine blk_alloc ?_ _)); exact BK716.out) hb)
            have n1_ := Aside0.mk (blk_below (g := gb717) (o := .cells #[.int .i64 a1_0, .int .u32 a1_1, .int .u32 a1_2, .int .u32 a1_3, .int .u32 a1_4, .slice A1_5 l1_5.length c1_5, .slice A1_6 l1_6.length c1_6, .int .i64 a1_7] 46 (0, 0)) (by (with_reducible repeat (first | refine blk_drewN ?_ _ | refine blk_drew ?_ | refine blk_alloc ?_ _)); exact BK717.out) hb)
            have n2_ := Aside0.mk (below_step (by repeat (first | (with_reducible first | exact HB.out | apply below_alloc | apply pw_below_drewN | apply below_drew1 | refine below_set ?_ GE716.out | refine below_set ?_ GE717.out) | exact HB.out)) hb)
            clear BK716
            clear BK717
            clear HB
            have BK716 := n0_
            have BK717 := n1_
            have HB := n2_
            clear n0_ n1_ n2_
            (try clear hb)
            (try clear hb2)
            (try clear hk)
            (try clear hi)
            refine hK.out _ _ ⟨(blk_cell BK716.out 0).trans rfl, (blk_cell BK716.out 1).trans rfl, (blk_cell BK716.out 2).trans rfl, (blk_cell BK716.out 3).trans rfl, (blk_cell BK716.out 4).trans rfl, (blk_cell BK716.out 5).trans rfl, (blk_cell BK716.out 6).trans rfl, (blk_cell BK716.out 7).trans rfl, (blk_cell BK717.out 0).trans rfl, (blk_cell BK717.out 1).trans rfl, (blk_cell BK717.out 2).trans rfl, (blk_cell BK717.out 3).trans rfl, (blk_cell BK717.out 4).trans rfl, (blk_cell BK717.out 5).trans rfl, (blk_cell BK717.out 6).trans rfl, (blk_cell BK717.out 7).trans rfl⟩ (fun hHeld => ?_)
            clear hK K
            refine norm_ (a' := ?_) ?_ ?_
            rotate_left
            · show Act.put _ (some 16) _ = _
              simp only [Act.put, List.setIfInBounds_toArray, List.set_cons_zero, List.set_cons_succ, i64_w, i32_w]
              rfl
            refine one_ (i := 3) (N := some 18) #[true, true, true, true, false, false, false, false, false, false, false, false, false, false, false] rfl rfl (one_of HT_.out (by kernel_rfl)) (by decide) (fun K hK => ?_)
            refine goes_ Tryd.func41 (by kernel_rfl) rfl #[.agg #[.int .i64 a0_0, .int .u32 a0_1, .int .u32 a0_2, .int .u32 a0_3, .int .u32 a0_4, .slice A0_5 l0_5.length c0_5, .slice A0_6 l0_6.length c0_6, .int .i64 a0_7]] (by rfl) rfl rfl (by (try simp only [List.map_toArray, List.map_cons, List.map_nil]); first | done | rfl | (simp only [List.length_drop, List.length_take]; rfl)) ?_
            with_reducible refine (seedcornref37_Right.calls kj4 a0_0 a0_1 a0_2 a0_3 a0_4 _ _ l0_5 _ _ l0_6 a0_7 t722 _ ?side1 ?side2 ?side3 ?side4 A22.out).mono ?_
            (case side1 => repeat (first | exact (Kd.C_below HR0_5.out HB.out) | (with_reducible refine Kd.C_alloc ?_ _) | (with_reducible refine Kd.C_drewN ?_ _) | (with_reducible refine Kd.C_drew ?_)))
            (case side2 => exact HC0_5.out)
            (case side3 => repeat (first | exact (Kd.C_below HR0_6.out HB.out) | (with_reducible refine Kd.C_alloc ?_ _) | (with_reducible refine Kd.C_drewN ?_ _) | (with_reducible refine Kd.C_drew ?_)))
            (case side4 => exact HC0_6.out)
            rintro e w28 ⟨rfl, hb⟩
            refine ⟨_, rfl, ?_⟩
            have n0_ := Aside0.mk (blk_below (g := gb716) (o := .cells #[.int .i64 a0_0, .int .u32 a0_1, .int .u32 a0_2, .int .u32 a0_3, .int .u32 a0_4, .slice A0_5 l0_5.length c0_5, .slice A0_6 l0_6.length c0_6, .int .i64 a0_7] 46 (0, 0)) (by (with_reducible repeat (first | refine blk_drewN ?_ _ | refine blk_drew ?_ | refine blk_alloc ?_ _)); exact BK716.out) hb)
            have n1_ := Aside0.mk (blk_below (g := gb717) (o := .cells #[.int .i64 a1_0, .int .u32 a1_1, .int .u32 a1_2, .int .u32 a1_3, .int .u32 a1_4, .slice A1_5 l1_5.length c1_5, .slice A1_6 l1_6.length c1_6, .int .i64 a1_7] 46 (0, 0)) (by (with_reducible repeat (first | refine blk_drewN ?_ _ | refine blk_drew ?_ | refine blk_alloc ?_ _)); exact BK717.out) hb)
            have n2_ := Aside0.mk (below_step (by repeat (first | (with_reducible first | exact HB.out | apply below_alloc | apply pw_below_drewN | apply below_drew1 | refine below_set ?_ GE716.out | refine below_set ?_ GE717.out) | exact HB.out)) hb)
            clear BK716
            clear BK717
            clear HB
            have BK716 := n0_
            have BK717 := n1_
            have HB := n2_
            clear n0_ n1_ n2_
            (try clear hb)
            (try clear hb2)
            (try clear hk)
            (try clear hi)
            refine hK.out _ _ ⟨(blk_cell BK716.out 0).trans rfl, (blk_cell BK716.out 1).trans rfl, (blk_cell BK716.out 2).trans rfl, (blk_cell BK716.out 3).trans rfl, (blk_cell BK716.out 4).trans rfl, (blk_cell BK716.out 5).trans rfl, (blk_cell BK716.out 6).trans rfl, (blk_cell BK716.out 7).trans rfl, (blk_cell BK717.out 0).trans rfl, (blk_cell BK717.out 1).trans rfl, (blk_cell BK717.out 2).trans rfl, (blk_cell BK717.out 3).trans rfl, (blk_cell BK717.out 4).trans rfl, (blk_cell BK717.out 5).trans rfl, (blk_cell BK717.out 6).trans rfl, (blk_cell BK717.out 7).trans rfl⟩ (fun hHeld => ?_)
            clear hK K
            refine norm_ (a' := ?_) ?_ ?_
            rotate_left
            · show Act.put _ (some 18) _ = _
              simp only [Act.put, List.setIfInBounds_toArray, List.set_cons_zero, List.set_cons_succ, i64_w, i32_w]
              rfl
            refine pure_ (i := 4) (N := some 19) (v := ?_) (a' := ?_) #[true, true, true, true, true, false, false, false, false, false, false, false, false, false, false] rfl rfl (any_of HT_.out (by kernel_rfl)) (fun _ _ _ h => h) (Or.inl ⟨by rfl, ?_⟩) ?_ ?_
            rotate_left
            · intro w'
              go_simp
              with_reducible rfl
            rotate_left
            · simp only [Act.put, List.setIfInBounds_toArray, List.set_cons_zero, List.set_cons_succ, i64_w, i32_w]
              rfl
            refine pure_ (i := 5) (N := some 20) (v := ?_) (a' := ?_) #[true, true, true, true, true, true, false, false, false, false, false, false, false, false, false] rfl rfl (any_of HT_.out (by kernel_rfl)) (fun _ _ _ h => h) (Or.inl ⟨by rfl, ?_⟩) ?_ ?_
            rotate_left
            · intro w'
              go_simp
              with_reducible rfl
            rotate_left
            · simp only [Act.put, List.setIfInBounds_toArray, List.set_cons_zero, List.set_cons_succ, i64_w, i32_w]
              rfl
            refine take_ (i := 6) (N := some 21) (v := ?_) (a' := ?_) #[true, true, true, true, true, true, true, false, false, false, false, false, false, false, false] rfl rfl (take_ofW HT_.out HW_.out (by kernel_rfl)) (fun _ _ _ h => h) (Or.inl ⟨by rfl, ?_⟩) hHeld ?_ ?_
            rotate_left
            · rintro w' ⟨s0, s1, s2, s3, s4, s5, s6, s7, s8, s9, s10, s11, s12, s13, s14, s15⟩
              go_simp
              with_reducible rfl
            rotate_left
            · simp only [Act.put, List.setIfInBounds_toArray, List.set_cons_zero, List.set_cons_succ, i64_w, i32_w]
              rfl
            refine take_ (i := 7) (N := some 22) (v := ?_) (a' := ?_) #[true, true, true, true, true, true, true, true, false, false, false, false, false, false, false] rfl rfl (take_ofW HT_.out HW_.out (by kernel_rfl)) (fun _ _ _ h => h) (Or.inl ⟨by rfl, ?_⟩) hHeld ?_ ?_
            rotate_left
            · rintro w' ⟨s0, s1, s2, s3, s4, s5, s6, s7, s8, s9, s10, s11, s12, s13, s14, s15⟩
              go_simp
              with_reducible rfl
            rotate_left
            · simp only [Act.put, List.setIfInBounds_toArray, List.set_cons_zero, List.set_cons_succ, i64_w, i32_w]
              rfl
            refine take_ (i := 9) (N := some 24) (v := ?_) (a' := ?_) #[true, true, true, true, true, true, true, true, false, true, false, false, false, false, false] rfl rfl (take_ofW HT_.out HW_.out (by kernel_rfl)) (fun _ _ _ h => h) (Or.inl ⟨by rfl, ?_⟩) hHeld ?_ ?_
            rotate_left
            · rintro w' ⟨s0, s1, s2, s3, s4, s5, s6, s7, s8, s9, s10, s11, s12, s13, s14, s15⟩
              go_simp
              with_reducible rfl
            rotate_left
            · simp only [Act.put, List.setIfInBounds_toArray, List.set_cons_zero, List.set_cons_succ, i64_w, i32_w]
              rfl
            refine take_ (i := 10) (N := some 25) (v := ?_) (a' := ?_) #[true, true, true, true, true, true, true, true, false, true, true, false, false, false, false] rfl rfl (take_ofW HT_.out HW_.out (by kernel_rfl)) (fun _ _ _ h => h) (Or.inl ⟨by rfl, ?_⟩) hHeld ?_ ?_
            rotate_left
            · rintro w' ⟨s0, s1, s2, s3, s4, s5, s6, s7, s8, s9, s10, s11, s12, s13, s14, s15⟩
              go_simp
              with_reducible rfl
            rotate_left
            · simp only [Act.put, List.setIfInBounds_toArray, List.set_cons_zero, List.set_cons_succ, i64_w, i32_w]
              rfl
            refine one_ (i := 8) (N := some 23) #[true, true, true, true, true, true, true, true, true, true, true, false, false, false, false] rfl rfl (one_of HT_.out (by kernel_rfl)) (by decide) (fun K hK => ?_)
            refine goes_ Tryd.func43 (by kernel_rfl) rfl #[.agg #[.int .i64 a0_0, .int .u32 a0_1, .int .u32 a0_2, .int .u32 a0_3, .int .u32 a0_4, .slice A0_5 l0_5.length c0_5, .slice A0_6 l0_6.length c0_6, .int .i64 a0_7], .agg #[.int .i64 a1_0, .int .u32 a1_1, .int .u32 a1_2, .int .u32 a1_3, .int .u32 a1_4, .slice A1_5 l1_5.length c1_5, .slice A1_6 l1_6.length c1_6, .int .i64 a1_7]] (by rfl) rfl rfl (by (try simp only [List.map_toArray, List.map_cons, List.map_nil]); first | done | rfl | (simp only [List.length_drop, List.length_take]; rfl)) ?_
            with_reducible refine (recipe_Same.calls kj4 a0_0 a0_1 a0_2 a0_3 a0_4 _ _ l0_5 _ _ l0_6 a0_7 a1_0 a1_1 a1_2 a1_3 a1_4 _ _ l1_5 _ _ l1_6 a1_7 t723 _ ?side1 ?side2 ?side3 ?side4 ?side5 ?side6 ?side7 ?side8 A24.out).mono ?_
            (case side1 => repeat (first | exact (Kd.C_below HR0_5.out HB.out) | (with_reducible refine Kd.C_alloc ?_ _) | (with_reducible refine Kd.C_drewN ?_ _) | (with_reducible refine Kd.C_drew ?_)))
            (case side2 => exact HC0_5.out)
            (case side3 => repeat (first | exact (Kd.C_below HR0_6.out HB.out) | (with_reducible refine Kd.C_alloc ?_ _) | (with_reducible refine Kd.C_drewN ?_ _) | (with_reducible refine Kd.C_drew ?_)))
            (case side4 => exact HC0_6.out)
            (case side5 => repeat (first | exact (Kd.C_below HR1_5.out HB.out) | (with_reducible refine Kd.C_alloc ?_ _) | (with_reducible refine Kd.C_drewN ?_ _) | (with_reducible refine Kd.C_drew ?_)))
            (case side6 => exact HC1_5.out)
            (case side7 => repeat (first | exact (Kd.C_below HR1_6.out HB.out) | (with_reducible refine Kd.C_alloc ?_ _) | (with_reducible refine Kd.C_drewN ?_ _) | (with_reducible refine Kd.C_drew ?_)))
            (case side8 => exact HC1_6.out)
            rintro e w29 ⟨rfl, hb⟩
            refine ⟨_, rfl, ?_⟩
            have n0_ := Aside0.mk (blk_below (g := gb716) (o := .cells #[.int .i64 a0_0, .int .u32 a0_1, .int .u32 a0_2, .int .u32 a0_3, .int .u32 a0_4, .slice A0_5 l0_5.length c0_5, .slice A0_6 l0_6.length c0_6, .int .i64 a0_7] 46 (0, 0)) (by (with_reducible repeat (first | refine blk_drewN ?_ _ | refine blk_drew ?_ | refine blk_alloc ?_ _)); exact BK716.out) hb)
            have n1_ := Aside0.mk (blk_below (g := gb717) (o := .cells #[.int .i64 a1_0, .int .u32 a1_1, .int .u32 a1_2, .int .u32 a1_3, .int .u32 a1_4, .slice A1_5 l1_5.length c1_5, .slice A1_6 l1_6.length c1_6, .int .i64 a1_7] 46 (0, 0)) (by (with_reducible repeat (first | refine blk_drewN ?_ _ | refine blk_drew ?_ | refine blk_alloc ?_ _)); exact BK717.out) hb)
            have n2_ := Aside0.mk (below_step (by repeat (first | (with_reducible first | exact HB.out | apply below_alloc | apply pw_below_drewN | apply below_drew1 | refine below_set ?_ GE716.out | refine below_set ?_ GE717.out) | exact HB.out)) hb)
            clear BK716
            clear BK717
            clear HB
            have BK716 := n0_
            have BK717 := n1_
            have HB := n2_
            clear n0_ n1_ n2_
            (try clear hb)
            (try clear hb2)
            (try clear hk)
            (try clear hi)
            refine hK.out _ _ ⟨(blk_cell BK716.out 0).trans rfl, (blk_cell BK716.out 1).trans rfl, (blk_cell BK716.out 2).trans rfl, (blk_cell BK716.out 3).trans rfl, (blk_cell BK716.out 4).trans rfl, (blk_cell BK716.out 5).trans rfl, (blk_cell BK716.out 6).trans rfl, (blk_cell BK716.out 7).trans rfl, (blk_cell BK717.out 0).trans rfl, (blk_cell BK717.out 1).trans rfl, (blk_cell BK717.out 2).trans rfl, (blk_cell BK717.out 3).trans rfl, (blk_cell BK717.out 4).trans rfl, (blk_cell BK717.out 5).trans rfl, (blk_cell BK717.out 6).trans rfl, (blk_cell BK717.out 7).trans rfl⟩ (fun hHeld => ?_)
            clear hK K
            refine norm_ (a' := ?_) ?_ ?_
            rotate_left
            · show Act.put _ (some 23) _ = _
              simp only [Act.put, List.setIfInBounds_toArray, List.set_cons_zero, List.set_cons_succ, i64_w, i32_w]
              rfl
            refine one_ (i := 11) (N := some 26) #[true, true, true, true, true, true, true, true, true, true, true, true, false, false, false] rfl rfl (one_of HT_.out (by kernel_rfl)) (by decide) (fun K hK => ?_)
            refine goes_ Tryd.func39 (by kernel_rfl) rfl #[.agg #[.int .i64 a0_0, .int .u32 a0_1, .int .u32 a0_2, .int .u32 a0_3, .int .u32 a0_4, .slice A0_5 l0_5.length c0_5, .slice A0_6 l0_6.length c0_6, .int .i64 a0_7], .agg #[.int .i64 a1_0, .int .u32 a1_1, .int .u32 a1_2, .int .u32 a1_3, .int .u32 a1_4, .slice A1_5 l1_5.length c1_5, .slice A1_6 l1_6.length c1_6, .int .i64 a1_7]] (by rfl) rfl rfl (by (try simp only [List.map_toArray, List.map_cons, List.map_nil]); first | done | rfl | (simp only [List.length_drop, List.length_take]; rfl)) ?_
            with_reducible refine (seedcornref37_Same.calls kj4 a0_0 a0_1 a0_2 a0_3 a0_4 _ _ l0_5 _ _ l0_6 a0_7 a1_0 a1_1 a1_2 a1_3 a1_4 _ _ l1_5 _ _ l1_6 a1_7 t724 _ ?side1 ?side2 ?side3 ?side4 ?side5 ?side6 ?side7 ?side8 A25.out).mono ?_
            (case side1 => repeat (first | exact (Kd.C_below HR0_5.out HB.out) | (with_reducible refine Kd.C_alloc ?_ _) | (with_reducible refine Kd.C_drewN ?_ _) | (with_reducible refine Kd.C_drew ?_)))
            (case side2 => exact HC0_5.out)
            (case side3 => repeat (first | exact (Kd.C_below HR0_6.out HB.out) | (with_reducible refine Kd.C_alloc ?_ _) | (with_reducible refine Kd.C_drewN ?_ _) | (with_reducible refine Kd.C_drew ?_)))
            (case side4 => exact HC0_6.out)
            (case side5 => repeat (first | exact (Kd.C_below HR1_5.out HB.out) | (with_reducible refine Kd.C_alloc ?_ _) | (with_reducible refine Kd.C_drewN ?_ _) | (with_reducible refine Kd.C_drew ?_)))
            (case side6 => exact HC1_5.out)
            (case side7 => repeat (first | exact (Kd.C_below HR1_6.out HB.out) | (with_reducible refine Kd.C_alloc ?_ _) | (with_reducible refine Kd.C_drewN ?_ _) | (with_reducible refine Kd.C_drew ?_)))
            (case side8 => exact HC1_6.out)
            rintro e w30 ⟨rfl, hb⟩
            refine ⟨_, rfl, ?_⟩
            have n0_ := Aside0.mk (blk_below (g := gb716) (o := .cells #[.int .i64 a0_0, .int .u32 a0_1, .int .u32 a0_2, .int .u32 a0_3, .int .u32 a0_4, .slice A0_5 l0_5.length c0_5, .slice A0_6 l0_6.length c0_6, .int .i64 a0_7] 46 (0, 0)) (by (with_reducible repeat (first | refine blk_drewN ?_ _ | refine blk_drew ?_ | refine blk_alloc ?_ _)); exact BK716.out) hb)
            have n1_ := Aside0.mk (blk_below (g := gb717) (o := .cells #[.int .i64 a1_0, .int .u32 a1_1, .int .u32 a1_2, .int .u32 a1_3, .int .u32 a1_4, .slice A1_5 l1_5.length c1_5, .slice A1_6 l1_6.length c1_6, .int .i64 a1_7] 46 (0, 0)) (by (with_reducible repeat (first | refine blk_drewN ?_ _ | refine blk_drew ?_ | refine blk_alloc ?_ _)); exact BK717.out) hb)
            have n2_ := Aside0.mk (below_step (by repeat (first | (with_reducible first | exact HB.out | apply below_alloc | apply pw_below_drewN | apply below_drew1 | refine below_set ?_ GE716.out | refine below_set ?_ GE717.out) | exact HB.out)) hb)
            clear BK716
            clear BK717
            clear HB
            have BK716 := n0_
            have BK717 := n1_
            have HB := n2_
            clear n0_ n1_ n2_
            (try clear hb)
            (try clear hb2)
            (try clear hk)
            (try clear hi)
            refine hK.out _ _ ⟨(blk_cell BK716.out 0).trans rfl, (blk_cell BK716.out 1).trans rfl, (blk_cell BK716.out 2).trans rfl, (blk_cell BK716.out 3).trans rfl, (blk_cell BK716.out 4).trans rfl, (blk_cell BK716.out 5).trans rfl, (blk_cell BK716.out 6).trans rfl, (blk_cell BK716.out 7).trans rfl, (blk_cell BK717.out 0).trans rfl, (blk_cell BK717.out 1).trans rfl, (blk_cell BK717.out 2).trans rfl, (blk_cell BK717.out 3).trans rfl, (blk_cell BK717.out 4).trans rfl, (blk_cell BK717.out 5).trans rfl, (blk_cell BK717.out 6).trans rfl, (blk_cell BK717.out 7).trans rfl⟩ (fun hHeld => ?_)
            clear hK K
            refine norm_ (a' := ?_) ?_ ?_
            rotate_left
            · show Act.put _ (some 26) _ = _
              simp only [Act.put, List.setIfInBounds_toArray, List.set_cons_zero, List.set_cons_succ, i64_w, i32_w]
              rfl
            refine pure_ (i := 12) (N := some 27) (v := ?_) (a' := ?_) #[true, true, true, true, true, true, true, true, true, true, true, true, true, false, false] rfl rfl (any_of HT_.out (by kernel_rfl)) (fun _ _ _ h => h) (Or.inl ⟨by rfl, ?_⟩) ?_ ?_
            rotate_left
            · intro w'
              go_simp
              with_reducible rfl
            rotate_left
            · simp only [Act.put, List.setIfInBounds_toArray, List.set_cons_zero, List.set_cons_succ, i64_w, i32_w]
              rfl
            refine pure_ (i := 13) (N := some 28) (v := ?_) (a' := ?_) #[true, true, true, true, true, true, true, true, true, true, true, true, true, true, false] rfl rfl (any_of HT_.out (by kernel_rfl)) (fun _ _ _ h => h) (Or.inl ⟨by rfl, ?_⟩) ?_ ?_
            rotate_left
            · intro w'
              go_simp
              with_reducible rfl
            rotate_left
            · simp only [Act.put, List.setIfInBounds_toArray, List.set_cons_zero, List.set_cons_succ, i64_w, i32_w]
              rfl
            refine pure_ (i := 14) (N := some 4) (v := ?_) (a' := ?_) #[true, true, true, true, true, true, true, true, true, true, true, true, true, true, true] rfl rfl (any_of HT_.out (by kernel_rfl)) (fun _ _ _ h => h) (Or.inl ⟨by rfl, ?_⟩) ?_ ?_
            rotate_left
            · intro w'
              go_simp
              with_reducible rfl
            rotate_left
            · simp only [Act.put, List.setIfInBounds_toArray, List.set_cons_zero, List.set_cons_succ, i64_w, i32_w]
              rfl
            refine done_ (done_of HT_.out (by kernel_rfl)) ?_
            try go_wp2
            go_ret
            exact ⟨by first | rfl | (simp [errW_none, errW_some] <;> rfl) | (simp [*, errW_none, errW_some] <;> rfl), by repeat (first | (with_reducible first | exact HB.out | apply below_alloc | apply pw_below_drewN | apply below_drew1 | refine below_set ?_ GE716.out | refine below_set ?_ GE717.out) | exact HB.out)⟩
          · rw [if_neg c23] at H
            exact absurd ((Option.some.inj H).trans hr_.out) (by decide)
  · replace c4 := Bool.eq_false_iff.mpr c4
    subst c4
    exact absurd ((Option.some.inj (show (some false) = some r from by rw [if_neg (show ¬ (false = true) by decide)] at H; exact H)).trans hr_.out) (by decide)
end Go.Proofs.YthimgiphlenjdaaDoor.PI
