/- Contracts of the Go functions of this seat, each over a Lean function of the same answers; written by a program of this session's. -/
import Derived.Test.YthimgiphlenjdaaDoorPIx0
import Derived.Test.YthimgiphlenjdaaDoorHWords
namespace Go.Proofs.YthimgiphlenjdaaDoor.PI
open Go.RowKit Go.Proofs.YthimgiphlenjdaaDoorW.PrintWords Go.Proofs.YthimgiphlenjdaaDoorW.PrintLast
open HX
set_option linter.unusedVariables false
set_option linter.unusedSimpArgs false

section
/-! ### seedcornref37_Few: function 33 -/
def seedcornref37_Few.f (a0_0 : Int) (a0_1 : Int) (a0_2 : Int) (a0_3 : Int) (a0_4 : Int) (l0_5 : List Int) (l0_6 : List (S24)) (a0_7 : Int) (a1 : Int) : Option (Bool) := if (l0_5.length : Int) ≤ a1 then (some (decide ((l0_6.length : Int) ≤ a1))) else (some false)
set_option maxHeartbeats 8000000 in
set_option maxRecDepth 100000 in
theorem seedcornref37_Few.calls (a0_0 : Int) (a0_1 : Int) (a0_2 : Int) (a0_3 : Int) (a0_4 : Int) (A0_5 : Option Addr) (c0_5 : Nat) (l0_5 : List Int) (A0_6 : Option Addr) (c0_6 : Nat) (l0_6 : List (S24)) (a0_7 : Int) (a1 : Int) (r : Bool) (w : World) (hr0_5 : Kd.C (Kd.int .i64) w A0_5 l0_5.length l0_5) (hc0_5 : l0_5.length ≤ c0_5) (hr0_6 : Kd.C k24 w A0_6 l0_6.length l0_6) (hc0_6 : l0_6.length ≤ c0_6) (h : seedcornref37_Few.f a0_0 a0_1 a0_2 a0_3 a0_4 l0_5 l0_6 a0_7 a1 = some r) :
    Calls Tryd.prog 33 #[.agg #[.int .i64 a0_0, .int .u32 a0_1, .int .u32 a0_2, .int .u32 a0_3, .int .u32 a0_4, .slice A0_5 l0_5.length c0_5, .slice A0_6 l0_6.length c0_6, .int .i64 a0_7], .int .i64 a1] w fun e w' => e = .returned (.bool r) ∧ Below w.heap.size w w' := by
  have hu46 := Tryd.underlying46
  have HR0_5 := Aside0.mk hr0_5
  have HC0_5 := Aside0.mk hc0_5
  clear hr0_5 hc0_5
  have HR0_6 := Aside0.mk hr0_6
  have HC0_6 := Aside0.mk hc0_6
  clear hr0_6 hc0_6
  have HB := Aside0.mk (Below.refl w.heap.size w)
  have H : (if (l0_5.length : Int) ≤ a1 then (some (decide ((l0_6.length : Int) ≤ a1))) else (some false)) = some r := h
  clear h
  by_cases c3 : (l0_5.length : Int) ≤ a1
  · rw [if_pos c3] at H
    have c3b0 : decide ((l0_5.length : Int) ≤ a1) = true := decide_eq_true c3
    clear c3
    obtain rfl := Option.some.inj H
    go_enter Tryd.func33, Tryd.ntmps33
    go_wp2_with (first | ((with_reducible refine gate_dst (N := 2) rfl ?_); (try (refine gate_guard (by rfl) ?_; dsimp only)); refine box_event ?hg (N := 2) ?hd (cs := #[.int .i64 a0_0, .int .u32 a0_1, .int .u32 a0_2, .int .u32 a0_3, .int .u32 a0_4, .slice A0_5 l0_5.length c0_5, .slice A0_6 l0_6.length c0_6, .int .i64 a0_7]) (t := 46) ?hr ?_; (case hd => rfl); (case hg => rfl); (case hr => first | (go_simp; done) | (go_simp; rfl)); intro gb501 hg w4 hbox hb; have n0_ := Aside0.mk (below_step (by repeat (first | (with_reducible first | exact HB.out | apply below_alloc | apply pw_below_drewN | apply below_drew1) | exact HB.out)) hb); have n1_ := Aside0.mk (hbox); have n2_ := Aside0.mk ((by rw [hg]; exact (below_size (by repeat (first | (with_reducible first | exact HB.out | apply below_alloc | apply pw_below_drewN | apply below_drew1) | exact HB.out))) : w.heap.size ≤ gb501)); have n3_ := n2_; clear HB; have HB := n0_; have BK501 := n1_; have GW501 := n2_; have GE501 := n3_; clear n0_ n1_ n2_ n3_; clear hb hbox hg; obtain ⟨hcz5_0, hcz5_1, hcz5_2, hcz5_3, hcz5_4, hcz5_5, hcz5_6, hcz5_7, hfz5_0, hfz5_1, hfz5_2, hfz5_3, hfz5_4, hfz5_5, hfz5_6, hfz5_7⟩ := HX.cells8 BK501.out))
    go_ret
    exact ⟨by first | rfl | (simp [errW_none, errW_some] <;> rfl) | (simp [*, errW_none, errW_some] <;> rfl), by repeat (first | (with_reducible first | exact HB.out | apply below_alloc | apply pw_below_drewN | apply below_drew1 | refine below_set ?_ GE501.out) | exact HB.out)⟩
  · rw [if_neg c3] at H
    have c3b0 : decide ((l0_5.length : Int) ≤ a1) = false := decide_eq_false c3
    clear c3
    obtain rfl := Option.some.inj H
    go_enter Tryd.func33, Tryd.ntmps33
    go_wp2_with (first | ((with_reducible refine gate_dst (N := 2) rfl ?_); (try (refine gate_guard (by rfl) ?_; dsimp only)); refine box_event ?hg (N := 2) ?hd (cs := #[.int .i64 a0_0, .int .u32 a0_1, .int .u32 a0_2, .int .u32 a0_3, .int .u32 a0_4, .slice A0_5 l0_5.length c0_5, .slice A0_6 l0_6.length c0_6, .int .i64 a0_7]) (t := 46) ?hr ?_; (case hd => rfl); (case hg => rfl); (case hr => first | (go_simp; done) | (go_simp; rfl)); intro gb501 hg w6 hbox hb; have n0_ := Aside0.mk (below_step (by repeat (first | (with_reducible first | exact HB.out | apply below_alloc | apply pw_below_drewN | apply below_drew1) | exact HB.out)) hb); have n1_ := Aside0.mk (hbox); have n2_ := Aside0.mk ((by rw [hg]; exact (below_size (by repeat (first | (with_reducible first | exact HB.out | apply below_alloc | apply pw_below_drewN | apply below_drew1) | exact HB.out))) : w.heap.size ≤ gb501)); have n3_ := n2_; clear HB; have HB := n0_; have BK501 := n1_; have GW501 := n2_; have GE501 := n3_; clear n0_ n1_ n2_ n3_; clear hb hbox hg; obtain ⟨hcz7_0, hcz7_1, hcz7_2, hcz7_3, hcz7_4, hcz7_5, hcz7_6, hcz7_7, hfz7_0, hfz7_1, hfz7_2, hfz7_3, hfz7_4, hfz7_5, hfz7_6, hfz7_7⟩ := HX.cells8 BK501.out))
    go_ret
    exact ⟨by first | rfl | (simp [errW_none, errW_some] <;> rfl) | (simp [*, errW_none, errW_some] <;> rfl), by repeat (first | (with_reducible first | exact HB.out | apply below_alloc | apply pw_below_drewN | apply below_drew1 | refine below_set ?_ GE501.out) | exact HB.out)⟩


end

section
attribute [local go_sem high] eqA24
/-! ### seedcornref37_Same: function 39 -/
mutual
def seedcornref37_Same.j0 : Nat → Bool → Int → Int → Int → Int → Int → List Int → List (S24) → Int → Int → Int → Int → Int → Int → List Int → List (S24) → Int → Option (Bool)
  | 0, _, _, _, _, _, _, _, _, _, _, _, _, _, _, _, _, _ => none
  | k + 1, x43, x443000, x443001, x443002, x443003, x443004, x443005, x443006, x443007, x444000, x444001, x444002, x444003, x444004, x444005, x444006, x444007 => if x43 = true then (some false) else (seedcornref37_Same.l0 k 0 x443000 x443001 x443002 x443003 x443004 x443005 x443006 x443007 x444000 x444001 x444002 x444003 x444004 x444005 x444006 x444007)
def seedcornref37_Same.l0 : Nat → Int → Int → Int → Int → Int → Int → List Int → List (S24) → Int → Int → Int → Int → Int → Int → List Int → List (S24) → Int → Option (Bool)
  | 0, _, _, _, _, _, _, _, _, _, _, _, _, _, _, _, _, _ => none
  | k + 1, x5, x443000, x443001, x443002, x443003, x443004, x443005, x443006, x443007, x444000, x444001, x444002, x444003, x444004, x444005, x444006, x444007 => if x5 < (x443005.length : Int) then (if 0 ≤ x5 then (if x5 < (x444005.length : Int) then (if (rd x443005 x5) = (rd x444005 x5) then (seedcornref37_Same.l0 k (wrap64 (x5 + 1)) x443000 x443001 x443002 x443003 x443004 x443005 x443006 x443007 x444000 x444001 x444002 x444003 x444004 x444005 x444006 x444007) else (some false)) else (none)) else (none)) else (seedcornref37_Same.l1 k 0 x443000 x443001 x443002 x443003 x443004 x443005 x443006 x443007 x444000 x444001 x444002 x444003 x444004 x444005 x444006 x444007)
def seedcornref37_Same.l1 : Nat → Int → Int → Int → Int → Int → Int → List Int → List (S24) → Int → Int → Int → Int → Int → Int → List Int → List (S24) → Int → Option (Bool)
  | 0, _, _, _, _, _, _, _, _, _, _, _, _, _, _, _, _, _ => none
  | k + 1, x6, x443000, x443001, x443002, x443003, x443004, x443005, x443006, x443007, x444000, x444001, x444002, x444003, x444004, x444005, x444006, x444007 => if x6 < (x443006.length : Int) then (if 0 ≤ x6 then (if x6 < (x444006.length : Int) then (if (!(((rd_T24 x443006 x6).f0) == ((rd_T24 x444006 x6).f0)) || (!(((rd_T24 x443006 x6).f1) == ((rd_T24 x444006 x6).f1)) || (!(((rd_T24 x443006 x6).f2) == ((rd_T24 x444006 x6).f2)) || (!(((rd_T24 x443006 x6).f3) == ((rd_T24 x444006 x6).f3)))))) = true then (some false) else (seedcornref37_Same.l1 k (wrap64 (x6 + 1)) x443000 x443001 x443002 x443003 x443004 x443005 x443006 x443007 x444000 x444001 x444002 x444003 x444004 x444005 x444006 x444007)) else (none)) else (none)) else (some true)
end
def seedcornref37_Same.f (k : Nat) (a0_0 : Int) (a0_1 : Int) (a0_2 : Int) (a0_3 : Int) (a0_4 : Int) (l0_5 : List Int) (l0_6 : List (S24)) (a0_7 : Int) (a1_0 : Int) (a1_1 : Int) (a1_2 : Int) (a1_3 : Int) (a1_4 : Int) (l1_5 : List Int) (l1_6 : List (S24)) (a1_7 : Int) : Option (Bool) := if a0_0 = a1_0 then (if (!(a0_1 == a1_1) || (!(a0_2 == a1_2) || (!(a0_3 == a1_3) || (!(a0_4 == a1_4))))) = true then (seedcornref37_Same.j0 k true a0_0 a0_1 a0_2 a0_3 a0_4 l0_5 l0_6 a0_7 a1_0 a1_1 a1_2 a1_3 a1_4 l1_5 l1_6 a1_7) else (if a0_7 = a1_7 then (if (l0_5.length : Int) = (l1_5.length : Int) then (seedcornref37_Same.j0 k ((l0_6.length : Int) != (l1_6.length : Int)) a0_0 a0_1 a0_2 a0_3 a0_4 l0_5 l0_6 a0_7 a1_0 a1_1 a1_2 a1_3 a1_4 l1_5 l1_6 a1_7) else (seedcornref37_Same.j0 k true a0_0 a0_1 a0_2 a0_3 a0_4 l0_5 l0_6 a0_7 a1_0 a1_1 a1_2 a1_3 a1_4 l1_5 l1_6 a1_7)) else (seedcornref37_Same.j0 k true a0_0 a0_1 a0_2 a0_3 a0_4 l0_5 l0_6 a0_7 a1_0 a1_1 a1_2 a1_3 a1_4 l1_5 l1_6 a1_7))) else (seedcornref37_Same.j0 k true a0_0 a0_1 a0_2 a0_3 a0_4 l0_5 l0_6 a0_7 a1_0 a1_1 a1_2 a1_3 a1_4 l1_5 l1_6 a1_7)
theorem seedcornref37_Same.mono_l : ∀ k, (∀ y0 y1 y2 y3 y4 y5 y6 y7 y8 y9 y10 y11 y12 y13 y14 y15 y16, LeO (seedcornref37_Same.j0 k y0 y1 y2 y3 y4 y5 y6 y7 y8 y9 y10 y11 y12 y13 y14 y15 y16) (seedcornref37_Same.j0 (k + 1) y0 y1 y2 y3 y4 y5 y6 y7 y8 y9 y10 y11 y12 y13 y14 y15 y16)) ∧ (∀ y0 y1 y2 y3 y4 y5 y6 y7 y8 y9 y10 y11 y12 y13 y14 y15 y16, LeO (seedcornref37_Same.l0 k y0 y1 y2 y3 y4 y5 y6 y7 y8 y9 y10 y11 y12 y13 y14 y15 y16) (seedcornref37_Same.l0 (k + 1) y0 y1 y2 y3 y4 y5 y6 y7 y8 y9 y10 y11 y12 y13 y14 y15 y16)) ∧ (∀ y0 y1 y2 y3 y4 y5 y6 y7 y8 y9 y10 y11 y12 y13 y14 y15 y16, LeO (seedcornref37_Same.l1 k y0 y1 y2 y3 y4 y5 y6 y7 y8 y9 y10 y11 y12 y13 y14 y15 y16) (seedcornref37_Same.l1 (k + 1) y0 y1 y2 y3 y4 y5 y6 y7 y8 y9 y10 y11 y12 y13 y14 y15 y16))
  | 0 => ⟨fun _ _ _ _ _ _ _ _ _ _ _ _ _ _ _ _ _ r h => by simp [seedcornref37_Same.j0] at h, fun _ _ _ _ _ _ _ _ _ _ _ _ _ _ _ _ _ r h => by simp [seedcornref37_Same.l0] at h, fun _ _ _ _ _ _ _ _ _ _ _ _ _ _ _ _ _ r h => by simp [seedcornref37_Same.l1] at h⟩
  | k + 1 => by
    obtain ⟨ih0, ih1, ih2⟩ := seedcornref37_Same.mono_l k
    refine ⟨?_, ?_, ?_⟩
    · intro y0 y1 y2 y3 y4 y5 y6 y7 y8 y9 y10 y11 y12 y13 y14 y15 y16
      unfold seedcornref37_Same.j0
      repeat' first
      | (with_reducible exact ih0 _ _ _ _ _ _ _ _ _ _ _ _ _ _ _ _ _)
      | (with_reducible exact ih1 _ _ _ _ _ _ _ _ _ _ _ _ _ _ _ _ _)
      | (with_reducible exact ih2 _ _ _ _ _ _ _ _ _ _ _ _ _ _ _ _ _)
      | (with_reducible exact LeO.refl _)
      | (with_reducible exact LeO.none _)
      | (with_reducible refine LeO.ite ?_ ?_)
      | (with_reducible refine LeO.bind ?_ (fun _ => ?_))
      | exact ih0 _ _ _ _ _ _ _ _ _ _ _ _ _ _ _ _ _
      | exact ih1 _ _ _ _ _ _ _ _ _ _ _ _ _ _ _ _ _
      | exact ih2 _ _ _ _ _ _ _ _ _ _ _ _ _ _ _ _ _
      | exact LeO.none _
      | refine LeO.ite ?_ ?_
      | refine LeO.bind ?_ (fun _ => ?_)
    · intro y0 y1 y2 y3 y4 y5 y6 y7 y8 y9 y10 y11 y12 y13 y14 y15 y16
      unfold seedcornref37_Same.l0
      repeat' first
      | (with_reducible exact ih0 _ _ _ _ _ _ _ _ _ _ _ _ _ _ _ _ _)
      | (with_reducible exact ih1 _ _ _ _ _ _ _ _ _ _ _ _ _ _ _ _ _)
      | (with_reducible exact ih2 _ _ _ _ _ _ _ _ _ _ _ _ _ _ _ _ _)
      | (with_reducible exact LeO.refl _)
      | (with_reducible exact LeO.none _)
      | (with_reducible refine LeO.ite ?_ ?_)
      | (with_reducible refine LeO.bind ?_ (fun _ => ?_))
      | exact ih0 _ _ _ _ _ _ _ _ _ _ _ _ _ _ _ _ _
      | exact ih1 _ _ _ _ _ _ _ _ _ _ _ _ _ _ _ _ _
      | exact ih2 _ _ _ _ _ _ _ _ _ _ _ _ _ _ _ _ _
      | exact LeO.none _
      | refine LeO.ite ?_ ?_
      | refine LeO.bind ?_ (fun _ => ?_)
    · intro y0 y1 y2 y3 y4 y5 y6 y7 y8 y9 y10 y11 y12 y13 y14 y15 y16
      unfold seedcornref37_Same.l1
      repeat' first
      | (with_reducible exact ih0 _ _ _ _ _ _ _ _ _ _ _ _ _ _ _ _ _)
      | (with_reducible exact ih1 _ _ _ _ _ _ _ _ _ _ _ _ _ _ _ _ _)
      | (with_reducible exact ih2 _ _ _ _ _ _ _ _ _ _ _ _ _ _ _ _ _)
      | (with_reducible exact LeO.refl _)
      | (with_reducible exact LeO.none _)
      | (with_reducible refine LeO.ite ?_ ?_)
      | (with_reducible refine LeO.bind ?_ (fun _ => ?_))
      | exact ih0 _ _ _ _ _ _ _ _ _ _ _ _ _ _ _ _ _
      | exact ih1 _ _ _ _ _ _ _ _ _ _ _ _ _ _ _ _ _
      | exact ih2 _ _ _ _ _ _ _ _ _ _ _ _ _ _ _ _ _
      | exact LeO.none _
      | refine LeO.ite ?_ ?_
      | refine LeO.bind ?_ (fun _ => ?_)
theorem seedcornref37_Same.mono : ∀ a0 a1 a2 a3 a4 a5 a6 a7 a8 a9 a10 a11 a12 a13 a14 a15 k, LeO (seedcornref37_Same.f k a0 a1 a2 a3 a4 a5 a6 a7 a8 a9 a10 a11 a12 a13 a14 a15) (seedcornref37_Same.f (k + 1) a0 a1 a2 a3 a4 a5 a6 a7 a8 a9 a10 a11 a12 a13 a14 a15) := by
  intro a0 a1 a2 a3 a4 a5 a6 a7 a8 a9 a10 a11 a12 a13 a14 a15 k
  obtain ⟨ih0, ih1, ih2⟩ := seedcornref37_Same.mono_l k
  unfold seedcornref37_Same.f
  repeat' first
      | (with_reducible exact ih0 _ _ _ _ _ _ _ _ _ _ _ _ _ _ _ _ _)
      | (with_reducible exact ih1 _ _ _ _ _ _ _ _ _ _ _ _ _ _ _ _ _)
      | (with_reducible exact ih2 _ _ _ _ _ _ _ _ _ _ _ _ _ _ _ _ _)
      | (with_reducible exact LeO.refl _)
      | (with_reducible exact LeO.none _)
      | (with_reducible refine LeO.ite ?_ ?_)
      | (with_reducible refine LeO.bind ?_ (fun _ => ?_))
      | exact ih0 _ _ _ _ _ _ _ _ _ _ _ _ _ _ _ _ _
      | exact ih1 _ _ _ _ _ _ _ _ _ _ _ _ _ _ _ _ _
      | exact ih2 _ _ _ _ _ _ _ _ _ _ _ _ _ _ _ _ _
      | exact LeO.none _
      | refine LeO.ite ?_ ?_
      | refine LeO.bind ?_ (fun _ => ?_)
set_option maxHeartbeats 8000000 in
set_option maxRecDepth 100000 in
theorem seedcornref37_Same.calls (k : Nat) (a0_0 : Int) (a0_1 : Int) (a0_2 : Int) (a0_3 : Int) (a0_4 : Int) (A0_5 : Option Addr) (c0_5 : Nat) (l0_5 : List Int) (A0_6 : Option Addr) (c0_6 : Nat) (l0_6 : List (S24)) (a0_7 : Int) (a1_0 : Int) (a1_1 : Int) (a1_2 : Int) (a1_3 : Int) (a1_4 : Int) (A1_5 : Option Addr) (c1_5 : Nat) (l1_5 : List Int) (A1_6 : Option Addr) (c1_6 : Nat) (l1_6 : List (S24)) (a1_7 : Int) (r : Bool) (w : World) (hr0_5 : Kd.C (Kd.int .i64) w A0_5 l0_5.length l0_5) (hc0_5 : l0_5.length ≤ c0_5) (hr0_6 : Kd.C k24 w A0_6 l0_6.length l0_6) (hc0_6 : l0_6.length ≤ c0_6) (hr1_5 : Kd.C (Kd.int .i64) w A1_5 l1_5.length l1_5) (hc1_5 : l1_5.length ≤ c1_5) (hr1_6 : Kd.C k24 w A1_6 l1_6.length l1_6) (hc1_6 : l1_6.length ≤ c1_6) (h : seedcornref37_Same.f k a0_0 a0_1 a0_2 a0_3 a0_4 l0_5 l0_6 a0_7 a1_0 a1_1 a1_2 a1_3 a1_4 l1_5 l1_6 a1_7 = some r) :
    Calls Tryd.prog 39 #[.agg #[.int .i64 a0_0, .int .u32 a0_1, .int .u32 a0_2, .int .u32 a0_3, .int .u32 a0_4, .slice A0_5 l0_5.length c0_5, .slice A0_6 l0_6.length c0_6, .int .i64 a0_7], .agg #[.int .i64 a1_0, .int .u32 a1_1, .int .u32 a1_2, .int .u32 a1_3, .int .u32 a1_4, .slice A1_5 l1_5.length c1_5, .slice A1_6 l1_6.length c1_6, .int .i64 a1_7]] w fun e w' => e = .returned (.bool r) ∧ Below w.heap.size w w' := by
  have hu46 := Tryd.underlying46
  have hu24 := Tryd.underlying24
  have HR0_5 := Aside0.mk hr0_5
  have HC0_5 := Aside0.mk hc0_5
  clear hr0_5 hc0_5
  have HR0_6 := Aside0.mk hr0_6
  have HC0_6 := Aside0.mk hc0_6
  clear hr0_6 hc0_6
  have HR1_5 := Aside0.mk hr1_5
  have HC1_5 := Aside0.mk hc1_5
  clear hr1_5 hc1_5
  have HR1_6 := Aside0.mk hr1_6
  have HC1_6 := Aside0.mk hc1_6
  clear hr1_6 hc1_6
  have HB := Aside0.mk (Below.refl w.heap.size w)
  have H : (if a0_0 = a1_0 then (if (!(a0_1 == a1_1) || (!(a0_2 == a1_2) || (!(a0_3 == a1_3) || (!(a0_4 == a1_4))))) = true then (seedcornref37_Same.j0 k true a0_0 a0_1 a0_2 a0_3 a0_4 l0_5 l0_6 a0_7 a1_0 a1_1 a1_2 a1_3 a1_4 l1_5 l1_6 a1_7) else (if a0_7 = a1_7 then (if (l0_5.length : Int) = (l1_5.length : Int) then (seedcornref37_Same.j0 k ((l0_6.length : Int) != (l1_6.length : Int)) a0_0 a0_1 a0_2 a0_3 a0_4 l0_5 l0_6 a0_7 a1_0 a1_1 a1_2 a1_3 a1_4 l1_5 l1_6 a1_7) else (seedcornref37_Same.j0 k true a0_0 a0_1 a0_2 a0_3 a0_4 l0_5 l0_6 a0_7 a1_0 a1_1 a1_2 a1_3 a1_4 l1_5 l1_6 a1_7)) else (seedcornref37_Same.j0 k true a0_0 a0_1 a0_2 a0_3 a0_4 l0_5 l0_6 a0_7 a1_0 a1_1 a1_2 a1_3 a1_4 l1_5 l1_6 a1_7))) else (seedcornref37_Same.j0 k true a0_0 a0_1 a0_2 a0_3 a0_4 l0_5 l0_6 a0_7 a1_0 a1_1 a1_2 a1_3 a1_4 l1_5 l1_6 a1_7)) = some r := h
  clear h
  have HC3 := Aside0.mk H
  clear H
  go_enter Tryd.func39, Tryd.ntmps39
  go_upto_region 1 with (first | ((with_reducible refine gate_dst (N := 2) rfl ?_); (try (refine gate_guard (by rfl) ?_; dsimp only)); refine box_event ?hg (N := 2) ?hd (cs := #[.int .i64 a0_0, .int .u32 a0_1, .int .u32 a0_2, .int .u32 a0_3, .int .u32 a0_4, .slice A0_5 l0_5.length c0_5, .slice A0_6 l0_6.length c0_6, .int .i64 a0_7]) (t := 46) ?hr ?_; (case hd => rfl); (case hg => rfl); (case hr => first | (go_simp; done) | (go_simp; rfl)); intro gb442 hg w4 hbox hb; have n0_ := Aside0.mk (below_step (by repeat (first | (with_reducible first | exact HB.out | apply below_alloc | apply pw_below_drewN | apply below_drew1) | exact HB.out)) hb); have n1_ := Aside0.mk (hbox); have n2_ := Aside0.mk ((by rw [hg]; exact (below_size (by repeat (first | (with_reducible first | exact HB.out | apply below_alloc | apply pw_below_drewN | apply below_drew1) | exact HB.out))) : w.heap.size ≤ gb442)); have n3_ := n2_; clear HB; have HB := n0_; have BK442 := n1_; have GW442 := n2_; have GE442 := n3_; clear n0_ n1_ n2_ n3_; clear hb hbox hg) | ((with_reducible refine gate_dst (N := 3) rfl ?_); (try (refine gate_guard (by rfl) ?_; dsimp only)); refine box_event ?hg (N := 3) ?hd (cs := #[.int .i64 a1_0, .int .u32 a1_1, .int .u32 a1_2, .int .u32 a1_3, .int .u32 a1_4, .slice A1_5 l1_5.length c1_5, .slice A1_6 l1_6.length c1_6, .int .i64 a1_7]) (t := 46) ?hr ?_; (case hd => rfl); (case hg => rfl); (case hr => first | (go_simp; done) | (go_simp; rfl)); intro gb443 hg w5 hbox hb; have n0_ := Aside0.mk (blk_below (g := gb442) (by (with_reducible repeat (first | refine blk_drewN ?_ _ | refine blk_drew ?_ | refine blk_alloc ?_ _)); exact BK442.out) hb); have n1_ := Aside0.mk (below_step (by repeat (first | (with_reducible first | exact HB.out | apply below_alloc | apply pw_below_drewN | apply below_drew1 | refine below_set ?_ GE442.out) | exact HB.out)) hb); have n2_ := Aside0.mk (hbox); have n3_ := Aside0.mk ((by rw [hg]; exact (below_size (by repeat (first | (with_reducible first | exact HB.out | apply below_alloc | apply pw_below_drewN | apply below_drew1 | refine below_set ?_ GE442.out) | exact HB.out))) : w.heap.size ≤ gb443)); have n4_ := n3_; have n5_ := Aside0.mk ((by rw [hg]; exact Nat.ne_of_lt (blk_lt (g := gb442) (o := .cells #[.int .i64 a0_0, .int .u32 a0_1, .int .u32 a0_2, .int .u32 a0_3, .int .u32 a0_4, .slice A0_5 l0_5.length c0_5, .slice A0_6 l0_6.length c0_6, .int .i64 a0_7] 46 (0, 0)) (by (with_reducible repeat (first | refine blk_drewN ?_ _ | refine blk_drew ?_ | refine blk_alloc ?_ _)); exact BK442.out)) : gb442 ≠ gb443)); have n6_ := Aside0.mk n5_.out.symm; clear BK442; clear HB; have BK442 := n0_; have HB := n1_; have BK443 := n2_; have GW443 := n3_; have GE443 := n4_; have NB442_443 := n5_; have NB443_442 := n6_; clear n0_ n1_ n2_ n3_ n4_ n5_ n6_; clear hb hbox hg))
  repeat (go_quiet (first | ((with_reducible refine gate_dst (N := 2) rfl ?_); (try (refine gate_guard (by rfl) ?_; dsimp only)); refine box_event ?hg (N := 2) ?hd (cs := #[.int .i64 a0_0, .int .u32 a0_1, .int .u32 a0_2, .int .u32 a0_3, .int .u32 a0_4, .slice A0_5 l0_5.length c0_5, .slice A0_6 l0_6.length c0_6, .int .i64 a0_7]) (t := 46) ?hr ?_; (case hd => rfl); (case hg => rfl); (case hr => first | (go_simp; done) | (go_simp; rfl)); intro gb442 hg w4 hbox hb; have n0_ := Aside0.mk (below_step (by repeat (first | (with_reducible first | exact HB.out | apply below_alloc | apply pw_below_drewN | apply below_drew1) | exact HB.out)) hb); have n1_ := Aside0.mk (hbox); have n2_ := Aside0.mk ((by rw [hg]; exact (below_size (by repeat (first | (with_reducible first | exact HB.out | apply below_alloc | apply pw_below_drewN | apply below_drew1) | exact HB.out))) : w.heap.size ≤ gb442)); have n3_ := n2_; clear HB; have HB := n0_; have BK442 := n1_; have GW442 := n2_; have GE442 := n3_; clear n0_ n1_ n2_ n3_; clear hb hbox hg) | ((with_reducible refine gate_dst (N := 3) rfl ?_); (try (refine gate_guard (by rfl) ?_; dsimp only)); refine box_event ?hg (N := 3) ?hd (cs := #[.int .i64 a1_0, .int .u32 a1_1, .int .u32 a1_2, .int .u32 a1_3, .int .u32 a1_4, .slice A1_5 l1_5.length c1_5, .slice A1_6 l1_6.length c1_6, .int .i64 a1_7]) (t := 46) ?hr ?_; (case hd => rfl); (case hg => rfl); (case hr => first | (go_simp; done) | (go_simp; rfl)); intro gb443 hg w5 hbox hb; have n0_ := Aside0.mk (blk_below (g := gb442) (by (with_reducible repeat (first | refine blk_drewN ?_ _ | refine blk_drew ?_ | refine blk_alloc ?_ _)); exact BK442.out) hb); have n1_ := Aside0.mk (below_step (by repeat (first | (with_reducible first | exact HB.out | apply below_alloc | apply pw_below_drewN | apply below_drew1 | refine below_set ?_ GE442.out) | exact HB.out)) hb); have n2_ := Aside0.mk (hbox); have n3_ := Aside0.mk ((by rw [hg]; exact (below_size (by repeat (first | (with_reducible first | exact HB.out | apply below_alloc | apply pw_below_drewN | apply below_drew1 | refine below_set ?_ GE442.out) | exact HB.out))) : w.heap.size ≤ gb443)); have n4_ := n3_; have n5_ := Aside0.mk ((by rw [hg]; exact Nat.ne_of_lt (blk_lt (g := gb442) (o := .cells #[.int .i64 a0_0, .int .u32 a0_1, .int .u32 a0_2, .int .u32 a0_3, .int .u32 a0_4, .slice A0_5 l0_5.length c0_5, .slice A0_6 l0_6.length c0_6, .int .i64 a0_7] 46 (0, 0)) (by (with_reducible repeat (first | refine blk_drewN ?_ _ | refine blk_drew ?_ | refine blk_alloc ?_ _)); exact BK442.out)) : gb442 ≠ gb443)); have n6_ := Aside0.mk n5_.out.symm; clear BK442; clear HB; have BK442 := n0_; have HB := n1_; have BK443 := n2_; have GW443 := n3_; have GE443 := n4_; have NB442_443 := n5_; have NB443_442 := n6_; clear n0_ n1_ n2_ n3_ n4_ n5_ n6_; clear hb hbox hg)); go_upto_region 1 with (first | ((with_reducible refine gate_dst (N := 2) rfl ?_); (try (refine gate_guard (by rfl) ?_; dsimp only)); refine box_event ?hg (N := 2) ?hd (cs := #[.int .i64 a0_0, .int .u32 a0_1, .int .u32 a0_2, .int .u32 a0_3, .int .u32 a0_4, .slice A0_5 l0_5.length c0_5, .slice A0_6 l0_6.length c0_6, .int .i64 a0_7]) (t := 46) ?hr ?_; (case hd => rfl); (case hg => rfl); (case hr => first | (go_simp; done) | (go_simp; rfl)); intro gb442 hg w4 hbox hb; have n0_ := Aside0.mk (below_step (by repeat (first | (with_reducible first | exact HB.out | apply below_alloc | apply pw_below_drewN | apply below_drew1) | exact HB.out)) hb); have n1_ := Aside0.mk (hbox); have n2_ := Aside0.mk ((by rw [hg]; exact (below_size (by repeat (first | (with_reducible first | exact HB.out | apply below_alloc | apply pw_below_drewN | apply below_drew1) | exact HB.out))) : w.heap.size ≤ gb442)); have n3_ := n2_; clear HB; have HB := n0_; have BK442 := n1_; have GW442 := n2_; have GE442 := n3_; clear n0_ n1_ n2_ n3_; clear hb hbox hg) | ((with_reducible refine gate_dst (N := 3) rfl ?_); (try (refine gate_guard (by rfl) ?_; dsimp only)); refine box_event ?hg (N := 3) ?hd (cs := #[.int .i64 a1_0, .int .u32 a1_1, .int .u32 a1_2, .int .u32 a1_3, .int .u32 a1_4, .slice A1_5 l1_5.length c1_5, .slice A1_6 l1_6.length c1_6, .int .i64 a1_7]) (t := 46) ?hr ?_; (case hd => rfl); (case hg => rfl); (case hr => first | (go_simp; done) | (go_simp; rfl)); intro gb443 hg w5 hbox hb; have n0_ := Aside0.mk (blk_below (g := gb442) (by (with_reducible repeat (first | refine blk_drewN ?_ _ | refine blk_drew ?_ | refine blk_alloc ?_ _)); exact BK442.out) hb); have n1_ := Aside0.mk (below_step (by repeat (first | (with_reducible first | exact HB.out | apply below_alloc | apply pw_below_drewN | apply below_drew1 | refine below_set ?_ GE442.out) | exact HB.out)) hb); have n2_ := Aside0.mk (hbox); have n3_ := Aside0.mk ((by rw [hg]; exact (below_size (by repeat (first | (with_reducible first | exact HB.out | apply below_alloc | apply pw_below_drewN | apply below_drew1 | refine below_set ?_ GE442.out) | exact HB.out))) : w.heap.size ≤ gb443)); have n4_ := n3_; have n5_ := Aside0.mk ((by rw [hg]; exact Nat.ne_of_lt (blk_lt (g := gb442) (o := .cells #[.int .i64 a0_0, .int .u32 a0_1, .int .u32 a0_2, .int .u32 a0_3, .int .u32 a0_4, .slice A0_5 l0_5.length c0_5, .slice A0_6 l0_6.length c0_6, .int .i64 a0_7] 46 (0, 0)) (by (with_reducible repeat (first | refine blk_drewN ?_ _ | refine blk_drew ?_ | refine blk_alloc ?_ _)); exact BK442.out)) : gb442 ≠ gb443)); have n6_ := Aside0.mk n5_.out.symm; clear BK442; clear HB; have BK442 := n0_; have HB := n1_; have BK443 := n2_; have GW443 := n3_; have GE443 := n4_; have NB442_443 := n5_; have NB443_442 := n6_; clear n0_ n1_ n2_ n3_ n4_ n5_ n6_; clear hb hbox hg)))
  (try simp only [Act.put, List.setIfInBounds_toArray, List.set_cons_zero, List.set_cons_succ])
  go_cut [43] (fun v43 wc => ∃ (kq : Nat) (x43_2 : Bool), v43 = .bool x43_2 ∧ Aside0 (seedcornref37_Same.j0 kq x43_2 a0_0 a0_1 a0_2 a0_3 a0_4 l0_5 l0_6 a0_7 a1_0 a1_1 a1_2 a1_3 a1_4 l1_5 l1_6 a1_7 = some r) ∧ Aside0 (kq ≤ k) ∧ Aside0 (wc.heap[gb442]? = some (.cells #[.int .i64 a0_0, .int .u32 a0_1, .int .u32 a0_2, .int .u32 a0_3, .int .u32 a0_4, (.slice A0_5 l0_5.length c0_5), (.slice A0_6 l0_6.length c0_6), .int .i64 a0_7] 46 (0, 0))) ∧ Aside0 (wc.heap[gb443]? = some (.cells #[.int .i64 a1_0, .int .u32 a1_1, .int .u32 a1_2, .int .u32 a1_3, .int .u32 a1_4, (.slice A1_5 l1_5.length c1_5), (.slice A1_6 l1_6.length c1_6), .int .i64 a1_7] 46 (0, 0))) ∧ Aside0 (Below w.heap.size w wc))
  case first =>
    have H := HC3.out
    clear HC3
    by_cases c6 : a0_0 = a1_0
    · rw [if_pos c6] at H
      have c6b0 : (a0_0 == a1_0) = true := beq_iff_eq.mpr c6
      have c6b1 : (a0_0 != a1_0) = false := bne_eq_false_iff_eq.mpr c6
      clear c6
      (first | rw [c6b0] | (simp only [i64_w, i32_w]; rw [c6b0]) | skip)
      by_cases c7 : (!(a0_1 == a1_1) || (!(a0_2 == a1_2) || (!(a0_3 == a1_3) || (!(a0_4 == a1_4))))) = true
      · rw [if_pos c7] at H
        have c7b0 : (!(a0_1 == a1_1) || (!(a0_2 == a1_2) || (!(a0_3 == a1_3) || (!(a0_4 == a1_4))))) = true := c7
        clear c7
        have H' := Aside0.mk H
        clear H
        have hnb8 := NB442_443.out
        have hnc8 := NB443_442.out
        obtain ⟨hcz9_0, hcz9_1, hcz9_2, hcz9_3, hcz9_4, hcz9_5, hcz9_6, hcz9_7, hfz9_0, hfz9_1, hfz9_2, hfz9_3, hfz9_4, hfz9_5, hfz9_6, hfz9_7⟩ := HX.cells8 BK442.out
        obtain ⟨hcz10_0, hcz10_1, hcz10_2, hcz10_3, hcz10_4, hcz10_5, hcz10_6, hcz10_7, hfz10_0, hfz10_1, hfz10_2, hfz10_3, hfz10_4, hfz10_5, hfz10_6, hfz10_7⟩ := HX.cells8 BK443.out
        go_wp2
        repeat (go_quiet (fail); try go_wp2)
        go_meet
        case rel => exact ⟨_, (true), (by first | rfl | (simp; done) | (simp [*]; done)), H', ⟨by first | omega | exact Nat.le_refl _⟩, ⟨by (with_reducible repeat (first | refine blk_drewN ?_ _ | refine blk_drew ?_ | refine blk_alloc ?_ _)); exact BK442.out⟩, ⟨by (with_reducible repeat (first | refine blk_drewN ?_ _ | refine blk_drew ?_ | refine blk_alloc ?_ _)); exact BK443.out⟩, ⟨by repeat (first | (with_reducible first | exact HB.out | apply below_alloc | apply pw_below_drewN | apply below_drew1 | refine below_set ?_ GE442.out | refine below_set ?_ GE443.out) | exact HB.out)⟩⟩
      · rw [if_neg c7] at H
        have c7b0 : (!(a0_1 == a1_1) || (!(a0_2 == a1_2) || (!(a0_3 == a1_3) || (!(a0_4 == a1_4))))) = false := by simpa using c7
        clear c7
        by_cases c11 : a0_7 = a1_7
        · rw [if_pos c11] at H
          have c11b0 : (a0_7 == a1_7) = true := beq_iff_eq.mpr c11
          have c11b1 : (a0_7 != a1_7) = false := bne_eq_false_iff_eq.mpr c11
          clear c11
          by_cases c12 : (l0_5.length : Int) = (l1_5.length : Int)
          · rw [if_pos c12] at H
            have c12b0 : ((l0_5.length : Int) == (l1_5.length : Int)) = true := beq_iff_eq.mpr c12
            have c12b1 : ((l0_5.length : Int) != (l1_5.length : Int)) = false := bne_eq_false_iff_eq.mpr c12
            have c12b2 : (l0_5.length == l1_5.length) = true := by first | simpa using c12 | (simp at c12 ⊢; omega)
            clear c12
            have H' := Aside0.mk H
            clear H
            have hnb13 := NB442_443.out
            have hnc13 := NB443_442.out
            obtain ⟨hcz14_0, hcz14_1, hcz14_2, hcz14_3, hcz14_4, hcz14_5, hcz14_6, hcz14_7, hfz14_0, hfz14_1, hfz14_2, hfz14_3, hfz14_4, hfz14_5, hfz14_6, hfz14_7⟩ := HX.cells8 BK442.out
            obtain ⟨hcz15_0, hcz15_1, hcz15_2, hcz15_3, hcz15_4, hcz15_5, hcz15_6, hcz15_7, hfz15_0, hfz15_1, hfz15_2, hfz15_3, hfz15_4, hfz15_5, hfz15_6, hfz15_7⟩ := HX.cells8 BK443.out
            go_wp2
            repeat (go_quiet (fail); try go_wp2)
            go_meet
            case rel => exact ⟨_, (((l0_6.length : Int) != (l1_6.length : Int))), (by first | rfl | (simp; done) | (simp [*]; done)), H', ⟨by first | omega | exact Nat.le_refl _⟩, ⟨by (with_reducible repeat (first | refine blk_drewN ?_ _ | refine blk_drew ?_ | refine blk_alloc ?_ _)); exact BK442.out⟩, ⟨by (with_reducible repeat (first | refine blk_drewN ?_ _ | refine blk_drew ?_ | refine blk_alloc ?_ _)); exact BK443.out⟩, ⟨by repeat (first | (with_reducible first | exact HB.out | apply below_alloc | apply pw_below_drewN | apply below_drew1 | refine below_set ?_ GE442.out | refine below_set ?_ GE443.out) | exact HB.out)⟩⟩
          · rw [if_neg c12] at H
            have c12b0 : ((l0_5.length : Int) == (l1_5.length : Int)) = false := beq_eq_false_iff_ne.mpr c12
            have c12b1 : ((l0_5.length : Int) != (l1_5.length : Int)) = true := bne_iff_ne.mpr c12
            have c12b2 : (l0_5.length == l1_5.length) = false := by first | simpa using c12 | (simp at c12 ⊢; omega)
            have H' := Aside0.mk H
            clear H
            have hnb16 := NB442_443.out
            have hnc16 := NB443_442.out
            obtain ⟨hcz17_0, hcz17_1, hcz17_2, hcz17_3, hcz17_4, hcz17_5, hcz17_6, hcz17_7, hfz17_0, hfz17_1, hfz17_2, hfz17_3, hfz17_4, hfz17_5, hfz17_6, hfz17_7⟩ := HX.cells8 BK442.out
            obtain ⟨hcz18_0, hcz18_1, hcz18_2, hcz18_3, hcz18_4, hcz18_5, hcz18_6, hcz18_7, hfz18_0, hfz18_1, hfz18_2, hfz18_3, hfz18_4, hfz18_5, hfz18_6, hfz18_7⟩ := HX.cells8 BK443.out
            go_wp2
            repeat (go_quiet (fail); try go_wp2)
            go_meet
            case rel => exact ⟨_, (true), (by first | rfl | (simp; done) | (simp [*]; done)), H', ⟨by first | omega | exact Nat.le_refl _⟩, ⟨by (with_reducible repeat (first | refine blk_drewN ?_ _ | refine blk_drew ?_ | refine blk_alloc ?_ _)); exact BK442.out⟩, ⟨by (with_reducible repeat (first | refine blk_drewN ?_ _ | refine blk_drew ?_ | refine blk_alloc ?_ _)); exact BK443.out⟩, ⟨by repeat (first | (with_reducible first | exact HB.out | apply below_alloc | apply pw_below_drewN | apply below_drew1 | refine below_set ?_ GE442.out | refine below_set ?_ GE443.out) | exact HB.out)⟩⟩
        · rw [if_neg c11] at H
          have c11b0 : (a0_7 == a1_7) = false := beq_eq_false_iff_ne.mpr c11
          have c11b1 : (a0_7 != a1_7) = true := bne_iff_ne.mpr c11
          have H' := Aside0.mk H
          clear H
          have hnb19 := NB442_443.out
          have hnc19 := NB443_442.out
          obtain ⟨hcz20_0, hcz20_1, hcz20_2, hcz20_3, hcz20_4, hcz20_5, hcz20_6, hcz20_7, hfz20_0, hfz20_1, hfz20_2, hfz20_3, hfz20_4, hfz20_5, hfz20_6, hfz20_7⟩ := HX.cells8 BK442.out
          obtain ⟨hcz21_0, hcz21_1, hcz21_2, hcz21_3, hcz21_4, hcz21_5, hcz21_6, hcz21_7, hfz21_0, hfz21_1, hfz21_2, hfz21_3, hfz21_4, hfz21_5, hfz21_6, hfz21_7⟩ := HX.cells8 BK443.out
          go_wp2
          repeat (go_quiet (fail); try go_wp2)
          go_meet
          case rel => exact ⟨_, (true), (by first | rfl | (simp; done) | (simp [*]; done)), H', ⟨by first | omega | exact Nat.le_refl _⟩, ⟨by (with_reducible repeat (first | refine blk_drewN ?_ _ | refine blk_drew ?_ | refine blk_alloc ?_ _)); exact BK442.out⟩, ⟨by (with_reducible repeat (first | refine blk_drewN ?_ _ | refine blk_drew ?_ | refine blk_alloc ?_ _)); exact BK443.out⟩, ⟨by repeat (first | (with_reducible first | exact HB.out | apply below_alloc | apply pw_below_drewN | apply below_drew1 | refine below_set ?_ GE442.out | refine below_set ?_ GE443.out) | exact HB.out)⟩⟩
    · rw [if_neg c6] at H
      have c6b0 : (a0_0 == a1_0) = false := beq_eq_false_iff_ne.mpr c6
      have c6b1 : (a0_0 != a1_0) = true := bne_iff_ne.mpr c6
      (first | rw [c6b0] | (simp only [i64_w, i32_w]; rw [c6b0]) | skip)
      have H' := Aside0.mk H
      clear H
      have hnb22 := NB442_443.out
      have hnc22 := NB443_442.out
      obtain ⟨hcz23_0, hcz23_1, hcz23_2, hcz23_3, hcz23_4, hcz23_5, hcz23_6, hcz23_7, hfz23_0, hfz23_1, hfz23_2, hfz23_3, hfz23_4, hfz23_5, hfz23_6, hfz23_7⟩ := HX.cells8 BK442.out
      obtain ⟨hcz24_0, hcz24_1, hcz24_2, hcz24_3, hcz24_4, hcz24_5, hcz24_6, hcz24_7, hfz24_0, hfz24_1, hfz24_2, hfz24_3, hfz24_4, hfz24_5, hfz24_6, hfz24_7⟩ := HX.cells8 BK443.out
      go_wp2
      repeat (go_quiet (fail); try go_wp2)
      go_meet
      case rel => exact ⟨_, (true), (by first | rfl | (simp; done) | (simp [*]; done)), H', ⟨by first | omega | exact Nat.le_refl _⟩, ⟨by (with_reducible repeat (first | refine blk_drewN ?_ _ | refine blk_drew ?_ | refine blk_alloc ?_ _)); exact BK442.out⟩, ⟨by (with_reducible repeat (first | refine blk_drewN ?_ _ | refine blk_drew ?_ | refine blk_alloc ?_ _)); exact BK443.out⟩, ⟨by repeat (first | (with_reducible first | exact HB.out | apply below_alloc | apply pw_below_drewN | apply below_drew1 | refine below_set ?_ GE442.out | refine below_set ?_ GE443.out) | exact HB.out)⟩⟩
  case rest =>
    clear HC3
    try clear c1
    try clear c2
    try clear p2
    try clear c3
    try clear c6
    try clear c6b0
    try clear c6b1
    try clear c7
    try clear c7b0
    try clear c8
    try clear c11
    try clear c11b0
    try clear c11b1
    try clear c12
    try clear c12b0
    try clear c12b1
    try clear c12b2
    try clear c13
    try clear c16
    try clear c19
    try clear c22
    try clear hcz10_0 hcz10_1 hcz10_2 hcz10_3 hcz10_4 hcz10_5 hcz10_6 hcz10_7
    try clear hcz14_0 hcz14_1 hcz14_2 hcz14_3 hcz14_4 hcz14_5 hcz14_6 hcz14_7
    try clear hcz15_0 hcz15_1 hcz15_2 hcz15_3 hcz15_4 hcz15_5 hcz15_6 hcz15_7
    try clear hcz17_0 hcz17_1 hcz17_2 hcz17_3 hcz17_4 hcz17_5 hcz17_6 hcz17_7
    try clear hcz18_0 hcz18_1 hcz18_2 hcz18_3 hcz18_4 hcz18_5 hcz18_6 hcz18_7
    try clear hcz20_0 hcz20_1 hcz20_2 hcz20_3 hcz20_4 hcz20_5 hcz20_6 hcz20_7
    try clear hcz21_0 hcz21_1 hcz21_2 hcz21_3 hcz21_4 hcz21_5 hcz21_6 hcz21_7
    try clear hcz23_0 hcz23_1 hcz23_2 hcz23_3 hcz23_4 hcz23_5 hcz23_6 hcz23_7
    try clear hcz24_0 hcz24_1 hcz24_2 hcz24_3 hcz24_4 hcz24_5 hcz24_6 hcz24_7
    try clear hcz9_0 hcz9_1 hcz9_2 hcz9_3 hcz9_4 hcz9_5 hcz9_6 hcz9_7
    try clear hfz10_0 hfz10_1 hfz10_2 hfz10_3 hfz10_4 hfz10_5 hfz10_6 hfz10_7
    try clear hfz14_0 hfz14_1 hfz14_2 hfz14_3 hfz14_4 hfz14_5 hfz14_6 hfz14_7
    try clear hfz15_0 hfz15_1 hfz15_2 hfz15_3 hfz15_4 hfz15_5 hfz15_6 hfz15_7
    try clear hfz17_0 hfz17_1 hfz17_2 hfz17_3 hfz17_4 hfz17_5 hfz17_6 hfz17_7
    try clear hfz18_0 hfz18_1 hfz18_2 hfz18_3 hfz18_4 hfz18_5 hfz18_6 hfz18_7
    try clear hfz20_0 hfz20_1 hfz20_2 hfz20_3 hfz20_4 hfz20_5 hfz20_6 hfz20_7
    try clear hfz21_0 hfz21_1 hfz21_2 hfz21_3 hfz21_4 hfz21_5 hfz21_6 hfz21_7
    try clear hfz23_0 hfz23_1 hfz23_2 hfz23_3 hfz23_4 hfz23_5 hfz23_6 hfz23_7
    try clear hfz24_0 hfz24_1 hfz24_2 hfz24_3 hfz24_4 hfz24_5 hfz24_6 hfz24_7
    try clear hfz9_0 hfz9_1 hfz9_2 hfz9_3 hfz9_4 hfz9_5 hfz9_6 hfz9_7
    obtain ⟨kq, x43_2, rfl, HA, HJ2, BK442, BK443, HB⟩ := hcut
    cases kq with
    | zero => exact absurd HA.out (by simp [seedcornref37_Same.j0])
    | succ kj2 =>
      have H := HA.out
      clear HA
      simp only [seedcornref37_Same.j0] at H
      by_cases c25 : x43_2 = true
      · subst c25
        have H1 : (some false) = some r := by rw [if_pos rfl] at H; exact H
        clear H
        have H := H1
        clear H1
        obtain rfl := Option.some.inj H
        go_wp2
        repeat (go_quiet (fail); try go_wp2)
        go_ret
        exact ⟨by first | rfl | (simp [errW_none, errW_some] <;> rfl) | (simp [*, errW_none, errW_some] <;> rfl), by repeat (first | (with_reducible first | exact HB.out | apply below_alloc | apply pw_below_drewN | apply below_drew1 | refine below_set ?_ GE442.out | refine below_set ?_ GE443.out) | exact HB.out)⟩
      · replace c25 := Bool.eq_false_iff.mpr c25
        subst c25
        have H1 : (seedcornref37_Same.l0 kj2 0 a0_0 a0_1 a0_2 a0_3 a0_4 l0_5 l0_6 a0_7 a1_0 a1_1 a1_2 a1_3 a1_4 l1_5 l1_6 a1_7) = some r := by rw [if_neg (show ¬ (false = true) by decide)] at H; exact H
        clear H
        have H := H1
        clear H1
        have H' := Aside0.mk H
        clear H
        go_wp2
        repeat (go_quiet (fail); try go_wp2)
        go_loopg [5] kj2 (fun kq v5 w' => ∃ (x5_2 : Int), v5 = .int .i64 x5_2 ∧ Aside0 (seedcornref37_Same.l0 kq x5_2 a0_0 a0_1 a0_2 a0_3 a0_4 l0_5 l0_6 a0_7 a1_0 a1_1 a1_2 a1_3 a1_4 l1_5 l1_6 a1_7 = some r) ∧ Aside0 (kq ≤ kj2) ∧ Aside0 (w'.heap[gb442]? = some (.cells #[.int .i64 a0_0, .int .u32 a0_1, .int .u32 a0_2, .int .u32 a0_3, .int .u32 a0_4, (.slice A0_5 l0_5.length c0_5), (.slice A0_6 l0_6.length c0_6), .int .i64 a0_7] 46 (0, 0))) ∧ Aside0 (w'.heap[gb443]? = some (.cells #[.int .i64 a1_0, .int .u32 a1_1, .int .u32 a1_2, .int .u32 a1_3, .int .u32 a1_4, (.slice A1_5 l1_5.length c1_5), (.slice A1_6 l1_6.length c1_6), .int .i64 a1_7] 46 (0, 0))) ∧ Aside0 (Below w.heap.size w w'))
        case atStart => exact ⟨(0), (by first | rfl | (simp; done) | (simp [*]; done)), H', ⟨Nat.le_refl _⟩, ⟨by (with_reducible repeat (first | refine blk_drewN ?_ _ | refine blk_drew ?_ | refine blk_alloc ?_ _)); exact BK442.out⟩, ⟨by (with_reducible repeat (first | refine blk_drewN ?_ _ | refine blk_drew ?_ | refine blk_alloc ?_ _)); exact BK443.out⟩, ⟨by repeat (first | (with_reducible first | exact HB.out | apply below_alloc | apply pw_below_drewN | apply below_drew1 | refine below_set ?_ GE442.out | refine below_set ?_ GE443.out) | exact HB.out)⟩⟩
        case round =>
          clear H'
          try clear c1
          try clear c2
          try clear p2
          try clear c3
          try clear c6
          try clear c6b0
          try clear c6b1
          try clear c7
          try clear c7b0
          try clear c8
          try clear c11
          try clear c11b0
          try clear c11b1
          try clear c12
          try clear c12b0
          try clear c12b1
          try clear c12b2
          try clear c13
          try clear c16
          try clear c19
          try clear c22
          try clear c25
          try clear hcz10_0 hcz10_1 hcz10_2 hcz10_3 hcz10_4 hcz10_5 hcz10_6 hcz10_7
          try clear hcz14_0 hcz14_1 hcz14_2 hcz14_3 hcz14_4 hcz14_5 hcz14_6 hcz14_7
          try clear hcz15_0 hcz15_1 hcz15_2 hcz15_3 hcz15_4 hcz15_5 hcz15_6 hcz15_7
          try clear hcz17_0 hcz17_1 hcz17_2 hcz17_3 hcz17_4 hcz17_5 hcz17_6 hcz17_7
          try clear hcz18_0 hcz18_1 hcz18_2 hcz18_3 hcz18_4 hcz18_5 hcz18_6 hcz18_7
          try clear hcz20_0 hcz20_1 hcz20_2 hcz20_3 hcz20_4 hcz20_5 hcz20_6 hcz20_7
          try clear hcz21_0 hcz21_1 hcz21_2 hcz21_3 hcz21_4 hcz21_5 hcz21_6 hcz21_7
          try clear hcz23_0 hcz23_1 hcz23_2 hcz23_3 hcz23_4 hcz23_5 hcz23_6 hcz23_7
          try clear hcz24_0 hcz24_1 hcz24_2 hcz24_3 hcz24_4 hcz24_5 hcz24_6 hcz24_7
          try clear hcz9_0 hcz9_1 hcz9_2 hcz9_3 hcz9_4 hcz9_5 hcz9_6 hcz9_7
          try clear hfz10_0 hfz10_1 hfz10_2 hfz10_3 hfz10_4 hfz10_5 hfz10_6 hfz10_7
          try clear hfz14_0 hfz14_1 hfz14_2 hfz14_3 hfz14_4 hfz14_5 hfz14_6 hfz14_7
          try clear hfz15_0 hfz15_1 hfz15_2 hfz15_3 hfz15_4 hfz15_5 hfz15_6 hfz15_7
          try clear hfz17_0 hfz17_1 hfz17_2 hfz17_3 hfz17_4 hfz17_5 hfz17_6 hfz17_7
          try clear hfz18_0 hfz18_1 hfz18_2 hfz18_3 hfz18_4 hfz18_5 hfz18_6 hfz18_7
          try clear hfz20_0 hfz20_1 hfz20_2 hfz20_3 hfz20_4 hfz20_5 hfz20_6 hfz20_7
          try clear hfz21_0 hfz21_1 hfz21_2 hfz21_3 hfz21_4 hfz21_5 hfz21_6 hfz21_7
          try clear hfz23_0 hfz23_1 hfz23_2 hfz23_3 hfz23_4 hfz23_5 hfz23_6 hfz23_7
          try clear hfz24_0 hfz24_1 hfz24_2 hfz24_3 hfz24_4 hfz24_5 hfz24_6 hfz24_7
          try clear hfz9_0 hfz9_1 hfz9_2 hfz9_3 hfz9_4 hfz9_5 hfz9_6 hfz9_7
          try clear p2
          obtain ⟨x5_2, rfl, HA, HK2, BK442, BK443, HB⟩ := hrel
          cases gk with
          | zero => exact absurd HA.out (by simp [seedcornref37_Same.l0])
          | succ k2 =>
            have H := HA.out
            clear HA
            simp only [seedcornref37_Same.l0] at H
            by_cases c26 : x5_2 < (l0_5.length : Int)
            · rw [if_pos c26] at H
              have c26b0 : decide (x5_2 < (l0_5.length : Int)) = true := decide_eq_true c26
              clear c26
              by_cases c27 : 0 ≤ x5_2
              · rw [if_pos c27] at H
                have c27b0 : decide (0 ≤ x5_2) = true := decide_eq_true c27
                clear c27
                by_cases c28 : x5_2 < (l1_5.length : Int)
                · rw [if_pos c28] at H
                  have c28b0 : decide (x5_2 < (l1_5.length : Int)) = true := decide_eq_true c28
                  clear c28
                  by_cases c29 : (rd l0_5 x5_2) = (rd l1_5 x5_2)
                  · rw [if_pos c29] at H
                    have c29b0 : ((rd l0_5 x5_2) == (rd l1_5 x5_2)) = true := beq_iff_eq.mpr c29
                    have c29b1 : ((rd l0_5 x5_2) != (rd l1_5 x5_2)) = false := bne_eq_false_iff_eq.mpr c29
                    clear c29
                    have H' := Aside0.mk H
                    clear H
                    have hnb30 := NB442_443.out
                    have hnc30 := NB443_442.out
                    obtain ⟨hcz31_0, hcz31_1, hcz31_2, hcz31_3, hcz31_4, hcz31_5, hcz31_6, hcz31_7, hfz31_0, hfz31_1, hfz31_2, hfz31_3, hfz31_4, hfz31_5, hfz31_6, hfz31_7⟩ := HX.cells8 BK442.out
                    have p444 : 0 ≤ (x5_2 : Int) := of_decide_eq_true (by first | (with_reducible assumption) | assumption)
                    have q444 : x5_2 < (l0_5.length : Int) := of_decide_eq_true (by first | (with_reducible assumption) | assumption)
                    obtain ⟨ad444, e444, hx444_0⟩ := Kd.at_int HR0_5.out x5_2 p444 q444
                    cases e444
                    replace hx444_0 := (HB.out.cell (World.block_lt_of_cell? w _ hx444_0)).trans hx444_0
                    replace p444 := eq_true p444
                    replace q444 := eq_true q444
                    obtain ⟨hcz32_0, hcz32_1, hcz32_2, hcz32_3, hcz32_4, hcz32_5, hcz32_6, hcz32_7, hfz32_0, hfz32_1, hfz32_2, hfz32_3, hfz32_4, hfz32_5, hfz32_6, hfz32_7⟩ := HX.cells8 BK443.out
                    have p445 : 0 ≤ (x5_2 : Int) := of_decide_eq_true (by first | (with_reducible assumption) | assumption)
                    have q445 : x5_2 < (l1_5.length : Int) := of_decide_eq_true (by first | (with_reducible assumption) | assumption)
                    obtain ⟨ad445, e445, hx445_0⟩ := Kd.at_int HR1_5.out x5_2 p445 q445
                    cases e445
                    replace hx445_0 := (HB.out.cell (World.block_lt_of_cell? w _ hx445_0)).trans hx445_0
                    replace p445 := eq_true p445
                    replace q445 := eq_true q445
                    go_wp2
                    repeat (go_quiet (fail); try go_wp2)
                    go_roundg k2
                    case measure => have := HJ2.out; have := HK2.out; omega
                    case rel => exact ⟨(wrap64 (x5_2 + 1)), (by first | rfl | (simp; done) | (simp [*]; done)), H', ⟨by have := HJ2.out; have := HK2.out; omega⟩, ⟨by (with_reducible repeat (first | refine blk_drewN ?_ _ | refine blk_drew ?_ | refine blk_alloc ?_ _)); exact BK442.out⟩, ⟨by (with_reducible repeat (first | refine blk_drewN ?_ _ | refine blk_drew ?_ | refine blk_alloc ?_ _)); exact BK443.out⟩, ⟨by repeat (first | (with_reducible first | exact HB.out | apply below_alloc | apply pw_below_drewN | apply below_drew1 | refine below_set ?_ GE442.out | refine below_set ?_ GE443.out) | exact HB.out)⟩⟩
                  · rw [if_neg c29] at H
                    have c29b0 : ((rd l0_5 x5_2) == (rd l1_5 x5_2)) = false := beq_eq_false_iff_ne.mpr c29
                    have c29b1 : ((rd l0_5 x5_2) != (rd l1_5 x5_2)) = true := bne_iff_ne.mpr c29
                    obtain rfl := Option.some.inj H
                    have hnb33 := NB442_443.out
                    have hnc33 := NB443_442.out
                    obtain ⟨hcz34_0, hcz34_1, hcz34_2, hcz34_3, hcz34_4, hcz34_5, hcz34_6, hcz34_7, hfz34_0, hfz34_1, hfz34_2, hfz34_3, hfz34_4, hfz34_5, hfz34_6, hfz34_7⟩ := HX.cells8 BK442.out
                    have p444 : 0 ≤ (x5_2 : Int) := of_decide_eq_true (by first | (with_reducible assumption) | assumption)
                    have q444 : x5_2 < (l0_5.length : Int) := of_decide_eq_true (by first | (with_reducible assumption) | assumption)
                    obtain ⟨ad444, e444, hx444_0⟩ := Kd.at_int HR0_5.out x5_2 p444 q444
                    cases e444
                    replace hx444_0 := (HB.out.cell (World.block_lt_of_cell? w _ hx444_0)).trans hx444_0
                    replace p444 := eq_true p444
                    replace q444 := eq_true q444
                    obtain ⟨hcz35_0, hcz35_1, hcz35_2, hcz35_3, hcz35_4, hcz35_5, hcz35_6, hcz35_7, hfz35_0, hfz35_1, hfz35_2, hfz35_3, hfz35_4, hfz35_5, hfz35_6, hfz35_7⟩ := HX.cells8 BK443.out
                    have p445 : 0 ≤ (x5_2 : Int) := of_decide_eq_true (by first | (with_reducible assumption) | assumption)
                    have q445 : x5_2 < (l1_5.length : Int) := of_decide_eq_true (by first | (with_reducible assumption) | assumption)
                    obtain ⟨ad445, e445, hx445_0⟩ := Kd.at_int HR1_5.out x5_2 p445 q445
                    cases e445
                    replace hx445_0 := (HB.out.cell (World.block_lt_of_cell? w _ hx445_0)).trans hx445_0
                    replace p445 := eq_true p445
                    replace q445 := eq_true q445
                    go_wp2
                    repeat (go_quiet (fail); try go_wp2)
                    go_ret
                    exact ⟨by first | rfl | (simp [errW_none, errW_some] <;> rfl) | (simp [*, errW_none, errW_some] <;> rfl), by repeat (first | (with_reducible first | exact HB.out | apply below_alloc | apply pw_below_drewN | apply below_drew1 | refine below_set ?_ GE442.out | refine below_set ?_ GE443.out) | exact HB.out)⟩
                · rw [if_neg c28] at H
                  exact absurd H (by simp)
              · rw [if_neg c27] at H
                exact absurd H (by simp)
            · rw [if_neg c26] at H
              have c26b0 : decide (x5_2 < (l0_5.length : Int)) = false := decide_eq_false c26
              clear c26
              have H' := Aside0.mk H
              clear H
              have hnb36 := NB442_443.out
              have hnc36 := NB443_442.out
              obtain ⟨hcz37_0, hcz37_1, hcz37_2, hcz37_3, hcz37_4, hcz37_5, hcz37_6, hcz37_7, hfz37_0, hfz37_1, hfz37_2, hfz37_3, hfz37_4, hfz37_5, hfz37_6, hfz37_7⟩ := HX.cells8 BK442.out
              go_wp2
              repeat (go_quiet (fail); try go_wp2)
              go_loopg [6] k2 (fun kq v6 w' => ∃ (x6_3 : Int), v6 = .int .i64 x6_3 ∧ Aside0 (seedcornref37_Same.l1 kq x6_3 a0_0 a0_1 a0_2 a0_3 a0_4 l0_5 l0_6 a0_7 a1_0 a1_1 a1_2 a1_3 a1_4 l1_5 l1_6 a1_7 = some r) ∧ Aside0 (kq ≤ k2) ∧ Aside0 (w'.heap[gb442]? = some (.cells #[.int .i64 a0_0, .int .u32 a0_1, .int .u32 a0_2, .int .u32 a0_3, .int .u32 a0_4, (.slice A0_5 l0_5.length c0_5), (.slice A0_6 l0_6.length c0_6), .int .i64 a0_7] 46 (0, 0))) ∧ Aside0 (w'.heap[gb443]? = some (.cells #[.int .i64 a1_0, .int .u32 a1_1, .int .u32 a1_2, .int .u32 a1_3, .int .u32 a1_4, (.slice A1_5 l1_5.length c1_5), (.slice A1_6 l1_6.length c1_6), .int .i64 a1_7] 46 (0, 0))) ∧ Aside0 (Below w.heap.size w w'))
              case atStart => exact ⟨(0), (by first | rfl | (simp; done) | (simp [*]; done)), H', ⟨Nat.le_refl _⟩, ⟨by (with_reducible repeat (first | refine blk_drewN ?_ _ | refine blk_drew ?_ | refine blk_alloc ?_ _)); exact BK442.out⟩, ⟨by (with_reducible repeat (first | refine blk_drewN ?_ _ | refine blk_drew ?_ | refine blk_alloc ?_ _)); exact BK443.out⟩, ⟨by repeat (first | (with_reducible first | exact HB.out | apply below_alloc | apply pw_below_drewN | apply below_drew1 | refine below_set ?_ GE442.out | refine below_set ?_ GE443.out) | exact HB.out)⟩⟩
              case round =>
                clear H'
                try clear c1
                try clear c2
                try clear p2
                try clear c3
                try clear p4
                try clear q4
                try clear hx4
                try clear c6
                try clear c6b0
                try clear c6b1
                try clear p6
                try clear c7
                try clear c7b0
                try clear c8
                try clear c11
                try clear c11b0
                try clear c11b1
                try clear c12
                try clear c12b0
                try clear c12b1
                try clear c12b2
                try clear c13
                try clear c16
                try clear c19
                try clear c22
                try clear c25
                try clear c26
                try clear c26b0
                try clear c27
                try clear c27b0
                try clear c28
                try clear c28b0
                try clear c29
                try clear c29b0
                try clear c29b1
                try clear c30
                try clear c33
                try clear c36
                try clear hcz10_0 hcz10_1 hcz10_2 hcz10_3 hcz10_4 hcz10_5 hcz10_6 hcz10_7
                try clear hcz14_0 hcz14_1 hcz14_2 hcz14_3 hcz14_4 hcz14_5 hcz14_6 hcz14_7
                try clear hcz15_0 hcz15_1 hcz15_2 hcz15_3 hcz15_4 hcz15_5 hcz15_6 hcz15_7
                try clear hcz17_0 hcz17_1 hcz17_2 hcz17_3 hcz17_4 hcz17_5 hcz17_6 hcz17_7
                try clear hcz18_0 hcz18_1 hcz18_2 hcz18_3 hcz18_4 hcz18_5 hcz18_6 hcz18_7
                try clear hcz20_0 hcz20_1 hcz20_2 hcz20_3 hcz20_4 hcz20_5 hcz20_6 hcz20_7
                try clear hcz21_0 hcz21_1 hcz21_2 hcz21_3 hcz21_4 hcz21_5 hcz21_6 hcz21_7
                try clear hcz23_0 hcz23_1 hcz23_2 hcz23_3 hcz23_4 hcz23_5 hcz23_6 hcz23_7
                try clear hcz24_0 hcz24_1 hcz24_2 hcz24_3 hcz24_4 hcz24_5 hcz24_6 hcz24_7
                try clear hcz31_0 hcz31_1 hcz31_2 hcz31_3 hcz31_4 hcz31_5 hcz31_6 hcz31_7
                try clear hcz32_0 hcz32_1 hcz32_2 hcz32_3 hcz32_4 hcz32_5 hcz32_6 hcz32_7
                try clear hcz34_0 hcz34_1 hcz34_2 hcz34_3 hcz34_4 hcz34_5 hcz34_6 hcz34_7
                try clear hcz35_0 hcz35_1 hcz35_2 hcz35_3 hcz35_4 hcz35_5 hcz35_6 hcz35_7
                try clear hcz37_0 hcz37_1 hcz37_2 hcz37_3 hcz37_4 hcz37_5 hcz37_6 hcz37_7
                try clear hcz9_0 hcz9_1 hcz9_2 hcz9_3 hcz9_4 hcz9_5 hcz9_6 hcz9_7
                try clear hfz10_0 hfz10_1 hfz10_2 hfz10_3 hfz10_4 hfz10_5 hfz10_6 hfz10_7
                try clear hfz14_0 hfz14_1 hfz14_2 hfz14_3 hfz14_4 hfz14_5 hfz14_6 hfz14_7
                try clear hfz15_0 hfz15_1 hfz15_2 hfz15_3 hfz15_4 hfz15_5 hfz15_6 hfz15_7
                try clear hfz17_0 hfz17_1 hfz17_2 hfz17_3 hfz17_4 hfz17_5 hfz17_6 hfz17_7
                try clear hfz18_0 hfz18_1 hfz18_2 hfz18_3 hfz18_4 hfz18_5 hfz18_6 hfz18_7
                try clear hfz20_0 hfz20_1 hfz20_2 hfz20_3 hfz20_4 hfz20_5 hfz20_6 hfz20_7
                try clear hfz21_0 hfz21_1 hfz21_2 hfz21_3 hfz21_4 hfz21_5 hfz21_6 hfz21_7
                try clear hfz23_0 hfz23_1 hfz23_2 hfz23_3 hfz23_4 hfz23_5 hfz23_6 hfz23_7
                try clear hfz24_0 hfz24_1 hfz24_2 hfz24_3 hfz24_4 hfz24_5 hfz24_6 hfz24_7
                try clear hfz31_0 hfz31_1 hfz31_2 hfz31_3 hfz31_4 hfz31_5 hfz31_6 hfz31_7
                try clear hfz32_0 hfz32_1 hfz32_2 hfz32_3 hfz32_4 hfz32_5 hfz32_6 hfz32_7
                try clear hfz34_0 hfz34_1 hfz34_2 hfz34_3 hfz34_4 hfz34_5 hfz34_6 hfz34_7
                try clear hfz35_0 hfz35_1 hfz35_2 hfz35_3 hfz35_4 hfz35_5 hfz35_6 hfz35_7
                try clear hfz37_0 hfz37_1 hfz37_2 hfz37_3 hfz37_4 hfz37_5 hfz37_6 hfz37_7
                try clear hfz9_0 hfz9_1 hfz9_2 hfz9_3 hfz9_4 hfz9_5 hfz9_6 hfz9_7
                try clear hx444_0
                try clear hx445_0
                try clear p2
                try clear p444
                try clear p445
                try clear q444
                try clear q445
                obtain ⟨x6_3, rfl, HA, HK3, BK442, BK443, HB⟩ := hrel
                cases gk with
                | zero => exact absurd HA.out (by simp [seedcornref37_Same.l1])
                | succ k3 =>
                  have H := HA.out
                  clear HA
                  simp only [seedcornref37_Same.l1] at H
                  by_cases c38 : x6_3 < (l0_6.length : Int)
                  · rw [if_pos c38] at H
                    have c38b0 : decide (x6_3 < (l0_6.length : Int)) = true := decide_eq_true c38
                    clear c38
                    by_cases c39 : 0 ≤ x6_3
                    · rw [if_pos c39] at H
                      have c39b0 : decide (0 ≤ x6_3) = true := decide_eq_true c39
                      clear c39
                      by_cases c40 : x6_3 < (l1_6.length : Int)
                      · rw [if_pos c40] at H
                        have c40b0 : decide (x6_3 < (l1_6.length : Int)) = true := decide_eq_true c40
                        clear c40
                        by_cases c41 : (!(((rd_T24 l0_6 x6_3).f0) == ((rd_T24 l1_6 x6_3).f0)) || (!(((rd_T24 l0_6 x6_3).f1) == ((rd_T24 l1_6 x6_3).f1)) || (!(((rd_T24 l0_6 x6_3).f2) == ((rd_T24 l1_6 x6_3).f2)) || (!(((rd_T24 l0_6 x6_3).f3) == ((rd_T24 l1_6 x6_3).f3)))))) = true
                        · rw [if_pos c41] at H
                          have c41b0 : (!(((rd_T24 l0_6 x6_3).f0) == ((rd_T24 l1_6 x6_3).f0)) || (!(((rd_T24 l0_6 x6_3).f1) == ((rd_T24 l1_6 x6_3).f1)) || (!(((rd_T24 l0_6 x6_3).f2) == ((rd_T24 l1_6 x6_3).f2)) || (!(((rd_T24 l0_6 x6_3).f3) == ((rd_T24 l1_6 x6_3).f3)))))) = true := c41
                          clear c41
                          obtain rfl := Option.some.inj H
                          have hnb42 := NB442_443.out
                          have hnc42 := NB443_442.out
                          obtain ⟨hcz43_0, hcz43_1, hcz43_2, hcz43_3, hcz43_4, hcz43_5, hcz43_6, hcz43_7, hfz43_0, hfz43_1, hfz43_2, hfz43_3, hfz43_4, hfz43_5, hfz43_6, hfz43_7⟩ := HX.cells8 BK442.out
                          have p446 : 0 ≤ (x6_3 : Int) := of_decide_eq_true (by first | (with_reducible assumption) | assumption)
                          have q446 : x6_3 < (l0_6.length : Int) := of_decide_eq_true (by first | (with_reducible assumption) | assumption)
                          obtain ⟨ad446, e446, hx446_0, hx446_1, hx446_2, hx446_3⟩ := at_T24 HR0_6.out x6_3 p446 q446
                          cases e446
                          replace hx446_0 := (HB.out.cell (World.block_lt_of_cell? w _ hx446_0)).trans hx446_0
                          replace hx446_1 := (HB.out.cell (World.block_lt_of_cell? w _ hx446_1)).trans hx446_1
                          replace hx446_2 := (HB.out.cell (World.block_lt_of_cell? w _ hx446_2)).trans hx446_2
                          replace hx446_3 := (HB.out.cell (World.block_lt_of_cell? w _ hx446_3)).trans hx446_3
                          replace p446 := eq_true p446
                          replace q446 := eq_true q446
                          obtain ⟨hcz44_0, hcz44_1, hcz44_2, hcz44_3, hcz44_4, hcz44_5, hcz44_6, hcz44_7, hfz44_0, hfz44_1, hfz44_2, hfz44_3, hfz44_4, hfz44_5, hfz44_6, hfz44_7⟩ := HX.cells8 BK443.out
                          have p447 : 0 ≤ (x6_3 : Int) := of_decide_eq_true (by first | (with_reducible assumption) | assumption)
                          have q447 : x6_3 < (l1_6.length : Int) := of_decide_eq_true (by first | (with_reducible assumption) | assumption)
                          obtain ⟨ad447, e447, hx447_0, hx447_1, hx447_2, hx447_3⟩ := at_T24 HR1_6.out x6_3 p447 q447
                          cases e447
                          replace hx447_0 := (HB.out.cell (World.block_lt_of_cell? w _ hx447_0)).trans hx447_0
                          replace hx447_1 := (HB.out.cell (World.block_lt_of_cell? w _ hx447_1)).trans hx447_1
                          replace hx447_2 := (HB.out.cell (World.block_lt_of_cell? w _ hx447_2)).trans hx447_2
                          replace hx447_3 := (HB.out.cell (World.block_lt_of_cell? w _ hx447_3)).trans hx447_3
                          replace p447 := eq_true p447
                          replace q447 := eq_true q447
                          go_wp2
                          repeat (go_quiet (fail); try go_wp2)
                          go_ret
                          exact ⟨by first | rfl | (simp [errW_none, errW_some] <;> rfl) | (simp [*, errW_none, errW_some] <;> rfl), by repeat (first | (with_reducible first | exact HB.out | apply below_alloc | apply pw_below_drewN | apply below_drew1 | refine below_set ?_ GE442.out | refine below_set ?_ GE443.out) | exact HB.out)⟩
                        · rw [if_neg c41] at H
                          have c41b0 : (!(((rd_T24 l0_6 x6_3).f0) == ((rd_T24 l1_6 x6_3).f0)) || (!(((rd_T24 l0_6 x6_3).f1) == ((rd_T24 l1_6 x6_3).f1)) || (!(((rd_T24 l0_6 x6_3).f2) == ((rd_T24 l1_6 x6_3).f2)) || (!(((rd_T24 l0_6 x6_3).f3) == ((rd_T24 l1_6 x6_3).f3)))))) = false := by simpa using c41
                          clear c41
                          have H' := Aside0.mk H
                          clear H
                          have hnb45 := NB442_443.out
                          have hnc45 := NB443_442.out
                          obtain ⟨hcz46_0, hcz46_1, hcz46_2, hcz46_3, hcz46_4, hcz46_5, hcz46_6, hcz46_7, hfz46_0, hfz46_1, hfz46_2, hfz46_3, hfz46_4, hfz46_5, hfz46_6, hfz46_7⟩ := HX.cells8 BK442.out
                          have p446 : 0 ≤ (x6_3 : Int) := of_decide_eq_true (by first | (with_reducible assumption) | assumption)
                          have q446 : x6_3 < (l0_6.length : Int) := of_decide_eq_true (by first | (with_reducible assumption) | assumption)
                          obtain ⟨ad446, e446, hx446_0, hx446_1, hx446_2, hx446_3⟩ := at_T24 HR0_6.out x6_3 p446 q446
                          cases e446
                          replace hx446_0 := (HB.out.cell (World.block_lt_of_cell? w _ hx446_0)).trans hx446_0
                          replace hx446_1 := (HB.out.cell (World.block_lt_of_cell? w _ hx446_1)).trans hx446_1
                          replace hx446_2 := (HB.out.cell (World.block_lt_of_cell? w _ hx446_2)).trans hx446_2
                          replace hx446_3 := (HB.out.cell (World.block_lt_of_cell? w _ hx446_3)).trans hx446_3
                          replace p446 := eq_true p446
                          replace q446 := eq_true q446
                          obtain ⟨hcz47_0, hcz47_1, hcz47_2, hcz47_3, hcz47_4, hcz47_5, hcz47_6, hcz47_7, hfz47_0, hfz47_1, hfz47_2, hfz47_3, hfz47_4, hfz47_5, hfz47_6, hfz47_7⟩ := HX.cells8 BK443.out
                          have p447 : 0 ≤ (x6_3 : Int) := of_decide_eq_true (by first | (with_reducible assumption) | assumption)
                          have q447 : x6_3 < (l1_6.length : Int) := of_decide_eq_true (by first | (with_reducible assumption) | assumption)
                          obtain ⟨ad447, e447, hx447_0, hx447_1, hx447_2, hx447_3⟩ := at_T24 HR1_6.out x6_3 p447 q447
                          cases e447
                          replace hx447_0 := (HB.out.cell (World.block_lt_of_cell? w _ hx447_0)).trans hx447_0
                          replace hx447_1 := (HB.out.cell (World.block_lt_of_cell? w _ hx447_1)).trans hx447_1
                          replace hx447_2 := (HB.out.cell (World.block_lt_of_cell? w _ hx447_2)).trans hx447_2
                          replace hx447_3 := (HB.out.cell (World.block_lt_of_cell? w _ hx447_3)).trans hx447_3
                          replace p447 := eq_true p447
                          replace q447 := eq_true q447
                          go_wp2
                          repeat (go_quiet (fail); try go_wp2)
                          go_roundg k3
                          case measure => have := HJ2.out; have := HK2.out; have := HK3.out; omega
                          case rel => exact ⟨(wrap64 (x6_3 + 1)), (by first | rfl | (simp; done) | (simp [*]; done)), H', ⟨by have := HJ2.out; have := HK2.out; have := HK3.out; omega⟩, ⟨by (with_reducible repeat (first | refine blk_drewN ?_ _ | refine blk_drew ?_ | refine blk_alloc ?_ _)); exact BK442.out⟩, ⟨by (with_reducible repeat (first | refine blk_drewN ?_ _ | refine blk_drew ?_ | refine blk_alloc ?_ _)); exact BK443.out⟩, ⟨by repeat (first | (with_reducible first | exact HB.out | apply below_alloc | apply pw_below_drewN | apply below_drew1 | refine below_set ?_ GE442.out | refine below_set ?_ GE443.out) | exact HB.out)⟩⟩
                      · rw [if_neg c40] at H
                        exact absurd H (by simp)
                    · rw [if_neg c39] at H
                      exact absurd H (by simp)
                  · rw [if_neg c38] at H
                    have c38b0 : decide (x6_3 < (l0_6.length : Int)) = false := decide_eq_false c38
                    clear c38
                    obtain rfl := Option.some.inj H
                    have hnb48 := NB442_443.out
                    have hnc48 := NB443_442.out
                    obtain ⟨hcz49_0, hcz49_1, hcz49_2, hcz49_3, hcz49_4, hcz49_5, hcz49_6, hcz49_7, hfz49_0, hfz49_1, hfz49_2, hfz49_3, hfz49_4, hfz49_5, hfz49_6, hfz49_7⟩ := HX.cells8 BK442.out
                    go_wp2
                    repeat (go_quiet (fail); try go_wp2)
                    go_ret
                    exact ⟨by first | rfl | (simp [errW_none, errW_some] <;> rfl) | (simp [*, errW_none, errW_some] <;> rfl), by repeat (first | (with_reducible first | exact HB.out | apply below_alloc | apply pw_below_drewN | apply below_drew1 | refine below_set ?_ GE442.out | refine below_set ?_ GE443.out) | exact HB.out)⟩


end

end Go.Proofs.YthimgiphlenjdaaDoor.PI
