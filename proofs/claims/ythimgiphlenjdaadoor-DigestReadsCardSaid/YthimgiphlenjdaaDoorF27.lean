/- Contracts of the Go functions of this seat, each over a Lean function of the same answers; written by a program of this session's. -/
import Derived.Test.YthimgiphlenjdaaDoorPIx0
import Derived.Test.YthimgiphlenjdaaDoorHWords
import Derived.Test.YthimgiphlenjdaaDoorHDig
import Derived.Test.YthimgiphlenjdaaDoorF56
namespace Go.Proofs.YthimgiphlenjdaaDoor.PI
open Go.RowKit Go.Proofs.YthimgiphlenjdaaDoorW.PrintWords Go.Proofs.YthimgiphlenjdaaDoorW.PrintLast Go.Proofs.YthimgiphlenjdaaDoorW.PrintMore
attribute [local go_sem] max2_int min2_int max_two min_two max_three min_three max_four min_four   -- for this text's walks alone
open HX
set_option linter.unusedVariables false
set_option linter.unusedSimpArgs false

attribute [local go_sem high] eqA24
/-! ### seedcornref03_Parse: function 27 -/
-- import HDig
def seedcornref03_Parse.f (a0 : ByteArray) : Option (Int × Int × Int × Int × Int) :=
  (seedcornref02_Parse.f (8 * a0.size + 40) a0).bind fun p => if p.2.2 = 0 ∧ p.1.size = 16 then some (pw p.1 0 16, pw p.1 1 16, pw p.1 2 16, pw p.1 3 16, 0) else some (0, 0, 0, 0, 3)
set_option maxHeartbeats 8000000 in
set_option maxRecDepth 100000 in
theorem seedcornref03_Parse.calls (a0 : ByteArray) (r1 : Int) (r2 : Int) (r3 : Int) (r4 : Int) (r5 : Int) (w : World) (h : seedcornref03_Parse.f a0 = some (r1, r2, r3, r4, r5)) :
    Calls Tryd.prog 27 #[.string a0] w fun e w' => e = .returned (.tuple #[.agg #[.int .u32 r1, .int .u32 r2, .int .u32 r3, .int .u32 r4], .int .i64 r5]) ∧ Below w.heap.size w w' := by
  have hu24 := Tryd.underlying24
  have HB := Aside0.mk (Below.refl w.heap.size w)
  unfold seedcornref03_Parse.f at h
  replace h := Option.bind_eq_some_iff.mp h
  obtain ⟨⟨b, q, e1⟩, hA, h⟩ := h
  have A := Aside0.mk hA
  have HH := Aside0.mk h
  clear hA
  clear h
  by_cases c1 : e1 = 0 ∧ b.size = 16
  · obtain ⟨rfl, hs⟩ := c1
    have HV : Aside0 ((pw b 0 16, pw b 1 16, pw b 2 16, pw b 3 16, (0 : Int)) = (r1, r2, r3, r4, r5)) := by
      have h := HH.out
      rw [if_pos ⟨rfl, hs⟩] at h
      exact ⟨Option.some.inj h⟩
    clear HH
    have HS := Aside0.mk hs
    have hsz : (b.size : Int) = 16 := by omega
    clear hs
    go_enter Tryd.func27, Tryd.ntmps27
    go_wp2_with (first | ((with_reducible refine gate_dst (N := 2) rfl ?_); refine box_event ?hg (N := 2) ?hd (cs := #[.int .u32 0, .int .u32 0, .int .u32 0, .int .u32 0]) (t := 24) ?hr ?_; (case hd => rfl); (case hg => rfl); (case hr => first | (go_simp; done) | (go_simp; rfl)); intro g0 hg w2 hbox hb; have n0_ := Aside0.mk (below_step (by repeat (first | (with_reducible first | exact HB.out | apply below_alloc | apply pw_below_drewN | apply below_drew1) | exact HB.out)) hb); have n1_ := Aside0.mk hbox; have n2_ := Aside0.mk ((by rw [hg]; exact (below_size HB.out)) : w.heap.size ≤ g0); clear HB; have HB := n0_; have Kg0 := n1_; have Gg0 := n2_; clear n0_ n1_ n2_; clear hb hbox hg) | ((with_reducible refine gate_callee (f := 56) rfl ?_); refine goesL_ (some 11) rfl rfl Tryd.func56 (by kernel_rfl) rfl #[.string a0] rfl (by (try simp only [List.map_toArray, List.map_cons, List.map_nil]); first | done | rfl) ?_; (with_reducible refine (seedcornref02_Parse.calls (8 * a0.size + 40) a0 b q 0 _ A.out).mono ?_); rintro e w3 ⟨rfl, hb⟩; refine ⟨_, rfl, ?_⟩; have n0_ := Aside0.mk (below_step (by repeat (first | (with_reducible first | exact HB.out | apply below_alloc | apply pw_below_drewN | apply below_drew1) | exact HB.out)) hb); have n1_ := Aside0.mk (blk_below Kg0.out hb); clear HB Kg0; have HB := n0_; have Kg0 := n1_; clear n0_ n1_ hb; have cz_0 : w3.cell? ⟨g0, 0, none⟩ = some (.int .u32 0) := (blk_cell Kg0.out 0).trans rfl; have fz_0 := blk_frozen Kg0.out 0; have cz_1 : w3.cell? ⟨g0, 1, none⟩ = some (.int .u32 0) := (blk_cell Kg0.out 1).trans rfl; have fz_1 := blk_frozen Kg0.out 1; have cz_2 : w3.cell? ⟨g0, 2, none⟩ = some (.int .u32 0) := (blk_cell Kg0.out 2).trans rfl; have fz_2 := blk_frozen Kg0.out 2; have cz_3 : w3.cell? ⟨g0, 3, none⟩ = some (.int .u32 0) := (blk_cell Kg0.out 3).trans rfl; have fz_3 := blk_frozen Kg0.out 3))
    clear cz_0 fz_0 cz_1 fz_1 cz_2 fz_2 cz_3 fz_3
    have lg0 := blk_lt Kg0.out
    have hsz := below_size HB.out
    generalize hgn : w3.heap.size = g1 at lg0 hsz ⊢
    have Ng0g1 : Aside0 (g0 ≠ g1) := ⟨by omega⟩
    have Gg1 : Aside0 (w.heap.size ≤ g1) := ⟨by omega⟩
    have HGg1 := Aside0.mk hgn
    clear hsz hgn lg0
    refine wp_gen (fun w' => Below w.heap.size w w' ∧ w'.heap[g0]? = some (.cells #[.int .u32 0, .int .u32 0, .int .u32 0, .int .u32 0] 24 (0, 0)) ∧ w'.heap[g1]? = some (.cells #[.int .u32 0, .int .u32 0, .int .u32 0, .int .u32 0] 24 (0, 0))) ⟨(by repeat (first | (with_reducible first | exact HB.out | apply below_alloc | apply pw_below_drewN | apply below_drew1 | refine below_set ?_ Gg0.out | refine below_set ?_ Gg1.out) | exact HB.out)), (Eq.trans (by (with_reducible repeat (first | exact Kg0.out | apply blk_set | apply far_put Ng0g1.out | apply far_put Ng0g1.out.symm | apply blk_drewN | apply blk_drew | apply blk_alloc))) (by first | rfl)), (Eq.trans (by (with_reducible repeat (first | exact Kg1.out | exact blk_newAt HGg1.out | apply blk_set | apply far_put Ng0g1.out | apply far_put Ng0g1.out.symm | apply blk_drewN | apply blk_drew | apply blk_alloc))) (by first | rfl))⟩ ?_
    try clear K1
    intro wA hF
    clear HB
    obtain ⟨n0_, n1_, n2_⟩ := hF
    try clear Kg0
    try clear Kg1
    have HB := Aside0.mk n0_
    have Kg0 := Aside0.mk n1_
    have Kg1 := Aside0.mk n2_
    clear n0_ n1_ n2_
    have fg0g1 : (g0 = g1) = False := eq_false Ng0g1.out
    have fg1g0 : (g1 = g0) = False := eq_false Ng0g1.out.symm
    go_loopg [8] 16 (fun kq v w' => ∃ (i : Nat), v = .int .i64 (i : Int) ∧ Aside0 (i + kq = 16) ∧ Aside0 (Below w.heap.size w w') ∧ Aside0 (w'.heap[g0]? = some (.cells #[.int .u32 0, .int .u32 0, .int .u32 0, .int .u32 0] 24 (0, 0))) ∧ Aside0 (w'.heap[g1]? = some (.cells #[.int .u32 ((pw b 0 i)), .int .u32 ((pw b 1 i)), .int .u32 ((pw b 2 i)), .int .u32 ((pw b 3 i))] 24 (0, 0))))
    case atStart => exact ⟨0, by first | rfl | (simp; done), ⟨rfl⟩, HB, Kg0, Kg1⟩
    case round =>
      clear HB Kg0 Kg1
      obtain ⟨i, rfl, HA, HB, Kg0, Kg1⟩ := hrel
      have hi : i ≤ 16 := by have := HA.out; omega
      have hcase : i = 0 ∨ i = 1 ∨ i = 2 ∨ i = 3 ∨ i = 4 ∨ i = 5 ∨ i = 6 ∨ i = 7 ∨ i = 8 ∨ i = 9 ∨ i = 10 ∨ i = 11 ∨ i = 12 ∨ i = 13 ∨ i = 14 ∨ i = 15 ∨ i = 16 := by omega
      rcases hcase with rfl | rfl | rfl | rfl | rfl | rfl | rfl | rfl | rfl | rfl | rfl | rfl | rfl | rfl | rfl | rfl | rfl
      · obtain rfl : gk = 15 + 1 := by have := HA.out; omega
        clear HA hi
        have cg0_0 : wr.cell? ⟨g0, 0, none⟩ = some (.int .u32 0) := (blk_cell Kg0.out 0).trans rfl
        have zg0_0 := blk_frozen Kg0.out 0
        have cg0_1 : wr.cell? ⟨g0, 1, none⟩ = some (.int .u32 0) := (blk_cell Kg0.out 1).trans rfl
        have zg0_1 := blk_frozen Kg0.out 1
        have cg0_2 : wr.cell? ⟨g0, 2, none⟩ = some (.int .u32 0) := (blk_cell Kg0.out 2).trans rfl
        have zg0_2 := blk_frozen Kg0.out 2
        have cg0_3 : wr.cell? ⟨g0, 3, none⟩ = some (.int .u32 0) := (blk_cell Kg0.out 3).trans rfl
        have zg0_3 := blk_frozen Kg0.out 3
        have cg1_0 : wr.cell? ⟨g1, 0, none⟩ = some (.int .u32 (pw b 0 0)) := (blk_cell Kg1.out 0).trans rfl
        have zg1_0 := blk_frozen Kg1.out 0
        have cg1_1 : wr.cell? ⟨g1, 1, none⟩ = some (.int .u32 (pw b 1 0)) := (blk_cell Kg1.out 1).trans rfl
        have zg1_1 := blk_frozen Kg1.out 1
        have cg1_2 : wr.cell? ⟨g1, 2, none⟩ = some (.int .u32 (pw b 2 0)) := (blk_cell Kg1.out 2).trans rfl
        have zg1_2 := blk_frozen Kg1.out 2
        have cg1_3 : wr.cell? ⟨g1, 3, none⟩ = some (.int .u32 (pw b 3 0)) := (blk_cell Kg1.out 3).trans rfl
        have zg1_3 := blk_frozen Kg1.out 3
        have hx : ((b[0]'(by rw [HS.out]; decide)).toNat : Int) % 4294967296 = bt b 0 := by have h1 := bt_at b 0 (by rw [HS.out]; decide); have h2 := bt_range b 0; have h3 : ((b[0]'(by rw [HS.out]; decide)).toNat : Int) = bt b 0 := h1; omega
        have HX := Aside0.mk hx
        clear hx
        go_wp2
        go_region
        rw [HX.out]
        go_wp2
        go_roundg 15
        case measure => omega
        case rel => exact ⟨1, by first | rfl | (simp; done), ⟨rfl⟩, ⟨(by repeat (first | (with_reducible first | exact HB.out | apply below_alloc | apply pw_below_drewN | apply below_drew1 | refine below_set ?_ Gg0.out | refine below_set ?_ Gg1.out) | exact HB.out))⟩, ⟨(Eq.trans (by (with_reducible repeat (first | exact Kg0.out | apply blk_set | apply far_put Ng0g1.out | apply far_put Ng0g1.out.symm | apply blk_drewN | apply blk_drew | apply blk_alloc))) (by first | rfl))⟩, ⟨(Eq.trans (by (with_reducible repeat (first | exact Kg1.out | apply blk_set | apply far_put Ng0g1.out | apply far_put Ng0g1.out.symm | apply blk_drewN | apply blk_drew | apply blk_alloc))) (by first | rfl))⟩⟩
      · obtain rfl : gk = 14 + 1 := by have := HA.out; omega
        clear HA hi
        have cg0_0 : wr.cell? ⟨g0, 0, none⟩ = some (.int .u32 0) := (blk_cell Kg0.out 0).trans rfl
        have zg0_0 := blk_frozen Kg0.out 0
        have cg0_1 : wr.cell? ⟨g0, 1, none⟩ = some (.int .u32 0) := (blk_cell Kg0.out 1).trans rfl
        have zg0_1 := blk_frozen Kg0.out 1
        have cg0_2 : wr.cell? ⟨g0, 2, none⟩ = some (.int .u32 0) := (blk_cell Kg0.out 2).trans rfl
        have zg0_2 := blk_frozen Kg0.out 2
        have cg0_3 : wr.cell? ⟨g0, 3, none⟩ = some (.int .u32 0) := (blk_cell Kg0.out 3).trans rfl
        have zg0_3 := blk_frozen Kg0.out 3
        have cg1_0 : wr.cell? ⟨g1, 0, none⟩ = some (.int .u32 (pw b 0 1)) := (blk_cell Kg1.out 0).trans rfl
        have zg1_0 := blk_frozen Kg1.out 0
        have cg1_1 : wr.cell? ⟨g1, 1, none⟩ = some (.int .u32 (pw b 1 1)) := (blk_cell Kg1.out 1).trans rfl
        have zg1_1 := blk_frozen Kg1.out 1
        have cg1_2 : wr.cell? ⟨g1, 2, none⟩ = some (.int .u32 (pw b 2 1)) := (blk_cell Kg1.out 2).trans rfl
        have zg1_2 := blk_frozen Kg1.out 2
        have cg1_3 : wr.cell? ⟨g1, 3, none⟩ = some (.int .u32 (pw b 3 1)) := (blk_cell Kg1.out 3).trans rfl
        have zg1_3 := blk_frozen Kg1.out 3
        have hx : ((b[1]'(by rw [HS.out]; decide)).toNat : Int) % 4294967296 = bt b 1 := by have h1 := bt_at b 1 (by rw [HS.out]; decide); have h2 := bt_range b 1; have h3 : ((b[1]'(by rw [HS.out]; decide)).toNat : Int) = bt b 1 := h1; omega
        have HX := Aside0.mk hx
        clear hx
        go_wp2
        go_region
        rw [HX.out]
        go_wp2
        go_roundg 14
        case measure => omega
        case rel => exact ⟨2, by first | rfl | (simp; done), ⟨rfl⟩, ⟨(by repeat (first | (with_reducible first | exact HB.out | apply below_alloc | apply pw_below_drewN | apply below_drew1 | refine below_set ?_ Gg0.out | refine below_set ?_ Gg1.out) | exact HB.out))⟩, ⟨(Eq.trans (by (with_reducible repeat (first | exact Kg0.out | apply blk_set | apply far_put Ng0g1.out | apply far_put Ng0g1.out.symm | apply blk_drewN | apply blk_drew | apply blk_alloc))) (by first | rfl))⟩, ⟨(Eq.trans (by (with_reducible repeat (first | exact Kg1.out | apply blk_set | apply far_put Ng0g1.out | apply far_put Ng0g1.out.symm | apply blk_drewN | apply blk_drew | apply blk_alloc))) (by first | rfl))⟩⟩
      · obtain rfl : gk = 13 + 1 := by have := HA.out; omega
        clear HA hi
        have cg0_0 : wr.cell? ⟨g0, 0, none⟩ = some (.int .u32 0) := (blk_cell Kg0.out 0).trans rfl
        have zg0_0 := blk_frozen Kg0.out 0
        have cg0_1 : wr.cell? ⟨g0, 1, none⟩ = some (.int .u32 0) := (blk_cell Kg0.out 1).trans rfl
        have zg0_1 := blk_frozen Kg0.out 1
        have cg0_2 : wr.cell? ⟨g0, 2, none⟩ = some (.int .u32 0) := (blk_cell Kg0.out 2).trans rfl
        have zg0_2 := blk_frozen Kg0.out 2
        have cg0_3 : wr.cell? ⟨g0, 3, none⟩ = some (.int .u32 0) := (blk_cell Kg0.out 3).trans rfl
        have zg0_3 := blk_frozen Kg0.out 3
        have cg1_0 : wr.cell? ⟨g1, 0, none⟩ = some (.int .u32 (pw b 0 2)) := (blk_cell Kg1.out 0).trans rfl
        have zg1_0 := blk_frozen Kg1.out 0
        have cg1_1 : wr.cell? ⟨g1, 1, none⟩ = some (.int .u32 (pw b 1 2)) := (blk_cell Kg1.out 1).trans rfl
        have zg1_1 := blk_frozen Kg1.out 1
        have cg1_2 : wr.cell? ⟨g1, 2, none⟩ = some (.int .u32 (pw b 2 2)) := (blk_cell Kg1.out 2).trans rfl
        have zg1_2 := blk_frozen Kg1.out 2
        have cg1_3 : wr.cell? ⟨g1, 3, none⟩ = some (.int .u32 (pw b 3 2)) := (blk_cell Kg1.out 3).trans rfl
        have zg1_3 := blk_frozen Kg1.out 3
        have hx : ((b[2]'(by rw [HS.out]; decide)).toNat : Int) % 4294967296 = bt b 2 := by have h1 := bt_at b 2 (by rw [HS.out]; decide); have h2 := bt_range b 2; have h3 : ((b[2]'(by rw [HS.out]; decide)).toNat : Int) = bt b 2 := h1; omega
        have HX := Aside0.mk hx
        clear hx
        go_wp2
        go_region
        rw [HX.out]
        go_wp2
        go_roundg 13
        case measure => omega
        case rel => exact ⟨3, by first | rfl | (simp; done), ⟨rfl⟩, ⟨(by repeat (first | (with_reducible first | exact HB.out | apply below_alloc | apply pw_below_drewN | apply below_drew1 | refine below_set ?_ Gg0.out | refine below_set ?_ Gg1.out) | exact HB.out))⟩, ⟨(Eq.trans (by (with_reducible repeat (first | exact Kg0.out | apply blk_set | apply far_put Ng0g1.out | apply far_put Ng0g1.out.symm | apply blk_drewN | apply blk_drew | apply blk_alloc))) (by first | rfl))⟩, ⟨(Eq.trans (by (with_reducible repeat (first | exact Kg1.out | apply blk_set | apply far_put Ng0g1.out | apply far_put Ng0g1.out.symm | apply blk_drewN | apply blk_drew | apply blk_alloc))) (by first | rfl))⟩⟩
      · obtain rfl : gk = 12 + 1 := by have := HA.out; omega
        clear HA hi
        have cg0_0 : wr.cell? ⟨g0, 0, none⟩ = some (.int .u32 0) := (blk_cell Kg0.out 0).trans rfl
        have zg0_0 := blk_frozen Kg0.out 0
        have cg0_1 : wr.cell? ⟨g0, 1, none⟩ = some (.int .u32 0) := (blk_cell Kg0.out 1).trans rfl
        have zg0_1 := blk_frozen Kg0.out 1
        have cg0_2 : wr.cell? ⟨g0, 2, none⟩ = some (.int .u32 0) := (blk_cell Kg0.out 2).trans rfl
        have zg0_2 := blk_frozen Kg0.out 2
        have cg0_3 : wr.cell? ⟨g0, 3, none⟩ = some (.int .u32 0) := (blk_cell Kg0.out 3).trans rfl
        have zg0_3 := blk_frozen Kg0.out 3
        have cg1_0 : wr.cell? ⟨g1, 0, none⟩ = some (.int .u32 (pw b 0 3)) := (blk_cell Kg1.out 0).trans rfl
        have zg1_0 := blk_frozen Kg1.out 0
        have cg1_1 : wr.cell? ⟨g1, 1, none⟩ = some (.int .u32 (pw b 1 3)) := (blk_cell Kg1.out 1).trans rfl
        have zg1_1 := blk_frozen Kg1.out 1
        have cg1_2 : wr.cell? ⟨g1, 2, none⟩ = some (.int .u32 (pw b 2 3)) := (blk_cell Kg1.out 2).trans rfl
        have zg1_2 := blk_frozen Kg1.out 2
        have cg1_3 : wr.cell? ⟨g1, 3, none⟩ = some (.int .u32 (pw b 3 3)) := (blk_cell Kg1.out 3).trans rfl
        have zg1_3 := blk_frozen Kg1.out 3
        have hx : ((b[3]'(by rw [HS.out]; decide)).toNat : Int) % 4294967296 = bt b 3 := by have h1 := bt_at b 3 (by rw [HS.out]; decide); have h2 := bt_range b 3; have h3 : ((b[3]'(by rw [HS.out]; decide)).toNat : Int) = bt b 3 := h1; omega
        have HX := Aside0.mk hx
        clear hx
        go_wp2
        go_region
        rw [HX.out]
        go_wp2
        go_roundg 12
        case measure => omega
        case rel => exact ⟨4, by first | rfl | (simp; done), ⟨rfl⟩, ⟨(by repeat (first | (with_reducible first | exact HB.out | apply below_alloc | apply pw_below_drewN | apply below_drew1 | refine below_set ?_ Gg0.out | refine below_set ?_ Gg1.out) | exact HB.out))⟩, ⟨(Eq.trans (by (with_reducible repeat (first | exact Kg0.out | apply blk_set | apply far_put Ng0g1.out | apply far_put Ng0g1.out.symm | apply blk_drewN | apply blk_drew | apply blk_alloc))) (by first | rfl))⟩, ⟨(Eq.trans (by (with_reducible repeat (first | exact Kg1.out | apply blk_set | apply far_put Ng0g1.out | apply far_put Ng0g1.out.symm | apply blk_drewN | apply blk_drew | apply blk_alloc))) (by first | rfl))⟩⟩
      · obtain rfl : gk = 11 + 1 := by have := HA.out; omega
        clear HA hi
        have cg0_0 : wr.cell? ⟨g0, 0, none⟩ = some (.int .u32 0) := (blk_cell Kg0.out 0).trans rfl
        have zg0_0 := blk_frozen Kg0.out 0
        have cg0_1 : wr.cell? ⟨g0, 1, none⟩ = some (.int .u32 0) := (blk_cell Kg0.out 1).trans rfl
        have zg0_1 := blk_frozen Kg0.out 1
        have cg0_2 : wr.cell? ⟨g0, 2, none⟩ = some (.int .u32 0) := (blk_cell Kg0.out 2).trans rfl
        have zg0_2 := blk_frozen Kg0.out 2
        have cg0_3 : wr.cell? ⟨g0, 3, none⟩ = some (.int .u32 0) := (blk_cell Kg0.out 3).trans rfl
        have zg0_3 := blk_frozen Kg0.out 3
        have cg1_0 : wr.cell? ⟨g1, 0, none⟩ = some (.int .u32 (pw b 0 4)) := (blk_cell Kg1.out 0).trans rfl
        have zg1_0 := blk_frozen Kg1.out 0
        have cg1_1 : wr.cell? ⟨g1, 1, none⟩ = some (.int .u32 (pw b 1 4)) := (blk_cell Kg1.out 1).trans rfl
        have zg1_1 := blk_frozen Kg1.out 1
        have cg1_2 : wr.cell? ⟨g1, 2, none⟩ = some (.int .u32 (pw b 2 4)) := (blk_cell Kg1.out 2).trans rfl
        have zg1_2 := blk_frozen Kg1.out 2
        have cg1_3 : wr.cell? ⟨g1, 3, none⟩ = some (.int .u32 (pw b 3 4)) := (blk_cell Kg1.out 3).trans rfl
        have zg1_3 := blk_frozen Kg1.out 3
        have hx : ((b[4]'(by rw [HS.out]; decide)).toNat : Int) % 4294967296 = bt b 4 := by have h1 := bt_at b 4 (by rw [HS.out]; decide); have h2 := bt_range b 4; have h3 : ((b[4]'(by rw [HS.out]; decide)).toNat : Int) = bt b 4 := h1; omega
        have HX := Aside0.mk hx
        clear hx
        go_wp2
        go_region
        rw [HX.out]
        go_wp2
        go_roundg 11
        case measure => omega
        case rel => exact ⟨5, by first | rfl | (simp; done), ⟨rfl⟩, ⟨(by repeat (first | (with_reducible first | exact HB.out | apply below_alloc | apply pw_below_drewN | apply below_drew1 | refine below_set ?_ Gg0.out | refine below_set ?_ Gg1.out) | exact HB.out))⟩, ⟨(Eq.trans (by (with_reducible repeat (first | exact Kg0.out | apply blk_set | apply far_put Ng0g1.out | apply far_put Ng0g1.out.symm | apply blk_drewN | apply blk_drew | apply blk_alloc))) (by first | rfl))⟩, ⟨(Eq.trans (by (with_reducible repeat (first | exact Kg1.out | apply blk_set | apply far_put Ng0g1.out | apply far_put Ng0g1.out.symm | apply blk_drewN | apply blk_drew | apply blk_alloc))) (by first | rfl))⟩⟩
      · obtain rfl : gk = 10 + 1 := by have := HA.out; omega
        clear HA hi
        have cg0_0 : wr.cell? ⟨g0, 0, none⟩ = some (.int .u32 0) := (blk_cell Kg0.out 0).trans rfl
        have zg0_0 := blk_frozen Kg0.out 0
        have cg0_1 : wr.cell? ⟨g0, 1, none⟩ = some (.int .u32 0) := (blk_cell Kg0.out 1).trans rfl
        have zg0_1 := blk_frozen Kg0.out 1
        have cg0_2 : wr.cell? ⟨g0, 2, none⟩ = some (.int .u32 0) := (blk_cell Kg0.out 2).trans rfl
        have zg0_2 := blk_frozen Kg0.out 2
        have cg0_3 : wr.cell? ⟨g0, 3, none⟩ = some (.int .u32 0) := (blk_cell Kg0.out 3).trans rfl
        have zg0_3 := blk_frozen Kg0.out 3
        have cg1_0 : wr.cell? ⟨g1, 0, none⟩ = some (.int .u32 (pw b 0 5)) := (blk_cell Kg1.out 0).trans rfl
        have zg1_0 := blk_frozen Kg1.out 0
        have cg1_1 : wr.cell? ⟨g1, 1, none⟩ = some (.int .u32 (pw b 1 5)) := (blk_cell Kg1.out 1).trans rfl
        have zg1_1 := blk_frozen Kg1.out 1
        have cg1_2 : wr.cell? ⟨g1, 2, none⟩ = some (.int .u32 (pw b 2 5)) := (blk_cell Kg1.out 2).trans rfl
        have zg1_2 := blk_frozen Kg1.out 2
        have cg1_3 : wr.cell? ⟨g1, 3, none⟩ = some (.int .u32 (pw b 3 5)) := (blk_cell Kg1.out 3).trans rfl
        have zg1_3 := blk_frozen Kg1.out 3
        have hx : ((b[5]'(by rw [HS.out]; decide)).toNat : Int) % 4294967296 = bt b 5 := by have h1 := bt_at b 5 (by rw [HS.out]; decide); have h2 := bt_range b 5; have h3 : ((b[5]'(by rw [HS.out]; decide)).toNat : Int) = bt b 5 := h1; omega
        have HX := Aside0.mk hx
        clear hx
        go_wp2
        go_region
        rw [HX.out]
        go_wp2
        go_roundg 10
        case measure => omega
        case rel => exact ⟨6, by first | rfl | (simp; done), ⟨rfl⟩, ⟨(by repeat (first | (with_reducible first | exact HB.out | apply below_alloc | apply pw_below_drewN | apply below_drew1 | refine below_set ?_ Gg0.out | refine below_set ?_ Gg1.out) | exact HB.out))⟩, ⟨(Eq.trans (by (with_reducible repeat (first | exact Kg0.out | apply blk_set | apply far_put Ng0g1.out | apply far_put Ng0g1.out.symm | apply blk_drewN | apply blk_drew | apply blk_alloc))) (by first | rfl))⟩, ⟨(Eq.trans (by (with_reducible repeat (first | exact Kg1.out | apply blk_set | apply far_put Ng0g1.out | apply far_put Ng0g1.out.symm | apply blk_drewN | apply blk_drew | apply blk_alloc))) (by first | rfl))⟩⟩
      · obtain rfl : gk = 9 + 1 := by have := HA.out; omega
        clear HA hi
        have cg0_0 : wr.cell? ⟨g0, 0, none⟩ = some (.int .u32 0) := (blk_cell Kg0.out 0).trans rfl
        have zg0_0 := blk_frozen Kg0.out 0
        have cg0_1 : wr.cell? ⟨g0, 1, none⟩ = some (.int .u32 0) := (blk_cell Kg0.out 1).trans rfl
        have zg0_1 := blk_frozen Kg0.out 1
        have cg0_2 : wr.cell? ⟨g0, 2, none⟩ = some (.int .u32 0) := (blk_cell Kg0.out 2).trans rfl
        have zg0_2 := blk_frozen Kg0.out 2
        have cg0_3 : wr.cell? ⟨g0, 3, none⟩ = some (.int .u32 0) := (blk_cell Kg0.out 3).trans rfl
        have zg0_3 := blk_frozen Kg0.out 3
        have cg1_0 : wr.cell? ⟨g1, 0, none⟩ = some (.int .u32 (pw b 0 6)) := (blk_cell Kg1.out 0).trans rfl
        have zg1_0 := blk_frozen Kg1.out 0
        have cg1_1 : wr.cell? ⟨g1, 1, none⟩ = some (.int .u32 (pw b 1 6)) := (blk_cell Kg1.out 1).trans rfl
        have zg1_1 := blk_frozen Kg1.out 1
        have cg1_2 : wr.cell? ⟨g1, 2, none⟩ = some (.int .u32 (pw b 2 6)) := (blk_cell Kg1.out 2).trans rfl
        have zg1_2 := blk_frozen Kg1.out 2
        have cg1_3 : wr.cell? ⟨g1, 3, none⟩ = some (.int .u32 (pw b 3 6)) := (blk_cell Kg1.out 3).trans rfl
        have zg1_3 := blk_frozen Kg1.out 3
        have hx : ((b[6]'(by rw [HS.out]; decide)).toNat : Int) % 4294967296 = bt b 6 := by have h1 := bt_at b 6 (by rw [HS.out]; decide); have h2 := bt_range b 6; have h3 : ((b[6]'(by rw [HS.out]; decide)).toNat : Int) = bt b 6 := h1; omega
        have HX := Aside0.mk hx
        clear hx
        go_wp2
        go_region
        rw [HX.out]
        go_wp2
        go_roundg 9
        case measure => omega
        case rel => exact ⟨7, by first | rfl | (simp; done), ⟨rfl⟩, ⟨(by repeat (first | (with_reducible first | exact HB.out | apply below_alloc | apply pw_below_drewN | apply below_drew1 | refine below_set ?_ Gg0.out | refine below_set ?_ Gg1.out) | exact HB.out))⟩, ⟨(Eq.trans (by (with_reducible repeat (first | exact Kg0.out | apply blk_set | apply far_put Ng0g1.out | apply far_put Ng0g1.out.symm | apply blk_drewN | apply blk_drew | apply blk_alloc))) (by first | rfl))⟩, ⟨(Eq.trans (by (with_reducible repeat (first | exact Kg1.out | apply blk_set | apply far_put Ng0g1.out | apply far_put Ng0g1.out.symm | apply blk_drewN | apply blk_drew | apply blk_alloc))) (by first | rfl))⟩⟩
      · obtain rfl : gk = 8 + 1 := by have := HA.out; omega
        clear HA hi
        have cg0_0 : wr.cell? ⟨g0, 0, none⟩ = some (.int .u32 0) := (blk_cell Kg0.out 0).trans rfl
        have zg0_0 := blk_frozen Kg0.out 0
        have cg0_1 : wr.cell? ⟨g0, 1, none⟩ = some (.int .u32 0) := (blk_cell Kg0.out 1).trans rfl
        have zg0_1 := blk_frozen Kg0.out 1
        have cg0_2 : wr.cell? ⟨g0, 2, none⟩ = some (.int .u32 0) := (blk_cell Kg0.out 2).trans rfl
        have zg0_2 := blk_frozen Kg0.out 2
        have cg0_3 : wr.cell? ⟨g0, 3, none⟩ = some (.int .u32 0) := (blk_cell Kg0.out 3).trans rfl
        have zg0_3 := blk_frozen Kg0.out 3
        have cg1_0 : wr.cell? ⟨g1, 0, none⟩ = some (.int .u32 (pw b 0 7)) := (blk_cell Kg1.out 0).trans rfl
        have zg1_0 := blk_frozen Kg1.out 0
        have cg1_1 : wr.cell? ⟨g1, 1, none⟩ = some (.int .u32 (pw b 1 7)) := (blk_cell Kg1.out 1).trans rfl
        have zg1_1 := blk_frozen Kg1.out 1
        have cg1_2 : wr.cell? ⟨g1, 2, none⟩ = some (.int .u32 (pw b 2 7)) := (blk_cell Kg1.out 2).trans rfl
        have zg1_2 := blk_frozen Kg1.out 2
        have cg1_3 : wr.cell? ⟨g1, 3, none⟩ = some (.int .u32 (pw b 3 7)) := (blk_cell Kg1.out 3).trans rfl
        have zg1_3 := blk_frozen Kg1.out 3
        have hx : ((b[7]'(by rw [HS.out]; decide)).toNat : Int) % 4294967296 = bt b 7 := by have h1 := bt_at b 7 (by rw [HS.out]; decide); have h2 := bt_range b 7; have h3 : ((b[7]'(by rw [HS.out]; decide)).toNat : Int) = bt b 7 := h1; omega
        have HX := Aside0.mk hx
        clear hx
        go_wp2
        go_region
        rw [HX.out]
        go_wp2
        go_roundg 8
        case measure => omega
        case rel => exact ⟨8, by first | rfl | (simp; done), ⟨rfl⟩, ⟨(by repeat (first | (with_reducible first | exact HB.out | apply below_alloc | apply pw_below_drewN | apply below_drew1 | refine below_set ?_ Gg0.out | refine below_set ?_ Gg1.out) | exact HB.out))⟩, ⟨(Eq.trans (by (with_reducible repeat (first | exact Kg0.out | apply blk_set | apply far_put Ng0g1.out | apply far_put Ng0g1.out.symm | apply blk_drewN | apply blk_drew | apply blk_alloc))) (by first | rfl))⟩, ⟨(Eq.trans (by (with_reducible repeat (first | exact Kg1.out | apply blk_set | apply far_put Ng0g1.out | apply far_put Ng0g1.out.symm | apply blk_drewN | apply blk_drew | apply blk_alloc))) (by first | rfl))⟩⟩
      · obtain rfl : gk = 7 + 1 := by have := HA.out; omega
        clear HA hi
        have cg0_0 : wr.cell? ⟨g0, 0, none⟩ = some (.int .u32 0) := (blk_cell Kg0.out 0).trans rfl
        have zg0_0 := blk_frozen Kg0.out 0
        have cg0_1 : wr.cell? ⟨g0, 1, none⟩ = some (.int .u32 0) := (blk_cell Kg0.out 1).trans rfl
        have zg0_1 := blk_frozen Kg0.out 1
        have cg0_2 : wr.cell? ⟨g0, 2, none⟩ = some (.int .u32 0) := (blk_cell Kg0.out 2).trans rfl
        have zg0_2 := blk_frozen Kg0.out 2
        have cg0_3 : wr.cell? ⟨g0, 3, none⟩ = some (.int .u32 0) := (blk_cell Kg0.out 3).trans rfl
        have zg0_3 := blk_frozen Kg0.out 3
        have cg1_0 : wr.cell? ⟨g1, 0, none⟩ = some (.int .u32 (pw b 0 8)) := (blk_cell Kg1.out 0).trans rfl
        have zg1_0 := blk_frozen Kg1.out 0
        have cg1_1 : wr.cell? ⟨g1, 1, none⟩ = some (.int .u32 (pw b 1 8)) := (blk_cell Kg1.out 1).trans rfl
        have zg1_1 := blk_frozen Kg1.out 1
        have cg1_2 : wr.cell? ⟨g1, 2, none⟩ = some (.int .u32 (pw b 2 8)) := (blk_cell Kg1.out 2).trans rfl
        have zg1_2 := blk_frozen Kg1.out 2
        have cg1_3 : wr.cell? ⟨g1, 3, none⟩ = some (.int .u32 (pw b 3 8)) := (blk_cell Kg1.out 3).trans rfl
        have zg1_3 := blk_frozen Kg1.out 3
        have hx : ((b[8]'(by rw [HS.out]; decide)).toNat : Int) % 4294967296 = bt b 8 := by have h1 := bt_at b 8 (by rw [HS.out]; decide); have h2 := bt_range b 8; have h3 : ((b[8]'(by rw [HS.out]; decide)).toNat : Int) = bt b 8 := h1; omega
        have HX := Aside0.mk hx
        clear hx
        go_wp2
        go_region
        rw [HX.out]
        go_wp2
        go_roundg 7
        case measure => omega
        case rel => exact ⟨9, by first | rfl | (simp; done), ⟨rfl⟩, ⟨(by repeat (first | (with_reducible first | exact HB.out | apply below_alloc | apply pw_below_drewN | apply below_drew1 | refine below_set ?_ Gg0.out | refine below_set ?_ Gg1.out) | exact HB.out))⟩, ⟨(Eq.trans (by (with_reducible repeat (first | exact Kg0.out | apply blk_set | apply far_put Ng0g1.out | apply far_put Ng0g1.out.symm | apply blk_drewN | apply blk_drew | apply blk_alloc))) (by first | rfl))⟩, ⟨(Eq.trans (by (with_reducible repeat (first | exact Kg1.out | apply blk_set | apply far_put Ng0g1.out | apply far_put Ng0g1.out.symm | apply blk_drewN | apply blk_drew | apply blk_alloc))) (by first | rfl))⟩⟩
      · obtain rfl : gk = 6 + 1 := by have := HA.out; omega
        clear HA hi
        have cg0_0 : wr.cell? ⟨g0, 0, none⟩ = some (.int .u32 0) := (blk_cell Kg0.out 0).trans rfl
        have zg0_0 := blk_frozen Kg0.out 0
        have cg0_1 : wr.cell? ⟨g0, 1, none⟩ = some (.int .u32 0) := (blk_cell Kg0.out 1).trans rfl
        have zg0_1 := blk_frozen Kg0.out 1
        have cg0_2 : wr.cell? ⟨g0, 2, none⟩ = some (.int .u32 0) := (blk_cell Kg0.out 2).trans rfl
        have zg0_2 := blk_frozen Kg0.out 2
        have cg0_3 : wr.cell? ⟨g0, 3, none⟩ = some (.int .u32 0) := (blk_cell Kg0.out 3).trans rfl
        have zg0_3 := blk_frozen Kg0.out 3
        have cg1_0 : wr.cell? ⟨g1, 0, none⟩ = some (.int .u32 (pw b 0 9)) := (blk_cell Kg1.out 0).trans rfl
        have zg1_0 := blk_frozen Kg1.out 0
        have cg1_1 : wr.cell? ⟨g1, 1, none⟩ = some (.int .u32 (pw b 1 9)) := (blk_cell Kg1.out 1).trans rfl
        have zg1_1 := blk_frozen Kg1.out 1
        have cg1_2 : wr.cell? ⟨g1, 2, none⟩ = some (.int .u32 (pw b 2 9)) := (blk_cell Kg1.out 2).trans rfl
        have zg1_2 := blk_frozen Kg1.out 2
        have cg1_3 : wr.cell? ⟨g1, 3, none⟩ = some (.int .u32 (pw b 3 9)) := (blk_cell Kg1.out 3).trans rfl
        have zg1_3 := blk_frozen Kg1.out 3
        have hx : ((b[9]'(by rw [HS.out]; decide)).toNat : Int) % 4294967296 = bt b 9 := by have h1 := bt_at b 9 (by rw [HS.out]; decide); have h2 := bt_range b 9; have h3 : ((b[9]'(by rw [HS.out]; decide)).toNat : Int) = bt b 9 := h1; omega
        have HX := Aside0.mk hx
        clear hx
        go_wp2
        go_region
        rw [HX.out]
        go_wp2
        go_roundg 6
        case measure => omega
        case rel => exact ⟨10, by first | rfl | (simp; done), ⟨rfl⟩, ⟨(by repeat (first | (with_reducible first | exact HB.out | apply below_alloc | apply pw_below_drewN | apply below_drew1 | refine below_set ?_ Gg0.out | refine below_set ?_ Gg1.out) | exact HB.out))⟩, ⟨(Eq.trans (by (with_reducible repeat (first | exact Kg0.out | apply blk_set | apply far_put Ng0g1.out | apply far_put Ng0g1.out.symm | apply blk_drewN | apply blk_drew | apply blk_alloc))) (by first | rfl))⟩, ⟨(Eq.trans (by (with_reducible repeat (first | exact Kg1.out | apply blk_set | apply far_put Ng0g1.out | apply far_put Ng0g1.out.symm | apply blk_drewN | apply blk_drew | apply blk_alloc))) (by first | rfl))⟩⟩
      · obtain rfl : gk = 5 + 1 := by have := HA.out; omega
        clear HA hi
        have cg0_0 : wr.cell? ⟨g0, 0, none⟩ = some (.int .u32 0) := (blk_cell Kg0.out 0).trans rfl
        have zg0_0 := blk_frozen Kg0.out 0
        have cg0_1 : wr.cell? ⟨g0, 1, none⟩ = some (.int .u32 0) := (blk_cell Kg0.out 1).trans rfl
        have zg0_1 := blk_frozen Kg0.out 1
        have cg0_2 : wr.cell? ⟨g0, 2, none⟩ = some (.int .u32 0) := (blk_cell Kg0.out 2).trans rfl
        have zg0_2 := blk_frozen Kg0.out 2
        have cg0_3 : wr.cell? ⟨g0, 3, none⟩ = some (.int .u32 0) := (blk_cell Kg0.out 3).trans rfl
        have zg0_3 := blk_frozen Kg0.out 3
        have cg1_0 : wr.cell? ⟨g1, 0, none⟩ = some (.int .u32 (pw b 0 10)) := (blk_cell Kg1.out 0).trans rfl
        have zg1_0 := blk_frozen Kg1.out 0
        have cg1_1 : wr.cell? ⟨g1, 1, none⟩ = some (.int .u32 (pw b 1 10)) := (blk_cell Kg1.out 1).trans rfl
        have zg1_1 := blk_frozen Kg1.out 1
        have cg1_2 : wr.cell? ⟨g1, 2, none⟩ = some (.int .u32 (pw b 2 10)) := (blk_cell Kg1.out 2).trans rfl
        have zg1_2 := blk_frozen Kg1.out 2
        have cg1_3 : wr.cell? ⟨g1, 3, none⟩ = some (.int .u32 (pw b 3 10)) := (blk_cell Kg1.out 3).trans rfl
        have zg1_3 := blk_frozen Kg1.out 3
        have hx : ((b[10]'(by rw [HS.out]; decide)).toNat : Int) % 4294967296 = bt b 10 := by have h1 := bt_at b 10 (by rw [HS.out]; decide); have h2 := bt_range b 10; have h3 : ((b[10]'(by rw [HS.out]; decide)).toNat : Int) = bt b 10 := h1; omega
        have HX := Aside0.mk hx
        clear hx
        go_wp2
        go_region
        rw [HX.out]
        go_wp2
        go_roundg 5
        case measure => omega
        case rel => exact ⟨11, by first | rfl | (simp; done), ⟨rfl⟩, ⟨(by repeat (first | (with_reducible first | exact HB.out | apply below_alloc | apply pw_below_drewN | apply below_drew1 | refine below_set ?_ Gg0.out | refine below_set ?_ Gg1.out) | exact HB.out))⟩, ⟨(Eq.trans (by (with_reducible repeat (first | exact Kg0.out | apply blk_set | apply far_put Ng0g1.out | apply far_put Ng0g1.out.symm | apply blk_drewN | apply blk_drew | apply blk_alloc))) (by first | rfl))⟩, ⟨(Eq.trans (by (with_reducible repeat (first | exact Kg1.out | apply blk_set | apply far_put Ng0g1.out | apply far_put Ng0g1.out.symm | apply blk_drewN | apply blk_drew | apply blk_alloc))) (by first | rfl))⟩⟩
      · obtain rfl : gk = 4 + 1 := by have := HA.out; omega
        clear HA hi
        have cg0_0 : wr.cell? ⟨g0, 0, none⟩ = some (.int .u32 0) := (blk_cell Kg0.out 0).trans rfl
        have zg0_0 := blk_frozen Kg0.out 0
        have cg0_1 : wr.cell? ⟨g0, 1, none⟩ = some (.int .u32 0) := (blk_cell Kg0.out 1).trans rfl
        have zg0_1 := blk_frozen Kg0.out 1
        have cg0_2 : wr.cell? ⟨g0, 2, none⟩ = some (.int .u32 0) := (blk_cell Kg0.out 2).trans rfl
        have zg0_2 := blk_frozen Kg0.out 2
        have cg0_3 : wr.cell? ⟨g0, 3, none⟩ = some (.int .u32 0) := (blk_cell Kg0.out 3).trans rfl
        have zg0_3 := blk_frozen Kg0.out 3
        have cg1_0 : wr.cell? ⟨g1, 0, none⟩ = some (.int .u32 (pw b 0 11)) := (blk_cell Kg1.out 0).trans rfl
        have zg1_0 := blk_frozen Kg1.out 0
        have cg1_1 : wr.cell? ⟨g1, 1, none⟩ = some (.int .u32 (pw b 1 11)) := (blk_cell Kg1.out 1).trans rfl
        have zg1_1 := blk_frozen Kg1.out 1
        have cg1_2 : wr.cell? ⟨g1, 2, none⟩ = some (.int .u32 (pw b 2 11)) := (blk_cell Kg1.out 2).trans rfl
        have zg1_2 := blk_frozen Kg1.out 2
        have cg1_3 : wr.cell? ⟨g1, 3, none⟩ = some (.int .u32 (pw b 3 11)) := (blk_cell Kg1.out 3).trans rfl
        have zg1_3 := blk_frozen Kg1.out 3
        have hx : ((b[11]'(by rw [HS.out]; decide)).toNat : Int) % 4294967296 = bt b 11 := by have h1 := bt_at b 11 (by rw [HS.out]; decide); have h2 := bt_range b 11; have h3 : ((b[11]'(by rw [HS.out]; decide)).toNat : Int) = bt b 11 := h1; omega
        have HX := Aside0.mk hx
        clear hx
        go_wp2
        go_region
        rw [HX.out]
        go_wp2
        go_roundg 4
        case measure => omega
        case rel => exact ⟨12, by first | rfl | (simp; done), ⟨rfl⟩, ⟨(by repeat (first | (with_reducible first | exact HB.out | apply below_alloc | apply pw_below_drewN | apply below_drew1 | refine below_set ?_ Gg0.out | refine below_set ?_ Gg1.out) | exact HB.out))⟩, ⟨(Eq.trans (by (with_reducible repeat (first | exact Kg0.out | apply blk_set | apply far_put Ng0g1.out | apply far_put Ng0g1.out.symm | apply blk_drewN | apply blk_drew | apply blk_alloc))) (by first | rfl))⟩, ⟨(Eq.trans (by (with_reducible repeat (first | exact Kg1.out | apply blk_set | apply far_put Ng0g1.out | apply far_put Ng0g1.out.symm | apply blk_drewN | apply blk_drew | apply blk_alloc))) (by first | rfl))⟩⟩
      · obtain rfl : gk = 3 + 1 := by have := HA.out; omega
        clear HA hi
        have cg0_0 : wr.cell? ⟨g0, 0, none⟩ = some (.int .u32 0) := (blk_cell Kg0.out 0).trans rfl
        have zg0_0 := blk_frozen Kg0.out 0
        have cg0_1 : wr.cell? ⟨g0, 1, none⟩ = some (.int .u32 0) := (blk_cell Kg0.out 1).trans rfl
        have zg0_1 := blk_frozen Kg0.out 1
        have cg0_2 : wr.cell? ⟨g0, 2, none⟩ = some (.int .u32 0) := (blk_cell Kg0.out 2).trans rfl
        have zg0_2 := blk_frozen Kg0.out 2
        have cg0_3 : wr.cell? ⟨g0, 3, none⟩ = some (.int .u32 0) := (blk_cell Kg0.out 3).trans rfl
        have zg0_3 := blk_frozen Kg0.out 3
        have cg1_0 : wr.cell? ⟨g1, 0, none⟩ = some (.int .u32 (pw b 0 12)) := (blk_cell Kg1.out 0).trans rfl
        have zg1_0 := blk_frozen Kg1.out 0
        have cg1_1 : wr.cell? ⟨g1, 1, none⟩ = some (.int .u32 (pw b 1 12)) := (blk_cell Kg1.out 1).trans rfl
        have zg1_1 := blk_frozen Kg1.out 1
        have cg1_2 : wr.cell? ⟨g1, 2, none⟩ = some (.int .u32 (pw b 2 12)) := (blk_cell Kg1.out 2).trans rfl
        have zg1_2 := blk_frozen Kg1.out 2
        have cg1_3 : wr.cell? ⟨g1, 3, none⟩ = some (.int .u32 (pw b 3 12)) := (blk_cell Kg1.out 3).trans rfl
        have zg1_3 := blk_frozen Kg1.out 3
        have hx : ((b[12]'(by rw [HS.out]; decide)).toNat : Int) % 4294967296 = bt b 12 := by have h1 := bt_at b 12 (by rw [HS.out]; decide); have h2 := bt_range b 12; have h3 : ((b[12]'(by rw [HS.out]; decide)).toNat : Int) = bt b 12 := h1; omega
        have HX := Aside0.mk hx
        clear hx
        go_wp2
        go_region
        rw [HX.out]
        go_wp2
        go_roundg 3
        case measure => omega
        case rel => exact ⟨13, by first | rfl | (simp; done), ⟨rfl⟩, ⟨(by repeat (first | (with_reducible first | exact HB.out | apply below_alloc | apply pw_below_drewN | apply below_drew1 | refine below_set ?_ Gg0.out | refine below_set ?_ Gg1.out) | exact HB.out))⟩, ⟨(Eq.trans (by (with_reducible repeat (first | exact Kg0.out | apply blk_set | apply far_put Ng0g1.out | apply far_put Ng0g1.out.symm | apply blk_drewN | apply blk_drew | apply blk_alloc))) (by first | rfl))⟩, ⟨(Eq.trans (by (with_reducible repeat (first | exact Kg1.out | apply blk_set | apply far_put Ng0g1.out | apply far_put Ng0g1.out.symm | apply blk_drewN | apply blk_drew | apply blk_alloc))) (by first | rfl))⟩⟩
      · obtain rfl : gk = 2 + 1 := by have := HA.out; omega
        clear HA hi
        have cg0_0 : wr.cell? ⟨g0, 0, none⟩ = some (.int .u32 0) := (blk_cell Kg0.out 0).trans rfl
        have zg0_0 := blk_frozen Kg0.out 0
        have cg0_1 : wr.cell? ⟨g0, 1, none⟩ = some (.int .u32 0) := (blk_cell Kg0.out 1).trans rfl
        have zg0_1 := blk_frozen Kg0.out 1
        have cg0_2 : wr.cell? ⟨g0, 2, none⟩ = some (.int .u32 0) := (blk_cell Kg0.out 2).trans rfl
        have zg0_2 := blk_frozen Kg0.out 2
        have cg0_3 : wr.cell? ⟨g0, 3, none⟩ = some (.int .u32 0) := (blk_cell Kg0.out 3).trans rfl
        have zg0_3 := blk_frozen Kg0.out 3
        have cg1_0 : wr.cell? ⟨g1, 0, none⟩ = some (.int .u32 (pw b 0 13)) := (blk_cell Kg1.out 0).trans rfl
        have zg1_0 := blk_frozen Kg1.out 0
        have cg1_1 : wr.cell? ⟨g1, 1, none⟩ = some (.int .u32 (pw b 1 13)) := (blk_cell Kg1.out 1).trans rfl
        have zg1_1 := blk_frozen Kg1.out 1
        have cg1_2 : wr.cell? ⟨g1, 2, none⟩ = some (.int .u32 (pw b 2 13)) := (blk_cell Kg1.out 2).trans rfl
        have zg1_2 := blk_frozen Kg1.out 2
        have cg1_3 : wr.cell? ⟨g1, 3, none⟩ = some (.int .u32 (pw b 3 13)) := (blk_cell Kg1.out 3).trans rfl
        have zg1_3 := blk_frozen Kg1.out 3
        have hx : ((b[13]'(by rw [HS.out]; decide)).toNat : Int) % 4294967296 = bt b 13 := by have h1 := bt_at b 13 (by rw [HS.out]; decide); have h2 := bt_range b 13; have h3 : ((b[13]'(by rw [HS.out]; decide)).toNat : Int) = bt b 13 := h1; omega
        have HX := Aside0.mk hx
        clear hx
        go_wp2
        go_region
        rw [HX.out]
        go_wp2
        go_roundg 2
        case measure => omega
        case rel => exact ⟨14, by first | rfl | (simp; done), ⟨rfl⟩, ⟨(by repeat (first | (with_reducible first | exact HB.out | apply below_alloc | apply pw_below_drewN | apply below_drew1 | refine below_set ?_ Gg0.out | refine below_set ?_ Gg1.out) | exact HB.out))⟩, ⟨(Eq.trans (by (with_reducible repeat (first | exact Kg0.out | apply blk_set | apply far_put Ng0g1.out | apply far_put Ng0g1.out.symm | apply blk_drewN | apply blk_drew | apply blk_alloc))) (by first | rfl))⟩, ⟨(Eq.trans (by (with_reducible repeat (first | exact Kg1.out | apply blk_set | apply far_put Ng0g1.out | apply far_put Ng0g1.out.symm | apply blk_drewN | apply blk_drew | apply blk_alloc))) (by first | rfl))⟩⟩
      · obtain rfl : gk = 1 + 1 := by have := HA.out; omega
        clear HA hi
        have cg0_0 : wr.cell? ⟨g0, 0, none⟩ = some (.int .u32 0) := (blk_cell Kg0.out 0).trans rfl
        have zg0_0 := blk_frozen Kg0.out 0
        have cg0_1 : wr.cell? ⟨g0, 1, none⟩ = some (.int .u32 0) := (blk_cell Kg0.out 1).trans rfl
        have zg0_1 := blk_frozen Kg0.out 1
        have cg0_2 : wr.cell? ⟨g0, 2, none⟩ = some (.int .u32 0) := (blk_cell Kg0.out 2).trans rfl
        have zg0_2 := blk_frozen Kg0.out 2
        have cg0_3 : wr.cell? ⟨g0, 3, none⟩ = some (.int .u32 0) := (blk_cell Kg0.out 3).trans rfl
        have zg0_3 := blk_frozen Kg0.out 3
        have cg1_0 : wr.cell? ⟨g1, 0, none⟩ = some (.int .u32 (pw b 0 14)) := (blk_cell Kg1.out 0).trans rfl
        have zg1_0 := blk_frozen Kg1.out 0
        have cg1_1 : wr.cell? ⟨g1, 1, none⟩ = some (.int .u32 (pw b 1 14)) := (blk_cell Kg1.out 1).trans rfl
        have zg1_1 := blk_frozen Kg1.out 1
        have cg1_2 : wr.cell? ⟨g1, 2, none⟩ = some (.int .u32 (pw b 2 14)) := (blk_cell Kg1.out 2).trans rfl
        have zg1_2 := blk_frozen Kg1.out 2
        have cg1_3 : wr.cell? ⟨g1, 3, none⟩ = some (.int .u32 (pw b 3 14)) := (blk_cell Kg1.out 3).trans rfl
        have zg1_3 := blk_frozen Kg1.out 3
        have hx : ((b[14]'(by rw [HS.out]; decide)).toNat : Int) % 4294967296 = bt b 14 := by have h1 := bt_at b 14 (by rw [HS.out]; decide); have h2 := bt_range b 14; have h3 : ((b[14]'(by rw [HS.out]; decide)).toNat : Int) = bt b 14 := h1; omega
        have HX := Aside0.mk hx
        clear hx
        go_wp2
        go_region
        rw [HX.out]
        go_wp2
        go_roundg 1
        case measure => omega
        case rel => exact ⟨15, by first | rfl | (simp; done), ⟨rfl⟩, ⟨(by repeat (first | (with_reducible first | exact HB.out | apply below_alloc | apply pw_below_drewN | apply below_drew1 | refine below_set ?_ Gg0.out | refine below_set ?_ Gg1.out) | exact HB.out))⟩, ⟨(Eq.trans (by (with_reducible repeat (first | exact Kg0.out | apply blk_set | apply far_put Ng0g1.out | apply far_put Ng0g1.out.symm | apply blk_drewN | apply blk_drew | apply blk_alloc))) (by first | rfl))⟩, ⟨(Eq.trans (by (with_reducible repeat (first | exact Kg1.out | apply blk_set | apply far_put Ng0g1.out | apply far_put Ng0g1.out.symm | apply blk_drewN | apply blk_drew | apply blk_alloc))) (by first | rfl))⟩⟩
      · obtain rfl : gk = 0 + 1 := by have := HA.out; omega
        clear HA hi
        have cg0_0 : wr.cell? ⟨g0, 0, none⟩ = some (.int .u32 0) := (blk_cell Kg0.out 0).trans rfl
        have zg0_0 := blk_frozen Kg0.out 0
        have cg0_1 : wr.cell? ⟨g0, 1, none⟩ = some (.int .u32 0) := (blk_cell Kg0.out 1).trans rfl
        have zg0_1 := blk_frozen Kg0.out 1
        have cg0_2 : wr.cell? ⟨g0, 2, none⟩ = some (.int .u32 0) := (blk_cell Kg0.out 2).trans rfl
        have zg0_2 := blk_frozen Kg0.out 2
        have cg0_3 : wr.cell? ⟨g0, 3, none⟩ = some (.int .u32 0) := (blk_cell Kg0.out 3).trans rfl
        have zg0_3 := blk_frozen Kg0.out 3
        have cg1_0 : wr.cell? ⟨g1, 0, none⟩ = some (.int .u32 (pw b 0 15)) := (blk_cell Kg1.out 0).trans rfl
        have zg1_0 := blk_frozen Kg1.out 0
        have cg1_1 : wr.cell? ⟨g1, 1, none⟩ = some (.int .u32 (pw b 1 15)) := (blk_cell Kg1.out 1).trans rfl
        have zg1_1 := blk_frozen Kg1.out 1
        have cg1_2 : wr.cell? ⟨g1, 2, none⟩ = some (.int .u32 (pw b 2 15)) := (blk_cell Kg1.out 2).trans rfl
        have zg1_2 := blk_frozen Kg1.out 2
        have cg1_3 : wr.cell? ⟨g1, 3, none⟩ = some (.int .u32 (pw b 3 15)) := (blk_cell Kg1.out 3).trans rfl
        have zg1_3 := blk_frozen Kg1.out 3
        have hx : ((b[15]'(by rw [HS.out]; decide)).toNat : Int) % 4294967296 = bt b 15 := by have h1 := bt_at b 15 (by rw [HS.out]; decide); have h2 := bt_range b 15; have h3 : ((b[15]'(by rw [HS.out]; decide)).toNat : Int) = bt b 15 := h1; omega
        have HX := Aside0.mk hx
        clear hx
        go_wp2
        go_region
        rw [HX.out]
        go_wp2
        go_roundg 0
        case measure => omega
        case rel => exact ⟨16, by first | rfl | (simp; done), ⟨rfl⟩, ⟨(by repeat (first | (with_reducible first | exact HB.out | apply below_alloc | apply pw_below_drewN | apply below_drew1 | refine below_set ?_ Gg0.out | refine below_set ?_ Gg1.out) | exact HB.out))⟩, ⟨(Eq.trans (by (with_reducible repeat (first | exact Kg0.out | apply blk_set | apply far_put Ng0g1.out | apply far_put Ng0g1.out.symm | apply blk_drewN | apply blk_drew | apply blk_alloc))) (by first | rfl))⟩, ⟨(Eq.trans (by (with_reducible repeat (first | exact Kg1.out | apply blk_set | apply far_put Ng0g1.out | apply far_put Ng0g1.out.symm | apply blk_drewN | apply blk_drew | apply blk_alloc))) (by first | rfl))⟩⟩
      · clear HA hi
        have cg0_0 : wr.cell? ⟨g0, 0, none⟩ = some (.int .u32 0) := (blk_cell Kg0.out 0).trans rfl
        have zg0_0 := blk_frozen Kg0.out 0
        have cg0_1 : wr.cell? ⟨g0, 1, none⟩ = some (.int .u32 0) := (blk_cell Kg0.out 1).trans rfl
        have zg0_1 := blk_frozen Kg0.out 1
        have cg0_2 : wr.cell? ⟨g0, 2, none⟩ = some (.int .u32 0) := (blk_cell Kg0.out 2).trans rfl
        have zg0_2 := blk_frozen Kg0.out 2
        have cg0_3 : wr.cell? ⟨g0, 3, none⟩ = some (.int .u32 0) := (blk_cell Kg0.out 3).trans rfl
        have zg0_3 := blk_frozen Kg0.out 3
        have cg1_0 : wr.cell? ⟨g1, 0, none⟩ = some (.int .u32 (pw b 0 16)) := (blk_cell Kg1.out 0).trans rfl
        have zg1_0 := blk_frozen Kg1.out 0
        have cg1_1 : wr.cell? ⟨g1, 1, none⟩ = some (.int .u32 (pw b 1 16)) := (blk_cell Kg1.out 1).trans rfl
        have zg1_1 := blk_frozen Kg1.out 1
        have cg1_2 : wr.cell? ⟨g1, 2, none⟩ = some (.int .u32 (pw b 2 16)) := (blk_cell Kg1.out 2).trans rfl
        have zg1_2 := blk_frozen Kg1.out 2
        have cg1_3 : wr.cell? ⟨g1, 3, none⟩ = some (.int .u32 (pw b 3 16)) := (blk_cell Kg1.out 3).trans rfl
        have zg1_3 := blk_frozen Kg1.out 3
        have hv := HV.out
        simp only [Prod.mk.injEq] at hv
        obtain ⟨e1, e2, e3, e4, e5⟩ := hv
        have E1 := Aside0.mk e1
        have E2 := Aside0.mk e2
        have E3 := Aside0.mk e3
        have E4 := Aside0.mk e4
        have E5 := Aside0.mk e5
        clear e1 e2 e3 e4 e5
        go_wp2
        refine bodyPost_ret (results_ct rfl _ _ g0 24 #[.int .u32 ((pw b 0 16)), .int .u32 ((pw b 1 16)), .int .u32 ((pw b 2 16)), .int .u32 ((pw b 3 16))] (0, 0) _ rfl (Eq.trans (by (with_reducible repeat (first | exact Kg0.out | apply blk_set | apply far_put Ng0g1.out | apply blk_drewN | apply blk_drew | apply blk_alloc))) (by rfl)) Tryd.underlying24 rfl (by kernel_rfl)) rfl ?_
        exact ⟨by rw [E1.out, E2.out, E3.out, E4.out, ← E5.out]; rfl, (by repeat (first | (with_reducible first | exact HB.out | apply below_alloc | apply pw_below_drewN | apply below_drew1 | refine below_set ?_ Gg0.out | refine below_set ?_ Gg1.out) | exact HB.out))⟩
  · have HV : Aside0 (((0 : Int), (0 : Int), (0 : Int), (0 : Int), (3 : Int)) = (r1, r2, r3, r4, r5)) := by
      have h := HH.out
      rw [if_neg c1] at h
      exact ⟨Option.some.inj h⟩
    clear HH
    have hv := HV.out
    simp only [Prod.mk.injEq] at hv
    obtain ⟨rfl, rfl, rfl, rfl, rfl⟩ := hv
    have hc : (!(e1 == 0) || !((b.size : Int) == 16)) = true := by
      rw [Bool.or_eq_true]
      by_cases c2 : e1 = 0
      · right
        have : ¬ (b.size : Int) = 16 := fun h => c1 ⟨c2, by omega⟩
        simp [this]
      · left
        simp [c2]
    have HC := Aside0.mk hc
    clear hc
    go_enter Tryd.func27, Tryd.ntmps27
    go_wp2_with (first | ((with_reducible refine gate_dst (N := 2) rfl ?_); refine box_event ?hg (N := 2) ?hd (cs := #[.int .u32 0, .int .u32 0, .int .u32 0, .int .u32 0]) (t := 24) ?hr ?_; (case hd => rfl); (case hg => rfl); (case hr => first | (go_simp; done) | (go_simp; rfl)); intro g0 hg w2 hbox hb; have n0_ := Aside0.mk (below_step (by repeat (first | (with_reducible first | exact HB.out | apply below_alloc | apply pw_below_drewN | apply below_drew1) | exact HB.out)) hb); have n1_ := Aside0.mk hbox; have n2_ := Aside0.mk ((by rw [hg]; exact (below_size HB.out)) : w.heap.size ≤ g0); clear HB; have HB := n0_; have Kg0 := n1_; have Gg0 := n2_; clear n0_ n1_ n2_; clear hb hbox hg) | ((with_reducible refine gate_callee (f := 56) rfl ?_); refine goesL_ (some 11) rfl rfl Tryd.func56 (by kernel_rfl) rfl #[.string a0] rfl (by (try simp only [List.map_toArray, List.map_cons, List.map_nil]); first | done | rfl) ?_; (with_reducible refine (seedcornref02_Parse.calls (8 * a0.size + 40) a0 b q e1 _ A.out).mono ?_); rintro e w3 ⟨rfl, hb⟩; refine ⟨_, rfl, ?_⟩; have n0_ := Aside0.mk (below_step (by repeat (first | (with_reducible first | exact HB.out | apply below_alloc | apply pw_below_drewN | apply below_drew1) | exact HB.out)) hb); have n1_ := Aside0.mk (blk_below Kg0.out hb); clear HB Kg0; have HB := n0_; have Kg0 := n1_; clear n0_ n1_ hb; have cz_0 : w3.cell? ⟨g0, 0, none⟩ = some (.int .u32 0) := (blk_cell Kg0.out 0).trans rfl; have fz_0 := blk_frozen Kg0.out 0; have cz_1 : w3.cell? ⟨g0, 1, none⟩ = some (.int .u32 0) := (blk_cell Kg0.out 1).trans rfl; have fz_1 := blk_frozen Kg0.out 1; have cz_2 : w3.cell? ⟨g0, 2, none⟩ = some (.int .u32 0) := (blk_cell Kg0.out 2).trans rfl; have fz_2 := blk_frozen Kg0.out 2; have cz_3 : w3.cell? ⟨g0, 3, none⟩ = some (.int .u32 0) := (blk_cell Kg0.out 3).trans rfl; have fz_3 := blk_frozen Kg0.out 3))
    all_goals first
      | (refine bodyPost_ret (results_ct rfl _ _ g0 24 #[.int .u32 0, .int .u32 0, .int .u32 0, .int .u32 0] (0, 0) _ rfl (Eq.trans (by (with_reducible repeat (first | exact Kg0.out | apply blk_set | apply blk_drewN | apply blk_drew | apply blk_alloc))) (by rfl)) Tryd.underlying24 rfl (by kernel_rfl)) rfl ?_
         exact ⟨rfl, (by repeat (first | (with_reducible first | exact HB.out | apply below_alloc | apply pw_below_drewN | apply below_drew1 | refine below_set ?_ Gg0.out) | exact HB.out))⟩)
      | exact absurd ⟨by first | rfl | assumption | (simp_all; done), by first | assumption | (simp_all; omega) | omega⟩ c1


end Go.Proofs.YthimgiphlenjdaaDoor.PI
