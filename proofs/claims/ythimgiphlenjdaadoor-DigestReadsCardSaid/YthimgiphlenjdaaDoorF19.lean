/- Contracts of the Go functions of this seat, each over a Lean function of the same answers; written by a program of this session's. -/
import Derived.Test.YthimgiphlenjdaaDoorPIx0
import Derived.Test.YthimgiphlenjdaaDoorHWords
import Derived.Test.YthimgiphlenjdaaDoorHDig
import Derived.Test.YthimgiphlenjdaaDoorHWrite
import Derived.Test.YthimgiphlenjdaaDoorF48
namespace Go.Proofs.YthimgiphlenjdaaDoor.PI
open Go.RowKit Go.Proofs.YthimgiphlenjdaaDoorW.PrintWords Go.Proofs.YthimgiphlenjdaaDoorW.PrintLast Go.Proofs.YthimgiphlenjdaaDoorW.PrintMore
attribute [local go_sem] max2_int min2_int max_two min_two max_three min_three max_four min_four   -- for this text's walks alone
open HX
set_option linter.unusedVariables false
set_option linter.unusedSimpArgs false

/-! ### digest_Parse: function 19 -/
-- import HDig
-- import HWrite
theorem extract_spec (b : ByteArray) (hs : b.size = 16) (s : Nat) (h : s + 4 ≤ 16) : (b.extract s (s + 4)).size = 4 ∧ ∀ j : Nat, j < 4 → bt (b.extract s (s + 4)) (j : Int) = bt b ((s + j : Nat) : Int) := by
  have e : (b.extract s (s + 4)).size = 4 := by rw [ByteArray.size_extract]; omega
  refine ⟨e, fun j hj => ?_⟩
  have h1 : (j : Int).toNat < (b.extract s (s + 4)).size := by omega
  have h2 : ((s + j : Nat) : Int).toNat < b.size := by omega
  rw [← bt_at _ _ h1, ← bt_at _ _ h2]
  simp only [Int.toNat_natCast, ByteArray.getElem_extract]
def digest_Parse.f (a0 : ByteArray) : Option (Int × Int × Int × Int × Int) :=
  (hex_Parse.f (2 * a0.size + 8) a0).bind fun p => if p.2.2 = 0 ∧ p.1.size = 16 then some (pw p.1 0 16, pw p.1 1 16, pw p.1 2 16, pw p.1 3 16, 0) else some (0, 0, 0, 0, 3)
set_option maxHeartbeats 8000000 in
set_option maxRecDepth 100000 in
theorem digest_Parse.calls (a0 : ByteArray) (r1 : Int) (r2 : Int) (r3 : Int) (r4 : Int) (r5 : Int) (w : World) (h : digest_Parse.f a0 = some (r1, r2, r3, r4, r5)) :
    Calls Tryd.prog 19 #[.string a0] w fun e w' => e = .returned (.tuple #[.agg #[.int .u32 r1, .int .u32 r2, .int .u32 r3, .int .u32 r4], .int .i64 r5]) ∧ Below w.heap.size w w' := by
  have hu24 := Tryd.underlying24
  have HB := Aside0.mk (Below.refl w.heap.size w)
  unfold digest_Parse.f at h
  replace h := Option.bind_eq_some_iff.mp h
  obtain ⟨⟨b, q, e1⟩, hA, h⟩ := h
  have A := Aside0.mk hA
  have HH := Aside0.mk h
  clear hA
  clear h
  by_cases c1 : e1 = 0 ∧ b.size = 16
  · obtain ⟨rfl, hs⟩ := c1
    have HV : Aside0 ((pw b 0 16, pw b 1 16, pw b 2 16, pw b 3 16, (0 : Int)) = (r1, r2, r3, r4, r5)) := by
      have h := HH.out
      rw [if_pos ⟨rfl, hs⟩] at h
      exact ⟨Option.some.inj h⟩
    clear HH
    have HS := Aside0.mk hs
    have hsz : (b.size : Int) = 16 := by omega
    clear hs
    go_enter Tryd.func19, Tryd.ntmps19
    go_wp2_with (first | ((with_reducible refine gate_dst (N := 2) rfl ?_); refine box_event ?hg (N := 2) ?hd (cs := #[.int .u32 0, .int .u32 0, .int .u32 0, .int .u32 0]) (t := 24) ?hr ?_; (case hd => rfl); (case hg => rfl); (case hr => first | (go_simp; done) | (go_simp; rfl)); intro g0 hg w2 hbox hb; have n0_ := Aside0.mk (below_step (by repeat (first | (with_reducible first | exact HB.out | apply below_alloc | apply pw_below_drewN | apply below_drew1) | exact HB.out)) hb); have n1_ := Aside0.mk hbox; have n2_ := Aside0.mk ((by rw [hg]; exact (below_size HB.out)) : w.heap.size ≤ g0); clear HB; have HB := n0_; have Kg0 := n1_; have Gg0 := n2_; clear n0_ n1_ n2_; clear hb hbox hg) | ((with_reducible refine gate_callee (f := 48) rfl ?_); refine goesL_ (some 13) rfl rfl Tryd.func48 (by kernel_rfl) rfl #[.string a0] rfl (by (try simp only [List.map_toArray, List.map_cons, List.map_nil]); first | done | rfl) ?_; (with_reducible refine (hex_Parse.calls (2 * a0.size + 8) a0 b q 0 _ A.out).mono ?_); rintro e w3 ⟨rfl, hb⟩; refine ⟨_, rfl, ?_⟩; have n0_ := Aside0.mk (below_step (by repeat (first | (with_reducible first | exact HB.out | apply below_alloc | apply pw_below_drewN | apply below_drew1) | exact HB.out)) hb); have n1_ := Aside0.mk (blk_below Kg0.out hb); clear HB Kg0; have HB := n0_; have Kg0 := n1_; clear n0_ n1_ hb; have cz_0 : w3.cell? ⟨g0, 0, none⟩ = some (.int .u32 0) := (blk_cell Kg0.out 0).trans rfl; have fz_0 := blk_frozen Kg0.out 0; have cz_1 : w3.cell? ⟨g0, 1, none⟩ = some (.int .u32 0) := (blk_cell Kg0.out 1).trans rfl; have fz_1 := blk_frozen Kg0.out 1; have cz_2 : w3.cell? ⟨g0, 2, none⟩ = some (.int .u32 0) := (blk_cell Kg0.out 2).trans rfl; have fz_2 := blk_frozen Kg0.out 2; have cz_3 : w3.cell? ⟨g0, 3, none⟩ = some (.int .u32 0) := (blk_cell Kg0.out 3).trans rfl; have fz_3 := blk_frozen Kg0.out 3))
    clear cz_0 fz_0 cz_1 fz_1 cz_2 fz_2 cz_3 fz_3
    have lg0 := blk_lt Kg0.out
    have hsz := below_size HB.out
    generalize hgn : w3.heap.size = g1 at lg0 hsz ⊢
    have Ng0g1 : Aside0 (g0 ≠ g1) := ⟨by omega⟩
    have Gg1 : Aside0 (w.heap.size ≤ g1) := ⟨by omega⟩
    have HGg1 := Aside0.mk hgn
    clear hsz hgn lg0
    refine wp_gen (fun w' => Below w.heap.size w w' ∧ w'.heap[g0]? = some (.cells #[.int .u32 0, .int .u32 0, .int .u32 0, .int .u32 0] 24 (0, 0)) ∧ w'.heap[g1]? = some (.cells #[.int .u32 0, .int .u32 0, .int .u32 0, .int .u32 0] 24 (0, 0))) ⟨(by repeat (first | (with_reducible first | exact HB.out | apply below_alloc | apply pw_below_drewN | apply below_drew1 | refine below_set ?_ Gg0.out | refine below_set ?_ Gg1.out) | exact HB.out)), (Eq.trans (by (with_reducible repeat (first | exact Kg0.out | apply blk_set | apply far_put Ng0g1.out | apply far_put Ng0g1.out.symm | apply blk_drewN | apply blk_drew | apply blk_alloc))) (by first | rfl)), (Eq.trans (by (with_reducible repeat (first | exact Kg1.out | exact blk_newAt HGg1.out | apply blk_set | apply far_put Ng0g1.out | apply far_put Ng0g1.out.symm | apply blk_drewN | apply blk_drew | apply blk_alloc))) (by first | rfl))⟩ ?_
    try clear K1
    intro wA hF
    clear HB
    obtain ⟨n0_, n1_, n2_⟩ := hF
    try clear Kg0
    try clear Kg1
    have HB := Aside0.mk n0_
    have Kg0 := Aside0.mk n1_
    have Kg1 := Aside0.mk n2_
    clear n0_ n1_ n2_
    have fg0g1 : (g0 = g1) = False := eq_false Ng0g1.out
    have fg1g0 : (g1 = g0) = False := eq_false Ng0g1.out.symm
    go_loopg [25] 4 (fun kq v w' => ∃ (i : Nat), v = .int .i64 (i : Int) ∧ Aside0 (i + kq = 4) ∧ Aside0 (Below w.heap.size w w') ∧ Aside0 (w'.heap[g0]? = some (.cells #[.int .u32 0, .int .u32 0, .int .u32 0, .int .u32 0] 24 (0, 0))) ∧ Aside0 (w'.heap[g1]? = some (.cells #[.int .u32 ((pw b 0 (4 * i))), .int .u32 ((pw b 1 (4 * i))), .int .u32 ((pw b 2 (4 * i))), .int .u32 ((pw b 3 (4 * i)))] 24 (0, 0))))
    case atStart => exact ⟨0, by first | rfl | (simp; done), ⟨rfl⟩, HB, Kg0, Kg1⟩
    case round =>
      clear HB Kg0 Kg1
      obtain ⟨i, rfl, HA, HB, Kg0, Kg1⟩ := hrel
      have hi : i ≤ 4 := by have := HA.out; omega
      have hcase : i = 0 ∨ i = 1 ∨ i = 2 ∨ i = 3 ∨ i = 4 := by omega
      rcases hcase with rfl | rfl | rfl | rfl | rfl
      · obtain rfl : gk = 3 + 1 := by have := HA.out; omega
        clear HA hi
        obtain ⟨hx1, hx2⟩ := extract_spec b HS.out 0 (by decide)
        have HX1 := Aside0.mk hx1
        have HX2 := Aside0.mk hx2
        clear hx1 hx2
        have kb := fun W => print_bytes (P := Tryd.prog) 9 41 5 Tryd.underlying9 Tryd.underlying41 Tryd.underlying5 (b.extract 0 (0 + 4)) W
        go_wp2_with (first | ((with_reducible refine gate_dst (N := 35) rfl ?_); refine bytes_event ?hg (N := 35) ?hd 5 (b.extract 0 (0 + 4)) 4 HX1.out ?hr ?_; (case hd => rfl); (case hg => rfl); (case hr => first | (go_simp; done) | (go_simp; rfl)); intro gb cb hg w6 hcells hb; have HC := Aside0.mk hcells; have n0_ := Aside0.mk (below_step (by repeat (first | (with_reducible first | exact HB.out | apply below_alloc | apply pw_below_drewN | apply below_drew1) | exact HB.out)) hb); have n1_ := Aside0.mk (blk_below Kg0.out hb); have n2_ := Aside0.mk (blk_below Kg1.out hb); have n3_ := Aside0.mk (show gb ≠ g1 by rw [hg]; exact (Nat.ne_of_lt (blk_lt Kg1.out)).symm); clear HB Kg0 Kg1 hcells hb hg kb; have HB := n0_; have Kg0 := n1_; have Kg1 := n2_; have Nb := n3_; clear n0_ n1_ n2_ n3_))
        have cg1_0 : w6.cell? ⟨g1, 0, none⟩ = some (.int .u32 (pw b 0 0)) := (blk_cell Kg1.out 0).trans rfl
        have zg1_0 := blk_frozen Kg1.out 0
        have cg1_1 : w6.cell? ⟨g1, 1, none⟩ = some (.int .u32 (pw b 1 0)) := (blk_cell Kg1.out 1).trans rfl
        have zg1_1 := blk_frozen Kg1.out 1
        have cg1_2 : w6.cell? ⟨g1, 2, none⟩ = some (.int .u32 (pw b 2 0)) := (blk_cell Kg1.out 2).trans rfl
        have zg1_2 := blk_frozen Kg1.out 2
        have cg1_3 : w6.cell? ⟨g1, 3, none⟩ = some (.int .u32 (pw b 3 0)) := (blk_cell Kg1.out 3).trans rfl
        have zg1_3 := blk_frozen Kg1.out 3
        have fb1 : (gb = g1) = False := eq_false Nb.out
        have fb2 : (g1 = gb) = False := eq_false Nb.out.symm
        have cb_0 : w6.cell? ⟨gb, 0, none⟩ = some (.int .u8 (bt b 0)) := (HC.out 0 (by decide)).trans (congrArg (fun x => some (Value.int .u8 x)) (HX2.out 0 (by decide)))
        have hm_0 : bt b 0 % 4294967296 = bt b 0 := by have := bt_range b 0; omega
        have cb_1 : w6.cell? ⟨gb, 1, none⟩ = some (.int .u8 (bt b 1)) := (HC.out 1 (by decide)).trans (congrArg (fun x => some (Value.int .u8 x)) (HX2.out 1 (by decide)))
        have hm_1 : bt b 1 % 4294967296 = bt b 1 := by have := bt_range b 1; omega
        have cb_2 : w6.cell? ⟨gb, 2, none⟩ = some (.int .u8 (bt b 2)) := (HC.out 2 (by decide)).trans (congrArg (fun x => some (Value.int .u8 x)) (HX2.out 2 (by decide)))
        have hm_2 : bt b 2 % 4294967296 = bt b 2 := by have := bt_range b 2; omega
        have cb_3 : w6.cell? ⟨gb, 3, none⟩ = some (.int .u8 (bt b 3)) := (HC.out 3 (by decide)).trans (congrArg (fun x => some (Value.int .u8 x)) (HX2.out 3 (by decide)))
        have hm_3 : bt b 3 % 4294967296 = bt b 3 := by have := bt_range b 3; omega
        go_wp2
        refine wp_loop_in (inLoop_k fun K1 hK1 => ?_)
        go_wp2
        try clear hK1
        try clear K1
        refine inLoop_k fun K1 hK1 => ?_
        go_wp2
        try clear hK1
        try clear K1
        refine inLoop_gen (fun w' => Below w.heap.size w w' ∧ w'.heap[g0]? = some (.cells #[.int .u32 0, .int .u32 0, .int .u32 0, .int .u32 0] 24 (0, 0)) ∧ w'.heap[g1]? = some (.cells #[.int .u32 ((pw b 0 2)), .int .u32 ((pw b 1 0)), .int .u32 ((pw b 2 0)), .int .u32 ((pw b 3 0))] 24 (0, 0)) ∧ w'.cell? ⟨gb, 2, none⟩ = some (.int .u8 (bt b 2)) ∧ w'.cell? ⟨gb, 3, none⟩ = some (.int .u8 (bt b 3))) ⟨(by repeat (first | (with_reducible first | exact HB.out | apply below_alloc | apply pw_below_drewN | apply below_drew1 | refine below_set ?_ Gg0.out | refine below_set ?_ Gg1.out) | exact HB.out)), (Eq.trans (by (with_reducible repeat (first | exact Kg0.out | apply blk_set | apply far_put Ng0g1.out | apply far_put Ng0g1.out.symm | apply blk_drewN | apply blk_drew | apply blk_alloc))) (by first | rfl)), (Eq.trans (by (with_reducible repeat (first | exact Kg1.out | apply blk_set | apply far_put Ng0g1.out | apply far_put Ng0g1.out.symm | apply blk_drewN | apply blk_drew | apply blk_alloc))) (by first | rfl)), (World.cell?_setCell_far _ _ _ _ Nb.out.symm).trans ((World.cell?_setCell_far _ _ _ _ Nb.out.symm).trans cb_2), (World.cell?_setCell_far _ _ _ _ Nb.out.symm).trans ((World.cell?_setCell_far _ _ _ _ Nb.out.symm).trans cb_3)⟩ ?_
        clear cg1_0 zg1_0 cb_0 cg1_1 zg1_1 cb_1 cg1_2 zg1_2 cb_2 cg1_3 zg1_3 cb_3 HC
        intro w7 hF
        clear HB Kg0 Kg1
        obtain ⟨n0_, n1_, n2_, cb_2, cb_3⟩ := hF
        have HB := Aside0.mk n0_
        have Kg0 := Aside0.mk n1_
        have Kg1 := Aside0.mk n2_
        clear n0_ n1_ n2_
        have cg1_0 : w7.cell? ⟨g1, 0, none⟩ = some (.int .u32 (pw b 0 2)) := (blk_cell Kg1.out 0).trans rfl
        have zg1_0 := blk_frozen Kg1.out 0
        have cg1_1 : w7.cell? ⟨g1, 1, none⟩ = some (.int .u32 (pw b 1 0)) := (blk_cell Kg1.out 1).trans rfl
        have zg1_1 := blk_frozen Kg1.out 1
        have cg1_2 : w7.cell? ⟨g1, 2, none⟩ = some (.int .u32 (pw b 2 0)) := (blk_cell Kg1.out 2).trans rfl
        have zg1_2 := blk_frozen Kg1.out 2
        have cg1_3 : w7.cell? ⟨g1, 3, none⟩ = some (.int .u32 (pw b 3 0)) := (blk_cell Kg1.out 3).trans rfl
        have zg1_3 := blk_frozen Kg1.out 3
        refine inLoop_k fun K1 hK1 => ?_
        go_wp2
        try clear hK1
        try clear K1
        refine inLoop_k fun K1 hK1 => ?_
        go_wp2
        try clear hK1
        try clear K1
        refine inLoop_k fun K1 hK1 => ?_
        go_wp2
        go_roundg 3
        case measure => omega
        case rel => exact ⟨1, by first | rfl | (simp; done), ⟨rfl⟩, ⟨(by repeat (first | (with_reducible first | exact HB.out | apply below_alloc | apply pw_below_drewN | apply below_drew1 | refine below_set ?_ Gg0.out | refine below_set ?_ Gg1.out) | exact HB.out))⟩, ⟨(Eq.trans (by (with_reducible repeat (first | exact Kg0.out | apply blk_set | apply far_put Ng0g1.out | apply far_put Ng0g1.out.symm | apply blk_drewN | apply blk_drew | apply blk_alloc))) (by first | rfl))⟩, ⟨(Eq.trans (by (with_reducible repeat (first | exact Kg1.out | apply blk_set | apply far_put Ng0g1.out | apply far_put Ng0g1.out.symm | apply blk_drewN | apply blk_drew | apply blk_alloc))) (by first | rfl))⟩⟩
      · obtain rfl : gk = 2 + 1 := by have := HA.out; omega
        clear HA hi
        obtain ⟨hx1, hx2⟩ := extract_spec b HS.out 4 (by decide)
        have HX1 := Aside0.mk hx1
        have HX2 := Aside0.mk hx2
        clear hx1 hx2
        have kb := fun W => print_bytes (P := Tryd.prog) 9 41 5 Tryd.underlying9 Tryd.underlying41 Tryd.underlying5 (b.extract 4 (4 + 4)) W
        go_wp2_with (first | ((with_reducible refine gate_dst (N := 35) rfl ?_); refine bytes_event ?hg (N := 35) ?hd 5 (b.extract 4 (4 + 4)) 4 HX1.out ?hr ?_; (case hd => rfl); (case hg => rfl); (case hr => first | (go_simp; done) | (go_simp; rfl)); intro gb cb hg w6 hcells hb; have HC := Aside0.mk hcells; have n0_ := Aside0.mk (below_step (by repeat (first | (with_reducible first | exact HB.out | apply below_alloc | apply pw_below_drewN | apply below_drew1) | exact HB.out)) hb); have n1_ := Aside0.mk (blk_below Kg0.out hb); have n2_ := Aside0.mk (blk_below Kg1.out hb); have n3_ := Aside0.mk (show gb ≠ g1 by rw [hg]; exact (Nat.ne_of_lt (blk_lt Kg1.out)).symm); clear HB Kg0 Kg1 hcells hb hg kb; have HB := n0_; have Kg0 := n1_; have Kg1 := n2_; have Nb := n3_; clear n0_ n1_ n2_ n3_))
        have cg1_0 : w6.cell? ⟨g1, 0, none⟩ = some (.int .u32 (pw b 0 4)) := (blk_cell Kg1.out 0).trans rfl
        have zg1_0 := blk_frozen Kg1.out 0
        have cg1_1 : w6.cell? ⟨g1, 1, none⟩ = some (.int .u32 (pw b 1 4)) := (blk_cell Kg1.out 1).trans rfl
        have zg1_1 := blk_frozen Kg1.out 1
        have cg1_2 : w6.cell? ⟨g1, 2, none⟩ = some (.int .u32 (pw b 2 4)) := (blk_cell Kg1.out 2).trans rfl
        have zg1_2 := blk_frozen Kg1.out 2
        have cg1_3 : w6.cell? ⟨g1, 3, none⟩ = some (.int .u32 (pw b 3 4)) := (blk_cell Kg1.out 3).trans rfl
        have zg1_3 := blk_frozen Kg1.out 3
        have fb1 : (gb = g1) = False := eq_false Nb.out
        have fb2 : (g1 = gb) = False := eq_false Nb.out.symm
        have cb_0 : w6.cell? ⟨gb, 0, none⟩ = some (.int .u8 (bt b 4)) := (HC.out 0 (by decide)).trans (congrArg (fun x => some (Value.int .u8 x)) (HX2.out 0 (by decide)))
        have hm_0 : bt b 4 % 4294967296 = bt b 4 := by have := bt_range b 4; omega
        have cb_1 : w6.cell? ⟨gb, 1, none⟩ = some (.int .u8 (bt b 5)) := (HC.out 1 (by decide)).trans (congrArg (fun x => some (Value.int .u8 x)) (HX2.out 1 (by decide)))
        have hm_1 : bt b 5 % 4294967296 = bt b 5 := by have := bt_range b 5; omega
        have cb_2 : w6.cell? ⟨gb, 2, none⟩ = some (.int .u8 (bt b 6)) := (HC.out 2 (by decide)).trans (congrArg (fun x => some (Value.int .u8 x)) (HX2.out 2 (by decide)))
        have hm_2 : bt b 6 % 4294967296 = bt b 6 := by have := bt_range b 6; omega
        have cb_3 : w6.cell? ⟨gb, 3, none⟩ = some (.int .u8 (bt b 7)) := (HC.out 3 (by decide)).trans (congrArg (fun x => some (Value.int .u8 x)) (HX2.out 3 (by decide)))
        have hm_3 : bt b 7 % 4294967296 = bt b 7 := by have := bt_range b 7; omega
        go_wp2
        refine wp_loop_in (inLoop_k fun K1 hK1 => ?_)
        go_wp2
        try clear hK1
        try clear K1
        refine inLoop_k fun K1 hK1 => ?_
        go_wp2
        try clear hK1
        try clear K1
        refine inLoop_gen (fun w' => Below w.heap.size w w' ∧ w'.heap[g0]? = some (.cells #[.int .u32 0, .int .u32 0, .int .u32 0, .int .u32 0] 24 (0, 0)) ∧ w'.heap[g1]? = some (.cells #[.int .u32 ((pw b 0 4)), .int .u32 ((pw b 1 6)), .int .u32 ((pw b 2 4)), .int .u32 ((pw b 3 4))] 24 (0, 0)) ∧ w'.cell? ⟨gb, 2, none⟩ = some (.int .u8 (bt b 6)) ∧ w'.cell? ⟨gb, 3, none⟩ = some (.int .u8 (bt b 7))) ⟨(by repeat (first | (with_reducible first | exact HB.out | apply below_alloc | apply pw_below_drewN | apply below_drew1 | refine below_set ?_ Gg0.out | refine below_set ?_ Gg1.out) | exact HB.out)), (Eq.trans (by (with_reducible repeat (first | exact Kg0.out | apply blk_set | apply far_put Ng0g1.out | apply far_put Ng0g1.out.symm | apply blk_drewN | apply blk_drew | apply blk_alloc))) (by first | rfl)), (Eq.trans (by (with_reducible repeat (first | exact Kg1.out | apply blk_set | apply far_put Ng0g1.out | apply far_put Ng0g1.out.symm | apply blk_drewN | apply blk_drew | apply blk_alloc))) (by first | rfl)), (World.cell?_setCell_far _ _ _ _ Nb.out.symm).trans ((World.cell?_setCell_far _ _ _ _ Nb.out.symm).trans cb_2), (World.cell?_setCell_far _ _ _ _ Nb.out.symm).trans ((World.cell?_setCell_far _ _ _ _ Nb.out.symm).trans cb_3)⟩ ?_
        clear cg1_0 zg1_0 cb_0 cg1_1 zg1_1 cb_1 cg1_2 zg1_2 cb_2 cg1_3 zg1_3 cb_3 HC
        intro w7 hF
        clear HB Kg0 Kg1
        obtain ⟨n0_, n1_, n2_, cb_2, cb_3⟩ := hF
        have HB := Aside0.mk n0_
        have Kg0 := Aside0.mk n1_
        have Kg1 := Aside0.mk n2_
        clear n0_ n1_ n2_
        have cg1_0 : w7.cell? ⟨g1, 0, none⟩ = some (.int .u32 (pw b 0 4)) := (blk_cell Kg1.out 0).trans rfl
        have zg1_0 := blk_frozen Kg1.out 0
        have cg1_1 : w7.cell? ⟨g1, 1, none⟩ = some (.int .u32 (pw b 1 6)) := (blk_cell Kg1.out 1).trans rfl
        have zg1_1 := blk_frozen Kg1.out 1
        have cg1_2 : w7.cell? ⟨g1, 2, none⟩ = some (.int .u32 (pw b 2 4)) := (blk_cell Kg1.out 2).trans rfl
        have zg1_2 := blk_frozen Kg1.out 2
        have cg1_3 : w7.cell? ⟨g1, 3, none⟩ = some (.int .u32 (pw b 3 4)) := (blk_cell Kg1.out 3).trans rfl
        have zg1_3 := blk_frozen Kg1.out 3
        refine inLoop_k fun K1 hK1 => ?_
        go_wp2
        try clear hK1
        try clear K1
        refine inLoop_k fun K1 hK1 => ?_
        go_wp2
        try clear hK1
        try clear K1
        refine inLoop_k fun K1 hK1 => ?_
        go_wp2
        go_roundg 2
        case measure => omega
        case rel => exact ⟨2, by first | rfl | (simp; done), ⟨rfl⟩, ⟨(by repeat (first | (with_reducible first | exact HB.out | apply below_alloc | apply pw_below_drewN | apply below_drew1 | refine below_set ?_ Gg0.out | refine below_set ?_ Gg1.out) | exact HB.out))⟩, ⟨(Eq.trans (by (with_reducible repeat (first | exact Kg0.out | apply blk_set | apply far_put Ng0g1.out | apply far_put Ng0g1.out.symm | apply blk_drewN | apply blk_drew | apply blk_alloc))) (by first | rfl))⟩, ⟨(Eq.trans (by (with_reducible repeat (first | exact Kg1.out | apply blk_set | apply far_put Ng0g1.out | apply far_put Ng0g1.out.symm | apply blk_drewN | apply blk_drew | apply blk_alloc))) (by first | rfl))⟩⟩
      · obtain rfl : gk = 1 + 1 := by have := HA.out; omega
        clear HA hi
        obtain ⟨hx1, hx2⟩ := extract_spec b HS.out 8 (by decide)
        have HX1 := Aside0.mk hx1
        have HX2 := Aside0.mk hx2
        clear hx1 hx2
        have kb := fun W => print_bytes (P := Tryd.prog) 9 41 5 Tryd.underlying9 Tryd.underlying41 Tryd.underlying5 (b.extract 8 (8 + 4)) W
        go_wp2_with (first | ((with_reducible refine gate_dst (N := 35) rfl ?_); refine bytes_event ?hg (N := 35) ?hd 5 (b.extract 8 (8 + 4)) 4 HX1.out ?hr ?_; (case hd => rfl); (case hg => rfl); (case hr => first | (go_simp; done) | (go_simp; rfl)); intro gb cb hg w6 hcells hb; have HC := Aside0.mk hcells; have n0_ := Aside0.mk (below_step (by repeat (first | (with_reducible first | exact HB.out | apply below_alloc | apply pw_below_drewN | apply below_drew1) | exact HB.out)) hb); have n1_ := Aside0.mk (blk_below Kg0.out hb); have n2_ := Aside0.mk (blk_below Kg1.out hb); have n3_ := Aside0.mk (show gb ≠ g1 by rw [hg]; exact (Nat.ne_of_lt (blk_lt Kg1.out)).symm); clear HB Kg0 Kg1 hcells hb hg kb; have HB := n0_; have Kg0 := n1_; have Kg1 := n2_; have Nb := n3_; clear n0_ n1_ n2_ n3_))
        have cg1_0 : w6.cell? ⟨g1, 0, none⟩ = some (.int .u32 (pw b 0 8)) := (blk_cell Kg1.out 0).trans rfl
        have zg1_0 := blk_frozen Kg1.out 0
        have cg1_1 : w6.cell? ⟨g1, 1, none⟩ = some (.int .u32 (pw b 1 8)) := (blk_cell Kg1.out 1).trans rfl
        have zg1_1 := blk_frozen Kg1.out 1
        have cg1_2 : w6.cell? ⟨g1, 2, none⟩ = some (.int .u32 (pw b 2 8)) := (blk_cell Kg1.out 2).trans rfl
        have zg1_2 := blk_frozen Kg1.out 2
        have cg1_3 : w6.cell? ⟨g1, 3, none⟩ = some (.int .u32 (pw b 3 8)) := (blk_cell Kg1.out 3).trans rfl
        have zg1_3 := blk_frozen Kg1.out 3
        have fb1 : (gb = g1) = False := eq_false Nb.out
        have fb2 : (g1 = gb) = False := eq_false Nb.out.symm
        have cb_0 : w6.cell? ⟨gb, 0, none⟩ = some (.int .u8 (bt b 8)) := (HC.out 0 (by decide)).trans (congrArg (fun x => some (Value.int .u8 x)) (HX2.out 0 (by decide)))
        have hm_0 : bt b 8 % 4294967296 = bt b 8 := by have := bt_range b 8; omega
        have cb_1 : w6.cell? ⟨gb, 1, none⟩ = some (.int .u8 (bt b 9)) := (HC.out 1 (by decide)).trans (congrArg (fun x => some (Value.int .u8 x)) (HX2.out 1 (by decide)))
        have hm_1 : bt b 9 % 4294967296 = bt b 9 := by have := bt_range b 9; omega
        have cb_2 : w6.cell? ⟨gb, 2, none⟩ = some (.int .u8 (bt b 10)) := (HC.out 2 (by decide)).trans (congrArg (fun x => some (Value.int .u8 x)) (HX2.out 2 (by decide)))
        have hm_2 : bt b 10 % 4294967296 = bt b 10 := by have := bt_range b 10; omega
        have cb_3 : w6.cell? ⟨gb, 3, none⟩ = some (.int .u8 (bt b 11)) := (HC.out 3 (by decide)).trans (congrArg (fun x => some (Value.int .u8 x)) (HX2.out 3 (by decide)))
        have hm_3 : bt b 11 % 4294967296 = bt b 11 := by have := bt_range b 11; omega
        go_wp2
        refine wp_loop_in (inLoop_k fun K1 hK1 => ?_)
        go_wp2
        try clear hK1
        try clear K1
        refine inLoop_k fun K1 hK1 => ?_
        go_wp2
        try clear hK1
        try clear K1
        refine inLoop_gen (fun w' => Below w.heap.size w w' ∧ w'.heap[g0]? = some (.cells #[.int .u32 0, .int .u32 0, .int .u32 0, .int .u32 0] 24 (0, 0)) ∧ w'.heap[g1]? = some (.cells #[.int .u32 ((pw b 0 8)), .int .u32 ((pw b 1 8)), .int .u32 ((pw b 2 10)), .int .u32 ((pw b 3 8))] 24 (0, 0)) ∧ w'.cell? ⟨gb, 2, none⟩ = some (.int .u8 (bt b 10)) ∧ w'.cell? ⟨gb, 3, none⟩ = some (.int .u8 (bt b 11))) ⟨(by repeat (first | (with_reducible first | exact HB.out | apply below_alloc | apply pw_below_drewN | apply below_drew1 | refine below_set ?_ Gg0.out | refine below_set ?_ Gg1.out) | exact HB.out)), (Eq.trans (by (with_reducible repeat (first | exact Kg0.out | apply blk_set | apply far_put Ng0g1.out | apply far_put Ng0g1.out.symm | apply blk_drewN | apply blk_drew | apply blk_alloc))) (by first | rfl)), (Eq.trans (by (with_reducible repeat (first | exact Kg1.out | apply blk_set | apply far_put Ng0g1.out | apply far_put Ng0g1.out.symm | apply blk_drewN | apply blk_drew | apply blk_alloc))) (by first | rfl)), (World.cell?_setCell_far _ _ _ _ Nb.out.symm).trans ((World.cell?_setCell_far _ _ _ _ Nb.out.symm).trans cb_2), (World.cell?_setCell_far _ _ _ _ Nb.out.symm).trans ((World.cell?_setCell_far _ _ _ _ Nb.out.symm).trans cb_3)⟩ ?_
        clear cg1_0 zg1_0 cb_0 cg1_1 zg1_1 cb_1 cg1_2 zg1_2 cb_2 cg1_3 zg1_3 cb_3 HC
        intro w7 hF
        clear HB Kg0 Kg1
        obtain ⟨n0_, n1_, n2_, cb_2, cb_3⟩ := hF
        have HB := Aside0.mk n0_
        have Kg0 := Aside0.mk n1_
        have Kg1 := Aside0.mk n2_
        clear n0_ n1_ n2_
        have cg1_0 : w7.cell? ⟨g1, 0, none⟩ = some (.int .u32 (pw b 0 8)) := (blk_cell Kg1.out 0).trans rfl
        have zg1_0 := blk_frozen Kg1.out 0
        have cg1_1 : w7.cell? ⟨g1, 1, none⟩ = some (.int .u32 (pw b 1 8)) := (blk_cell Kg1.out 1).trans rfl
        have zg1_1 := blk_frozen Kg1.out 1
        have cg1_2 : w7.cell? ⟨g1, 2, none⟩ = some (.int .u32 (pw b 2 10)) := (blk_cell Kg1.out 2).trans rfl
        have zg1_2 := blk_frozen Kg1.out 2
        have cg1_3 : w7.cell? ⟨g1, 3, none⟩ = some (.int .u32 (pw b 3 8)) := (blk_cell Kg1.out 3).trans rfl
        have zg1_3 := blk_frozen Kg1.out 3
        refine inLoop_k fun K1 hK1 => ?_
        go_wp2
        try clear hK1
        try clear K1
        refine inLoop_k fun K1 hK1 => ?_
        go_wp2
        try clear hK1
        try clear K1
        refine inLoop_k fun K1 hK1 => ?_
        go_wp2
        go_roundg 1
        case measure => omega
        case rel => exact ⟨3, by first | rfl | (simp; done), ⟨rfl⟩, ⟨(by repeat (first | (with_reducible first | exact HB.out | apply below_alloc | apply pw_below_drewN | apply below_drew1 | refine below_set ?_ Gg0.out | refine below_set ?_ Gg1.out) | exact HB.out))⟩, ⟨(Eq.trans (by (with_reducible repeat (first | exact Kg0.out | apply blk_set | apply far_put Ng0g1.out | apply far_put Ng0g1.out.symm | apply blk_drewN | apply blk_drew | apply blk_alloc))) (by first | rfl))⟩, ⟨(Eq.trans (by (with_reducible repeat (first | exact Kg1.out | apply blk_set | apply far_put Ng0g1.out | apply far_put Ng0g1.out.symm | apply blk_drewN | apply blk_drew | apply blk_alloc))) (by first | rfl))⟩⟩
      · obtain rfl : gk = 0 + 1 := by have := HA.out; omega
        clear HA hi
        obtain ⟨hx1, hx2⟩ := extract_spec b HS.out 12 (by decide)
        have HX1 := Aside0.mk hx1
        have HX2 := Aside0.mk hx2
        clear hx1 hx2
        have kb := fun W => print_bytes (P := Tryd.prog) 9 41 5 Tryd.underlying9 Tryd.underlying41 Tryd.underlying5 (b.extract 12 (12 + 4)) W
        go_wp2_with (first | ((with_reducible refine gate_dst (N := 35) rfl ?_); refine bytes_event ?hg (N := 35) ?hd 5 (b.extract 12 (12 + 4)) 4 HX1.out ?hr ?_; (case hd => rfl); (case hg => rfl); (case hr => first | (go_simp; done) | (go_simp; rfl)); intro gb cb hg w6 hcells hb; have HC := Aside0.mk hcells; have n0_ := Aside0.mk (below_step (by repeat (first | (with_reducible first | exact HB.out | apply below_alloc | apply pw_below_drewN | apply below_drew1) | exact HB.out)) hb); have n1_ := Aside0.mk (blk_below Kg0.out hb); have n2_ := Aside0.mk (blk_below Kg1.out hb); have n3_ := Aside0.mk (show gb ≠ g1 by rw [hg]; exact (Nat.ne_of_lt (blk_lt Kg1.out)).symm); clear HB Kg0 Kg1 hcells hb hg kb; have HB := n0_; have Kg0 := n1_; have Kg1 := n2_; have Nb := n3_; clear n0_ n1_ n2_ n3_))
        have cg1_0 : w6.cell? ⟨g1, 0, none⟩ = some (.int .u32 (pw b 0 12)) := (blk_cell Kg1.out 0).trans rfl
        have zg1_0 := blk_frozen Kg1.out 0
        have cg1_1 : w6.cell? ⟨g1, 1, none⟩ = some (.int .u32 (pw b 1 12)) := (blk_cell Kg1.out 1).trans rfl
        have zg1_1 := blk_frozen Kg1.out 1
        have cg1_2 : w6.cell? ⟨g1, 2, none⟩ = some (.int .u32 (pw b 2 12)) := (blk_cell Kg1.out 2).trans rfl
        have zg1_2 := blk_frozen Kg1.out 2
        have cg1_3 : w6.cell? ⟨g1, 3, none⟩ = some (.int .u32 (pw b 3 12)) := (blk_cell Kg1.out 3).trans rfl
        have zg1_3 := blk_frozen Kg1.out 3
        have fb1 : (gb = g1) = False := eq_false Nb.out
        have fb2 : (g1 = gb) = False := eq_false Nb.out.symm
        have cb_0 : w6.cell? ⟨gb, 0, none⟩ = some (.int .u8 (bt b 12)) := (HC.out 0 (by decide)).trans (congrArg (fun x => some (Value.int .u8 x)) (HX2.out 0 (by decide)))
        have hm_0 : bt b 12 % 4294967296 = bt b 12 := by have := bt_range b 12; omega
        have cb_1 : w6.cell? ⟨gb, 1, none⟩ = some (.int .u8 (bt b 13)) := (HC.out 1 (by decide)).trans (congrArg (fun x => some (Value.int .u8 x)) (HX2.out 1 (by decide)))
        have hm_1 : bt b 13 % 4294967296 = bt b 13 := by have := bt_range b 13; omega
        have cb_2 : w6.cell? ⟨gb, 2, none⟩ = some (.int .u8 (bt b 14)) := (HC.out 2 (by decide)).trans (congrArg (fun x => some (Value.int .u8 x)) (HX2.out 2 (by decide)))
        have hm_2 : bt b 14 % 4294967296 = bt b 14 := by have := bt_range b 14; omega
        have cb_3 : w6.cell? ⟨gb, 3, none⟩ = some (.int .u8 (bt b 15)) := (HC.out 3 (by decide)).trans (congrArg (fun x => some (Value.int .u8 x)) (HX2.out 3 (by decide)))
        have hm_3 : bt b 15 % 4294967296 = bt b 15 := by have := bt_range b 15; omega
        go_wp2
        refine wp_loop_in (inLoop_k fun K1 hK1 => ?_)
        go_wp2
        try clear hK1
        try clear K1
        refine inLoop_k fun K1 hK1 => ?_
        go_wp2
        try clear hK1
        try clear K1
        refine inLoop_gen (fun w' => Below w.heap.size w w' ∧ w'.heap[g0]? = some (.cells #[.int .u32 0, .int .u32 0, .int .u32 0, .int .u32 0] 24 (0, 0)) ∧ w'.heap[g1]? = some (.cells #[.int .u32 ((pw b 0 12)), .int .u32 ((pw b 1 12)), .int .u32 ((pw b 2 12)), .int .u32 ((pw b 3 14))] 24 (0, 0)) ∧ w'.cell? ⟨gb, 2, none⟩ = some (.int .u8 (bt b 14)) ∧ w'.cell? ⟨gb, 3, none⟩ = some (.int .u8 (bt b 15))) ⟨(by repeat (first | (with_reducible first | exact HB.out | apply below_alloc | apply pw_below_drewN | apply below_drew1 | refine below_set ?_ Gg0.out | refine below_set ?_ Gg1.out) | exact HB.out)), (Eq.trans (by (with_reducible repeat (first | exact Kg0.out | apply blk_set | apply far_put Ng0g1.out | apply far_put Ng0g1.out.symm | apply blk_drewN | apply blk_drew | apply blk_alloc))) (by first | rfl)), (Eq.trans (by (with_reducible repeat (first | exact Kg1.out | apply blk_set | apply far_put Ng0g1.out | apply far_put Ng0g1.out.symm | apply blk_drewN | apply blk_drew | apply blk_alloc))) (by first | rfl)), (World.cell?_setCell_far _ _ _ _ Nb.out.symm).trans ((World.cell?_setCell_far _ _ _ _ Nb.out.symm).trans cb_2), (World.cell?_setCell_far _ _ _ _ Nb.out.symm).trans ((World.cell?_setCell_far _ _ _ _ Nb.out.symm).trans cb_3)⟩ ?_
        clear cg1_0 zg1_0 cb_0 cg1_1 zg1_1 cb_1 cg1_2 zg1_2 cb_2 cg1_3 zg1_3 cb_3 HC
        intro w7 hF
        clear HB Kg0 Kg1
        obtain ⟨n0_, n1_, n2_, cb_2, cb_3⟩ := hF
        have HB := Aside0.mk n0_
        have Kg0 := Aside0.mk n1_
        have Kg1 := Aside0.mk n2_
        clear n0_ n1_ n2_
        have cg1_0 : w7.cell? ⟨g1, 0, none⟩ = some (.int .u32 (pw b 0 12)) := (blk_cell Kg1.out 0).trans rfl
        have zg1_0 := blk_frozen Kg1.out 0
        have cg1_1 : w7.cell? ⟨g1, 1, none⟩ = some (.int .u32 (pw b 1 12)) := (blk_cell Kg1.out 1).trans rfl
        have zg1_1 := blk_frozen Kg1.out 1
        have cg1_2 : w7.cell? ⟨g1, 2, none⟩ = some (.int .u32 (pw b 2 12)) := (blk_cell Kg1.out 2).trans rfl
        have zg1_2 := blk_frozen Kg1.out 2
        have cg1_3 : w7.cell? ⟨g1, 3, none⟩ = some (.int .u32 (pw b 3 14)) := (blk_cell Kg1.out 3).trans rfl
        have zg1_3 := blk_frozen Kg1.out 3
        refine inLoop_k fun K1 hK1 => ?_
        go_wp2
        try clear hK1
        try clear K1
        refine inLoop_k fun K1 hK1 => ?_
        go_wp2
        try clear hK1
        try clear K1
        refine inLoop_k fun K1 hK1 => ?_
        go_wp2
        go_roundg 0
        case measure => omega
        case rel => exact ⟨4, by first | rfl | (simp; done), ⟨rfl⟩, ⟨(by repeat (first | (with_reducible first | exact HB.out | apply below_alloc | apply pw_below_drewN | apply below_drew1 | refine below_set ?_ Gg0.out | refine below_set ?_ Gg1.out) | exact HB.out))⟩, ⟨(Eq.trans (by (with_reducible repeat (first | exact Kg0.out | apply blk_set | apply far_put Ng0g1.out | apply far_put Ng0g1.out.symm | apply blk_drewN | apply blk_drew | apply blk_alloc))) (by first | rfl))⟩, ⟨(Eq.trans (by (with_reducible repeat (first | exact Kg1.out | apply blk_set | apply far_put Ng0g1.out | apply far_put Ng0g1.out.symm | apply blk_drewN | apply blk_drew | apply blk_alloc))) (by first | rfl))⟩⟩
      · clear HA hi
        have cg0_0 : wr.cell? ⟨g0, 0, none⟩ = some (.int .u32 0) := (blk_cell Kg0.out 0).trans rfl
        have zg0_0 := blk_frozen Kg0.out 0
        have cg0_1 : wr.cell? ⟨g0, 1, none⟩ = some (.int .u32 0) := (blk_cell Kg0.out 1).trans rfl
        have zg0_1 := blk_frozen Kg0.out 1
        have cg0_2 : wr.cell? ⟨g0, 2, none⟩ = some (.int .u32 0) := (blk_cell Kg0.out 2).trans rfl
        have zg0_2 := blk_frozen Kg0.out 2
        have cg0_3 : wr.cell? ⟨g0, 3, none⟩ = some (.int .u32 0) := (blk_cell Kg0.out 3).trans rfl
        have zg0_3 := blk_frozen Kg0.out 3
        have cg1_0 : wr.cell? ⟨g1, 0, none⟩ = some (.int .u32 (pw b 0 16)) := (blk_cell Kg1.out 0).trans rfl
        have zg1_0 := blk_frozen Kg1.out 0
        have cg1_1 : wr.cell? ⟨g1, 1, none⟩ = some (.int .u32 (pw b 1 16)) := (blk_cell Kg1.out 1).trans rfl
        have zg1_1 := blk_frozen Kg1.out 1
        have cg1_2 : wr.cell? ⟨g1, 2, none⟩ = some (.int .u32 (pw b 2 16)) := (blk_cell Kg1.out 2).trans rfl
        have zg1_2 := blk_frozen Kg1.out 2
        have cg1_3 : wr.cell? ⟨g1, 3, none⟩ = some (.int .u32 (pw b 3 16)) := (blk_cell Kg1.out 3).trans rfl
        have zg1_3 := blk_frozen Kg1.out 3
        have hv := HV.out
        simp only [Prod.mk.injEq] at hv
        obtain ⟨e1, e2, e3, e4, e5⟩ := hv
        have E1 := Aside0.mk e1
        have E2 := Aside0.mk e2
        have E3 := Aside0.mk e3
        have E4 := Aside0.mk e4
        have E5 := Aside0.mk e5
        clear e1 e2 e3 e4 e5
        go_wp2
        refine bodyPost_ret (results_ct rfl _ _ g0 24 #[.int .u32 ((pw b 0 16)), .int .u32 ((pw b 1 16)), .int .u32 ((pw b 2 16)), .int .u32 ((pw b 3 16))] (0, 0) _ rfl (Eq.trans (by (with_reducible repeat (first | exact Kg0.out | apply blk_set | apply far_put Ng0g1.out | apply blk_drewN | apply blk_drew | apply blk_alloc))) (by rfl)) Tryd.underlying24 rfl (by kernel_rfl)) rfl ?_
        exact ⟨by rw [E1.out, E2.out, E3.out, E4.out, ← E5.out]; rfl, (by repeat (first | (with_reducible first | exact HB.out | apply below_alloc | apply pw_below_drewN | apply below_drew1 | refine below_set ?_ Gg0.out | refine below_set ?_ Gg1.out) | exact HB.out))⟩
  · have HV : Aside0 (((0 : Int), (0 : Int), (0 : Int), (0 : Int), (3 : Int)) = (r1, r2, r3, r4, r5)) := by
      have h := HH.out
      rw [if_neg c1] at h
      exact ⟨Option.some.inj h⟩
    clear HH
    have hv := HV.out
    simp only [Prod.mk.injEq] at hv
    obtain ⟨rfl, rfl, rfl, rfl, rfl⟩ := hv
    have hc : (!(e1 == 0) || !((b.size : Int) == 16)) = true := by
      rw [Bool.or_eq_true]
      by_cases c2 : e1 = 0
      · right
        have : ¬ (b.size : Int) = 16 := fun h => c1 ⟨c2, by omega⟩
        simp [this]
      · left
        simp [c2]
    have HC := Aside0.mk hc
    clear hc
    go_enter Tryd.func19, Tryd.ntmps19
    go_wp2_with (first | ((with_reducible refine gate_dst (N := 2) rfl ?_); refine box_event ?hg (N := 2) ?hd (cs := #[.int .u32 0, .int .u32 0, .int .u32 0, .int .u32 0]) (t := 24) ?hr ?_; (case hd => rfl); (case hg => rfl); (case hr => first | (go_simp; done) | (go_simp; rfl)); intro g0 hg w2 hbox hb; have n0_ := Aside0.mk (below_step (by repeat (first | (with_reducible first | exact HB.out | apply below_alloc | apply pw_below_drewN | apply below_drew1) | exact HB.out)) hb); have n1_ := Aside0.mk hbox; have n2_ := Aside0.mk ((by rw [hg]; exact (below_size HB.out)) : w.heap.size ≤ g0); clear HB; have HB := n0_; have Kg0 := n1_; have Gg0 := n2_; clear n0_ n1_ n2_; clear hb hbox hg) | ((with_reducible refine gate_callee (f := 48) rfl ?_); refine goesL_ (some 13) rfl rfl Tryd.func48 (by kernel_rfl) rfl #[.string a0] rfl (by (try simp only [List.map_toArray, List.map_cons, List.map_nil]); first | done | rfl) ?_; (with_reducible refine (hex_Parse.calls (2 * a0.size + 8) a0 b q e1 _ A.out).mono ?_); rintro e w3 ⟨rfl, hb⟩; refine ⟨_, rfl, ?_⟩; have n0_ := Aside0.mk (below_step (by repeat (first | (with_reducible first | exact HB.out | apply below_alloc | apply pw_below_drewN | apply below_drew1) | exact HB.out)) hb); have n1_ := Aside0.mk (blk_below Kg0.out hb); clear HB Kg0; have HB := n0_; have Kg0 := n1_; clear n0_ n1_ hb; have cz_0 : w3.cell? ⟨g0, 0, none⟩ = some (.int .u32 0) := (blk_cell Kg0.out 0).trans rfl; have fz_0 := blk_frozen Kg0.out 0; have cz_1 : w3.cell? ⟨g0, 1, none⟩ = some (.int .u32 0) := (blk_cell Kg0.out 1).trans rfl; have fz_1 := blk_frozen Kg0.out 1; have cz_2 : w3.cell? ⟨g0, 2, none⟩ = some (.int .u32 0) := (blk_cell Kg0.out 2).trans rfl; have fz_2 := blk_frozen Kg0.out 2; have cz_3 : w3.cell? ⟨g0, 3, none⟩ = some (.int .u32 0) := (blk_cell Kg0.out 3).trans rfl; have fz_3 := blk_frozen Kg0.out 3))
    all_goals first
      | (refine bodyPost_ret (results_ct rfl _ _ g0 24 #[.int .u32 0, .int .u32 0, .int .u32 0, .int .u32 0] (0, 0) _ rfl (Eq.trans (by (with_reducible repeat (first | exact Kg0.out | apply blk_set | apply blk_drewN | apply blk_drew | apply blk_alloc))) (by rfl)) Tryd.underlying24 rfl (by kernel_rfl)) rfl ?_
         exact ⟨rfl, (by repeat (first | (with_reducible first | exact HB.out | apply below_alloc | apply pw_below_drewN | apply below_drew1 | refine below_set ?_ Gg0.out) | exact HB.out))⟩)
      | exact absurd ⟨by first | rfl | assumption | (simp_all; done), by first | assumption | (simp_all; omega) | omega⟩ c1


end Go.Proofs.YthimgiphlenjdaaDoor.PI
