/- Contracts of the Go functions of this seat, each over a Lean function of the same answers; written by a program of this session's. -/
import Derived.Test.YthimgiphlenjdaaDoorPIx0
import Derived.Test.YthimgiphlenjdaaDoorHWords
import Derived.Test.YthimgiphlenjdaaDoorHMix
import Derived.Test.YthimgiphlenjdaaDoorHWrite
import Derived.Test.YthimgiphlenjdaaDoorF22
namespace Go.Proofs.YthimgiphlenjdaaDoor.PI
open Go.RowKit Go.Proofs.YthimgiphlenjdaaDoorW.PrintWords Go.Proofs.YthimgiphlenjdaaDoorW.PrintLast Go.Proofs.YthimgiphlenjdaaDoorW.PrintMore
attribute [local go_sem] max2_int min2_int max_two min_two max_three min_three max_four min_four   -- for this text's walks alone
open HX
set_option linter.unusedVariables false
set_option linter.unusedSimpArgs false

/-! ### digest_take: function 47 -/
-- import HMix
-- import HWrite
/-- Blocks of four words, taken in one behind the other. -/
def spongeL : List Int → St → St
  | a :: b :: c :: d :: l, s => spongeL l (mixS ⟨xor32 s.a a, xor32 s.b b, xor32 s.c c, xor32 s.d d, s.e, s.f, s.g, s.h⟩)
  | _, s => s
theorem spongeL_short : ∀ (l : List Int) (s : St), l.length < 4 → spongeL l s = s
  | [], _, _ => rfl
  | [_], _, _ => rfl
  | [_, _], _, _ => rfl
  | [_, _, _], _, _ => rfl
  | _ :: _ :: _ :: _ :: _, _, h => by simp at h; omega
theorem spongeL_step (l : List Int) (s : St) (h : 4 ≤ l.length) : spongeL l s = spongeL (l.drop 4) (mixS ⟨xor32 s.a (rd l 0), xor32 s.b (rd l 1), xor32 s.c (rd l 2), xor32 s.d (rd l 3), s.e, s.f, s.g, s.h⟩) := by
  match l, h with
  | a :: b :: c :: d :: l, _ => rfl
def digest_take.f (a0 : Int) (l1 : List Int) : Option (Int × Int × Int × Int) := if InR a0 then some ((spongeL l1 ⟨a0, 0, 0, 0, 0, 0, 0, 0⟩).a, (spongeL l1 ⟨a0, 0, 0, 0, 0, 0, 0, 0⟩).b, (spongeL l1 ⟨a0, 0, 0, 0, 0, 0, 0, 0⟩).c, (spongeL l1 ⟨a0, 0, 0, 0, 0, 0, 0, 0⟩).d) else none
theorem arrayAt24 (g : Nat) (w : World) : (Instr.arrayAt 24 (.slice (some ⟨g, 0, none⟩) 4 8)).run Tryd.prog w = .ok (.pointer (some ⟨g, 0, none⟩)) w := by
  simp [Instr.arrayAt, run_underlying Tryd.underlying24]
theorem inR0 : InR 0 := by decide
theorem store_step {P : Program} {ops : Array Oper} {o : Oper} {a : Act} {Q : Exit → Act → World → Prop} {Kc : Act → World → Prop} {W w1 : World} (hw : Region.wanted o (yielded ops a.tmps) = true) (hN : o.dst = none) (hrun : (execOp a.eval o).run P W = .ok .skip w1) (h : Kc a w1) : if Region.wanted o (yielded ops a.tmps) = true then Oper.wp P o a W Kc Q else Kc (a.put none undef) W := by
  rw [if_pos hw]
  unfold Oper.wp
  rw [hrun]
  show Kc (a.put o.dst undef) w1
  rw [hN]
  exact h
set_option maxHeartbeats 8000000 in
set_option maxRecDepth 100000 in
theorem digest_take.calls (a0 : Int) (A1 : Option Addr) (c1 : Nat) (l1 : List Int) (r1 : Int) (r2 : Int) (r3 : Int) (r4 : Int) (w : World) (hr1 : Kd.C (Kd.int .u32) w A1 l1.length l1) (hc1 : l1.length ≤ c1) (h : digest_take.f a0 l1 = some (r1, r2, r3, r4)) (htb_ : Tab w) :
    Calls Tryd.prog 47 #[.int .u32 a0, .slice A1 l1.length c1] w fun e w' => e = .returned (.agg #[.int .u32 r1, .int .u32 r2, .int .u32 r3, .int .u32 r4]) ∧ Below w.heap.size w w' := by
  have hu24 := Tryd.underlying24
  have hu31 := Tryd.underlying31
  have HTB := Aside0.mk htb_
  clear htb_
  have hin : InR a0 := by
    unfold digest_take.f at h
    split at h
    · assumption
    · cases h
  obtain ⟨s0, hs0⟩ : ∃ s : St, spongeL l1 ⟨a0, 0, 0, 0, 0, 0, 0, 0⟩ = s := ⟨_, rfl⟩
  have HR : Aside0 (s0.a = r1 ∧ s0.b = r2 ∧ s0.c = r3 ∧ s0.d = r4) := by
    unfold digest_take.f at h
    rw [if_pos hin, hs0] at h
    have e := Option.some.inj h
    simp only [Prod.mk.injEq] at e
    exact ⟨e⟩
  have HS := Aside0.mk (And.intro hs0 (show (St.mk a0 0 0 0 0 0 0 0).Ok from ⟨hin, inR0, inR0, inR0, inR0, inR0, inR0, inR0⟩))
  clear h hin hs0
  have HC := Aside0.mk (And.intro hr1 hc1)
  clear hr1 hc1
  have HB := Aside0.mk (Below.refl w.heap.size w)
  go_enter Tryd.func47, Tryd.ntmps47
  go_wp2_with (first | ((with_reducible refine gate_dst (N := 4) rfl ?_); refine box_event ?hg (N := 4) ?hd (cs := #[.int .u32 0, .int .u32 0, .int .u32 0, .int .u32 0]) (t := 24) ?hr ?_; (case hd => rfl); (case hg => rfl); (case hr => first | (go_simp; done) | (go_simp; rfl)); intro g0 hg w2 hbox hb; have n0_ := Aside0.mk (below_step (by repeat (first | (with_reducible first | exact HB.out | apply below_alloc | apply pw_below_drewN | apply below_drew1) | exact HB.out)) hb); have n1_ := Aside0.mk hbox; have n2_ := Aside0.mk ((by rw [hg]; exact (below_size HB.out)) : w.heap.size ≤ g0); clear HB; have HB := n0_; have Kg0 := n1_; have Gg0 := n2_; clear n0_ n1_ n2_; clear hb hbox hg) | ((with_reducible refine gate_dst (N := 5) rfl ?_); refine box_event ?hg (N := 5) ?hd (cs := #[.int .u32 0, .int .u32 0, .int .u32 0, .int .u32 0, .int .u32 0, .int .u32 0, .int .u32 0, .int .u32 0]) (t := 31) ?hr ?_; (case hd => rfl); (case hg => rfl); (case hr => first | (go_simp; done) | (go_simp; rfl)); intro g1 hg w3 hbox hb; have n0_ := Aside0.mk (below_step (by repeat (first | (with_reducible first | exact HB.out | apply below_alloc | apply pw_below_drewN | apply below_drew1) | exact HB.out)) hb); have n1_ := Aside0.mk hbox; have n2_ := Aside0.mk ((by rw [hg]; exact (below_size HB.out)) : w.heap.size ≤ g1); have n3_ := Aside0.mk (blk_below (by (with_reducible repeat (first | refine blk_drewN ?_ _ | refine blk_drew ?_ | refine blk_alloc ?_ _)); exact Kg0.out) hb); have n4_ := Aside0.mk (show g0 ≠ g1 by rw [hg]; exact Nat.ne_of_lt (blk_lt Kg0.out)); clear HB Kg0; have HB := n0_; have Kg1 := n1_; have Gg1 := n2_; have Kg0 := n3_; have Ng0g1 := n4_; clear n0_ n1_ n2_ n3_ n4_; have cz_0 : w3.cell? ⟨g1, 0, none⟩ = some (.int .u32 0) := (blk_cell Kg1.out 0).trans rfl; have fz_0 := blk_frozen Kg1.out 0; have cz_1 : w3.cell? ⟨g1, 1, none⟩ = some (.int .u32 0) := (blk_cell Kg1.out 1).trans rfl; have fz_1 := blk_frozen Kg1.out 1; have cz_2 : w3.cell? ⟨g1, 2, none⟩ = some (.int .u32 0) := (blk_cell Kg1.out 2).trans rfl; have fz_2 := blk_frozen Kg1.out 2; have cz_3 : w3.cell? ⟨g1, 3, none⟩ = some (.int .u32 0) := (blk_cell Kg1.out 3).trans rfl; have fz_3 := blk_frozen Kg1.out 3; have cz_4 : w3.cell? ⟨g1, 4, none⟩ = some (.int .u32 0) := (blk_cell Kg1.out 4).trans rfl; have fz_4 := blk_frozen Kg1.out 4; have cz_5 : w3.cell? ⟨g1, 5, none⟩ = some (.int .u32 0) := (blk_cell Kg1.out 5).trans rfl; have fz_5 := blk_frozen Kg1.out 5; have cz_6 : w3.cell? ⟨g1, 6, none⟩ = some (.int .u32 0) := (blk_cell Kg1.out 6).trans rfl; have fz_6 := blk_frozen Kg1.out 6; have cz_7 : w3.cell? ⟨g1, 7, none⟩ = some (.int .u32 0) := (blk_cell Kg1.out 7).trans rfl; have fz_7 := blk_frozen Kg1.out 7; clear hb hbox hg))
  go_loopg [1] l1.length (fun kq v w' => ∃ (l : List Int) (A : Option Addr) (c : Nat) (s : St), v = .slice A l.length c ∧ Aside0 (l.length ≤ kq ∧ Kd.C (Kd.int .u32) w A l.length l ∧ l.length ≤ c) ∧ Aside0 (spongeL l s = s0 ∧ s.Ok) ∧ Aside0 (Below w.heap.size w w') ∧ Aside0 (w'.heap[g0]? = some (.cells #[.int .u32 0, .int .u32 0, .int .u32 0, .int .u32 0] 24 (0, 0))) ∧ Aside0 (w'.heap[g1]? = some (.cells #[.int .u32 (s.a), .int .u32 (s.b), .int .u32 (s.c), .int .u32 (s.d), .int .u32 (s.e), .int .u32 (s.f), .int .u32 (s.g), .int .u32 (s.h)] 31 (0, 0))))
  case atStart => exact ⟨l1, A1, c1, ⟨a0, 0, 0, 0, 0, 0, 0, 0⟩, rfl, ⟨Nat.le_refl _, HC.out.1, HC.out.2⟩, HS, ⟨(by repeat (first | (with_reducible first | exact HB.out | apply below_alloc | apply pw_below_drewN | apply below_drew1 | refine below_set ?_ Gg0.out | refine below_set ?_ Gg1.out) | exact HB.out))⟩, ⟨(Eq.trans (by (with_reducible repeat (first | exact Kg0.out | apply blk_set | apply far_put Ng0g1.out | apply far_put Ng0g1.out.symm | apply blk_drewN | apply blk_drew | apply blk_alloc))) (by first | rfl))⟩, ⟨(Eq.trans (by (with_reducible repeat (first | exact Kg1.out | apply blk_set | apply far_put Ng0g1.out | apply far_put Ng0g1.out.symm | apply blk_drewN | apply blk_drew | apply blk_alloc))) (by first | rfl))⟩⟩
  case round =>
    clear HB Kg0 Kg1 HS HC cz_0 fz_0 cz_1 fz_1 cz_2 fz_2 cz_3 fz_3 cz_4 fz_4 cz_5 fz_5 cz_6 fz_6 cz_7 fz_7
    obtain ⟨l, A, c, s, rfl, HL, HS, HB, Kg0, Kg1⟩ := hrel
    by_cases c1 : 4 ≤ l.length
    · obtain ⟨kp, rfl⟩ : ∃ kp, gk = kp + 1 := ⟨gk - 1, by have := HL.out.1; omega⟩
      have c1b : decide ((l.length : Int) ≥ 4) = true := decide_eq_true (by omega)
      have c1c : decide ((4 : Int) ≤ (l.length : Int)) = true := decide_eq_true (by omega)
      have c4c : (4 : Int) ≤ (c : Int) := by have := HL.out.2.2; omega
      have c4d : 4 ≤ c := by have := HL.out.2.2; omega
      obtain ⟨ad, rfl, hx⟩ := HL.out.2.1.2.2 (by omega)
      clear hx
      have HX0 : Aside0 (w.cell? (ad.add 0) = some (.int .u32 (rd l 0))) := by
        obtain ⟨ad_, e_, hx_⟩ := Kd.at_int HL.out.2.1 0 (by omega) (by omega)
        obtain rfl := Option.some.inj e_
        exact ⟨hx_⟩
      have HX1 : Aside0 (w.cell? (ad.add 1) = some (.int .u32 (rd l 1))) := by
        obtain ⟨ad_, e_, hx_⟩ := Kd.at_int HL.out.2.1 1 (by omega) (by omega)
        obtain rfl := Option.some.inj e_
        exact ⟨hx_⟩
      have HX2 : Aside0 (w.cell? (ad.add 2) = some (.int .u32 (rd l 2))) := by
        obtain ⟨ad_, e_, hx_⟩ := Kd.at_int HL.out.2.1 2 (by omega) (by omega)
        obtain rfl := Option.some.inj e_
        exact ⟨hx_⟩
      have HX3 : Aside0 (w.cell? (ad.add 3) = some (.int .u32 (rd l 3))) := by
        obtain ⟨ad_, e_, hx_⟩ := Kd.at_int HL.out.2.1 3 (by omega) (by omega)
        obtain rfl := Option.some.inj e_
        exact ⟨hx_⟩
      have HL4 := Aside0.mk c1
      clear c1
      go_wp2
      refine wp_loop_in ?_
      have fg0g1 : (g0 = g1) = False := eq_false Ng0g1.out
      have fg1g0 : (g1 = g0) = False := eq_false Ng0g1.out.symm
      refine inLoop_gen (fun w' => Below w.heap.size w w' ∧ w'.heap[g0]? = some (.cells #[.int .u32 0, .int .u32 0, .int .u32 0, .int .u32 0] 24 (0, 0)) ∧ w'.heap[g1]? = some (.cells #[.int .u32 (s.a), .int .u32 (s.b), .int .u32 (s.c), .int .u32 (s.d), .int .u32 (s.e), .int .u32 (s.f), .int .u32 (s.g), .int .u32 (s.h)] 31 (0, 0))) ⟨(by repeat (first | (with_reducible first | exact HB.out | apply below_alloc | apply pw_below_drewN | apply below_drew1 | refine below_set ?_ Gg0.out | refine below_set ?_ Gg1.out) | exact HB.out)), (Eq.trans (by (with_reducible repeat (first | exact Kg0.out | apply blk_set | apply far_put Ng0g1.out | apply far_put Ng0g1.out.symm | apply blk_drewN | apply blk_drew | apply blk_alloc))) (by first | rfl)), (Eq.trans (by (with_reducible repeat (first | exact Kg1.out | apply blk_set | apply far_put Ng0g1.out | apply far_put Ng0g1.out.symm | apply blk_drewN | apply blk_drew | apply blk_alloc))) (by first | rfl))⟩ ?_
      try clear K1
      intro wA hF
      clear HB
      obtain ⟨n0_, n1_, n2_⟩ := hF
      try clear Kg0
      try clear Kg1
      have HB := Aside0.mk n0_
      have Kg0 := Aside0.mk n1_
      have Kg1 := Aside0.mk n2_
      clear n0_ n1_ n2_
      have cg0_0 : wA.cell? ⟨g0, 0, none⟩ = some (.int .u32 0) := (blk_cell Kg0.out 0).trans rfl
      have zg0_0 := blk_frozen Kg0.out 0
      have cg0_1 : wA.cell? ⟨g0, 1, none⟩ = some (.int .u32 0) := (blk_cell Kg0.out 1).trans rfl
      have zg0_1 := blk_frozen Kg0.out 1
      have cg0_2 : wA.cell? ⟨g0, 2, none⟩ = some (.int .u32 0) := (blk_cell Kg0.out 2).trans rfl
      have zg0_2 := blk_frozen Kg0.out 2
      have cg0_3 : wA.cell? ⟨g0, 3, none⟩ = some (.int .u32 0) := (blk_cell Kg0.out 3).trans rfl
      have zg0_3 := blk_frozen Kg0.out 3
      have cg1_0 : wA.cell? ⟨g1, 0, none⟩ = some (.int .u32 s.a) := (blk_cell Kg1.out 0).trans rfl
      have zg1_0 := blk_frozen Kg1.out 0
      have cg1_1 : wA.cell? ⟨g1, 1, none⟩ = some (.int .u32 s.b) := (blk_cell Kg1.out 1).trans rfl
      have zg1_1 := blk_frozen Kg1.out 1
      have cg1_2 : wA.cell? ⟨g1, 2, none⟩ = some (.int .u32 s.c) := (blk_cell Kg1.out 2).trans rfl
      have zg1_2 := blk_frozen Kg1.out 2
      have cg1_3 : wA.cell? ⟨g1, 3, none⟩ = some (.int .u32 s.d) := (blk_cell Kg1.out 3).trans rfl
      have zg1_3 := blk_frozen Kg1.out 3
      have cg1_4 : wA.cell? ⟨g1, 4, none⟩ = some (.int .u32 s.e) := (blk_cell Kg1.out 4).trans rfl
      have zg1_4 := blk_frozen Kg1.out 4
      have cg1_5 : wA.cell? ⟨g1, 5, none⟩ = some (.int .u32 s.f) := (blk_cell Kg1.out 5).trans rfl
      have zg1_5 := blk_frozen Kg1.out 5
      have cg1_6 : wA.cell? ⟨g1, 6, none⟩ = some (.int .u32 s.g) := (blk_cell Kg1.out 6).trans rfl
      have zg1_6 := blk_frozen Kg1.out 6
      have cg1_7 : wA.cell? ⟨g1, 7, none⟩ = some (.int .u32 s.h) := (blk_cell Kg1.out 7).trans rfl
      have zg1_7 := blk_frozen Kg1.out 7
      have hx0 : wA.cell? (ad.add 0) = some (.int .u32 (rd l 0)) := (HB.out.cell (World.block_lt_of_cell? w _ HX0.out)).trans HX0.out
      have hx0' : wA.cell? ad = some (.int .u32 (rd l 0)) := hx0
      refine inLoop_k fun K1 hK1 => ?_
      go_wp2
      try clear hK1
      clear hx0 hx0'
      refine inLoop_gen (fun w' => Below w.heap.size w w' ∧ w'.heap[g0]? = some (.cells #[.int .u32 0, .int .u32 0, .int .u32 0, .int .u32 0] 24 (0, 0)) ∧ w'.heap[g1]? = some (.cells #[.int .u32 ((bits .xor .u32 s.a (rd l 0))), .int .u32 (s.b), .int .u32 (s.c), .int .u32 (s.d), .int .u32 (s.e), .int .u32 (s.f), .int .u32 (s.g), .int .u32 (s.h)] 31 (0, 0))) ⟨(by repeat (first | (with_reducible first | exact HB.out | apply below_alloc | apply pw_below_drewN | apply below_drew1 | refine below_set ?_ Gg0.out | refine below_set ?_ Gg1.out) | exact HB.out)), (Eq.trans (by (with_reducible repeat (first | exact Kg0.out | apply blk_set | apply far_put Ng0g1.out | apply far_put Ng0g1.out.symm | apply blk_drewN | apply blk_drew | apply blk_alloc))) (by first | rfl)), (Eq.trans (by (with_reducible repeat (first | exact Kg1.out | apply blk_set | apply far_put Ng0g1.out | apply far_put Ng0g1.out.symm | apply blk_drewN | apply blk_drew | apply blk_alloc))) (by first | rfl))⟩ ?_
      clear cg0_0 zg0_0 cg0_1 zg0_1 cg0_2 zg0_2 cg0_3 zg0_3
      clear cg1_0 zg1_0 cg1_1 zg1_1 cg1_2 zg1_2 cg1_3 zg1_3 cg1_4 zg1_4 cg1_5 zg1_5 cg1_6 zg1_6 cg1_7 zg1_7
      try clear K1
      intro wA hF
      clear HB
      obtain ⟨n0_, n1_, n2_⟩ := hF
      try clear Kg0
      try clear Kg1
      have HB := Aside0.mk n0_
      have Kg0 := Aside0.mk n1_
      have Kg1 := Aside0.mk n2_
      clear n0_ n1_ n2_
      have cg0_0 : wA.cell? ⟨g0, 0, none⟩ = some (.int .u32 0) := (blk_cell Kg0.out 0).trans rfl
      have zg0_0 := blk_frozen Kg0.out 0
      have cg0_1 : wA.cell? ⟨g0, 1, none⟩ = some (.int .u32 0) := (blk_cell Kg0.out 1).trans rfl
      have zg0_1 := blk_frozen Kg0.out 1
      have cg0_2 : wA.cell? ⟨g0, 2, none⟩ = some (.int .u32 0) := (blk_cell Kg0.out 2).trans rfl
      have zg0_2 := blk_frozen Kg0.out 2
      have cg0_3 : wA.cell? ⟨g0, 3, none⟩ = some (.int .u32 0) := (blk_cell Kg0.out 3).trans rfl
      have zg0_3 := blk_frozen Kg0.out 3
      have cg1_0 : wA.cell? ⟨g1, 0, none⟩ = some (.int .u32 (bits .xor .u32 s.a (rd l 0))) := (blk_cell Kg1.out 0).trans rfl
      have zg1_0 := blk_frozen Kg1.out 0
      have cg1_1 : wA.cell? ⟨g1, 1, none⟩ = some (.int .u32 s.b) := (blk_cell Kg1.out 1).trans rfl
      have zg1_1 := blk_frozen Kg1.out 1
      have cg1_2 : wA.cell? ⟨g1, 2, none⟩ = some (.int .u32 s.c) := (blk_cell Kg1.out 2).trans rfl
      have zg1_2 := blk_frozen Kg1.out 2
      have cg1_3 : wA.cell? ⟨g1, 3, none⟩ = some (.int .u32 s.d) := (blk_cell Kg1.out 3).trans rfl
      have zg1_3 := blk_frozen Kg1.out 3
      have cg1_4 : wA.cell? ⟨g1, 4, none⟩ = some (.int .u32 s.e) := (blk_cell Kg1.out 4).trans rfl
      have zg1_4 := blk_frozen Kg1.out 4
      have cg1_5 : wA.cell? ⟨g1, 5, none⟩ = some (.int .u32 s.f) := (blk_cell Kg1.out 5).trans rfl
      have zg1_5 := blk_frozen Kg1.out 5
      have cg1_6 : wA.cell? ⟨g1, 6, none⟩ = some (.int .u32 s.g) := (blk_cell Kg1.out 6).trans rfl
      have zg1_6 := blk_frozen Kg1.out 6
      have cg1_7 : wA.cell? ⟨g1, 7, none⟩ = some (.int .u32 s.h) := (blk_cell Kg1.out 7).trans rfl
      have zg1_7 := blk_frozen Kg1.out 7
      have hx1 : wA.cell? ⟨ad.block, ad.off + 1, none⟩ = some (.int .u32 (rd l 1)) := (HB.out.cell (World.block_lt_of_cell? w _ HX1.out)).trans HX1.out
      refine inLoop_k fun K1 hK1 => ?_
      go_wp2
      try clear hK1
      clear hx1
      refine inLoop_gen (fun w' => Below w.heap.size w w' ∧ w'.heap[g0]? = some (.cells #[.int .u32 0, .int .u32 0, .int .u32 0, .int .u32 0] 24 (0, 0)) ∧ w'.heap[g1]? = some (.cells #[.int .u32 ((bits .xor .u32 s.a (rd l 0))), .int .u32 ((bits .xor .u32 s.b (rd l 1))), .int .u32 (s.c), .int .u32 (s.d), .int .u32 (s.e), .int .u32 (s.f), .int .u32 (s.g), .int .u32 (s.h)] 31 (0, 0))) ⟨(by repeat (first | (with_reducible first | exact HB.out | apply below_alloc | apply pw_below_drewN | apply below_drew1 | refine below_set ?_ Gg0.out | refine below_set ?_ Gg1.out) | exact HB.out)), (Eq.trans (by (with_reducible repeat (first | exact Kg0.out | apply blk_set | apply far_put Ng0g1.out | apply far_put Ng0g1.out.symm | apply blk_drewN | apply blk_drew | apply blk_alloc))) (by first | rfl)), (Eq.trans (by (with_reducible repeat (first | exact Kg1.out | apply blk_set | apply far_put Ng0g1.out | apply far_put Ng0g1.out.symm | apply blk_drewN | apply blk_drew | apply blk_alloc))) (by first | rfl))⟩ ?_
      clear cg0_0 zg0_0 cg0_1 zg0_1 cg0_2 zg0_2 cg0_3 zg0_3
      clear cg1_0 zg1_0 cg1_1 zg1_1 cg1_2 zg1_2 cg1_3 zg1_3 cg1_4 zg1_4 cg1_5 zg1_5 cg1_6 zg1_6 cg1_7 zg1_7
      try clear K1
      intro wA hF
      clear HB
      obtain ⟨n0_, n1_, n2_⟩ := hF
      try clear Kg0
      try clear Kg1
      have HB := Aside0.mk n0_
      have Kg0 := Aside0.mk n1_
      have Kg1 := Aside0.mk n2_
      clear n0_ n1_ n2_
      have cg0_0 : wA.cell? ⟨g0, 0, none⟩ = some (.int .u32 0) := (blk_cell Kg0.out 0).trans rfl
      have zg0_0 := blk_frozen Kg0.out 0
      have cg0_1 : wA.cell? ⟨g0, 1, none⟩ = some (.int .u32 0) := (blk_cell Kg0.out 1).trans rfl
      have zg0_1 := blk_frozen Kg0.out 1
      have cg0_2 : wA.cell? ⟨g0, 2, none⟩ = some (.int .u32 0) := (blk_cell Kg0.out 2).trans rfl
      have zg0_2 := blk_frozen Kg0.out 2
      have cg0_3 : wA.cell? ⟨g0, 3, none⟩ = some (.int .u32 0) := (blk_cell Kg0.out 3).trans rfl
      have zg0_3 := blk_frozen Kg0.out 3
      have cg1_0 : wA.cell? ⟨g1, 0, none⟩ = some (.int .u32 (bits .xor .u32 s.a (rd l 0))) := (blk_cell Kg1.out 0).trans rfl
      have zg1_0 := blk_frozen Kg1.out 0
      have cg1_1 : wA.cell? ⟨g1, 1, none⟩ = some (.int .u32 (bits .xor .u32 s.b (rd l 1))) := (blk_cell Kg1.out 1).trans rfl
      have zg1_1 := blk_frozen Kg1.out 1
      have cg1_2 : wA.cell? ⟨g1, 2, none⟩ = some (.int .u32 s.c) := (blk_cell Kg1.out 2).trans rfl
      have zg1_2 := blk_frozen Kg1.out 2
      have cg1_3 : wA.cell? ⟨g1, 3, none⟩ = some (.int .u32 s.d) := (blk_cell Kg1.out 3).trans rfl
      have zg1_3 := blk_frozen Kg1.out 3
      have cg1_4 : wA.cell? ⟨g1, 4, none⟩ = some (.int .u32 s.e) := (blk_cell Kg1.out 4).trans rfl
      have zg1_4 := blk_frozen Kg1.out 4
      have cg1_5 : wA.cell? ⟨g1, 5, none⟩ = some (.int .u32 s.f) := (blk_cell Kg1.out 5).trans rfl
      have zg1_5 := blk_frozen Kg1.out 5
      have cg1_6 : wA.cell? ⟨g1, 6, none⟩ = some (.int .u32 s.g) := (blk_cell Kg1.out 6).trans rfl
      have zg1_6 := blk_frozen Kg1.out 6
      have cg1_7 : wA.cell? ⟨g1, 7, none⟩ = some (.int .u32 s.h) := (blk_cell Kg1.out 7).trans rfl
      have zg1_7 := blk_frozen Kg1.out 7
      have hx2 : wA.cell? ⟨ad.block, ad.off + 2, none⟩ = some (.int .u32 (rd l 2)) := (HB.out.cell (World.block_lt_of_cell? w _ HX2.out)).trans HX2.out
      refine inLoop_k fun K1 hK1 => ?_
      go_wp2
      try clear hK1
      clear hx2
      refine inLoop_gen (fun w' => Below w.heap.size w w' ∧ w'.heap[g0]? = some (.cells #[.int .u32 0, .int .u32 0, .int .u32 0, .int .u32 0] 24 (0, 0)) ∧ w'.heap[g1]? = some (.cells #[.int .u32 ((bits .xor .u32 s.a (rd l 0))), .int .u32 ((bits .xor .u32 s.b (rd l 1))), .int .u32 ((bits .xor .u32 s.c (rd l 2))), .int .u32 (s.d), .int .u32 (s.e), .int .u32 (s.f), .int .u32 (s.g), .int .u32 (s.h)] 31 (0, 0))) ⟨(by repeat (first | (with_reducible first | exact HB.out | apply below_alloc | apply pw_below_drewN | apply below_drew1 | refine below_set ?_ Gg0.out | refine below_set ?_ Gg1.out) | exact HB.out)), (Eq.trans (by (with_reducible repeat (first | exact Kg0.out | apply blk_set | apply far_put Ng0g1.out | apply far_put Ng0g1.out.symm | apply blk_drewN | apply blk_drew | apply blk_alloc))) (by first | rfl)), (Eq.trans (by (with_reducible repeat (first | exact Kg1.out | apply blk_set | apply far_put Ng0g1.out | apply far_put Ng0g1.out.symm | apply blk_drewN | apply blk_drew | apply blk_alloc))) (by first | rfl))⟩ ?_
      clear cg0_0 zg0_0 cg0_1 zg0_1 cg0_2 zg0_2 cg0_3 zg0_3
      clear cg1_0 zg1_0 cg1_1 zg1_1 cg1_2 zg1_2 cg1_3 zg1_3 cg1_4 zg1_4 cg1_5 zg1_5 cg1_6 zg1_6 cg1_7 zg1_7
      try clear K1
      intro wA hF
      clear HB
      obtain ⟨n0_, n1_, n2_⟩ := hF
      try clear Kg0
      try clear Kg1
      have HB := Aside0.mk n0_
      have Kg0 := Aside0.mk n1_
      have Kg1 := Aside0.mk n2_
      clear n0_ n1_ n2_
      have cg0_0 : wA.cell? ⟨g0, 0, none⟩ = some (.int .u32 0) := (blk_cell Kg0.out 0).trans rfl
      have zg0_0 := blk_frozen Kg0.out 0
      have cg0_1 : wA.cell? ⟨g0, 1, none⟩ = some (.int .u32 0) := (blk_cell Kg0.out 1).trans rfl
      have zg0_1 := blk_frozen Kg0.out 1
      have cg0_2 : wA.cell? ⟨g0, 2, none⟩ = some (.int .u32 0) := (blk_cell Kg0.out 2).trans rfl
      have zg0_2 := blk_frozen Kg0.out 2
      have cg0_3 : wA.cell? ⟨g0, 3, none⟩ = some (.int .u32 0) := (blk_cell Kg0.out 3).trans rfl
      have zg0_3 := blk_frozen Kg0.out 3
      have cg1_0 : wA.cell? ⟨g1, 0, none⟩ = some (.int .u32 (bits .xor .u32 s.a (rd l 0))) := (blk_cell Kg1.out 0).trans rfl
      have zg1_0 := blk_frozen Kg1.out 0
      have cg1_1 : wA.cell? ⟨g1, 1, none⟩ = some (.int .u32 (bits .xor .u32 s.b (rd l 1))) := (blk_cell Kg1.out 1).trans rfl
      have zg1_1 := blk_frozen Kg1.out 1
      have cg1_2 : wA.cell? ⟨g1, 2, none⟩ = some (.int .u32 (bits .xor .u32 s.c (rd l 2))) := (blk_cell Kg1.out 2).trans rfl
      have zg1_2 := blk_frozen Kg1.out 2
      have cg1_3 : wA.cell? ⟨g1, 3, none⟩ = some (.int .u32 s.d) := (blk_cell Kg1.out 3).trans rfl
      have zg1_3 := blk_frozen Kg1.out 3
      have cg1_4 : wA.cell? ⟨g1, 4, none⟩ = some (.int .u32 s.e) := (blk_cell Kg1.out 4).trans rfl
      have zg1_4 := blk_frozen Kg1.out 4
      have cg1_5 : wA.cell? ⟨g1, 5, none⟩ = some (.int .u32 s.f) := (blk_cell Kg1.out 5).trans rfl
      have zg1_5 := blk_frozen Kg1.out 5
      have cg1_6 : wA.cell? ⟨g1, 6, none⟩ = some (.int .u32 s.g) := (blk_cell Kg1.out 6).trans rfl
      have zg1_6 := blk_frozen Kg1.out 6
      have cg1_7 : wA.cell? ⟨g1, 7, none⟩ = some (.int .u32 s.h) := (blk_cell Kg1.out 7).trans rfl
      have zg1_7 := blk_frozen Kg1.out 7
      have hx3 : wA.cell? ⟨ad.block, ad.off + 3, none⟩ = some (.int .u32 (rd l 3)) := (HB.out.cell (World.block_lt_of_cell? w _ HX3.out)).trans HX3.out
      refine inLoop_k fun K1 hK1 => ?_
      go_wp2
      try clear hK1
      clear hx3
      refine inLoop_gen (fun w' => Below w.heap.size w w' ∧ w'.heap[g0]? = some (.cells #[.int .u32 0, .int .u32 0, .int .u32 0, .int .u32 0] 24 (0, 0)) ∧ w'.heap[g1]? = some (.cells #[.int .u32 ((bits .xor .u32 s.a (rd l 0))), .int .u32 ((bits .xor .u32 s.b (rd l 1))), .int .u32 ((bits .xor .u32 s.c (rd l 2))), .int .u32 ((bits .xor .u32 s.d (rd l 3))), .int .u32 (s.e), .int .u32 (s.f), .int .u32 (s.g), .int .u32 (s.h)] 31 (0, 0))) ⟨(by repeat (first | (with_reducible first | exact HB.out | apply below_alloc | apply pw_below_drewN | apply below_drew1 | refine below_set ?_ Gg0.out | refine below_set ?_ Gg1.out) | exact HB.out)), (Eq.trans (by (with_reducible repeat (first | exact Kg0.out | apply blk_set | apply far_put Ng0g1.out | apply far_put Ng0g1.out.symm | apply blk_drewN | apply blk_drew | apply blk_alloc))) (by first | rfl)), (Eq.trans (by (with_reducible repeat (first | exact Kg1.out | apply blk_set | apply far_put Ng0g1.out | apply far_put Ng0g1.out.symm | apply blk_drewN | apply blk_drew | apply blk_alloc))) (by first | rfl))⟩ ?_
      clear cg0_0 zg0_0 cg0_1 zg0_1 cg0_2 zg0_2 cg0_3 zg0_3
      clear cg1_0 zg1_0 cg1_1 zg1_1 cg1_2 zg1_2 cg1_3 zg1_3 cg1_4 zg1_4 cg1_5 zg1_5 cg1_6 zg1_6 cg1_7 zg1_7
      try clear K1
      intro wA hF
      clear HB
      obtain ⟨n0_, n1_, n2_⟩ := hF
      try clear Kg0
      try clear Kg1
      have HB := Aside0.mk n0_
      have Kg0 := Aside0.mk n1_
      have Kg1 := Aside0.mk n2_
      clear n0_ n1_ n2_
      have cg0_0 : wA.cell? ⟨g0, 0, none⟩ = some (.int .u32 0) := (blk_cell Kg0.out 0).trans rfl
      have zg0_0 := blk_frozen Kg0.out 0
      have cg0_1 : wA.cell? ⟨g0, 1, none⟩ = some (.int .u32 0) := (blk_cell Kg0.out 1).trans rfl
      have zg0_1 := blk_frozen Kg0.out 1
      have cg0_2 : wA.cell? ⟨g0, 2, none⟩ = some (.int .u32 0) := (blk_cell Kg0.out 2).trans rfl
      have zg0_2 := blk_frozen Kg0.out 2
      have cg0_3 : wA.cell? ⟨g0, 3, none⟩ = some (.int .u32 0) := (blk_cell Kg0.out 3).trans rfl
      have zg0_3 := blk_frozen Kg0.out 3
      have cg1_0 : wA.cell? ⟨g1, 0, none⟩ = some (.int .u32 (bits .xor .u32 s.a (rd l 0))) := (blk_cell Kg1.out 0).trans rfl
      have zg1_0 := blk_frozen Kg1.out 0
      have cg1_1 : wA.cell? ⟨g1, 1, none⟩ = some (.int .u32 (bits .xor .u32 s.b (rd l 1))) := (blk_cell Kg1.out 1).trans rfl
      have zg1_1 := blk_frozen Kg1.out 1
      have cg1_2 : wA.cell? ⟨g1, 2, none⟩ = some (.int .u32 (bits .xor .u32 s.c (rd l 2))) := (blk_cell Kg1.out 2).trans rfl
      have zg1_2 := blk_frozen Kg1.out 2
      have cg1_3 : wA.cell? ⟨g1, 3, none⟩ = some (.int .u32 (bits .xor .u32 s.d (rd l 3))) := (blk_cell Kg1.out 3).trans rfl
      have zg1_3 := blk_frozen Kg1.out 3
      have cg1_4 : wA.cell? ⟨g1, 4, none⟩ = some (.int .u32 s.e) := (blk_cell Kg1.out 4).trans rfl
      have zg1_4 := blk_frozen Kg1.out 4
      have cg1_5 : wA.cell? ⟨g1, 5, none⟩ = some (.int .u32 s.f) := (blk_cell Kg1.out 5).trans rfl
      have zg1_5 := blk_frozen Kg1.out 5
      have cg1_6 : wA.cell? ⟨g1, 6, none⟩ = some (.int .u32 s.g) := (blk_cell Kg1.out 6).trans rfl
      have zg1_6 := blk_frozen Kg1.out 6
      have cg1_7 : wA.cell? ⟨g1, 7, none⟩ = some (.int .u32 s.h) := (blk_cell Kg1.out 7).trans rfl
      have zg1_7 := blk_frozen Kg1.out 7
      refine inLoop_k fun K1 hK1 => ?_
      go_wp2
      try clear hK1
      clear cg0_0 zg0_0 cg0_1 zg0_1 cg0_2 zg0_2 cg0_3 zg0_3
      clear cg1_0 zg1_0 cg1_1 zg1_1 cg1_2 zg1_2 cg1_3 zg1_3 cg1_4 zg1_4 cg1_5 zg1_5 cg1_6 zg1_6 cg1_7 zg1_7
      try clear K1
      obtain ⟨A', hcut, HC2⟩ := cut4 (some ad) c l HL4.out HL.out.2.1 HL.out.2.2
      have HC3 := Aside0.mk HC2
      clear HC2
      obtain ⟨m, hm⟩ : ∃ m : St, m = mixS ⟨xor32 s.a (rd l 0), xor32 s.b (rd l 1), xor32 s.c (rd l 2), xor32 s.d (rd l 3), s.e, s.f, s.g, s.h⟩ := ⟨_, rfl⟩
      have hmf : digest_Mix.f (bits .xor .u32 s.a (rd l 0)) (bits .xor .u32 s.b (rd l 1)) (bits .xor .u32 s.c (rd l 2)) (bits .xor .u32 s.d (rd l 3)) s.e s.f s.g s.h = some (m.a, m.b, m.c, m.d, m.e, m.f, m.g, m.h) := by
        rw [hm]
        exact if_pos ⟨xor32_range _ _, xor32_range _ _, xor32_range _ _, xor32_range _ _, HS.out.2.2.2.2.2.1, HS.out.2.2.2.2.2.2.1, HS.out.2.2.2.2.2.2.2.1, HS.out.2.2.2.2.2.2.2.2⟩
      have HMF := Aside0.mk hmf
      have HM := Aside0.mk hm
      clear hm hmf
      refine start_ (n := 6) (S := fun w' => w'.heap[g1]? = some (.cells #[.int .u32 ((bits .xor .u32 s.a (rd l 0))), .int .u32 ((bits .xor .u32 s.b (rd l 1))), .int .u32 ((bits .xor .u32 s.c (rd l 2))), .int .u32 ((bits .xor .u32 s.d (rd l 3))), .int .u32 (s.e), .int .u32 (s.f), .int .u32 (s.g), .int .u32 (s.h)] 31 (0, 0))) (ds := [4]) #[false, false, false, false, false, false] (by kernel_rfl) rfl rfl (blk_drew Kg1.out) (fun hHeld => ?_)
      refine pure_ (i := 2) (N := (some 30)) (v := ?_) (a' := ?_) #[false, false, true, false, false, false] rfl rfl (by kernel_rfl) (fun _ _ _ h => h) (Or.inl ⟨by rfl, ?_⟩) ?_ ?_
      rotate_left
      · intro w'
        go_simp
        with_reducible rfl
      rotate_left
      · simp only [Act.put, List.setIfInBounds_toArray, List.set_cons_zero, List.set_cons_succ, i64_w, i32_w]
        rfl
      refine pure_ (i := 3) (N := (some 31)) (v := ?_) (a' := ?_) #[false, false, true, true, false, false] rfl rfl (by kernel_rfl) (fun _ _ _ h => h) (Or.inl ⟨by rfl, ?_⟩) ?_ ?_
      rotate_left
      · intro w'
        go_simp
        with_reducible rfl
      rotate_left
      · simp only [Act.put, List.setIfInBounds_toArray, List.set_cons_zero, List.set_cons_succ, i64_w, i32_w]
        rfl
      refine take_ (i := 0) (N := (some 28)) (v := ?_) (a' := ?_) #[true, false, true, true, false, false] rfl rfl (by kernel_rfl) (fun _ _ _ h => h) (Or.inl ⟨by rfl, ?_⟩) hHeld ?_ ?_
      rotate_left
      · intro w' hS_
        have cz0_ := (blk_cell hS_ 0).trans rfl; have cz1_ := (blk_cell hS_ 1).trans rfl; have cz2_ := (blk_cell hS_ 2).trans rfl; have cz3_ := (blk_cell hS_ 3).trans rfl; have cz4_ := (blk_cell hS_ 4).trans rfl; have cz5_ := (blk_cell hS_ 5).trans rfl; have cz6_ := (blk_cell hS_ 6).trans rfl; have cz7_ := (blk_cell hS_ 7).trans rfl
        go_simp
        with_reducible rfl
      rotate_left
      · simp only [Act.put, List.setIfInBounds_toArray, List.set_cons_zero, List.set_cons_succ, i64_w, i32_w]
        rfl
      refine one_ (i := 1) (N := (some 29)) #[true, true, true, true, false, false] rfl rfl (by kernel_rfl) (by decide) (fun K hK => ?_)
      refine goes_ Tryd.func22 (by kernel_rfl) rfl #[.agg #[.int .u32 ((bits .xor .u32 s.a (rd l 0))), .int .u32 ((bits .xor .u32 s.b (rd l 1))), .int .u32 ((bits .xor .u32 s.c (rd l 2))), .int .u32 ((bits .xor .u32 s.d (rd l 3))), .int .u32 (s.e), .int .u32 (s.f), .int .u32 (s.g), .int .u32 (s.h)]] (by rfl) rfl rfl (by (try simp only [List.map_toArray, List.map_cons, List.map_nil]); first | done | rfl) ?_
      with_reducible refine (digest_Mix.calls _ _ _ _ _ _ _ _ m.a m.b m.c m.d m.e m.f m.g m.h _ HMF.out (Tab.below HTB.out (by repeat (first | (with_reducible first | exact HB.out | apply below_alloc | apply pw_below_drewN | apply below_drew1 | refine below_set ?_ Gg0.out | refine below_set ?_ Gg1.out) | exact HB.out)))).mono ?_
      rintro e w5 ⟨rfl, hb⟩
      refine ⟨_, rfl, ?_⟩
      have n0_ := Aside0.mk (blk_below hHeld hb)
      have n1_ := Aside0.mk (blk_below (blk_drew Kg0.out) hb)
      have n2_ := Aside0.mk (below_step (by repeat (first | (with_reducible first | exact HB.out | apply below_alloc | apply pw_below_drewN | apply below_drew1 | refine below_set ?_ Gg0.out | refine below_set ?_ Gg1.out) | exact HB.out)) hb)
      clear HB Kg0 Kg1 hb
      have Kg1 := n0_
      have Kg0 := n1_
      have HB := n2_
      clear n0_ n1_ n2_
      refine hK.out _ _ Kg1.out (fun hHeld => ?_)
      clear hK K
      refine norm_ (a' := ?_) ?_ ?_
      rotate_left
      · show Act.put _ (some 29) _ = _
        simp only [Act.put, List.setIfInBounds_toArray, List.set_cons_zero, List.set_cons_succ, i64_w, i32_w]
        rfl
      refine last_ (i := 4) (N := none) #[true, true, true, true, true, false] rfl rfl (by kernel_rfl) (by decide) (fun K hK => ?_)
      have cz_0 := (blk_cell Kg1.out 0).trans rfl
      have fz_0 := blk_frozen Kg1.out 0
      have cz_1 := (blk_cell Kg1.out 1).trans rfl
      have fz_1 := blk_frozen Kg1.out 1
      have cz_2 := (blk_cell Kg1.out 2).trans rfl
      have fz_2 := blk_frozen Kg1.out 2
      have cz_3 := (blk_cell Kg1.out 3).trans rfl
      have fz_3 := blk_frozen Kg1.out 3
      have cz_4 := (blk_cell Kg1.out 4).trans rfl
      have fz_4 := blk_frozen Kg1.out 4
      have cz_5 := (blk_cell Kg1.out 5).trans rfl
      have fz_5 := blk_frozen Kg1.out 5
      have cz_6 := (blk_cell Kg1.out 6).trans rfl
      have fz_6 := blk_frozen Kg1.out 6
      have cz_7 := (blk_cell Kg1.out 7).trans rfl
      have fz_7 := blk_frozen Kg1.out 7
      refine store_step (w1 := ?w1_) ?hg ?hN ?hr ?_; (case hg => rfl); (case hN => rfl); (case hr => first | (go_simp; done) | (go_simp; rfl))
      refine hK.out _ _ ?_
      clear hK K
      refine pure_ (i := 5) (N := (some 1)) (v := ?_) (a' := ?_) #[true, true, true, true, true, true] rfl rfl (by kernel_rfl) (fun _ _ _ h => h) (Or.inl ⟨by rfl, ?_⟩) ?_ ?_
      rotate_left
      · intro w'
        go_simp
        with_reducible rfl
      rotate_left
      · simp only [Act.put, List.setIfInBounds_toArray, List.set_cons_zero, List.set_cons_succ, i64_w, i32_w]
        rfl
      refine done_ (by kernel_rfl) ?_
      go_wp2
      go_roundg kp
      case measure => omega
      case rel => exact ⟨l.drop 4, A', c - 4, m, by first | rfl | (simp; done), ⟨by have := HL.out.1; have := HL4.out; rw [List.length_drop]; omega, HC3.out.1, HC3.out.2⟩, ⟨by rw [HM.out]; exact (spongeL_step l s HL4.out).symm.trans HS.out.1, by rw [HM.out]; exact mixN_ok 8 1 _ ⟨xor32_range _ _, xor32_range _ _, xor32_range _ _, xor32_range _ _, HS.out.2.2.2.2.2.1, HS.out.2.2.2.2.2.2.1, HS.out.2.2.2.2.2.2.2.1, HS.out.2.2.2.2.2.2.2.2⟩⟩, ⟨(by repeat (first | (with_reducible first | exact HB.out | apply below_alloc | apply pw_below_drewN | apply below_drew1 | refine below_set ?_ Gg0.out | refine below_set ?_ Gg1.out) | exact HB.out))⟩, ⟨(Eq.trans (by (with_reducible repeat (first | exact Kg0.out | apply blk_set | apply far_put Ng0g1.out | apply far_put Ng0g1.out.symm | apply blk_drewN | apply blk_drew | apply blk_alloc))) (by first | rfl))⟩, ⟨(Eq.trans (by (with_reducible repeat (first | exact Kg1.out | apply blk_set | apply far_put Ng0g1.out | apply far_put Ng0g1.out.symm | apply blk_drewN | apply blk_drew | apply blk_alloc))) (by first | rfl))⟩⟩
    · have c1b : decide ((l.length : Int) ≥ 4) = false := decide_eq_false (by omega)
      have c1c : decide ((4 : Int) ≤ (l.length : Int)) = false := decide_eq_false (by omega)
      have hs : s = s0 := (spongeL_short l s (by omega)).symm.trans HS.out.1
      subst hs
      obtain ⟨q1, q2, q3, q4⟩ := HR.out
      have Q1 := Aside0.mk q1
      have Q2 := Aside0.mk q2
      have Q3 := Aside0.mk q3
      have Q4 := Aside0.mk q4
      clear q1 q2 q3 q4 HR
      have cg0_0 : wr.cell? ⟨g0, 0, none⟩ = some (.int .u32 0) := (blk_cell Kg0.out 0).trans rfl
      have zg0_0 := blk_frozen Kg0.out 0
      have cg0_1 : wr.cell? ⟨g0, 1, none⟩ = some (.int .u32 0) := (blk_cell Kg0.out 1).trans rfl
      have zg0_1 := blk_frozen Kg0.out 1
      have cg0_2 : wr.cell? ⟨g0, 2, none⟩ = some (.int .u32 0) := (blk_cell Kg0.out 2).trans rfl
      have zg0_2 := blk_frozen Kg0.out 2
      have cg0_3 : wr.cell? ⟨g0, 3, none⟩ = some (.int .u32 0) := (blk_cell Kg0.out 3).trans rfl
      have zg0_3 := blk_frozen Kg0.out 3
      have cg1_0 : wr.cell? ⟨g1, 0, none⟩ = some (.int .u32 s.a) := (blk_cell Kg1.out 0).trans rfl
      have zg1_0 := blk_frozen Kg1.out 0
      have cg1_1 : wr.cell? ⟨g1, 1, none⟩ = some (.int .u32 s.b) := (blk_cell Kg1.out 1).trans rfl
      have zg1_1 := blk_frozen Kg1.out 1
      have cg1_2 : wr.cell? ⟨g1, 2, none⟩ = some (.int .u32 s.c) := (blk_cell Kg1.out 2).trans rfl
      have zg1_2 := blk_frozen Kg1.out 2
      have cg1_3 : wr.cell? ⟨g1, 3, none⟩ = some (.int .u32 s.d) := (blk_cell Kg1.out 3).trans rfl
      have zg1_3 := blk_frozen Kg1.out 3
      have cg1_4 : wr.cell? ⟨g1, 4, none⟩ = some (.int .u32 s.e) := (blk_cell Kg1.out 4).trans rfl
      have zg1_4 := blk_frozen Kg1.out 4
      have cg1_5 : wr.cell? ⟨g1, 5, none⟩ = some (.int .u32 s.f) := (blk_cell Kg1.out 5).trans rfl
      have zg1_5 := blk_frozen Kg1.out 5
      have cg1_6 : wr.cell? ⟨g1, 6, none⟩ = some (.int .u32 s.g) := (blk_cell Kg1.out 6).trans rfl
      have zg1_6 := blk_frozen Kg1.out 6
      have cg1_7 : wr.cell? ⟨g1, 7, none⟩ = some (.int .u32 s.h) := (blk_cell Kg1.out 7).trans rfl
      have zg1_7 := blk_frozen Kg1.out 7
      have fg0g1 : (g0 = g1) = False := eq_false Ng0g1.out
      have fg1g0 : (g1 = g0) = False := eq_false Ng0g1.out.symm
      have hat := arrayAt24 g1 wr
      go_wp2
      refine bodyPost_ret (results_cell_row rfl _ _ (g0) 24 #[.int .u32 (s.a), .int .u32 (s.b), .int .u32 (s.c), .int .u32 (s.d)] (0, 0) _ rfl (by (with_reducible repeat (first | refine blk_drewN ?_ _ | refine blk_drew ?_)); refine blk_put (cs := #[.int .u32 (s.a), .int .u32 (s.b), .int .u32 (s.c), .int .u32 0]) ?_ 3 _ rfl; (with_reducible repeat (first | refine blk_drewN ?_ _ | refine blk_drew ?_)); refine blk_put (cs := #[.int .u32 (s.a), .int .u32 (s.b), .int .u32 0, .int .u32 0]) ?_ 2 _ rfl; (with_reducible repeat (first | refine blk_drewN ?_ _ | refine blk_drew ?_)); refine blk_put (cs := #[.int .u32 (s.a), .int .u32 0, .int .u32 0, .int .u32 0]) ?_ 1 _ rfl; (with_reducible repeat (first | refine blk_drewN ?_ _ | refine blk_drew ?_)); refine blk_put (cs := #[.int .u32 0, .int .u32 0, .int .u32 0, .int .u32 0]) ?_ 0 _ rfl; (with_reducible repeat (first | refine blk_drewN ?_ _ | refine blk_drew ?_)); exact Kg0.out) Tryd.underlying24 rfl (by kernel_rfl)) rfl ?_
      exact ⟨by rw [← Q1.out, ← Q2.out, ← Q3.out, ← Q4.out], (by repeat (first | (with_reducible first | exact HB.out | apply below_alloc | apply pw_below_drewN | apply below_drew1 | refine below_set ?_ Gg0.out | refine below_set ?_ Gg1.out) | exact HB.out))⟩


end Go.Proofs.YthimgiphlenjdaaDoor.PI
