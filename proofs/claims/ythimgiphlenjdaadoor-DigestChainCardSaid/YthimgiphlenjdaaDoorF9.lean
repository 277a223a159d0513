/- Contracts of the Go functions of this seat, each over a Lean function of the same answers; written by a program of this session's. -/
import Derived.Test.YthimgiphlenjdaaDoorPIx0
import Derived.Test.YthimgiphlenjdaaDoorHWords
import Derived.Test.YthimgiphlenjdaaDoorHMix
import Derived.Test.YthimgiphlenjdaaDoorHWrite
import Derived.Test.YthimgiphlenjdaaDoorPureTake
import Derived.Test.YthimgiphlenjdaaDoorF21
import Derived.Test.YthimgiphlenjdaaDoorF22
import Derived.Test.YthimgiphlenjdaaDoorF24
import Derived.Test.YthimgiphlenjdaaDoorF28
import Derived.Test.YthimgiphlenjdaaDoorF30
namespace Go.Proofs.YthimgiphlenjdaaDoor.PI
open Go.RowKit Go.Proofs.YthimgiphlenjdaaDoorW.PrintWords Go.Proofs.YthimgiphlenjdaaDoorW.PrintLast Go.Proofs.YthimgiphlenjdaaDoorW.PrintMore
attribute [local go_sem] max2_int min2_int max_two min_two max_three min_three max_four min_four   -- for this text's walks alone
open HX
set_option linter.unusedVariables false
set_option linter.unusedSimpArgs false

/-! ### seedcornlaw03_DigestChain: function 9 -/
-- import HMix
-- import HWrite
-- import PureTake
attribute [local go_sem high] eqA24 eqA31
def seedcornlaw03_DigestChain.f (a0_0 : Int) (a0_1 : Int) (a0_2 : Int) (a0_3 : Int) (a1_0 : Int) (a1_1 : Int) (a1_2 : Int) (a1_3 : Int) : Option Bool := if InR a0_0 ∧ InR a0_1 ∧ InR a0_2 ∧ InR a0_3 ∧ InR a1_0 ∧ InR a1_1 ∧ InR a1_2 ∧ InR a1_3 then some true else none
theorem took_of (s : St) (h : s.Ok) (b0 b1 b2 b3 : Int) : seedcornlaw03_took.f s.a s.b s.c s.d s.e s.f s.g s.h b0 b1 b2 b3 = some ((tk s b0 b1 b2 b3).a, (tk s b0 b1 b2 b3).b, (tk s b0 b1 b2 b3).c, (tk s b0 b1 b2 b3).d, (tk s b0 b1 b2 b3).e, (tk s b0 b1 b2 b3).f, (tk s b0 b1 b2 b3).g, (tk s b0 b1 b2 b3).h) := by
  unfold seedcornlaw03_took.f digest_Mix.f
  exact if_pos (blk_ok s h b0 b1 b2 b3)
theorem took2 (b0 b1 b2 b3 : Int) : seedcornlaw03_took.f 2 0 0 0 0 0 0 0 b0 b1 b2 b3 = some ((tk st2 b0 b1 b2 b3).a, (tk st2 b0 b1 b2 b3).b, (tk st2 b0 b1 b2 b3).c, (tk st2 b0 b1 b2 b3).d, (tk st2 b0 b1 b2 b3).e, (tk st2 b0 b1 b2 b3).f, (tk st2 b0 b1 b2 b3).g, (tk st2 b0 b1 b2 b3).h) := by
  unfold seedcornlaw03_took.f digest_Mix.f
  rw [if_pos (show (St.mk (bits .xor .u32 2 b0) (bits .xor .u32 0 b1) (bits .xor .u32 0 b2) (bits .xor .u32 0 b3) 0 0 0 0).Ok from blk_ok st2 st2_ok b0 b1 b2 b3)]
  unfold tk st2 xor32
  rfl
/-- What the chain's states are. -/
theorem chain_spec (a0_0 : Int) (a0_1 : Int) (a0_2 : Int) (a0_3 : Int) (a1_0 : Int) (a1_1 : Int) (a1_2 : Int) (a1_3 : Int) (hi : InR a0_0 ∧ InR a0_1 ∧ InR a0_2 ∧ InR a0_3 ∧ InR a1_0 ∧ InR a1_1 ∧ InR a1_2 ∧ InR a1_3) : ∃ x y u : St,
    seedcornlaw03_took.f 2 0 0 0 0 0 0 0 a0_0 a0_1 a0_2 a0_3 = some (x.a, x.b, x.c, x.d, x.e, x.f, x.g, x.h) ∧ seedcornlaw03_took.f x.a x.b x.c x.d x.e x.f x.g x.h a1_0 a1_1 a1_2 a1_3 = some (y.a, y.b, y.c, y.d, y.e, y.f, y.g, y.h) ∧ digest_Unmix.f y.a y.b y.c y.d y.e y.f y.g y.h = some (u.a, u.b, u.c, u.d, u.e, u.f, u.g, u.h) ∧
    digest_Pair.f a0_0 a0_1 a0_2 a0_3 a1_0 a1_1 a1_2 a1_3 = some (y.a, y.b, y.c, y.d) ∧ (bits .xor .u32 u.a a1_0 = x.a ∧ bits .xor .u32 u.b a1_1 = x.b ∧ bits .xor .u32 u.c a1_2 = x.c ∧ bits .xor .u32 u.d a1_3 = x.d) ∧ u.e = x.e ∧ u.f = x.f ∧ u.g = x.g ∧ u.h = x.h := by
  obtain ⟨_, _, _, _, i0, i1, i2, i3⟩ := hi
  have hx := tk_ok st2 st2_ok a0_0 a0_1 a0_2 a0_3
  have h1 := took2 a0_0 a0_1 a0_2 a0_3
  have h4 := pair_of a0_0 a0_1 a0_2 a0_3 a1_0 a1_1 a1_2 a1_3
  have e : pairS a0_0 a0_1 a0_2 a0_3 a1_0 a1_1 a1_2 a1_3 = tk (tk st2 a0_0 a0_1 a0_2 a0_3) a1_0 a1_1 a1_2 a1_3 := rfl
  rw [e] at h4
  generalize tk st2 a0_0 a0_1 a0_2 a0_3 = x at hx h1 h4
  have h2 := took_of x hx a1_0 a1_1 a1_2 a1_3
  have hy := tk_ok x hx a1_0 a1_1 a1_2 a1_3
  have h3 : digest_Unmix.f (tk x a1_0 a1_1 a1_2 a1_3).a (tk x a1_0 a1_1 a1_2 a1_3).b (tk x a1_0 a1_1 a1_2 a1_3).c (tk x a1_0 a1_1 a1_2 a1_3).d (tk x a1_0 a1_1 a1_2 a1_3).e (tk x a1_0 a1_1 a1_2 a1_3).f (tk x a1_0 a1_1 a1_2 a1_3).g (tk x a1_0 a1_1 a1_2 a1_3).h = some (unmixS (tk x a1_0 a1_1 a1_2 a1_3)).tup := if_pos hy
  rw [show unmixS (tk x a1_0 a1_1 a1_2 a1_3) = ⟨xor32 x.a a1_0, xor32 x.b a1_1, xor32 x.c a1_2, xor32 x.d a1_3, x.e, x.f, x.g, x.h⟩ from unmix_mix _ (blk_ok x hx a1_0 a1_1 a1_2 a1_3)] at h3
  generalize tk x a1_0 a1_1 a1_2 a1_3 = y at h2 h3 h4
  exact ⟨x, y, ⟨xor32 x.a a1_0, xor32 x.b a1_1, xor32 x.c a1_2, xor32 x.d a1_3, x.e, x.f, x.g, x.h⟩, h1, h2, h3, h4, ⟨xor_xor _ _ hx.1 i0, xor_xor _ _ hx.2.1 i1, xor_xor _ _ hx.2.2.1 i2, xor_xor _ _ hx.2.2.2.1 i3⟩, rfl, rfl, rfl, rfl⟩
set_option maxHeartbeats 8000000 in
set_option maxRecDepth 100000 in
theorem seedcornlaw03_DigestChain.calls (a0_0 : Int) (a0_1 : Int) (a0_2 : Int) (a0_3 : Int) (a1_0 : Int) (a1_1 : Int) (a1_2 : Int) (a1_3 : Int) (r : Bool) (w : World) (h : seedcornlaw03_DigestChain.f a0_0 a0_1 a0_2 a0_3 a1_0 a1_1 a1_2 a1_3 = some r) (htb_ : Tab w) :
    Calls Tryd.prog 9 #[.agg #[.int .u32 a0_0, .int .u32 a0_1, .int .u32 a0_2, .int .u32 a0_3], .agg #[.int .u32 a1_0, .int .u32 a1_1, .int .u32 a1_2, .int .u32 a1_3]] w fun e w' => e = .returned (.bool r) ∧ Below w.heap.size w w' := by
  have hu24 := Tryd.underlying24
  have hu31 := Tryd.underlying31
  have HTB := Aside0.mk htb_
  clear htb_
  have hi : InR a0_0 ∧ InR a0_1 ∧ InR a0_2 ∧ InR a0_3 ∧ InR a1_0 ∧ InR a1_1 ∧ InR a1_2 ∧ InR a1_3 := by
    unfold seedcornlaw03_DigestChain.f at h
    split at h
    · assumption
    · cases h
  have hr : r = true := by
    unfold seedcornlaw03_DigestChain.f at h
    rw [if_pos hi] at h
    exact (Option.some.inj h).symm
  subst hr
  clear h
  obtain ⟨x, y, u, h1, h2, h3, h4, h5, h6, h7, h8, h9⟩ := chain_spec a0_0 a0_1 a0_2 a0_3 a1_0 a1_1 a1_2 a1_3 hi
  have H1 := Aside0.mk h1
  have H2 := Aside0.mk h2
  have H3 := Aside0.mk h3
  have H4 := Aside0.mk h4
  have H5 := Aside0.mk h5
  have H6 := Aside0.mk (And.intro h6 (And.intro h7 (And.intro h8 h9)))
  clear h1 h2 h3 h4 h5 h6 h7 h8 h9 hi
  have HB := Aside0.mk (Below.refl w.heap.size w)
  go_enter Tryd.func9, Tryd.ntmps9
  go_wp2_with (first | ((with_reducible refine gate_dst (N := 2) rfl ?_); refine box_event ?hg (N := 2) ?hd (cs := #[.int .u32 a0_0, .int .u32 a0_1, .int .u32 a0_2, .int .u32 a0_3]) (t := 24) ?hr ?_; (case hd => rfl); (case hg => rfl); (case hr => first | (go_simp; done) | (go_simp; rfl)); intro g0 hg w2 hbox hb; have n0_ := Aside0.mk (below_step (by repeat (first | (with_reducible first | exact HB.out | apply below_alloc | apply pw_below_drewN | apply below_drew1) | exact HB.out)) hb); have mn_ := Aside0.mk hbox; have gn_ := Aside0.mk ((by rw [hg]; exact (below_size (by repeat (first | (with_reducible first | exact HB.out | apply below_alloc | apply pw_below_drewN | apply below_drew1) | exact HB.out)))) : w.heap.size ≤ g0); clear HB; have HB := n0_; clear n0_; have Kg0 := mn_; have Gg0 := gn_; clear mn_ gn_; have cg0_0w2 : w2.cell? ⟨g0, 0, none⟩ = some (.int .u32 a0_0) := (blk_cell Kg0.out 0).trans rfl; have zg0_0w2 := blk_frozen Kg0.out 0; have cg0_1w2 : w2.cell? ⟨g0, 1, none⟩ = some (.int .u32 a0_1) := (blk_cell Kg0.out 1).trans rfl; have zg0_1w2 := blk_frozen Kg0.out 1; have cg0_2w2 : w2.cell? ⟨g0, 2, none⟩ = some (.int .u32 a0_2) := (blk_cell Kg0.out 2).trans rfl; have zg0_2w2 := blk_frozen Kg0.out 2; have cg0_3w2 : w2.cell? ⟨g0, 3, none⟩ = some (.int .u32 a0_3) := (blk_cell Kg0.out 3).trans rfl; have zg0_3w2 := blk_frozen Kg0.out 3; clear hb hbox hg) | ((with_reducible refine gate_dst (N := 3) rfl ?_); refine box_event ?hg (N := 3) ?hd (cs := #[.int .u32 a1_0, .int .u32 a1_1, .int .u32 a1_2, .int .u32 a1_3]) (t := 24) ?hr ?_; (case hd => rfl); (case hg => rfl); (case hr => first | (go_simp; done) | (go_simp; rfl)); intro g1 hg w3 hbox hb; have n0_ := Aside0.mk (below_step (by repeat (first | (with_reducible first | exact HB.out | apply below_alloc | apply pw_below_drewN | apply below_drew1 | refine below_set ?_ Gg0.out) | exact HB.out)) hb); have mg0_ := Aside0.mk (blk_below (g := g0) (o := (.cells #[.int .u32 a0_0, .int .u32 a0_1, .int .u32 a0_2, .int .u32 a0_3] 24 (0, 0))) (Eq.trans (by (with_reducible repeat (first | exact Kg0.out | apply blk_set | apply blk_drewN | apply blk_drew | apply blk_alloc))) (by first | rfl)) hb); have mn_ := Aside0.mk hbox; have gn_ := Aside0.mk ((by rw [hg]; exact (below_size (by repeat (first | (with_reducible first | exact HB.out | apply below_alloc | apply pw_below_drewN | apply below_drew1 | refine below_set ?_ Gg0.out) | exact HB.out)))) : w.heap.size ≤ g1); have kg0_ := Aside0.mk (show g0 ≠ g1 by rw [hg]; exact Nat.ne_of_lt (blk_lt (o := (.cells #[.int .u32 a0_0, .int .u32 a0_1, .int .u32 a0_2, .int .u32 a0_3] 24 (0, 0))) (Eq.trans (by (with_reducible repeat (first | exact Kg0.out | apply blk_set | apply blk_drewN | apply blk_drew | apply blk_alloc))) (by first | rfl)))); clear HB Kg0; have HB := n0_; clear n0_; have Kg0 := mg0_; clear mg0_; have Kg1 := mn_; have Gg1 := gn_; clear mn_ gn_; have Ng0g1 := kg0_; have fg0g1 : (g0 = g1) = False := eq_false Ng0g1.out; have fg1g0 : (g1 = g0) = False := eq_false Ng0g1.out.symm; clear kg0_; have cg0_0w3 : w3.cell? ⟨g0, 0, none⟩ = some (.int .u32 a0_0) := (blk_cell Kg0.out 0).trans rfl; have zg0_0w3 := blk_frozen Kg0.out 0; have cg0_1w3 : w3.cell? ⟨g0, 1, none⟩ = some (.int .u32 a0_1) := (blk_cell Kg0.out 1).trans rfl; have zg0_1w3 := blk_frozen Kg0.out 1; have cg0_2w3 : w3.cell? ⟨g0, 2, none⟩ = some (.int .u32 a0_2) := (blk_cell Kg0.out 2).trans rfl; have zg0_2w3 := blk_frozen Kg0.out 2; have cg0_3w3 : w3.cell? ⟨g0, 3, none⟩ = some (.int .u32 a0_3) := (blk_cell Kg0.out 3).trans rfl; have zg0_3w3 := blk_frozen Kg0.out 3; have cg1_0w3 : w3.cell? ⟨g1, 0, none⟩ = some (.int .u32 a1_0) := (blk_cell Kg1.out 0).trans rfl; have zg1_0w3 := blk_frozen Kg1.out 0; have cg1_1w3 : w3.cell? ⟨g1, 1, none⟩ = some (.int .u32 a1_1) := (blk_cell Kg1.out 1).trans rfl; have zg1_1w3 := blk_frozen Kg1.out 1; have cg1_2w3 : w3.cell? ⟨g1, 2, none⟩ = some (.int .u32 a1_2) := (blk_cell Kg1.out 2).trans rfl; have zg1_2w3 := blk_frozen Kg1.out 2; have cg1_3w3 : w3.cell? ⟨g1, 3, none⟩ = some (.int .u32 a1_3) := (blk_cell Kg1.out 3).trans rfl; have zg1_3w3 := blk_frozen Kg1.out 3; clear hb hbox hg) | ((go_at_call 30); (with_reducible refine (seedcornlaw03_took.calls 2 0 0 0 0 0 0 0 a0_0 a0_1 a0_2 a0_3 x.a x.b x.c x.d x.e x.f x.g x.h _ H1.out (Tab.below HTB.out (by repeat (first | (with_reducible first | exact HB.out | apply below_alloc | apply pw_below_drewN | apply below_drew1 | refine below_set ?_ Gg0.out | refine below_set ?_ Gg1.out) | exact HB.out)))).mono ?_); rintro e w4 ⟨rfl, hb⟩; have n0_ := Aside0.mk (below_step (by repeat (first | (with_reducible first | exact HB.out | apply below_alloc | apply pw_below_drewN | apply below_drew1 | refine below_set ?_ Gg0.out | refine below_set ?_ Gg1.out) | exact HB.out)) hb); have mg0_ := Aside0.mk (blk_below (g := g0) (o := (.cells #[.int .u32 a0_0, .int .u32 a0_1, .int .u32 a0_2, .int .u32 a0_3] 24 (0, 0))) (Eq.trans (by (with_reducible repeat (first | exact Kg0.out | apply blk_set | apply far_put Ng0g1.out | apply far_put Ng0g1.out.symm | apply blk_drewN | apply blk_drew | apply blk_alloc))) (by first | rfl)) hb); have mg1_ := Aside0.mk (blk_below (g := g1) (o := (.cells #[.int .u32 a1_0, .int .u32 a1_1, .int .u32 a1_2, .int .u32 a1_3] 24 (0, 0))) (Eq.trans (by (with_reducible repeat (first | exact Kg1.out | apply blk_set | apply far_put Ng0g1.out | apply far_put Ng0g1.out.symm | apply blk_drewN | apply blk_drew | apply blk_alloc))) (by first | rfl)) hb); clear HB Kg0 Kg1; have HB := n0_; clear n0_; have Kg0 := mg0_; clear mg0_; have Kg1 := mg1_; clear mg1_; have cg0_0w4 : w4.cell? ⟨g0, 0, none⟩ = some (.int .u32 a0_0) := (blk_cell Kg0.out 0).trans rfl; have zg0_0w4 := blk_frozen Kg0.out 0; have cg0_1w4 : w4.cell? ⟨g0, 1, none⟩ = some (.int .u32 a0_1) := (blk_cell Kg0.out 1).trans rfl; have zg0_1w4 := blk_frozen Kg0.out 1; have cg0_2w4 : w4.cell? ⟨g0, 2, none⟩ = some (.int .u32 a0_2) := (blk_cell Kg0.out 2).trans rfl; have zg0_2w4 := blk_frozen Kg0.out 2; have cg0_3w4 : w4.cell? ⟨g0, 3, none⟩ = some (.int .u32 a0_3) := (blk_cell Kg0.out 3).trans rfl; have zg0_3w4 := blk_frozen Kg0.out 3; have cg1_0w4 : w4.cell? ⟨g1, 0, none⟩ = some (.int .u32 a1_0) := (blk_cell Kg1.out 0).trans rfl; have zg1_0w4 := blk_frozen Kg1.out 0; have cg1_1w4 : w4.cell? ⟨g1, 1, none⟩ = some (.int .u32 a1_1) := (blk_cell Kg1.out 1).trans rfl; have zg1_1w4 := blk_frozen Kg1.out 1; have cg1_2w4 : w4.cell? ⟨g1, 2, none⟩ = some (.int .u32 a1_2) := (blk_cell Kg1.out 2).trans rfl; have zg1_2w4 := blk_frozen Kg1.out 2; have cg1_3w4 : w4.cell? ⟨g1, 3, none⟩ = some (.int .u32 a1_3) := (blk_cell Kg1.out 3).trans rfl; have zg1_3w4 := blk_frozen Kg1.out 3; clear hb) | ((with_reducible refine gate_dst (N := 5) rfl ?_); refine box_event ?hg (N := 5) ?hd (cs := #[.int .u32 0, .int .u32 0, .int .u32 0, .int .u32 0, .int .u32 0, .int .u32 0, .int .u32 0, .int .u32 0]) (t := 31) ?hr ?_; (case hd => rfl); (case hg => rfl); (case hr => first | (go_simp; done) | (go_simp; rfl)); intro g2 hg w5 hbox hb; have n0_ := Aside0.mk (below_step (by repeat (first | (with_reducible first | exact HB.out | apply below_alloc | apply pw_below_drewN | apply below_drew1 | refine below_set ?_ Gg0.out | refine below_set ?_ Gg1.out) | exact HB.out)) hb); have mg0_ := Aside0.mk (blk_below (g := g0) (o := (.cells #[.int .u32 a0_0, .int .u32 a0_1, .int .u32 a0_2, .int .u32 a0_3] 24 (0, 0))) (Eq.trans (by (with_reducible repeat (first | exact Kg0.out | apply blk_set | apply far_put Ng0g1.out | apply far_put Ng0g1.out.symm | apply blk_drewN | apply blk_drew | apply blk_alloc))) (by first | rfl)) hb); have mg1_ := Aside0.mk (blk_below (g := g1) (o := (.cells #[.int .u32 a1_0, .int .u32 a1_1, .int .u32 a1_2, .int .u32 a1_3] 24 (0, 0))) (Eq.trans (by (with_reducible repeat (first | exact Kg1.out | apply blk_set | apply far_put Ng0g1.out | apply far_put Ng0g1.out.symm | apply blk_drewN | apply blk_drew | apply blk_alloc))) (by first | rfl)) hb); have mn_ := Aside0.mk hbox; have gn_ := Aside0.mk ((by rw [hg]; exact (below_size (by repeat (first | (with_reducible first | exact HB.out | apply below_alloc | apply pw_below_drewN | apply below_drew1 | refine below_set ?_ Gg0.out | refine below_set ?_ Gg1.out) | exact HB.out)))) : w.heap.size ≤ g2); have kg0_ := Aside0.mk (show g0 ≠ g2 by rw [hg]; exact Nat.ne_of_lt (blk_lt (o := (.cells #[.int .u32 a0_0, .int .u32 a0_1, .int .u32 a0_2, .int .u32 a0_3] 24 (0, 0))) (Eq.trans (by (with_reducible repeat (first | exact Kg0.out | apply blk_set | apply far_put Ng0g1.out | apply far_put Ng0g1.out.symm | apply blk_drewN | apply blk_drew | apply blk_alloc))) (by first | rfl)))); have kg1_ := Aside0.mk (show g1 ≠ g2 by rw [hg]; exact Nat.ne_of_lt (blk_lt (o := (.cells #[.int .u32 a1_0, .int .u32 a1_1, .int .u32 a1_2, .int .u32 a1_3] 24 (0, 0))) (Eq.trans (by (with_reducible repeat (first | exact Kg1.out | apply blk_set | apply far_put Ng0g1.out | apply far_put Ng0g1.out.symm | apply blk_drewN | apply blk_drew | apply blk_alloc))) (by first | rfl)))); clear HB Kg0 Kg1; have HB := n0_; clear n0_; have Kg0 := mg0_; clear mg0_; have Kg1 := mg1_; clear mg1_; have Kg2 := mn_; have Gg2 := gn_; clear mn_ gn_; have Ng0g2 := kg0_; have fg0g2 : (g0 = g2) = False := eq_false Ng0g2.out; have fg2g0 : (g2 = g0) = False := eq_false Ng0g2.out.symm; clear kg0_; have Ng1g2 := kg1_; have fg1g2 : (g1 = g2) = False := eq_false Ng1g2.out; have fg2g1 : (g2 = g1) = False := eq_false Ng1g2.out.symm; clear kg1_; have cg0_0w5 : w5.cell? ⟨g0, 0, none⟩ = some (.int .u32 a0_0) := (blk_cell Kg0.out 0).trans rfl; have zg0_0w5 := blk_frozen Kg0.out 0; have cg0_1w5 : w5.cell? ⟨g0, 1, none⟩ = some (.int .u32 a0_1) := (blk_cell Kg0.out 1).trans rfl; have zg0_1w5 := blk_frozen Kg0.out 1; have cg0_2w5 : w5.cell? ⟨g0, 2, none⟩ = some (.int .u32 a0_2) := (blk_cell Kg0.out 2).trans rfl; have zg0_2w5 := blk_frozen Kg0.out 2; have cg0_3w5 : w5.cell? ⟨g0, 3, none⟩ = some (.int .u32 a0_3) := (blk_cell Kg0.out 3).trans rfl; have zg0_3w5 := blk_frozen Kg0.out 3; have cg1_0w5 : w5.cell? ⟨g1, 0, none⟩ = some (.int .u32 a1_0) := (blk_cell Kg1.out 0).trans rfl; have zg1_0w5 := blk_frozen Kg1.out 0; have cg1_1w5 : w5.cell? ⟨g1, 1, none⟩ = some (.int .u32 a1_1) := (blk_cell Kg1.out 1).trans rfl; have zg1_1w5 := blk_frozen Kg1.out 1; have cg1_2w5 : w5.cell? ⟨g1, 2, none⟩ = some (.int .u32 a1_2) := (blk_cell Kg1.out 2).trans rfl; have zg1_2w5 := blk_frozen Kg1.out 2; have cg1_3w5 : w5.cell? ⟨g1, 3, none⟩ = some (.int .u32 a1_3) := (blk_cell Kg1.out 3).trans rfl; have zg1_3w5 := blk_frozen Kg1.out 3; have cg2_0w5 : w5.cell? ⟨g2, 0, none⟩ = some (.int .u32 0) := (blk_cell Kg2.out 0).trans rfl; have zg2_0w5 := blk_frozen Kg2.out 0; have cg2_1w5 : w5.cell? ⟨g2, 1, none⟩ = some (.int .u32 0) := (blk_cell Kg2.out 1).trans rfl; have zg2_1w5 := blk_frozen Kg2.out 1; have cg2_2w5 : w5.cell? ⟨g2, 2, none⟩ = some (.int .u32 0) := (blk_cell Kg2.out 2).trans rfl; have zg2_2w5 := blk_frozen Kg2.out 2; have cg2_3w5 : w5.cell? ⟨g2, 3, none⟩ = some (.int .u32 0) := (blk_cell Kg2.out 3).trans rfl; have zg2_3w5 := blk_frozen Kg2.out 3; have cg2_4w5 : w5.cell? ⟨g2, 4, none⟩ = some (.int .u32 0) := (blk_cell Kg2.out 4).trans rfl; have zg2_4w5 := blk_frozen Kg2.out 4; have cg2_5w5 : w5.cell? ⟨g2, 5, none⟩ = some (.int .u32 0) := (blk_cell Kg2.out 5).trans rfl; have zg2_5w5 := blk_frozen Kg2.out 5; have cg2_6w5 : w5.cell? ⟨g2, 6, none⟩ = some (.int .u32 0) := (blk_cell Kg2.out 6).trans rfl; have zg2_6w5 := blk_frozen Kg2.out 6; have cg2_7w5 : w5.cell? ⟨g2, 7, none⟩ = some (.int .u32 0) := (blk_cell Kg2.out 7).trans rfl; have zg2_7w5 := blk_frozen Kg2.out 7; clear hb hbox hg))
  go_wp2_with (first | ((go_at_call 30); (with_reducible refine (seedcornlaw03_took.calls x.a x.b x.c x.d x.e x.f x.g x.h a1_0 a1_1 a1_2 a1_3 y.a y.b y.c y.d y.e y.f y.g y.h _ H2.out (Tab.below HTB.out (by repeat (first | (with_reducible first | exact HB.out | apply below_alloc | apply pw_below_drewN | apply below_drew1 | refine below_set ?_ Gg0.out | refine below_set ?_ Gg1.out | refine below_set ?_ Gg2.out) | exact HB.out)))).mono ?_); rintro e w6 ⟨rfl, hb⟩; have n0_ := Aside0.mk (below_step (by repeat (first | (with_reducible first | exact HB.out | apply below_alloc | apply pw_below_drewN | apply below_drew1 | refine below_set ?_ Gg0.out | refine below_set ?_ Gg1.out | refine below_set ?_ Gg2.out) | exact HB.out)) hb); have mg0_ := Aside0.mk (blk_below (g := g0) (o := (.cells #[.int .u32 a0_0, .int .u32 a0_1, .int .u32 a0_2, .int .u32 a0_3] 24 (0, 0))) (Eq.trans (by (with_reducible repeat (first | exact Kg0.out | apply blk_set | apply far_put Ng0g1.out | apply far_put Ng0g1.out.symm | apply far_put Ng0g2.out | apply far_put Ng0g2.out.symm | apply far_put Ng1g2.out | apply far_put Ng1g2.out.symm | apply blk_drewN | apply blk_drew | apply blk_alloc))) (by first | rfl)) hb); have mg1_ := Aside0.mk (blk_below (g := g1) (o := (.cells #[.int .u32 a1_0, .int .u32 a1_1, .int .u32 a1_2, .int .u32 a1_3] 24 (0, 0))) (Eq.trans (by (with_reducible repeat (first | exact Kg1.out | apply blk_set | apply far_put Ng0g1.out | apply far_put Ng0g1.out.symm | apply far_put Ng0g2.out | apply far_put Ng0g2.out.symm | apply far_put Ng1g2.out | apply far_put Ng1g2.out.symm | apply blk_drewN | apply blk_drew | apply blk_alloc))) (by first | rfl)) hb); have mg2_ := Aside0.mk (blk_below (g := g2) (o := (.cells #[.int .u32 (x.a), .int .u32 (x.b), .int .u32 (x.c), .int .u32 (x.d), .int .u32 (x.e), .int .u32 (x.f), .int .u32 (x.g), .int .u32 (x.h)] 31 (0, 0))) (Eq.trans (by (with_reducible repeat (first | exact Kg2.out | apply blk_set | apply far_put Ng0g1.out | apply far_put Ng0g1.out.symm | apply far_put Ng0g2.out | apply far_put Ng0g2.out.symm | apply far_put Ng1g2.out | apply far_put Ng1g2.out.symm | apply blk_drewN | apply blk_drew | apply blk_alloc))) (by first | rfl)) hb); clear HB Kg0 Kg1 Kg2; have HB := n0_; clear n0_; have Kg0 := mg0_; clear mg0_; have Kg1 := mg1_; clear mg1_; have Kg2 := mg2_; clear mg2_; have cg0_0w6 : w6.cell? ⟨g0, 0, none⟩ = some (.int .u32 a0_0) := (blk_cell Kg0.out 0).trans rfl; have zg0_0w6 := blk_frozen Kg0.out 0; have cg0_1w6 : w6.cell? ⟨g0, 1, none⟩ = some (.int .u32 a0_1) := (blk_cell Kg0.out 1).trans rfl; have zg0_1w6 := blk_frozen Kg0.out 1; have cg0_2w6 : w6.cell? ⟨g0, 2, none⟩ = some (.int .u32 a0_2) := (blk_cell Kg0.out 2).trans rfl; have zg0_2w6 := blk_frozen Kg0.out 2; have cg0_3w6 : w6.cell? ⟨g0, 3, none⟩ = some (.int .u32 a0_3) := (blk_cell Kg0.out 3).trans rfl; have zg0_3w6 := blk_frozen Kg0.out 3; have cg1_0w6 : w6.cell? ⟨g1, 0, none⟩ = some (.int .u32 a1_0) := (blk_cell Kg1.out 0).trans rfl; have zg1_0w6 := blk_frozen Kg1.out 0; have cg1_1w6 : w6.cell? ⟨g1, 1, none⟩ = some (.int .u32 a1_1) := (blk_cell Kg1.out 1).trans rfl; have zg1_1w6 := blk_frozen Kg1.out 1; have cg1_2w6 : w6.cell? ⟨g1, 2, none⟩ = some (.int .u32 a1_2) := (blk_cell Kg1.out 2).trans rfl; have zg1_2w6 := blk_frozen Kg1.out 2; have cg1_3w6 : w6.cell? ⟨g1, 3, none⟩ = some (.int .u32 a1_3) := (blk_cell Kg1.out 3).trans rfl; have zg1_3w6 := blk_frozen Kg1.out 3; have cg2_0w6 : w6.cell? ⟨g2, 0, none⟩ = some (.int .u32 (x.a)) := (blk_cell Kg2.out 0).trans rfl; have zg2_0w6 := blk_frozen Kg2.out 0; have cg2_1w6 : w6.cell? ⟨g2, 1, none⟩ = some (.int .u32 (x.b)) := (blk_cell Kg2.out 1).trans rfl; have zg2_1w6 := blk_frozen Kg2.out 1; have cg2_2w6 : w6.cell? ⟨g2, 2, none⟩ = some (.int .u32 (x.c)) := (blk_cell Kg2.out 2).trans rfl; have zg2_2w6 := blk_frozen Kg2.out 2; have cg2_3w6 : w6.cell? ⟨g2, 3, none⟩ = some (.int .u32 (x.d)) := (blk_cell Kg2.out 3).trans rfl; have zg2_3w6 := blk_frozen Kg2.out 3; have cg2_4w6 : w6.cell? ⟨g2, 4, none⟩ = some (.int .u32 (x.e)) := (blk_cell Kg2.out 4).trans rfl; have zg2_4w6 := blk_frozen Kg2.out 4; have cg2_5w6 : w6.cell? ⟨g2, 5, none⟩ = some (.int .u32 (x.f)) := (blk_cell Kg2.out 5).trans rfl; have zg2_5w6 := blk_frozen Kg2.out 5; have cg2_6w6 : w6.cell? ⟨g2, 6, none⟩ = some (.int .u32 (x.g)) := (blk_cell Kg2.out 6).trans rfl; have zg2_6w6 := blk_frozen Kg2.out 6; have cg2_7w6 : w6.cell? ⟨g2, 7, none⟩ = some (.int .u32 (x.h)) := (blk_cell Kg2.out 7).trans rfl; have zg2_7w6 := blk_frozen Kg2.out 7; clear hb) | ((with_reducible refine gate_dst (N := 6) rfl ?_); refine box_event ?hg (N := 6) ?hd (cs := #[.int .u32 0, .int .u32 0, .int .u32 0, .int .u32 0, .int .u32 0, .int .u32 0, .int .u32 0, .int .u32 0]) (t := 31) ?hr ?_; (case hd => rfl); (case hg => rfl); (case hr => first | (go_simp; done) | (go_simp; rfl)); intro g3 hg w7 hbox hb; have n0_ := Aside0.mk (below_step (by repeat (first | (with_reducible first | exact HB.out | apply below_alloc | apply pw_below_drewN | apply below_drew1 | refine below_set ?_ Gg0.out | refine below_set ?_ Gg1.out | refine below_set ?_ Gg2.out) | exact HB.out)) hb); have mg0_ := Aside0.mk (blk_below (g := g0) (o := (.cells #[.int .u32 a0_0, .int .u32 a0_1, .int .u32 a0_2, .int .u32 a0_3] 24 (0, 0))) (Eq.trans (by (with_reducible repeat (first | exact Kg0.out | apply blk_set | apply far_put Ng0g1.out | apply far_put Ng0g1.out.symm | apply far_put Ng0g2.out | apply far_put Ng0g2.out.symm | apply far_put Ng1g2.out | apply far_put Ng1g2.out.symm | apply blk_drewN | apply blk_drew | apply blk_alloc))) (by first | rfl)) hb); have mg1_ := Aside0.mk (blk_below (g := g1) (o := (.cells #[.int .u32 a1_0, .int .u32 a1_1, .int .u32 a1_2, .int .u32 a1_3] 24 (0, 0))) (Eq.trans (by (with_reducible repeat (first | exact Kg1.out | apply blk_set | apply far_put Ng0g1.out | apply far_put Ng0g1.out.symm | apply far_put Ng0g2.out | apply far_put Ng0g2.out.symm | apply far_put Ng1g2.out | apply far_put Ng1g2.out.symm | apply blk_drewN | apply blk_drew | apply blk_alloc))) (by first | rfl)) hb); have mg2_ := Aside0.mk (blk_below (g := g2) (o := (.cells #[.int .u32 (x.a), .int .u32 (x.b), .int .u32 (x.c), .int .u32 (x.d), .int .u32 (x.e), .int .u32 (x.f), .int .u32 (x.g), .int .u32 (x.h)] 31 (0, 0))) (Eq.trans (by (with_reducible repeat (first | exact Kg2.out | apply blk_set | apply far_put Ng0g1.out | apply far_put Ng0g1.out.symm | apply far_put Ng0g2.out | apply far_put Ng0g2.out.symm | apply far_put Ng1g2.out | apply far_put Ng1g2.out.symm | apply blk_drewN | apply blk_drew | apply blk_alloc))) (by first | rfl)) hb); have mn_ := Aside0.mk hbox; have gn_ := Aside0.mk ((by rw [hg]; exact (below_size (by repeat (first | (with_reducible first | exact HB.out | apply below_alloc | apply pw_below_drewN | apply below_drew1 | refine below_set ?_ Gg0.out | refine below_set ?_ Gg1.out | refine below_set ?_ Gg2.out) | exact HB.out)))) : w.heap.size ≤ g3); have kg0_ := Aside0.mk (show g0 ≠ g3 by rw [hg]; exact Nat.ne_of_lt (blk_lt (o := (.cells #[.int .u32 a0_0, .int .u32 a0_1, .int .u32 a0_2, .int .u32 a0_3] 24 (0, 0))) (Eq.trans (by (with_reducible repeat (first | exact Kg0.out | apply blk_set | apply far_put Ng0g1.out | apply far_put Ng0g1.out.symm | apply far_put Ng0g2.out | apply far_put Ng0g2.out.symm | apply far_put Ng1g2.out | apply far_put Ng1g2.out.symm | apply blk_drewN | apply blk_drew | apply blk_alloc))) (by first | rfl)))); have kg1_ := Aside0.mk (show g1 ≠ g3 by rw [hg]; exact Nat.ne_of_lt (blk_lt (o := (.cells #[.int .u32 a1_0, .int .u32 a1_1, .int .u32 a1_2, .int .u32 a1_3] 24 (0, 0))) (Eq.trans (by (with_reducible repeat (first | exact Kg1.out | apply blk_set | apply far_put Ng0g1.out | apply far_put Ng0g1.out.symm | apply far_put Ng0g2.out | apply far_put Ng0g2.out.symm | apply far_put Ng1g2.out | apply far_put Ng1g2.out.symm | apply blk_drewN | apply blk_drew | apply blk_alloc))) (by first | rfl)))); have kg2_ := Aside0.mk (show g2 ≠ g3 by rw [hg]; exact Nat.ne_of_lt (blk_lt (o := (.cells #[.int .u32 (x.a), .int .u32 (x.b), .int .u32 (x.c), .int .u32 (x.d), .int .u32 (x.e), .int .u32 (x.f), .int .u32 (x.g), .int .u32 (x.h)] 31 (0, 0))) (Eq.trans (by (with_reducible repeat (first | exact Kg2.out | apply blk_set | apply far_put Ng0g1.out | apply far_put Ng0g1.out.symm | apply far_put Ng0g2.out | apply far_put Ng0g2.out.symm | apply far_put Ng1g2.out | apply far_put Ng1g2.out.symm | apply blk_drewN | apply blk_drew | apply blk_alloc))) (by first | rfl)))); clear HB Kg0 Kg1 Kg2; have HB := n0_; clear n0_; have Kg0 := mg0_; clear mg0_; have Kg1 := mg1_; clear mg1_; have Kg2 := mg2_; clear mg2_; have Kg3 := mn_; have Gg3 := gn_; clear mn_ gn_; have Ng0g3 := kg0_; have fg0g3 : (g0 = g3) = False := eq_false Ng0g3.out; have fg3g0 : (g3 = g0) = False := eq_false Ng0g3.out.symm; clear kg0_; have Ng1g3 := kg1_; have fg1g3 : (g1 = g3) = False := eq_false Ng1g3.out; have fg3g1 : (g3 = g1) = False := eq_false Ng1g3.out.symm; clear kg1_; have Ng2g3 := kg2_; have fg2g3 : (g2 = g3) = False := eq_false Ng2g3.out; have fg3g2 : (g3 = g2) = False := eq_false Ng2g3.out.symm; clear kg2_; have cg0_0w7 : w7.cell? ⟨g0, 0, none⟩ = some (.int .u32 a0_0) := (blk_cell Kg0.out 0).trans rfl; have zg0_0w7 := blk_frozen Kg0.out 0; have cg0_1w7 : w7.cell? ⟨g0, 1, none⟩ = some (.int .u32 a0_1) := (blk_cell Kg0.out 1).trans rfl; have zg0_1w7 := blk_frozen Kg0.out 1; have cg0_2w7 : w7.cell? ⟨g0, 2, none⟩ = some (.int .u32 a0_2) := (blk_cell Kg0.out 2).trans rfl; have zg0_2w7 := blk_frozen Kg0.out 2; have cg0_3w7 : w7.cell? ⟨g0, 3, none⟩ = some (.int .u32 a0_3) := (blk_cell Kg0.out 3).trans rfl; have zg0_3w7 := blk_frozen Kg0.out 3; have cg1_0w7 : w7.cell? ⟨g1, 0, none⟩ = some (.int .u32 a1_0) := (blk_cell Kg1.out 0).trans rfl; have zg1_0w7 := blk_frozen Kg1.out 0; have cg1_1w7 : w7.cell? ⟨g1, 1, none⟩ = some (.int .u32 a1_1) := (blk_cell Kg1.out 1).trans rfl; have zg1_1w7 := blk_frozen Kg1.out 1; have cg1_2w7 : w7.cell? ⟨g1, 2, none⟩ = some (.int .u32 a1_2) := (blk_cell Kg1.out 2).trans rfl; have zg1_2w7 := blk_frozen Kg1.out 2; have cg1_3w7 : w7.cell? ⟨g1, 3, none⟩ = some (.int .u32 a1_3) := (blk_cell Kg1.out 3).trans rfl; have zg1_3w7 := blk_frozen Kg1.out 3; have cg2_0w7 : w7.cell? ⟨g2, 0, none⟩ = some (.int .u32 (x.a)) := (blk_cell Kg2.out 0).trans rfl; have zg2_0w7 := blk_frozen Kg2.out 0; have cg2_1w7 : w7.cell? ⟨g2, 1, none⟩ = some (.int .u32 (x.b)) := (blk_cell Kg2.out 1).trans rfl; have zg2_1w7 := blk_frozen Kg2.out 1; have cg2_2w7 : w7.cell? ⟨g2, 2, none⟩ = some (.int .u32 (x.c)) := (blk_cell Kg2.out 2).trans rfl; have zg2_2w7 := blk_frozen Kg2.out 2; have cg2_3w7 : w7.cell? ⟨g2, 3, none⟩ = some (.int .u32 (x.d)) := (blk_cell Kg2.out 3).trans rfl; have zg2_3w7 := blk_frozen Kg2.out 3; have cg2_4w7 : w7.cell? ⟨g2, 4, none⟩ = some (.int .u32 (x.e)) := (blk_cell Kg2.out 4).trans rfl; have zg2_4w7 := blk_frozen Kg2.out 4; have cg2_5w7 : w7.cell? ⟨g2, 5, none⟩ = some (.int .u32 (x.f)) := (blk_cell Kg2.out 5).trans rfl; have zg2_5w7 := blk_frozen Kg2.out 5; have cg2_6w7 : w7.cell? ⟨g2, 6, none⟩ = some (.int .u32 (x.g)) := (blk_cell Kg2.out 6).trans rfl; have zg2_6w7 := blk_frozen Kg2.out 6; have cg2_7w7 : w7.cell? ⟨g2, 7, none⟩ = some (.int .u32 (x.h)) := (blk_cell Kg2.out 7).trans rfl; have zg2_7w7 := blk_frozen Kg2.out 7; have cg3_0w7 : w7.cell? ⟨g3, 0, none⟩ = some (.int .u32 0) := (blk_cell Kg3.out 0).trans rfl; have zg3_0w7 := blk_frozen Kg3.out 0; have cg3_1w7 : w7.cell? ⟨g3, 1, none⟩ = some (.int .u32 0) := (blk_cell Kg3.out 1).trans rfl; have zg3_1w7 := blk_frozen Kg3.out 1; have cg3_2w7 : w7.cell? ⟨g3, 2, none⟩ = some (.int .u32 0) := (blk_cell Kg3.out 2).trans rfl; have zg3_2w7 := blk_frozen Kg3.out 2; have cg3_3w7 : w7.cell? ⟨g3, 3, none⟩ = some (.int .u32 0) := (blk_cell Kg3.out 3).trans rfl; have zg3_3w7 := blk_frozen Kg3.out 3; have cg3_4w7 : w7.cell? ⟨g3, 4, none⟩ = some (.int .u32 0) := (blk_cell Kg3.out 4).trans rfl; have zg3_4w7 := blk_frozen Kg3.out 4; have cg3_5w7 : w7.cell? ⟨g3, 5, none⟩ = some (.int .u32 0) := (blk_cell Kg3.out 5).trans rfl; have zg3_5w7 := blk_frozen Kg3.out 5; have cg3_6w7 : w7.cell? ⟨g3, 6, none⟩ = some (.int .u32 0) := (blk_cell Kg3.out 6).trans rfl; have zg3_6w7 := blk_frozen Kg3.out 6; have cg3_7w7 : w7.cell? ⟨g3, 7, none⟩ = some (.int .u32 0) := (blk_cell Kg3.out 7).trans rfl; have zg3_7w7 := blk_frozen Kg3.out 7; clear hb hbox hg))
  go_wp2_with (first | ((go_at_call 24); (with_reducible refine (digest_Unmix.calls y.a y.b y.c y.d y.e y.f y.g y.h u.a u.b u.c u.d u.e u.f u.g u.h _ H3.out (Tab.below HTB.out (by repeat (first | (with_reducible first | exact HB.out | apply below_alloc | apply pw_below_drewN | apply below_drew1 | refine below_set ?_ Gg0.out | refine below_set ?_ Gg1.out | refine below_set ?_ Gg2.out | refine below_set ?_ Gg3.out) | exact HB.out)))).mono ?_); rintro e w8 ⟨rfl, hb⟩; have n0_ := Aside0.mk (below_step (by repeat (first | (with_reducible first | exact HB.out | apply below_alloc | apply pw_below_drewN | apply below_drew1 | refine below_set ?_ Gg0.out | refine below_set ?_ Gg1.out | refine below_set ?_ Gg2.out | refine below_set ?_ Gg3.out) | exact HB.out)) hb); have mg0_ := Aside0.mk (blk_below (g := g0) (o := (.cells #[.int .u32 a0_0, .int .u32 a0_1, .int .u32 a0_2, .int .u32 a0_3] 24 (0, 0))) (Eq.trans (by (with_reducible repeat (first | exact Kg0.out | apply blk_set | apply far_put Ng0g1.out | apply far_put Ng0g1.out.symm | apply far_put Ng0g2.out | apply far_put Ng0g2.out.symm | apply far_put Ng0g3.out | apply far_put Ng0g3.out.symm | apply far_put Ng1g2.out | apply far_put Ng1g2.out.symm | apply far_put Ng1g3.out | apply far_put Ng1g3.out.symm | apply far_put Ng2g3.out | apply far_put Ng2g3.out.symm | apply blk_drewN | apply blk_drew | apply blk_alloc))) (by first | rfl)) hb); have mg1_ := Aside0.mk (blk_below (g := g1) (o := (.cells #[.int .u32 a1_0, .int .u32 a1_1, .int .u32 a1_2, .int .u32 a1_3] 24 (0, 0))) (Eq.trans (by (with_reducible repeat (first | exact Kg1.out | apply blk_set | apply far_put Ng0g1.out | apply far_put Ng0g1.out.symm | apply far_put Ng0g2.out | apply far_put Ng0g2.out.symm | apply far_put Ng0g3.out | apply far_put Ng0g3.out.symm | apply far_put Ng1g2.out | apply far_put Ng1g2.out.symm | apply far_put Ng1g3.out | apply far_put Ng1g3.out.symm | apply far_put Ng2g3.out | apply far_put Ng2g3.out.symm | apply blk_drewN | apply blk_drew | apply blk_alloc))) (by first | rfl)) hb); have mg2_ := Aside0.mk (blk_below (g := g2) (o := (.cells #[.int .u32 (x.a), .int .u32 (x.b), .int .u32 (x.c), .int .u32 (x.d), .int .u32 (x.e), .int .u32 (x.f), .int .u32 (x.g), .int .u32 (x.h)] 31 (0, 0))) (Eq.trans (by (with_reducible repeat (first | exact Kg2.out | apply blk_set | apply far_put Ng0g1.out | apply far_put Ng0g1.out.symm | apply far_put Ng0g2.out | apply far_put Ng0g2.out.symm | apply far_put Ng0g3.out | apply far_put Ng0g3.out.symm | apply far_put Ng1g2.out | apply far_put Ng1g2.out.symm | apply far_put Ng1g3.out | apply far_put Ng1g3.out.symm | apply far_put Ng2g3.out | apply far_put Ng2g3.out.symm | apply blk_drewN | apply blk_drew | apply blk_alloc))) (by first | rfl)) hb); have mg3_ := Aside0.mk (blk_below (g := g3) (o := (.cells #[.int .u32 (y.a), .int .u32 (y.b), .int .u32 (y.c), .int .u32 (y.d), .int .u32 (y.e), .int .u32 (y.f), .int .u32 (y.g), .int .u32 (y.h)] 31 (0, 0))) (Eq.trans (by (with_reducible repeat (first | exact Kg3.out | apply blk_set | apply far_put Ng0g1.out | apply far_put Ng0g1.out.symm | apply far_put Ng0g2.out | apply far_put Ng0g2.out.symm | apply far_put Ng0g3.out | apply far_put Ng0g3.out.symm | apply far_put Ng1g2.out | apply far_put Ng1g2.out.symm | apply far_put Ng1g3.out | apply far_put Ng1g3.out.symm | apply far_put Ng2g3.out | apply far_put Ng2g3.out.symm | apply blk_drewN | apply blk_drew | apply blk_alloc))) (by first | rfl)) hb); clear HB Kg0 Kg1 Kg2 Kg3; have HB := n0_; clear n0_; have Kg0 := mg0_; clear mg0_; have Kg1 := mg1_; clear mg1_; have Kg2 := mg2_; clear mg2_; have Kg3 := mg3_; clear mg3_; have cg0_0w8 : w8.cell? ⟨g0, 0, none⟩ = some (.int .u32 a0_0) := (blk_cell Kg0.out 0).trans rfl; have zg0_0w8 := blk_frozen Kg0.out 0; have cg0_1w8 : w8.cell? ⟨g0, 1, none⟩ = some (.int .u32 a0_1) := (blk_cell Kg0.out 1).trans rfl; have zg0_1w8 := blk_frozen Kg0.out 1; have cg0_2w8 : w8.cell? ⟨g0, 2, none⟩ = some (.int .u32 a0_2) := (blk_cell Kg0.out 2).trans rfl; have zg0_2w8 := blk_frozen Kg0.out 2; have cg0_3w8 : w8.cell? ⟨g0, 3, none⟩ = some (.int .u32 a0_3) := (blk_cell Kg0.out 3).trans rfl; have zg0_3w8 := blk_frozen Kg0.out 3; have cg1_0w8 : w8.cell? ⟨g1, 0, none⟩ = some (.int .u32 a1_0) := (blk_cell Kg1.out 0).trans rfl; have zg1_0w8 := blk_frozen Kg1.out 0; have cg1_1w8 : w8.cell? ⟨g1, 1, none⟩ = some (.int .u32 a1_1) := (blk_cell Kg1.out 1).trans rfl; have zg1_1w8 := blk_frozen Kg1.out 1; have cg1_2w8 : w8.cell? ⟨g1, 2, none⟩ = some (.int .u32 a1_2) := (blk_cell Kg1.out 2).trans rfl; have zg1_2w8 := blk_frozen Kg1.out 2; have cg1_3w8 : w8.cell? ⟨g1, 3, none⟩ = some (.int .u32 a1_3) := (blk_cell Kg1.out 3).trans rfl; have zg1_3w8 := blk_frozen Kg1.out 3; have cg2_0w8 : w8.cell? ⟨g2, 0, none⟩ = some (.int .u32 (x.a)) := (blk_cell Kg2.out 0).trans rfl; have zg2_0w8 := blk_frozen Kg2.out 0; have cg2_1w8 : w8.cell? ⟨g2, 1, none⟩ = some (.int .u32 (x.b)) := (blk_cell Kg2.out 1).trans rfl; have zg2_1w8 := blk_frozen Kg2.out 1; have cg2_2w8 : w8.cell? ⟨g2, 2, none⟩ = some (.int .u32 (x.c)) := (blk_cell Kg2.out 2).trans rfl; have zg2_2w8 := blk_frozen Kg2.out 2; have cg2_3w8 : w8.cell? ⟨g2, 3, none⟩ = some (.int .u32 (x.d)) := (blk_cell Kg2.out 3).trans rfl; have zg2_3w8 := blk_frozen Kg2.out 3; have cg2_4w8 : w8.cell? ⟨g2, 4, none⟩ = some (.int .u32 (x.e)) := (blk_cell Kg2.out 4).trans rfl; have zg2_4w8 := blk_frozen Kg2.out 4; have cg2_5w8 : w8.cell? ⟨g2, 5, none⟩ = some (.int .u32 (x.f)) := (blk_cell Kg2.out 5).trans rfl; have zg2_5w8 := blk_frozen Kg2.out 5; have cg2_6w8 : w8.cell? ⟨g2, 6, none⟩ = some (.int .u32 (x.g)) := (blk_cell Kg2.out 6).trans rfl; have zg2_6w8 := blk_frozen Kg2.out 6; have cg2_7w8 : w8.cell? ⟨g2, 7, none⟩ = some (.int .u32 (x.h)) := (blk_cell Kg2.out 7).trans rfl; have zg2_7w8 := blk_frozen Kg2.out 7; have cg3_0w8 : w8.cell? ⟨g3, 0, none⟩ = some (.int .u32 (y.a)) := (blk_cell Kg3.out 0).trans rfl; have zg3_0w8 := blk_frozen Kg3.out 0; have cg3_1w8 : w8.cell? ⟨g3, 1, none⟩ = some (.int .u32 (y.b)) := (blk_cell Kg3.out 1).trans rfl; have zg3_1w8 := blk_frozen Kg3.out 1; have cg3_2w8 : w8.cell? ⟨g3, 2, none⟩ = some (.int .u32 (y.c)) := (blk_cell Kg3.out 2).trans rfl; have zg3_2w8 := blk_frozen Kg3.out 2; have cg3_3w8 : w8.cell? ⟨g3, 3, none⟩ = some (.int .u32 (y.d)) := (blk_cell Kg3.out 3).trans rfl; have zg3_3w8 := blk_frozen Kg3.out 3; have cg3_4w8 : w8.cell? ⟨g3, 4, none⟩ = some (.int .u32 (y.e)) := (blk_cell Kg3.out 4).trans rfl; have zg3_4w8 := blk_frozen Kg3.out 4; have cg3_5w8 : w8.cell? ⟨g3, 5, none⟩ = some (.int .u32 (y.f)) := (blk_cell Kg3.out 5).trans rfl; have zg3_5w8 := blk_frozen Kg3.out 5; have cg3_6w8 : w8.cell? ⟨g3, 6, none⟩ = some (.int .u32 (y.g)) := (blk_cell Kg3.out 6).trans rfl; have zg3_6w8 := blk_frozen Kg3.out 6; have cg3_7w8 : w8.cell? ⟨g3, 7, none⟩ = some (.int .u32 (y.h)) := (blk_cell Kg3.out 7).trans rfl; have zg3_7w8 := blk_frozen Kg3.out 7; clear hb) | ((with_reducible refine gate_dst (N := 7) rfl ?_); refine box_event ?hg (N := 7) ?hd (cs := #[.int .u32 0, .int .u32 0, .int .u32 0, .int .u32 0, .int .u32 0, .int .u32 0, .int .u32 0, .int .u32 0]) (t := 31) ?hr ?_; (case hd => rfl); (case hg => rfl); (case hr => first | (go_simp; done) | (go_simp; rfl)); intro g4 hg w9 hbox hb; have n0_ := Aside0.mk (below_step (by repeat (first | (with_reducible first | exact HB.out | apply below_alloc | apply pw_below_drewN | apply below_drew1 | refine below_set ?_ Gg0.out | refine below_set ?_ Gg1.out | refine below_set ?_ Gg2.out | refine below_set ?_ Gg3.out) | exact HB.out)) hb); have mg0_ := Aside0.mk (blk_below (g := g0) (o := (.cells #[.int .u32 a0_0, .int .u32 a0_1, .int .u32 a0_2, .int .u32 a0_3] 24 (0, 0))) (Eq.trans (by (with_reducible repeat (first | exact Kg0.out | apply blk_set | apply far_put Ng0g1.out | apply far_put Ng0g1.out.symm | apply far_put Ng0g2.out | apply far_put Ng0g2.out.symm | apply far_put Ng0g3.out | apply far_put Ng0g3.out.symm | apply far_put Ng1g2.out | apply far_put Ng1g2.out.symm | apply far_put Ng1g3.out | apply far_put Ng1g3.out.symm | apply far_put Ng2g3.out | apply far_put Ng2g3.out.symm | apply blk_drewN | apply blk_drew | apply blk_alloc))) (by first | rfl)) hb); have mg1_ := Aside0.mk (blk_below (g := g1) (o := (.cells #[.int .u32 a1_0, .int .u32 a1_1, .int .u32 a1_2, .int .u32 a1_3] 24 (0, 0))) (Eq.trans (by (with_reducible repeat (first | exact Kg1.out | apply blk_set | apply far_put Ng0g1.out | apply far_put Ng0g1.out.symm | apply far_put Ng0g2.out | apply far_put Ng0g2.out.symm | apply far_put Ng0g3.out | apply far_put Ng0g3.out.symm | apply far_put Ng1g2.out | apply far_put Ng1g2.out.symm | apply far_put Ng1g3.out | apply far_put Ng1g3.out.symm | apply far_put Ng2g3.out | apply far_put Ng2g3.out.symm | apply blk_drewN | apply blk_drew | apply blk_alloc))) (by first | rfl)) hb); have mg2_ := Aside0.mk (blk_below (g := g2) (o := (.cells #[.int .u32 (x.a), .int .u32 (x.b), .int .u32 (x.c), .int .u32 (x.d), .int .u32 (x.e), .int .u32 (x.f), .int .u32 (x.g), .int .u32 (x.h)] 31 (0, 0))) (Eq.trans (by (with_reducible repeat (first | exact Kg2.out | apply blk_set | apply far_put Ng0g1.out | apply far_put Ng0g1.out.symm | apply far_put Ng0g2.out | apply far_put Ng0g2.out.symm | apply far_put Ng0g3.out | apply far_put Ng0g3.out.symm | apply far_put Ng1g2.out | apply far_put Ng1g2.out.symm | apply far_put Ng1g3.out | apply far_put Ng1g3.out.symm | apply far_put Ng2g3.out | apply far_put Ng2g3.out.symm | apply blk_drewN | apply blk_drew | apply blk_alloc))) (by first | rfl)) hb); have mg3_ := Aside0.mk (blk_below (g := g3) (o := (.cells #[.int .u32 (y.a), .int .u32 (y.b), .int .u32 (y.c), .int .u32 (y.d), .int .u32 (y.e), .int .u32 (y.f), .int .u32 (y.g), .int .u32 (y.h)] 31 (0, 0))) (Eq.trans (by (with_reducible repeat (first | exact Kg3.out | apply blk_set | apply far_put Ng0g1.out | apply far_put Ng0g1.out.symm | apply far_put Ng0g2.out | apply far_put Ng0g2.out.symm | apply far_put Ng0g3.out | apply far_put Ng0g3.out.symm | apply far_put Ng1g2.out | apply far_put Ng1g2.out.symm | apply far_put Ng1g3.out | apply far_put Ng1g3.out.symm | apply far_put Ng2g3.out | apply far_put Ng2g3.out.symm | apply blk_drewN | apply blk_drew | apply blk_alloc))) (by first | rfl)) hb); have mn_ := Aside0.mk hbox; have gn_ := Aside0.mk ((by rw [hg]; exact (below_size (by repeat (first | (with_reducible first | exact HB.out | apply below_alloc | apply pw_below_drewN | apply below_drew1 | refine below_set ?_ Gg0.out | refine below_set ?_ Gg1.out | refine below_set ?_ Gg2.out | refine below_set ?_ Gg3.out) | exact HB.out)))) : w.heap.size ≤ g4); have kg0_ := Aside0.mk (show g0 ≠ g4 by rw [hg]; exact Nat.ne_of_lt (blk_lt (o := (.cells #[.int .u32 a0_0, .int .u32 a0_1, .int .u32 a0_2, .int .u32 a0_3] 24 (0, 0))) (Eq.trans (by (with_reducible repeat (first | exact Kg0.out | apply blk_set | apply far_put Ng0g1.out | apply far_put Ng0g1.out.symm | apply far_put Ng0g2.out | apply far_put Ng0g2.out.symm | apply far_put Ng0g3.out | apply far_put Ng0g3.out.symm | apply far_put Ng1g2.out | apply far_put Ng1g2.out.symm | apply far_put Ng1g3.out | apply far_put Ng1g3.out.symm | apply far_put Ng2g3.out | apply far_put Ng2g3.out.symm | apply blk_drewN | apply blk_drew | apply blk_alloc))) (by first | rfl)))); have kg1_ := Aside0.mk (show g1 ≠ g4 by rw [hg]; exact Nat.ne_of_lt (blk_lt (o := (.cells #[.int .u32 a1_0, .int .u32 a1_1, .int .u32 a1_2, .int .u32 a1_3] 24 (0, 0))) (Eq.trans (by (with_reducible repeat (first | exact Kg1.out | apply blk_set | apply far_put Ng0g1.out | apply far_put Ng0g1.out.symm | apply far_put Ng0g2.out | apply far_put Ng0g2.out.symm | apply far_put Ng0g3.out | apply far_put Ng0g3.out.symm | apply far_put Ng1g2.out | apply far_put Ng1g2.out.symm | apply far_put Ng1g3.out | apply far_put Ng1g3.out.symm | apply far_put Ng2g3.out | apply far_put Ng2g3.out.symm | apply blk_drewN | apply blk_drew | apply blk_alloc))) (by first | rfl)))); have kg2_ := Aside0.mk (show g2 ≠ g4 by rw [hg]; exact Nat.ne_of_lt (blk_lt (o := (.cells #[.int .u32 (x.a), .int .u32 (x.b), .int .u32 (x.c), .int .u32 (x.d), .int .u32 (x.e), .int .u32 (x.f), .int .u32 (x.g), .int .u32 (x.h)] 31 (0, 0))) (Eq.trans (by (with_reducible repeat (first | exact Kg2.out | apply blk_set | apply far_put Ng0g1.out | apply far_put Ng0g1.out.symm | apply far_put Ng0g2.out | apply far_put Ng0g2.out.symm | apply far_put Ng0g3.out | apply far_put Ng0g3.out.symm | apply far_put Ng1g2.out | apply far_put Ng1g2.out.symm | apply far_put Ng1g3.out | apply far_put Ng1g3.out.symm | apply far_put Ng2g3.out | apply far_put Ng2g3.out.symm | apply blk_drewN | apply blk_drew | apply blk_alloc))) (by first | rfl)))); have kg3_ := Aside0.mk (show g3 ≠ g4 by rw [hg]; exact Nat.ne_of_lt (blk_lt (o := (.cells #[.int .u32 (y.a), .int .u32 (y.b), .int .u32 (y.c), .int .u32 (y.d), .int .u32 (y.e), .int .u32 (y.f), .int .u32 (y.g), .int .u32 (y.h)] 31 (0, 0))) (Eq.trans (by (with_reducible repeat (first | exact Kg3.out | apply blk_set | apply far_put Ng0g1.out | apply far_put Ng0g1.out.symm | apply far_put Ng0g2.out | apply far_put Ng0g2.out.symm | apply far_put Ng0g3.out | apply far_put Ng0g3.out.symm | apply far_put Ng1g2.out | apply far_put Ng1g2.out.symm | apply far_put Ng1g3.out | apply far_put Ng1g3.out.symm | apply far_put Ng2g3.out | apply far_put Ng2g3.out.symm | apply blk_drewN | apply blk_drew | apply blk_alloc))) (by first | rfl)))); clear HB Kg0 Kg1 Kg2 Kg3; have HB := n0_; clear n0_; have Kg0 := mg0_; clear mg0_; have Kg1 := mg1_; clear mg1_; have Kg2 := mg2_; clear mg2_; have Kg3 := mg3_; clear mg3_; have Kg4 := mn_; have Gg4 := gn_; clear mn_ gn_; have Ng0g4 := kg0_; have fg0g4 : (g0 = g4) = False := eq_false Ng0g4.out; have fg4g0 : (g4 = g0) = False := eq_false Ng0g4.out.symm; clear kg0_; have Ng1g4 := kg1_; have fg1g4 : (g1 = g4) = False := eq_false Ng1g4.out; have fg4g1 : (g4 = g1) = False := eq_false Ng1g4.out.symm; clear kg1_; have Ng2g4 := kg2_; have fg2g4 : (g2 = g4) = False := eq_false Ng2g4.out; have fg4g2 : (g4 = g2) = False := eq_false Ng2g4.out.symm; clear kg2_; have Ng3g4 := kg3_; have fg3g4 : (g3 = g4) = False := eq_false Ng3g4.out; have fg4g3 : (g4 = g3) = False := eq_false Ng3g4.out.symm; clear kg3_; have cg0_0w9 : w9.cell? ⟨g0, 0, none⟩ = some (.int .u32 a0_0) := (blk_cell Kg0.out 0).trans rfl; have zg0_0w9 := blk_frozen Kg0.out 0; have cg0_1w9 : w9.cell? ⟨g0, 1, none⟩ = some (.int .u32 a0_1) := (blk_cell Kg0.out 1).trans rfl; have zg0_1w9 := blk_frozen Kg0.out 1; have cg0_2w9 : w9.cell? ⟨g0, 2, none⟩ = some (.int .u32 a0_2) := (blk_cell Kg0.out 2).trans rfl; have zg0_2w9 := blk_frozen Kg0.out 2; have cg0_3w9 : w9.cell? ⟨g0, 3, none⟩ = some (.int .u32 a0_3) := (blk_cell Kg0.out 3).trans rfl; have zg0_3w9 := blk_frozen Kg0.out 3; have cg1_0w9 : w9.cell? ⟨g1, 0, none⟩ = some (.int .u32 a1_0) := (blk_cell Kg1.out 0).trans rfl; have zg1_0w9 := blk_frozen Kg1.out 0; have cg1_1w9 : w9.cell? ⟨g1, 1, none⟩ = some (.int .u32 a1_1) := (blk_cell Kg1.out 1).trans rfl; have zg1_1w9 := blk_frozen Kg1.out 1; have cg1_2w9 : w9.cell? ⟨g1, 2, none⟩ = some (.int .u32 a1_2) := (blk_cell Kg1.out 2).trans rfl; have zg1_2w9 := blk_frozen Kg1.out 2; have cg1_3w9 : w9.cell? ⟨g1, 3, none⟩ = some (.int .u32 a1_3) := (blk_cell Kg1.out 3).trans rfl; have zg1_3w9 := blk_frozen Kg1.out 3; have cg2_0w9 : w9.cell? ⟨g2, 0, none⟩ = some (.int .u32 (x.a)) := (blk_cell Kg2.out 0).trans rfl; have zg2_0w9 := blk_frozen Kg2.out 0; have cg2_1w9 : w9.cell? ⟨g2, 1, none⟩ = some (.int .u32 (x.b)) := (blk_cell Kg2.out 1).trans rfl; have zg2_1w9 := blk_frozen Kg2.out 1; have cg2_2w9 : w9.cell? ⟨g2, 2, none⟩ = some (.int .u32 (x.c)) := (blk_cell Kg2.out 2).trans rfl; have zg2_2w9 := blk_frozen Kg2.out 2; have cg2_3w9 : w9.cell? ⟨g2, 3, none⟩ = some (.int .u32 (x.d)) := (blk_cell Kg2.out 3).trans rfl; have zg2_3w9 := blk_frozen Kg2.out 3; have cg2_4w9 : w9.cell? ⟨g2, 4, none⟩ = some (.int .u32 (x.e)) := (blk_cell Kg2.out 4).trans rfl; have zg2_4w9 := blk_frozen Kg2.out 4; have cg2_5w9 : w9.cell? ⟨g2, 5, none⟩ = some (.int .u32 (x.f)) := (blk_cell Kg2.out 5).trans rfl; have zg2_5w9 := blk_frozen Kg2.out 5; have cg2_6w9 : w9.cell? ⟨g2, 6, none⟩ = some (.int .u32 (x.g)) := (blk_cell Kg2.out 6).trans rfl; have zg2_6w9 := blk_frozen Kg2.out 6; have cg2_7w9 : w9.cell? ⟨g2, 7, none⟩ = some (.int .u32 (x.h)) := (blk_cell Kg2.out 7).trans rfl; have zg2_7w9 := blk_frozen Kg2.out 7; have cg3_0w9 : w9.cell? ⟨g3, 0, none⟩ = some (.int .u32 (y.a)) := (blk_cell Kg3.out 0).trans rfl; have zg3_0w9 := blk_frozen Kg3.out 0; have cg3_1w9 : w9.cell? ⟨g3, 1, none⟩ = some (.int .u32 (y.b)) := (blk_cell Kg3.out 1).trans rfl; have zg3_1w9 := blk_frozen Kg3.out 1; have cg3_2w9 : w9.cell? ⟨g3, 2, none⟩ = some (.int .u32 (y.c)) := (blk_cell Kg3.out 2).trans rfl; have zg3_2w9 := blk_frozen Kg3.out 2; have cg3_3w9 : w9.cell? ⟨g3, 3, none⟩ = some (.int .u32 (y.d)) := (blk_cell Kg3.out 3).trans rfl; have zg3_3w9 := blk_frozen Kg3.out 3; have cg3_4w9 : w9.cell? ⟨g3, 4, none⟩ = some (.int .u32 (y.e)) := (blk_cell Kg3.out 4).trans rfl; have zg3_4w9 := blk_frozen Kg3.out 4; have cg3_5w9 : w9.cell? ⟨g3, 5, none⟩ = some (.int .u32 (y.f)) := (blk_cell Kg3.out 5).trans rfl; have zg3_5w9 := blk_frozen Kg3.out 5; have cg3_6w9 : w9.cell? ⟨g3, 6, none⟩ = some (.int .u32 (y.g)) := (blk_cell Kg3.out 6).trans rfl; have zg3_6w9 := blk_frozen Kg3.out 6; have cg3_7w9 : w9.cell? ⟨g3, 7, none⟩ = some (.int .u32 (y.h)) := (blk_cell Kg3.out 7).trans rfl; have zg3_7w9 := blk_frozen Kg3.out 7; have cg4_0w9 : w9.cell? ⟨g4, 0, none⟩ = some (.int .u32 0) := (blk_cell Kg4.out 0).trans rfl; have zg4_0w9 := blk_frozen Kg4.out 0; have cg4_1w9 : w9.cell? ⟨g4, 1, none⟩ = some (.int .u32 0) := (blk_cell Kg4.out 1).trans rfl; have zg4_1w9 := blk_frozen Kg4.out 1; have cg4_2w9 : w9.cell? ⟨g4, 2, none⟩ = some (.int .u32 0) := (blk_cell Kg4.out 2).trans rfl; have zg4_2w9 := blk_frozen Kg4.out 2; have cg4_3w9 : w9.cell? ⟨g4, 3, none⟩ = some (.int .u32 0) := (blk_cell Kg4.out 3).trans rfl; have zg4_3w9 := blk_frozen Kg4.out 3; have cg4_4w9 : w9.cell? ⟨g4, 4, none⟩ = some (.int .u32 0) := (blk_cell Kg4.out 4).trans rfl; have zg4_4w9 := blk_frozen Kg4.out 4; have cg4_5w9 : w9.cell? ⟨g4, 5, none⟩ = some (.int .u32 0) := (blk_cell Kg4.out 5).trans rfl; have zg4_5w9 := blk_frozen Kg4.out 5; have cg4_6w9 : w9.cell? ⟨g4, 6, none⟩ = some (.int .u32 0) := (blk_cell Kg4.out 6).trans rfl; have zg4_6w9 := blk_frozen Kg4.out 6; have cg4_7w9 : w9.cell? ⟨g4, 7, none⟩ = some (.int .u32 0) := (blk_cell Kg4.out 7).trans rfl; have zg4_7w9 := blk_frozen Kg4.out 7; clear hb hbox hg))
  refine wp_loop_in ?_
  refine inLoop_gen (fun w' => Below w.heap.size w w' ∧ w'.heap[g0]? = some (.cells #[.int .u32 a0_0, .int .u32 a0_1, .int .u32 a0_2, .int .u32 a0_3] 24 (0, 0)) ∧ w'.heap[g1]? = some (.cells #[.int .u32 a1_0, .int .u32 a1_1, .int .u32 a1_2, .int .u32 a1_3] 24 (0, 0)) ∧ w'.heap[g2]? = some (.cells #[.int .u32 (x.a), .int .u32 (x.b), .int .u32 (x.c), .int .u32 (x.d), .int .u32 (x.e), .int .u32 (x.f), .int .u32 (x.g), .int .u32 (x.h)] 31 (0, 0)) ∧ w'.heap[g3]? = some (.cells #[.int .u32 (y.a), .int .u32 (y.b), .int .u32 (y.c), .int .u32 (y.d), .int .u32 (y.e), .int .u32 (y.f), .int .u32 (y.g), .int .u32 (y.h)] 31 (0, 0)) ∧ w'.heap[g4]? = some (.cells #[.int .u32 (u.a), .int .u32 (u.b), .int .u32 (u.c), .int .u32 (u.d), .int .u32 (u.e), .int .u32 (u.f), .int .u32 (u.g), .int .u32 (u.h)] 31 (0, 0))) ⟨(by repeat (first | (with_reducible first | exact HB.out | apply below_alloc | apply pw_below_drewN | apply below_drew1 | refine below_set ?_ Gg0.out | refine below_set ?_ Gg1.out | refine below_set ?_ Gg2.out | refine below_set ?_ Gg3.out | refine below_set ?_ Gg4.out) | exact HB.out)), (Eq.trans (by (with_reducible repeat (first | exact Kg0.out | apply blk_set | apply far_put Ng0g1.out | apply far_put Ng0g1.out.symm | apply far_put Ng0g2.out | apply far_put Ng0g2.out.symm | apply far_put Ng0g3.out | apply far_put Ng0g3.out.symm | apply far_put Ng0g4.out | apply far_put Ng0g4.out.symm | apply far_put Ng1g2.out | apply far_put Ng1g2.out.symm | apply far_put Ng1g3.out | apply far_put Ng1g3.out.symm | apply far_put Ng1g4.out | apply far_put Ng1g4.out.symm | apply far_put Ng2g3.out | apply far_put Ng2g3.out.symm | apply far_put Ng2g4.out | apply far_put Ng2g4.out.symm | apply far_put Ng3g4.out | apply far_put Ng3g4.out.symm | apply blk_drewN | apply blk_drew | apply blk_alloc))) (by first | rfl)), (Eq.trans (by (with_reducible repeat (first | exact Kg1.out | apply blk_set | apply far_put Ng0g1.out | apply far_put Ng0g1.out.symm | apply far_put Ng0g2.out | apply far_put Ng0g2.out.symm | apply far_put Ng0g3.out | apply far_put Ng0g3.out.symm | apply far_put Ng0g4.out | apply far_put Ng0g4.out.symm | apply far_put Ng1g2.out | apply far_put Ng1g2.out.symm | apply far_put Ng1g3.out | apply far_put Ng1g3.out.symm | apply far_put Ng1g4.out | apply far_put Ng1g4.out.symm | apply far_put Ng2g3.out | apply far_put Ng2g3.out.symm | apply far_put Ng2g4.out | apply far_put Ng2g4.out.symm | apply far_put Ng3g4.out | apply far_put Ng3g4.out.symm | apply blk_drewN | apply blk_drew | apply blk_alloc))) (by first | rfl)), (Eq.trans (by (with_reducible repeat (first | exact Kg2.out | apply blk_set | apply far_put Ng0g1.out | apply far_put Ng0g1.out.symm | apply far_put Ng0g2.out | apply far_put Ng0g2.out.symm | apply far_put Ng0g3.out | apply far_put Ng0g3.out.symm | apply far_put Ng0g4.out | apply far_put Ng0g4.out.symm | apply far_put Ng1g2.out | apply far_put Ng1g2.out.symm | apply far_put Ng1g3.out | apply far_put Ng1g3.out.symm | apply far_put Ng1g4.out | apply far_put Ng1g4.out.symm | apply far_put Ng2g3.out | apply far_put Ng2g3.out.symm | apply far_put Ng2g4.out | apply far_put Ng2g4.out.symm | apply far_put Ng3g4.out | apply far_put Ng3g4.out.symm | apply blk_drewN | apply blk_drew | apply blk_alloc))) (by first | rfl)), (Eq.trans (by (with_reducible repeat (first | exact Kg3.out | apply blk_set | apply far_put Ng0g1.out | apply far_put Ng0g1.out.symm | apply far_put Ng0g2.out | apply far_put Ng0g2.out.symm | apply far_put Ng0g3.out | apply far_put Ng0g3.out.symm | apply far_put Ng0g4.out | apply far_put Ng0g4.out.symm | apply far_put Ng1g2.out | apply far_put Ng1g2.out.symm | apply far_put Ng1g3.out | apply far_put Ng1g3.out.symm | apply far_put Ng1g4.out | apply far_put Ng1g4.out.symm | apply far_put Ng2g3.out | apply far_put Ng2g3.out.symm | apply far_put Ng2g4.out | apply far_put Ng2g4.out.symm | apply far_put Ng3g4.out | apply far_put Ng3g4.out.symm | apply blk_drewN | apply blk_drew | apply blk_alloc))) (by first | rfl)), (Eq.trans (by (with_reducible repeat (first | exact Kg4.out | apply blk_set | apply far_put Ng0g1.out | apply far_put Ng0g1.out.symm | apply far_put Ng0g2.out | apply far_put Ng0g2.out.symm | apply far_put Ng0g3.out | apply far_put Ng0g3.out.symm | apply far_put Ng0g4.out | apply far_put Ng0g4.out.symm | apply far_put Ng1g2.out | apply far_put Ng1g2.out.symm | apply far_put Ng1g3.out | apply far_put Ng1g3.out.symm | apply far_put Ng1g4.out | apply far_put Ng1g4.out.symm | apply far_put Ng2g3.out | apply far_put Ng2g3.out.symm | apply far_put Ng2g4.out | apply far_put Ng2g4.out.symm | apply far_put Ng3g4.out | apply far_put Ng3g4.out.symm | apply blk_drewN | apply blk_drew | apply blk_alloc))) (by first | rfl))⟩ ?_
  try clear K1
  intro wA hF
  clear HB
  obtain ⟨n0_, n1_, n2_, n3_, n4_, n5_⟩ := hF
  try clear Kg0
  try clear Kg1
  try clear Kg2
  try clear Kg3
  try clear Kg4
  have HB := Aside0.mk n0_
  have Kg0 := Aside0.mk n1_
  have Kg1 := Aside0.mk n2_
  have Kg2 := Aside0.mk n3_
  have Kg3 := Aside0.mk n4_
  have Kg4 := Aside0.mk n5_
  clear n0_ n1_ n2_ n3_ n4_ n5_
  refine inLoop_k fun K1 hK1 => ?_
  go_wp2
  refine start_ (n := 10) (S := fun w' => w'.heap[g4]? = some (.cells #[.int .u32 (u.a), .int .u32 (u.b), .int .u32 (u.c), .int .u32 (u.d), .int .u32 (u.e), .int .u32 (u.f), .int .u32 (u.g), .int .u32 (u.h)] 31 (0, 0)) ∧ w'.heap[g1]? = some (.cells #[.int .u32 a1_0, .int .u32 a1_1, .int .u32 a1_2, .int .u32 a1_3] 24 (0, 0))) (ds := [9]) #[false, false, false, false, false, false, false, false, false, false] (by kernel_rfl) rfl rfl ⟨blk_drew Kg4.out, blk_drew Kg1.out⟩ (fun hHeld => ?_)
  refine pure_ (i := 0) (N := (some 21)) (v := ?_) (a' := ?_) #[true, false, false, false, false, false, false, false, false, false] rfl rfl (by kernel_rfl) (fun _ _ _ h => h) (Or.inl ⟨by rfl, ?_⟩) ?_ ?_
  rotate_left
  · intro w'
    go_simp
    with_reducible rfl
  rotate_left
  · simp only [Act.put, List.setIfInBounds_toArray, List.set_cons_zero, List.set_cons_succ, i64_w, i32_w]
    rfl
  refine pure_ (i := 1) (N := (some 22)) (v := ?_) (a' := ?_) #[true, true, false, false, false, false, false, false, false, false] rfl rfl (by kernel_rfl) (fun _ _ _ h => h) (Or.inl ⟨by rfl, ?_⟩) ?_ ?_
  rotate_left
  · intro w'
    go_simp
    with_reducible rfl
  rotate_left
  · simp only [Act.put, List.setIfInBounds_toArray, List.set_cons_zero, List.set_cons_succ, i64_w, i32_w]
    rfl
  refine pure_ (i := 2) (N := (some 23)) (v := ?_) (a' := ?_) #[true, true, true, false, false, false, false, false, false, false] rfl rfl (by kernel_rfl) (fun _ _ _ h => h) (Or.inl ⟨by rfl, ?_⟩) ?_ ?_
  rotate_left
  · intro w'
    go_simp
    with_reducible rfl
  rotate_left
  · simp only [Act.put, List.setIfInBounds_toArray, List.set_cons_zero, List.set_cons_succ, i64_w, i32_w]
    rfl
  refine pure_ (i := 4) (N := (some 25)) (v := ?_) (a' := ?_) #[true, true, true, false, true, false, false, false, false, false] rfl rfl (by kernel_rfl) (fun _ _ _ h => h) (Or.inl ⟨by rfl, ?_⟩) ?_ ?_
  rotate_left
  · intro w'
    go_simp
    with_reducible rfl
  rotate_left
  · simp only [Act.put, List.setIfInBounds_toArray, List.set_cons_zero, List.set_cons_succ, i64_w, i32_w]
    rfl
  refine pure_ (i := 5) (N := (some 26)) (v := ?_) (a' := ?_) #[true, true, true, false, true, true, false, false, false, false] rfl rfl (by kernel_rfl) (fun _ _ _ h => h) (Or.inl ⟨by rfl, ?_⟩) ?_ ?_
  rotate_left
  · intro w'
    go_simp
    with_reducible rfl
  rotate_left
  · simp only [Act.put, List.setIfInBounds_toArray, List.set_cons_zero, List.set_cons_succ, i64_w, i32_w]
    rfl
  refine take_ (i := 3) (N := (some 24)) (v := ?_) (a' := ?_) #[true, true, true, true, true, true, false, false, false, false] rfl rfl (by kernel_rfl) (fun _ _ _ h => h) (Or.inl ⟨by rfl, ?_⟩) hHeld ?_ ?_
  rotate_left
  · intro w' hS_
    have cz_ := (blk_cell hS_.1 0).trans rfl
    go_simp
    with_reducible rfl
  rotate_left
  · simp only [Act.put, List.setIfInBounds_toArray, List.set_cons_zero, List.set_cons_succ, i64_w, i32_w]
    rfl
  refine take_ (i := 6) (N := (some 27)) (v := ?_) (a' := ?_) #[true, true, true, true, true, true, true, false, false, false] rfl rfl (by kernel_rfl) (fun _ _ _ h => h) (Or.inl ⟨by rfl, ?_⟩) hHeld ?_ ?_
  rotate_left
  · intro w' hS_
    have cz_ := (blk_cell hS_.2 0).trans rfl
    go_simp
    with_reducible rfl
  rotate_left
  · simp only [Act.put, List.setIfInBounds_toArray, List.set_cons_zero, List.set_cons_succ, i64_w, i32_w]
    rfl
  refine pure_ (i := 7) (N := (some 28)) (v := ?_) (a' := ?_) #[true, true, true, true, true, true, true, true, false, false] rfl rfl (by kernel_rfl) (fun _ _ _ h => h) (Or.inl ⟨by rfl, ?_⟩) ?_ ?_
  rotate_left
  · intro w'
    go_simp
    with_reducible rfl
  rotate_left
  · simp only [Act.put, List.setIfInBounds_toArray, List.set_cons_zero, List.set_cons_succ, i64_w, i32_w]
    rfl
  refine pure_ (i := 8) (N := (some 29)) (v := ?_) (a' := ?_) #[true, true, true, true, true, true, true, true, true, false] rfl rfl (by kernel_rfl) (fun _ _ _ h => h) (Or.inl ⟨by rfl, ?_⟩) ?_ ?_
  rotate_left
  · intro w'
    go_simp
    with_reducible rfl
  rotate_left
  · simp only [Act.put, List.setIfInBounds_toArray, List.set_cons_zero, List.set_cons_succ, i64_w, i32_w]
    rfl
  refine last_ (i := 9) (N := none) #[true, true, true, true, true, true, true, true, true, true] rfl rfl (by kernel_rfl) (by decide) (fun K hK => ?_)
  have cz_ := (blk_cell hHeld.1 0).trans rfl
  have fz_ := blk_frozen hHeld.1 0
  refine store_step (w1 := ?w1_0) ?hg ?hN ?hr ?_; (case hg => rfl); (case hN => rfl); (case hr => first | (go_simp; done) | (go_simp; rfl))
  refine hK.out _ _ ?_
  clear hK K cz_ fz_
  refine done_ (by kernel_rfl) ?_
  clear hHeld
  go_wp2
  try clear hK1
  refine inLoop_gen (fun w' => Below w.heap.size w w' ∧ w'.heap[g0]? = some (.cells #[.int .u32 a0_0, .int .u32 a0_1, .int .u32 a0_2, .int .u32 a0_3] 24 (0, 0)) ∧ w'.heap[g1]? = some (.cells #[.int .u32 a1_0, .int .u32 a1_1, .int .u32 a1_2, .int .u32 a1_3] 24 (0, 0)) ∧ w'.heap[g2]? = some (.cells #[.int .u32 (x.a), .int .u32 (x.b), .int .u32 (x.c), .int .u32 (x.d), .int .u32 (x.e), .int .u32 (x.f), .int .u32 (x.g), .int .u32 (x.h)] 31 (0, 0)) ∧ w'.heap[g3]? = some (.cells #[.int .u32 (y.a), .int .u32 (y.b), .int .u32 (y.c), .int .u32 (y.d), .int .u32 (y.e), .int .u32 (y.f), .int .u32 (y.g), .int .u32 (y.h)] 31 (0, 0)) ∧ w'.heap[g4]? = some (.cells #[.int .u32 ((bits .xor .u32 u.a a1_0)), .int .u32 (u.b), .int .u32 (u.c), .int .u32 (u.d), .int .u32 (u.e), .int .u32 (u.f), .int .u32 (u.g), .int .u32 (u.h)] 31 (0, 0))) ⟨(by repeat (first | (with_reducible first | exact HB.out | apply below_alloc | apply pw_below_drewN | apply below_drew1 | refine below_set ?_ Gg0.out | refine below_set ?_ Gg1.out | refine below_set ?_ Gg2.out | refine below_set ?_ Gg3.out | refine below_set ?_ Gg4.out) | exact HB.out)), (Eq.trans (by (with_reducible repeat (first | exact Kg0.out | apply blk_set | apply far_put Ng0g1.out | apply far_put Ng0g1.out.symm | apply far_put Ng0g2.out | apply far_put Ng0g2.out.symm | apply far_put Ng0g3.out | apply far_put Ng0g3.out.symm | apply far_put Ng0g4.out | apply far_put Ng0g4.out.symm | apply far_put Ng1g2.out | apply far_put Ng1g2.out.symm | apply far_put Ng1g3.out | apply far_put Ng1g3.out.symm | apply far_put Ng1g4.out | apply far_put Ng1g4.out.symm | apply far_put Ng2g3.out | apply far_put Ng2g3.out.symm | apply far_put Ng2g4.out | apply far_put Ng2g4.out.symm | apply far_put Ng3g4.out | apply far_put Ng3g4.out.symm | apply blk_drewN | apply blk_drew | apply blk_alloc))) (by first | rfl)), (Eq.trans (by (with_reducible repeat (first | exact Kg1.out | apply blk_set | apply far_put Ng0g1.out | apply far_put Ng0g1.out.symm | apply far_put Ng0g2.out | apply far_put Ng0g2.out.symm | apply far_put Ng0g3.out | apply far_put Ng0g3.out.symm | apply far_put Ng0g4.out | apply far_put Ng0g4.out.symm | apply far_put Ng1g2.out | apply far_put Ng1g2.out.symm | apply far_put Ng1g3.out | apply far_put Ng1g3.out.symm | apply far_put Ng1g4.out | apply far_put Ng1g4.out.symm | apply far_put Ng2g3.out | apply far_put Ng2g3.out.symm | apply far_put Ng2g4.out | apply far_put Ng2g4.out.symm | apply far_put Ng3g4.out | apply far_put Ng3g4.out.symm | apply blk_drewN | apply blk_drew | apply blk_alloc))) (by first | rfl)), (Eq.trans (by (with_reducible repeat (first | exact Kg2.out | apply blk_set | apply far_put Ng0g1.out | apply far_put Ng0g1.out.symm | apply far_put Ng0g2.out | apply far_put Ng0g2.out.symm | apply far_put Ng0g3.out | apply far_put Ng0g3.out.symm | apply far_put Ng0g4.out | apply far_put Ng0g4.out.symm | apply far_put Ng1g2.out | apply far_put Ng1g2.out.symm | apply far_put Ng1g3.out | apply far_put Ng1g3.out.symm | apply far_put Ng1g4.out | apply far_put Ng1g4.out.symm | apply far_put Ng2g3.out | apply far_put Ng2g3.out.symm | apply far_put Ng2g4.out | apply far_put Ng2g4.out.symm | apply far_put Ng3g4.out | apply far_put Ng3g4.out.symm | apply blk_drewN | apply blk_drew | apply blk_alloc))) (by first | rfl)), (Eq.trans (by (with_reducible repeat (first | exact Kg3.out | apply blk_set | apply far_put Ng0g1.out | apply far_put Ng0g1.out.symm | apply far_put Ng0g2.out | apply far_put Ng0g2.out.symm | apply far_put Ng0g3.out | apply far_put Ng0g3.out.symm | apply far_put Ng0g4.out | apply far_put Ng0g4.out.symm | apply far_put Ng1g2.out | apply far_put Ng1g2.out.symm | apply far_put Ng1g3.out | apply far_put Ng1g3.out.symm | apply far_put Ng1g4.out | apply far_put Ng1g4.out.symm | apply far_put Ng2g3.out | apply far_put Ng2g3.out.symm | apply far_put Ng2g4.out | apply far_put Ng2g4.out.symm | apply far_put Ng3g4.out | apply far_put Ng3g4.out.symm | apply blk_drewN | apply blk_drew | apply blk_alloc))) (by first | rfl)), (Eq.trans (by (with_reducible repeat (first | exact Kg4.out | apply blk_set | apply far_put Ng0g1.out | apply far_put Ng0g1.out.symm | apply far_put Ng0g2.out | apply far_put Ng0g2.out.symm | apply far_put Ng0g3.out | apply far_put Ng0g3.out.symm | apply far_put Ng0g4.out | apply far_put Ng0g4.out.symm | apply far_put Ng1g2.out | apply far_put Ng1g2.out.symm | apply far_put Ng1g3.out | apply far_put Ng1g3.out.symm | apply far_put Ng1g4.out | apply far_put Ng1g4.out.symm | apply far_put Ng2g3.out | apply far_put Ng2g3.out.symm | apply far_put Ng2g4.out | apply far_put Ng2g4.out.symm | apply far_put Ng3g4.out | apply far_put Ng3g4.out.symm | apply blk_drewN | apply blk_drew | apply blk_alloc))) (by first | rfl))⟩ ?_
  try clear K1
  intro wA hF
  clear HB
  obtain ⟨n0_, n1_, n2_, n3_, n4_, n5_⟩ := hF
  try clear Kg0
  try clear Kg1
  try clear Kg2
  try clear Kg3
  try clear Kg4
  have HB := Aside0.mk n0_
  have Kg0 := Aside0.mk n1_
  have Kg1 := Aside0.mk n2_
  have Kg2 := Aside0.mk n3_
  have Kg3 := Aside0.mk n4_
  have Kg4 := Aside0.mk n5_
  clear n0_ n1_ n2_ n3_ n4_ n5_
  refine inLoop_k fun K1 hK1 => ?_
  go_wp2
  refine start_ (n := 10) (S := fun w' => w'.heap[g4]? = some (.cells #[.int .u32 ((bits .xor .u32 u.a a1_0)), .int .u32 (u.b), .int .u32 (u.c), .int .u32 (u.d), .int .u32 (u.e), .int .u32 (u.f), .int .u32 (u.g), .int .u32 (u.h)] 31 (0, 0)) ∧ w'.heap[g1]? = some (.cells #[.int .u32 a1_0, .int .u32 a1_1, .int .u32 a1_2, .int .u32 a1_3] 24 (0, 0))) (ds := [9]) #[false, false, false, false, false, false, false, false, false, false] (by kernel_rfl) rfl rfl ⟨blk_drew Kg4.out, blk_drew Kg1.out⟩ (fun hHeld => ?_)
  refine pure_ (i := 0) (N := (some 21)) (v := ?_) (a' := ?_) #[true, false, false, false, false, false, false, false, false, false] rfl rfl (by kernel_rfl) (fun _ _ _ h => h) (Or.inl ⟨by rfl, ?_⟩) ?_ ?_
  rotate_left
  · intro w'
    go_simp
    with_reducible rfl
  rotate_left
  · simp only [Act.put, List.setIfInBounds_toArray, List.set_cons_zero, List.set_cons_succ, i64_w, i32_w]
    rfl
  refine pure_ (i := 1) (N := (some 22)) (v := ?_) (a' := ?_) #[true, true, false, false, false, false, false, false, false, false] rfl rfl (by kernel_rfl) (fun _ _ _ h => h) (Or.inl ⟨by rfl, ?_⟩) ?_ ?_
  rotate_left
  · intro w'
    go_simp
    with_reducible rfl
  rotate_left
  · simp only [Act.put, List.setIfInBounds_toArray, List.set_cons_zero, List.set_cons_succ, i64_w, i32_w]
    rfl
  refine pure_ (i := 2) (N := (some 23)) (v := ?_) (a' := ?_) #[true, true, true, false, false, false, false, false, false, false] rfl rfl (by kernel_rfl) (fun _ _ _ h => h) (Or.inl ⟨by rfl, ?_⟩) ?_ ?_
  rotate_left
  · intro w'
    go_simp
    with_reducible rfl
  rotate_left
  · simp only [Act.put, List.setIfInBounds_toArray, List.set_cons_zero, List.set_cons_succ, i64_w, i32_w]
    rfl
  refine pure_ (i := 4) (N := (some 25)) (v := ?_) (a' := ?_) #[true, true, true, false, true, false, false, false, false, false] rfl rfl (by kernel_rfl) (fun _ _ _ h => h) (Or.inl ⟨by rfl, ?_⟩) ?_ ?_
  rotate_left
  · intro w'
    go_simp
    with_reducible rfl
  rotate_left
  · simp only [Act.put, List.setIfInBounds_toArray, List.set_cons_zero, List.set_cons_succ, i64_w, i32_w]
    rfl
  refine pure_ (i := 5) (N := (some 26)) (v := ?_) (a' := ?_) #[true, true, true, false, true, true, false, false, false, false] rfl rfl (by kernel_rfl) (fun _ _ _ h => h) (Or.inl ⟨by rfl, ?_⟩) ?_ ?_
  rotate_left
  · intro w'
    go_simp
    with_reducible rfl
  rotate_left
  · simp only [Act.put, List.setIfInBounds_toArray, List.set_cons_zero, List.set_cons_succ, i64_w, i32_w]
    rfl
  refine take_ (i := 3) (N := (some 24)) (v := ?_) (a' := ?_) #[true, true, true, true, true, true, false, false, false, false] rfl rfl (by kernel_rfl) (fun _ _ _ h => h) (Or.inl ⟨by rfl, ?_⟩) hHeld ?_ ?_
  rotate_left
  · intro w' hS_
    have cz_ := (blk_cell hS_.1 1).trans rfl
    go_simp
    with_reducible rfl
  rotate_left
  · simp only [Act.put, List.setIfInBounds_toArray, List.set_cons_zero, List.set_cons_succ, i64_w, i32_w]
    rfl
  refine take_ (i := 6) (N := (some 27)) (v := ?_) (a' := ?_) #[true, true, true, true, true, true, true, false, false, false] rfl rfl (by kernel_rfl) (fun _ _ _ h => h) (Or.inl ⟨by rfl, ?_⟩) hHeld ?_ ?_
  rotate_left
  · intro w' hS_
    have cz_ := (blk_cell hS_.2 1).trans rfl
    go_simp
    with_reducible rfl
  rotate_left
  · simp only [Act.put, List.setIfInBounds_toArray, List.set_cons_zero, List.set_cons_succ, i64_w, i32_w]
    rfl
  refine pure_ (i := 7) (N := (some 28)) (v := ?_) (a' := ?_) #[true, true, true, true, true, true, true, true, false, false] rfl rfl (by kernel_rfl) (fun _ _ _ h => h) (Or.inl ⟨by rfl, ?_⟩) ?_ ?_
  rotate_left
  · intro w'
    go_simp
    with_reducible rfl
  rotate_left
  · simp only [Act.put, List.setIfInBounds_toArray, List.set_cons_zero, List.set_cons_succ, i64_w, i32_w]
    rfl
  refine pure_ (i := 8) (N := (some 29)) (v := ?_) (a' := ?_) #[true, true, true, true, true, true, true, true, true, false] rfl rfl (by kernel_rfl) (fun _ _ _ h => h) (Or.inl ⟨by rfl, ?_⟩) ?_ ?_
  rotate_left
  · intro w'
    go_simp
    with_reducible rfl
  rotate_left
  · simp only [Act.put, List.setIfInBounds_toArray, List.set_cons_zero, List.set_cons_succ, i64_w, i32_w]
    rfl
  refine last_ (i := 9) (N := none) #[true, true, true, true, true, true, true, true, true, true] rfl rfl (by kernel_rfl) (by decide) (fun K hK => ?_)
  have cz_ := (blk_cell hHeld.1 1).trans rfl
  have fz_ := blk_frozen hHeld.1 1
  refine store_step (w1 := ?w1_1) ?hg ?hN ?hr ?_; (case hg => rfl); (case hN => rfl); (case hr => first | (go_simp; done) | (go_simp; rfl))
  refine hK.out _ _ ?_
  clear hK K cz_ fz_
  refine done_ (by kernel_rfl) ?_
  clear hHeld
  go_wp2
  try clear hK1
  refine inLoop_gen (fun w' => Below w.heap.size w w' ∧ w'.heap[g0]? = some (.cells #[.int .u32 a0_0, .int .u32 a0_1, .int .u32 a0_2, .int .u32 a0_3] 24 (0, 0)) ∧ w'.heap[g1]? = some (.cells #[.int .u32 a1_0, .int .u32 a1_1, .int .u32 a1_2, .int .u32 a1_3] 24 (0, 0)) ∧ w'.heap[g2]? = some (.cells #[.int .u32 (x.a), .int .u32 (x.b), .int .u32 (x.c), .int .u32 (x.d), .int .u32 (x.e), .int .u32 (x.f), .int .u32 (x.g), .int .u32 (x.h)] 31 (0, 0)) ∧ w'.heap[g3]? = some (.cells #[.int .u32 (y.a), .int .u32 (y.b), .int .u32 (y.c), .int .u32 (y.d), .int .u32 (y.e), .int .u32 (y.f), .int .u32 (y.g), .int .u32 (y.h)] 31 (0, 0)) ∧ w'.heap[g4]? = some (.cells #[.int .u32 ((bits .xor .u32 u.a a1_0)), .int .u32 ((bits .xor .u32 u.b a1_1)), .int .u32 (u.c), .int .u32 (u.d), .int .u32 (u.e), .int .u32 (u.f), .int .u32 (u.g), .int .u32 (u.h)] 31 (0, 0))) ⟨(by repeat (first | (with_reducible first | exact HB.out | apply below_alloc | apply pw_below_drewN | apply below_drew1 | refine below_set ?_ Gg0.out | refine below_set ?_ Gg1.out | refine below_set ?_ Gg2.out | refine below_set ?_ Gg3.out | refine below_set ?_ Gg4.out) | exact HB.out)), (Eq.trans (by (with_reducible repeat (first | exact Kg0.out | apply blk_set | apply far_put Ng0g1.out | apply far_put Ng0g1.out.symm | apply far_put Ng0g2.out | apply far_put Ng0g2.out.symm | apply far_put Ng0g3.out | apply far_put Ng0g3.out.symm | apply far_put Ng0g4.out | apply far_put Ng0g4.out.symm | apply far_put Ng1g2.out | apply far_put Ng1g2.out.symm | apply far_put Ng1g3.out | apply far_put Ng1g3.out.symm | apply far_put Ng1g4.out | apply far_put Ng1g4.out.symm | apply far_put Ng2g3.out | apply far_put Ng2g3.out.symm | apply far_put Ng2g4.out | apply far_put Ng2g4.out.symm | apply far_put Ng3g4.out | apply far_put Ng3g4.out.symm | apply blk_drewN | apply blk_drew | apply blk_alloc))) (by first | rfl)), (Eq.trans (by (with_reducible repeat (first | exact Kg1.out | apply blk_set | apply far_put Ng0g1.out | apply far_put Ng0g1.out.symm | apply far_put Ng0g2.out | apply far_put Ng0g2.out.symm | apply far_put Ng0g3.out | apply far_put Ng0g3.out.symm | apply far_put Ng0g4.out | apply far_put Ng0g4.out.symm | apply far_put Ng1g2.out | apply far_put Ng1g2.out.symm | apply far_put Ng1g3.out | apply far_put Ng1g3.out.symm | apply far_put Ng1g4.out | apply far_put Ng1g4.out.symm | apply far_put Ng2g3.out | apply far_put Ng2g3.out.symm | apply far_put Ng2g4.out | apply far_put Ng2g4.out.symm | apply far_put Ng3g4.out | apply far_put Ng3g4.out.symm | apply blk_drewN | apply blk_drew | apply blk_alloc))) (by first | rfl)), (Eq.trans (by (with_reducible repeat (first | exact Kg2.out | apply blk_set | apply far_put Ng0g1.out | apply far_put Ng0g1.out.symm | apply far_put Ng0g2.out | apply far_put Ng0g2.out.symm | apply far_put Ng0g3.out | apply far_put Ng0g3.out.symm | apply far_put Ng0g4.out | apply far_put Ng0g4.out.symm | apply far_put Ng1g2.out | apply far_put Ng1g2.out.symm | apply far_put Ng1g3.out | apply far_put Ng1g3.out.symm | apply far_put Ng1g4.out | apply far_put Ng1g4.out.symm | apply far_put Ng2g3.out | apply far_put Ng2g3.out.symm | apply far_put Ng2g4.out | apply far_put Ng2g4.out.symm | apply far_put Ng3g4.out | apply far_put Ng3g4.out.symm | apply blk_drewN | apply blk_drew | apply blk_alloc))) (by first | rfl)), (Eq.trans (by (with_reducible repeat (first | exact Kg3.out | apply blk_set | apply far_put Ng0g1.out | apply far_put Ng0g1.out.symm | apply far_put Ng0g2.out | apply far_put Ng0g2.out.symm | apply far_put Ng0g3.out | apply far_put Ng0g3.out.symm | apply far_put Ng0g4.out | apply far_put Ng0g4.out.symm | apply far_put Ng1g2.out | apply far_put Ng1g2.out.symm | apply far_put Ng1g3.out | apply far_put Ng1g3.out.symm | apply far_put Ng1g4.out | apply far_put Ng1g4.out.symm | apply far_put Ng2g3.out | apply far_put Ng2g3.out.symm | apply far_put Ng2g4.out | apply far_put Ng2g4.out.symm | apply far_put Ng3g4.out | apply far_put Ng3g4.out.symm | apply blk_drewN | apply blk_drew | apply blk_alloc))) (by first | rfl)), (Eq.trans (by (with_reducible repeat (first | exact Kg4.out | apply blk_set | apply far_put Ng0g1.out | apply far_put Ng0g1.out.symm | apply far_put Ng0g2.out | apply far_put Ng0g2.out.symm | apply far_put Ng0g3.out | apply far_put Ng0g3.out.symm | apply far_put Ng0g4.out | apply far_put Ng0g4.out.symm | apply far_put Ng1g2.out | apply far_put Ng1g2.out.symm | apply far_put Ng1g3.out | apply far_put Ng1g3.out.symm | apply far_put Ng1g4.out | apply far_put Ng1g4.out.symm | apply far_put Ng2g3.out | apply far_put Ng2g3.out.symm | apply far_put Ng2g4.out | apply far_put Ng2g4.out.symm | apply far_put Ng3g4.out | apply far_put Ng3g4.out.symm | apply blk_drewN | apply blk_drew | apply blk_alloc))) (by first | rfl))⟩ ?_
  try clear K1
  intro wA hF
  clear HB
  obtain ⟨n0_, n1_, n2_, n3_, n4_, n5_⟩ := hF
  try clear Kg0
  try clear Kg1
  try clear Kg2
  try clear Kg3
  try clear Kg4
  have HB := Aside0.mk n0_
  have Kg0 := Aside0.mk n1_
  have Kg1 := Aside0.mk n2_
  have Kg2 := Aside0.mk n3_
  have Kg3 := Aside0.mk n4_
  have Kg4 := Aside0.mk n5_
  clear n0_ n1_ n2_ n3_ n4_ n5_
  refine inLoop_k fun K1 hK1 => ?_
  go_wp2
  refine start_ (n := 10) (S := fun w' => w'.heap[g4]? = some (.cells #[.int .u32 ((bits .xor .u32 u.a a1_0)), .int .u32 ((bits .xor .u32 u.b a1_1)), .int .u32 (u.c), .int .u32 (u.d), .int .u32 (u.e), .int .u32 (u.f), .int .u32 (u.g), .int .u32 (u.h)] 31 (0, 0)) ∧ w'.heap[g1]? = some (.cells #[.int .u32 a1_0, .int .u32 a1_1, .int .u32 a1_2, .int .u32 a1_3] 24 (0, 0))) (ds := [9]) #[false, false, false, false, false, false, false, false, false, false] (by kernel_rfl) rfl rfl ⟨blk_drew Kg4.out, blk_drew Kg1.out⟩ (fun hHeld => ?_)
  refine pure_ (i := 0) (N := (some 21)) (v := ?_) (a' := ?_) #[true, false, false, false, false, false, false, false, false, false] rfl rfl (by kernel_rfl) (fun _ _ _ h => h) (Or.inl ⟨by rfl, ?_⟩) ?_ ?_
  rotate_left
  · intro w'
    go_simp
    with_reducible rfl
  rotate_left
  · simp only [Act.put, List.setIfInBounds_toArray, List.set_cons_zero, List.set_cons_succ, i64_w, i32_w]
    rfl
  refine pure_ (i := 1) (N := (some 22)) (v := ?_) (a' := ?_) #[true, true, false, false, false, false, false, false, false, false] rfl rfl (by kernel_rfl) (fun _ _ _ h => h) (Or.inl ⟨by rfl, ?_⟩) ?_ ?_
  rotate_left
  · intro w'
    go_simp
    with_reducible rfl
  rotate_left
  · simp only [Act.put, List.setIfInBounds_toArray, List.set_cons_zero, List.set_cons_succ, i64_w, i32_w]
    rfl
  refine pure_ (i := 2) (N := (some 23)) (v := ?_) (a' := ?_) #[true, true, true, false, false, false, false, false, false, false] rfl rfl (by kernel_rfl) (fun _ _ _ h => h) (Or.inl ⟨by rfl, ?_⟩) ?_ ?_
  rotate_left
  · intro w'
    go_simp
    with_reducible rfl
  rotate_left
  · simp only [Act.put, List.setIfInBounds_toArray, List.set_cons_zero, List.set_cons_succ, i64_w, i32_w]
    rfl
  refine pure_ (i := 4) (N := (some 25)) (v := ?_) (a' := ?_) #[true, true, true, false, true, false, false, false, false, false] rfl rfl (by kernel_rfl) (fun _ _ _ h => h) (Or.inl ⟨by rfl, ?_⟩) ?_ ?_
  rotate_left
  · intro w'
    go_simp
    with_reducible rfl
  rotate_left
  · simp only [Act.put, List.setIfInBounds_toArray, List.set_cons_zero, List.set_cons_succ, i64_w, i32_w]
    rfl
  refine pure_ (i := 5) (N := (some 26)) (v := ?_) (a' := ?_) #[true, true, true, false, true, true, false, false, false, false] rfl rfl (by kernel_rfl) (fun _ _ _ h => h) (Or.inl ⟨by rfl, ?_⟩) ?_ ?_
  rotate_left
  · intro w'
    go_simp
    with_reducible rfl
  rotate_left
  · simp only [Act.put, List.setIfInBounds_toArray, List.set_cons_zero, List.set_cons_succ, i64_w, i32_w]
    rfl
  refine take_ (i := 3) (N := (some 24)) (v := ?_) (a' := ?_) #[true, true, true, true, true, true, false, false, false, false] rfl rfl (by kernel_rfl) (fun _ _ _ h => h) (Or.inl ⟨by rfl, ?_⟩) hHeld ?_ ?_
  rotate_left
  · intro w' hS_
    have cz_ := (blk_cell hS_.1 2).trans rfl
    go_simp
    with_reducible rfl
  rotate_left
  · simp only [Act.put, List.setIfInBounds_toArray, List.set_cons_zero, List.set_cons_succ, i64_w, i32_w]
    rfl
  refine take_ (i := 6) (N := (some 27)) (v := ?_) (a' := ?_) #[true, true, true, true, true, true, true, false, false, false] rfl rfl (by kernel_rfl) (fun _ _ _ h => h) (Or.inl ⟨by rfl, ?_⟩) hHeld ?_ ?_
  rotate_left
  · intro w' hS_
    have cz_ := (blk_cell hS_.2 2).trans rfl
    go_simp
    with_reducible rfl
  rotate_left
  · simp only [Act.put, List.setIfInBounds_toArray, List.set_cons_zero, List.set_cons_succ, i64_w, i32_w]
    rfl
  refine pure_ (i := 7) (N := (some 28)) (v := ?_) (a' := ?_) #[true, true, true, true, true, true, true, true, false, false] rfl rfl (by kernel_rfl) (fun _ _ _ h => h) (Or.inl ⟨by rfl, ?_⟩) ?_ ?_
  rotate_left
  · intro w'
    go_simp
    with_reducible rfl
  rotate_left
  · simp only [Act.put, List.setIfInBounds_toArray, List.set_cons_zero, List.set_cons_succ, i64_w, i32_w]
    rfl
  refine pure_ (i := 8) (N := (some 29)) (v := ?_) (a' := ?_) #[true, true, true, true, true, true, true, true, true, false] rfl rfl (by kernel_rfl) (fun _ _ _ h => h) (Or.inl ⟨by rfl, ?_⟩) ?_ ?_
  rotate_left
  · intro w'
    go_simp
    with_reducible rfl
  rotate_left
  · simp only [Act.put, List.setIfInBounds_toArray, List.set_cons_zero, List.set_cons_succ, i64_w, i32_w]
    rfl
  refine last_ (i := 9) (N := none) #[true, true, true, true, true, true, true, true, true, true] rfl rfl (by kernel_rfl) (by decide) (fun K hK => ?_)
  have cz_ := (blk_cell hHeld.1 2).trans rfl
  have fz_ := blk_frozen hHeld.1 2
  refine store_step (w1 := ?w1_2) ?hg ?hN ?hr ?_; (case hg => rfl); (case hN => rfl); (case hr => first | (go_simp; done) | (go_simp; rfl))
  refine hK.out _ _ ?_
  clear hK K cz_ fz_
  refine done_ (by kernel_rfl) ?_
  clear hHeld
  go_wp2
  try clear hK1
  refine inLoop_gen (fun w' => Below w.heap.size w w' ∧ w'.heap[g0]? = some (.cells #[.int .u32 a0_0, .int .u32 a0_1, .int .u32 a0_2, .int .u32 a0_3] 24 (0, 0)) ∧ w'.heap[g1]? = some (.cells #[.int .u32 a1_0, .int .u32 a1_1, .int .u32 a1_2, .int .u32 a1_3] 24 (0, 0)) ∧ w'.heap[g2]? = some (.cells #[.int .u32 (x.a), .int .u32 (x.b), .int .u32 (x.c), .int .u32 (x.d), .int .u32 (x.e), .int .u32 (x.f), .int .u32 (x.g), .int .u32 (x.h)] 31 (0, 0)) ∧ w'.heap[g3]? = some (.cells #[.int .u32 (y.a), .int .u32 (y.b), .int .u32 (y.c), .int .u32 (y.d), .int .u32 (y.e), .int .u32 (y.f), .int .u32 (y.g), .int .u32 (y.h)] 31 (0, 0)) ∧ w'.heap[g4]? = some (.cells #[.int .u32 ((bits .xor .u32 u.a a1_0)), .int .u32 ((bits .xor .u32 u.b a1_1)), .int .u32 ((bits .xor .u32 u.c a1_2)), .int .u32 (u.d), .int .u32 (u.e), .int .u32 (u.f), .int .u32 (u.g), .int .u32 (u.h)] 31 (0, 0))) ⟨(by repeat (first | (with_reducible first | exact HB.out | apply below_alloc | apply pw_below_drewN | apply below_drew1 | refine below_set ?_ Gg0.out | refine below_set ?_ Gg1.out | refine below_set ?_ Gg2.out | refine below_set ?_ Gg3.out | refine below_set ?_ Gg4.out) | exact HB.out)), (Eq.trans (by (with_reducible repeat (first | exact Kg0.out | apply blk_set | apply far_put Ng0g1.out | apply far_put Ng0g1.out.symm | apply far_put Ng0g2.out | apply far_put Ng0g2.out.symm | apply far_put Ng0g3.out | apply far_put Ng0g3.out.symm | apply far_put Ng0g4.out | apply far_put Ng0g4.out.symm | apply far_put Ng1g2.out | apply far_put Ng1g2.out.symm | apply far_put Ng1g3.out | apply far_put Ng1g3.out.symm | apply far_put Ng1g4.out | apply far_put Ng1g4.out.symm | apply far_put Ng2g3.out | apply far_put Ng2g3.out.symm | apply far_put Ng2g4.out | apply far_put Ng2g4.out.symm | apply far_put Ng3g4.out | apply far_put Ng3g4.out.symm | apply blk_drewN | apply blk_drew | apply blk_alloc))) (by first | rfl)), (Eq.trans (by (with_reducible repeat (first | exact Kg1.out | apply blk_set | apply far_put Ng0g1.out | apply far_put Ng0g1.out.symm | apply far_put Ng0g2.out | apply far_put Ng0g2.out.symm | apply far_put Ng0g3.out | apply far_put Ng0g3.out.symm | apply far_put Ng0g4.out | apply far_put Ng0g4.out.symm | apply far_put Ng1g2.out | apply far_put Ng1g2.out.symm | apply far_put Ng1g3.out | apply far_put Ng1g3.out.symm | apply far_put Ng1g4.out | apply far_put Ng1g4.out.symm | apply far_put Ng2g3.out | apply far_put Ng2g3.out.symm | apply far_put Ng2g4.out | apply far_put Ng2g4.out.symm | apply far_put Ng3g4.out | apply far_put Ng3g4.out.symm | apply blk_drewN | apply blk_drew | apply blk_alloc))) (by first | rfl)), (Eq.trans (by (with_reducible repeat (first | exact Kg2.out | apply blk_set | apply far_put Ng0g1.out | apply far_put Ng0g1.out.symm | apply far_put Ng0g2.out | apply far_put Ng0g2.out.symm | apply far_put Ng0g3.out | apply far_put Ng0g3.out.symm | apply far_put Ng0g4.out | apply far_put Ng0g4.out.symm | apply far_put Ng1g2.out | apply far_put Ng1g2.out.symm | apply far_put Ng1g3.out | apply far_put Ng1g3.out.symm | apply far_put Ng1g4.out | apply far_put Ng1g4.out.symm | apply far_put Ng2g3.out | apply far_put Ng2g3.out.symm | apply far_put Ng2g4.out | apply far_put Ng2g4.out.symm | apply far_put Ng3g4.out | apply far_put Ng3g4.out.symm | apply blk_drewN | apply blk_drew | apply blk_alloc))) (by first | rfl)), (Eq.trans (by (with_reducible repeat (first | exact Kg3.out | apply blk_set | apply far_put Ng0g1.out | apply far_put Ng0g1.out.symm | apply far_put Ng0g2.out | apply far_put Ng0g2.out.symm | apply far_put Ng0g3.out | apply far_put Ng0g3.out.symm | apply far_put Ng0g4.out | apply far_put Ng0g4.out.symm | apply far_put Ng1g2.out | apply far_put Ng1g2.out.symm | apply far_put Ng1g3.out | apply far_put Ng1g3.out.symm | apply far_put Ng1g4.out | apply far_put Ng1g4.out.symm | apply far_put Ng2g3.out | apply far_put Ng2g3.out.symm | apply far_put Ng2g4.out | apply far_put Ng2g4.out.symm | apply far_put Ng3g4.out | apply far_put Ng3g4.out.symm | apply blk_drewN | apply blk_drew | apply blk_alloc))) (by first | rfl)), (Eq.trans (by (with_reducible repeat (first | exact Kg4.out | apply blk_set | apply far_put Ng0g1.out | apply far_put Ng0g1.out.symm | apply far_put Ng0g2.out | apply far_put Ng0g2.out.symm | apply far_put Ng0g3.out | apply far_put Ng0g3.out.symm | apply far_put Ng0g4.out | apply far_put Ng0g4.out.symm | apply far_put Ng1g2.out | apply far_put Ng1g2.out.symm | apply far_put Ng1g3.out | apply far_put Ng1g3.out.symm | apply far_put Ng1g4.out | apply far_put Ng1g4.out.symm | apply far_put Ng2g3.out | apply far_put Ng2g3.out.symm | apply far_put Ng2g4.out | apply far_put Ng2g4.out.symm | apply far_put Ng3g4.out | apply far_put Ng3g4.out.symm | apply blk_drewN | apply blk_drew | apply blk_alloc))) (by first | rfl))⟩ ?_
  try clear K1
  intro wA hF
  clear HB
  obtain ⟨n0_, n1_, n2_, n3_, n4_, n5_⟩ := hF
  try clear Kg0
  try clear Kg1
  try clear Kg2
  try clear Kg3
  try clear Kg4
  have HB := Aside0.mk n0_
  have Kg0 := Aside0.mk n1_
  have Kg1 := Aside0.mk n2_
  have Kg2 := Aside0.mk n3_
  have Kg3 := Aside0.mk n4_
  have Kg4 := Aside0.mk n5_
  clear n0_ n1_ n2_ n3_ n4_ n5_
  refine inLoop_k fun K1 hK1 => ?_
  go_wp2
  refine start_ (n := 10) (S := fun w' => w'.heap[g4]? = some (.cells #[.int .u32 ((bits .xor .u32 u.a a1_0)), .int .u32 ((bits .xor .u32 u.b a1_1)), .int .u32 ((bits .xor .u32 u.c a1_2)), .int .u32 (u.d), .int .u32 (u.e), .int .u32 (u.f), .int .u32 (u.g), .int .u32 (u.h)] 31 (0, 0)) ∧ w'.heap[g1]? = some (.cells #[.int .u32 a1_0, .int .u32 a1_1, .int .u32 a1_2, .int .u32 a1_3] 24 (0, 0))) (ds := [9]) #[false, false, false, false, false, false, false, false, false, false] (by kernel_rfl) rfl rfl ⟨blk_drew Kg4.out, blk_drew Kg1.out⟩ (fun hHeld => ?_)
  refine pure_ (i := 0) (N := (some 21)) (v := ?_) (a' := ?_) #[true, false, false, false, false, false, false, false, false, false] rfl rfl (by kernel_rfl) (fun _ _ _ h => h) (Or.inl ⟨by rfl, ?_⟩) ?_ ?_
  rotate_left
  · intro w'
    go_simp
    with_reducible rfl
  rotate_left
  · simp only [Act.put, List.setIfInBounds_toArray, List.set_cons_zero, List.set_cons_succ, i64_w, i32_w]
    rfl
  refine pure_ (i := 1) (N := (some 22)) (v := ?_) (a' := ?_) #[true, true, false, false, false, false, false, false, false, false] rfl rfl (by kernel_rfl) (fun _ _ _ h => h) (Or.inl ⟨by rfl, ?_⟩) ?_ ?_
  rotate_left
  · intro w'
    go_simp
    with_reducible rfl
  rotate_left
  · simp only [Act.put, List.setIfInBounds_toArray, List.set_cons_zero, List.set_cons_succ, i64_w, i32_w]
    rfl
  refine pure_ (i := 2) (N := (some 23)) (v := ?_) (a' := ?_) #[true, true, true, false, false, false, false, false, false, false] rfl rfl (by kernel_rfl) (fun _ _ _ h => h) (Or.inl ⟨by rfl, ?_⟩) ?_ ?_
  rotate_left
  · intro w'
    go_simp
    with_reducible rfl
  rotate_left
  · simp only [Act.put, List.setIfInBounds_toArray, List.set_cons_zero, List.set_cons_succ, i64_w, i32_w]
    rfl
  refine pure_ (i := 4) (N := (some 25)) (v := ?_) (a' := ?_) #[true, true, true, false, true, false, false, false, false, false] rfl rfl (by kernel_rfl) (fun _ _ _ h => h) (Or.inl ⟨by rfl, ?_⟩) ?_ ?_
  rotate_left
  · intro w'
    go_simp
    with_reducible rfl
  rotate_left
  · simp only [Act.put, List.setIfInBounds_toArray, List.set_cons_zero, List.set_cons_succ, i64_w, i32_w]
    rfl
  refine pure_ (i := 5) (N := (some 26)) (v := ?_) (a' := ?_) #[true, true, true, false, true, true, false, false, false, false] rfl rfl (by kernel_rfl) (fun _ _ _ h => h) (Or.inl ⟨by rfl, ?_⟩) ?_ ?_
  rotate_left
  · intro w'
    go_simp
    with_reducible rfl
  rotate_left
  · simp only [Act.put, List.setIfInBounds_toArray, List.set_cons_zero, List.set_cons_succ, i64_w, i32_w]
    rfl
  refine take_ (i := 3) (N := (some 24)) (v := ?_) (a' := ?_) #[true, true, true, true, true, true, false, false, false, false] rfl rfl (by kernel_rfl) (fun _ _ _ h => h) (Or.inl ⟨by rfl, ?_⟩) hHeld ?_ ?_
  rotate_left
  · intro w' hS_
    have cz_ := (blk_cell hS_.1 3).trans rfl
    go_simp
    with_reducible rfl
  rotate_left
  · simp only [Act.put, List.setIfInBounds_toArray, List.set_cons_zero, List.set_cons_succ, i64_w, i32_w]
    rfl
  refine take_ (i := 6) (N := (some 27)) (v := ?_) (a' := ?_) #[true, true, true, true, true, true, true, false, false, false] rfl rfl (by kernel_rfl) (fun _ _ _ h => h) (Or.inl ⟨by rfl, ?_⟩) hHeld ?_ ?_
  rotate_left
  · intro w' hS_
    have cz_ := (blk_cell hS_.2 3).trans rfl
    go_simp
    with_reducible rfl
  rotate_left
  · simp only [Act.put, List.setIfInBounds_toArray, List.set_cons_zero, List.set_cons_succ, i64_w, i32_w]
    rfl
  refine pure_ (i := 7) (N := (some 28)) (v := ?_) (a' := ?_) #[true, true, true, true, true, true, true, true, false, false] rfl rfl (by kernel_rfl) (fun _ _ _ h => h) (Or.inl ⟨by rfl, ?_⟩) ?_ ?_
  rotate_left
  · intro w'
    go_simp
    with_reducible rfl
  rotate_left
  · simp only [Act.put, List.setIfInBounds_toArray, List.set_cons_zero, List.set_cons_succ, i64_w, i32_w]
    rfl
  refine pure_ (i := 8) (N := (some 29)) (v := ?_) (a' := ?_) #[true, true, true, true, true, true, true, true, true, false] rfl rfl (by kernel_rfl) (fun _ _ _ h => h) (Or.inl ⟨by rfl, ?_⟩) ?_ ?_
  rotate_left
  · intro w'
    go_simp
    with_reducible rfl
  rotate_left
  · simp only [Act.put, List.setIfInBounds_toArray, List.set_cons_zero, List.set_cons_succ, i64_w, i32_w]
    rfl
  refine last_ (i := 9) (N := none) #[true, true, true, true, true, true, true, true, true, true] rfl rfl (by kernel_rfl) (by decide) (fun K hK => ?_)
  have cz_ := (blk_cell hHeld.1 3).trans rfl
  have fz_ := blk_frozen hHeld.1 3
  refine store_step (w1 := ?w1_3) ?hg ?hN ?hr ?_; (case hg => rfl); (case hN => rfl); (case hr => first | (go_simp; done) | (go_simp; rfl))
  refine hK.out _ _ ?_
  clear hK K cz_ fz_
  refine done_ (by kernel_rfl) ?_
  clear hHeld
  go_wp2
  try clear hK1
  refine inLoop_gen (fun w' => Below w.heap.size w w' ∧ w'.heap[g0]? = some (.cells #[.int .u32 a0_0, .int .u32 a0_1, .int .u32 a0_2, .int .u32 a0_3] 24 (0, 0)) ∧ w'.heap[g1]? = some (.cells #[.int .u32 a1_0, .int .u32 a1_1, .int .u32 a1_2, .int .u32 a1_3] 24 (0, 0)) ∧ w'.heap[g2]? = some (.cells #[.int .u32 (x.a), .int .u32 (x.b), .int .u32 (x.c), .int .u32 (x.d), .int .u32 (x.e), .int .u32 (x.f), .int .u32 (x.g), .int .u32 (x.h)] 31 (0, 0)) ∧ w'.heap[g3]? = some (.cells #[.int .u32 (y.a), .int .u32 (y.b), .int .u32 (y.c), .int .u32 (y.d), .int .u32 (y.e), .int .u32 (y.f), .int .u32 (y.g), .int .u32 (y.h)] 31 (0, 0)) ∧ w'.heap[g4]? = some (.cells #[.int .u32 ((bits .xor .u32 u.a a1_0)), .int .u32 ((bits .xor .u32 u.b a1_1)), .int .u32 ((bits .xor .u32 u.c a1_2)), .int .u32 ((bits .xor .u32 u.d a1_3)), .int .u32 (u.e), .int .u32 (u.f), .int .u32 (u.g), .int .u32 (u.h)] 31 (0, 0))) ⟨(by repeat (first | (with_reducible first | exact HB.out | apply below_alloc | apply pw_below_drewN | apply below_drew1 | refine below_set ?_ Gg0.out | refine below_set ?_ Gg1.out | refine below_set ?_ Gg2.out | refine below_set ?_ Gg3.out | refine below_set ?_ Gg4.out) | exact HB.out)), (Eq.trans (by (with_reducible repeat (first | exact Kg0.out | apply blk_set | apply far_put Ng0g1.out | apply far_put Ng0g1.out.symm | apply far_put Ng0g2.out | apply far_put Ng0g2.out.symm | apply far_put Ng0g3.out | apply far_put Ng0g3.out.symm | apply far_put Ng0g4.out | apply far_put Ng0g4.out.symm | apply far_put Ng1g2.out | apply far_put Ng1g2.out.symm | apply far_put Ng1g3.out | apply far_put Ng1g3.out.symm | apply far_put Ng1g4.out | apply far_put Ng1g4.out.symm | apply far_put Ng2g3.out | apply far_put Ng2g3.out.symm | apply far_put Ng2g4.out | apply far_put Ng2g4.out.symm | apply far_put Ng3g4.out | apply far_put Ng3g4.out.symm | apply blk_drewN | apply blk_drew | apply blk_alloc))) (by first | rfl)), (Eq.trans (by (with_reducible repeat (first | exact Kg1.out | apply blk_set | apply far_put Ng0g1.out | apply far_put Ng0g1.out.symm | apply far_put Ng0g2.out | apply far_put Ng0g2.out.symm | apply far_put Ng0g3.out | apply far_put Ng0g3.out.symm | apply far_put Ng0g4.out | apply far_put Ng0g4.out.symm | apply far_put Ng1g2.out | apply far_put Ng1g2.out.symm | apply far_put Ng1g3.out | apply far_put Ng1g3.out.symm | apply far_put Ng1g4.out | apply far_put Ng1g4.out.symm | apply far_put Ng2g3.out | apply far_put Ng2g3.out.symm | apply far_put Ng2g4.out | apply far_put Ng2g4.out.symm | apply far_put Ng3g4.out | apply far_put Ng3g4.out.symm | apply blk_drewN | apply blk_drew | apply blk_alloc))) (by first | rfl)), (Eq.trans (by (with_reducible repeat (first | exact Kg2.out | apply blk_set | apply far_put Ng0g1.out | apply far_put Ng0g1.out.symm | apply far_put Ng0g2.out | apply far_put Ng0g2.out.symm | apply far_put Ng0g3.out | apply far_put Ng0g3.out.symm | apply far_put Ng0g4.out | apply far_put Ng0g4.out.symm | apply far_put Ng1g2.out | apply far_put Ng1g2.out.symm | apply far_put Ng1g3.out | apply far_put Ng1g3.out.symm | apply far_put Ng1g4.out | apply far_put Ng1g4.out.symm | apply far_put Ng2g3.out | apply far_put Ng2g3.out.symm | apply far_put Ng2g4.out | apply far_put Ng2g4.out.symm | apply far_put Ng3g4.out | apply far_put Ng3g4.out.symm | apply blk_drewN | apply blk_drew | apply blk_alloc))) (by first | rfl)), (Eq.trans (by (with_reducible repeat (first | exact Kg3.out | apply blk_set | apply far_put Ng0g1.out | apply far_put Ng0g1.out.symm | apply far_put Ng0g2.out | apply far_put Ng0g2.out.symm | apply far_put Ng0g3.out | apply far_put Ng0g3.out.symm | apply far_put Ng0g4.out | apply far_put Ng0g4.out.symm | apply far_put Ng1g2.out | apply far_put Ng1g2.out.symm | apply far_put Ng1g3.out | apply far_put Ng1g3.out.symm | apply far_put Ng1g4.out | apply far_put Ng1g4.out.symm | apply far_put Ng2g3.out | apply far_put Ng2g3.out.symm | apply far_put Ng2g4.out | apply far_put Ng2g4.out.symm | apply far_put Ng3g4.out | apply far_put Ng3g4.out.symm | apply blk_drewN | apply blk_drew | apply blk_alloc))) (by first | rfl)), (Eq.trans (by (with_reducible repeat (first | exact Kg4.out | apply blk_set | apply far_put Ng0g1.out | apply far_put Ng0g1.out.symm | apply far_put Ng0g2.out | apply far_put Ng0g2.out.symm | apply far_put Ng0g3.out | apply far_put Ng0g3.out.symm | apply far_put Ng0g4.out | apply far_put Ng0g4.out.symm | apply far_put Ng1g2.out | apply far_put Ng1g2.out.symm | apply far_put Ng1g3.out | apply far_put Ng1g3.out.symm | apply far_put Ng1g4.out | apply far_put Ng1g4.out.symm | apply far_put Ng2g3.out | apply far_put Ng2g3.out.symm | apply far_put Ng2g4.out | apply far_put Ng2g4.out.symm | apply far_put Ng3g4.out | apply far_put Ng3g4.out.symm | apply blk_drewN | apply blk_drew | apply blk_alloc))) (by first | rfl))⟩ ?_
  try clear K1
  intro wA hF
  clear HB
  obtain ⟨n0_, n1_, n2_, n3_, n4_, n5_⟩ := hF
  try clear Kg0
  try clear Kg1
  try clear Kg2
  try clear Kg3
  try clear Kg4
  have HB := Aside0.mk n0_
  have Kg0 := Aside0.mk n1_
  have Kg1 := Aside0.mk n2_
  have Kg2 := Aside0.mk n3_
  have Kg3 := Aside0.mk n4_
  have Kg4 := Aside0.mk n5_
  clear n0_ n1_ n2_ n3_ n4_ n5_
  refine inLoop_k fun K1 hK1 => ?_
  go_wp2
  try clear hK1
  try clear K1
  have n0_ : Aside0 (wA.heap[g4]? = some (.cells #[.int .u32 (x.a), .int .u32 (x.b), .int .u32 (x.c), .int .u32 (x.d), .int .u32 (x.e), .int .u32 (x.f), .int .u32 (x.g), .int .u32 (x.h)] 31 (0, 0))) := ⟨by have h5 := H5.out; have h6 := H6.out; obtain ⟨q0, q1, q2, q3⟩ := h5; obtain ⟨q4, q5, q6, q7⟩ := h6; have hk := Kg4.out; rw [q0, q1, q2, q3, q4, q5, q6, q7] at hk; exact hk⟩
  clear Kg4
  have Kg4 := n0_
  clear n0_
  refine start_ (n := 22) (S := fun w' => w'.heap[g0]? = some (.cells #[.int .u32 a0_0, .int .u32 a0_1, .int .u32 a0_2, .int .u32 a0_3] 24 (0, 0)) ∧ w'.heap[g1]? = some (.cells #[.int .u32 a1_0, .int .u32 a1_1, .int .u32 a1_2, .int .u32 a1_3] 24 (0, 0)) ∧ w'.heap[g2]? = some (.cells #[.int .u32 (x.a), .int .u32 (x.b), .int .u32 (x.c), .int .u32 (x.d), .int .u32 (x.e), .int .u32 (x.f), .int .u32 (x.g), .int .u32 (x.h)] 31 (0, 0)) ∧ w'.heap[g3]? = some (.cells #[.int .u32 (y.a), .int .u32 (y.b), .int .u32 (y.c), .int .u32 (y.d), .int .u32 (y.e), .int .u32 (y.f), .int .u32 (y.g), .int .u32 (y.h)] 31 (0, 0)) ∧ w'.heap[g4]? = some (.cells #[.int .u32 (x.a), .int .u32 (x.b), .int .u32 (x.c), .int .u32 (x.d), .int .u32 (x.e), .int .u32 (x.f), .int .u32 (x.g), .int .u32 (x.h)] 31 (0, 0))) (ds := []) #[false, false, false, false, false, false, false, false, false, false, false, false, false, false, false, false, false, false, false, false, false, false] (by kernel_rfl) rfl rfl ⟨blk_drew Kg0.out, blk_drew Kg1.out, blk_drew Kg2.out, blk_drew Kg3.out, blk_drew Kg4.out⟩ (fun hHeld => ?_)
  refine one_ (i := 0) (N := (some 30)) #[true, false, false, false, false, false, false, false, false, false, false, false, false, false, false, false, false, false, false, false, false, false] rfl rfl (by kernel_rfl) (by decide) (fun K hK => ?_)
  refine goes_ Tryd.func21 (by kernel_rfl) rfl #[] (by rfl) rfl rfl (by (try simp only [List.map_toArray, List.map_cons, List.map_nil]); first | done | rfl) ?_
  with_reducible refine (seedcornlaw03_awake.calls true _ seedcornlaw03_awake.is (Tab.below HTB.out (by repeat (first | (with_reducible first | exact HB.out | apply below_alloc | apply pw_below_drewN | apply below_drew1 | refine below_set ?_ Gg0.out | refine below_set ?_ Gg1.out | refine below_set ?_ Gg2.out | refine below_set ?_ Gg3.out | refine below_set ?_ Gg4.out) | exact HB.out)))).mono ?_
  rintro e wB ⟨rfl, hb⟩
  refine ⟨_, rfl, ?_⟩
  have n0_ := Aside0.mk (below_step (by repeat (first | (with_reducible first | exact HB.out | apply below_alloc | apply pw_below_drewN | apply below_drew1 | refine below_set ?_ Gg0.out | refine below_set ?_ Gg1.out | refine below_set ?_ Gg2.out | refine below_set ?_ Gg3.out | refine below_set ?_ Gg4.out) | exact HB.out)) hb)
  clear HB
  have HB := n0_
  clear n0_
  refine hK.out _ _ ⟨blk_below hHeld.1 hb, blk_below hHeld.2.1 hb, blk_below hHeld.2.2.1 hb, blk_below hHeld.2.2.2.1 hb, blk_below hHeld.2.2.2.2 hb⟩ (fun hHeld => ?_)
  clear hK K
  refine norm_ (a' := ?_) ?_ ?_
  rotate_left
  · show Act.put _ (some 30) _ = _
    simp only [Act.put, List.setIfInBounds_toArray, List.set_cons_zero, List.set_cons_succ, i64_w, i32_w]
    rfl
  refine pure_ (i := 1) (N := (some 31)) (v := ?_) (a' := ?_) #[true, true, false, false, false, false, false, false, false, false, false, false, false, false, false, false, false, false, false, false, false, false] rfl rfl (by kernel_rfl) (fun _ _ _ h => h) (Or.inl ⟨by rfl, ?_⟩) ?_ ?_
  rotate_left
  · intro w'
    go_simp
    with_reducible rfl
  rotate_left
  · simp only [Act.put, List.setIfInBounds_toArray, List.set_cons_zero, List.set_cons_succ, i64_w, i32_w]
    rfl
  refine pure_ (i := 5) (N := (some 35)) (v := ?_) (a' := ?_) #[true, true, false, false, false, true, false, false, false, false, false, false, false, false, false, false, false, false, false, false, false, false] rfl rfl (by kernel_rfl) (fun _ _ _ h => h) (Or.inl ⟨by rfl, ?_⟩) ?_ ?_
  rotate_left
  · intro w'
    go_simp
    with_reducible rfl
  rotate_left
  · simp only [Act.put, List.setIfInBounds_toArray, List.set_cons_zero, List.set_cons_succ, i64_w, i32_w]
    rfl
  refine pure_ (i := 7) (N := (some 37)) (v := ?_) (a' := ?_) #[true, true, false, false, false, true, false, true, false, false, false, false, false, false, false, false, false, false, false, false, false, false] rfl rfl (by kernel_rfl) (fun _ _ _ h => h) (Or.inl ⟨by rfl, ?_⟩) ?_ ?_
  rotate_left
  · intro w'
    go_simp
    with_reducible rfl
  rotate_left
  · simp only [Act.put, List.setIfInBounds_toArray, List.set_cons_zero, List.set_cons_succ, i64_w, i32_w]
    rfl
  refine pure_ (i := 9) (N := (some 39)) (v := ?_) (a' := ?_) #[true, true, false, false, false, true, false, true, false, true, false, false, false, false, false, false, false, false, false, false, false, false] rfl rfl (by kernel_rfl) (fun _ _ _ h => h) (Or.inl ⟨by rfl, ?_⟩) ?_ ?_
  rotate_left
  · intro w'
    go_simp
    with_reducible rfl
  rotate_left
  · simp only [Act.put, List.setIfInBounds_toArray, List.set_cons_zero, List.set_cons_succ, i64_w, i32_w]
    rfl
  refine pure_ (i := 11) (N := (some 41)) (v := ?_) (a' := ?_) #[true, true, false, false, false, true, false, true, false, true, false, true, false, false, false, false, false, false, false, false, false, false] rfl rfl (by kernel_rfl) (fun _ _ _ h => h) (Or.inl ⟨by rfl, ?_⟩) ?_ ?_
  rotate_left
  · intro w'
    go_simp
    with_reducible rfl
  rotate_left
  · simp only [Act.put, List.setIfInBounds_toArray, List.set_cons_zero, List.set_cons_succ, i64_w, i32_w]
    rfl
  refine take_ (i := 2) (N := (some 32)) (v := ?_) (a' := ?_) #[true, true, true, false, false, true, false, true, false, true, false, true, false, false, false, false, false, false, false, false, false, false] rfl rfl (by kernel_rfl) (fun _ _ _ h => h) (Or.inl ⟨by rfl, ?_⟩) hHeld ?_ ?_
  rotate_left
  · intro w' hS_
    have cz0_ := (blk_cell hS_.1 0).trans rfl; have cz1_ := (blk_cell hS_.1 1).trans rfl; have cz2_ := (blk_cell hS_.1 2).trans rfl; have cz3_ := (blk_cell hS_.1 3).trans rfl
    go_simp
    with_reducible rfl
  rotate_left
  · simp only [Act.put, List.setIfInBounds_toArray, List.set_cons_zero, List.set_cons_succ, i64_w, i32_w]
    rfl
  refine take_ (i := 3) (N := (some 33)) (v := ?_) (a' := ?_) #[true, true, true, true, false, true, false, true, false, true, false, true, false, false, false, false, false, false, false, false, false, false] rfl rfl (by kernel_rfl) (fun _ _ _ h => h) (Or.inl ⟨by rfl, ?_⟩) hHeld ?_ ?_
  rotate_left
  · intro w' hS_
    have cz0_ := (blk_cell hS_.2.1 0).trans rfl; have cz1_ := (blk_cell hS_.2.1 1).trans rfl; have cz2_ := (blk_cell hS_.2.1 2).trans rfl; have cz3_ := (blk_cell hS_.2.1 3).trans rfl
    go_simp
    with_reducible rfl
  rotate_left
  · simp only [Act.put, List.setIfInBounds_toArray, List.set_cons_zero, List.set_cons_succ, i64_w, i32_w]
    rfl
  refine take_ (i := 6) (N := (some 36)) (v := ?_) (a' := ?_) #[true, true, true, true, false, true, true, true, false, true, false, true, false, false, false, false, false, false, false, false, false, false] rfl rfl (by kernel_rfl) (fun _ _ _ h => h) (Or.inl ⟨by rfl, ?_⟩) hHeld ?_ ?_
  rotate_left
  · intro w' hS_
    have cz0_ := (blk_cell hS_.2.2.2.1 0).trans rfl
    go_simp
    with_reducible rfl
  rotate_left
  · simp only [Act.put, List.setIfInBounds_toArray, List.set_cons_zero, List.set_cons_succ, i64_w, i32_w]
    rfl
  refine take_ (i := 8) (N := (some 38)) (v := ?_) (a' := ?_) #[true, true, true, true, false, true, true, true, true, true, false, true, false, false, false, false, false, false, false, false, false, false] rfl rfl (by kernel_rfl) (fun _ _ _ h => h) (Or.inl ⟨by rfl, ?_⟩) hHeld ?_ ?_
  rotate_left
  · intro w' hS_
    have cz1_ := (blk_cell hS_.2.2.2.1 1).trans rfl
    go_simp
    with_reducible rfl
  rotate_left
  · simp only [Act.put, List.setIfInBounds_toArray, List.set_cons_zero, List.set_cons_succ, i64_w, i32_w]
    rfl
  refine take_ (i := 10) (N := (some 40)) (v := ?_) (a' := ?_) #[true, true, true, true, false, true, true, true, true, true, true, true, false, false, false, false, false, false, false, false, false, false] rfl rfl (by kernel_rfl) (fun _ _ _ h => h) (Or.inl ⟨by rfl, ?_⟩) hHeld ?_ ?_
  rotate_left
  · intro w' hS_
    have cz2_ := (blk_cell hS_.2.2.2.1 2).trans rfl
    go_simp
    with_reducible rfl
  rotate_left
  · simp only [Act.put, List.setIfInBounds_toArray, List.set_cons_zero, List.set_cons_succ, i64_w, i32_w]
    rfl
  refine take_ (i := 12) (N := (some 42)) (v := ?_) (a' := ?_) #[true, true, true, true, false, true, true, true, true, true, true, true, true, false, false, false, false, false, false, false, false, false] rfl rfl (by kernel_rfl) (fun _ _ _ h => h) (Or.inl ⟨by rfl, ?_⟩) hHeld ?_ ?_
  rotate_left
  · intro w' hS_
    have cz3_ := (blk_cell hS_.2.2.2.1 3).trans rfl
    go_simp
    with_reducible rfl
  rotate_left
  · simp only [Act.put, List.setIfInBounds_toArray, List.set_cons_zero, List.set_cons_succ, i64_w, i32_w]
    rfl
  refine pure_ (i := 13) (N := (some 43)) (v := ?_) (a' := ?_) #[true, true, true, true, false, true, true, true, true, true, true, true, true, true, false, false, false, false, false, false, false, false] rfl rfl (by kernel_rfl) (fun _ _ _ h => h) (Or.inl ⟨by rfl, ?_⟩) ?_ ?_
  rotate_left
  · intro w'
    go_simp
    with_reducible rfl
  rotate_left
  · simp only [Act.put, List.setIfInBounds_toArray, List.set_cons_zero, List.set_cons_succ, i64_w, i32_w]
    rfl
  refine one_ (i := 4) (N := (some 34)) #[true, true, true, true, true, true, true, true, true, true, true, true, true, true, false, false, false, false, false, false, false, false] rfl rfl (by kernel_rfl) (by decide) (fun K hK => ?_)
  refine goes_ Tryd.func28 (by kernel_rfl) rfl #[.agg #[.int .u32 a0_0, .int .u32 a0_1, .int .u32 a0_2, .int .u32 a0_3], .agg #[.int .u32 a1_0, .int .u32 a1_1, .int .u32 a1_2, .int .u32 a1_3]] (by rfl) rfl rfl (by (try simp only [List.map_toArray, List.map_cons, List.map_nil]); first | done | rfl) ?_
  with_reducible refine (digest_Pair.calls a0_0 a0_1 a0_2 a0_3 a1_0 a1_1 a1_2 a1_3 y.a y.b y.c y.d _ H4.out (Tab.below HTB.out (by repeat (first | (with_reducible first | exact HB.out | apply below_alloc | apply pw_below_drewN | apply below_drew1 | refine below_set ?_ Gg0.out | refine below_set ?_ Gg1.out | refine below_set ?_ Gg2.out | refine below_set ?_ Gg3.out | refine below_set ?_ Gg4.out) | exact HB.out)))).mono ?_
  rintro e wC ⟨rfl, hb⟩
  refine ⟨_, rfl, ?_⟩
  have n0_ := Aside0.mk (below_step (by repeat (first | (with_reducible first | exact HB.out | apply below_alloc | apply pw_below_drewN | apply below_drew1 | refine below_set ?_ Gg0.out | refine below_set ?_ Gg1.out | refine below_set ?_ Gg2.out | refine below_set ?_ Gg3.out | refine below_set ?_ Gg4.out) | exact HB.out)) hb)
  clear HB
  have HB := n0_
  clear n0_
  refine hK.out _ _ ⟨blk_below hHeld.1 hb, blk_below hHeld.2.1 hb, blk_below hHeld.2.2.1 hb, blk_below hHeld.2.2.2.1 hb, blk_below hHeld.2.2.2.2 hb⟩ (fun hHeld => ?_)
  clear hK K
  refine norm_ (a' := ?_) ?_ ?_
  rotate_left
  · show Act.put _ (some 34) _ = _
    simp only [Act.put, List.setIfInBounds_toArray, List.set_cons_zero, List.set_cons_succ, i64_w, i32_w]
    rfl
  refine pure_ (i := 14) (N := (some 44)) (v := ?_) (a' := ?_) #[true, true, true, true, true, true, true, true, true, true, true, true, true, true, true, false, false, false, false, false, false, false] rfl rfl (by kernel_rfl) (fun _ _ _ h => h) (Or.inl ⟨by rfl, ?_⟩) ?_ ?_
  rotate_left
  · intro w'
    go_simp
    try simp only [beq_self_eq_true, Bool.and_self]
    try with_reducible rfl
  rotate_left
  · simp only [Act.put, List.setIfInBounds_toArray, List.set_cons_zero, List.set_cons_succ, i64_w, i32_w]
    rfl
  refine pure_ (i := 15) (N := (some 45)) (v := ?_) (a' := ?_) #[true, true, true, true, true, true, true, true, true, true, true, true, true, true, true, true, false, false, false, false, false, false] rfl rfl (by kernel_rfl) (fun _ _ _ h => h) (Or.inl ⟨by rfl, ?_⟩) ?_ ?_
  rotate_left
  · intro w'
    go_simp
    with_reducible rfl
  rotate_left
  · simp only [Act.put, List.setIfInBounds_toArray, List.set_cons_zero, List.set_cons_succ, i64_w, i32_w]
    rfl
  refine pure_ (i := 16) (N := (some 46)) (v := ?_) (a' := ?_) #[true, true, true, true, true, true, true, true, true, true, true, true, true, true, true, true, true, false, false, false, false, false] rfl rfl (by kernel_rfl) (fun _ _ _ h => h) (Or.inl ⟨by rfl, ?_⟩) ?_ ?_
  rotate_left
  · intro w'
    go_simp
    with_reducible rfl
  rotate_left
  · simp only [Act.put, List.setIfInBounds_toArray, List.set_cons_zero, List.set_cons_succ, i64_w, i32_w]
    rfl
  refine take_ (i := 17) (N := (some 47)) (v := ?_) (a' := ?_) #[true, true, true, true, true, true, true, true, true, true, true, true, true, true, true, true, true, true, false, false, false, false] rfl rfl (by kernel_rfl) (fun _ _ _ h => h) (Or.inl ⟨by rfl, ?_⟩) hHeld ?_ ?_
  rotate_left
  · intro w' hS_
    have cz0_ := (blk_cell hS_.2.2.2.2 0).trans rfl; have cz1_ := (blk_cell hS_.2.2.2.2 1).trans rfl; have cz2_ := (blk_cell hS_.2.2.2.2 2).trans rfl; have cz3_ := (blk_cell hS_.2.2.2.2 3).trans rfl; have cz4_ := (blk_cell hS_.2.2.2.2 4).trans rfl; have cz5_ := (blk_cell hS_.2.2.2.2 5).trans rfl; have cz6_ := (blk_cell hS_.2.2.2.2 6).trans rfl; have cz7_ := (blk_cell hS_.2.2.2.2 7).trans rfl
    go_simp
    with_reducible rfl
  rotate_left
  · simp only [Act.put, List.setIfInBounds_toArray, List.set_cons_zero, List.set_cons_succ, i64_w, i32_w]
    rfl
  refine take_ (i := 18) (N := (some 48)) (v := ?_) (a' := ?_) #[true, true, true, true, true, true, true, true, true, true, true, true, true, true, true, true, true, true, true, false, false, false] rfl rfl (by kernel_rfl) (fun _ _ _ h => h) (Or.inl ⟨by rfl, ?_⟩) hHeld ?_ ?_
  rotate_left
  · intro w' hS_
    have cz0_ := (blk_cell hS_.2.2.1 0).trans rfl; have cz1_ := (blk_cell hS_.2.2.1 1).trans rfl; have cz2_ := (blk_cell hS_.2.2.1 2).trans rfl; have cz3_ := (blk_cell hS_.2.2.1 3).trans rfl; have cz4_ := (blk_cell hS_.2.2.1 4).trans rfl; have cz5_ := (blk_cell hS_.2.2.1 5).trans rfl; have cz6_ := (blk_cell hS_.2.2.1 6).trans rfl; have cz7_ := (blk_cell hS_.2.2.1 7).trans rfl
    go_simp
    with_reducible rfl
  rotate_left
  · simp only [Act.put, List.setIfInBounds_toArray, List.set_cons_zero, List.set_cons_succ, i64_w, i32_w]
    rfl
  refine pure_ (i := 19) (N := (some 49)) (v := ?_) (a' := ?_) #[true, true, true, true, true, true, true, true, true, true, true, true, true, true, true, true, true, true, true, true, false, false] rfl rfl (by kernel_rfl) (fun _ _ _ h => h) (Or.inl ⟨by rfl, ?_⟩) ?_ ?_
  rotate_left
  · intro w'
    go_simp
    try simp only [beq_self_eq_true, Bool.and_self]
    try with_reducible rfl
  rotate_left
  · simp only [Act.put, List.setIfInBounds_toArray, List.set_cons_zero, List.set_cons_succ, i64_w, i32_w]
    rfl
  refine pure_ (i := 20) (N := (some 50)) (v := ?_) (a' := ?_) #[true, true, true, true, true, true, true, true, true, true, true, true, true, true, true, true, true, true, true, true, true, false] rfl rfl (by kernel_rfl) (fun _ _ _ h => h) (Or.inl ⟨by rfl, ?_⟩) ?_ ?_
  rotate_left
  · intro w'
    go_simp
    with_reducible rfl
  rotate_left
  · simp only [Act.put, List.setIfInBounds_toArray, List.set_cons_zero, List.set_cons_succ, i64_w, i32_w]
    rfl
  refine pure_ (i := 21) (N := (some 4)) (v := ?_) (a' := ?_) #[true, true, true, true, true, true, true, true, true, true, true, true, true, true, true, true, true, true, true, true, true, true] rfl rfl (by kernel_rfl) (fun _ _ _ h => h) (Or.inl ⟨by rfl, ?_⟩) ?_ ?_
  rotate_left
  · intro w'
    go_simp
    with_reducible rfl
  rotate_left
  · simp only [Act.put, List.setIfInBounds_toArray, List.set_cons_zero, List.set_cons_succ, i64_w, i32_w]
    rfl
  refine done_ (by kernel_rfl) ?_
  go_wp2
  go_ret
  exact ⟨rfl, (by repeat (first | (with_reducible first | exact HB.out | apply below_alloc | apply pw_below_drewN | apply below_drew1 | refine below_set ?_ Gg0.out | refine below_set ?_ Gg1.out | refine below_set ?_ Gg2.out | refine below_set ?_ Gg3.out | refine below_set ?_ Gg4.out) | exact HB.out))⟩


end Go.Proofs.YthimgiphlenjdaaDoor.PI
