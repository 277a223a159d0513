/- Contracts of the Go functions of this seat, each over a Lean function of the same answers; written by a program of this session's. -/
import Derived.Test.YthimgiphlenjdaaDoorPIx0
import Derived.Test.YthimgiphlenjdaaDoorHWords
import Derived.Test.YthimgiphlenjdaaDoorHRead3
import Derived.Test.YthimgiphlenjdaaDoorPureWords
import Derived.Test.YthimgiphlenjdaaDoorGe
import Derived.Test.YthimgiphlenjdaaDoorGc
namespace Go.Proofs.YthimgiphlenjdaaDoor.PI
open Go.RowKit Go.Proofs.YthimgiphlenjdaaDoorW.PrintWords Go.Proofs.YthimgiphlenjdaaDoorW.PrintLast
open HX
set_option linter.unusedVariables false
set_option linter.unusedSimpArgs false

attribute [local go_sem high] eqA24
/-! ### recipe_Read: function 38 -/
-- import HRead3
-- import PureWords
attribute [local go_sem high] eqA24
def readS (a0 : ByteArray) : Rec × Int := if a0.size = 0 ∨ a0.extract 0 1 ≠ (⟨#[82]⟩ : ByteArray) ∨ (a0.extract 1 a0.size).size % 4 ≠ 0 then (zeroR, 7) else readL (wordsL (bytesOf (a0.extract 1 a0.size)))
def recipe_Read.f (a0 : ByteArray) : Option (Int × Int × Int × Int × Int × List Int × (List (S24)) × Int × Int) := if a0.size ≤ 1000000 then some ((readS a0).1.tool, (readS a0).1.i0, (readS a0).1.i1, (readS a0).1.i2, (readS a0).1.i3, (readS a0).1.ps, (readS a0).1.ds, (readS a0).1.fuel, (readS a0).2) else none
theorem wordsL_ok : ∀ (l : List Int), (∀ x ∈ l, 0 ≤ x ∧ x ≤ 255) → ∀ x ∈ wordsL l, 0 ≤ x ∧ x < 4294967296
  | [], _, x, hx => absurd hx List.not_mem_nil
  | [_], _, x, hx => absurd hx List.not_mem_nil
  | [_, _], _, x, hx => absurd hx List.not_mem_nil
  | [_, _, _], _, x, hx => absurd hx List.not_mem_nil
  | a :: b :: c :: d :: t, h, x, hx => by
    have ha := h a (by simp)
    have hb := h b (by simp)
    have hc := h c (by simp)
    have hd := h d (by simp)
    rcases List.mem_cons.1 hx with rfl | hx
    · unfold le4
      omega
    · exact wordsL_ok t (fun y hy => h y (by simp [hy])) x hx
theorem bytesOf_ok (s : ByteArray) : ∀ x ∈ bytesOf s, 0 ≤ x ∧ x ≤ 255 := fun x hx => by
  unfold bytesOf at hx
  obtain ⟨b, _, rfl⟩ := List.mem_map.1 hx
  have := b.toNat_lt
  omega
set_option maxHeartbeats 8000000 in
set_option maxRecDepth 100000 in
theorem read_calls (a0 : ByteArray) (rr : Rec) (ee : Int) (w : World) (hsz : a0.size ≤ 1000000) (h : readS a0 = (rr, ee)) :
    Calls Tryd.prog 38 #[.string a0] w fun e w' => ∃ v5_ v6_ : Value, e = .returned (.tuple #[.agg #[.int .i64 rr.tool, .int .u32 rr.i0, .int .u32 rr.i1, .int .u32 rr.i2, .int .u32 rr.i3, v5_, v6_, .int .i64 rr.fuel], .int .i64 ee]) ∧ Kd.R (Kd.int .i64) 3 w' w.heap.size (fun _ => True) v5_ rr.ps ∧ Kd.R k24 24 w' w.heap.size (fun _ => True) v6_ rr.ds ∧ Below w.heap.size w w' := by
  have hu46 := Tryd.underlying46
  have hu24 := Tryd.underlying24
  have hu83 := Tryd.underlying83
  have hu82 := Tryd.underlying82
  have HB := Aside0.mk (Below.refl w.heap.size w)
  have HSZ := Aside0.mk hsz
  by_cases h0 : a0.size = 0
  · obtain ⟨rfl, rfl⟩ : rr = zeroR ∧ ee = 7 := by
      unfold readS at h
      rw [if_pos (.inl h0)] at h
      simp only [Prod.mk.injEq] at h
      exact ⟨h.1.symm, h.2.symm⟩
    have c1 : ((a0.size : Int) == 0) = true := beq_iff_eq.2 (by omega)
    have c2 : (a0.size == 0) = true := beq_iff_eq.2 h0
    clear h hsz h0
    go_enter Tryd.func38, Tryd.ntmps38
    go_wp2_with (first | ((with_reducible refine gate_dst (N := 2) rfl ?_); refine box_event ?hg (N := 2) ?hd (cs := #[.int .i64 0, .int .u32 0, .int .u32 0, .int .u32 0, .int .u32 0, .slice none 0 0, .slice none 0 0, .int .i64 0]) (t := 46) ?hr ?_; (case hd => rfl); (case hg => rfl); (case hr => first | (go_simp; done) | (go_simp; rfl)); intro g2 hg w2 hbox hb; have n0_ := Aside0.mk (below_step (by repeat (first | (with_reducible first | exact HB.out | apply below_alloc | apply pw_below_drewN | apply below_drew1) | exact HB.out)) hb); have K2 := Aside0.mk hbox; have G2 := Aside0.mk ((by rw [hg]; exact (below_size HB.out)) : w.heap.size ≤ g2); clear HB; have HB := n0_; clear n0_ hb hbox hg; obtain ⟨z0_, z1_, z2_, z3_, z4_, z5_, z6_, z7_, zf0_, zf1_, zf2_, zf3_, zf4_, zf5_, zf6_, zf7_⟩ := cells8 K2.out))
    refine bodyPost_ret (results_ct rfl _ _ g2 46 #[.int .i64 0, .int .u32 0, .int .u32 0, .int .u32 0, .int .u32 0, .slice none 0 0, .slice none 0 0, .int .i64 0] (0, 0) _ rfl (by (with_reducible repeat (first | refine blk_drewN ?_ _ | refine blk_drew ?_ | refine blk_alloc ?_ _)); refine blk_put (cs := #[.int .i64 0, .int .u32 0, .int .u32 0, .int .u32 0, .int .u32 0, .slice none 0 0, .slice none 0 0, .int .i64 0]) ?_ 7 _ rfl; (with_reducible repeat (first | refine blk_drewN ?_ _ | refine blk_drew ?_ | refine blk_alloc ?_ _)); refine blk_put (cs := #[.int .i64 0, .int .u32 0, .int .u32 0, .int .u32 0, .int .u32 0, .slice none 0 0, .slice none 0 0, .int .i64 0]) ?_ 6 _ rfl; (with_reducible repeat (first | refine blk_drewN ?_ _ | refine blk_drew ?_ | refine blk_alloc ?_ _)); refine blk_put (cs := #[.int .i64 0, .int .u32 0, .int .u32 0, .int .u32 0, .int .u32 0, .slice none 0 0, .slice none 0 0, .int .i64 0]) ?_ 5 _ rfl; (with_reducible repeat (first | refine blk_drewN ?_ _ | refine blk_drew ?_ | refine blk_alloc ?_ _)); refine blk_put (cs := #[.int .i64 0, .int .u32 0, .int .u32 0, .int .u32 0, .int .u32 0, .slice none 0 0, .slice none 0 0, .int .i64 0]) ?_ 4 _ rfl; (with_reducible repeat (first | refine blk_drewN ?_ _ | refine blk_drew ?_ | refine blk_alloc ?_ _)); refine blk_put (cs := #[.int .i64 0, .int .u32 0, .int .u32 0, .int .u32 0, .int .u32 0, .slice none 0 0, .slice none 0 0, .int .i64 0]) ?_ 3 _ rfl; (with_reducible repeat (first | refine blk_drewN ?_ _ | refine blk_drew ?_ | refine blk_alloc ?_ _)); refine blk_put (cs := #[.int .i64 0, .int .u32 0, .int .u32 0, .int .u32 0, .int .u32 0, .slice none 0 0, .slice none 0 0, .int .i64 0]) ?_ 2 _ rfl; (with_reducible repeat (first | refine blk_drewN ?_ _ | refine blk_drew ?_ | refine blk_alloc ?_ _)); refine blk_put (cs := #[.int .i64 0, .int .u32 0, .int .u32 0, .int .u32 0, .int .u32 0, .slice none 0 0, .slice none 0 0, .int .i64 0]) ?_ 1 _ rfl; (with_reducible repeat (first | refine blk_drewN ?_ _ | refine blk_drew ?_ | refine blk_alloc ?_ _)); refine blk_put (cs := #[.int .i64 0, .int .u32 0, .int .u32 0, .int .u32 0, .int .u32 0, .slice none 0 0, .slice none 0 0, .int .i64 0]) ?_ 0 _ rfl; (with_reducible repeat (first | refine blk_drewN ?_ _ | refine blk_drew ?_ | refine blk_alloc ?_ _)); exact K2.out) Tryd.underlying46 rfl (by kernel_rfl)) rfl ?_
    exact ⟨_, _, rfl, Kd.R_nil _ _ _ _ _, Kd.R_nil _ _ _ _ _, (by repeat (first | (with_reducible first | exact HB.out | apply below_alloc | apply pw_below_drewN | apply below_drew1 | refine below_set ?_ G2.out) | exact HB.out))⟩
  · have c1 : ((a0.size : Int) == 0) = false := beq_eq_false_iff_ne.2 (by omega)
    have c2 : (a0.size == 0) = false := beq_eq_false_iff_ne.2 h0
    have c3 : (1 : Int) ≤ (a0.size : Int) := by omega
    have c4 : 1 ≤ a0.size := by omega
    by_cases hR : a0.extract 0 1 = (⟨#[82]⟩ : ByteArray)
    rotate_left
    · obtain ⟨rfl, rfl⟩ : rr = zeroR ∧ ee = 7 := by
        unfold readS at h
        rw [if_pos (.inr (.inl hR))] at h
        simp only [Prod.mk.injEq] at h
        exact ⟨h.1.symm, h.2.symm⟩
      have c5 : ((a0.extract 0 1).toList == [(82 : UInt8)]) = false := beq_eq_false_iff_ne.2 (fun e => hR (toList_82 _ e))
      have c6 : decide (a0.extract 0 1 = (⟨#[82]⟩ : ByteArray)) = false := decide_eq_false hR
      clear h hsz h0
      go_enter Tryd.func38, Tryd.ntmps38
      go_wp2_with (first | ((with_reducible refine gate_dst (N := 2) rfl ?_); refine box_event ?hg (N := 2) ?hd (cs := #[.int .i64 0, .int .u32 0, .int .u32 0, .int .u32 0, .int .u32 0, .slice none 0 0, .slice none 0 0, .int .i64 0]) (t := 46) ?hr ?_; (case hd => rfl); (case hg => rfl); (case hr => first | (go_simp; done) | (go_simp; rfl)); intro g2 hg w2 hbox hb; have n0_ := Aside0.mk (below_step (by repeat (first | (with_reducible first | exact HB.out | apply below_alloc | apply pw_below_drewN | apply below_drew1) | exact HB.out)) hb); have K2 := Aside0.mk hbox; have G2 := Aside0.mk ((by rw [hg]; exact (below_size HB.out)) : w.heap.size ≤ g2); clear HB; have HB := n0_; clear n0_ hb hbox hg; obtain ⟨z0_, z1_, z2_, z3_, z4_, z5_, z6_, z7_, zf0_, zf1_, zf2_, zf3_, zf4_, zf5_, zf6_, zf7_⟩ := cells8 K2.out))
      refine bodyPost_ret (results_ct rfl _ _ g2 46 #[.int .i64 0, .int .u32 0, .int .u32 0, .int .u32 0, .int .u32 0, .slice none 0 0, .slice none 0 0, .int .i64 0] (0, 0) _ rfl (by (with_reducible repeat (first | refine blk_drewN ?_ _ | refine blk_drew ?_ | refine blk_alloc ?_ _)); refine blk_put (cs := #[.int .i64 0, .int .u32 0, .int .u32 0, .int .u32 0, .int .u32 0, .slice none 0 0, .slice none 0 0, .int .i64 0]) ?_ 7 _ rfl; (with_reducible repeat (first | refine blk_drewN ?_ _ | refine blk_drew ?_ | refine blk_alloc ?_ _)); refine blk_put (cs := #[.int .i64 0, .int .u32 0, .int .u32 0, .int .u32 0, .int .u32 0, .slice none 0 0, .slice none 0 0, .int .i64 0]) ?_ 6 _ rfl; (with_reducible repeat (first | refine blk_drewN ?_ _ | refine blk_drew ?_ | refine blk_alloc ?_ _)); refine blk_put (cs := #[.int .i64 0, .int .u32 0, .int .u32 0, .int .u32 0, .int .u32 0, .slice none 0 0, .slice none 0 0, .int .i64 0]) ?_ 5 _ rfl; (with_reducible repeat (first | refine blk_drewN ?_ _ | refine blk_drew ?_ | refine blk_alloc ?_ _)); refine blk_put (cs := #[.int .i64 0, .int .u32 0, .int .u32 0, .int .u32 0, .int .u32 0, .slice none 0 0, .slice none 0 0, .int .i64 0]) ?_ 4 _ rfl; (with_reducible repeat (first | refine blk_drewN ?_ _ | refine blk_drew ?_ | refine blk_alloc ?_ _)); refine blk_put (cs := #[.int .i64 0, .int .u32 0, .int .u32 0, .int .u32 0, .int .u32 0, .slice none 0 0, .slice none 0 0, .int .i64 0]) ?_ 3 _ rfl; (with_reducible repeat (first | refine blk_drewN ?_ _ | refine blk_drew ?_ | refine blk_alloc ?_ _)); refine blk_put (cs := #[.int .i64 0, .int .u32 0, .int .u32 0, .int .u32 0, .int .u32 0, .slice none 0 0, .slice none 0 0, .int .i64 0]) ?_ 2 _ rfl; (with_reducible repeat (first | refine blk_drewN ?_ _ | refine blk_drew ?_ | refine blk_alloc ?_ _)); refine blk_put (cs := #[.int .i64 0, .int .u32 0, .int .u32 0, .int .u32 0, .int .u32 0, .slice none 0 0, .slice none 0 0, .int .i64 0]) ?_ 1 _ rfl; (with_reducible repeat (first | refine blk_drewN ?_ _ | refine blk_drew ?_ | refine blk_alloc ?_ _)); refine blk_put (cs := #[.int .i64 0, .int .u32 0, .int .u32 0, .int .u32 0, .int .u32 0, .slice none 0 0, .slice none 0 0, .int .i64 0]) ?_ 0 _ rfl; (with_reducible repeat (first | refine blk_drewN ?_ _ | refine blk_drew ?_ | refine blk_alloc ?_ _)); exact K2.out) Tryd.underlying46 rfl (by kernel_rfl)) rfl ?_
      exact ⟨_, _, rfl, Kd.R_nil _ _ _ _ _, Kd.R_nil _ _ _ _ _, (by repeat (first | (with_reducible first | exact HB.out | apply below_alloc | apply pw_below_drewN | apply below_drew1 | refine below_set ?_ G2.out) | exact HB.out))⟩
    · have c5 : ((a0.extract 0 1).toList == [(82 : UInt8)]) = true := by rw [hR, Lib.toList_data]; rfl
      have c6 : decide (a0.extract 0 1 = (⟨#[82]⟩ : ByteArray)) = true := decide_eq_true hR
      have hse : (a0.extract 1 a0.size).size = a0.size - 1 := by rw [ByteArray.size_extract]; omega
      by_cases hm : (a0.extract 1 a0.size).size % 4 = 0
      rotate_left
      · obtain ⟨rfl, rfl⟩ : rr = zeroR ∧ ee = 7 := by
          unfold readS at h
          rw [if_pos (.inr (.inr hm))] at h
          simp only [Prod.mk.injEq] at h
          exact ⟨h.1.symm, h.2.symm⟩
        have HW := Aside0.mk (show word_Words.f 1000005 (a0.extract 1 a0.size) = some ([], 7) by unfold word_Words.f; rw [if_neg (by omega)])
        clear h hsz h0 hR hm hse
        go_enter Tryd.func38, Tryd.ntmps38
        go_wp2_with (first | ((with_reducible refine gate_dst (N := 2) rfl ?_); refine box_event ?hg (N := 2) ?hd (cs := #[.int .i64 0, .int .u32 0, .int .u32 0, .int .u32 0, .int .u32 0, .slice none 0 0, .slice none 0 0, .int .i64 0]) (t := 46) ?hr ?_; (case hd => rfl); (case hg => rfl); (case hr => first | (go_simp; done) | (go_simp; rfl)); intro g2 hg w2 hbox hb; have n0_ := Aside0.mk (below_step (by repeat (first | (with_reducible first | exact HB.out | apply below_alloc | apply pw_below_drewN | apply below_drew1) | exact HB.out)) hb); have K2 := Aside0.mk hbox; have G2 := Aside0.mk ((by rw [hg]; exact (below_size HB.out)) : w.heap.size ≤ g2); clear HB; have HB := n0_; clear n0_ hb hbox hg; obtain ⟨z0_, z1_, z2_, z3_, z4_, z5_, z6_, z7_, zf0_, zf1_, zf2_, zf3_, zf4_, zf5_, zf6_, zf7_⟩ := cells8 K2.out) | ((go_at_call 46); (refine (word_Words.calls 1000005 (a0.extract 1 a0.size) [] 7 _ HW.out).mono ?_); rintro e w3 ⟨v0_, rfl, hR_, hb⟩; have n0_ := Aside0.mk (below_step (by repeat (first | (with_reducible first | exact HB.out | apply below_alloc | apply pw_below_drewN | apply below_drew1) | exact HB.out)) hb); have n1_ := Aside0.mk (blk_below K2.out hb); have n2_ := Aside0.mk hR_; have n3_ := Aside0.mk (Nat.lt_of_lt_of_le (blk_lt K2.out) hb.size); clear z0_ zf0_ z1_ zf1_ z2_ zf2_ z3_ zf3_ z4_ zf4_ z5_ zf5_ z6_ zf6_ z7_ zf7_; clear HB K2 hR_ hb; have HB := n0_; have K2 := n1_; have HRW := n2_; have L2 := n3_; clear n0_ n1_ n2_ n3_; obtain ⟨Aw, cw, ew⟩ := Kd.R_slice HRW.out; subst ew; obtain ⟨z0_, z1_, z2_, z3_, z4_, z5_, z6_, z7_, zf0_, zf1_, zf2_, zf3_, zf4_, zf5_, zf6_, zf7_⟩ := cells8 K2.out))
        refine bodyPost_ret (results_ct rfl _ _ g2 46 #[.int .i64 0, .int .u32 0, .int .u32 0, .int .u32 0, .int .u32 0, .slice none 0 0, .slice none 0 0, .int .i64 0] (0, 0) _ rfl (by (with_reducible repeat (first | refine blk_drewN ?_ _ | refine blk_drew ?_ | refine blk_alloc ?_ _)); refine blk_put (cs := #[.int .i64 0, .int .u32 0, .int .u32 0, .int .u32 0, .int .u32 0, .slice none 0 0, .slice none 0 0, .int .i64 0]) ?_ 7 _ rfl; (with_reducible repeat (first | refine blk_drewN ?_ _ | refine blk_drew ?_ | refine blk_alloc ?_ _)); refine blk_put (cs := #[.int .i64 0, .int .u32 0, .int .u32 0, .int .u32 0, .int .u32 0, .slice none 0 0, .slice none 0 0, .int .i64 0]) ?_ 6 _ rfl; (with_reducible repeat (first | refine blk_drewN ?_ _ | refine blk_drew ?_ | refine blk_alloc ?_ _)); refine blk_put (cs := #[.int .i64 0, .int .u32 0, .int .u32 0, .int .u32 0, .int .u32 0, .slice none 0 0, .slice none 0 0, .int .i64 0]) ?_ 5 _ rfl; (with_reducible repeat (first | refine blk_drewN ?_ _ | refine blk_drew ?_ | refine blk_alloc ?_ _)); refine blk_put (cs := #[.int .i64 0, .int .u32 0, .int .u32 0, .int .u32 0, .int .u32 0, .slice none 0 0, .slice none 0 0, .int .i64 0]) ?_ 4 _ rfl; (with_reducible repeat (first | refine blk_drewN ?_ _ | refine blk_drew ?_ | refine blk_alloc ?_ _)); refine blk_put (cs := #[.int .i64 0, .int .u32 0, .int .u32 0, .int .u32 0, .int .u32 0, .slice none 0 0, .slice none 0 0, .int .i64 0]) ?_ 3 _ rfl; (with_reducible repeat (first | refine blk_drewN ?_ _ | refine blk_drew ?_ | refine blk_alloc ?_ _)); refine blk_put (cs := #[.int .i64 0, .int .u32 0, .int .u32 0, .int .u32 0, .int .u32 0, .slice none 0 0, .slice none 0 0, .int .i64 0]) ?_ 2 _ rfl; (with_reducible repeat (first | refine blk_drewN ?_ _ | refine blk_drew ?_ | refine blk_alloc ?_ _)); refine blk_put (cs := #[.int .i64 0, .int .u32 0, .int .u32 0, .int .u32 0, .int .u32 0, .slice none 0 0, .slice none 0 0, .int .i64 0]) ?_ 1 _ rfl; (with_reducible repeat (first | refine blk_drewN ?_ _ | refine blk_drew ?_ | refine blk_alloc ?_ _)); refine blk_put (cs := #[.int .i64 0, .int .u32 0, .int .u32 0, .int .u32 0, .int .u32 0, .slice none 0 0, .slice none 0 0, .int .i64 0]) ?_ 0 _ rfl; (with_reducible repeat (first | refine blk_drewN ?_ _ | refine blk_drew ?_ | refine blk_alloc ?_ _)); exact K2.out) Tryd.underlying46 rfl (by kernel_rfl)) rfl ?_
        exact ⟨_, _, rfl, Kd.R_nil _ _ _ _ _, Kd.R_nil _ _ _ _ _, (by repeat (first | (with_reducible first | exact HB.out | apply below_alloc | apply pw_below_drewN | apply below_drew1 | refine below_set ?_ G2.out) | exact HB.out))⟩
      · have hw := words_of (a0.extract 1 a0.size) 1000005 hm (by omega) (by omega)
        have hL : readL (wordsL (bytesOf (a0.extract 1 a0.size))) = (rr, ee) := by
          unfold readS at h
          rw [if_neg (by rintro (e | e | e) <;> first | exact h0 e | exact e hR | exact e hm)] at h
          exact h
        have hok : (⟨wordsL (bytesOf (a0.extract 1 a0.size)), false⟩ : Tk).Ok := wordsL_ok _ (bytesOf_ok _)
        generalize wordsL (bytesOf (a0.extract 1 a0.size)) = l at hw hL hok
        have HW := Aside0.mk hw
        have HL := Aside0.mk hL
        have HOK := Aside0.mk hok
        clear h hsz h0 hR hm hse hw hL hok
        obtain ⟨⟨x0, t1⟩, h01⟩ : ∃ p, (⟨l, false⟩ : Tk).w = p := ⟨_, rfl⟩
        obtain ⟨⟨d0, t2⟩, h12⟩ : ∃ p, t1.d = p := ⟨_, rfl⟩
        obtain ⟨⟨xf, t3⟩, h23⟩ : ∃ p, t2.w = p := ⟨_, rfl⟩
        obtain ⟨⟨n, t4⟩, h34⟩ : ∃ p, t3.few = p := ⟨_, rfl⟩
        have k1 : t1.Ok := by have h := HOK.out.w.1; rw [h01] at h; exact h
        have k2 : t2.Ok := by have h := k1.d; rw [h12] at h; exact h
        have k3 : t3.Ok := by have h := k2.w.1; rw [h23] at h; exact h
        have k4 : t4.Ok ∧ 0 ≤ n ∧ n ≤ 20 := by have h := k3.few; rw [h34] at h; exact h
        obtain ⟨N, rfl⟩ := Int.eq_ofNat_of_zero_le k4.2.1
        obtain ⟨⟨m, t6⟩, h56⟩ : ∃ p, (t4.psN N).2.few = p := ⟨_, rfl⟩
        have k6 : t6.Ok ∧ 0 ≤ m ∧ m ≤ 20 := by have h := (k4.1.ps N).few; rw [h56] at h; exact h
        obtain ⟨M, rfl⟩ := Int.eq_ofNat_of_zero_le k6.2.1
        have HN := Aside0.mk (show N ≤ 20 by have := k4.2.2; omega)
        have HM := Aside0.mk (show M ≤ 20 by have := k6.2.2; omega)
        have hLL := HL.out
        rw [readL_eq l x0 t1 d0 t2 xf t3 N t4 M t6 h01 h12 h23 h34 h56] at hLL
        have HLL := Aside0.mk hLL
        have C1 := Aside0.mk (show ∀ w3 gt w4, TkSt w3 gt ⟨l, false⟩ w4 → Calls Tryd.prog 62 #[.pointer (some ⟨gt, 0, none⟩)] w4 fun e w' => e = .returned (.int .u32 x0) ∧ TkSt w3 gt t1 w' ∧ KeepBut w4 w' gt none from fun w3 gt w4 h => by have c := word_calls w3 gt _ w4 h; rw [h01] at c; exact c)
        have C2 := Aside0.mk (show ∀ w3 gt w4, TkSt w3 gt t1 w4 → Calls Tryd.prog 63 #[.pointer (some ⟨gt, 0, none⟩)] w4 fun e w' => e = .returned (.agg #[.int .u32 d0.f0, .int .u32 d0.f1, .int .u32 d0.f2, .int .u32 d0.f3]) ∧ TkSt w3 gt t2 w' ∧ KeepBut w4 w' gt none from fun w3 gt w4 h => by have c := digest_calls w3 gt _ w4 h; rw [h12] at c; exact c)
        have C3 := Aside0.mk (show ∀ w3 gt w4, TkSt w3 gt t2 w4 → Calls Tryd.prog 62 #[.pointer (some ⟨gt, 0, none⟩)] w4 fun e w' => e = .returned (.int .u32 xf) ∧ TkSt w3 gt t3 w' ∧ KeepBut w4 w' gt none from fun w3 gt w4 h => by have c := word_calls w3 gt _ w4 h; rw [h23] at c; exact c)
        have C4 := Aside0.mk (show ∀ w3 gt w4, TkSt w3 gt t3 w4 → Calls Tryd.prog 64 #[.pointer (some ⟨gt, 0, none⟩)] w4 fun e w' => e = .returned (.int .i64 (N : Int)) ∧ TkSt w3 gt t4 w' ∧ KeepBut w4 w' gt none from fun w3 gt w4 h => by have c := few_calls w3 gt _ w4 h; rw [h34] at c; exact c)
        have C5 := Aside0.mk (show ∀ w3 gt w4, TkSt w3 gt (t4.psN N).2 w4 → Calls Tryd.prog 64 #[.pointer (some ⟨gt, 0, none⟩)] w4 fun e w' => e = .returned (.int .i64 (M : Int)) ∧ TkSt w3 gt t6 w' ∧ KeepBut w4 w' gt none from fun w3 gt w4 h => by have c := few_calls w3 gt _ w4 h; rw [h56] at c; exact c)
        clear HL HOK hLL h01 h12 h23 h34 h56 k1 k2 k3 k4 k6
        go_enter Tryd.func38, Tryd.ntmps38
        go_wp2_with (first | ((with_reducible refine gate_dst (N := 2) rfl ?_); refine box_event ?hg (N := 2) ?hd (cs := #[.int .i64 0, .int .u32 0, .int .u32 0, .int .u32 0, .int .u32 0, .slice none 0 0, .slice none 0 0, .int .i64 0]) (t := 46) ?hr ?_; (case hd => rfl); (case hg => rfl); (case hr => first | (go_simp; done) | (go_simp; rfl)); intro g2 hg w2 hbox hb; have n0_ := Aside0.mk (below_step (by repeat (first | (with_reducible first | exact HB.out | apply below_alloc | apply pw_below_drewN | apply below_drew1) | exact HB.out)) hb); have K2 := Aside0.mk hbox; have G2 := Aside0.mk ((by rw [hg]; exact (below_size HB.out)) : w.heap.size ≤ g2); clear HB; have HB := n0_; clear n0_ hb hbox hg; obtain ⟨z0_, z1_, z2_, z3_, z4_, z5_, z6_, z7_, zf0_, zf1_, zf2_, zf3_, zf4_, zf5_, zf6_, zf7_⟩ := cells8 K2.out) | ((go_at_call 46); (refine (word_Words.calls 1000005 (a0.extract 1 a0.size) l 0 _ HW.out).mono ?_); rintro e w3 ⟨v0_, rfl, hR_, hb⟩; have n0_ := Aside0.mk (below_step (by repeat (first | (with_reducible first | exact HB.out | apply below_alloc | apply pw_below_drewN | apply below_drew1) | exact HB.out)) hb); have n1_ := Aside0.mk (blk_below K2.out hb); have n2_ := Aside0.mk hR_; have n3_ := Aside0.mk (Nat.lt_of_lt_of_le (blk_lt K2.out) hb.size); clear z0_ zf0_ z1_ zf1_ z2_ zf2_ z3_ zf3_ z4_ zf4_ z5_ zf5_ z6_ zf6_ z7_ zf7_; clear HB K2 hR_ hb; have HB := n0_; have K2 := n1_; have HRW := n2_; have L2 := n3_; clear n0_ n1_ n2_ n3_; obtain ⟨Aw, cw, ew⟩ := Kd.R_slice HRW.out; subst ew) | ((with_reducible refine gate_dst (N := 29) rfl ?_); refine box_event ?hg (N := 29) ?hd (cs := #[.slice Aw l.length cw, .bool false]) (t := 83) ?hr ?_; (case hd => rfl); (case hg => rfl); (case hr => first | (go_simp; done) | (go_simp; rfl)); intro gt hg w4 hbox hb; have P := Aside0.mk (show TkSt w3 gt ⟨l, false⟩ w4 from ⟨hb, (by rw [hg]; exact Nat.le_refl _), Aw, cw, hbox, (Kd.R_reads' HRW.out).2.2, (Kd.R_reads' HRW.out).2.1⟩); have n1_ := Aside0.mk (blk_below K2.out hb); clear K2; have K2 := n1_; clear n1_ hb hbox hg) | ((go_at_call 62); (refine (C1.out w3 gt _ P.out).mono ?_); rintro e w5 ⟨rfl, hp, hk⟩; have n0_ := Aside0.mk hp; have n1_ := Aside0.mk (HX.KeepBut.blk hk K2.out (by have := L2.out; have := P.out.hg; omega)); clear P K2 hp hk; have P := n0_; have K2 := n1_; clear n0_ n1_) | ((with_reducible refine gate_dst (N := 8) rfl ?_); refine box_event ?hg (N := 8) ?hd (cs := #[.int .i64 0, .int .u32 0, .int .u32 0, .int .u32 0, .int .u32 0, .slice none 0 0, .slice none 0 0, .int .i64 0]) (t := 46) ?hr ?_; (case hd => rfl); (case hg => rfl); (case hr => first | (go_simp; done) | (go_simp; rfl)); intro g8 hg w6 hbox hb; have P6 := Aside0.mk (show RdSt w3 g2 gt g8 t1 ⟨0, 0, 0, 0, 0, [], [], 0⟩ (.slice none 0 0) (.slice none 0 0) w6 from ⟨P.out.below hb, L2.out, (by rw [hg]; exact P.out.lt), blk_below K2.out hb, hbox, Kd.R_nil _ _ _ _ _, Kd.R_nil _ _ _ _ _⟩); clear P K2; have P := P6; clear P6 hb hbox hg; obtain ⟨y0_, y1_, y2_, y3_, y4_, y5_, y6_, y7_, yf0_, yf1_, yf2_, yf3_, yf4_, yf5_, yf6_, yf7_⟩ := cells8 P.out.k8))
        go_wp2_with (first | ((go_at_call 63); (refine (C2.out w3 gt _ (P.out.init (wrap64 x0)).hp).mono ?_); rintro e w7 ⟨rfl, hp, hk⟩; have n0_ := Aside0.mk ((P.out.init (wrap64 x0)).call hp hk); clear P hp hk; have P := n0_; clear n0_; clear y0_ yf0_ y1_ yf1_ y2_ yf2_ y3_ yf3_ y4_ yf4_ y5_ yf5_ y6_ yf6_ y7_ yf7_; have x1_ : w7.cell? ⟨g8, 1, none⟩ = some (.int .u32 0) := (blk_cell P.out.k8 1).trans rfl; have xf1_ := blk_frozen P.out.k8 1; have x2_ : w7.cell? ⟨g8, 2, none⟩ = some (.int .u32 0) := (blk_cell P.out.k8 2).trans rfl; have xf2_ := blk_frozen P.out.k8 2; have x3_ : w7.cell? ⟨g8, 3, none⟩ = some (.int .u32 0) := (blk_cell P.out.k8 3).trans rfl; have xf3_ := blk_frozen P.out.k8 3; have x4_ : w7.cell? ⟨g8, 4, none⟩ = some (.int .u32 0) := (blk_cell P.out.k8 4).trans rfl; have xf4_ := blk_frozen P.out.k8 4))
        go_wp2_with (first | ((go_at_call 62); (refine (C3.out w3 gt _ (P.out.img d0).hp).mono ?_); rintro e w8 ⟨rfl, hp, hk⟩; have n0_ := Aside0.mk ((P.out.img d0).call hp hk); clear P hp hk; have P := n0_; clear n0_; clear x1_ xf1_ x2_ xf2_ x3_ xf3_ x4_ xf4_; have x7_ : w8.cell? ⟨g8, 7, none⟩ = some (.int .i64 0) := (blk_cell P.out.k8 7).trans rfl; have xf7_ := blk_frozen P.out.k8 7))
        go_wp2_with (first | ((go_at_call 64); (refine (C4.out w3 gt _ (P.out.fuel (wrap64 xf)).hp).mono ?_); rintro e w9 ⟨rfl, hp, hk⟩; have n0_ := Aside0.mk ((P.out.fuel (wrap64 xf)).call hp hk); clear P hp hk; have P := n0_; clear n0_; clear x7_ xf7_))
        go_loopg [45] N (fun kq v45 w' => ∃ (j : Nat) (Ap : Option Addr) (cp : Nat), v45 = .int .i64 (j : Int) ∧ Aside0 (j + kq = N) ∧ Aside0 (RdSt w3 g2 gt g8 (t4.psN j).2 ⟨wrap64 x0, d0.f0, d0.f1, d0.f2, d0.f3, (t4.psN j).1, [], wrap64 xf⟩ (.slice Ap (t4.psN j).1.length cp) (.slice none 0 0) w'))
        case atStart => exact ⟨0, none, 0, by first | rfl | (simp; done), ⟨by omega⟩, P⟩
        case round =>
          clear P
          obtain ⟨j, Ap, cp, rfl, HA, P⟩ := hrel
          by_cases hj : j < N
          · obtain ⟨kp, rfl⟩ : ∃ kp, gk = kp + 1 := ⟨gk - 1, by have := HA.out; omega⟩
            have c46 : decide ((j : Int) < (N : Int)) = true := decide_eq_true (by omega)
            have c46n : decide (j < N) = true := decide_eq_true hj
            have hwj : wrap64 ((j : Int) + 1) = (j : Int) + 1 := by have := HN.out; unfold wrap64; omega
            have HJ := Aside0.mk hj
            clear hj
            go_wp2
            obtain ⟨tj, htj⟩ : ∃ t, t = (t4.psN j).2 := ⟨_, rfl⟩
            obtain ⟨pj, hpj⟩ : ∃ l, l = (t4.psN j).1 := ⟨_, rfl⟩
            rw [← htj, ← hpj] at P
            have HTJ := Aside0.mk htj
            have HPJ := Aside0.mk hpj
            have HLJ := Aside0.mk (show pj.length = j by rw [hpj]; exact Tk.psN_length t4 j)
            clear htj hpj
            have n0_ := Aside0.mk P.out.drew
            clear P
            have P := n0_
            clear n0_
            refine start_ (n := 9) (S := fun w' => w'.heap[g8]? = some (.cells (recCells ⟨wrap64 x0, d0.f0, d0.f1, d0.f2, d0.f3, pj, [], wrap64 xf⟩ (.slice Ap pj.length cp) (.slice none 0 0)) 46 (0, 0))) (ds := [8]) #[false, false, false, false, false, false, false, false, false] (by kernel_rfl) rfl rfl P.out.k8 (fun hHeld => ?_)
            refine pure_ (i := 0) (N := (some 47)) (v := ?_) (a' := ?_) #[true, false, false, false, false, false, false, false, false] rfl rfl (by kernel_rfl) (fun _ _ _ h => h) (Or.inl ⟨by rfl, ?_⟩) ?_ ?_
            rotate_left
            · intro w'
              go_simp
              with_reducible rfl
            rotate_left
            · simp only [Act.put, List.setIfInBounds_toArray, List.set_cons_zero, List.set_cons_succ, i64_w, i32_w]
              rfl
            refine pure_ (i := 2) (N := (some 49)) (v := ?_) (a' := ?_) #[true, false, true, false, false, false, false, false, false] rfl rfl (by kernel_rfl) (fun _ _ _ h => h) (Or.inl ⟨by rfl, ?_⟩) ?_ ?_
            rotate_left
            · intro w'
              go_simp
              with_reducible rfl
            rotate_left
            · simp only [Act.put, List.setIfInBounds_toArray, List.set_cons_zero, List.set_cons_succ, i64_w, i32_w]
              rfl
            refine take_ (i := 1) (N := (some 48)) (v := ?_) (a' := ?_) #[true, true, true, false, false, false, false, false, false] rfl rfl (by kernel_rfl) (fun _ _ _ h => h) (Or.inl ⟨by rfl, ?_⟩) hHeld ?_ ?_
            rotate_left
            · intro w' hS_
              have cz_ : w'.cell? ⟨g8, 5, none⟩ = some (Value.slice Ap pj.length cp) := (blk_cell hS_ 5).trans rfl
              go_simp
              with_reducible rfl
            rotate_left
            · simp only [Act.put, List.setIfInBounds_toArray, List.set_cons_zero, List.set_cons_succ, i64_w, i32_w]
              rfl
            refine one_ (i := 3) (N := (some 50)) #[true, true, true, true, false, false, false, false, false] rfl rfl (by kernel_rfl) (by decide) (fun K hK => ?_)
            refine goesM_ (.pointer (some ⟨gt, 0, none⟩)) Tryd.func62 (by kernel_rfl) rfl (by rfl) rfl rfl (by rfl) ?_
            refine (word_calls w3 gt tj _ P.out.hp).mono ?_
            rintro e w10 ⟨rfl, hp, hk⟩
            refine ⟨_, rfl, ?_⟩
            have n0_ := Aside0.mk (P.out.call hp hk)
            clear P hp hk
            have P := n0_
            clear n0_
            refine hK.out _ _ P.out.k8 (fun hHeld => ?_)
            clear hK K
            refine norm_ (a' := ?_) ?_ ?_
            rotate_left
            · show Act.put _ (some 50) _ = _
              simp only [Act.put, List.setIfInBounds_toArray, List.set_cons_zero, List.set_cons_succ, i64_w, i32_w]
              rfl
            refine pure_ (i := 4) (N := (some 51)) (v := ?_) (a' := ?_) #[true, true, true, true, true, false, false, false, false] rfl rfl (by kernel_rfl) (fun _ _ _ h => h) (Or.inl ⟨by rfl, ?_⟩) ?_ ?_
            rotate_left
            · intro w'
              go_simp
              with_reducible rfl
            rotate_left
            · simp only [Act.put, List.setIfInBounds_toArray, List.set_cons_zero, List.set_cons_succ, i64_w, i32_w]
              rfl
            refine one_ (i := 5) (N := (some 52)) #[true, true, true, true, true, true, false, false, false] rfl rfl (by kernel_rfl) (by decide) (fun K hK => ?_)
            refine Kd.R_lit_step (Kd.int .i64) _ 3 ?hg (N := 52) ?hd (xs := ([wrap64 tj.w.1] : List Int)) (inner := [.int .i64 (wrap64 tj.w.1)]) (ok := fun _ => True) (okp := fun _ => True) ?hr ?hp (fun _ hk => hk) trivial (Below.refl _ _) (Nat.le_refl _) (by simp) ?_; (case hd => rfl); (case hg => rfl); (case hr => first | (go_simp; done) | (go_simp; rfl)); (case hp => exact (Reps.one (show Kd.M (Kd.int .i64) _ _ _ (wrap64 tj.w.1) [.int .i64 (wrap64 tj.w.1)] from rfl) (Reps.none _ _)))
            intro v52 w11 ho hb hg_ hnew_
            clear hg_ hnew_
            have n0_ := Aside0.mk (P.out.below hb)
            have HOa := Aside0.mk ho
            clear P ho hb
            have P := n0_
            clear n0_
            obtain ⟨Aoa, coa, eoa⟩ := Kd.R_slice HOa.out
            subst eoa
            refine hK.out _ _ P.out.k8 (fun hHeld => ?_)
            clear hK K
            refine norm_ (a' := ?_) ?_ ?_
            rotate_left
            · show Act.put _ (some 52) _ = _
              simp only [Act.put, List.setIfInBounds_toArray, List.set_cons_zero, List.set_cons_succ, i64_w, i32_w]
              rfl
            refine one_ (i := 6) (N := (some 53)) #[true, true, true, true, true, true, true, false, false] rfl rfl (by kernel_rfl) (by decide) (fun K hK => ?_)
            refine Kd.R_append_rows_step (Kd.int .i64) (Rr := fun (x : Int) (cs : List Value) => cs = [Value.int .i64 x]) (w0 := w3) w3.heap.size ?hw (.tmp 48) (.tmp 52) 43 3 (.int .i64 0) 8 rfl Tryd.underlying43 info3 rfl (by decide) (by omega) (.slice Ap pj.length cp) pj [wrap64 tj.w.1] Aoa 1 coa (okR g2 gt g8) (fun _ => False) rfl rfl P.out.rP (Kd.R_reads' HOa.out).2.2 (fun _ _ h => h) (fun _ h => h.elim) P.out.fresh P.out.hp.hb P.out.hp.hb.size (by have := HLJ.out; have := HJ.out; have := HN.out; omega) ?_; (case hw => rfl)
            intro v1 w12 ho hb hg hat
            obtain ⟨A1, c1, e1⟩ := Kd.R_slice ho
            subst e1
            obtain ⟨pj', el_⟩ : ∃ l : List Int, l = pj ++ [wrap64 tj.w.1] := ⟨_, rfl⟩
            rw [← el_] at ho ⊢
            have EL := Aside0.mk el_
            have NO := Aside0.mk ho
            have NB := Aside0.mk hb
            have NG := Aside0.mk hg
            clear ho hb hg hat el_ HOa
            refine hK.out _ _ (blk_grown P.out.k8 NG.out (Kd.R_away P.out.rP (fun k ho => ho.2.2))) (fun hHeld => ?_)
            clear hK K
            refine norm_ (a' := ?_) ?_ ?_
            rotate_left
            · show Act.put _ (some 53) _ = _
              simp only [Act.put, List.setIfInBounds_toArray, List.set_cons_zero, List.set_cons_succ, i64_w, i32_w]
              rfl
            refine pure_ (i := 7) (N := (some 54)) (v := ?_) (a' := ?_) #[true, true, true, true, true, true, true, true, false] rfl rfl (by kernel_rfl) (fun _ _ _ h => h) (Or.inl ⟨by rfl, ?_⟩) ?_ ?_
            rotate_left
            · intro w'
              go_simp
              with_reducible rfl
            rotate_left
            · simp only [Act.put, List.setIfInBounds_toArray, List.set_cons_zero, List.set_cons_succ, i64_w, i32_w]
              rfl
            refine last_ (i := 8) (N := none) #[true, true, true, true, true, true, true, true, true] rfl rfl (by kernel_rfl) (by decide) (fun K hK => ?_)
            have cz_ : _ = some (Value.slice Ap pj.length cp) := (blk_cell hHeld 5).trans rfl
            have fz_ := blk_frozen hHeld 5
            refine store1 (w1 := ?w1_13) ?hg ?hN ?hr ?_; (case hg => rfl); (case hN => rfl); (case hr => first | (go_simp; done) | (go_simp; rfl))
            refine hK.out _ _ ?_
            clear hK K cz_ fz_
            refine done_ (by kernel_rfl) ?_
            clear hHeld
            refine gen_q (fun w' => RdSt w3 g2 gt g8 tj.w.2 ⟨wrap64 x0, d0.f0, d0.f1, d0.f2, d0.f3, pj', [], wrap64 xf⟩ (.slice A1 pj'.length c1) (.slice none 0 0) w') (P.out.passes NG.out NB.out NO.out) ?_
            intro w13 hp
            clear P
            have P := Aside0.mk hp
            clear hp NG NB NO
            go_wp2
            go_roundg kp
            case measure => omega
            case rel =>
              have e1 : pj' = (t4.psN (j + 1)).1 := by rw [EL.out, HTJ.out, HPJ.out]; rfl
              have e2 : tj.w.2 = (t4.psN (j + 1)).2 := by rw [HTJ.out]; rfl
              have p := P.out
              rw [e1, e2] at p
              exact ⟨j + 1, A1, c1, by first | rfl | (simp; done) | go_num, ⟨by have := HA.out; omega⟩, ⟨p⟩⟩
          · have hje : j = N := by have := HA.out; omega
            have c46 : decide ((j : Int) < (N : Int)) = false := decide_eq_false (by omega)
            have c46n : decide (j < N) = false := decide_eq_false (by omega)
            rw [hje] at P
            clear HA hj hje
            obtain ⟨pN, hpN⟩ : ∃ l, l = (t4.psN N).1 := ⟨_, rfl⟩
            rw [← hpN] at P HLL
            have HPN := Aside0.mk hpN
            clear hpN
            go_wp2_with (first | ((go_at_call 64); (refine (C5.out w3 gt _ (P.out).hp).mono ?_); rintro e w14 ⟨rfl, hp, hk⟩; have n0_ := Aside0.mk ((P.out).call hp hk); clear P hp hk; have P := n0_; clear n0_))
            clear c46 c46n C1 C2 C3 C4 C5
            go_loopg [58] M (fun kq v58 w' => ∃ (i : Nat) (Ai : Option Addr) (ci : Nat), v58 = .int .i64 (i : Int) ∧ Aside0 (i + kq = M) ∧ Aside0 (RdSt w3 g2 gt g8 (t6.dsN i).2 ⟨wrap64 x0, d0.f0, d0.f1, d0.f2, d0.f3, pN, (t6.dsN i).1, wrap64 xf⟩ (.slice Ap pN.length cp) (.slice Ai (t6.dsN i).1.length ci) w'))
            case atStart => exact ⟨0, none, 0, by first | rfl | (simp; done), ⟨by omega⟩, P⟩
            case round =>
              clear P
              obtain ⟨i, Ai, ci, rfl, HA, P⟩ := hrel
              by_cases hj : i < M
              · obtain ⟨kp, rfl⟩ : ∃ kp, gk = kp + 1 := ⟨gk - 1, by have := HA.out; omega⟩
                have c59 : decide ((i : Int) < (M : Int)) = true := decide_eq_true (by omega)
                have c59n : decide (i < M) = true := decide_eq_true hj
                have hwj : wrap64 ((i : Int) + 1) = (i : Int) + 1 := by have := HM.out; unfold wrap64; omega
                have HJ := Aside0.mk hj
                clear hj
                go_wp2
                obtain ⟨tj, htj⟩ : ∃ t, t = (t6.dsN i).2 := ⟨_, rfl⟩
                obtain ⟨dj, hdj⟩ : ∃ l, l = (t6.dsN i).1 := ⟨_, rfl⟩
                rw [← htj, ← hdj] at P
                have HTJ := Aside0.mk htj
                have HDJ := Aside0.mk hdj
                have HLJ := Aside0.mk (show dj.length = i by rw [hdj]; exact Tk.dsN_length t6 i)
                clear htj hdj
                have CD := Aside0.mk (digest_calls w3 gt tj _ P.out.drew.hp)
                obtain ⟨⟨dg, tk'⟩, hdg⟩ : ∃ p, tj.d = p := ⟨_, rfl⟩
                rw [hdg] at CD
                have HDG := Aside0.mk hdg
                clear hdg
                have n0_ := Aside0.mk P.out.drew
                clear P
                have P := n0_
                clear n0_
                refine start_ (n := 8) (S := fun w' => w'.heap[g8]? = some (.cells (recCells ⟨wrap64 x0, d0.f0, d0.f1, d0.f2, d0.f3, pN, dj, wrap64 xf⟩ (.slice Ap pN.length cp) (.slice Ai dj.length ci)) 46 (0, 0))) (ds := [7]) #[false, false, false, false, false, false, false, false] (by kernel_rfl) rfl rfl P.out.k8 (fun hHeld => ?_)
                refine pure_ (i := 0) (N := (some 60)) (v := ?_) (a' := ?_) #[true, false, false, false, false, false, false, false] rfl rfl (by kernel_rfl) (fun _ _ _ h => h) (Or.inl ⟨by rfl, ?_⟩) ?_ ?_
                rotate_left
                · intro w'
                  go_simp
                  with_reducible rfl
                rotate_left
                · simp only [Act.put, List.setIfInBounds_toArray, List.set_cons_zero, List.set_cons_succ, i64_w, i32_w]
                  rfl
                refine pure_ (i := 2) (N := (some 62)) (v := ?_) (a' := ?_) #[true, false, true, false, false, false, false, false] rfl rfl (by kernel_rfl) (fun _ _ _ h => h) (Or.inl ⟨by rfl, ?_⟩) ?_ ?_
                rotate_left
                · intro w'
                  go_simp
                  with_reducible rfl
                rotate_left
                · simp only [Act.put, List.setIfInBounds_toArray, List.set_cons_zero, List.set_cons_succ, i64_w, i32_w]
                  rfl
                refine take_ (i := 1) (N := (some 61)) (v := ?_) (a' := ?_) #[true, true, true, false, false, false, false, false] rfl rfl (by kernel_rfl) (fun _ _ _ h => h) (Or.inl ⟨by rfl, ?_⟩) hHeld ?_ ?_
                rotate_left
                · intro w' hS_
                  have cz_ : w'.cell? ⟨g8, 6, none⟩ = some (Value.slice Ai dj.length ci) := (blk_cell hS_ 6).trans rfl
                  go_simp
                  with_reducible rfl
                rotate_left
                · simp only [Act.put, List.setIfInBounds_toArray, List.set_cons_zero, List.set_cons_succ, i64_w, i32_w]
                  rfl
                refine one_ (i := 3) (N := (some 63)) #[true, true, true, true, false, false, false, false] rfl rfl (by kernel_rfl) (by decide) (fun K hK => ?_)
                refine goes_ Tryd.func63 (by kernel_rfl) rfl #[.pointer (some ⟨gt, 0, none⟩)] (by rfl) rfl rfl (by (try simp only [List.map_toArray, List.map_cons, List.map_nil]); first | done | rfl) ?_
                refine CD.out.mono ?_
                rintro e w15 ⟨rfl, hp, hk⟩
                refine ⟨_, rfl, ?_⟩
                have n0_ := Aside0.mk (P.out.call hp hk)
                clear P hp hk CD
                have P := n0_
                clear n0_
                refine hK.out _ _ P.out.k8 (fun hHeld => ?_)
                clear hK K
                refine norm_ (a' := ?_) ?_ ?_
                rotate_left
                · show Act.put _ (some 63) _ = _
                  simp only [Act.put, List.setIfInBounds_toArray, List.set_cons_zero, List.set_cons_succ, i64_w, i32_w]
                  rfl
                refine one_ (i := 4) (N := (some 64)) #[true, true, true, true, true, false, false, false] rfl rfl (by kernel_rfl) (by decide) (fun K hK => ?_)
                refine Kd.R_lit_step k24 _ 24 ?hg (N := 64) ?hd (xs := ([dg] : List S24)) (inner := [.int .u32 dg.f0, .int .u32 dg.f1, .int .u32 dg.f2, .int .u32 dg.f3]) (ok := fun _ => True) (okp := fun _ => True) ?hr ?hp (fun _ hk => hk) trivial (Below.refl _ _) (Nat.le_refl _) (by simp) ?_; (case hd => rfl); (case hg => rfl); (case hr => first | (go_simp; done) | (go_simp; rfl)); (case hp => exact Reps.c4 (k24_mkM _ _ _ dg) (Reps.none _ _))
                intro v64 w16 ho hb hg_ hnew_
                clear hg_ hnew_
                have n0_ := Aside0.mk (P.out.below hb)
                have HOa := Aside0.mk ho
                clear P ho hb
                have P := n0_
                clear n0_
                obtain ⟨Aoa, coa, eoa⟩ := Kd.R_slice HOa.out
                subst eoa
                refine hK.out _ _ P.out.k8 (fun hHeld => ?_)
                clear hK K
                refine norm_ (a' := ?_) ?_ ?_
                rotate_left
                · show Act.put _ (some 64) _ = _
                  simp only [Act.put, List.setIfInBounds_toArray, List.set_cons_zero, List.set_cons_succ, i64_w, i32_w]
                  rfl
                refine one_ (i := 5) (N := (some 65)) #[true, true, true, true, true, true, false, false] rfl rfl (by kernel_rfl) (by decide) (fun K hK => ?_)
                refine Kd.R_append_rows_step k24 (Rr := k24.K w16) (w0 := w3) w3.heap.size ?hw (.tmp 61) (.tmp 64) 44 24 (.agg #[.int .u32 0, .int .u32 0, .int .u32 0, .int .u32 0]) 16 rfl Tryd.underlying44 info24 rfl (by decide) (by omega) (.slice Ai dj.length ci) dj [dg] Aoa 1 coa (okR g2 gt g8) (fun _ => False) rfl rfl P.out.rI (Kd.R_reads' HOa.out).2.2 (fun x cs h => by have e := k24_open h; subst e; exact k24_mkM _ _ _ _) (fun _ h => h.elim) P.out.fresh P.out.hp.hb P.out.hp.hb.size (by have := HLJ.out; have := HJ.out; have := HM.out; omega) ?_; (case hw => rfl)
                intro v1 w17 ho hb hg hat
                obtain ⟨A1, c1, e1⟩ := Kd.R_slice ho
                subst e1
                obtain ⟨dj', el_⟩ : ∃ l : List S24, l = dj ++ [dg] := ⟨_, rfl⟩
                rw [← el_] at ho ⊢
                have EL := Aside0.mk el_
                have NO := Aside0.mk ho
                have NB := Aside0.mk hb
                have NG := Aside0.mk hg
                clear ho hb hg hat el_ HOa
                refine hK.out _ _ (blk_grown P.out.k8 NG.out (Kd.R_away P.out.rI (fun k ho => ho.2.2))) (fun hHeld => ?_)
                clear hK K
                refine norm_ (a' := ?_) ?_ ?_
                rotate_left
                · show Act.put _ (some 65) _ = _
                  simp only [Act.put, List.setIfInBounds_toArray, List.set_cons_zero, List.set_cons_succ, i64_w, i32_w]
                  rfl
                refine pure_ (i := 6) (N := (some 66)) (v := ?_) (a' := ?_) #[true, true, true, true, true, true, true, false] rfl rfl (by kernel_rfl) (fun _ _ _ h => h) (Or.inl ⟨by rfl, ?_⟩) ?_ ?_
                rotate_left
                · intro w'
                  go_simp
                  with_reducible rfl
                rotate_left
                · simp only [Act.put, List.setIfInBounds_toArray, List.set_cons_zero, List.set_cons_succ, i64_w, i32_w]
                  rfl
                refine last_ (i := 7) (N := none) #[true, true, true, true, true, true, true, true] rfl rfl (by kernel_rfl) (by decide) (fun K hK => ?_)
                have cz_ : _ = some (Value.slice Ai dj.length ci) := (blk_cell hHeld 6).trans rfl
                have fz_ := blk_frozen hHeld 6
                refine store1 (w1 := ?w1_17) ?hg ?hN ?hr ?_; (case hg => rfl); (case hN => rfl); (case hr => first | (go_simp; done) | (go_simp; rfl))
                refine hK.out _ _ ?_
                clear hK K cz_ fz_
                refine done_ (by kernel_rfl) ?_
                clear hHeld
                refine gen_q (fun w' => RdSt w3 g2 gt g8 tk' ⟨wrap64 x0, d0.f0, d0.f1, d0.f2, d0.f3, pN, dj', wrap64 xf⟩ (.slice Ap pN.length cp) (.slice A1 dj'.length c1) w') (P.out.inputs NG.out NB.out NO.out) ?_
                intro w18 hp
                clear P
                have P := Aside0.mk hp
                clear hp NG NB NO
                go_wp2
                go_roundg kp
                case measure => omega
                case rel =>
                  have e1 : dj' = (t6.dsN (i + 1)).1 := by
                    show dj' = (t6.dsN i).1 ++ [(t6.dsN i).2.d.1]
                    rw [EL.out, ← HTJ.out, ← HDJ.out, HDG.out]
                  have e2 : tk' = (t6.dsN (i + 1)).2 := by
                    show tk' = (t6.dsN i).2.d.2
                    rw [← HTJ.out, HDG.out]
                  have p := P.out
                  rw [e1, e2] at p
                  exact ⟨i + 1, A1, c1, by first | rfl | (simp; done) | go_num, ⟨by have := HA.out; omega⟩, ⟨p⟩⟩
              · have hje : i = M := by have := HA.out; omega
                have c59 : decide ((i : Int) < (M : Int)) = false := decide_eq_false (by omega)
                have c59n : decide (i < M) = false := decide_eq_false (by omega)
                rw [hje] at P
                clear HA hj hje
                obtain ⟨dM, hdM⟩ : ∃ l, l = (t6.dsN M).1 := ⟨_, rfl⟩
                obtain ⟨⟨xs, sh⟩, hTM⟩ : ∃ t, t = (t6.dsN M).2 := ⟨_, rfl⟩
                rw [← hdM, ← hTM] at P HLL
                clear hdM hTM
                obtain ⟨Ax, cx, kx, rx⟩ := P.out.hp.kt
                have q0_ : wr.cell? ⟨gt, 0, none⟩ = some (.slice Ax xs.length cx) := (blk_cell kx 0).trans rfl
                have q1_ : wr.cell? ⟨gt, 1, none⟩ = some (.bool sh) := (blk_cell kx 1).trans rfl
                clear kx rx
                have HBR := Aside0.mk (below_step HB.out P.out.hp.hb)
                cases sh with
                | true =>
                  obtain ⟨rfl, rfl⟩ : rr = zeroR ∧ ee = 7 := by
                    have hh := HLL.out
                    rw [if_neg (by rintro ⟨h, _⟩; cases h)] at hh
                    simp only [Prod.mk.injEq] at hh
                    exact ⟨hh.1.symm, hh.2.symm⟩
                  clear HLL
                  obtain ⟨z0_, z1_, z2_, z3_, z4_, z5_, z6_, z7_, zf0_, zf1_, zf2_, zf3_, zf4_, zf5_, zf6_, zf7_⟩ := cells8 P.out.k2
                  go_wp2
                  refine bodyPost_ret (results_ct rfl _ _ g2 46 #[.int .i64 0, .int .u32 0, .int .u32 0, .int .u32 0, .int .u32 0, .slice none 0 0, .slice none 0 0, .int .i64 0] (0, 0) _ rfl (by (with_reducible repeat (first | refine blk_drewN ?_ _ | refine blk_drew ?_ | refine blk_alloc ?_ _)); refine blk_put (cs := #[.int .i64 0, .int .u32 0, .int .u32 0, .int .u32 0, .int .u32 0, .slice none 0 0, .slice none 0 0, .int .i64 0]) ?_ 7 _ rfl; (with_reducible repeat (first | refine blk_drewN ?_ _ | refine blk_drew ?_ | refine blk_alloc ?_ _)); refine blk_put (cs := #[.int .i64 0, .int .u32 0, .int .u32 0, .int .u32 0, .int .u32 0, .slice none 0 0, .slice none 0 0, .int .i64 0]) ?_ 6 _ rfl; (with_reducible repeat (first | refine blk_drewN ?_ _ | refine blk_drew ?_ | refine blk_alloc ?_ _)); refine blk_put (cs := #[.int .i64 0, .int .u32 0, .int .u32 0, .int .u32 0, .int .u32 0, .slice none 0 0, .slice none 0 0, .int .i64 0]) ?_ 5 _ rfl; (with_reducible repeat (first | refine blk_drewN ?_ _ | refine blk_drew ?_ | refine blk_alloc ?_ _)); refine blk_put (cs := #[.int .i64 0, .int .u32 0, .int .u32 0, .int .u32 0, .int .u32 0, .slice none 0 0, .slice none 0 0, .int .i64 0]) ?_ 4 _ rfl; (with_reducible repeat (first | refine blk_drewN ?_ _ | refine blk_drew ?_ | refine blk_alloc ?_ _)); refine blk_put (cs := #[.int .i64 0, .int .u32 0, .int .u32 0, .int .u32 0, .int .u32 0, .slice none 0 0, .slice none 0 0, .int .i64 0]) ?_ 3 _ rfl; (with_reducible repeat (first | refine blk_drewN ?_ _ | refine blk_drew ?_ | refine blk_alloc ?_ _)); refine blk_put (cs := #[.int .i64 0, .int .u32 0, .int .u32 0, .int .u32 0, .int .u32 0, .slice none 0 0, .slice none 0 0, .int .i64 0]) ?_ 2 _ rfl; (with_reducible repeat (first | refine blk_drewN ?_ _ | refine blk_drew ?_ | refine blk_alloc ?_ _)); refine blk_put (cs := #[.int .i64 0, .int .u32 0, .int .u32 0, .int .u32 0, .int .u32 0, .slice none 0 0, .slice none 0 0, .int .i64 0]) ?_ 1 _ rfl; (with_reducible repeat (first | refine blk_drewN ?_ _ | refine blk_drew ?_ | refine blk_alloc ?_ _)); refine blk_put (cs := #[.int .i64 0, .int .u32 0, .int .u32 0, .int .u32 0, .int .u32 0, .slice none 0 0, .slice none 0 0, .int .i64 0]) ?_ 0 _ rfl; (with_reducible repeat (first | refine blk_drewN ?_ _ | refine blk_drew ?_ | refine blk_alloc ?_ _)); exact P.out.k2) Tryd.underlying46 rfl (by kernel_rfl)) rfl ?_
                  exact ⟨_, _, rfl, Kd.R_nil _ _ _ _ _, Kd.R_nil _ _ _ _ _, (by repeat (first | (with_reducible first | exact HBR.out | refine below_set ?_ G2.out) | exact HBR.out))⟩
                | false =>
                  by_cases hxs : xs = []
                  rotate_left
                  · have hpos : 0 < xs.length := List.length_pos_iff.2 hxs
                    have c77 : decide ((0 : Int) < (xs.length : Int)) = true := decide_eq_true (by omega)
                    have c77n : decide (0 < xs.length) = true := decide_eq_true hpos
                    have c77g : decide ((xs.length : Int) > 0) = true := decide_eq_true (by omega)
                    obtain ⟨rfl, rfl⟩ : rr = zeroR ∧ ee = 7 := by
                      have hh := HLL.out
                      rw [if_neg (by rintro ⟨_, h, _⟩; exact hxs h)] at hh
                      simp only [Prod.mk.injEq] at hh
                      exact ⟨hh.1.symm, hh.2.symm⟩
                    clear HLL
                    obtain ⟨z0_, z1_, z2_, z3_, z4_, z5_, z6_, z7_, zf0_, zf1_, zf2_, zf3_, zf4_, zf5_, zf6_, zf7_⟩ := cells8 P.out.k2
                    go_wp2
                    refine bodyPost_ret (results_ct rfl _ _ g2 46 #[.int .i64 0, .int .u32 0, .int .u32 0, .int .u32 0, .int .u32 0, .slice none 0 0, .slice none 0 0, .int .i64 0] (0, 0) _ rfl (by (with_reducible repeat (first | refine blk_drewN ?_ _ | refine blk_drew ?_ | refine blk_alloc ?_ _)); refine blk_put (cs := #[.int .i64 0, .int .u32 0, .int .u32 0, .int .u32 0, .int .u32 0, .slice none 0 0, .slice none 0 0, .int .i64 0]) ?_ 7 _ rfl; (with_reducible repeat (first | refine blk_drewN ?_ _ | refine blk_drew ?_ | refine blk_alloc ?_ _)); refine blk_put (cs := #[.int .i64 0, .int .u32 0, .int .u32 0, .int .u32 0, .int .u32 0, .slice none 0 0, .slice none 0 0, .int .i64 0]) ?_ 6 _ rfl; (with_reducible repeat (first | refine blk_drewN ?_ _ | refine blk_drew ?_ | refine blk_alloc ?_ _)); refine blk_put (cs := #[.int .i64 0, .int .u32 0, .int .u32 0, .int .u32 0, .int .u32 0, .slice none 0 0, .slice none 0 0, .int .i64 0]) ?_ 5 _ rfl; (with_reducible repeat (first | refine blk_drewN ?_ _ | refine blk_drew ?_ | refine blk_alloc ?_ _)); refine blk_put (cs := #[.int .i64 0, .int .u32 0, .int .u32 0, .int .u32 0, .int .u32 0, .slice none 0 0, .slice none 0 0, .int .i64 0]) ?_ 4 _ rfl; (with_reducible repeat (first | refine blk_drewN ?_ _ | refine blk_drew ?_ | refine blk_alloc ?_ _)); refine blk_put (cs := #[.int .i64 0, .int .u32 0, .int .u32 0, .int .u32 0, .int .u32 0, .slice none 0 0, .slice none 0 0, .int .i64 0]) ?_ 3 _ rfl; (with_reducible repeat (first | refine blk_drewN ?_ _ | refine blk_drew ?_ | refine blk_alloc ?_ _)); refine blk_put (cs := #[.int .i64 0, .int .u32 0, .int .u32 0, .int .u32 0, .int .u32 0, .slice none 0 0, .slice none 0 0, .int .i64 0]) ?_ 2 _ rfl; (with_reducible repeat (first | refine blk_drewN ?_ _ | refine blk_drew ?_ | refine blk_alloc ?_ _)); refine blk_put (cs := #[.int .i64 0, .int .u32 0, .int .u32 0, .int .u32 0, .int .u32 0, .slice none 0 0, .slice none 0 0, .int .i64 0]) ?_ 1 _ rfl; (with_reducible repeat (first | refine blk_drewN ?_ _ | refine blk_drew ?_ | refine blk_alloc ?_ _)); refine blk_put (cs := #[.int .i64 0, .int .u32 0, .int .u32 0, .int .u32 0, .int .u32 0, .slice none 0 0, .slice none 0 0, .int .i64 0]) ?_ 0 _ rfl; (with_reducible repeat (first | refine blk_drewN ?_ _ | refine blk_drew ?_ | refine blk_alloc ?_ _)); exact P.out.k2) Tryd.underlying46 rfl (by kernel_rfl)) rfl ?_
                    exact ⟨_, _, rfl, Kd.R_nil _ _ _ _ _, Kd.R_nil _ _ _ _ _, (by repeat (first | (with_reducible first | exact HBR.out | refine below_set ?_ G2.out) | exact HBR.out))⟩
                  · subst hxs
                    have q0 : wr.cell? ⟨gt, 0, none⟩ = some (.slice Ax 0 cx) := q0_
                    clear q0_
                    have y0_ : wr.cell? ⟨g8, 0, none⟩ = some (.int .i64 (wrap64 x0)) := (blk_cell P.out.k8 0).trans rfl
                    have y1_ : wr.cell? ⟨g8, 1, none⟩ = some (.int .u32 d0.f0) := (blk_cell P.out.k8 1).trans rfl
                    have y2_ : wr.cell? ⟨g8, 2, none⟩ = some (.int .u32 d0.f1) := (blk_cell P.out.k8 2).trans rfl
                    have y3_ : wr.cell? ⟨g8, 3, none⟩ = some (.int .u32 d0.f2) := (blk_cell P.out.k8 3).trans rfl
                    have y4_ : wr.cell? ⟨g8, 4, none⟩ = some (.int .u32 d0.f3) := (blk_cell P.out.k8 4).trans rfl
                    have y5_ : wr.cell? ⟨g8, 5, none⟩ = some (.slice Ap pN.length cp) := (blk_cell P.out.k8 5).trans rfl
                    have y6_ : wr.cell? ⟨g8, 6, none⟩ = some (.slice Ai dM.length ci) := (blk_cell P.out.k8 6).trans rfl
                    have y7_ : wr.cell? ⟨g8, 7, none⟩ = some (.int .i64 (wrap64 xf)) := (blk_cell P.out.k8 7).trans rfl
                    by_cases hrt : (Rec.mk (wrap64 x0) d0.f0 d0.f1 d0.f2 d0.f3 pN dM (wrap64 xf)).right
                    rotate_left
                    · obtain ⟨rfl, rfl⟩ : rr = zeroR ∧ ee = 7 := by
                        have hh := HLL.out
                        rw [if_neg (by rintro ⟨_, _, h⟩; exact hrt h)] at hh
                        simp only [Prod.mk.injEq] at hh
                        exact ⟨hh.1.symm, hh.2.symm⟩
                      clear HLL
                      have HF := Aside0.mk (show recipe_Right.f 10 (wrap64 x0) d0.f0 d0.f1 d0.f2 d0.f3 pN dM (wrap64 xf) = some false by rw [right_of (wrap64 x0) d0.f0 d0.f1 d0.f2 d0.f3 pN dM (wrap64 xf) 6, decide_eq_false hrt])
                      go_wp2_with (first | ((go_at_call 42); (refine (recipe_Right.calls 10 (wrap64 x0) d0.f0 d0.f1 d0.f2 d0.f3 Ap cp pN Ai ci dM (wrap64 xf) false _ (Kd.R_reads' P.out.rP).2.2 (Kd.R_reads' P.out.rP).2.1 (Kd.R_reads' P.out.rI).2.2 (Kd.R_reads' P.out.rI).2.1 HF.out).mono ?_); rintro e w20 ⟨rfl, hb⟩; have n0_ := Aside0.mk (P.out.below hb); have n1_ := Aside0.mk (below_step HBR.out hb); clear P HBR hb; have P := n0_; have HBR := n1_; clear n0_ n1_; clear y0_ y1_ y2_ y3_ y4_ y5_ y6_ y7_; obtain ⟨z0_, z1_, z2_, z3_, z4_, z5_, z6_, z7_, zf0_, zf1_, zf2_, zf3_, zf4_, zf5_, zf6_, zf7_⟩ := cells8 P.out.k2))
                      refine bodyPost_ret (results_ct rfl _ _ g2 46 #[.int .i64 0, .int .u32 0, .int .u32 0, .int .u32 0, .int .u32 0, .slice none 0 0, .slice none 0 0, .int .i64 0] (0, 0) _ rfl (by (with_reducible repeat (first | refine blk_drewN ?_ _ | refine blk_drew ?_ | refine blk_alloc ?_ _)); refine blk_put (cs := #[.int .i64 0, .int .u32 0, .int .u32 0, .int .u32 0, .int .u32 0, .slice none 0 0, .slice none 0 0, .int .i64 0]) ?_ 7 _ rfl; (with_reducible repeat (first | refine blk_drewN ?_ _ | refine blk_drew ?_ | refine blk_alloc ?_ _)); refine blk_put (cs := #[.int .i64 0, .int .u32 0, .int .u32 0, .int .u32 0, .int .u32 0, .slice none 0 0, .slice none 0 0, .int .i64 0]) ?_ 6 _ rfl; (with_reducible repeat (first | refine blk_drewN ?_ _ | refine blk_drew ?_ | refine blk_alloc ?_ _)); refine blk_put (cs := #[.int .i64 0, .int .u32 0, .int .u32 0, .int .u32 0, .int .u32 0, .slice none 0 0, .slice none 0 0, .int .i64 0]) ?_ 5 _ rfl; (with_reducible repeat (first | refine blk_drewN ?_ _ | refine blk_drew ?_ | refine blk_alloc ?_ _)); refine blk_put (cs := #[.int .i64 0, .int .u32 0, .int .u32 0, .int .u32 0, .int .u32 0, .slice none 0 0, .slice none 0 0, .int .i64 0]) ?_ 4 _ rfl; (with_reducible repeat (first | refine blk_drewN ?_ _ | refine blk_drew ?_ | refine blk_alloc ?_ _)); refine blk_put (cs := #[.int .i64 0, .int .u32 0, .int .u32 0, .int .u32 0, .int .u32 0, .slice none 0 0, .slice none 0 0, .int .i64 0]) ?_ 3 _ rfl; (with_reducible repeat (first | refine blk_drewN ?_ _ | refine blk_drew ?_ | refine blk_alloc ?_ _)); refine blk_put (cs := #[.int .i64 0, .int .u32 0, .int .u32 0, .int .u32 0, .int .u32 0, .slice none 0 0, .slice none 0 0, .int .i64 0]) ?_ 2 _ rfl; (with_reducible repeat (first | refine blk_drewN ?_ _ | refine blk_drew ?_ | refine blk_alloc ?_ _)); refine blk_put (cs := #[.int .i64 0, .int .u32 0, .int .u32 0, .int .u32 0, .int .u32 0, .slice none 0 0, .slice none 0 0, .int .i64 0]) ?_ 1 _ rfl; (with_reducible repeat (first | refine blk_drewN ?_ _ | refine blk_drew ?_ | refine blk_alloc ?_ _)); refine blk_put (cs := #[.int .i64 0, .int .u32 0, .int .u32 0, .int .u32 0, .int .u32 0, .slice none 0 0, .slice none 0 0, .int .i64 0]) ?_ 0 _ rfl; (with_reducible repeat (first | refine blk_drewN ?_ _ | refine blk_drew ?_ | refine blk_alloc ?_ _)); exact P.out.k2) Tryd.underlying46 rfl (by kernel_rfl)) rfl ?_
                      exact ⟨_, _, rfl, Kd.R_nil _ _ _ _ _, Kd.R_nil _ _ _ _ _, (by repeat (first | (with_reducible first | exact HBR.out | refine below_set ?_ G2.out) | exact HBR.out))⟩
                    · obtain ⟨rfl, rfl⟩ : rr = ⟨wrap64 x0, d0.f0, d0.f1, d0.f2, d0.f3, pN, dM, wrap64 xf⟩ ∧ ee = 0 := by
                        have hh := HLL.out
                        rw [if_pos ⟨rfl, rfl, hrt⟩] at hh
                        simp only [Prod.mk.injEq] at hh
                        exact ⟨hh.1.symm, hh.2.symm⟩
                      clear HLL
                      have HF := Aside0.mk (show recipe_Right.f 10 (wrap64 x0) d0.f0 d0.f1 d0.f2 d0.f3 pN dM (wrap64 xf) = some true by rw [right_of (wrap64 x0) d0.f0 d0.f1 d0.f2 d0.f3 pN dM (wrap64 xf) 6, decide_eq_true hrt])
                      go_wp2_with (first | ((go_at_call 42); (refine (recipe_Right.calls 10 (wrap64 x0) d0.f0 d0.f1 d0.f2 d0.f3 Ap cp pN Ai ci dM (wrap64 xf) true _ (Kd.R_reads' P.out.rP).2.2 (Kd.R_reads' P.out.rP).2.1 (Kd.R_reads' P.out.rI).2.2 (Kd.R_reads' P.out.rI).2.1 HF.out).mono ?_); rintro e w20 ⟨rfl, hb⟩; have n0_ := Aside0.mk (P.out.below hb); have n1_ := Aside0.mk (below_step HBR.out hb); clear P HBR hb; have P := n0_; have HBR := n1_; clear n0_ n1_; clear y0_ y1_ y2_ y3_ y4_ y5_ y6_ y7_; obtain ⟨z0_, z1_, z2_, z3_, z4_, z5_, z6_, z7_, zf0_, zf1_, zf2_, zf3_, zf4_, zf5_, zf6_, zf7_⟩ := cells8 P.out.k2; have y0_ : w20.cell? ⟨g8, 0, none⟩ = some (.int .i64 (wrap64 x0)) := (blk_cell P.out.k8 0).trans rfl; have y1_ : w20.cell? ⟨g8, 1, none⟩ = some (.int .u32 d0.f0) := (blk_cell P.out.k8 1).trans rfl; have y2_ : w20.cell? ⟨g8, 2, none⟩ = some (.int .u32 d0.f1) := (blk_cell P.out.k8 2).trans rfl; have y3_ : w20.cell? ⟨g8, 3, none⟩ = some (.int .u32 d0.f2) := (blk_cell P.out.k8 3).trans rfl; have y4_ : w20.cell? ⟨g8, 4, none⟩ = some (.int .u32 d0.f3) := (blk_cell P.out.k8 4).trans rfl; have y5_ : w20.cell? ⟨g8, 5, none⟩ = some (.slice Ap pN.length cp) := (blk_cell P.out.k8 5).trans rfl; have y6_ : w20.cell? ⟨g8, 6, none⟩ = some (.slice Ai dM.length ci) := (blk_cell P.out.k8 6).trans rfl; have y7_ : w20.cell? ⟨g8, 7, none⟩ = some (.int .i64 (wrap64 xf)) := (blk_cell P.out.k8 7).trans rfl))
                      refine bodyPost_ret (results_ct rfl _ _ g2 46 #[.int .i64 (wrap64 x0), .int .u32 d0.f0, .int .u32 d0.f1, .int .u32 d0.f2, .int .u32 d0.f3, .slice Ap pN.length cp, .slice Ai dM.length ci, .int .i64 (wrap64 xf)] (0, 0) _ rfl (by (with_reducible repeat (first | refine blk_drewN ?_ _ | refine blk_drew ?_ | refine blk_alloc ?_ _)); refine blk_put (cs := #[.int .i64 (wrap64 x0), .int .u32 d0.f0, .int .u32 d0.f1, .int .u32 d0.f2, .int .u32 d0.f3, .slice Ap pN.length cp, .slice Ai dM.length ci, .int .i64 0]) ?_ 7 _ rfl; (with_reducible repeat (first | refine blk_drewN ?_ _ | refine blk_drew ?_ | refine blk_alloc ?_ _)); refine blk_put (cs := #[.int .i64 (wrap64 x0), .int .u32 d0.f0, .int .u32 d0.f1, .int .u32 d0.f2, .int .u32 d0.f3, .slice Ap pN.length cp, .slice none 0 0, .int .i64 0]) ?_ 6 _ rfl; (with_reducible repeat (first | refine blk_drewN ?_ _ | refine blk_drew ?_ | refine blk_alloc ?_ _)); refine blk_put (cs := #[.int .i64 (wrap64 x0), .int .u32 d0.f0, .int .u32 d0.f1, .int .u32 d0.f2, .int .u32 d0.f3, .slice none 0 0, .slice none 0 0, .int .i64 0]) ?_ 5 _ rfl; (with_reducible repeat (first | refine blk_drewN ?_ _ | refine blk_drew ?_ | refine blk_alloc ?_ _)); refine blk_put (cs := #[.int .i64 (wrap64 x0), .int .u32 d0.f0, .int .u32 d0.f1, .int .u32 d0.f2, .int .u32 0, .slice none 0 0, .slice none 0 0, .int .i64 0]) ?_ 4 _ rfl; (with_reducible repeat (first | refine blk_drewN ?_ _ | refine blk_drew ?_ | refine blk_alloc ?_ _)); refine blk_put (cs := #[.int .i64 (wrap64 x0), .int .u32 d0.f0, .int .u32 d0.f1, .int .u32 0, .int .u32 0, .slice none 0 0, .slice none 0 0, .int .i64 0]) ?_ 3 _ rfl; (with_reducible repeat (first | refine blk_drewN ?_ _ | refine blk_drew ?_ | refine blk_alloc ?_ _)); refine blk_put (cs := #[.int .i64 (wrap64 x0), .int .u32 d0.f0, .int .u32 0, .int .u32 0, .int .u32 0, .slice none 0 0, .slice none 0 0, .int .i64 0]) ?_ 2 _ rfl; (with_reducible repeat (first | refine blk_drewN ?_ _ | refine blk_drew ?_ | refine blk_alloc ?_ _)); refine blk_put (cs := #[.int .i64 (wrap64 x0), .int .u32 0, .int .u32 0, .int .u32 0, .int .u32 0, .slice none 0 0, .slice none 0 0, .int .i64 0]) ?_ 1 _ rfl; (with_reducible repeat (first | refine blk_drewN ?_ _ | refine blk_drew ?_ | refine blk_alloc ?_ _)); refine blk_put (cs := #[.int .i64 0, .int .u32 0, .int .u32 0, .int .u32 0, .int .u32 0, .slice none 0 0, .slice none 0 0, .int .i64 0]) ?_ 0 _ rfl; (with_reducible repeat (first | refine blk_drewN ?_ _ | refine blk_drew ?_ | refine blk_alloc ?_ _)); exact P.out.k2) Tryd.underlying46 rfl (by kernel_rfl)) rfl ?_
                      exact ⟨_, _, rfl, R_far8 P.out.rP (fun k ho => ho.1) HB.out.size _ _ _ _ _ _ _ _, R_far8 P.out.rI (fun k ho => ho.1) HB.out.size _ _ _ _ _ _ _ _, (by repeat (first | (with_reducible first | exact HBR.out | refine below_set ?_ G2.out) | exact HBR.out))⟩
theorem recipe_Read.calls (a0 : ByteArray) (r1 : Int) (r2 : Int) (r3 : Int) (r4 : Int) (r5 : Int) (r6 : List Int) (r7 : List (S24)) (r8 : Int) (r9 : Int) (w : World) (h : recipe_Read.f a0 = some (r1, r2, r3, r4, r5, r6, r7, r8, r9)) :
    Calls Tryd.prog 38 #[.string a0] w fun e w' => ∃ v5_ v6_ : Value, e = .returned (.tuple #[.agg #[.int .i64 r1, .int .u32 r2, .int .u32 r3, .int .u32 r4, .int .u32 r5, v5_, v6_, .int .i64 r8], .int .i64 r9]) ∧ Kd.R (Kd.int .i64) 3 w' w.heap.size (fun _ => True) v5_ r6 ∧ Kd.R k24 24 w' w.heap.size (fun _ => True) v6_ r7 ∧ Below w.heap.size w w' := by
  unfold recipe_Read.f at h
  split at h
  · rename_i hsz
    have e := Option.some.inj h
    simp only [Prod.mk.injEq] at e
    obtain ⟨rfl, rfl, rfl, rfl, rfl, rfl, rfl, rfl, rfl⟩ := e
    exact read_calls a0 (readS a0).1 (readS a0).2 w hsz rfl
  · cases h


end Go.Proofs.YthimgiphlenjdaaDoor.PI
