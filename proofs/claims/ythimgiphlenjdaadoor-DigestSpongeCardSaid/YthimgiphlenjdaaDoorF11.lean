/- Contracts of the Go functions of this seat, each over a Lean function of the same answers; written by a program of this session's. -/
import Derived.Test.YthimgiphlenjdaaDoorPIx0
import Derived.Test.YthimgiphlenjdaaDoorHWords
import Derived.Test.YthimgiphlenjdaaDoorHMix
import Derived.Test.YthimgiphlenjdaaDoorHConv
import Derived.Test.YthimgiphlenjdaaDoorPureSpA
import Derived.Test.YthimgiphlenjdaaDoorGc
import Derived.Test.YthimgiphlenjdaaDoorF21
import Derived.Test.YthimgiphlenjdaaDoorF30
namespace Go.Proofs.YthimgiphlenjdaaDoor.PI
open Go.RowKit Go.Proofs.YthimgiphlenjdaaDoorW.PrintWords Go.Proofs.YthimgiphlenjdaaDoorW.PrintLast Go.Proofs.YthimgiphlenjdaaDoorW.PrintMore
attribute [local go_sem] max2_int min2_int max_two min_two max_three min_three max_four min_four   -- for this text's walks alone
open HX
set_option linter.unusedVariables false
set_option linter.unusedSimpArgs false

/-! ### seedcornlaw03_DigestSponge: function 11 -/
-- import HMix
-- import HConv
-- import PureSpA
attribute [local go_sem high] eqA24
def seedcornlaw03_DigestSponge.f (a0 : ByteArray) : Option Bool := some true
set_option maxHeartbeats 8000000 in
set_option maxRecDepth 100000 in
theorem seedcornlaw03_DigestSponge.calls (a0 : ByteArray) (r : Bool) (w : World) (h : seedcornlaw03_DigestSponge.f a0 = some r) (htb_ : Tab w) :
    Calls Tryd.prog 11 #[.string a0] w fun e w' => e = .returned (.bool r) ∧ Below w.heap.size w w' := by
  obtain rfl : true = r := Option.some.inj h
  have HTB := Aside0.mk htb_
  clear h htb_
  have HB := Aside0.mk (Below.refl w.heap.size w)
  by_cases hbig : a0.size > 300
  · have c1 : decide ((a0.size : Int) > 300) = true := decide_eq_true (by omega)
    have c2 : decide ((300 : Int) < (a0.size : Int)) = true := decide_eq_true (by omega)
    clear hbig
    go_enter Tryd.func11, Tryd.ntmps11
    go_wp2_with ((go_at_call 21); (with_reducible refine (seedcornlaw03_awake.calls true _ seedcornlaw03_awake.is HTB.out).mono ?_); rintro e w1 ⟨rfl, hb⟩)
    have HB1 := Aside0.mk hb
    clear hb
    go_wp2
    go_ret
    exact ⟨rfl, HB1.out⟩
  · have hs3 : a0.size ≤ 300 := by omega
    have HS3 := Aside0.mk hs3
    have c1 : decide ((a0.size : Int) > 300) = false := decide_eq_false (by omega)
    have c2 : decide ((300 : Int) < (a0.size : Int)) = false := decide_eq_false (by omega)
    have c3 : (9223372036854775807 < a0.size + 1) = False := eq_false (by omega)
    have hn0 : (0 : Int) ≤ (a0.size : Int) := by omega
    have hn1 : (a0.size : Int) ≤ 300 := by omega
    have kb := fun W => print_bytes (P := Tryd.prog) 9 41 5 Tryd.underlying9 Tryd.underlying41 Tryd.underlying5 (a0 ++ (⟨#[128]⟩ : ByteArray)) W
    have HSZ := Aside0.mk (show (a0 ++ (⟨#[128]⟩ : ByteArray)).size = a0.size + 1 by rw [ByteArray.size_append]; rfl)
    have HBY := Aside0.mk (show bytesOf (a0 ++ (⟨#[128]⟩ : ByteArray)) = bytesOf a0 ++ 128 :: List.replicate 0 0 by rw [bytesOf_app]; rfl)
    clear hbig hs3
    go_enter Tryd.func11, Tryd.ntmps11
    go_wp2_with (first | ((with_reducible refine gate_dst (N := 17) rfl ?_); refine convC_event ?hg (N := 17) ?hd w.heap.size (a0 ++ (⟨#[128]⟩ : ByteArray)) (a0.size + 1) HSZ.out (by rw [HSZ.out]; have := HS3.out; unfold maxLen; omega) (below_size (by repeat (first | (with_reducible first | exact HB.out | apply below_alloc | apply pw_below_drewN | apply below_drew1) | exact HB.out))) ?hr ?_; (case hd => rfl); (case hg => rfl); (case hr => first | (go_simp; done) | (go_simp; rfl)); intro g0 cap0 w1 hC hb; have n0_ := Aside0.mk (below_step (by repeat (first | (with_reducible first | exact HB.out | apply below_alloc | apply pw_below_drewN | apply below_drew1) | exact HB.out)) hb); rw [HBY.out] at hC; have HC := Aside0.mk hC; clear HB hC hb kb; have HB := n0_; clear n0_))
    go_loopg [4] (zn a0.size) (fun kq v4 w' => ∃ (j g cap : Nat), v4 = .slice (some ⟨g, 0, none⟩) (a0.size + 1 + j) cap ∧ Aside0 (j + kq = zn a0.size) ∧ Aside0 (OwnC w' w.heap.size (.slice (some ⟨g, 0, none⟩) (a0.size + 1 + j) cap) (bytesOf a0 ++ 128 :: List.replicate j 0)) ∧ Aside0 (Below w.heap.size w w'))
    case atStart => exact ⟨0, g0, cap0, by first | rfl | (simp; done), ⟨by omega⟩, HC, HB⟩
    case round =>
      clear HC HB
      obtain ⟨j, g, cap, rfl, HA, HC, HB⟩ := hrel
      by_cases hj : j < zn a0.size
      · obtain ⟨kp, rfl⟩ : ∃ kp, gk = kp + 1 := ⟨gk - 1, by have := HA.out; omega⟩
        have hm16 : ((((a0.size + 1 + j : Nat) : Int) % 16) == 8) = false := by
          have h1 := zn_mod a0.size
          have h2 := zn_lt a0.size
          refine beq_eq_false_iff_ne.2 ?_
          omega
        have hlen : (bytesOf a0 ++ 128 :: List.replicate j 0).length + 1 = a0.size + 1 + (j + 1) := by rw [List.length_append, bytesOf_length, List.length_cons, List.length_replicate]; omega
        have HLEN := Aside0.mk hlen
        clear hj hlen
        go_wp2_with (first | ((with_reducible refine gate_dst (N := 23) rfl ?_); refine Kd.R_lit (Kd.int .u8) _ 5 ?hg (N := 23) ?hd (xs := ([0] : List Int)) (inner := [.int .u8 0]) (ok := fun _ => True) (okp := fun _ => True) ?hr ?hp (fun _ hk => hk) trivial (Below.refl _ _) (Nat.le_refl _) (by simp) ?_; (case hd => rfl); (case hg => rfl); (case hr => first | (go_simp; done) | (go_simp; rfl)); (case hp => exact (Reps.one (show Kd.M (Kd.int .u8) _ _ _ (0) [.int .u8 (0)] from rfl) (Reps.none _ _))); intro va wa ho hb hg_ hnew_; clear hg_ hnew_; have n0_ := Aside0.mk (below_step (by repeat (first | (with_reducible first | exact HB.out | apply below_alloc | apply pw_below_drewN | apply below_drew1) | exact HB.out)) hb); have HOa := Aside0.mk ho; clear HB; have HB := n0_; have hba := Aside0.mk hb; clear n0_ hb ho; obtain ⟨Aoa, coa, eoa⟩ := Kd.R_slice HOa.out; subst eoa) | ((with_reducible refine gate_dst (N := 24) rfl ?_); refine appC_event ?hg (N := 24) ?hd 22 23 rfl rfl w.heap.size (.slice (some ⟨g, 0, none⟩) (a0.size + 1 + j) cap) (bytesOf a0 ++ 128 :: List.replicate j 0) Aoa 1 coa [0] (a0.size + 1 + (j + 1)) HLEN.out rfl rfl ?hC (Kd.R_reads' HOa.out).2.2 (by decide) (by have := HS3.out; have := zn_lt a0.size; have := HA.out; omega) (below_size HB.out) ?_; (case hd => rfl); (case hg => rfl); (case hC => exact HC.out.below hba.out); intro g1 cap1 w3 hC1 hb3; have n0_ := Aside0.mk (HB.out.trans hb3); have HC1 := Aside0.mk hC1; clear HB HC hC1 hb3 hba HOa; have HB := n0_; clear n0_))
        go_roundg kp
        case measure => omega
        case rel => exact ⟨j + 1, g1, cap1, by first | rfl | (simp; done), ⟨by have := HA.out; omega⟩, ⟨by have h := HC1.out; rw [List.append_assoc] at h; rw [List.replicate_succ']; exact h⟩, HB⟩
      · obtain rfl : gk = 0 := by have := HA.out; omega
        have hje : j = zn a0.size := by have := HA.out; omega
        subst hje
        have hm16 : ((((a0.size + 1 + zn a0.size : Nat) : Int) % 16) == 8) = true := by
          have h1 := zn_mod a0.size
          refine beq_iff_eq.2 ?_
          omega
        clear hj
        have HLEN := Aside0.mk (show (bytesOf a0 ++ 128 :: List.replicate (zn a0.size) 0).length + 8 = a0.size + 1 + zn a0.size + 8 by rw [List.length_append, bytesOf_length, List.length_cons, List.length_replicate]; omega)
        have hcz : (a0.size : Int) / 256 ≤ 255 := by omega
        go_wp2_with (first | ((with_reducible refine gate_dst (N := 31) rfl ?_); refine Kd.R_lit (Kd.int .u8) _ 5 ?hg (N := 31) ?hd (xs := ([(a0.size : Int) % 256, (a0.size : Int) / 256, 0, 0, 0, 0, 0, 0] : List Int)) (inner := [.int .u8 ((a0.size : Int) % 256), .int .u8 ((a0.size : Int) / 256), .int .u8 0, .int .u8 0, .int .u8 0, .int .u8 0, .int .u8 0, .int .u8 0]) (ok := fun _ => True) (okp := fun _ => True) ?hr ?hp (fun _ hk => hk) trivial (Below.refl _ _) (Nat.le_refl _) (by simp) ?_; (case hd => rfl); (case hg => rfl); (case hr => first | (go_simp; done) | (go_simp; rfl)); (case hp => exact (Reps.one (show Kd.M (Kd.int .u8) _ _ _ ((a0.size : Int) % 256) [.int .u8 ((a0.size : Int) % 256)] from rfl) (Reps.one (show Kd.M (Kd.int .u8) _ _ _ ((a0.size : Int) / 256) [.int .u8 ((a0.size : Int) / 256)] from rfl) (Reps.one (show Kd.M (Kd.int .u8) _ _ _ (0) [.int .u8 (0)] from rfl) (Reps.one (show Kd.M (Kd.int .u8) _ _ _ (0) [.int .u8 (0)] from rfl) (Reps.one (show Kd.M (Kd.int .u8) _ _ _ (0) [.int .u8 (0)] from rfl) (Reps.one (show Kd.M (Kd.int .u8) _ _ _ (0) [.int .u8 (0)] from rfl) (Reps.one (show Kd.M (Kd.int .u8) _ _ _ (0) [.int .u8 (0)] from rfl) (Reps.one (show Kd.M (Kd.int .u8) _ _ _ (0) [.int .u8 (0)] from rfl) (Reps.none _ _)))))))))); intro vb wb ho hb hg_ hnew_; clear hg_ hnew_; have n0_ := Aside0.mk (below_step (by repeat (first | (with_reducible first | exact HB.out | apply below_alloc | apply pw_below_drewN | apply below_drew1) | exact HB.out)) hb); have HOb := Aside0.mk ho; clear HB; have HB := n0_; have hbb := Aside0.mk hb; clear n0_ hb ho; obtain ⟨Aob, cob, eob⟩ := Kd.R_slice HOb.out; subst eob) | ((with_reducible refine gate_dst (N := 32) rfl ?_); refine appC_event ?hg (N := 32) ?hd 25 31 rfl rfl w.heap.size (.slice (some ⟨g, 0, none⟩) (a0.size + 1 + zn a0.size) cap) (bytesOf a0 ++ 128 :: List.replicate (zn a0.size) 0) Aob 8 cob [(a0.size : Int) % 256, (a0.size : Int) / 256, 0, 0, 0, 0, 0, 0] (a0.size + 1 + zn a0.size + 8) HLEN.out rfl rfl ?hC (Kd.R_reads' HOb.out).2.2 (by decide) (by have := HS3.out; have := zn_lt a0.size; omega) (below_size HB.out) ?_; (case hd => rfl); (case hg => rfl); (case hC => exact HC.out.below hbb.out); intro g1 cap1 w4 hC1 hb3; have n0_ := Aside0.mk (HB.out.trans hb3); have HC1 := Aside0.mk (show OwnC w4 w.heap.size (.slice (some ⟨g1, 0, none⟩) (a0.size + 1 + zn a0.size + 8) cap1) (spB a0) from hC1); clear HB HC hC1 hb3 hbb HOb; have HB := n0_; clear n0_) | ((with_reducible refine gate_dst (N := 5) rfl ?_); refine box_event ?hg (N := 5) ?hd (cs := #[.int .u32 0, .int .u32 0, .int .u32 0, .int .u32 0, .int .u32 0, .int .u32 0, .int .u32 0, .int .u32 0]) (t := 31) ?hr ?_; (case hd => rfl); (case hg => rfl); (case hr => first | (go_simp; done) | (go_simp; rfl)); intro g2 hg w5 hbox hb; have n0_ := Aside0.mk (below_step (by repeat (first | (with_reducible first | exact HB.out | apply below_alloc | apply pw_below_drewN | apply below_drew1) | exact HB.out)) hb); have n1_ := Aside0.mk hbox; have n2_ := Aside0.mk ((by rw [hg]; exact (below_size HB.out)) : w.heap.size ≤ g2); have n3_ := Aside0.mk (HC1.out.below hb); have n4_ := Aside0.mk (show g1 ≠ g2 by obtain ⟨q, _, e, _, hlt, _⟩ := HC1.out.form; injection e with e1; injection e1 with e1; injection e1 with e1; rw [hg, e1]; omega); clear HB HC1; have HB := n0_; have Kg2 := n1_; have Gg2 := n2_; have HC1 := n3_; have N12 := n4_; clear n0_ n1_ n2_ n3_ n4_ hb hbox hg; have cz_0 : w5.cell? ⟨g2, 0, none⟩ = some (.int .u32 0) := (blk_cell Kg2.out 0).trans rfl; have fz_0 := blk_frozen Kg2.out 0; have cz_1 : w5.cell? ⟨g2, 1, none⟩ = some (.int .u32 0) := (blk_cell Kg2.out 1).trans rfl; have fz_1 := blk_frozen Kg2.out 1; have cz_2 : w5.cell? ⟨g2, 2, none⟩ = some (.int .u32 0) := (blk_cell Kg2.out 2).trans rfl; have fz_2 := blk_frozen Kg2.out 2; have cz_3 : w5.cell? ⟨g2, 3, none⟩ = some (.int .u32 0) := (blk_cell Kg2.out 3).trans rfl; have fz_3 := blk_frozen Kg2.out 3; have cz_4 : w5.cell? ⟨g2, 4, none⟩ = some (.int .u32 0) := (blk_cell Kg2.out 4).trans rfl; have fz_4 := blk_frozen Kg2.out 4; have cz_5 : w5.cell? ⟨g2, 5, none⟩ = some (.int .u32 0) := (blk_cell Kg2.out 5).trans rfl; have fz_5 := blk_frozen Kg2.out 5; have cz_6 : w5.cell? ⟨g2, 6, none⟩ = some (.int .u32 0) := (blk_cell Kg2.out 6).trans rfl; have fz_6 := blk_frozen Kg2.out 6; have cz_7 : w5.cell? ⟨g2, 7, none⟩ = some (.int .u32 0) := (blk_cell Kg2.out 7).trans rfl; have fz_7 := blk_frozen Kg2.out 7))
        clear hm16 hcz
        clear cz_0 fz_0 cz_1 fz_1 cz_2 fz_2 cz_3 fz_3 cz_4 fz_4 cz_5 fz_5 cz_6 fz_6 cz_7 fz_7
        go_loopg [6] ((a0.size + 1 + zn a0.size + 8) / 16) (fun kq v6 w' => ∃ (i : Nat) (st : St), v6 = .int .i64 (i : Int) ∧ Aside0 (i + 16 * kq = (a0.size + 1 + zn a0.size + 8)) ∧ Aside0 (spongeL (wordsL ((spB a0).drop i)) st = ofS a0 ∧ st.Ok) ∧ Aside0 (OwnC w' w.heap.size (.slice (some ⟨g1, 0, none⟩) (a0.size + 1 + zn a0.size + 8) cap1) (spB a0)) ∧ Aside0 (Below w.heap.size w w') ∧ Aside0 (w'.heap[g2]? = some (.cells #[.int .u32 (st.a), .int .u32 (st.b), .int .u32 (st.c), .int .u32 (st.d), .int .u32 (st.e), .int .u32 (st.f), .int .u32 (st.g), .int .u32 (st.h)] 31 (0, 0))))
        case atStart => exact ⟨0, st1, by first | rfl | (simp; done), ⟨by have := zn_mod a0.size; omega⟩, ⟨spB_of a0 HS3.out, st1_ok⟩, ⟨(by repeat (first | (with_reducible exact HC1.out) | refine OwnC.far ?_ N12.out _))⟩, ⟨(by repeat (first | (with_reducible first | exact HB.out | apply below_alloc | apply pw_below_drewN | apply below_drew1 | refine below_set ?_ Gg2.out) | exact HB.out))⟩, ⟨(Eq.trans (by (with_reducible repeat (first | exact Kg2.out | apply blk_set | apply blk_drewN | apply blk_drew | apply blk_alloc))) (by first | rfl))⟩⟩
        case round =>
          clear HB HC1 Kg2
          obtain ⟨i, st, rfl, HA, HS, HC1, HB, Kg2⟩ := hrel
          cases gk with
          | zero =>
            have hie : i = (a0.size + 1 + zn a0.size + 8) := by have := HA.out; omega
            have hst : st = ofS a0 := sp_end a0 i st (by rw [spB_length]; exact hie) HS.out.1
            have hOf : digest_Of.f 2000 a0 = some (st.a, st.b, st.c, st.d) := by rw [hst]; exact of_of a0 HS3.out 2000 (Nat.le_refl _)
            have HOF := Aside0.mk hOf
            have ci1 : decide ((i : Int) < (a0.size : Int) + 1 + (zn a0.size : Int) + 8) = false := decide_eq_false (by omega)
            clear hie hst hOf HS HA
            go_wp2
            refine start_ (n := 16) (S := fun w' => w'.heap[g2]? = some (.cells #[.int .u32 (st.a), .int .u32 (st.b), .int .u32 (st.c), .int .u32 (st.d), .int .u32 (st.e), .int .u32 (st.f), .int .u32 (st.g), .int .u32 (st.h)] 31 (0, 0))) (ds := []) #[false, false, false, false, false, false, false, false, false, false, false, false, false, false, false, false] (by kernel_rfl) rfl rfl (Eq.trans (by (with_reducible repeat (first | exact Kg2.out | apply blk_set | apply blk_drewN | apply blk_drew | apply blk_alloc))) (by first | rfl)) (fun hHeld => ?_)
            refine one_ (i := 0) (N := (some 67)) #[true, false, false, false, false, false, false, false, false, false, false, false, false, false, false, false] rfl rfl (by kernel_rfl) (by decide) (fun K hK => ?_)
            refine goes_ Tryd.func21 (by kernel_rfl) rfl #[] (by rfl) rfl rfl (by (try simp only [List.map_toArray, List.map_cons, List.map_nil]); first | done | rfl) ?_
            with_reducible refine (seedcornlaw03_awake.calls true _ seedcornlaw03_awake.is (Tab.below HTB.out (by repeat (first | (with_reducible first | exact HB.out | apply below_alloc | apply pw_below_drewN | apply below_drew1 | refine below_set ?_ Gg2.out) | exact HB.out)))).mono ?_
            rintro e wB ⟨rfl, hb⟩
            refine ⟨_, rfl, ?_⟩
            have n0_ := Aside0.mk (below_step (by repeat (first | (with_reducible first | exact HB.out | apply below_alloc | apply pw_below_drewN | apply below_drew1 | refine below_set ?_ Gg2.out) | exact HB.out)) hb)
            clear HB
            have HB := n0_
            clear n0_
            refine hK.out _ _ (blk_below hHeld hb) (fun hHeld => ?_)
            clear hK K
            refine norm_ (a' := ?_) ?_ ?_
            rotate_left
            · show Act.put _ (some 67) _ = _
              simp only [Act.put, List.setIfInBounds_toArray, List.set_cons_zero, List.set_cons_succ, i64_w, i32_w]
              rfl
            refine pure_ (i := 1) (N := (some 68)) (v := ?_) (a' := ?_) #[true, true, false, false, false, false, false, false, false, false, false, false, false, false, false, false] rfl rfl (by kernel_rfl) (fun _ _ _ h => h) (Or.inl ⟨by rfl, ?_⟩) ?_ ?_
            rotate_left
            · intro w'
              go_simp
              with_reducible rfl
            rotate_left
            · simp only [Act.put, List.setIfInBounds_toArray, List.set_cons_zero, List.set_cons_succ, i64_w, i32_w]
              rfl
            refine pure_ (i := 2) (N := (some 69)) (v := ?_) (a' := ?_) #[true, true, true, false, false, false, false, false, false, false, false, false, false, false, false, false] rfl rfl (by kernel_rfl) (fun _ _ _ h => h) (Or.inl ⟨by rfl, ?_⟩) ?_ ?_
            rotate_left
            · intro w'
              go_simp
              with_reducible rfl
            rotate_left
            · simp only [Act.put, List.setIfInBounds_toArray, List.set_cons_zero, List.set_cons_succ, i64_w, i32_w]
              rfl
            refine pure_ (i := 4) (N := (some 71)) (v := ?_) (a' := ?_) #[true, true, true, false, true, false, false, false, false, false, false, false, false, false, false, false] rfl rfl (by kernel_rfl) (fun _ _ _ h => h) (Or.inl ⟨by rfl, ?_⟩) ?_ ?_
            rotate_left
            · intro w'
              go_simp
              with_reducible rfl
            rotate_left
            · simp only [Act.put, List.setIfInBounds_toArray, List.set_cons_zero, List.set_cons_succ, i64_w, i32_w]
              rfl
            refine pure_ (i := 6) (N := (some 73)) (v := ?_) (a' := ?_) #[true, true, true, false, true, false, true, false, false, false, false, false, false, false, false, false] rfl rfl (by kernel_rfl) (fun _ _ _ h => h) (Or.inl ⟨by rfl, ?_⟩) ?_ ?_
            rotate_left
            · intro w'
              go_simp
              with_reducible rfl
            rotate_left
            · simp only [Act.put, List.setIfInBounds_toArray, List.set_cons_zero, List.set_cons_succ, i64_w, i32_w]
              rfl
            refine pure_ (i := 8) (N := (some 75)) (v := ?_) (a' := ?_) #[true, true, true, false, true, false, true, false, true, false, false, false, false, false, false, false] rfl rfl (by kernel_rfl) (fun _ _ _ h => h) (Or.inl ⟨by rfl, ?_⟩) ?_ ?_
            rotate_left
            · intro w'
              go_simp
              with_reducible rfl
            rotate_left
            · simp only [Act.put, List.setIfInBounds_toArray, List.set_cons_zero, List.set_cons_succ, i64_w, i32_w]
              rfl
            refine pure_ (i := 10) (N := (some 77)) (v := ?_) (a' := ?_) #[true, true, true, false, true, false, true, false, true, false, true, false, false, false, false, false] rfl rfl (by kernel_rfl) (fun _ _ _ h => h) (Or.inl ⟨by rfl, ?_⟩) ?_ ?_
            rotate_left
            · intro w'
              go_simp
              with_reducible rfl
            rotate_left
            · simp only [Act.put, List.setIfInBounds_toArray, List.set_cons_zero, List.set_cons_succ, i64_w, i32_w]
              rfl
            refine take_ (i := 5) (N := (some 72)) (v := ?_) (a' := ?_) #[true, true, true, false, true, true, true, false, true, false, true, false, false, false, false, false] rfl rfl (by kernel_rfl) (fun _ _ _ h => h) (Or.inl ⟨by rfl, ?_⟩) hHeld ?_ ?_
            rotate_left
            · intro w' hS_
              have cz_ := (blk_cell hS_ 0).trans rfl
              go_simp
              with_reducible rfl
            rotate_left
            · simp only [Act.put, List.setIfInBounds_toArray, List.set_cons_zero, List.set_cons_succ, i64_w, i32_w]
              rfl
            refine take_ (i := 7) (N := (some 74)) (v := ?_) (a' := ?_) #[true, true, true, false, true, true, true, true, true, false, true, false, false, false, false, false] rfl rfl (by kernel_rfl) (fun _ _ _ h => h) (Or.inl ⟨by rfl, ?_⟩) hHeld ?_ ?_
            rotate_left
            · intro w' hS_
              have cz_ := (blk_cell hS_ 1).trans rfl
              go_simp
              with_reducible rfl
            rotate_left
            · simp only [Act.put, List.setIfInBounds_toArray, List.set_cons_zero, List.set_cons_succ, i64_w, i32_w]
              rfl
            refine take_ (i := 9) (N := (some 76)) (v := ?_) (a' := ?_) #[true, true, true, false, true, true, true, true, true, true, true, false, false, false, false, false] rfl rfl (by kernel_rfl) (fun _ _ _ h => h) (Or.inl ⟨by rfl, ?_⟩) hHeld ?_ ?_
            rotate_left
            · intro w' hS_
              have cz_ := (blk_cell hS_ 2).trans rfl
              go_simp
              with_reducible rfl
            rotate_left
            · simp only [Act.put, List.setIfInBounds_toArray, List.set_cons_zero, List.set_cons_succ, i64_w, i32_w]
              rfl
            refine take_ (i := 11) (N := (some 78)) (v := ?_) (a' := ?_) #[true, true, true, false, true, true, true, true, true, true, true, true, false, false, false, false] rfl rfl (by kernel_rfl) (fun _ _ _ h => h) (Or.inl ⟨by rfl, ?_⟩) hHeld ?_ ?_
            rotate_left
            · intro w' hS_
              have cz_ := (blk_cell hS_ 3).trans rfl
              go_simp
              with_reducible rfl
            rotate_left
            · simp only [Act.put, List.setIfInBounds_toArray, List.set_cons_zero, List.set_cons_succ, i64_w, i32_w]
              rfl
            refine pure_ (i := 12) (N := (some 79)) (v := ?_) (a' := ?_) #[true, true, true, false, true, true, true, true, true, true, true, true, true, false, false, false] rfl rfl (by kernel_rfl) (fun _ _ _ h => h) (Or.inl ⟨by rfl, ?_⟩) ?_ ?_
            rotate_left
            · intro w'
              go_simp
              with_reducible rfl
            rotate_left
            · simp only [Act.put, List.setIfInBounds_toArray, List.set_cons_zero, List.set_cons_succ, i64_w, i32_w]
              rfl
            refine one_ (i := 3) (N := (some 70)) #[true, true, true, true, true, true, true, true, true, true, true, true, true, false, false, false] rfl rfl (by kernel_rfl) (by decide) (fun K hK => ?_)
            refine goes_ Tryd.func18 (by kernel_rfl) rfl #[.string a0] (by rfl) rfl rfl (by (try simp only [List.map_toArray, List.map_cons, List.map_nil]); first | done | rfl) ?_
            with_reducible refine (digest_Of.calls 2000 a0 st.a st.b st.c st.d _ HOF.out (Tab.below HTB.out (by repeat (first | (with_reducible first | exact HB.out | apply below_alloc | apply pw_below_drewN | apply below_drew1 | refine below_set ?_ Gg2.out) | exact HB.out)))).mono ?_
            rintro e wC ⟨rfl, hb⟩
            refine ⟨_, rfl, ?_⟩
            have n0_ := Aside0.mk (below_step (by repeat (first | (with_reducible first | exact HB.out | apply below_alloc | apply pw_below_drewN | apply below_drew1 | refine below_set ?_ Gg2.out) | exact HB.out)) hb)
            clear HB
            have HB := n0_
            clear n0_
            refine hK.out _ _ (blk_below hHeld hb) (fun hHeld => ?_)
            clear hK K
            refine norm_ (a' := ?_) ?_ ?_
            rotate_left
            · show Act.put _ (some 70) _ = _
              simp only [Act.put, List.setIfInBounds_toArray, List.set_cons_zero, List.set_cons_succ, i64_w, i32_w]
              rfl
            refine pure_ (i := 13) (N := (some 80)) (v := ?_) (a' := ?_) #[true, true, true, true, true, true, true, true, true, true, true, true, true, true, false, false] rfl rfl (by kernel_rfl) (fun _ _ _ h => h) (Or.inl ⟨by rfl, ?_⟩) ?_ ?_
            rotate_left
            · intro w'
              go_simp
              try simp only [beq_self_eq_true, Bool.and_self]
              try with_reducible rfl
            rotate_left
            · simp only [Act.put, List.setIfInBounds_toArray, List.set_cons_zero, List.set_cons_succ, i64_w, i32_w]
              rfl
            refine pure_ (i := 14) (N := (some 81)) (v := ?_) (a' := ?_) #[true, true, true, true, true, true, true, true, true, true, true, true, true, true, true, false] rfl rfl (by kernel_rfl) (fun _ _ _ h => h) (Or.inl ⟨by rfl, ?_⟩) ?_ ?_
            rotate_left
            · intro w'
              go_simp
              with_reducible rfl
            rotate_left
            · simp only [Act.put, List.setIfInBounds_toArray, List.set_cons_zero, List.set_cons_succ, i64_w, i32_w]
              rfl
            refine pure_ (i := 15) (N := (some 2)) (v := ?_) (a' := ?_) #[true, true, true, true, true, true, true, true, true, true, true, true, true, true, true, true] rfl rfl (by kernel_rfl) (fun _ _ _ h => h) (Or.inl ⟨by rfl, ?_⟩) ?_ ?_
            rotate_left
            · intro w'
              go_simp
              with_reducible rfl
            rotate_left
            · simp only [Act.put, List.setIfInBounds_toArray, List.set_cons_zero, List.set_cons_succ, i64_w, i32_w]
              rfl
            refine done_ (by kernel_rfl) ?_
            go_wp2
            go_ret
            exact ⟨rfl, (by repeat (first | (with_reducible first | exact HB.out | apply below_alloc | apply pw_below_drewN | apply below_drew1 | refine below_set ?_ Gg2.out) | exact HB.out))⟩
          | succ kp =>
            have hi : i + 16 ≤ (a0.size + 1 + zn a0.size + 8) := by have := HA.out; omega
            have ci1 : decide ((i : Int) < (a0.size : Int) + 1 + (zn a0.size : Int) + 8) = true := decide_eq_true (by omega)
            have hi2 : (i : Int) ≤ 400 := by have := zn_lt a0.size; have := HS3.out; omega
            have hi3 : (0 : Int) ≤ (i : Int) := by omega
            have HI := Aside0.mk hi
            clear hi
            go_wp2_with (first | ((with_reducible refine gate_dst (N := 7) rfl ?_); refine box_event ?hg (N := 7) ?hd (cs := #[.int .u32 0, .int .u32 0, .int .u32 0, .int .u32 0]) (t := 23) ?hr ?_; (case hd => rfl); (case hg => rfl); (case hr => first | (go_simp; done) | (go_simp; rfl)); intro g3 hg w6 hbox hb; have n0_ := Aside0.mk (below_step (by repeat (first | (with_reducible first | exact HB.out | apply below_alloc | apply pw_below_drewN | apply below_drew1) | exact HB.out)) hb); have n1_ := Aside0.mk hbox; have n2_ := Aside0.mk ((by rw [hg]; exact (below_size HB.out)) : w.heap.size ≤ g3); have n3_ := Aside0.mk (HC1.out.below hb); have n4_ := Aside0.mk (show g1 ≠ g3 by obtain ⟨q, _, e, _, hlt, _⟩ := HC1.out.form; injection e with e1; injection e1 with e1; injection e1 with e1; rw [hg, e1]; omega); have n5_ := Aside0.mk (blk_below Kg2.out hb); have n6_ := Aside0.mk (show g2 ≠ g3 by rw [hg]; exact Nat.ne_of_lt (blk_lt Kg2.out)); clear HB HC1 Kg2; have HB := n0_; have Kg3 := n1_; have Gg3 := n2_; have HC1 := n3_; have N13 := n4_; have Kg2 := n5_; have Ng2g3 := n6_; clear n0_ n1_ n2_ n3_ n4_ n5_ n6_ hb hbox hg))
            refine wp_loop_in ?_
            refine inLoop_gen (fun w' => Below w.heap.size w w' ∧ w'.heap[g2]? = some (.cells #[.int .u32 (st.a), .int .u32 (st.b), .int .u32 (st.c), .int .u32 (st.d), .int .u32 (st.e), .int .u32 (st.f), .int .u32 (st.g), .int .u32 (st.h)] 31 (0, 0)) ∧ w'.heap[g3]? = some (.cells #[.int .u32 0, .int .u32 0, .int .u32 0, .int .u32 0] 23 (0, 0)) ∧ OwnC w' w.heap.size (.slice (some ⟨g1, 0, none⟩) (a0.size + 1 + zn a0.size + 8) cap1) (spB a0)) ⟨(by repeat (first | (with_reducible first | exact HB.out | apply below_alloc | apply pw_below_drewN | apply below_drew1 | refine below_set ?_ Gg2.out | refine below_set ?_ Gg3.out) | exact HB.out)), (Eq.trans (by (with_reducible repeat (first | exact Kg2.out | apply blk_set | apply far_put Ng2g3.out | apply far_put Ng2g3.out.symm | apply blk_drewN | apply blk_drew | apply blk_alloc))) (by first | rfl)), (Eq.trans (by (with_reducible repeat (first | exact Kg3.out | apply blk_set | apply far_put Ng2g3.out | apply far_put Ng2g3.out.symm | apply blk_drewN | apply blk_drew | apply blk_alloc))) (by first | rfl)), (by repeat (first | (with_reducible exact HC1.out) | (with_reducible exact OwnC.drew HC1.out) | refine OwnC.drew ?_ | refine OwnC.far ?_ N13.out _))⟩ ?_
            try clear K1
            intro wA hF
            clear HB HC1 Kg2 Kg3
            obtain ⟨n0_, n1_, n2_, n3_⟩ := hF
            have HB := Aside0.mk n0_
            have Kg2 := Aside0.mk n1_
            have Kg3 := Aside0.mk n2_
            have HC1 := Aside0.mk n3_
            clear n0_ n1_ n2_ n3_
            refine inLoop_k fun K1 hK1 => ?_
            go_wp2
            have hwm : wrap64 0 = 0 := by unfold wrap64; omega
            have hb1 : (0 ≤ (i : Int)) = True := eq_true (by omega)
            have hb2 : ((i : Int) < (a0.size : Int) + 1 + (zn a0.size : Int) + 8) = True := eq_true (by have := HI.out; omega)
            have htn : ((i : Int)).toNat = i := by omega
            have hwi : wrap64 ((i : Int)) = (i : Int) := w64' _ (by omega) (by omega)
            refine start_ (n := 21) (S := fun w' => w'.heap[g3]? = some (.cells #[.int .u32 0, .int .u32 0, .int .u32 0, .int .u32 0] 23 (0, 0)) ∧ w'.cell? ⟨g1, i, none⟩ = some (.int .u8 (rd (spB a0) ((i : Nat) : Int)))) (ds := [20]) #[false, false, false, false, false, false, false, false, false, false, false, false, false, false, false, false, false, false, false, false, false] (by kernel_rfl) rfl rfl ⟨blk_drew Kg3.out, HC1.out.at (i) (by have := HI.out; rw [spB_length]; omega)⟩ (fun hHeld => ?_)
            refine pure_ (i := 0) (N := (some 44)) (v := ?_) (a' := ?_) #[true, false, false, false, false, false, false, false, false, false, false, false, false, false, false, false, false, false, false, false, false] rfl rfl (by kernel_rfl) (fun _ _ _ h => h) (Or.inl ⟨by rfl, ?_⟩) ?_ ?_
            rotate_left
            · intro w'
              go_simp
              with_reducible rfl
            rotate_left
            · simp only [Act.put, List.setIfInBounds_toArray, List.set_cons_zero, List.set_cons_succ, i64_w, i32_w]
              rfl
            refine pure_ (i := 1) (N := (some 45)) (v := ?_) (a' := ?_) #[true, true, false, false, false, false, false, false, false, false, false, false, false, false, false, false, false, false, false, false, false] rfl rfl (by kernel_rfl) (fun _ _ _ h => h) (Or.inl ⟨by rfl, ?_⟩) ?_ ?_
            rotate_left
            · intro w'
              go_simp
              with_reducible rfl
            rotate_left
            · simp only [Act.put, List.setIfInBounds_toArray, List.set_cons_zero, List.set_cons_succ, i64_w, i32_w]
              rfl
            refine pure_ (i := 2) (N := (some 46)) (v := ?_) (a' := ?_) #[true, true, true, false, false, false, false, false, false, false, false, false, false, false, false, false, false, false, false, false, false] rfl rfl (by kernel_rfl) (fun _ _ _ h => h) (Or.inl ⟨by rfl, ?_⟩) ?_ ?_
            rotate_left
            · intro w'
              go_simp
              with_reducible rfl
            rotate_left
            · simp only [Act.put, List.setIfInBounds_toArray, List.set_cons_zero, List.set_cons_succ, i64_w, i32_w]
              rfl
            refine pure_ (i := 3) (N := (some 47)) (v := ?_) (a' := ?_) #[true, true, true, true, false, false, false, false, false, false, false, false, false, false, false, false, false, false, false, false, false] rfl rfl (by kernel_rfl) (fun _ _ _ h => h) (Or.inl ⟨by rfl, ?_⟩) ?_ ?_
            rotate_left
            · intro w'
              go_simp
              with_reducible rfl
            rotate_left
            · simp only [Act.put, List.setIfInBounds_toArray, List.set_cons_zero, List.set_cons_succ, i64_w, i32_w]
              rfl
            refine pure_ (i := 4) (N := (some 48)) (v := ?_) (a' := ?_) #[true, true, true, true, true, false, false, false, false, false, false, false, false, false, false, false, false, false, false, false, false] rfl rfl (by kernel_rfl) (fun _ _ _ h => h) (Or.inl ⟨by rfl, ?_⟩) ?_ ?_
            rotate_left
            · intro w'
              go_simp
              with_reducible rfl
            rotate_left
            · simp only [Act.put, List.setIfInBounds_toArray, List.set_cons_zero, List.set_cons_succ, i64_w, i32_w]
              rfl
            refine pure_ (i := 6) (N := (some 50)) (v := ?_) (a' := ?_) #[true, true, true, true, true, false, true, false, false, false, false, false, false, false, false, false, false, false, false, false, false] rfl rfl (by kernel_rfl) (fun _ _ _ h => h) (Or.inl ⟨by rfl, ?_⟩) ?_ ?_
            rotate_left
            · intro w'
              go_simp
              with_reducible rfl
            rotate_left
            · simp only [Act.put, List.setIfInBounds_toArray, List.set_cons_zero, List.set_cons_succ, i64_w, i32_w]
              rfl
            refine pure_ (i := 7) (N := (some 51)) (v := ?_) (a' := ?_) #[true, true, true, true, true, false, true, true, false, false, false, false, false, false, false, false, false, false, false, false, false] rfl rfl (by kernel_rfl) (fun _ _ _ h => h) (Or.inl ⟨by rfl, ?_⟩) ?_ ?_
            rotate_left
            · intro w'
              go_simp
              with_reducible rfl
            rotate_left
            · simp only [Act.put, List.setIfInBounds_toArray, List.set_cons_zero, List.set_cons_succ, i64_w, i32_w]
              rfl
            refine pure_ (i := 8) (N := (some 52)) (v := ?_) (a' := ?_) #[true, true, true, true, true, false, true, true, true, false, false, false, false, false, false, false, false, false, false, false, false] rfl rfl (by kernel_rfl) (fun _ _ _ h => h) (Or.inl ⟨by rfl, ?_⟩) ?_ ?_
            rotate_left
            · intro w'
              go_simp
              with_reducible rfl
            rotate_left
            · simp only [Act.put, List.setIfInBounds_toArray, List.set_cons_zero, List.set_cons_succ, i64_w, i32_w]
              rfl
            refine pure_ (i := 9) (N := (some 53)) (v := ?_) (a' := ?_) #[true, true, true, true, true, false, true, true, true, true, false, false, false, false, false, false, false, false, false, false, false] rfl rfl (by kernel_rfl) (fun _ _ _ h => h) (Or.inl ⟨by rfl, ?_⟩) ?_ ?_
            rotate_left
            · intro w'
              go_simp
              with_reducible rfl
            rotate_left
            · simp only [Act.put, List.setIfInBounds_toArray, List.set_cons_zero, List.set_cons_succ, i64_w, i32_w]
              rfl
            refine pure_ (i := 10) (N := (some 54)) (v := ?_) (a' := ?_) #[true, true, true, true, true, false, true, true, true, true, true, false, false, false, false, false, false, false, false, false, false] rfl rfl (by kernel_rfl) (fun _ _ _ h => h) (Or.inl ⟨by rfl, ?_⟩) ?_ ?_
            rotate_left
            · intro w'
              go_simp
              with_reducible rfl
            rotate_left
            · simp only [Act.put, List.setIfInBounds_toArray, List.set_cons_zero, List.set_cons_succ, i64_w, i32_w]
              rfl
            refine pure_ (i := 13) (N := (some 57)) (v := ?_) (a' := ?_) #[true, true, true, true, true, false, true, true, true, true, true, false, false, true, false, false, false, false, false, false, false] rfl rfl (by kernel_rfl) (fun _ _ _ h => h) (Or.inl ⟨by rfl, ?_⟩) ?_ ?_
            rotate_left
            · intro w'
              go_simp
              with_reducible rfl
            rotate_left
            · simp only [Act.put, List.setIfInBounds_toArray, List.set_cons_zero, List.set_cons_succ, i64_w, i32_w]
              rfl
            refine pure_ (i := 14) (N := (some 58)) (v := ?_) (a' := ?_) #[true, true, true, true, true, false, true, true, true, true, true, false, false, true, true, false, false, false, false, false, false] rfl rfl (by kernel_rfl) (fun _ _ _ h => h) (Or.inl ⟨by rfl, ?_⟩) ?_ ?_
            rotate_left
            · intro w'
              go_simp
              with_reducible rfl
            rotate_left
            · simp only [Act.put, List.setIfInBounds_toArray, List.set_cons_zero, List.set_cons_succ, i64_w, i32_w]
              rfl
            refine pure_ (i := 15) (N := (some 59)) (v := ?_) (a' := ?_) #[true, true, true, true, true, false, true, true, true, true, true, false, false, true, true, true, false, false, false, false, false] rfl rfl (by kernel_rfl) (fun _ _ _ h => h) (Or.inl ⟨by rfl, ?_⟩) ?_ ?_
            rotate_left
            · intro w'
              go_simp
              with_reducible rfl
            rotate_left
            · simp only [Act.put, List.setIfInBounds_toArray, List.set_cons_zero, List.set_cons_succ, i64_w, i32_w]
              rfl
            refine pure_ (i := 16) (N := (some 60)) (v := ?_) (a' := ?_) #[true, true, true, true, true, false, true, true, true, true, true, false, false, true, true, true, true, false, false, false, false] rfl rfl (by kernel_rfl) (fun _ _ _ h => h) (Or.inl ⟨by rfl, ?_⟩) ?_ ?_
            rotate_left
            · intro w'
              go_simp
              with_reducible rfl
            rotate_left
            · simp only [Act.put, List.setIfInBounds_toArray, List.set_cons_zero, List.set_cons_succ, i64_w, i32_w]
              rfl
            refine take_ (i := 5) (N := (some 49)) (v := ?_) (a' := ?_) #[true, true, true, true, true, true, true, true, true, true, true, false, false, true, true, true, true, false, false, false, false] rfl rfl (by kernel_rfl) (fun _ _ _ h => h) (Or.inl ⟨by rfl, ?_⟩) hHeld ?_ ?_
            rotate_left
            · intro w' hS_
              have cz_ := (blk_cell hS_.1 0).trans rfl
              go_simp
              with_reducible rfl
            rotate_left
            · simp only [Act.put, List.setIfInBounds_toArray, List.set_cons_zero, List.set_cons_succ, i64_w, i32_w]
              rfl
            refine take_ (i := 11) (N := (some 55)) (v := ?_) (a' := ?_) #[true, true, true, true, true, true, true, true, true, true, true, true, false, true, true, true, true, false, false, false, false] rfl rfl (by kernel_rfl) (fun _ _ _ h => h) (Or.inl ⟨by rfl, ?_⟩) hHeld ?_ ?_
            rotate_left
            · intro w' hS_
              have cz_ := hS_.2
              go_simp
              with_reducible rfl
            rotate_left
            · simp only [Act.put, List.setIfInBounds_toArray, List.set_cons_zero, List.set_cons_succ, i64_w, i32_w]
              rfl
            refine pure_ (i := 12) (N := (some 56)) (v := ?_) (a' := ?_) #[true, true, true, true, true, true, true, true, true, true, true, true, true, true, true, true, true, false, false, false, false] rfl rfl (by kernel_rfl) (fun _ _ _ h => h) (Or.inl ⟨by rfl, ?_⟩) ?_ ?_
            rotate_left
            · intro w'
              go_simp
              with_reducible rfl
            rotate_left
            · simp only [Act.put, List.setIfInBounds_toArray, List.set_cons_zero, List.set_cons_succ, i64_w, i32_w]
              rfl
            refine pure_ (i := 17) (N := (some 61)) (v := ?_) (a' := ?_) #[true, true, true, true, true, true, true, true, true, true, true, true, true, true, true, true, true, true, false, false, false] rfl rfl (by kernel_rfl) (fun _ _ _ h => h) (Or.inl ⟨by rfl, ?_⟩) ?_ ?_
            rotate_left
            · intro w'
              go_simp
              with_reducible rfl
            rotate_left
            · simp only [Act.put, List.setIfInBounds_toArray, List.set_cons_zero, List.set_cons_succ, i64_w, i32_w]
              rfl
            refine pure_ (i := 18) (N := (some 62)) (v := ?_) (a' := ?_) #[true, true, true, true, true, true, true, true, true, true, true, true, true, true, true, true, true, true, true, false, false] rfl rfl (by kernel_rfl) (fun _ _ _ h => h) (Or.inl ⟨by rfl, ?_⟩) ?_ ?_
            rotate_left
            · intro w'
              go_simp
              with_reducible rfl
            rotate_left
            · simp only [Act.put, List.setIfInBounds_toArray, List.set_cons_zero, List.set_cons_succ, i64_w, i32_w]
              rfl
            refine pure_ (i := 19) (N := (some 63)) (v := ?_) (a' := ?_) #[true, true, true, true, true, true, true, true, true, true, true, true, true, true, true, true, true, true, true, true, false] rfl rfl (by kernel_rfl) (fun _ _ _ h => h) (Or.inl ⟨by rfl, ?_⟩) ?_ ?_
            rotate_left
            · intro w'
              go_simp
              with_reducible rfl
            rotate_left
            · simp only [Act.put, List.setIfInBounds_toArray, List.set_cons_zero, List.set_cons_succ, i64_w, i32_w]
              rfl
            refine last_ (i := 20) (N := none) #[true, true, true, true, true, true, true, true, true, true, true, true, true, true, true, true, true, true, true, true, true] rfl rfl (by kernel_rfl) (by decide) (fun K hK => ?_)
            have cz_ := (blk_cell hHeld.1 0).trans rfl
            have fz_ := blk_frozen hHeld.1 0
            refine store_step (w1 := ?w1_0) ?hg ?hN ?hr ?_; (case hg => rfl); (case hN => rfl); (case hr => first | (go_simp; done) | (go_simp; rfl))
            refine hK.out _ _ ?_
            clear hK K cz_ fz_
            refine done_ (by kernel_rfl) ?_
            clear hHeld hwm hwi hb1 hb2 htn
            go_wp2
            try clear hK1
            refine inLoop_gen (fun w' => Below w.heap.size w w' ∧ w'.heap[g2]? = some (.cells #[.int .u32 (st.a), .int .u32 (st.b), .int .u32 (st.c), .int .u32 (st.d), .int .u32 (st.e), .int .u32 (st.f), .int .u32 (st.g), .int .u32 (st.h)] 31 (0, 0)) ∧ w'.heap[g3]? = some (.cells #[.int .u32 ((orw 0 (rd (spB a0) ((i : Nat) : Int)) 0)), .int .u32 0, .int .u32 0, .int .u32 0] 23 (0, 0)) ∧ OwnC w' w.heap.size (.slice (some ⟨g1, 0, none⟩) (a0.size + 1 + zn a0.size + 8) cap1) (spB a0)) ⟨(by repeat (first | (with_reducible first | exact HB.out | apply below_alloc | apply pw_below_drewN | apply below_drew1 | refine below_set ?_ Gg2.out | refine below_set ?_ Gg3.out) | exact HB.out)), (Eq.trans (by (with_reducible repeat (first | exact Kg2.out | apply blk_set | apply far_put Ng2g3.out | apply far_put Ng2g3.out.symm | apply blk_drewN | apply blk_drew | apply blk_alloc))) (by first | rfl)), (Eq.trans (by (with_reducible repeat (first | exact Kg3.out | apply blk_set | apply far_put Ng2g3.out | apply far_put Ng2g3.out.symm | apply blk_drewN | apply blk_drew | apply blk_alloc))) (by first | rfl)), (by repeat (first | (with_reducible exact HC1.out) | (with_reducible exact OwnC.drew HC1.out) | refine OwnC.drew ?_ | refine OwnC.far ?_ N13.out _))⟩ ?_
            try clear K1
            intro wA hF
            clear HB HC1 Kg2 Kg3
            obtain ⟨n0_, n1_, n2_, n3_⟩ := hF
            have HB := Aside0.mk n0_
            have Kg2 := Aside0.mk n1_
            have Kg3 := Aside0.mk n2_
            have HC1 := Aside0.mk n3_
            clear n0_ n1_ n2_ n3_
            refine inLoop_k fun K1 hK1 => ?_
            go_wp2
            have hwm : wrap64 0 = 0 := by unfold wrap64; omega
            have hb1 : (0 ≤ (i : Int) + 1) = True := eq_true (by omega)
            have hb2 : ((i : Int) + 1 < (a0.size : Int) + 1 + (zn a0.size : Int) + 8) = True := eq_true (by have := HI.out; omega)
            have htn : ((i : Int) + 1).toNat = i + 1 := by omega
            have hwi : wrap64 ((i : Int) + 1) = (i : Int) + 1 := w64' _ (by omega) (by omega)
            refine start_ (n := 21) (S := fun w' => w'.heap[g3]? = some (.cells #[.int .u32 ((orw 0 (rd (spB a0) ((i : Nat) : Int)) 0)), .int .u32 0, .int .u32 0, .int .u32 0] 23 (0, 0)) ∧ w'.cell? ⟨g1, i + 1, none⟩ = some (.int .u8 (rd (spB a0) ((i + 1 : Nat) : Int)))) (ds := [20]) #[false, false, false, false, false, false, false, false, false, false, false, false, false, false, false, false, false, false, false, false, false] (by kernel_rfl) rfl rfl ⟨blk_drew Kg3.out, HC1.out.at (i + 1) (by have := HI.out; rw [spB_length]; omega)⟩ (fun hHeld => ?_)
            refine pure_ (i := 0) (N := (some 44)) (v := ?_) (a' := ?_) #[true, false, false, false, false, false, false, false, false, false, false, false, false, false, false, false, false, false, false, false, false] rfl rfl (by kernel_rfl) (fun _ _ _ h => h) (Or.inl ⟨by rfl, ?_⟩) ?_ ?_
            rotate_left
            · intro w'
              go_simp
              with_reducible rfl
            rotate_left
            · simp only [Act.put, List.setIfInBounds_toArray, List.set_cons_zero, List.set_cons_succ, i64_w, i32_w]
              rfl
            refine pure_ (i := 1) (N := (some 45)) (v := ?_) (a' := ?_) #[true, true, false, false, false, false, false, false, false, false, false, false, false, false, false, false, false, false, false, false, false] rfl rfl (by kernel_rfl) (fun _ _ _ h => h) (Or.inl ⟨by rfl, ?_⟩) ?_ ?_
            rotate_left
            · intro w'
              go_simp
              with_reducible rfl
            rotate_left
            · simp only [Act.put, List.setIfInBounds_toArray, List.set_cons_zero, List.set_cons_succ, i64_w, i32_w]
              rfl
            refine pure_ (i := 2) (N := (some 46)) (v := ?_) (a' := ?_) #[true, true, true, false, false, false, false, false, false, false, false, false, false, false, false, false, false, false, false, false, false] rfl rfl (by kernel_rfl) (fun _ _ _ h => h) (Or.inl ⟨by rfl, ?_⟩) ?_ ?_
            rotate_left
            · intro w'
              go_simp
              with_reducible rfl
            rotate_left
            · simp only [Act.put, List.setIfInBounds_toArray, List.set_cons_zero, List.set_cons_succ, i64_w, i32_w]
              rfl
            refine pure_ (i := 3) (N := (some 47)) (v := ?_) (a' := ?_) #[true, true, true, true, false, false, false, false, false, false, false, false, false, false, false, false, false, false, false, false, false] rfl rfl (by kernel_rfl) (fun _ _ _ h => h) (Or.inl ⟨by rfl, ?_⟩) ?_ ?_
            rotate_left
            · intro w'
              go_simp
              with_reducible rfl
            rotate_left
            · simp only [Act.put, List.setIfInBounds_toArray, List.set_cons_zero, List.set_cons_succ, i64_w, i32_w]
              rfl
            refine pure_ (i := 4) (N := (some 48)) (v := ?_) (a' := ?_) #[true, true, true, true, true, false, false, false, false, false, false, false, false, false, false, false, false, false, false, false, false] rfl rfl (by kernel_rfl) (fun _ _ _ h => h) (Or.inl ⟨by rfl, ?_⟩) ?_ ?_
            rotate_left
            · intro w'
              go_simp
              with_reducible rfl
            rotate_left
            · simp only [Act.put, List.setIfInBounds_toArray, List.set_cons_zero, List.set_cons_succ, i64_w, i32_w]
              rfl
            refine pure_ (i := 6) (N := (some 50)) (v := ?_) (a' := ?_) #[true, true, true, true, true, false, true, false, false, false, false, false, false, false, false, false, false, false, false, false, false] rfl rfl (by kernel_rfl) (fun _ _ _ h => h) (Or.inl ⟨by rfl, ?_⟩) ?_ ?_
            rotate_left
            · intro w'
              go_simp
              with_reducible rfl
            rotate_left
            · simp only [Act.put, List.setIfInBounds_toArray, List.set_cons_zero, List.set_cons_succ, i64_w, i32_w]
              rfl
            refine pure_ (i := 7) (N := (some 51)) (v := ?_) (a' := ?_) #[true, true, true, true, true, false, true, true, false, false, false, false, false, false, false, false, false, false, false, false, false] rfl rfl (by kernel_rfl) (fun _ _ _ h => h) (Or.inl ⟨by rfl, ?_⟩) ?_ ?_
            rotate_left
            · intro w'
              go_simp
              with_reducible rfl
            rotate_left
            · simp only [Act.put, List.setIfInBounds_toArray, List.set_cons_zero, List.set_cons_succ, i64_w, i32_w]
              rfl
            refine pure_ (i := 8) (N := (some 52)) (v := ?_) (a' := ?_) #[true, true, true, true, true, false, true, true, true, false, false, false, false, false, false, false, false, false, false, false, false] rfl rfl (by kernel_rfl) (fun _ _ _ h => h) (Or.inl ⟨by rfl, ?_⟩) ?_ ?_
            rotate_left
            · intro w'
              go_simp
              with_reducible rfl
            rotate_left
            · simp only [Act.put, List.setIfInBounds_toArray, List.set_cons_zero, List.set_cons_succ, i64_w, i32_w]
              rfl
            refine pure_ (i := 9) (N := (some 53)) (v := ?_) (a' := ?_) #[true, true, true, true, true, false, true, true, true, true, false, false, false, false, false, false, false, false, false, false, false] rfl rfl (by kernel_rfl) (fun _ _ _ h => h) (Or.inl ⟨by rfl, ?_⟩) ?_ ?_
            rotate_left
            · intro w'
              go_simp
              with_reducible rfl
            rotate_left
            · simp only [Act.put, List.setIfInBounds_toArray, List.set_cons_zero, List.set_cons_succ, i64_w, i32_w]
              rfl
            refine pure_ (i := 10) (N := (some 54)) (v := ?_) (a' := ?_) #[true, true, true, true, true, false, true, true, true, true, true, false, false, false, false, false, false, false, false, false, false] rfl rfl (by kernel_rfl) (fun _ _ _ h => h) (Or.inl ⟨by rfl, ?_⟩) ?_ ?_
            rotate_left
            · intro w'
              go_simp
              with_reducible rfl
            rotate_left
            · simp only [Act.put, List.setIfInBounds_toArray, List.set_cons_zero, List.set_cons_succ, i64_w, i32_w]
              rfl
            refine pure_ (i := 13) (N := (some 57)) (v := ?_) (a' := ?_) #[true, true, true, true, true, false, true, true, true, true, true, false, false, true, false, false, false, false, false, false, false] rfl rfl (by kernel_rfl) (fun _ _ _ h => h) (Or.inl ⟨by rfl, ?_⟩) ?_ ?_
            rotate_left
            · intro w'
              go_simp
              with_reducible rfl
            rotate_left
            · simp only [Act.put, List.setIfInBounds_toArray, List.set_cons_zero, List.set_cons_succ, i64_w, i32_w]
              rfl
            refine pure_ (i := 14) (N := (some 58)) (v := ?_) (a' := ?_) #[true, true, true, true, true, false, true, true, true, true, true, false, false, true, true, false, false, false, false, false, false] rfl rfl (by kernel_rfl) (fun _ _ _ h => h) (Or.inl ⟨by rfl, ?_⟩) ?_ ?_
            rotate_left
            · intro w'
              go_simp
              with_reducible rfl
            rotate_left
            · simp only [Act.put, List.setIfInBounds_toArray, List.set_cons_zero, List.set_cons_succ, i64_w, i32_w]
              rfl
            refine pure_ (i := 15) (N := (some 59)) (v := ?_) (a' := ?_) #[true, true, true, true, true, false, true, true, true, true, true, false, false, true, true, true, false, false, false, false, false] rfl rfl (by kernel_rfl) (fun _ _ _ h => h) (Or.inl ⟨by rfl, ?_⟩) ?_ ?_
            rotate_left
            · intro w'
              go_simp
              with_reducible rfl
            rotate_left
            · simp only [Act.put, List.setIfInBounds_toArray, List.set_cons_zero, List.set_cons_succ, i64_w, i32_w]
              rfl
            refine pure_ (i := 16) (N := (some 60)) (v := ?_) (a' := ?_) #[true, true, true, true, true, false, true, true, true, true, true, false, false, true, true, true, true, false, false, false, false] rfl rfl (by kernel_rfl) (fun _ _ _ h => h) (Or.inl ⟨by rfl, ?_⟩) ?_ ?_
            rotate_left
            · intro w'
              go_simp
              with_reducible rfl
            rotate_left
            · simp only [Act.put, List.setIfInBounds_toArray, List.set_cons_zero, List.set_cons_succ, i64_w, i32_w]
              rfl
            refine take_ (i := 5) (N := (some 49)) (v := ?_) (a' := ?_) #[true, true, true, true, true, true, true, true, true, true, true, false, false, true, true, true, true, false, false, false, false] rfl rfl (by kernel_rfl) (fun _ _ _ h => h) (Or.inl ⟨by rfl, ?_⟩) hHeld ?_ ?_
            rotate_left
            · intro w' hS_
              have cz_ := (blk_cell hS_.1 0).trans rfl
              go_simp
              with_reducible rfl
            rotate_left
            · simp only [Act.put, List.setIfInBounds_toArray, List.set_cons_zero, List.set_cons_succ, i64_w, i32_w]
              rfl
            refine take_ (i := 11) (N := (some 55)) (v := ?_) (a' := ?_) #[true, true, true, true, true, true, true, true, true, true, true, true, false, true, true, true, true, false, false, false, false] rfl rfl (by kernel_rfl) (fun _ _ _ h => h) (Or.inl ⟨by rfl, ?_⟩) hHeld ?_ ?_
            rotate_left
            · intro w' hS_
              have cz_ := hS_.2
              go_simp
              with_reducible rfl
            rotate_left
            · simp only [Act.put, List.setIfInBounds_toArray, List.set_cons_zero, List.set_cons_succ, i64_w, i32_w]
              rfl
            refine pure_ (i := 12) (N := (some 56)) (v := ?_) (a' := ?_) #[true, true, true, true, true, true, true, true, true, true, true, true, true, true, true, true, true, false, false, false, false] rfl rfl (by kernel_rfl) (fun _ _ _ h => h) (Or.inl ⟨by rfl, ?_⟩) ?_ ?_
            rotate_left
            · intro w'
              go_simp
              with_reducible rfl
            rotate_left
            · simp only [Act.put, List.setIfInBounds_toArray, List.set_cons_zero, List.set_cons_succ, i64_w, i32_w]
              rfl
            refine pure_ (i := 17) (N := (some 61)) (v := ?_) (a' := ?_) #[true, true, true, true, true, true, true, true, true, true, true, true, true, true, true, true, true, true, false, false, false] rfl rfl (by kernel_rfl) (fun _ _ _ h => h) (Or.inl ⟨by rfl, ?_⟩) ?_ ?_
            rotate_left
            · intro w'
              go_simp
              with_reducible rfl
            rotate_left
            · simp only [Act.put, List.setIfInBounds_toArray, List.set_cons_zero, List.set_cons_succ, i64_w, i32_w]
              rfl
            refine pure_ (i := 18) (N := (some 62)) (v := ?_) (a' := ?_) #[true, true, true, true, true, true, true, true, true, true, true, true, true, true, true, true, true, true, true, false, false] rfl rfl (by kernel_rfl) (fun _ _ _ h => h) (Or.inl ⟨by rfl, ?_⟩) ?_ ?_
            rotate_left
            · intro w'
              go_simp
              with_reducible rfl
            rotate_left
            · simp only [Act.put, List.setIfInBounds_toArray, List.set_cons_zero, List.set_cons_succ, i64_w, i32_w]
              rfl
            refine pure_ (i := 19) (N := (some 63)) (v := ?_) (a' := ?_) #[true, true, true, true, true, true, true, true, true, true, true, true, true, true, true, true, true, true, true, true, false] rfl rfl (by kernel_rfl) (fun _ _ _ h => h) (Or.inl ⟨by rfl, ?_⟩) ?_ ?_
            rotate_left
            · intro w'
              go_simp
              with_reducible rfl
            rotate_left
            · simp only [Act.put, List.setIfInBounds_toArray, List.set_cons_zero, List.set_cons_succ, i64_w, i32_w]
              rfl
            refine last_ (i := 20) (N := none) #[true, true, true, true, true, true, true, true, true, true, true, true, true, true, true, true, true, true, true, true, true] rfl rfl (by kernel_rfl) (by decide) (fun K hK => ?_)
            have cz_ := (blk_cell hHeld.1 0).trans rfl
            have fz_ := blk_frozen hHeld.1 0
            refine store_step (w1 := ?w1_1) ?hg ?hN ?hr ?_; (case hg => rfl); (case hN => rfl); (case hr => first | (go_simp; done) | (go_simp; rfl))
            refine hK.out _ _ ?_
            clear hK K cz_ fz_
            refine done_ (by kernel_rfl) ?_
            clear hHeld hwm hwi hb1 hb2 htn
            go_wp2
            try clear hK1
            refine inLoop_gen (fun w' => Below w.heap.size w w' ∧ w'.heap[g2]? = some (.cells #[.int .u32 (st.a), .int .u32 (st.b), .int .u32 (st.c), .int .u32 (st.d), .int .u32 (st.e), .int .u32 (st.f), .int .u32 (st.g), .int .u32 (st.h)] 31 (0, 0)) ∧ w'.heap[g3]? = some (.cells #[.int .u32 ((orw (orw 0 (rd (spB a0) ((i : Nat) : Int)) 0) (rd (spB a0) ((i + 1 : Nat) : Int)) 1)), .int .u32 0, .int .u32 0, .int .u32 0] 23 (0, 0)) ∧ OwnC w' w.heap.size (.slice (some ⟨g1, 0, none⟩) (a0.size + 1 + zn a0.size + 8) cap1) (spB a0)) ⟨(by repeat (first | (with_reducible first | exact HB.out | apply below_alloc | apply pw_below_drewN | apply below_drew1 | refine below_set ?_ Gg2.out | refine below_set ?_ Gg3.out) | exact HB.out)), (Eq.trans (by (with_reducible repeat (first | exact Kg2.out | apply blk_set | apply far_put Ng2g3.out | apply far_put Ng2g3.out.symm | apply blk_drewN | apply blk_drew | apply blk_alloc))) (by first | rfl)), (Eq.trans (by (with_reducible repeat (first | exact Kg3.out | apply blk_set | apply far_put Ng2g3.out | apply far_put Ng2g3.out.symm | apply blk_drewN | apply blk_drew | apply blk_alloc))) (by first | rfl)), (by repeat (first | (with_reducible exact HC1.out) | (with_reducible exact OwnC.drew HC1.out) | refine OwnC.drew ?_ | refine OwnC.far ?_ N13.out _))⟩ ?_
            try clear K1
            intro wA hF
            clear HB HC1 Kg2 Kg3
            obtain ⟨n0_, n1_, n2_, n3_⟩ := hF
            have HB := Aside0.mk n0_
            have Kg2 := Aside0.mk n1_
            have Kg3 := Aside0.mk n2_
            have HC1 := Aside0.mk n3_
            clear n0_ n1_ n2_ n3_
            refine inLoop_k fun K1 hK1 => ?_
            go_wp2
            have hwm : wrap64 0 = 0 := by unfold wrap64; omega
            have hb1 : (0 ≤ (i : Int) + 2) = True := eq_true (by omega)
            have hb2 : ((i : Int) + 2 < (a0.size : Int) + 1 + (zn a0.size : Int) + 8) = True := eq_true (by have := HI.out; omega)
            have htn : ((i : Int) + 2).toNat = i + 2 := by omega
            have hwi : wrap64 ((i : Int) + 2) = (i : Int) + 2 := w64' _ (by omega) (by omega)
            refine start_ (n := 21) (S := fun w' => w'.heap[g3]? = some (.cells #[.int .u32 ((orw (orw 0 (rd (spB a0) ((i : Nat) : Int)) 0) (rd (spB a0) ((i + 1 : Nat) : Int)) 1)), .int .u32 0, .int .u32 0, .int .u32 0] 23 (0, 0)) ∧ w'.cell? ⟨g1, i + 2, none⟩ = some (.int .u8 (rd (spB a0) ((i + 2 : Nat) : Int)))) (ds := [20]) #[false, false, false, false, false, false, false, false, false, false, false, false, false, false, false, false, false, false, false, false, false] (by kernel_rfl) rfl rfl ⟨blk_drew Kg3.out, HC1.out.at (i + 2) (by have := HI.out; rw [spB_length]; omega)⟩ (fun hHeld => ?_)
            refine pure_ (i := 0) (N := (some 44)) (v := ?_) (a' := ?_) #[true, false, false, false, false, false, false, false, false, false, false, false, false, false, false, false, false, false, false, false, false] rfl rfl (by kernel_rfl) (fun _ _ _ h => h) (Or.inl ⟨by rfl, ?_⟩) ?_ ?_
            rotate_left
            · intro w'
              go_simp
              with_reducible rfl
            rotate_left
            · simp only [Act.put, List.setIfInBounds_toArray, List.set_cons_zero, List.set_cons_succ, i64_w, i32_w]
              rfl
            refine pure_ (i := 1) (N := (some 45)) (v := ?_) (a' := ?_) #[true, true, false, false, false, false, false, false, false, false, false, false, false, false, false, false, false, false, false, false, false] rfl rfl (by kernel_rfl) (fun _ _ _ h => h) (Or.inl ⟨by rfl, ?_⟩) ?_ ?_
            rotate_left
            · intro w'
              go_simp
              with_reducible rfl
            rotate_left
            · simp only [Act.put, List.setIfInBounds_toArray, List.set_cons_zero, List.set_cons_succ, i64_w, i32_w]
              rfl
            refine pure_ (i := 2) (N := (some 46)) (v := ?_) (a' := ?_) #[true, true, true, false, false, false, false, false, false, false, false, false, false, false, false, false, false, false, false, false, false] rfl rfl (by kernel_rfl) (fun _ _ _ h => h) (Or.inl ⟨by rfl, ?_⟩) ?_ ?_
            rotate_left
            · intro w'
              go_simp
              with_reducible rfl
            rotate_left
            · simp only [Act.put, List.setIfInBounds_toArray, List.set_cons_zero, List.set_cons_succ, i64_w, i32_w]
              rfl
            refine pure_ (i := 3) (N := (some 47)) (v := ?_) (a' := ?_) #[true, true, true, true, false, false, false, false, false, false, false, false, false, false, false, false, false, false, false, false, false] rfl rfl (by kernel_rfl) (fun _ _ _ h => h) (Or.inl ⟨by rfl, ?_⟩) ?_ ?_
            rotate_left
            · intro w'
              go_simp
              with_reducible rfl
            rotate_left
            · simp only [Act.put, List.setIfInBounds_toArray, List.set_cons_zero, List.set_cons_succ, i64_w, i32_w]
              rfl
            refine pure_ (i := 4) (N := (some 48)) (v := ?_) (a' := ?_) #[true, true, true, true, true, false, false, false, false, false, false, false, false, false, false, false, false, false, false, false, false] rfl rfl (by kernel_rfl) (fun _ _ _ h => h) (Or.inl ⟨by rfl, ?_⟩) ?_ ?_
            rotate_left
            · intro w'
              go_simp
              with_reducible rfl
            rotate_left
            · simp only [Act.put, List.setIfInBounds_toArray, List.set_cons_zero, List.set_cons_succ, i64_w, i32_w]
              rfl
            refine pure_ (i := 6) (N := (some 50)) (v := ?_) (a' := ?_) #[true, true, true, true, true, false, true, false, false, false, false, false, false, false, false, false, false, false, false, false, false] rfl rfl (by kernel_rfl) (fun _ _ _ h => h) (Or.inl ⟨by rfl, ?_⟩) ?_ ?_
            rotate_left
            · intro w'
              go_simp
              with_reducible rfl
            rotate_left
            · simp only [Act.put, List.setIfInBounds_toArray, List.set_cons_zero, List.set_cons_succ, i64_w, i32_w]
              rfl
            refine pure_ (i := 7) (N := (some 51)) (v := ?_) (a' := ?_) #[true, true, true, true, true, false, true, true, false, false, false, false, false, false, false, false, false, false, false, false, false] rfl rfl (by kernel_rfl) (fun _ _ _ h => h) (Or.inl ⟨by rfl, ?_⟩) ?_ ?_
            rotate_left
            · intro w'
              go_simp
              with_reducible rfl
            rotate_left
            · simp only [Act.put, List.setIfInBounds_toArray, List.set_cons_zero, List.set_cons_succ, i64_w, i32_w]
              rfl
            refine pure_ (i := 8) (N := (some 52)) (v := ?_) (a' := ?_) #[true, true, true, true, true, false, true, true, true, false, false, false, false, false, false, false, false, false, false, false, false] rfl rfl (by kernel_rfl) (fun _ _ _ h => h) (Or.inl ⟨by rfl, ?_⟩) ?_ ?_
            rotate_left
            · intro w'
              go_simp
              with_reducible rfl
            rotate_left
            · simp only [Act.put, List.setIfInBounds_toArray, List.set_cons_zero, List.set_cons_succ, i64_w, i32_w]
              rfl
            refine pure_ (i := 9) (N := (some 53)) (v := ?_) (a' := ?_) #[true, true, true, true, true, false, true, true, true, true, false, false, false, false, false, false, false, false, false, false, false] rfl rfl (by kernel_rfl) (fun _ _ _ h => h) (Or.inl ⟨by rfl, ?_⟩) ?_ ?_
            rotate_left
            · intro w'
              go_simp
              with_reducible rfl
            rotate_left
            · simp only [Act.put, List.setIfInBounds_toArray, List.set_cons_zero, List.set_cons_succ, i64_w, i32_w]
              rfl
            refine pure_ (i := 10) (N := (some 54)) (v := ?_) (a' := ?_) #[true, true, true, true, true, false, true, true, true, true, true, false, false, false, false, false, false, false, false, false, false] rfl rfl (by kernel_rfl) (fun _ _ _ h => h) (Or.inl ⟨by rfl, ?_⟩) ?_ ?_
            rotate_left
            · intro w'
              go_simp
              with_reducible rfl
            rotate_left
            · simp only [Act.put, List.setIfInBounds_toArray, List.set_cons_zero, List.set_cons_succ, i64_w, i32_w]
              rfl
            refine pure_ (i := 13) (N := (some 57)) (v := ?_) (a' := ?_) #[true, true, true, true, true, false, true, true, true, true, true, false, false, true, false, false, false, false, false, false, false] rfl rfl (by kernel_rfl) (fun _ _ _ h => h) (Or.inl ⟨by rfl, ?_⟩) ?_ ?_
            rotate_left
            · intro w'
              go_simp
              with_reducible rfl
            rotate_left
            · simp only [Act.put, List.setIfInBounds_toArray, List.set_cons_zero, List.set_cons_succ, i64_w, i32_w]
              rfl
            refine pure_ (i := 14) (N := (some 58)) (v := ?_) (a' := ?_) #[true, true, true, true, true, false, true, true, true, true, true, false, false, true, true, false, false, false, false, false, false] rfl rfl (by kernel_rfl) (fun _ _ _ h => h) (Or.inl ⟨by rfl, ?_⟩) ?_ ?_
            rotate_left
            · intro w'
              go_simp
              with_reducible rfl
            rotate_left
            · simp only [Act.put, List.setIfInBounds_toArray, List.set_cons_zero, List.set_cons_succ, i64_w, i32_w]
              rfl
            refine pure_ (i := 15) (N := (some 59)) (v := ?_) (a' := ?_) #[true, true, true, true, true, false, true, true, true, true, true, false, false, true, true, true, false, false, false, false, false] rfl rfl (by kernel_rfl) (fun _ _ _ h => h) (Or.inl ⟨by rfl, ?_⟩) ?_ ?_
            rotate_left
            · intro w'
              go_simp
              with_reducible rfl
            rotate_left
            · simp only [Act.put, List.setIfInBounds_toArray, List.set_cons_zero, List.set_cons_succ, i64_w, i32_w]
              rfl
            refine pure_ (i := 16) (N := (some 60)) (v := ?_) (a' := ?_) #[true, true, true, true, true, false, true, true, true, true, true, false, false, true, true, true, true, false, false, false, false] rfl rfl (by kernel_rfl) (fun _ _ _ h => h) (Or.inl ⟨by rfl, ?_⟩) ?_ ?_
            rotate_left
            · intro w'
              go_simp
              with_reducible rfl
            rotate_left
            · simp only [Act.put, List.setIfInBounds_toArray, List.set_cons_zero, List.set_cons_succ, i64_w, i32_w]
              rfl
            refine take_ (i := 5) (N := (some 49)) (v := ?_) (a' := ?_) #[true, true, true, true, true, true, true, true, true, true, true, false, false, true, true, true, true, false, false, false, false] rfl rfl (by kernel_rfl) (fun _ _ _ h => h) (Or.inl ⟨by rfl, ?_⟩) hHeld ?_ ?_
            rotate_left
            · intro w' hS_
              have cz_ := (blk_cell hS_.1 0).trans rfl
              go_simp
              with_reducible rfl
            rotate_left
            · simp only [Act.put, List.setIfInBounds_toArray, List.set_cons_zero, List.set_cons_succ, i64_w, i32_w]
              rfl
            refine take_ (i := 11) (N := (some 55)) (v := ?_) (a' := ?_) #[true, true, true, true, true, true, true, true, true, true, true, true, false, true, true, true, true, false, false, false, false] rfl rfl (by kernel_rfl) (fun _ _ _ h => h) (Or.inl ⟨by rfl, ?_⟩) hHeld ?_ ?_
            rotate_left
            · intro w' hS_
              have cz_ := hS_.2
              go_simp
              with_reducible rfl
            rotate_left
            · simp only [Act.put, List.setIfInBounds_toArray, List.set_cons_zero, List.set_cons_succ, i64_w, i32_w]
              rfl
            refine pure_ (i := 12) (N := (some 56)) (v := ?_) (a' := ?_) #[true, true, true, true, true, true, true, true, true, true, true, true, true, true, true, true, true, false, false, false, false] rfl rfl (by kernel_rfl) (fun _ _ _ h => h) (Or.inl ⟨by rfl, ?_⟩) ?_ ?_
            rotate_left
            · intro w'
              go_simp
              with_reducible rfl
            rotate_left
            · simp only [Act.put, List.setIfInBounds_toArray, List.set_cons_zero, List.set_cons_succ, i64_w, i32_w]
              rfl
            refine pure_ (i := 17) (N := (some 61)) (v := ?_) (a' := ?_) #[true, true, true, true, true, true, true, true, true, true, true, true, true, true, true, true, true, true, false, false, false] rfl rfl (by kernel_rfl) (fun _ _ _ h => h) (Or.inl ⟨by rfl, ?_⟩) ?_ ?_
            rotate_left
            · intro w'
              go_simp
              with_reducible rfl
            rotate_left
            · simp only [Act.put, List.setIfInBounds_toArray, List.set_cons_zero, List.set_cons_succ, i64_w, i32_w]
              rfl
            refine pure_ (i := 18) (N := (some 62)) (v := ?_) (a' := ?_) #[true, true, true, true, true, true, true, true, true, true, true, true, true, true, true, true, true, true, true, false, false] rfl rfl (by kernel_rfl) (fun _ _ _ h => h) (Or.inl ⟨by rfl, ?_⟩) ?_ ?_
            rotate_left
            · intro w'
              go_simp
              with_reducible rfl
            rotate_left
            · simp only [Act.put, List.setIfInBounds_toArray, List.set_cons_zero, List.set_cons_succ, i64_w, i32_w]
              rfl
            refine pure_ (i := 19) (N := (some 63)) (v := ?_) (a' := ?_) #[true, true, true, true, true, true, true, true, true, true, true, true, true, true, true, true, true, true, true, true, false] rfl rfl (by kernel_rfl) (fun _ _ _ h => h) (Or.inl ⟨by rfl, ?_⟩) ?_ ?_
            rotate_left
            · intro w'
              go_simp
              with_reducible rfl
            rotate_left
            · simp only [Act.put, List.setIfInBounds_toArray, List.set_cons_zero, List.set_cons_succ, i64_w, i32_w]
              rfl
            refine last_ (i := 20) (N := none) #[true, true, true, true, true, true, true, true, true, true, true, true, true, true, true, true, true, true, true, true, true] rfl rfl (by kernel_rfl) (by decide) (fun K hK => ?_)
            have cz_ := (blk_cell hHeld.1 0).trans rfl
            have fz_ := blk_frozen hHeld.1 0
            refine store_step (w1 := ?w1_2) ?hg ?hN ?hr ?_; (case hg => rfl); (case hN => rfl); (case hr => first | (go_simp; done) | (go_simp; rfl))
            refine hK.out _ _ ?_
            clear hK K cz_ fz_
            refine done_ (by kernel_rfl) ?_
            clear hHeld hwm hwi hb1 hb2 htn
            go_wp2
            try clear hK1
            refine inLoop_gen (fun w' => Below w.heap.size w w' ∧ w'.heap[g2]? = some (.cells #[.int .u32 (st.a), .int .u32 (st.b), .int .u32 (st.c), .int .u32 (st.d), .int .u32 (st.e), .int .u32 (st.f), .int .u32 (st.g), .int .u32 (st.h)] 31 (0, 0)) ∧ w'.heap[g3]? = some (.cells #[.int .u32 ((orw (orw (orw 0 (rd (spB a0) ((i : Nat) : Int)) 0) (rd (spB a0) ((i + 1 : Nat) : Int)) 1) (rd (spB a0) ((i + 2 : Nat) : Int)) 2)), .int .u32 0, .int .u32 0, .int .u32 0] 23 (0, 0)) ∧ OwnC w' w.heap.size (.slice (some ⟨g1, 0, none⟩) (a0.size + 1 + zn a0.size + 8) cap1) (spB a0)) ⟨(by repeat (first | (with_reducible first | exact HB.out | apply below_alloc | apply pw_below_drewN | apply below_drew1 | refine below_set ?_ Gg2.out | refine below_set ?_ Gg3.out) | exact HB.out)), (Eq.trans (by (with_reducible repeat (first | exact Kg2.out | apply blk_set | apply far_put Ng2g3.out | apply far_put Ng2g3.out.symm | apply blk_drewN | apply blk_drew | apply blk_alloc))) (by first | rfl)), (Eq.trans (by (with_reducible repeat (first | exact Kg3.out | apply blk_set | apply far_put Ng2g3.out | apply far_put Ng2g3.out.symm | apply blk_drewN | apply blk_drew | apply blk_alloc))) (by first | rfl)), (by repeat (first | (with_reducible exact HC1.out) | (with_reducible exact OwnC.drew HC1.out) | refine OwnC.drew ?_ | refine OwnC.far ?_ N13.out _))⟩ ?_
            try clear K1
            intro wA hF
            clear HB HC1 Kg2 Kg3
            obtain ⟨n0_, n1_, n2_, n3_⟩ := hF
            have HB := Aside0.mk n0_
            have Kg2 := Aside0.mk n1_
            have Kg3 := Aside0.mk n2_
            have HC1 := Aside0.mk n3_
            clear n0_ n1_ n2_ n3_
            refine inLoop_k fun K1 hK1 => ?_
            go_wp2
            have hwm : wrap64 0 = 0 := by unfold wrap64; omega
            have hb1 : (0 ≤ (i : Int) + 3) = True := eq_true (by omega)
            have hb2 : ((i : Int) + 3 < (a0.size : Int) + 1 + (zn a0.size : Int) + 8) = True := eq_true (by have := HI.out; omega)
            have htn : ((i : Int) + 3).toNat = i + 3 := by omega
            have hwi : wrap64 ((i : Int) + 3) = (i : Int) + 3 := w64' _ (by omega) (by omega)
            refine start_ (n := 21) (S := fun w' => w'.heap[g3]? = some (.cells #[.int .u32 ((orw (orw (orw 0 (rd (spB a0) ((i : Nat) : Int)) 0) (rd (spB a0) ((i + 1 : Nat) : Int)) 1) (rd (spB a0) ((i + 2 : Nat) : Int)) 2)), .int .u32 0, .int .u32 0, .int .u32 0] 23 (0, 0)) ∧ w'.cell? ⟨g1, i + 3, none⟩ = some (.int .u8 (rd (spB a0) ((i + 3 : Nat) : Int)))) (ds := [20]) #[false, false, false, false, false, false, false, false, false, false, false, false, false, false, false, false, false, false, false, false, false] (by kernel_rfl) rfl rfl ⟨blk_drew Kg3.out, HC1.out.at (i + 3) (by have := HI.out; rw [spB_length]; omega)⟩ (fun hHeld => ?_)
            refine pure_ (i := 0) (N := (some 44)) (v := ?_) (a' := ?_) #[true, false, false, false, false, false, false, false, false, false, false, false, false, false, false, false, false, false, false, false, false] rfl rfl (by kernel_rfl) (fun _ _ _ h => h) (Or.inl ⟨by rfl, ?_⟩) ?_ ?_
            rotate_left
            · intro w'
              go_simp
              with_reducible rfl
            rotate_left
            · simp only [Act.put, List.setIfInBounds_toArray, List.set_cons_zero, List.set_cons_succ, i64_w, i32_w]
              rfl
            refine pure_ (i := 1) (N := (some 45)) (v := ?_) (a' := ?_) #[true, true, false, false, false, false, false, false, false, false, false, false, false, false, false, false, false, false, false, false, false] rfl rfl (by kernel_rfl) (fun _ _ _ h => h) (Or.inl ⟨by rfl, ?_⟩) ?_ ?_
            rotate_left
            · intro w'
              go_simp
              with_reducible rfl
            rotate_left
            · simp only [Act.put, List.setIfInBounds_toArray, List.set_cons_zero, List.set_cons_succ, i64_w, i32_w]
              rfl
            refine pure_ (i := 2) (N := (some 46)) (v := ?_) (a' := ?_) #[true, true, true, false, false, false, false, false, false, false, false, false, false, false, false, false, false, false, false, false, false] rfl rfl (by kernel_rfl) (fun _ _ _ h => h) (Or.inl ⟨by rfl, ?_⟩) ?_ ?_
            rotate_left
            · intro w'
              go_simp
              with_reducible rfl
            rotate_left
            · simp only [Act.put, List.setIfInBounds_toArray, List.set_cons_zero, List.set_cons_succ, i64_w, i32_w]
              rfl
            refine pure_ (i := 3) (N := (some 47)) (v := ?_) (a' := ?_) #[true, true, true, true, false, false, false, false, false, false, false, false, false, false, false, false, false, false, false, false, false] rfl rfl (by kernel_rfl) (fun _ _ _ h => h) (Or.inl ⟨by rfl, ?_⟩) ?_ ?_
            rotate_left
            · intro w'
              go_simp
              with_reducible rfl
            rotate_left
            · simp only [Act.put, List.setIfInBounds_toArray, List.set_cons_zero, List.set_cons_succ, i64_w, i32_w]
              rfl
            refine pure_ (i := 4) (N := (some 48)) (v := ?_) (a' := ?_) #[true, true, true, true, true, false, false, false, false, false, false, false, false, false, false, false, false, false, false, false, false] rfl rfl (by kernel_rfl) (fun _ _ _ h => h) (Or.inl ⟨by rfl, ?_⟩) ?_ ?_
            rotate_left
            · intro w'
              go_simp
              with_reducible rfl
            rotate_left
            · simp only [Act.put, List.setIfInBounds_toArray, List.set_cons_zero, List.set_cons_succ, i64_w, i32_w]
              rfl
            refine pure_ (i := 6) (N := (some 50)) (v := ?_) (a' := ?_) #[true, true, true, true, true, false, true, false, false, false, false, false, false, false, false, false, false, false, false, false, false] rfl rfl (by kernel_rfl) (fun _ _ _ h => h) (Or.inl ⟨by rfl, ?_⟩) ?_ ?_
            rotate_left
            · intro w'
              go_simp
              with_reducible rfl
            rotate_left
            · simp only [Act.put, List.setIfInBounds_toArray, List.set_cons_zero, List.set_cons_succ, i64_w, i32_w]
              rfl
            refine pure_ (i := 7) (N := (some 51)) (v := ?_) (a' := ?_) #[true, true, true, true, true, false, true, true, false, false, false, false, false, false, false, false, false, false, false, false, false] rfl rfl (by kernel_rfl) (fun _ _ _ h => h) (Or.inl ⟨by rfl, ?_⟩) ?_ ?_
            rotate_left
            · intro w'
              go_simp
              with_reducible rfl
            rotate_left
            · simp only [Act.put, List.setIfInBounds_toArray, List.set_cons_zero, List.set_cons_succ, i64_w, i32_w]
              rfl
            refine pure_ (i := 8) (N := (some 52)) (v := ?_) (a' := ?_) #[true, true, true, true, true, false, true, true, true, false, false, false, false, false, false, false, false, false, false, false, false] rfl rfl (by kernel_rfl) (fun _ _ _ h => h) (Or.inl ⟨by rfl, ?_⟩) ?_ ?_
            rotate_left
            · intro w'
              go_simp
              with_reducible rfl
            rotate_left
            · simp only [Act.put, List.setIfInBounds_toArray, List.set_cons_zero, List.set_cons_succ, i64_w, i32_w]
              rfl
            refine pure_ (i := 9) (N := (some 53)) (v := ?_) (a' := ?_) #[true, true, true, true, true, false, true, true, true, true, false, false, false, false, false, false, false, false, false, false, false] rfl rfl (by kernel_rfl) (fun _ _ _ h => h) (Or.inl ⟨by rfl, ?_⟩) ?_ ?_
            rotate_left
            · intro w'
              go_simp
              with_reducible rfl
            rotate_left
            · simp only [Act.put, List.setIfInBounds_toArray, List.set_cons_zero, List.set_cons_succ, i64_w, i32_w]
              rfl
            refine pure_ (i := 10) (N := (some 54)) (v := ?_) (a' := ?_) #[true, true, true, true, true, false, true, true, true, true, true, false, false, false, false, false, false, false, false, false, false] rfl rfl (by kernel_rfl) (fun _ _ _ h => h) (Or.inl ⟨by rfl, ?_⟩) ?_ ?_
            rotate_left
            · intro w'
              go_simp
              with_reducible rfl
            rotate_left
            · simp only [Act.put, List.setIfInBounds_toArray, List.set_cons_zero, List.set_cons_succ, i64_w, i32_w]
              rfl
            refine pure_ (i := 13) (N := (some 57)) (v := ?_) (a' := ?_) #[true, true, true, true, true, false, true, true, true, true, true, false, false, true, false, false, false, false, false, false, false] rfl rfl (by kernel_rfl) (fun _ _ _ h => h) (Or.inl ⟨by rfl, ?_⟩) ?_ ?_
            rotate_left
            · intro w'
              go_simp
              with_reducible rfl
            rotate_left
            · simp only [Act.put, List.setIfInBounds_toArray, List.set_cons_zero, List.set_cons_succ, i64_w, i32_w]
              rfl
            refine pure_ (i := 14) (N := (some 58)) (v := ?_) (a' := ?_) #[true, true, true, true, true, false, true, true, true, true, true, false, false, true, true, false, false, false, false, false, false] rfl rfl (by kernel_rfl) (fun _ _ _ h => h) (Or.inl ⟨by rfl, ?_⟩) ?_ ?_
            rotate_left
            · intro w'
              go_simp
              with_reducible rfl
            rotate_left
            · simp only [Act.put, List.setIfInBounds_toArray, List.set_cons_zero, List.set_cons_succ, i64_w, i32_w]
              rfl
            refine pure_ (i := 15) (N := (some 59)) (v := ?_) (a' := ?_) #[true, true, true, true, true, false, true, true, true, true, true, false, false, true, true, true, false, false, false, false, false] rfl rfl (by kernel_rfl) (fun _ _ _ h => h) (Or.inl ⟨by rfl, ?_⟩) ?_ ?_
            rotate_left
            · intro w'
              go_simp
              with_reducible rfl
            rotate_left
            · simp only [Act.put, List.setIfInBounds_toArray, List.set_cons_zero, List.set_cons_succ, i64_w, i32_w]
              rfl
            refine pure_ (i := 16) (N := (some 60)) (v := ?_) (a' := ?_) #[true, true, true, true, true, false, true, true, true, true, true, false, false, true, true, true, true, false, false, false, false] rfl rfl (by kernel_rfl) (fun _ _ _ h => h) (Or.inl ⟨by rfl, ?_⟩) ?_ ?_
            rotate_left
            · intro w'
              go_simp
              with_reducible rfl
            rotate_left
            · simp only [Act.put, List.setIfInBounds_toArray, List.set_cons_zero, List.set_cons_succ, i64_w, i32_w]
              rfl
            refine take_ (i := 5) (N := (some 49)) (v := ?_) (a' := ?_) #[true, true, true, true, true, true, true, true, true, true, true, false, false, true, true, true, true, false, false, false, false] rfl rfl (by kernel_rfl) (fun _ _ _ h => h) (Or.inl ⟨by rfl, ?_⟩) hHeld ?_ ?_
            rotate_left
            · intro w' hS_
              have cz_ := (blk_cell hS_.1 0).trans rfl
              go_simp
              with_reducible rfl
            rotate_left
            · simp only [Act.put, List.setIfInBounds_toArray, List.set_cons_zero, List.set_cons_succ, i64_w, i32_w]
              rfl
            refine take_ (i := 11) (N := (some 55)) (v := ?_) (a' := ?_) #[true, true, true, true, true, true, true, true, true, true, true, true, false, true, true, true, true, false, false, false, false] rfl rfl (by kernel_rfl) (fun _ _ _ h => h) (Or.inl ⟨by rfl, ?_⟩) hHeld ?_ ?_
            rotate_left
            · intro w' hS_
              have cz_ := hS_.2
              go_simp
              with_reducible rfl
            rotate_left
            · simp only [Act.put, List.setIfInBounds_toArray, List.set_cons_zero, List.set_cons_succ, i64_w, i32_w]
              rfl
            refine pure_ (i := 12) (N := (some 56)) (v := ?_) (a' := ?_) #[true, true, true, true, true, true, true, true, true, true, true, true, true, true, true, true, true, false, false, false, false] rfl rfl (by kernel_rfl) (fun _ _ _ h => h) (Or.inl ⟨by rfl, ?_⟩) ?_ ?_
            rotate_left
            · intro w'
              go_simp
              with_reducible rfl
            rotate_left
            · simp only [Act.put, List.setIfInBounds_toArray, List.set_cons_zero, List.set_cons_succ, i64_w, i32_w]
              rfl
            refine pure_ (i := 17) (N := (some 61)) (v := ?_) (a' := ?_) #[true, true, true, true, true, true, true, true, true, true, true, true, true, true, true, true, true, true, false, false, false] rfl rfl (by kernel_rfl) (fun _ _ _ h => h) (Or.inl ⟨by rfl, ?_⟩) ?_ ?_
            rotate_left
            · intro w'
              go_simp
              with_reducible rfl
            rotate_left
            · simp only [Act.put, List.setIfInBounds_toArray, List.set_cons_zero, List.set_cons_succ, i64_w, i32_w]
              rfl
            refine pure_ (i := 18) (N := (some 62)) (v := ?_) (a' := ?_) #[true, true, true, true, true, true, true, true, true, true, true, true, true, true, true, true, true, true, true, false, false] rfl rfl (by kernel_rfl) (fun _ _ _ h => h) (Or.inl ⟨by rfl, ?_⟩) ?_ ?_
            rotate_left
            · intro w'
              go_simp
              with_reducible rfl
            rotate_left
            · simp only [Act.put, List.setIfInBounds_toArray, List.set_cons_zero, List.set_cons_succ, i64_w, i32_w]
              rfl
            refine pure_ (i := 19) (N := (some 63)) (v := ?_) (a' := ?_) #[true, true, true, true, true, true, true, true, true, true, true, true, true, true, true, true, true, true, true, true, false] rfl rfl (by kernel_rfl) (fun _ _ _ h => h) (Or.inl ⟨by rfl, ?_⟩) ?_ ?_
            rotate_left
            · intro w'
              go_simp
              with_reducible rfl
            rotate_left
            · simp only [Act.put, List.setIfInBounds_toArray, List.set_cons_zero, List.set_cons_succ, i64_w, i32_w]
              rfl
            refine last_ (i := 20) (N := none) #[true, true, true, true, true, true, true, true, true, true, true, true, true, true, true, true, true, true, true, true, true] rfl rfl (by kernel_rfl) (by decide) (fun K hK => ?_)
            have cz_ := (blk_cell hHeld.1 0).trans rfl
            have fz_ := blk_frozen hHeld.1 0
            refine store_step (w1 := ?w1_3) ?hg ?hN ?hr ?_; (case hg => rfl); (case hN => rfl); (case hr => first | (go_simp; done) | (go_simp; rfl))
            refine hK.out _ _ ?_
            clear hK K cz_ fz_
            refine done_ (by kernel_rfl) ?_
            clear hHeld hwm hwi hb1 hb2 htn
            go_wp2
            try clear hK1
            refine inLoop_gen (fun w' => Below w.heap.size w w' ∧ w'.heap[g2]? = some (.cells #[.int .u32 (st.a), .int .u32 (st.b), .int .u32 (st.c), .int .u32 (st.d), .int .u32 (st.e), .int .u32 (st.f), .int .u32 (st.g), .int .u32 (st.h)] 31 (0, 0)) ∧ w'.heap[g3]? = some (.cells #[.int .u32 ((orw (orw (orw (orw 0 (rd (spB a0) ((i : Nat) : Int)) 0) (rd (spB a0) ((i + 1 : Nat) : Int)) 1) (rd (spB a0) ((i + 2 : Nat) : Int)) 2) (rd (spB a0) ((i + 3 : Nat) : Int)) 3)), .int .u32 0, .int .u32 0, .int .u32 0] 23 (0, 0)) ∧ OwnC w' w.heap.size (.slice (some ⟨g1, 0, none⟩) (a0.size + 1 + zn a0.size + 8) cap1) (spB a0)) ⟨(by repeat (first | (with_reducible first | exact HB.out | apply below_alloc | apply pw_below_drewN | apply below_drew1 | refine below_set ?_ Gg2.out | refine below_set ?_ Gg3.out) | exact HB.out)), (Eq.trans (by (with_reducible repeat (first | exact Kg2.out | apply blk_set | apply far_put Ng2g3.out | apply far_put Ng2g3.out.symm | apply blk_drewN | apply blk_drew | apply blk_alloc))) (by first | rfl)), (Eq.trans (by (with_reducible repeat (first | exact Kg3.out | apply blk_set | apply far_put Ng2g3.out | apply far_put Ng2g3.out.symm | apply blk_drewN | apply blk_drew | apply blk_alloc))) (by first | rfl)), (by repeat (first | (with_reducible exact HC1.out) | (with_reducible exact OwnC.drew HC1.out) | refine OwnC.drew ?_ | refine OwnC.far ?_ N13.out _))⟩ ?_
            try clear K1
            intro wA hF
            clear HB HC1 Kg2 Kg3
            obtain ⟨n0_, n1_, n2_, n3_⟩ := hF
            have HB := Aside0.mk n0_
            have Kg2 := Aside0.mk n1_
            have Kg3 := Aside0.mk n2_
            have HC1 := Aside0.mk n3_
            clear n0_ n1_ n2_ n3_
            refine inLoop_k fun K1 hK1 => ?_
            go_wp2
            have hwm : wrap64 1 = 1 := by unfold wrap64; omega
            have hb1 : (0 ≤ (i : Int) + 4) = True := eq_true (by omega)
            have hb2 : ((i : Int) + 4 < (a0.size : Int) + 1 + (zn a0.size : Int) + 8) = True := eq_true (by have := HI.out; omega)
            have htn : ((i : Int) + 4).toNat = i + 4 := by omega
            have hwi : wrap64 ((i : Int) + 4) = (i : Int) + 4 := w64' _ (by omega) (by omega)
            refine start_ (n := 21) (S := fun w' => w'.heap[g3]? = some (.cells #[.int .u32 ((orw (orw (orw (orw 0 (rd (spB a0) ((i : Nat) : Int)) 0) (rd (spB a0) ((i + 1 : Nat) : Int)) 1) (rd (spB a0) ((i + 2 : Nat) : Int)) 2) (rd (spB a0) ((i + 3 : Nat) : Int)) 3)), .int .u32 0, .int .u32 0, .int .u32 0] 23 (0, 0)) ∧ w'.cell? ⟨g1, i + 4, none⟩ = some (.int .u8 (rd (spB a0) ((i + 4 : Nat) : Int)))) (ds := [20]) #[false, false, false, false, false, false, false, false, false, false, false, false, false, false, false, false, false, false, false, false, false] (by kernel_rfl) rfl rfl ⟨blk_drew Kg3.out, HC1.out.at (i + 4) (by have := HI.out; rw [spB_length]; omega)⟩ (fun hHeld => ?_)
            refine pure_ (i := 0) (N := (some 44)) (v := ?_) (a' := ?_) #[true, false, false, false, false, false, false, false, false, false, false, false, false, false, false, false, false, false, false, false, false] rfl rfl (by kernel_rfl) (fun _ _ _ h => h) (Or.inl ⟨by rfl, ?_⟩) ?_ ?_
            rotate_left
            · intro w'
              go_simp
              with_reducible rfl
            rotate_left
            · simp only [Act.put, List.setIfInBounds_toArray, List.set_cons_zero, List.set_cons_succ, i64_w, i32_w]
              rfl
            refine pure_ (i := 1) (N := (some 45)) (v := ?_) (a' := ?_) #[true, true, false, false, false, false, false, false, false, false, false, false, false, false, false, false, false, false, false, false, false] rfl rfl (by kernel_rfl) (fun _ _ _ h => h) (Or.inl ⟨by rfl, ?_⟩) ?_ ?_
            rotate_left
            · intro w'
              go_simp
              with_reducible rfl
            rotate_left
            · simp only [Act.put, List.setIfInBounds_toArray, List.set_cons_zero, List.set_cons_succ, i64_w, i32_w]
              rfl
            refine pure_ (i := 2) (N := (some 46)) (v := ?_) (a' := ?_) #[true, true, true, false, false, false, false, false, false, false, false, false, false, false, false, false, false, false, false, false, false] rfl rfl (by kernel_rfl) (fun _ _ _ h => h) (Or.inl ⟨by rfl, ?_⟩) ?_ ?_
            rotate_left
            · intro w'
              go_simp
              with_reducible rfl
            rotate_left
            · simp only [Act.put, List.setIfInBounds_toArray, List.set_cons_zero, List.set_cons_succ, i64_w, i32_w]
              rfl
            refine pure_ (i := 3) (N := (some 47)) (v := ?_) (a' := ?_) #[true, true, true, true, false, false, false, false, false, false, false, false, false, false, false, false, false, false, false, false, false] rfl rfl (by kernel_rfl) (fun _ _ _ h => h) (Or.inl ⟨by rfl, ?_⟩) ?_ ?_
            rotate_left
            · intro w'
              go_simp
              with_reducible rfl
            rotate_left
            · simp only [Act.put, List.setIfInBounds_toArray, List.set_cons_zero, List.set_cons_succ, i64_w, i32_w]
              rfl
            refine pure_ (i := 4) (N := (some 48)) (v := ?_) (a' := ?_) #[true, true, true, true, true, false, false, false, false, false, false, false, false, false, false, false, false, false, false, false, false] rfl rfl (by kernel_rfl) (fun _ _ _ h => h) (Or.inl ⟨by rfl, ?_⟩) ?_ ?_
            rotate_left
            · intro w'
              go_simp
              with_reducible rfl
            rotate_left
            · simp only [Act.put, List.setIfInBounds_toArray, List.set_cons_zero, List.set_cons_succ, i64_w, i32_w]
              rfl
            refine pure_ (i := 6) (N := (some 50)) (v := ?_) (a' := ?_) #[true, true, true, true, true, false, true, false, false, false, false, false, false, false, false, false, false, false, false, false, false] rfl rfl (by kernel_rfl) (fun _ _ _ h => h) (Or.inl ⟨by rfl, ?_⟩) ?_ ?_
            rotate_left
            · intro w'
              go_simp
              with_reducible rfl
            rotate_left
            · simp only [Act.put, List.setIfInBounds_toArray, List.set_cons_zero, List.set_cons_succ, i64_w, i32_w]
              rfl
            refine pure_ (i := 7) (N := (some 51)) (v := ?_) (a' := ?_) #[true, true, true, true, true, false, true, true, false, false, false, false, false, false, false, false, false, false, false, false, false] rfl rfl (by kernel_rfl) (fun _ _ _ h => h) (Or.inl ⟨by rfl, ?_⟩) ?_ ?_
            rotate_left
            · intro w'
              go_simp
              with_reducible rfl
            rotate_left
            · simp only [Act.put, List.setIfInBounds_toArray, List.set_cons_zero, List.set_cons_succ, i64_w, i32_w]
              rfl
            refine pure_ (i := 8) (N := (some 52)) (v := ?_) (a' := ?_) #[true, true, true, true, true, false, true, true, true, false, false, false, false, false, false, false, false, false, false, false, false] rfl rfl (by kernel_rfl) (fun _ _ _ h => h) (Or.inl ⟨by rfl, ?_⟩) ?_ ?_
            rotate_left
            · intro w'
              go_simp
              with_reducible rfl
            rotate_left
            · simp only [Act.put, List.setIfInBounds_toArray, List.set_cons_zero, List.set_cons_succ, i64_w, i32_w]
              rfl
            refine pure_ (i := 9) (N := (some 53)) (v := ?_) (a' := ?_) #[true, true, true, true, true, false, true, true, true, true, false, false, false, false, false, false, false, false, false, false, false] rfl rfl (by kernel_rfl) (fun _ _ _ h => h) (Or.inl ⟨by rfl, ?_⟩) ?_ ?_
            rotate_left
            · intro w'
              go_simp
              with_reducible rfl
            rotate_left
            · simp only [Act.put, List.setIfInBounds_toArray, List.set_cons_zero, List.set_cons_succ, i64_w, i32_w]
              rfl
            refine pure_ (i := 10) (N := (some 54)) (v := ?_) (a' := ?_) #[true, true, true, true, true, false, true, true, true, true, true, false, false, false, false, false, false, false, false, false, false] rfl rfl (by kernel_rfl) (fun _ _ _ h => h) (Or.inl ⟨by rfl, ?_⟩) ?_ ?_
            rotate_left
            · intro w'
              go_simp
              with_reducible rfl
            rotate_left
            · simp only [Act.put, List.setIfInBounds_toArray, List.set_cons_zero, List.set_cons_succ, i64_w, i32_w]
              rfl
            refine pure_ (i := 13) (N := (some 57)) (v := ?_) (a' := ?_) #[true, true, true, true, true, false, true, true, true, true, true, false, false, true, false, false, false, false, false, false, false] rfl rfl (by kernel_rfl) (fun _ _ _ h => h) (Or.inl ⟨by rfl, ?_⟩) ?_ ?_
            rotate_left
            · intro w'
              go_simp
              with_reducible rfl
            rotate_left
            · simp only [Act.put, List.setIfInBounds_toArray, List.set_cons_zero, List.set_cons_succ, i64_w, i32_w]
              rfl
            refine pure_ (i := 14) (N := (some 58)) (v := ?_) (a' := ?_) #[true, true, true, true, true, false, true, true, true, true, true, false, false, true, true, false, false, false, false, false, false] rfl rfl (by kernel_rfl) (fun _ _ _ h => h) (Or.inl ⟨by rfl, ?_⟩) ?_ ?_
            rotate_left
            · intro w'
              go_simp
              with_reducible rfl
            rotate_left
            · simp only [Act.put, List.setIfInBounds_toArray, List.set_cons_zero, List.set_cons_succ, i64_w, i32_w]
              rfl
            refine pure_ (i := 15) (N := (some 59)) (v := ?_) (a' := ?_) #[true, true, true, true, true, false, true, true, true, true, true, false, false, true, true, true, false, false, false, false, false] rfl rfl (by kernel_rfl) (fun _ _ _ h => h) (Or.inl ⟨by rfl, ?_⟩) ?_ ?_
            rotate_left
            · intro w'
              go_simp
              with_reducible rfl
            rotate_left
            · simp only [Act.put, List.setIfInBounds_toArray, List.set_cons_zero, List.set_cons_succ, i64_w, i32_w]
              rfl
            refine pure_ (i := 16) (N := (some 60)) (v := ?_) (a' := ?_) #[true, true, true, true, true, false, true, true, true, true, true, false, false, true, true, true, true, false, false, false, false] rfl rfl (by kernel_rfl) (fun _ _ _ h => h) (Or.inl ⟨by rfl, ?_⟩) ?_ ?_
            rotate_left
            · intro w'
              go_simp
              with_reducible rfl
            rotate_left
            · simp only [Act.put, List.setIfInBounds_toArray, List.set_cons_zero, List.set_cons_succ, i64_w, i32_w]
              rfl
            refine take_ (i := 5) (N := (some 49)) (v := ?_) (a' := ?_) #[true, true, true, true, true, true, true, true, true, true, true, false, false, true, true, true, true, false, false, false, false] rfl rfl (by kernel_rfl) (fun _ _ _ h => h) (Or.inl ⟨by rfl, ?_⟩) hHeld ?_ ?_
            rotate_left
            · intro w' hS_
              have cz_ := (blk_cell hS_.1 1).trans rfl
              go_simp
              with_reducible rfl
            rotate_left
            · simp only [Act.put, List.setIfInBounds_toArray, List.set_cons_zero, List.set_cons_succ, i64_w, i32_w]
              rfl
            refine take_ (i := 11) (N := (some 55)) (v := ?_) (a' := ?_) #[true, true, true, true, true, true, true, true, true, true, true, true, false, true, true, true, true, false, false, false, false] rfl rfl (by kernel_rfl) (fun _ _ _ h => h) (Or.inl ⟨by rfl, ?_⟩) hHeld ?_ ?_
            rotate_left
            · intro w' hS_
              have cz_ := hS_.2
              go_simp
              with_reducible rfl
            rotate_left
            · simp only [Act.put, List.setIfInBounds_toArray, List.set_cons_zero, List.set_cons_succ, i64_w, i32_w]
              rfl
            refine pure_ (i := 12) (N := (some 56)) (v := ?_) (a' := ?_) #[true, true, true, true, true, true, true, true, true, true, true, true, true, true, true, true, true, false, false, false, false] rfl rfl (by kernel_rfl) (fun _ _ _ h => h) (Or.inl ⟨by rfl, ?_⟩) ?_ ?_
            rotate_left
            · intro w'
              go_simp
              with_reducible rfl
            rotate_left
            · simp only [Act.put, List.setIfInBounds_toArray, List.set_cons_zero, List.set_cons_succ, i64_w, i32_w]
              rfl
            refine pure_ (i := 17) (N := (some 61)) (v := ?_) (a' := ?_) #[true, true, true, true, true, true, true, true, true, true, true, true, true, true, true, true, true, true, false, false, false] rfl rfl (by kernel_rfl) (fun _ _ _ h => h) (Or.inl ⟨by rfl, ?_⟩) ?_ ?_
            rotate_left
            · intro w'
              go_simp
              with_reducible rfl
            rotate_left
            · simp only [Act.put, List.setIfInBounds_toArray, List.set_cons_zero, List.set_cons_succ, i64_w, i32_w]
              rfl
            refine pure_ (i := 18) (N := (some 62)) (v := ?_) (a' := ?_) #[true, true, true, true, true, true, true, true, true, true, true, true, true, true, true, true, true, true, true, false, false] rfl rfl (by kernel_rfl) (fun _ _ _ h => h) (Or.inl ⟨by rfl, ?_⟩) ?_ ?_
            rotate_left
            · intro w'
              go_simp
              with_reducible rfl
            rotate_left
            · simp only [Act.put, List.setIfInBounds_toArray, List.set_cons_zero, List.set_cons_succ, i64_w, i32_w]
              rfl
            refine pure_ (i := 19) (N := (some 63)) (v := ?_) (a' := ?_) #[true, true, true, true, true, true, true, true, true, true, true, true, true, true, true, true, true, true, true, true, false] rfl rfl (by kernel_rfl) (fun _ _ _ h => h) (Or.inl ⟨by rfl, ?_⟩) ?_ ?_
            rotate_left
            · intro w'
              go_simp
              with_reducible rfl
            rotate_left
            · simp only [Act.put, List.setIfInBounds_toArray, List.set_cons_zero, List.set_cons_succ, i64_w, i32_w]
              rfl
            refine last_ (i := 20) (N := none) #[true, true, true, true, true, true, true, true, true, true, true, true, true, true, true, true, true, true, true, true, true] rfl rfl (by kernel_rfl) (by decide) (fun K hK => ?_)
            have cz_ := (blk_cell hHeld.1 1).trans rfl
            have fz_ := blk_frozen hHeld.1 1
            refine store_step (w1 := ?w1_4) ?hg ?hN ?hr ?_; (case hg => rfl); (case hN => rfl); (case hr => first | (go_simp; done) | (go_simp; rfl))
            refine hK.out _ _ ?_
            clear hK K cz_ fz_
            refine done_ (by kernel_rfl) ?_
            clear hHeld hwm hwi hb1 hb2 htn
            go_wp2
            try clear hK1
            refine inLoop_gen (fun w' => Below w.heap.size w w' ∧ w'.heap[g2]? = some (.cells #[.int .u32 (st.a), .int .u32 (st.b), .int .u32 (st.c), .int .u32 (st.d), .int .u32 (st.e), .int .u32 (st.f), .int .u32 (st.g), .int .u32 (st.h)] 31 (0, 0)) ∧ w'.heap[g3]? = some (.cells #[.int .u32 ((orw (orw (orw (orw 0 (rd (spB a0) ((i : Nat) : Int)) 0) (rd (spB a0) ((i + 1 : Nat) : Int)) 1) (rd (spB a0) ((i + 2 : Nat) : Int)) 2) (rd (spB a0) ((i + 3 : Nat) : Int)) 3)), .int .u32 ((orw 0 (rd (spB a0) ((i + 4 : Nat) : Int)) 0)), .int .u32 0, .int .u32 0] 23 (0, 0)) ∧ OwnC w' w.heap.size (.slice (some ⟨g1, 0, none⟩) (a0.size + 1 + zn a0.size + 8) cap1) (spB a0)) ⟨(by repeat (first | (with_reducible first | exact HB.out | apply below_alloc | apply pw_below_drewN | apply below_drew1 | refine below_set ?_ Gg2.out | refine below_set ?_ Gg3.out) | exact HB.out)), (Eq.trans (by (with_reducible repeat (first | exact Kg2.out | apply blk_set | apply far_put Ng2g3.out | apply far_put Ng2g3.out.symm | apply blk_drewN | apply blk_drew | apply blk_alloc))) (by first | rfl)), (Eq.trans (by (with_reducible repeat (first | exact Kg3.out | apply blk_set | apply far_put Ng2g3.out | apply far_put Ng2g3.out.symm | apply blk_drewN | apply blk_drew | apply blk_alloc))) (by first | rfl)), (by repeat (first | (with_reducible exact HC1.out) | (with_reducible exact OwnC.drew HC1.out) | refine OwnC.drew ?_ | refine OwnC.far ?_ N13.out _))⟩ ?_
            try clear K1
            intro wA hF
            clear HB HC1 Kg2 Kg3
            obtain ⟨n0_, n1_, n2_, n3_⟩ := hF
            have HB := Aside0.mk n0_
            have Kg2 := Aside0.mk n1_
            have Kg3 := Aside0.mk n2_
            have HC1 := Aside0.mk n3_
            clear n0_ n1_ n2_ n3_
            refine inLoop_k fun K1 hK1 => ?_
            go_wp2
            have hwm : wrap64 1 = 1 := by unfold wrap64; omega
            have hb1 : (0 ≤ (i : Int) + 5) = True := eq_true (by omega)
            have hb2 : ((i : Int) + 5 < (a0.size : Int) + 1 + (zn a0.size : Int) + 8) = True := eq_true (by have := HI.out; omega)
            have htn : ((i : Int) + 5).toNat = i + 5 := by omega
            have hwi : wrap64 ((i : Int) + 5) = (i : Int) + 5 := w64' _ (by omega) (by omega)
            refine start_ (n := 21) (S := fun w' => w'.heap[g3]? = some (.cells #[.int .u32 ((orw (orw (orw (orw 0 (rd (spB a0) ((i : Nat) : Int)) 0) (rd (spB a0) ((i + 1 : Nat) : Int)) 1) (rd (spB a0) ((i + 2 : Nat) : Int)) 2) (rd (spB a0) ((i + 3 : Nat) : Int)) 3)), .int .u32 ((orw 0 (rd (spB a0) ((i + 4 : Nat) : Int)) 0)), .int .u32 0, .int .u32 0] 23 (0, 0)) ∧ w'.cell? ⟨g1, i + 5, none⟩ = some (.int .u8 (rd (spB a0) ((i + 5 : Nat) : Int)))) (ds := [20]) #[false, false, false, false, false, false, false, false, false, false, false, false, false, false, false, false, false, false, false, false, false] (by kernel_rfl) rfl rfl ⟨blk_drew Kg3.out, HC1.out.at (i + 5) (by have := HI.out; rw [spB_length]; omega)⟩ (fun hHeld => ?_)
            refine pure_ (i := 0) (N := (some 44)) (v := ?_) (a' := ?_) #[true, false, false, false, false, false, false, false, false, false, false, false, false, false, false, false, false, false, false, false, false] rfl rfl (by kernel_rfl) (fun _ _ _ h => h) (Or.inl ⟨by rfl, ?_⟩) ?_ ?_
            rotate_left
            · intro w'
              go_simp
              with_reducible rfl
            rotate_left
            · simp only [Act.put, List.setIfInBounds_toArray, List.set_cons_zero, List.set_cons_succ, i64_w, i32_w]
              rfl
            refine pure_ (i := 1) (N := (some 45)) (v := ?_) (a' := ?_) #[true, true, false, false, false, false, false, false, false, false, false, false, false, false, false, false, false, false, false, false, false] rfl rfl (by kernel_rfl) (fun _ _ _ h => h) (Or.inl ⟨by rfl, ?_⟩) ?_ ?_
            rotate_left
            · intro w'
              go_simp
              with_reducible rfl
            rotate_left
            · simp only [Act.put, List.setIfInBounds_toArray, List.set_cons_zero, List.set_cons_succ, i64_w, i32_w]
              rfl
            refine pure_ (i := 2) (N := (some 46)) (v := ?_) (a' := ?_) #[true, true, true, false, false, false, false, false, false, false, false, false, false, false, false, false, false, false, false, false, false] rfl rfl (by kernel_rfl) (fun _ _ _ h => h) (Or.inl ⟨by rfl, ?_⟩) ?_ ?_
            rotate_left
            · intro w'
              go_simp
              with_reducible rfl
            rotate_left
            · simp only [Act.put, List.setIfInBounds_toArray, List.set_cons_zero, List.set_cons_succ, i64_w, i32_w]
              rfl
            refine pure_ (i := 3) (N := (some 47)) (v := ?_) (a' := ?_) #[true, true, true, true, false, false, false, false, false, false, false, false, false, false, false, false, false, false, false, false, false] rfl rfl (by kernel_rfl) (fun _ _ _ h => h) (Or.inl ⟨by rfl, ?_⟩) ?_ ?_
            rotate_left
            · intro w'
              go_simp
              with_reducible rfl
            rotate_left
            · simp only [Act.put, List.setIfInBounds_toArray, List.set_cons_zero, List.set_cons_succ, i64_w, i32_w]
              rfl
            refine pure_ (i := 4) (N := (some 48)) (v := ?_) (a' := ?_) #[true, true, true, true, true, false, false, false, false, false, false, false, false, false, false, false, false, false, false, false, false] rfl rfl (by kernel_rfl) (fun _ _ _ h => h) (Or.inl ⟨by rfl, ?_⟩) ?_ ?_
            rotate_left
            · intro w'
              go_simp
              with_reducible rfl
            rotate_left
            · simp only [Act.put, List.setIfInBounds_toArray, List.set_cons_zero, List.set_cons_succ, i64_w, i32_w]
              rfl
            refine pure_ (i := 6) (N := (some 50)) (v := ?_) (a' := ?_) #[true, true, true, true, true, false, true, false, false, false, false, false, false, false, false, false, false, false, false, false, false] rfl rfl (by kernel_rfl) (fun _ _ _ h => h) (Or.inl ⟨by rfl, ?_⟩) ?_ ?_
            rotate_left
            · intro w'
              go_simp
              with_reducible rfl
            rotate_left
            · simp only [Act.put, List.setIfInBounds_toArray, List.set_cons_zero, List.set_cons_succ, i64_w, i32_w]
              rfl
            refine pure_ (i := 7) (N := (some 51)) (v := ?_) (a' := ?_) #[true, true, true, true, true, false, true, true, false, false, false, false, false, false, false, false, false, false, false, false, false] rfl rfl (by kernel_rfl) (fun _ _ _ h => h) (Or.inl ⟨by rfl, ?_⟩) ?_ ?_
            rotate_left
            · intro w'
              go_simp
              with_reducible rfl
            rotate_left
            · simp only [Act.put, List.setIfInBounds_toArray, List.set_cons_zero, List.set_cons_succ, i64_w, i32_w]
              rfl
            refine pure_ (i := 8) (N := (some 52)) (v := ?_) (a' := ?_) #[true, true, true, true, true, false, true, true, true, false, false, false, false, false, false, false, false, false, false, false, false] rfl rfl (by kernel_rfl) (fun _ _ _ h => h) (Or.inl ⟨by rfl, ?_⟩) ?_ ?_
            rotate_left
            · intro w'
              go_simp
              with_reducible rfl
            rotate_left
            · simp only [Act.put, List.setIfInBounds_toArray, List.set_cons_zero, List.set_cons_succ, i64_w, i32_w]
              rfl
            refine pure_ (i := 9) (N := (some 53)) (v := ?_) (a' := ?_) #[true, true, true, true, true, false, true, true, true, true, false, false, false, false, false, false, false, false, false, false, false] rfl rfl (by kernel_rfl) (fun _ _ _ h => h) (Or.inl ⟨by rfl, ?_⟩) ?_ ?_
            rotate_left
            · intro w'
              go_simp
              with_reducible rfl
            rotate_left
            · simp only [Act.put, List.setIfInBounds_toArray, List.set_cons_zero, List.set_cons_succ, i64_w, i32_w]
              rfl
            refine pure_ (i := 10) (N := (some 54)) (v := ?_) (a' := ?_) #[true, true, true, true, true, false, true, true, true, true, true, false, false, false, false, false, false, false, false, false, false] rfl rfl (by kernel_rfl) (fun _ _ _ h => h) (Or.inl ⟨by rfl, ?_⟩) ?_ ?_
            rotate_left
            · intro w'
              go_simp
              with_reducible rfl
            rotate_left
            · simp only [Act.put, List.setIfInBounds_toArray, List.set_cons_zero, List.set_cons_succ, i64_w, i32_w]
              rfl
            refine pure_ (i := 13) (N := (some 57)) (v := ?_) (a' := ?_) #[true, true, true, true, true, false, true, true, true, true, true, false, false, true, false, false, false, false, false, false, false] rfl rfl (by kernel_rfl) (fun _ _ _ h => h) (Or.inl ⟨by rfl, ?_⟩) ?_ ?_
            rotate_left
            · intro w'
              go_simp
              with_reducible rfl
            rotate_left
            · simp only [Act.put, List.setIfInBounds_toArray, List.set_cons_zero, List.set_cons_succ, i64_w, i32_w]
              rfl
            refine pure_ (i := 14) (N := (some 58)) (v := ?_) (a' := ?_) #[true, true, true, true, true, false, true, true, true, true, true, false, false, true, true, false, false, false, false, false, false] rfl rfl (by kernel_rfl) (fun _ _ _ h => h) (Or.inl ⟨by rfl, ?_⟩) ?_ ?_
            rotate_left
            · intro w'
              go_simp
              with_reducible rfl
            rotate_left
            · simp only [Act.put, List.setIfInBounds_toArray, List.set_cons_zero, List.set_cons_succ, i64_w, i32_w]
              rfl
            refine pure_ (i := 15) (N := (some 59)) (v := ?_) (a' := ?_) #[true, true, true, true, true, false, true, true, true, true, true, false, false, true, true, true, false, false, false, false, false] rfl rfl (by kernel_rfl) (fun _ _ _ h => h) (Or.inl ⟨by rfl, ?_⟩) ?_ ?_
            rotate_left
            · intro w'
              go_simp
              with_reducible rfl
            rotate_left
            · simp only [Act.put, List.setIfInBounds_toArray, List.set_cons_zero, List.set_cons_succ, i64_w, i32_w]
              rfl
            refine pure_ (i := 16) (N := (some 60)) (v := ?_) (a' := ?_) #[true, true, true, true, true, false, true, true, true, true, true, false, false, true, true, true, true, false, false, false, false] rfl rfl (by kernel_rfl) (fun _ _ _ h => h) (Or.inl ⟨by rfl, ?_⟩) ?_ ?_
            rotate_left
            · intro w'
              go_simp
              with_reducible rfl
            rotate_left
            · simp only [Act.put, List.setIfInBounds_toArray, List.set_cons_zero, List.set_cons_succ, i64_w, i32_w]
              rfl
            refine take_ (i := 5) (N := (some 49)) (v := ?_) (a' := ?_) #[true, true, true, true, true, true, true, true, true, true, true, false, false, true, true, true, true, false, false, false, false] rfl rfl (by kernel_rfl) (fun _ _ _ h => h) (Or.inl ⟨by rfl, ?_⟩) hHeld ?_ ?_
            rotate_left
            · intro w' hS_
              have cz_ := (blk_cell hS_.1 1).trans rfl
              go_simp
              with_reducible rfl
            rotate_left
            · simp only [Act.put, List.setIfInBounds_toArray, List.set_cons_zero, List.set_cons_succ, i64_w, i32_w]
              rfl
            refine take_ (i := 11) (N := (some 55)) (v := ?_) (a' := ?_) #[true, true, true, true, true, true, true, true, true, true, true, true, false, true, true, true, true, false, false, false, false] rfl rfl (by kernel_rfl) (fun _ _ _ h => h) (Or.inl ⟨by rfl, ?_⟩) hHeld ?_ ?_
            rotate_left
            · intro w' hS_
              have cz_ := hS_.2
              go_simp
              with_reducible rfl
            rotate_left
            · simp only [Act.put, List.setIfInBounds_toArray, List.set_cons_zero, List.set_cons_succ, i64_w, i32_w]
              rfl
            refine pure_ (i := 12) (N := (some 56)) (v := ?_) (a' := ?_) #[true, true, true, true, true, true, true, true, true, true, true, true, true, true, true, true, true, false, false, false, false] rfl rfl (by kernel_rfl) (fun _ _ _ h => h) (Or.inl ⟨by rfl, ?_⟩) ?_ ?_
            rotate_left
            · intro w'
              go_simp
              with_reducible rfl
            rotate_left
            · simp only [Act.put, List.setIfInBounds_toArray, List.set_cons_zero, List.set_cons_succ, i64_w, i32_w]
              rfl
            refine pure_ (i := 17) (N := (some 61)) (v := ?_) (a' := ?_) #[true, true, true, true, true, true, true, true, true, true, true, true, true, true, true, true, true, true, false, false, false] rfl rfl (by kernel_rfl) (fun _ _ _ h => h) (Or.inl ⟨by rfl, ?_⟩) ?_ ?_
            rotate_left
            · intro w'
              go_simp
              with_reducible rfl
            rotate_left
            · simp only [Act.put, List.setIfInBounds_toArray, List.set_cons_zero, List.set_cons_succ, i64_w, i32_w]
              rfl
            refine pure_ (i := 18) (N := (some 62)) (v := ?_) (a' := ?_) #[true, true, true, true, true, true, true, true, true, true, true, true, true, true, true, true, true, true, true, false, false] rfl rfl (by kernel_rfl) (fun _ _ _ h => h) (Or.inl ⟨by rfl, ?_⟩) ?_ ?_
            rotate_left
            · intro w'
              go_simp
              with_reducible rfl
            rotate_left
            · simp only [Act.put, List.setIfInBounds_toArray, List.set_cons_zero, List.set_cons_succ, i64_w, i32_w]
              rfl
            refine pure_ (i := 19) (N := (some 63)) (v := ?_) (a' := ?_) #[true, true, true, true, true, true, true, true, true, true, true, true, true, true, true, true, true, true, true, true, false] rfl rfl (by kernel_rfl) (fun _ _ _ h => h) (Or.inl ⟨by rfl, ?_⟩) ?_ ?_
            rotate_left
            · intro w'
              go_simp
              with_reducible rfl
            rotate_left
            · simp only [Act.put, List.setIfInBounds_toArray, List.set_cons_zero, List.set_cons_succ, i64_w, i32_w]
              rfl
            refine last_ (i := 20) (N := none) #[true, true, true, true, true, true, true, true, true, true, true, true, true, true, true, true, true, true, true, true, true] rfl rfl (by kernel_rfl) (by decide) (fun K hK => ?_)
            have cz_ := (blk_cell hHeld.1 1).trans rfl
            have fz_ := blk_frozen hHeld.1 1
            refine store_step (w1 := ?w1_5) ?hg ?hN ?hr ?_; (case hg => rfl); (case hN => rfl); (case hr => first | (go_simp; done) | (go_simp; rfl))
            refine hK.out _ _ ?_
            clear hK K cz_ fz_
            refine done_ (by kernel_rfl) ?_
            clear hHeld hwm hwi hb1 hb2 htn
            go_wp2
            try clear hK1
            refine inLoop_gen (fun w' => Below w.heap.size w w' ∧ w'.heap[g2]? = some (.cells #[.int .u32 (st.a), .int .u32 (st.b), .int .u32 (st.c), .int .u32 (st.d), .int .u32 (st.e), .int .u32 (st.f), .int .u32 (st.g), .int .u32 (st.h)] 31 (0, 0)) ∧ w'.heap[g3]? = some (.cells #[.int .u32 ((orw (orw (orw (orw 0 (rd (spB a0) ((i : Nat) : Int)) 0) (rd (spB a0) ((i + 1 : Nat) : Int)) 1) (rd (spB a0) ((i + 2 : Nat) : Int)) 2) (rd (spB a0) ((i + 3 : Nat) : Int)) 3)), .int .u32 ((orw (orw 0 (rd (spB a0) ((i + 4 : Nat) : Int)) 0) (rd (spB a0) ((i + 5 : Nat) : Int)) 1)), .int .u32 0, .int .u32 0] 23 (0, 0)) ∧ OwnC w' w.heap.size (.slice (some ⟨g1, 0, none⟩) (a0.size + 1 + zn a0.size + 8) cap1) (spB a0)) ⟨(by repeat (first | (with_reducible first | exact HB.out | apply below_alloc | apply pw_below_drewN | apply below_drew1 | refine below_set ?_ Gg2.out | refine below_set ?_ Gg3.out) | exact HB.out)), (Eq.trans (by (with_reducible repeat (first | exact Kg2.out | apply blk_set | apply far_put Ng2g3.out | apply far_put Ng2g3.out.symm | apply blk_drewN | apply blk_drew | apply blk_alloc))) (by first | rfl)), (Eq.trans (by (with_reducible repeat (first | exact Kg3.out | apply blk_set | apply far_put Ng2g3.out | apply far_put Ng2g3.out.symm | apply blk_drewN | apply blk_drew | apply blk_alloc))) (by first | rfl)), (by repeat (first | (with_reducible exact HC1.out) | (with_reducible exact OwnC.drew HC1.out) | refine OwnC.drew ?_ | refine OwnC.far ?_ N13.out _))⟩ ?_
            try clear K1
            intro wA hF
            clear HB HC1 Kg2 Kg3
            obtain ⟨n0_, n1_, n2_, n3_⟩ := hF
            have HB := Aside0.mk n0_
            have Kg2 := Aside0.mk n1_
            have Kg3 := Aside0.mk n2_
            have HC1 := Aside0.mk n3_
            clear n0_ n1_ n2_ n3_
            refine inLoop_k fun K1 hK1 => ?_
            go_wp2
            have hwm : wrap64 1 = 1 := by unfold wrap64; omega
            have hb1 : (0 ≤ (i : Int) + 6) = True := eq_true (by omega)
            have hb2 : ((i : Int) + 6 < (a0.size : Int) + 1 + (zn a0.size : Int) + 8) = True := eq_true (by have := HI.out; omega)
            have htn : ((i : Int) + 6).toNat = i + 6 := by omega
            have hwi : wrap64 ((i : Int) + 6) = (i : Int) + 6 := w64' _ (by omega) (by omega)
            refine start_ (n := 21) (S := fun w' => w'.heap[g3]? = some (.cells #[.int .u32 ((orw (orw (orw (orw 0 (rd (spB a0) ((i : Nat) : Int)) 0) (rd (spB a0) ((i + 1 : Nat) : Int)) 1) (rd (spB a0) ((i + 2 : Nat) : Int)) 2) (rd (spB a0) ((i + 3 : Nat) : Int)) 3)), .int .u32 ((orw (orw 0 (rd (spB a0) ((i + 4 : Nat) : Int)) 0) (rd (spB a0) ((i + 5 : Nat) : Int)) 1)), .int .u32 0, .int .u32 0] 23 (0, 0)) ∧ w'.cell? ⟨g1, i + 6, none⟩ = some (.int .u8 (rd (spB a0) ((i + 6 : Nat) : Int)))) (ds := [20]) #[false, false, false, false, false, false, false, false, false, false, false, false, false, false, false, false, false, false, false, false, false] (by kernel_rfl) rfl rfl ⟨blk_drew Kg3.out, HC1.out.at (i + 6) (by have := HI.out; rw [spB_length]; omega)⟩ (fun hHeld => ?_)
            refine pure_ (i := 0) (N := (some 44)) (v := ?_) (a' := ?_) #[true, false, false, false, false, false, false, false, false, false, false, false, false, false, false, false, false, false, false, false, false] rfl rfl (by kernel_rfl) (fun _ _ _ h => h) (Or.inl ⟨by rfl, ?_⟩) ?_ ?_
            rotate_left
            · intro w'
              go_simp
              with_reducible rfl
            rotate_left
            · simp only [Act.put, List.setIfInBounds_toArray, List.set_cons_zero, List.set_cons_succ, i64_w, i32_w]
              rfl
            refine pure_ (i := 1) (N := (some 45)) (v := ?_) (a' := ?_) #[true, true, false, false, false, false, false, false, false, false, false, false, false, false, false, false, false, false, false, false, false] rfl rfl (by kernel_rfl) (fun _ _ _ h => h) (Or.inl ⟨by rfl, ?_⟩) ?_ ?_
            rotate_left
            · intro w'
              go_simp
              with_reducible rfl
            rotate_left
            · simp only [Act.put, List.setIfInBounds_toArray, List.set_cons_zero, List.set_cons_succ, i64_w, i32_w]
              rfl
            refine pure_ (i := 2) (N := (some 46)) (v := ?_) (a' := ?_) #[true, true, true, false, false, false, false, false, false, false, false, false, false, false, false, false, false, false, false, false, false] rfl rfl (by kernel_rfl) (fun _ _ _ h => h) (Or.inl ⟨by rfl, ?_⟩) ?_ ?_
            rotate_left
            · intro w'
              go_simp
              with_reducible rfl
            rotate_left
            · simp only [Act.put, List.setIfInBounds_toArray, List.set_cons_zero, List.set_cons_succ, i64_w, i32_w]
              rfl
            refine pure_ (i := 3) (N := (some 47)) (v := ?_) (a' := ?_) #[true, true, true, true, false, false, false, false, false, false, false, false, false, false, false, false, false, false, false, false, false] rfl rfl (by kernel_rfl) (fun _ _ _ h => h) (Or.inl ⟨by rfl, ?_⟩) ?_ ?_
            rotate_left
            · intro w'
              go_simp
              with_reducible rfl
            rotate_left
            · simp only [Act.put, List.setIfInBounds_toArray, List.set_cons_zero, List.set_cons_succ, i64_w, i32_w]
              rfl
            refine pure_ (i := 4) (N := (some 48)) (v := ?_) (a' := ?_) #[true, true, true, true, true, false, false, false, false, false, false, false, false, false, false, false, false, false, false, false, false] rfl rfl (by kernel_rfl) (fun _ _ _ h => h) (Or.inl ⟨by rfl, ?_⟩) ?_ ?_
            rotate_left
            · intro w'
              go_simp
              with_reducible rfl
            rotate_left
            · simp only [Act.put, List.setIfInBounds_toArray, List.set_cons_zero, List.set_cons_succ, i64_w, i32_w]
              rfl
            refine pure_ (i := 6) (N := (some 50)) (v := ?_) (a' := ?_) #[true, true, true, true, true, false, true, false, false, false, false, false, false, false, false, false, false, false, false, false, false] rfl rfl (by kernel_rfl) (fun _ _ _ h => h) (Or.inl ⟨by rfl, ?_⟩) ?_ ?_
            rotate_left
            · intro w'
              go_simp
              with_reducible rfl
            rotate_left
            · simp only [Act.put, List.setIfInBounds_toArray, List.set_cons_zero, List.set_cons_succ, i64_w, i32_w]
              rfl
            refine pure_ (i := 7) (N := (some 51)) (v := ?_) (a' := ?_) #[true, true, true, true, true, false, true, true, false, false, false, false, false, false, false, false, false, false, false, false, false] rfl rfl (by kernel_rfl) (fun _ _ _ h => h) (Or.inl ⟨by rfl, ?_⟩) ?_ ?_
            rotate_left
            · intro w'
              go_simp
              with_reducible rfl
            rotate_left
            · simp only [Act.put, List.setIfInBounds_toArray, List.set_cons_zero, List.set_cons_succ, i64_w, i32_w]
              rfl
            refine pure_ (i := 8) (N := (some 52)) (v := ?_) (a' := ?_) #[true, true, true, true, true, false, true, true, true, false, false, false, false, false, false, false, false, false, false, false, false] rfl rfl (by kernel_rfl) (fun _ _ _ h => h) (Or.inl ⟨by rfl, ?_⟩) ?_ ?_
            rotate_left
            · intro w'
              go_simp
              with_reducible rfl
            rotate_left
            · simp only [Act.put, List.setIfInBounds_toArray, List.set_cons_zero, List.set_cons_succ, i64_w, i32_w]
              rfl
            refine pure_ (i := 9) (N := (some 53)) (v := ?_) (a' := ?_) #[true, true, true, true, true, false, true, true, true, true, false, false, false, false, false, false, false, false, false, false, false] rfl rfl (by kernel_rfl) (fun _ _ _ h => h) (Or.inl ⟨by rfl, ?_⟩) ?_ ?_
            rotate_left
            · intro w'
              go_simp
              with_reducible rfl
            rotate_left
            · simp only [Act.put, List.setIfInBounds_toArray, List.set_cons_zero, List.set_cons_succ, i64_w, i32_w]
              rfl
            refine pure_ (i := 10) (N := (some 54)) (v := ?_) (a' := ?_) #[true, true, true, true, true, false, true, true, true, true, true, false, false, false, false, false, false, false, false, false, false] rfl rfl (by kernel_rfl) (fun _ _ _ h => h) (Or.inl ⟨by rfl, ?_⟩) ?_ ?_
            rotate_left
            · intro w'
              go_simp
              with_reducible rfl
            rotate_left
            · simp only [Act.put, List.setIfInBounds_toArray, List.set_cons_zero, List.set_cons_succ, i64_w, i32_w]
              rfl
            refine pure_ (i := 13) (N := (some 57)) (v := ?_) (a' := ?_) #[true, true, true, true, true, false, true, true, true, true, true, false, false, true, false, false, false, false, false, false, false] rfl rfl (by kernel_rfl) (fun _ _ _ h => h) (Or.inl ⟨by rfl, ?_⟩) ?_ ?_
            rotate_left
            · intro w'
              go_simp
              with_reducible rfl
            rotate_left
            · simp only [Act.put, List.setIfInBounds_toArray, List.set_cons_zero, List.set_cons_succ, i64_w, i32_w]
              rfl
            refine pure_ (i := 14) (N := (some 58)) (v := ?_) (a' := ?_) #[true, true, true, true, true, false, true, true, true, true, true, false, false, true, true, false, false, false, false, false, false] rfl rfl (by kernel_rfl) (fun _ _ _ h => h) (Or.inl ⟨by rfl, ?_⟩) ?_ ?_
            rotate_left
            · intro w'
              go_simp
              with_reducible rfl
            rotate_left
            · simp only [Act.put, List.setIfInBounds_toArray, List.set_cons_zero, List.set_cons_succ, i64_w, i32_w]
              rfl
            refine pure_ (i := 15) (N := (some 59)) (v := ?_) (a' := ?_) #[true, true, true, true, true, false, true, true, true, true, true, false, false, true, true, true, false, false, false, false, false] rfl rfl (by kernel_rfl) (fun _ _ _ h => h) (Or.inl ⟨by rfl, ?_⟩) ?_ ?_
            rotate_left
            · intro w'
              go_simp
              with_reducible rfl
            rotate_left
            · simp only [Act.put, List.setIfInBounds_toArray, List.set_cons_zero, List.set_cons_succ, i64_w, i32_w]
              rfl
            refine pure_ (i := 16) (N := (some 60)) (v := ?_) (a' := ?_) #[true, true, true, true, true, false, true, true, true, true, true, false, false, true, true, true, true, false, false, false, false] rfl rfl (by kernel_rfl) (fun _ _ _ h => h) (Or.inl ⟨by rfl, ?_⟩) ?_ ?_
            rotate_left
            · intro w'
              go_simp
              with_reducible rfl
            rotate_left
            · simp only [Act.put, List.setIfInBounds_toArray, List.set_cons_zero, List.set_cons_succ, i64_w, i32_w]
              rfl
            refine take_ (i := 5) (N := (some 49)) (v := ?_) (a' := ?_) #[true, true, true, true, true, true, true, true, true, true, true, false, false, true, true, true, true, false, false, false, false] rfl rfl (by kernel_rfl) (fun _ _ _ h => h) (Or.inl ⟨by rfl, ?_⟩) hHeld ?_ ?_
            rotate_left
            · intro w' hS_
              have cz_ := (blk_cell hS_.1 1).trans rfl
              go_simp
              with_reducible rfl
            rotate_left
            · simp only [Act.put, List.setIfInBounds_toArray, List.set_cons_zero, List.set_cons_succ, i64_w, i32_w]
              rfl
            refine take_ (i := 11) (N := (some 55)) (v := ?_) (a' := ?_) #[true, true, true, true, true, true, true, true, true, true, true, true, false, true, true, true, true, false, false, false, false] rfl rfl (by kernel_rfl) (fun _ _ _ h => h) (Or.inl ⟨by rfl, ?_⟩) hHeld ?_ ?_
            rotate_left
            · intro w' hS_
              have cz_ := hS_.2
              go_simp
              with_reducible rfl
            rotate_left
            · simp only [Act.put, List.setIfInBounds_toArray, List.set_cons_zero, List.set_cons_succ, i64_w, i32_w]
              rfl
            refine pure_ (i := 12) (N := (some 56)) (v := ?_) (a' := ?_) #[true, true, true, true, true, true, true, true, true, true, true, true, true, true, true, true, true, false, false, false, false] rfl rfl (by kernel_rfl) (fun _ _ _ h => h) (Or.inl ⟨by rfl, ?_⟩) ?_ ?_
            rotate_left
            · intro w'
              go_simp
              with_reducible rfl
            rotate_left
            · simp only [Act.put, List.setIfInBounds_toArray, List.set_cons_zero, List.set_cons_succ, i64_w, i32_w]
              rfl
            refine pure_ (i := 17) (N := (some 61)) (v := ?_) (a' := ?_) #[true, true, true, true, true, true, true, true, true, true, true, true, true, true, true, true, true, true, false, false, false] rfl rfl (by kernel_rfl) (fun _ _ _ h => h) (Or.inl ⟨by rfl, ?_⟩) ?_ ?_
            rotate_left
            · intro w'
              go_simp
              with_reducible rfl
            rotate_left
            · simp only [Act.put, List.setIfInBounds_toArray, List.set_cons_zero, List.set_cons_succ, i64_w, i32_w]
              rfl
            refine pure_ (i := 18) (N := (some 62)) (v := ?_) (a' := ?_) #[true, true, true, true, true, true, true, true, true, true, true, true, true, true, true, true, true, true, true, false, false] rfl rfl (by kernel_rfl) (fun _ _ _ h => h) (Or.inl ⟨by rfl, ?_⟩) ?_ ?_
            rotate_left
            · intro w'
              go_simp
              with_reducible rfl
            rotate_left
            · simp only [Act.put, List.setIfInBounds_toArray, List.set_cons_zero, List.set_cons_succ, i64_w, i32_w]
              rfl
            refine pure_ (i := 19) (N := (some 63)) (v := ?_) (a' := ?_) #[true, true, true, true, true, true, true, true, true, true, true, true, true, true, true, true, true, true, true, true, false] rfl rfl (by kernel_rfl) (fun _ _ _ h => h) (Or.inl ⟨by rfl, ?_⟩) ?_ ?_
            rotate_left
            · intro w'
              go_simp
              with_reducible rfl
            rotate_left
            · simp only [Act.put, List.setIfInBounds_toArray, List.set_cons_zero, List.set_cons_succ, i64_w, i32_w]
              rfl
            refine last_ (i := 20) (N := none) #[true, true, true, true, true, true, true, true, true, true, true, true, true, true, true, true, true, true, true, true, true] rfl rfl (by kernel_rfl) (by decide) (fun K hK => ?_)
            have cz_ := (blk_cell hHeld.1 1).trans rfl
            have fz_ := blk_frozen hHeld.1 1
            refine store_step (w1 := ?w1_6) ?hg ?hN ?hr ?_; (case hg => rfl); (case hN => rfl); (case hr => first | (go_simp; done) | (go_simp; rfl))
            refine hK.out _ _ ?_
            clear hK K cz_ fz_
            refine done_ (by kernel_rfl) ?_
            clear hHeld hwm hwi hb1 hb2 htn
            go_wp2
            try clear hK1
            refine inLoop_gen (fun w' => Below w.heap.size w w' ∧ w'.heap[g2]? = some (.cells #[.int .u32 (st.a), .int .u32 (st.b), .int .u32 (st.c), .int .u32 (st.d), .int .u32 (st.e), .int .u32 (st.f), .int .u32 (st.g), .int .u32 (st.h)] 31 (0, 0)) ∧ w'.heap[g3]? = some (.cells #[.int .u32 ((orw (orw (orw (orw 0 (rd (spB a0) ((i : Nat) : Int)) 0) (rd (spB a0) ((i + 1 : Nat) : Int)) 1) (rd (spB a0) ((i + 2 : Nat) : Int)) 2) (rd (spB a0) ((i + 3 : Nat) : Int)) 3)), .int .u32 ((orw (orw (orw 0 (rd (spB a0) ((i + 4 : Nat) : Int)) 0) (rd (spB a0) ((i + 5 : Nat) : Int)) 1) (rd (spB a0) ((i + 6 : Nat) : Int)) 2)), .int .u32 0, .int .u32 0] 23 (0, 0)) ∧ OwnC w' w.heap.size (.slice (some ⟨g1, 0, none⟩) (a0.size + 1 + zn a0.size + 8) cap1) (spB a0)) ⟨(by repeat (first | (with_reducible first | exact HB.out | apply below_alloc | apply pw_below_drewN | apply below_drew1 | refine below_set ?_ Gg2.out | refine below_set ?_ Gg3.out) | exact HB.out)), (Eq.trans (by (with_reducible repeat (first | exact Kg2.out | apply blk_set | apply far_put Ng2g3.out | apply far_put Ng2g3.out.symm | apply blk_drewN | apply blk_drew | apply blk_alloc))) (by first | rfl)), (Eq.trans (by (with_reducible repeat (first | exact Kg3.out | apply blk_set | apply far_put Ng2g3.out | apply far_put Ng2g3.out.symm | apply blk_drewN | apply blk_drew | apply blk_alloc))) (by first | rfl)), (by repeat (first | (with_reducible exact HC1.out) | (with_reducible exact OwnC.drew HC1.out) | refine OwnC.drew ?_ | refine OwnC.far ?_ N13.out _))⟩ ?_
            try clear K1
            intro wA hF
            clear HB HC1 Kg2 Kg3
            obtain ⟨n0_, n1_, n2_, n3_⟩ := hF
            have HB := Aside0.mk n0_
            have Kg2 := Aside0.mk n1_
            have Kg3 := Aside0.mk n2_
            have HC1 := Aside0.mk n3_
            clear n0_ n1_ n2_ n3_
            refine inLoop_k fun K1 hK1 => ?_
            go_wp2
            have hwm : wrap64 1 = 1 := by unfold wrap64; omega
            have hb1 : (0 ≤ (i : Int) + 7) = True := eq_true (by omega)
            have hb2 : ((i : Int) + 7 < (a0.size : Int) + 1 + (zn a0.size : Int) + 8) = True := eq_true (by have := HI.out; omega)
            have htn : ((i : Int) + 7).toNat = i + 7 := by omega
            have hwi : wrap64 ((i : Int) + 7) = (i : Int) + 7 := w64' _ (by omega) (by omega)
            refine start_ (n := 21) (S := fun w' => w'.heap[g3]? = some (.cells #[.int .u32 ((orw (orw (orw (orw 0 (rd (spB a0) ((i : Nat) : Int)) 0) (rd (spB a0) ((i + 1 : Nat) : Int)) 1) (rd (spB a0) ((i + 2 : Nat) : Int)) 2) (rd (spB a0) ((i + 3 : Nat) : Int)) 3)), .int .u32 ((orw (orw (orw 0 (rd (spB a0) ((i + 4 : Nat) : Int)) 0) (rd (spB a0) ((i + 5 : Nat) : Int)) 1) (rd (spB a0) ((i + 6 : Nat) : Int)) 2)), .int .u32 0, .int .u32 0] 23 (0, 0)) ∧ w'.cell? ⟨g1, i + 7, none⟩ = some (.int .u8 (rd (spB a0) ((i + 7 : Nat) : Int)))) (ds := [20]) #[false, false, false, false, false, false, false, false, false, false, false, false, false, false, false, false, false, false, false, false, false] (by kernel_rfl) rfl rfl ⟨blk_drew Kg3.out, HC1.out.at (i + 7) (by have := HI.out; rw [spB_length]; omega)⟩ (fun hHeld => ?_)
            refine pure_ (i := 0) (N := (some 44)) (v := ?_) (a' := ?_) #[true, false, false, false, false, false, false, false, false, false, false, false, false, false, false, false, false, false, false, false, false] rfl rfl (by kernel_rfl) (fun _ _ _ h => h) (Or.inl ⟨by rfl, ?_⟩) ?_ ?_
            rotate_left
            · intro w'
              go_simp
              with_reducible rfl
            rotate_left
            · simp only [Act.put, List.setIfInBounds_toArray, List.set_cons_zero, List.set_cons_succ, i64_w, i32_w]
              rfl
            refine pure_ (i := 1) (N := (some 45)) (v := ?_) (a' := ?_) #[true, true, false, false, false, false, false, false, false, false, false, false, false, false, false, false, false, false, false, false, false] rfl rfl (by kernel_rfl) (fun _ _ _ h => h) (Or.inl ⟨by rfl, ?_⟩) ?_ ?_
            rotate_left
            · intro w'
              go_simp
              with_reducible rfl
            rotate_left
            · simp only [Act.put, List.setIfInBounds_toArray, List.set_cons_zero, List.set_cons_succ, i64_w, i32_w]
              rfl
            refine pure_ (i := 2) (N := (some 46)) (v := ?_) (a' := ?_) #[true, true, true, false, false, false, false, false, false, false, false, false, false, false, false, false, false, false, false, false, false] rfl rfl (by kernel_rfl) (fun _ _ _ h => h) (Or.inl ⟨by rfl, ?_⟩) ?_ ?_
            rotate_left
            · intro w'
              go_simp
              with_reducible rfl
            rotate_left
            · simp only [Act.put, List.setIfInBounds_toArray, List.set_cons_zero, List.set_cons_succ, i64_w, i32_w]
              rfl
            refine pure_ (i := 3) (N := (some 47)) (v := ?_) (a' := ?_) #[true, true, true, true, false, false, false, false, false, false, false, false, false, false, false, false, false, false, false, false, false] rfl rfl (by kernel_rfl) (fun _ _ _ h => h) (Or.inl ⟨by rfl, ?_⟩) ?_ ?_
            rotate_left
            · intro w'
              go_simp
              with_reducible rfl
            rotate_left
            · simp only [Act.put, List.setIfInBounds_toArray, List.set_cons_zero, List.set_cons_succ, i64_w, i32_w]
              rfl
            refine pure_ (i := 4) (N := (some 48)) (v := ?_) (a' := ?_) #[true, true, true, true, true, false, false, false, false, false, false, false, false, false, false, false, false, false, false, false, false] rfl rfl (by kernel_rfl) (fun _ _ _ h => h) (Or.inl ⟨by rfl, ?_⟩) ?_ ?_
            rotate_left
            · intro w'
              go_simp
              with_reducible rfl
            rotate_left
            · simp only [Act.put, List.setIfInBounds_toArray, List.set_cons_zero, List.set_cons_succ, i64_w, i32_w]
              rfl
            refine pure_ (i := 6) (N := (some 50)) (v := ?_) (a' := ?_) #[true, true, true, true, true, false, true, false, false, false, false, false, false, false, false, false, false, false, false, false, false] rfl rfl (by kernel_rfl) (fun _ _ _ h => h) (Or.inl ⟨by rfl, ?_⟩) ?_ ?_
            rotate_left
            · intro w'
              go_simp
              with_reducible rfl
            rotate_left
            · simp only [Act.put, List.setIfInBounds_toArray, List.set_cons_zero, List.set_cons_succ, i64_w, i32_w]
              rfl
            refine pure_ (i := 7) (N := (some 51)) (v := ?_) (a' := ?_) #[true, true, true, true, true, false, true, true, false, false, false, false, false, false, false, false, false, false, false, false, false] rfl rfl (by kernel_rfl) (fun _ _ _ h => h) (Or.inl ⟨by rfl, ?_⟩) ?_ ?_
            rotate_left
            · intro w'
              go_simp
              with_reducible rfl
            rotate_left
            · simp only [Act.put, List.setIfInBounds_toArray, List.set_cons_zero, List.set_cons_succ, i64_w, i32_w]
              rfl
            refine pure_ (i := 8) (N := (some 52)) (v := ?_) (a' := ?_) #[true, true, true, true, true, false, true, true, true, false, false, false, false, false, false, false, false, false, false, false, false] rfl rfl (by kernel_rfl) (fun _ _ _ h => h) (Or.inl ⟨by rfl, ?_⟩) ?_ ?_
            rotate_left
            · intro w'
              go_simp
              with_reducible rfl
            rotate_left
            · simp only [Act.put, List.setIfInBounds_toArray, List.set_cons_zero, List.set_cons_succ, i64_w, i32_w]
              rfl
            refine pure_ (i := 9) (N := (some 53)) (v := ?_) (a' := ?_) #[true, true, true, true, true, false, true, true, true, true, false, false, false, false, false, false, false, false, false, false, false] rfl rfl (by kernel_rfl) (fun _ _ _ h => h) (Or.inl ⟨by rfl, ?_⟩) ?_ ?_
            rotate_left
            · intro w'
              go_simp
              with_reducible rfl
            rotate_left
            · simp only [Act.put, List.setIfInBounds_toArray, List.set_cons_zero, List.set_cons_succ, i64_w, i32_w]
              rfl
            refine pure_ (i := 10) (N := (some 54)) (v := ?_) (a' := ?_) #[true, true, true, true, true, false, true, true, true, true, true, false, false, false, false, false, false, false, false, false, false] rfl rfl (by kernel_rfl) (fun _ _ _ h => h) (Or.inl ⟨by rfl, ?_⟩) ?_ ?_
            rotate_left
            · intro w'
              go_simp
              with_reducible rfl
            rotate_left
            · simp only [Act.put, List.setIfInBounds_toArray, List.set_cons_zero, List.set_cons_succ, i64_w, i32_w]
              rfl
            refine pure_ (i := 13) (N := (some 57)) (v := ?_) (a' := ?_) #[true, true, true, true, true, false, true, true, true, true, true, false, false, true, false, false, false, false, false, false, false] rfl rfl (by kernel_rfl) (fun _ _ _ h => h) (Or.inl ⟨by rfl, ?_⟩) ?_ ?_
            rotate_left
            · intro w'
              go_simp
              with_reducible rfl
            rotate_left
            · simp only [Act.put, List.setIfInBounds_toArray, List.set_cons_zero, List.set_cons_succ, i64_w, i32_w]
              rfl
            refine pure_ (i := 14) (N := (some 58)) (v := ?_) (a' := ?_) #[true, true, true, true, true, false, true, true, true, true, true, false, false, true, true, false, false, false, false, false, false] rfl rfl (by kernel_rfl) (fun _ _ _ h => h) (Or.inl ⟨by rfl, ?_⟩) ?_ ?_
            rotate_left
            · intro w'
              go_simp
              with_reducible rfl
            rotate_left
            · simp only [Act.put, List.setIfInBounds_toArray, List.set_cons_zero, List.set_cons_succ, i64_w, i32_w]
              rfl
            refine pure_ (i := 15) (N := (some 59)) (v := ?_) (a' := ?_) #[true, true, true, true, true, false, true, true, true, true, true, false, false, true, true, true, false, false, false, false, false] rfl rfl (by kernel_rfl) (fun _ _ _ h => h) (Or.inl ⟨by rfl, ?_⟩) ?_ ?_
            rotate_left
            · intro w'
              go_simp
              with_reducible rfl
            rotate_left
            · simp only [Act.put, List.setIfInBounds_toArray, List.set_cons_zero, List.set_cons_succ, i64_w, i32_w]
              rfl
            refine pure_ (i := 16) (N := (some 60)) (v := ?_) (a' := ?_) #[true, true, true, true, true, false, true, true, true, true, true, false, false, true, true, true, true, false, false, false, false] rfl rfl (by kernel_rfl) (fun _ _ _ h => h) (Or.inl ⟨by rfl, ?_⟩) ?_ ?_
            rotate_left
            · intro w'
              go_simp
              with_reducible rfl
            rotate_left
            · simp only [Act.put, List.setIfInBounds_toArray, List.set_cons_zero, List.set_cons_succ, i64_w, i32_w]
              rfl
            refine take_ (i := 5) (N := (some 49)) (v := ?_) (a' := ?_) #[true, true, true, true, true, true, true, true, true, true, true, false, false, true, true, true, true, false, false, false, false] rfl rfl (by kernel_rfl) (fun _ _ _ h => h) (Or.inl ⟨by rfl, ?_⟩) hHeld ?_ ?_
            rotate_left
            · intro w' hS_
              have cz_ := (blk_cell hS_.1 1).trans rfl
              go_simp
              with_reducible rfl
            rotate_left
            · simp only [Act.put, List.setIfInBounds_toArray, List.set_cons_zero, List.set_cons_succ, i64_w, i32_w]
              rfl
            refine take_ (i := 11) (N := (some 55)) (v := ?_) (a' := ?_) #[true, true, true, true, true, true, true, true, true, true, true, true, false, true, true, true, true, false, false, false, false] rfl rfl (by kernel_rfl) (fun _ _ _ h => h) (Or.inl ⟨by rfl, ?_⟩) hHeld ?_ ?_
            rotate_left
            · intro w' hS_
              have cz_ := hS_.2
              go_simp
              with_reducible rfl
            rotate_left
            · simp only [Act.put, List.setIfInBounds_toArray, List.set_cons_zero, List.set_cons_succ, i64_w, i32_w]
              rfl
            refine pure_ (i := 12) (N := (some 56)) (v := ?_) (a' := ?_) #[true, true, true, true, true, true, true, true, true, true, true, true, true, true, true, true, true, false, false, false, false] rfl rfl (by kernel_rfl) (fun _ _ _ h => h) (Or.inl ⟨by rfl, ?_⟩) ?_ ?_
            rotate_left
            · intro w'
              go_simp
              with_reducible rfl
            rotate_left
            · simp only [Act.put, List.setIfInBounds_toArray, List.set_cons_zero, List.set_cons_succ, i64_w, i32_w]
              rfl
            refine pure_ (i := 17) (N := (some 61)) (v := ?_) (a' := ?_) #[true, true, true, true, true, true, true, true, true, true, true, true, true, true, true, true, true, true, false, false, false] rfl rfl (by kernel_rfl) (fun _ _ _ h => h) (Or.inl ⟨by rfl, ?_⟩) ?_ ?_
            rotate_left
            · intro w'
              go_simp
              with_reducible rfl
            rotate_left
            · simp only [Act.put, List.setIfInBounds_toArray, List.set_cons_zero, List.set_cons_succ, i64_w, i32_w]
              rfl
            refine pure_ (i := 18) (N := (some 62)) (v := ?_) (a' := ?_) #[true, true, true, true, true, true, true, true, true, true, true, true, true, true, true, true, true, true, true, false, false] rfl rfl (by kernel_rfl) (fun _ _ _ h => h) (Or.inl ⟨by rfl, ?_⟩) ?_ ?_
            rotate_left
            · intro w'
              go_simp
              with_reducible rfl
            rotate_left
            · simp only [Act.put, List.setIfInBounds_toArray, List.set_cons_zero, List.set_cons_succ, i64_w, i32_w]
              rfl
            refine pure_ (i := 19) (N := (some 63)) (v := ?_) (a' := ?_) #[true, true, true, true, true, true, true, true, true, true, true, true, true, true, true, true, true, true, true, true, false] rfl rfl (by kernel_rfl) (fun _ _ _ h => h) (Or.inl ⟨by rfl, ?_⟩) ?_ ?_
            rotate_left
            · intro w'
              go_simp
              with_reducible rfl
            rotate_left
            · simp only [Act.put, List.setIfInBounds_toArray, List.set_cons_zero, List.set_cons_succ, i64_w, i32_w]
              rfl
            refine last_ (i := 20) (N := none) #[true, true, true, true, true, true, true, true, true, true, true, true, true, true, true, true, true, true, true, true, true] rfl rfl (by kernel_rfl) (by decide) (fun K hK => ?_)
            have cz_ := (blk_cell hHeld.1 1).trans rfl
            have fz_ := blk_frozen hHeld.1 1
            refine store_step (w1 := ?w1_7) ?hg ?hN ?hr ?_; (case hg => rfl); (case hN => rfl); (case hr => first | (go_simp; done) | (go_simp; rfl))
            refine hK.out _ _ ?_
            clear hK K cz_ fz_
            refine done_ (by kernel_rfl) ?_
            clear hHeld hwm hwi hb1 hb2 htn
            go_wp2
            try clear hK1
            refine inLoop_gen (fun w' => Below w.heap.size w w' ∧ w'.heap[g2]? = some (.cells #[.int .u32 (st.a), .int .u32 (st.b), .int .u32 (st.c), .int .u32 (st.d), .int .u32 (st.e), .int .u32 (st.f), .int .u32 (st.g), .int .u32 (st.h)] 31 (0, 0)) ∧ w'.heap[g3]? = some (.cells #[.int .u32 ((orw (orw (orw (orw 0 (rd (spB a0) ((i : Nat) : Int)) 0) (rd (spB a0) ((i + 1 : Nat) : Int)) 1) (rd (spB a0) ((i + 2 : Nat) : Int)) 2) (rd (spB a0) ((i + 3 : Nat) : Int)) 3)), .int .u32 ((orw (orw (orw (orw 0 (rd (spB a0) ((i + 4 : Nat) : Int)) 0) (rd (spB a0) ((i + 5 : Nat) : Int)) 1) (rd (spB a0) ((i + 6 : Nat) : Int)) 2) (rd (spB a0) ((i + 7 : Nat) : Int)) 3)), .int .u32 0, .int .u32 0] 23 (0, 0)) ∧ OwnC w' w.heap.size (.slice (some ⟨g1, 0, none⟩) (a0.size + 1 + zn a0.size + 8) cap1) (spB a0)) ⟨(by repeat (first | (with_reducible first | exact HB.out | apply below_alloc | apply pw_below_drewN | apply below_drew1 | refine below_set ?_ Gg2.out | refine below_set ?_ Gg3.out) | exact HB.out)), (Eq.trans (by (with_reducible repeat (first | exact Kg2.out | apply blk_set | apply far_put Ng2g3.out | apply far_put Ng2g3.out.symm | apply blk_drewN | apply blk_drew | apply blk_alloc))) (by first | rfl)), (Eq.trans (by (with_reducible repeat (first | exact Kg3.out | apply blk_set | apply far_put Ng2g3.out | apply far_put Ng2g3.out.symm | apply blk_drewN | apply blk_drew | apply blk_alloc))) (by first | rfl)), (by repeat (first | (with_reducible exact HC1.out) | (with_reducible exact OwnC.drew HC1.out) | refine OwnC.drew ?_ | refine OwnC.far ?_ N13.out _))⟩ ?_
            try clear K1
            intro wA hF
            clear HB HC1 Kg2 Kg3
            obtain ⟨n0_, n1_, n2_, n3_⟩ := hF
            have HB := Aside0.mk n0_
            have Kg2 := Aside0.mk n1_
            have Kg3 := Aside0.mk n2_
            have HC1 := Aside0.mk n3_
            clear n0_ n1_ n2_ n3_
            refine inLoop_k fun K1 hK1 => ?_
            go_wp2
            have hwm : wrap64 2 = 2 := by unfold wrap64; omega
            have hb1 : (0 ≤ (i : Int) + 8) = True := eq_true (by omega)
            have hb2 : ((i : Int) + 8 < (a0.size : Int) + 1 + (zn a0.size : Int) + 8) = True := eq_true (by have := HI.out; omega)
            have htn : ((i : Int) + 8).toNat = i + 8 := by omega
            have hwi : wrap64 ((i : Int) + 8) = (i : Int) + 8 := w64' _ (by omega) (by omega)
            refine start_ (n := 21) (S := fun w' => w'.heap[g3]? = some (.cells #[.int .u32 ((orw (orw (orw (orw 0 (rd (spB a0) ((i : Nat) : Int)) 0) (rd (spB a0) ((i + 1 : Nat) : Int)) 1) (rd (spB a0) ((i + 2 : Nat) : Int)) 2) (rd (spB a0) ((i + 3 : Nat) : Int)) 3)), .int .u32 ((orw (orw (orw (orw 0 (rd (spB a0) ((i + 4 : Nat) : Int)) 0) (rd (spB a0) ((i + 5 : Nat) : Int)) 1) (rd (spB a0) ((i + 6 : Nat) : Int)) 2) (rd (spB a0) ((i + 7 : Nat) : Int)) 3)), .int .u32 0, .int .u32 0] 23 (0, 0)) ∧ w'.cell? ⟨g1, i + 8, none⟩ = some (.int .u8 (rd (spB a0) ((i + 8 : Nat) : Int)))) (ds := [20]) #[false, false, false, false, false, false, false, false, false, false, false, false, false, false, false, false, false, false, false, false, false] (by kernel_rfl) rfl rfl ⟨blk_drew Kg3.out, HC1.out.at (i + 8) (by have := HI.out; rw [spB_length]; omega)⟩ (fun hHeld => ?_)
            refine pure_ (i := 0) (N := (some 44)) (v := ?_) (a' := ?_) #[true, false, false, false, false, false, false, false, false, false, false, false, false, false, false, false, false, false, false, false, false] rfl rfl (by kernel_rfl) (fun _ _ _ h => h) (Or.inl ⟨by rfl, ?_⟩) ?_ ?_
            rotate_left
            · intro w'
              go_simp
              with_reducible rfl
            rotate_left
            · simp only [Act.put, List.setIfInBounds_toArray, List.set_cons_zero, List.set_cons_succ, i64_w, i32_w]
              rfl
            refine pure_ (i := 1) (N := (some 45)) (v := ?_) (a' := ?_) #[true, true, false, false, false, false, false, false, false, false, false, false, false, false, false, false, false, false, false, false, false] rfl rfl (by kernel_rfl) (fun _ _ _ h => h) (Or.inl ⟨by rfl, ?_⟩) ?_ ?_
            rotate_left
            · intro w'
              go_simp
              with_reducible rfl
            rotate_left
            · simp only [Act.put, List.setIfInBounds_toArray, List.set_cons_zero, List.set_cons_succ, i64_w, i32_w]
              rfl
            refine pure_ (i := 2) (N := (some 46)) (v := ?_) (a' := ?_) #[true, true, true, false, false, false, false, false, false, false, false, false, false, false, false, false, false, false, false, false, false] rfl rfl (by kernel_rfl) (fun _ _ _ h => h) (Or.inl ⟨by rfl, ?_⟩) ?_ ?_
            rotate_left
            · intro w'
              go_simp
              with_reducible rfl
            rotate_left
            · simp only [Act.put, List.setIfInBounds_toArray, List.set_cons_zero, List.set_cons_succ, i64_w, i32_w]
              rfl
            refine pure_ (i := 3) (N := (some 47)) (v := ?_) (a' := ?_) #[true, true, true, true, false, false, false, false, false, false, false, false, false, false, false, false, false, false, false, false, false] rfl rfl (by kernel_rfl) (fun _ _ _ h => h) (Or.inl ⟨by rfl, ?_⟩) ?_ ?_
            rotate_left
            · intro w'
              go_simp
              with_reducible rfl
            rotate_left
            · simp only [Act.put, List.setIfInBounds_toArray, List.set_cons_zero, List.set_cons_succ, i64_w, i32_w]
              rfl
            refine pure_ (i := 4) (N := (some 48)) (v := ?_) (a' := ?_) #[true, true, true, true, true, false, false, false, false, false, false, false, false, false, false, false, false, false, false, false, false] rfl rfl (by kernel_rfl) (fun _ _ _ h => h) (Or.inl ⟨by rfl, ?_⟩) ?_ ?_
            rotate_left
            · intro w'
              go_simp
              with_reducible rfl
            rotate_left
            · simp only [Act.put, List.setIfInBounds_toArray, List.set_cons_zero, List.set_cons_succ, i64_w, i32_w]
              rfl
            refine pure_ (i := 6) (N := (some 50)) (v := ?_) (a' := ?_) #[true, true, true, true, true, false, true, false, false, false, false, false, false, false, false, false, false, false, false, false, false] rfl rfl (by kernel_rfl) (fun _ _ _ h => h) (Or.inl ⟨by rfl, ?_⟩) ?_ ?_
            rotate_left
            · intro w'
              go_simp
              with_reducible rfl
            rotate_left
            · simp only [Act.put, List.setIfInBounds_toArray, List.set_cons_zero, List.set_cons_succ, i64_w, i32_w]
              rfl
            refine pure_ (i := 7) (N := (some 51)) (v := ?_) (a' := ?_) #[true, true, true, true, true, false, true, true, false, false, false, false, false, false, false, false, false, false, false, false, false] rfl rfl (by kernel_rfl) (fun _ _ _ h => h) (Or.inl ⟨by rfl, ?_⟩) ?_ ?_
            rotate_left
            · intro w'
              go_simp
              with_reducible rfl
            rotate_left
            · simp only [Act.put, List.setIfInBounds_toArray, List.set_cons_zero, List.set_cons_succ, i64_w, i32_w]
              rfl
            refine pure_ (i := 8) (N := (some 52)) (v := ?_) (a' := ?_) #[true, true, true, true, true, false, true, true, true, false, false, false, false, false, false, false, false, false, false, false, false] rfl rfl (by kernel_rfl) (fun _ _ _ h => h) (Or.inl ⟨by rfl, ?_⟩) ?_ ?_
            rotate_left
            · intro w'
              go_simp
              with_reducible rfl
            rotate_left
            · simp only [Act.put, List.setIfInBounds_toArray, List.set_cons_zero, List.set_cons_succ, i64_w, i32_w]
              rfl
            refine pure_ (i := 9) (N := (some 53)) (v := ?_) (a' := ?_) #[true, true, true, true, true, false, true, true, true, true, false, false, false, false, false, false, false, false, false, false, false] rfl rfl (by kernel_rfl) (fun _ _ _ h => h) (Or.inl ⟨by rfl, ?_⟩) ?_ ?_
            rotate_left
            · intro w'
              go_simp
              with_reducible rfl
            rotate_left
            · simp only [Act.put, List.setIfInBounds_toArray, List.set_cons_zero, List.set_cons_succ, i64_w, i32_w]
              rfl
            refine pure_ (i := 10) (N := (some 54)) (v := ?_) (a' := ?_) #[true, true, true, true, true, false, true, true, true, true, true, false, false, false, false, false, false, false, false, false, false] rfl rfl (by kernel_rfl) (fun _ _ _ h => h) (Or.inl ⟨by rfl, ?_⟩) ?_ ?_
            rotate_left
            · intro w'
              go_simp
              with_reducible rfl
            rotate_left
            · simp only [Act.put, List.setIfInBounds_toArray, List.set_cons_zero, List.set_cons_succ, i64_w, i32_w]
              rfl
            refine pure_ (i := 13) (N := (some 57)) (v := ?_) (a' := ?_) #[true, true, true, true, true, false, true, true, true, true, true, false, false, true, false, false, false, false, false, false, false] rfl rfl (by kernel_rfl) (fun _ _ _ h => h) (Or.inl ⟨by rfl, ?_⟩) ?_ ?_
            rotate_left
            · intro w'
              go_simp
              with_reducible rfl
            rotate_left
            · simp only [Act.put, List.setIfInBounds_toArray, List.set_cons_zero, List.set_cons_succ, i64_w, i32_w]
              rfl
            refine pure_ (i := 14) (N := (some 58)) (v := ?_) (a' := ?_) #[true, true, true, true, true, false, true, true, true, true, true, false, false, true, true, false, false, false, false, false, false] rfl rfl (by kernel_rfl) (fun _ _ _ h => h) (Or.inl ⟨by rfl, ?_⟩) ?_ ?_
            rotate_left
            · intro w'
              go_simp
              with_reducible rfl
            rotate_left
            · simp only [Act.put, List.setIfInBounds_toArray, List.set_cons_zero, List.set_cons_succ, i64_w, i32_w]
              rfl
            refine pure_ (i := 15) (N := (some 59)) (v := ?_) (a' := ?_) #[true, true, true, true, true, false, true, true, true, true, true, false, false, true, true, true, false, false, false, false, false] rfl rfl (by kernel_rfl) (fun _ _ _ h => h) (Or.inl ⟨by rfl, ?_⟩) ?_ ?_
            rotate_left
            · intro w'
              go_simp
              with_reducible rfl
            rotate_left
            · simp only [Act.put, List.setIfInBounds_toArray, List.set_cons_zero, List.set_cons_succ, i64_w, i32_w]
              rfl
            refine pure_ (i := 16) (N := (some 60)) (v := ?_) (a' := ?_) #[true, true, true, true, true, false, true, true, true, true, true, false, false, true, true, true, true, false, false, false, false] rfl rfl (by kernel_rfl) (fun _ _ _ h => h) (Or.inl ⟨by rfl, ?_⟩) ?_ ?_
            rotate_left
            · intro w'
              go_simp
              with_reducible rfl
            rotate_left
            · simp only [Act.put, List.setIfInBounds_toArray, List.set_cons_zero, List.set_cons_succ, i64_w, i32_w]
              rfl
            refine take_ (i := 5) (N := (some 49)) (v := ?_) (a' := ?_) #[true, true, true, true, true, true, true, true, true, true, true, false, false, true, true, true, true, false, false, false, false] rfl rfl (by kernel_rfl) (fun _ _ _ h => h) (Or.inl ⟨by rfl, ?_⟩) hHeld ?_ ?_
            rotate_left
            · intro w' hS_
              have cz_ := (blk_cell hS_.1 2).trans rfl
              go_simp
              with_reducible rfl
            rotate_left
            · simp only [Act.put, List.setIfInBounds_toArray, List.set_cons_zero, List.set_cons_succ, i64_w, i32_w]
              rfl
            refine take_ (i := 11) (N := (some 55)) (v := ?_) (a' := ?_) #[true, true, true, true, true, true, true, true, true, true, true, true, false, true, true, true, true, false, false, false, false] rfl rfl (by kernel_rfl) (fun _ _ _ h => h) (Or.inl ⟨by rfl, ?_⟩) hHeld ?_ ?_
            rotate_left
            · intro w' hS_
              have cz_ := hS_.2
              go_simp
              with_reducible rfl
            rotate_left
            · simp only [Act.put, List.setIfInBounds_toArray, List.set_cons_zero, List.set_cons_succ, i64_w, i32_w]
              rfl
            refine pure_ (i := 12) (N := (some 56)) (v := ?_) (a' := ?_) #[true, true, true, true, true, true, true, true, true, true, true, true, true, true, true, true, true, false, false, false, false] rfl rfl (by kernel_rfl) (fun _ _ _ h => h) (Or.inl ⟨by rfl, ?_⟩) ?_ ?_
            rotate_left
            · intro w'
              go_simp
              with_reducible rfl
            rotate_left
            · simp only [Act.put, List.setIfInBounds_toArray, List.set_cons_zero, List.set_cons_succ, i64_w, i32_w]
              rfl
            refine pure_ (i := 17) (N := (some 61)) (v := ?_) (a' := ?_) #[true, true, true, true, true, true, true, true, true, true, true, true, true, true, true, true, true, true, false, false, false] rfl rfl (by kernel_rfl) (fun _ _ _ h => h) (Or.inl ⟨by rfl, ?_⟩) ?_ ?_
            rotate_left
            · intro w'
              go_simp
              with_reducible rfl
            rotate_left
            · simp only [Act.put, List.setIfInBounds_toArray, List.set_cons_zero, List.set_cons_succ, i64_w, i32_w]
              rfl
            refine pure_ (i := 18) (N := (some 62)) (v := ?_) (a' := ?_) #[true, true, true, true, true, true, true, true, true, true, true, true, true, true, true, true, true, true, true, false, false] rfl rfl (by kernel_rfl) (fun _ _ _ h => h) (Or.inl ⟨by rfl, ?_⟩) ?_ ?_
            rotate_left
            · intro w'
              go_simp
              with_reducible rfl
            rotate_left
            · simp only [Act.put, List.setIfInBounds_toArray, List.set_cons_zero, List.set_cons_succ, i64_w, i32_w]
              rfl
            refine pure_ (i := 19) (N := (some 63)) (v := ?_) (a' := ?_) #[true, true, true, true, true, true, true, true, true, true, true, true, true, true, true, true, true, true, true, true, false] rfl rfl (by kernel_rfl) (fun _ _ _ h => h) (Or.inl ⟨by rfl, ?_⟩) ?_ ?_
            rotate_left
            · intro w'
              go_simp
              with_reducible rfl
            rotate_left
            · simp only [Act.put, List.setIfInBounds_toArray, List.set_cons_zero, List.set_cons_succ, i64_w, i32_w]
              rfl
            refine last_ (i := 20) (N := none) #[true, true, true, true, true, true, true, true, true, true, true, true, true, true, true, true, true, true, true, true, true] rfl rfl (by kernel_rfl) (by decide) (fun K hK => ?_)
            have cz_ := (blk_cell hHeld.1 2).trans rfl
            have fz_ := blk_frozen hHeld.1 2
            refine store_step (w1 := ?w1_8) ?hg ?hN ?hr ?_; (case hg => rfl); (case hN => rfl); (case hr => first | (go_simp; done) | (go_simp; rfl))
            refine hK.out _ _ ?_
            clear hK K cz_ fz_
            refine done_ (by kernel_rfl) ?_
            clear hHeld hwm hwi hb1 hb2 htn
            go_wp2
            try clear hK1
            refine inLoop_gen (fun w' => Below w.heap.size w w' ∧ w'.heap[g2]? = some (.cells #[.int .u32 (st.a), .int .u32 (st.b), .int .u32 (st.c), .int .u32 (st.d), .int .u32 (st.e), .int .u32 (st.f), .int .u32 (st.g), .int .u32 (st.h)] 31 (0, 0)) ∧ w'.heap[g3]? = some (.cells #[.int .u32 ((orw (orw (orw (orw 0 (rd (spB a0) ((i : Nat) : Int)) 0) (rd (spB a0) ((i + 1 : Nat) : Int)) 1) (rd (spB a0) ((i + 2 : Nat) : Int)) 2) (rd (spB a0) ((i + 3 : Nat) : Int)) 3)), .int .u32 ((orw (orw (orw (orw 0 (rd (spB a0) ((i + 4 : Nat) : Int)) 0) (rd (spB a0) ((i + 5 : Nat) : Int)) 1) (rd (spB a0) ((i + 6 : Nat) : Int)) 2) (rd (spB a0) ((i + 7 : Nat) : Int)) 3)), .int .u32 ((orw 0 (rd (spB a0) ((i + 8 : Nat) : Int)) 0)), .int .u32 0] 23 (0, 0)) ∧ OwnC w' w.heap.size (.slice (some ⟨g1, 0, none⟩) (a0.size + 1 + zn a0.size + 8) cap1) (spB a0)) ⟨(by repeat (first | (with_reducible first | exact HB.out | apply below_alloc | apply pw_below_drewN | apply below_drew1 | refine below_set ?_ Gg2.out | refine below_set ?_ Gg3.out) | exact HB.out)), (Eq.trans (by (with_reducible repeat (first | exact Kg2.out | apply blk_set | apply far_put Ng2g3.out | apply far_put Ng2g3.out.symm | apply blk_drewN | apply blk_drew | apply blk_alloc))) (by first | rfl)), (Eq.trans (by (with_reducible repeat (first | exact Kg3.out | apply blk_set | apply far_put Ng2g3.out | apply far_put Ng2g3.out.symm | apply blk_drewN | apply blk_drew | apply blk_alloc))) (by first | rfl)), (by repeat (first | (with_reducible exact HC1.out) | (with_reducible exact OwnC.drew HC1.out) | refine OwnC.drew ?_ | refine OwnC.far ?_ N13.out _))⟩ ?_
            try clear K1
            intro wA hF
            clear HB HC1 Kg2 Kg3
            obtain ⟨n0_, n1_, n2_, n3_⟩ := hF
            have HB := Aside0.mk n0_
            have Kg2 := Aside0.mk n1_
            have Kg3 := Aside0.mk n2_
            have HC1 := Aside0.mk n3_
            clear n0_ n1_ n2_ n3_
            refine inLoop_k fun K1 hK1 => ?_
            go_wp2
            have hwm : wrap64 2 = 2 := by unfold wrap64; omega
            have hb1 : (0 ≤ (i : Int) + 9) = True := eq_true (by omega)
            have hb2 : ((i : Int) + 9 < (a0.size : Int) + 1 + (zn a0.size : Int) + 8) = True := eq_true (by have := HI.out; omega)
            have htn : ((i : Int) + 9).toNat = i + 9 := by omega
            have hwi : wrap64 ((i : Int) + 9) = (i : Int) + 9 := w64' _ (by omega) (by omega)
            refine start_ (n := 21) (S := fun w' => w'.heap[g3]? = some (.cells #[.int .u32 ((orw (orw (orw (orw 0 (rd (spB a0) ((i : Nat) : Int)) 0) (rd (spB a0) ((i + 1 : Nat) : Int)) 1) (rd (spB a0) ((i + 2 : Nat) : Int)) 2) (rd (spB a0) ((i + 3 : Nat) : Int)) 3)), .int .u32 ((orw (orw (orw (orw 0 (rd (spB a0) ((i + 4 : Nat) : Int)) 0) (rd (spB a0) ((i + 5 : Nat) : Int)) 1) (rd (spB a0) ((i + 6 : Nat) : Int)) 2) (rd (spB a0) ((i + 7 : Nat) : Int)) 3)), .int .u32 ((orw 0 (rd (spB a0) ((i + 8 : Nat) : Int)) 0)), .int .u32 0] 23 (0, 0)) ∧ w'.cell? ⟨g1, i + 9, none⟩ = some (.int .u8 (rd (spB a0) ((i + 9 : Nat) : Int)))) (ds := [20]) #[false, false, false, false, false, false, false, false, false, false, false, false, false, false, false, false, false, false, false, false, false] (by kernel_rfl) rfl rfl ⟨blk_drew Kg3.out, HC1.out.at (i + 9) (by have := HI.out; rw [spB_length]; omega)⟩ (fun hHeld => ?_)
            refine pure_ (i := 0) (N := (some 44)) (v := ?_) (a' := ?_) #[true, false, false, false, false, false, false, false, false, false, false, false, false, false, false, false, false, false, false, false, false] rfl rfl (by kernel_rfl) (fun _ _ _ h => h) (Or.inl ⟨by rfl, ?_⟩) ?_ ?_
            rotate_left
            · intro w'
              go_simp
              with_reducible rfl
            rotate_left
            · simp only [Act.put, List.setIfInBounds_toArray, List.set_cons_zero, List.set_cons_succ, i64_w, i32_w]
              rfl
            refine pure_ (i := 1) (N := (some 45)) (v := ?_) (a' := ?_) #[true, true, false, false, false, false, false, false, false, false, false, false, false, false, false, false, false, false, false, false, false] rfl rfl (by kernel_rfl) (fun _ _ _ h => h) (Or.inl ⟨by rfl, ?_⟩) ?_ ?_
            rotate_left
            · intro w'
              go_simp
              with_reducible rfl
            rotate_left
            · simp only [Act.put, List.setIfInBounds_toArray, List.set_cons_zero, List.set_cons_succ, i64_w, i32_w]
              rfl
            refine pure_ (i := 2) (N := (some 46)) (v := ?_) (a' := ?_) #[true, true, true, false, false, false, false, false, false, false, false, false, false, false, false, false, false, false, false, false, false] rfl rfl (by kernel_rfl) (fun _ _ _ h => h) (Or.inl ⟨by rfl, ?_⟩) ?_ ?_
            rotate_left
            · intro w'
              go_simp
              with_reducible rfl
            rotate_left
            · simp only [Act.put, List.setIfInBounds_toArray, List.set_cons_zero, List.set_cons_succ, i64_w, i32_w]
              rfl
            refine pure_ (i := 3) (N := (some 47)) (v := ?_) (a' := ?_) #[true, true, true, true, false, false, false, false, false, false, false, false, false, false, false, false, false, false, false, false, false] rfl rfl (by kernel_rfl) (fun _ _ _ h => h) (Or.inl ⟨by rfl, ?_⟩) ?_ ?_
            rotate_left
            · intro w'
              go_simp
              with_reducible rfl
            rotate_left
            · simp only [Act.put, List.setIfInBounds_toArray, List.set_cons_zero, List.set_cons_succ, i64_w, i32_w]
              rfl
            refine pure_ (i := 4) (N := (some 48)) (v := ?_) (a' := ?_) #[true, true, true, true, true, false, false, false, false, false, false, false, false, false, false, false, false, false, false, false, false] rfl rfl (by kernel_rfl) (fun _ _ _ h => h) (Or.inl ⟨by rfl, ?_⟩) ?_ ?_
            rotate_left
            · intro w'
              go_simp
              with_reducible rfl
            rotate_left
            · simp only [Act.put, List.setIfInBounds_toArray, List.set_cons_zero, List.set_cons_succ, i64_w, i32_w]
              rfl
            refine pure_ (i := 6) (N := (some 50)) (v := ?_) (a' := ?_) #[true, true, true, true, true, false, true, false, false, false, false, false, false, false, false, false, false, false, false, false, false] rfl rfl (by kernel_rfl) (fun _ _ _ h => h) (Or.inl ⟨by rfl, ?_⟩) ?_ ?_
            rotate_left
            · intro w'
              go_simp
              with_reducible rfl
            rotate_left
            · simp only [Act.put, List.setIfInBounds_toArray, List.set_cons_zero, List.set_cons_succ, i64_w, i32_w]
              rfl
            refine pure_ (i := 7) (N := (some 51)) (v := ?_) (a' := ?_) #[true, true, true, true, true, false, true, true, false, false, false, false, false, false, false, false, false, false, false, false, false] rfl rfl (by kernel_rfl) (fun _ _ _ h => h) (Or.inl ⟨by rfl, ?_⟩) ?_ ?_
            rotate_left
            · intro w'
              go_simp
              with_reducible rfl
            rotate_left
            · simp only [Act.put, List.setIfInBounds_toArray, List.set_cons_zero, List.set_cons_succ, i64_w, i32_w]
              rfl
            refine pure_ (i := 8) (N := (some 52)) (v := ?_) (a' := ?_) #[true, true, true, true, true, false, true, true, true, false, false, false, false, false, false, false, false, false, false, false, false] rfl rfl (by kernel_rfl) (fun _ _ _ h => h) (Or.inl ⟨by rfl, ?_⟩) ?_ ?_
            rotate_left
            · intro w'
              go_simp
              with_reducible rfl
            rotate_left
            · simp only [Act.put, List.setIfInBounds_toArray, List.set_cons_zero, List.set_cons_succ, i64_w, i32_w]
              rfl
            refine pure_ (i := 9) (N := (some 53)) (v := ?_) (a' := ?_) #[true, true, true, true, true, false, true, true, true, true, false, false, false, false, false, false, false, false, false, false, false] rfl rfl (by kernel_rfl) (fun _ _ _ h => h) (Or.inl ⟨by rfl, ?_⟩) ?_ ?_
            rotate_left
            · intro w'
              go_simp
              with_reducible rfl
            rotate_left
            · simp only [Act.put, List.setIfInBounds_toArray, List.set_cons_zero, List.set_cons_succ, i64_w, i32_w]
              rfl
            refine pure_ (i := 10) (N := (some 54)) (v := ?_) (a' := ?_) #[true, true, true, true, true, false, true, true, true, true, true, false, false, false, false, false, false, false, false, false, false] rfl rfl (by kernel_rfl) (fun _ _ _ h => h) (Or.inl ⟨by rfl, ?_⟩) ?_ ?_
            rotate_left
            · intro w'
              go_simp
              with_reducible rfl
            rotate_left
            · simp only [Act.put, List.setIfInBounds_toArray, List.set_cons_zero, List.set_cons_succ, i64_w, i32_w]
              rfl
            refine pure_ (i := 13) (N := (some 57)) (v := ?_) (a' := ?_) #[true, true, true, true, true, false, true, true, true, true, true, false, false, true, false, false, false, false, false, false, false] rfl rfl (by kernel_rfl) (fun _ _ _ h => h) (Or.inl ⟨by rfl, ?_⟩) ?_ ?_
            rotate_left
            · intro w'
              go_simp
              with_reducible rfl
            rotate_left
            · simp only [Act.put, List.setIfInBounds_toArray, List.set_cons_zero, List.set_cons_succ, i64_w, i32_w]
              rfl
            refine pure_ (i := 14) (N := (some 58)) (v := ?_) (a' := ?_) #[true, true, true, true, true, false, true, true, true, true, true, false, false, true, true, false, false, false, false, false, false] rfl rfl (by kernel_rfl) (fun _ _ _ h => h) (Or.inl ⟨by rfl, ?_⟩) ?_ ?_
            rotate_left
            · intro w'
              go_simp
              with_reducible rfl
            rotate_left
            · simp only [Act.put, List.setIfInBounds_toArray, List.set_cons_zero, List.set_cons_succ, i64_w, i32_w]
              rfl
            refine pure_ (i := 15) (N := (some 59)) (v := ?_) (a' := ?_) #[true, true, true, true, true, false, true, true, true, true, true, false, false, true, true, true, false, false, false, false, false] rfl rfl (by kernel_rfl) (fun _ _ _ h => h) (Or.inl ⟨by rfl, ?_⟩) ?_ ?_
            rotate_left
            · intro w'
              go_simp
              with_reducible rfl
            rotate_left
            · simp only [Act.put, List.setIfInBounds_toArray, List.set_cons_zero, List.set_cons_succ, i64_w, i32_w]
              rfl
            refine pure_ (i := 16) (N := (some 60)) (v := ?_) (a' := ?_) #[true, true, true, true, true, false, true, true, true, true, true, false, false, true, true, true, true, false, false, false, false] rfl rfl (by kernel_rfl) (fun _ _ _ h => h) (Or.inl ⟨by rfl, ?_⟩) ?_ ?_
            rotate_left
            · intro w'
              go_simp
              with_reducible rfl
            rotate_left
            · simp only [Act.put, List.setIfInBounds_toArray, List.set_cons_zero, List.set_cons_succ, i64_w, i32_w]
              rfl
            refine take_ (i := 5) (N := (some 49)) (v := ?_) (a' := ?_) #[true, true, true, true, true, true, true, true, true, true, true, false, false, true, true, true, true, false, false, false, false] rfl rfl (by kernel_rfl) (fun _ _ _ h => h) (Or.inl ⟨by rfl, ?_⟩) hHeld ?_ ?_
            rotate_left
            · intro w' hS_
              have cz_ := (blk_cell hS_.1 2).trans rfl
              go_simp
              with_reducible rfl
            rotate_left
            · simp only [Act.put, List.setIfInBounds_toArray, List.set_cons_zero, List.set_cons_succ, i64_w, i32_w]
              rfl
            refine take_ (i := 11) (N := (some 55)) (v := ?_) (a' := ?_) #[true, true, true, true, true, true, true, true, true, true, true, true, false, true, true, true, true, false, false, false, false] rfl rfl (by kernel_rfl) (fun _ _ _ h => h) (Or.inl ⟨by rfl, ?_⟩) hHeld ?_ ?_
            rotate_left
            · intro w' hS_
              have cz_ := hS_.2
              go_simp
              with_reducible rfl
            rotate_left
            · simp only [Act.put, List.setIfInBounds_toArray, List.set_cons_zero, List.set_cons_succ, i64_w, i32_w]
              rfl
            refine pure_ (i := 12) (N := (some 56)) (v := ?_) (a' := ?_) #[true, true, true, true, true, true, true, true, true, true, true, true, true, true, true, true, true, false, false, false, false] rfl rfl (by kernel_rfl) (fun _ _ _ h => h) (Or.inl ⟨by rfl, ?_⟩) ?_ ?_
            rotate_left
            · intro w'
              go_simp
              with_reducible rfl
            rotate_left
            · simp only [Act.put, List.setIfInBounds_toArray, List.set_cons_zero, List.set_cons_succ, i64_w, i32_w]
              rfl
            refine pure_ (i := 17) (N := (some 61)) (v := ?_) (a' := ?_) #[true, true, true, true, true, true, true, true, true, true, true, true, true, true, true, true, true, true, false, false, false] rfl rfl (by kernel_rfl) (fun _ _ _ h => h) (Or.inl ⟨by rfl, ?_⟩) ?_ ?_
            rotate_left
            · intro w'
              go_simp
              with_reducible rfl
            rotate_left
            · simp only [Act.put, List.setIfInBounds_toArray, List.set_cons_zero, List.set_cons_succ, i64_w, i32_w]
              rfl
            refine pure_ (i := 18) (N := (some 62)) (v := ?_) (a' := ?_) #[true, true, true, true, true, true, true, true, true, true, true, true, true, true, true, true, true, true, true, false, false] rfl rfl (by kernel_rfl) (fun _ _ _ h => h) (Or.inl ⟨by rfl, ?_⟩) ?_ ?_
            rotate_left
            · intro w'
              go_simp
              with_reducible rfl
            rotate_left
            · simp only [Act.put, List.setIfInBounds_toArray, List.set_cons_zero, List.set_cons_succ, i64_w, i32_w]
              rfl
            refine pure_ (i := 19) (N := (some 63)) (v := ?_) (a' := ?_) #[true, true, true, true, true, true, true, true, true, true, true, true, true, true, true, true, true, true, true, true, false] rfl rfl (by kernel_rfl) (fun _ _ _ h => h) (Or.inl ⟨by rfl, ?_⟩) ?_ ?_
            rotate_left
            · intro w'
              go_simp
              with_reducible rfl
            rotate_left
            · simp only [Act.put, List.setIfInBounds_toArray, List.set_cons_zero, List.set_cons_succ, i64_w, i32_w]
              rfl
            refine last_ (i := 20) (N := none) #[true, true, true, true, true, true, true, true, true, true, true, true, true, true, true, true, true, true, true, true, true] rfl rfl (by kernel_rfl) (by decide) (fun K hK => ?_)
            have cz_ := (blk_cell hHeld.1 2).trans rfl
            have fz_ := blk_frozen hHeld.1 2
            refine store_step (w1 := ?w1_9) ?hg ?hN ?hr ?_; (case hg => rfl); (case hN => rfl); (case hr => first | (go_simp; done) | (go_simp; rfl))
            refine hK.out _ _ ?_
            clear hK K cz_ fz_
            refine done_ (by kernel_rfl) ?_
            clear hHeld hwm hwi hb1 hb2 htn
            go_wp2
            try clear hK1
            refine inLoop_gen (fun w' => Below w.heap.size w w' ∧ w'.heap[g2]? = some (.cells #[.int .u32 (st.a), .int .u32 (st.b), .int .u32 (st.c), .int .u32 (st.d), .int .u32 (st.e), .int .u32 (st.f), .int .u32 (st.g), .int .u32 (st.h)] 31 (0, 0)) ∧ w'.heap[g3]? = some (.cells #[.int .u32 ((orw (orw (orw (orw 0 (rd (spB a0) ((i : Nat) : Int)) 0) (rd (spB a0) ((i + 1 : Nat) : Int)) 1) (rd (spB a0) ((i + 2 : Nat) : Int)) 2) (rd (spB a0) ((i + 3 : Nat) : Int)) 3)), .int .u32 ((orw (orw (orw (orw 0 (rd (spB a0) ((i + 4 : Nat) : Int)) 0) (rd (spB a0) ((i + 5 : Nat) : Int)) 1) (rd (spB a0) ((i + 6 : Nat) : Int)) 2) (rd (spB a0) ((i + 7 : Nat) : Int)) 3)), .int .u32 ((orw (orw 0 (rd (spB a0) ((i + 8 : Nat) : Int)) 0) (rd (spB a0) ((i + 9 : Nat) : Int)) 1)), .int .u32 0] 23 (0, 0)) ∧ OwnC w' w.heap.size (.slice (some ⟨g1, 0, none⟩) (a0.size + 1 + zn a0.size + 8) cap1) (spB a0)) ⟨(by repeat (first | (with_reducible first | exact HB.out | apply below_alloc | apply pw_below_drewN | apply below_drew1 | refine below_set ?_ Gg2.out | refine below_set ?_ Gg3.out) | exact HB.out)), (Eq.trans (by (with_reducible repeat (first | exact Kg2.out | apply blk_set | apply far_put Ng2g3.out | apply far_put Ng2g3.out.symm | apply blk_drewN | apply blk_drew | apply blk_alloc))) (by first | rfl)), (Eq.trans (by (with_reducible repeat (first | exact Kg3.out | apply blk_set | apply far_put Ng2g3.out | apply far_put Ng2g3.out.symm | apply blk_drewN | apply blk_drew | apply blk_alloc))) (by first | rfl)), (by repeat (first | (with_reducible exact HC1.out) | (with_reducible exact OwnC.drew HC1.out) | refine OwnC.drew ?_ | refine OwnC.far ?_ N13.out _))⟩ ?_
            try clear K1
            intro wA hF
            clear HB HC1 Kg2 Kg3
            obtain ⟨n0_, n1_, n2_, n3_⟩ := hF
            have HB := Aside0.mk n0_
            have Kg2 := Aside0.mk n1_
            have Kg3 := Aside0.mk n2_
            have HC1 := Aside0.mk n3_
            clear n0_ n1_ n2_ n3_
            refine inLoop_k fun K1 hK1 => ?_
            go_wp2
            have hwm : wrap64 2 = 2 := by unfold wrap64; omega
            have hb1 : (0 ≤ (i : Int) + 10) = True := eq_true (by omega)
            have hb2 : ((i : Int) + 10 < (a0.size : Int) + 1 + (zn a0.size : Int) + 8) = True := eq_true (by have := HI.out; omega)
            have htn : ((i : Int) + 10).toNat = i + 10 := by omega
            have hwi : wrap64 ((i : Int) + 10) = (i : Int) + 10 := w64' _ (by omega) (by omega)
            refine start_ (n := 21) (S := fun w' => w'.heap[g3]? = some (.cells #[.int .u32 ((orw (orw (orw (orw 0 (rd (spB a0) ((i : Nat) : Int)) 0) (rd (spB a0) ((i + 1 : Nat) : Int)) 1) (rd (spB a0) ((i + 2 : Nat) : Int)) 2) (rd (spB a0) ((i + 3 : Nat) : Int)) 3)), .int .u32 ((orw (orw (orw (orw 0 (rd (spB a0) ((i + 4 : Nat) : Int)) 0) (rd (spB a0) ((i + 5 : Nat) : Int)) 1) (rd (spB a0) ((i + 6 : Nat) : Int)) 2) (rd (spB a0) ((i + 7 : Nat) : Int)) 3)), .int .u32 ((orw (orw 0 (rd (spB a0) ((i + 8 : Nat) : Int)) 0) (rd (spB a0) ((i + 9 : Nat) : Int)) 1)), .int .u32 0] 23 (0, 0)) ∧ w'.cell? ⟨g1, i + 10, none⟩ = some (.int .u8 (rd (spB a0) ((i + 10 : Nat) : Int)))) (ds := [20]) #[false, false, false, false, false, false, false, false, false, false, false, false, false, false, false, false, false, false, false, false, false] (by kernel_rfl) rfl rfl ⟨blk_drew Kg3.out, HC1.out.at (i + 10) (by have := HI.out; rw [spB_length]; omega)⟩ (fun hHeld => ?_)
            refine pure_ (i := 0) (N := (some 44)) (v := ?_) (a' := ?_) #[true, false, false, false, false, false, false, false, false, false, false, false, false, false, false, false, false, false, false, false, false] rfl rfl (by kernel_rfl) (fun _ _ _ h => h) (Or.inl ⟨by rfl, ?_⟩) ?_ ?_
            rotate_left
            · intro w'
              go_simp
              with_reducible rfl
            rotate_left
            · simp only [Act.put, List.setIfInBounds_toArray, List.set_cons_zero, List.set_cons_succ, i64_w, i32_w]
              rfl
            refine pure_ (i := 1) (N := (some 45)) (v := ?_) (a' := ?_) #[true, true, false, false, false, false, false, false, false, false, false, false, false, false, false, false, false, false, false, false, false] rfl rfl (by kernel_rfl) (fun _ _ _ h => h) (Or.inl ⟨by rfl, ?_⟩) ?_ ?_
            rotate_left
            · intro w'
              go_simp
              with_reducible rfl
            rotate_left
            · simp only [Act.put, List.setIfInBounds_toArray, List.set_cons_zero, List.set_cons_succ, i64_w, i32_w]
              rfl
            refine pure_ (i := 2) (N := (some 46)) (v := ?_) (a' := ?_) #[true, true, true, false, false, false, false, false, false, false, false, false, false, false, false, false, false, false, false, false, false] rfl rfl (by kernel_rfl) (fun _ _ _ h => h) (Or.inl ⟨by rfl, ?_⟩) ?_ ?_
            rotate_left
            · intro w'
              go_simp
              with_reducible rfl
            rotate_left
            · simp only [Act.put, List.setIfInBounds_toArray, List.set_cons_zero, List.set_cons_succ, i64_w, i32_w]
              rfl
            refine pure_ (i := 3) (N := (some 47)) (v := ?_) (a' := ?_) #[true, true, true, true, false, false, false, false, false, false, false, false, false, false, false, false, false, false, false, false, false] rfl rfl (by kernel_rfl) (fun _ _ _ h => h) (Or.inl ⟨by rfl, ?_⟩) ?_ ?_
            rotate_left
            · intro w'
              go_simp
              with_reducible rfl
            rotate_left
            · simp only [Act.put, List.setIfInBounds_toArray, List.set_cons_zero, List.set_cons_succ, i64_w, i32_w]
              rfl
            refine pure_ (i := 4) (N := (some 48)) (v := ?_) (a' := ?_) #[true, true, true, true, true, false, false, false, false, false, false, false, false, false, false, false, false, false, false, false, false] rfl rfl (by kernel_rfl) (fun _ _ _ h => h) (Or.inl ⟨by rfl, ?_⟩) ?_ ?_
            rotate_left
            · intro w'
              go_simp
              with_reducible rfl
            rotate_left
            · simp only [Act.put, List.setIfInBounds_toArray, List.set_cons_zero, List.set_cons_succ, i64_w, i32_w]
              rfl
            refine pure_ (i := 6) (N := (some 50)) (v := ?_) (a' := ?_) #[true, true, true, true, true, false, true, false, false, false, false, false, false, false, false, false, false, false, false, false, false] rfl rfl (by kernel_rfl) (fun _ _ _ h => h) (Or.inl ⟨by rfl, ?_⟩) ?_ ?_
            rotate_left
            · intro w'
              go_simp
              with_reducible rfl
            rotate_left
            · simp only [Act.put, List.setIfInBounds_toArray, List.set_cons_zero, List.set_cons_succ, i64_w, i32_w]
              rfl
            refine pure_ (i := 7) (N := (some 51)) (v := ?_) (a' := ?_) #[true, true, true, true, true, false, true, true, false, false, false, false, false, false, false, false, false, false, false, false, false] rfl rfl (by kernel_rfl) (fun _ _ _ h => h) (Or.inl ⟨by rfl, ?_⟩) ?_ ?_
            rotate_left
            · intro w'
              go_simp
              with_reducible rfl
            rotate_left
            · simp only [Act.put, List.setIfInBounds_toArray, List.set_cons_zero, List.set_cons_succ, i64_w, i32_w]
              rfl
            refine pure_ (i := 8) (N := (some 52)) (v := ?_) (a' := ?_) #[true, true, true, true, true, false, true, true, true, false, false, false, false, false, false, false, false, false, false, false, false] rfl rfl (by kernel_rfl) (fun _ _ _ h => h) (Or.inl ⟨by rfl, ?_⟩) ?_ ?_
            rotate_left
            · intro w'
              go_simp
              with_reducible rfl
            rotate_left
            · simp only [Act.put, List.setIfInBounds_toArray, List.set_cons_zero, List.set_cons_succ, i64_w, i32_w]
              rfl
            refine pure_ (i := 9) (N := (some 53)) (v := ?_) (a' := ?_) #[true, true, true, true, true, false, true, true, true, true, false, false, false, false, false, false, false, false, false, false, false] rfl rfl (by kernel_rfl) (fun _ _ _ h => h) (Or.inl ⟨by rfl, ?_⟩) ?_ ?_
            rotate_left
            · intro w'
              go_simp
              with_reducible rfl
            rotate_left
            · simp only [Act.put, List.setIfInBounds_toArray, List.set_cons_zero, List.set_cons_succ, i64_w, i32_w]
              rfl
            refine pure_ (i := 10) (N := (some 54)) (v := ?_) (a' := ?_) #[true, true, true, true, true, false, true, true, true, true, true, false, false, false, false, false, false, false, false, false, false] rfl rfl (by kernel_rfl) (fun _ _ _ h => h) (Or.inl ⟨by rfl, ?_⟩) ?_ ?_
            rotate_left
            · intro w'
              go_simp
              with_reducible rfl
            rotate_left
            · simp only [Act.put, List.setIfInBounds_toArray, List.set_cons_zero, List.set_cons_succ, i64_w, i32_w]
              rfl
            refine pure_ (i := 13) (N := (some 57)) (v := ?_) (a' := ?_) #[true, true, true, true, true, false, true, true, true, true, true, false, false, true, false, false, false, false, false, false, false] rfl rfl (by kernel_rfl) (fun _ _ _ h => h) (Or.inl ⟨by rfl, ?_⟩) ?_ ?_
            rotate_left
            · intro w'
              go_simp
              with_reducible rfl
            rotate_left
            · simp only [Act.put, List.setIfInBounds_toArray, List.set_cons_zero, List.set_cons_succ, i64_w, i32_w]
              rfl
            refine pure_ (i := 14) (N := (some 58)) (v := ?_) (a' := ?_) #[true, true, true, true, true, false, true, true, true, true, true, false, false, true, true, false, false, false, false, false, false] rfl rfl (by kernel_rfl) (fun _ _ _ h => h) (Or.inl ⟨by rfl, ?_⟩) ?_ ?_
            rotate_left
            · intro w'
              go_simp
              with_reducible rfl
            rotate_left
            · simp only [Act.put, List.setIfInBounds_toArray, List.set_cons_zero, List.set_cons_succ, i64_w, i32_w]
              rfl
            refine pure_ (i := 15) (N := (some 59)) (v := ?_) (a' := ?_) #[true, true, true, true, true, false, true, true, true, true, true, false, false, true, true, true, false, false, false, false, false] rfl rfl (by kernel_rfl) (fun _ _ _ h => h) (Or.inl ⟨by rfl, ?_⟩) ?_ ?_
            rotate_left
            · intro w'
              go_simp
              with_reducible rfl
            rotate_left
            · simp only [Act.put, List.setIfInBounds_toArray, List.set_cons_zero, List.set_cons_succ, i64_w, i32_w]
              rfl
            refine pure_ (i := 16) (N := (some 60)) (v := ?_) (a' := ?_) #[true, true, true, true, true, false, true, true, true, true, true, false, false, true, true, true, true, false, false, false, false] rfl rfl (by kernel_rfl) (fun _ _ _ h => h) (Or.inl ⟨by rfl, ?_⟩) ?_ ?_
            rotate_left
            · intro w'
              go_simp
              with_reducible rfl
            rotate_left
            · simp only [Act.put, List.setIfInBounds_toArray, List.set_cons_zero, List.set_cons_succ, i64_w, i32_w]
              rfl
            refine take_ (i := 5) (N := (some 49)) (v := ?_) (a' := ?_) #[true, true, true, true, true, true, true, true, true, true, true, false, false, true, true, true, true, false, false, false, false] rfl rfl (by kernel_rfl) (fun _ _ _ h => h) (Or.inl ⟨by rfl, ?_⟩) hHeld ?_ ?_
            rotate_left
            · intro w' hS_
              have cz_ := (blk_cell hS_.1 2).trans rfl
              go_simp
              with_reducible rfl
            rotate_left
            · simp only [Act.put, List.setIfInBounds_toArray, List.set_cons_zero, List.set_cons_succ, i64_w, i32_w]
              rfl
            refine take_ (i := 11) (N := (some 55)) (v := ?_) (a' := ?_) #[true, true, true, true, true, true, true, true, true, true, true, true, false, true, true, true, true, false, false, false, false] rfl rfl (by kernel_rfl) (fun _ _ _ h => h) (Or.inl ⟨by rfl, ?_⟩) hHeld ?_ ?_
            rotate_left
            · intro w' hS_
              have cz_ := hS_.2
              go_simp
              with_reducible rfl
            rotate_left
            · simp only [Act.put, List.setIfInBounds_toArray, List.set_cons_zero, List.set_cons_succ, i64_w, i32_w]
              rfl
            refine pure_ (i := 12) (N := (some 56)) (v := ?_) (a' := ?_) #[true, true, true, true, true, true, true, true, true, true, true, true, true, true, true, true, true, false, false, false, false] rfl rfl (by kernel_rfl) (fun _ _ _ h => h) (Or.inl ⟨by rfl, ?_⟩) ?_ ?_
            rotate_left
            · intro w'
              go_simp
              with_reducible rfl
            rotate_left
            · simp only [Act.put, List.setIfInBounds_toArray, List.set_cons_zero, List.set_cons_succ, i64_w, i32_w]
              rfl
            refine pure_ (i := 17) (N := (some 61)) (v := ?_) (a' := ?_) #[true, true, true, true, true, true, true, true, true, true, true, true, true, true, true, true, true, true, false, false, false] rfl rfl (by kernel_rfl) (fun _ _ _ h => h) (Or.inl ⟨by rfl, ?_⟩) ?_ ?_
            rotate_left
            · intro w'
              go_simp
              with_reducible rfl
            rotate_left
            · simp only [Act.put, List.setIfInBounds_toArray, List.set_cons_zero, List.set_cons_succ, i64_w, i32_w]
              rfl
            refine pure_ (i := 18) (N := (some 62)) (v := ?_) (a' := ?_) #[true, true, true, true, true, true, true, true, true, true, true, true, true, true, true, true, true, true, true, false, false] rfl rfl (by kernel_rfl) (fun _ _ _ h => h) (Or.inl ⟨by rfl, ?_⟩) ?_ ?_
            rotate_left
            · intro w'
              go_simp
              with_reducible rfl
            rotate_left
            · simp only [Act.put, List.setIfInBounds_toArray, List.set_cons_zero, List.set_cons_succ, i64_w, i32_w]
              rfl
            refine pure_ (i := 19) (N := (some 63)) (v := ?_) (a' := ?_) #[true, true, true, true, true, true, true, true, true, true, true, true, true, true, true, true, true, true, true, true, false] rfl rfl (by kernel_rfl) (fun _ _ _ h => h) (Or.inl ⟨by rfl, ?_⟩) ?_ ?_
            rotate_left
            · intro w'
              go_simp
              with_reducible rfl
            rotate_left
            · simp only [Act.put, List.setIfInBounds_toArray, List.set_cons_zero, List.set_cons_succ, i64_w, i32_w]
              rfl
            refine last_ (i := 20) (N := none) #[true, true, true, true, true, true, true, true, true, true, true, true, true, true, true, true, true, true, true, true, true] rfl rfl (by kernel_rfl) (by decide) (fun K hK => ?_)
            have cz_ := (blk_cell hHeld.1 2).trans rfl
            have fz_ := blk_frozen hHeld.1 2
            refine store_step (w1 := ?w1_10) ?hg ?hN ?hr ?_; (case hg => rfl); (case hN => rfl); (case hr => first | (go_simp; done) | (go_simp; rfl))
            refine hK.out _ _ ?_
            clear hK K cz_ fz_
            refine done_ (by kernel_rfl) ?_
            clear hHeld hwm hwi hb1 hb2 htn
            go_wp2
            try clear hK1
            refine inLoop_gen (fun w' => Below w.heap.size w w' ∧ w'.heap[g2]? = some (.cells #[.int .u32 (st.a), .int .u32 (st.b), .int .u32 (st.c), .int .u32 (st.d), .int .u32 (st.e), .int .u32 (st.f), .int .u32 (st.g), .int .u32 (st.h)] 31 (0, 0)) ∧ w'.heap[g3]? = some (.cells #[.int .u32 ((orw (orw (orw (orw 0 (rd (spB a0) ((i : Nat) : Int)) 0) (rd (spB a0) ((i + 1 : Nat) : Int)) 1) (rd (spB a0) ((i + 2 : Nat) : Int)) 2) (rd (spB a0) ((i + 3 : Nat) : Int)) 3)), .int .u32 ((orw (orw (orw (orw 0 (rd (spB a0) ((i + 4 : Nat) : Int)) 0) (rd (spB a0) ((i + 5 : Nat) : Int)) 1) (rd (spB a0) ((i + 6 : Nat) : Int)) 2) (rd (spB a0) ((i + 7 : Nat) : Int)) 3)), .int .u32 ((orw (orw (orw 0 (rd (spB a0) ((i + 8 : Nat) : Int)) 0) (rd (spB a0) ((i + 9 : Nat) : Int)) 1) (rd (spB a0) ((i + 10 : Nat) : Int)) 2)), .int .u32 0] 23 (0, 0)) ∧ OwnC w' w.heap.size (.slice (some ⟨g1, 0, none⟩) (a0.size + 1 + zn a0.size + 8) cap1) (spB a0)) ⟨(by repeat (first | (with_reducible first | exact HB.out | apply below_alloc | apply pw_below_drewN | apply below_drew1 | refine below_set ?_ Gg2.out | refine below_set ?_ Gg3.out) | exact HB.out)), (Eq.trans (by (with_reducible repeat (first | exact Kg2.out | apply blk_set | apply far_put Ng2g3.out | apply far_put Ng2g3.out.symm | apply blk_drewN | apply blk_drew | apply blk_alloc))) (by first | rfl)), (Eq.trans (by (with_reducible repeat (first | exact Kg3.out | apply blk_set | apply far_put Ng2g3.out | apply far_put Ng2g3.out.symm | apply blk_drewN | apply blk_drew | apply blk_alloc))) (by first | rfl)), (by repeat (first | (with_reducible exact HC1.out) | (with_reducible exact OwnC.drew HC1.out) | refine OwnC.drew ?_ | refine OwnC.far ?_ N13.out _))⟩ ?_
            try clear K1
            intro wA hF
            clear HB HC1 Kg2 Kg3
            obtain ⟨n0_, n1_, n2_, n3_⟩ := hF
            have HB := Aside0.mk n0_
            have Kg2 := Aside0.mk n1_
            have Kg3 := Aside0.mk n2_
            have HC1 := Aside0.mk n3_
            clear n0_ n1_ n2_ n3_
            refine inLoop_k fun K1 hK1 => ?_
            go_wp2
            have hwm : wrap64 2 = 2 := by unfold wrap64; omega
            have hb1 : (0 ≤ (i : Int) + 11) = True := eq_true (by omega)
            have hb2 : ((i : Int) + 11 < (a0.size : Int) + 1 + (zn a0.size : Int) + 8) = True := eq_true (by have := HI.out; omega)
            have htn : ((i : Int) + 11).toNat = i + 11 := by omega
            have hwi : wrap64 ((i : Int) + 11) = (i : Int) + 11 := w64' _ (by omega) (by omega)
            refine start_ (n := 21) (S := fun w' => w'.heap[g3]? = some (.cells #[.int .u32 ((orw (orw (orw (orw 0 (rd (spB a0) ((i : Nat) : Int)) 0) (rd (spB a0) ((i + 1 : Nat) : Int)) 1) (rd (spB a0) ((i + 2 : Nat) : Int)) 2) (rd (spB a0) ((i + 3 : Nat) : Int)) 3)), .int .u32 ((orw (orw (orw (orw 0 (rd (spB a0) ((i + 4 : Nat) : Int)) 0) (rd (spB a0) ((i + 5 : Nat) : Int)) 1) (rd (spB a0) ((i + 6 : Nat) : Int)) 2) (rd (spB a0) ((i + 7 : Nat) : Int)) 3)), .int .u32 ((orw (orw (orw 0 (rd (spB a0) ((i + 8 : Nat) : Int)) 0) (rd (spB a0) ((i + 9 : Nat) : Int)) 1) (rd (spB a0) ((i + 10 : Nat) : Int)) 2)), .int .u32 0] 23 (0, 0)) ∧ w'.cell? ⟨g1, i + 11, none⟩ = some (.int .u8 (rd (spB a0) ((i + 11 : Nat) : Int)))) (ds := [20]) #[false, false, false, false, false, false, false, false, false, false, false, false, false, false, false, false, false, false, false, false, false] (by kernel_rfl) rfl rfl ⟨blk_drew Kg3.out, HC1.out.at (i + 11) (by have := HI.out; rw [spB_length]; omega)⟩ (fun hHeld => ?_)
            refine pure_ (i := 0) (N := (some 44)) (v := ?_) (a' := ?_) #[true, false, false, false, false, false, false, false, false, false, false, false, false, false, false, false, false, false, false, false, false] rfl rfl (by kernel_rfl) (fun _ _ _ h => h) (Or.inl ⟨by rfl, ?_⟩) ?_ ?_
            rotate_left
            · intro w'
              go_simp
              with_reducible rfl
            rotate_left
            · simp only [Act.put, List.setIfInBounds_toArray, List.set_cons_zero, List.set_cons_succ, i64_w, i32_w]
              rfl
            refine pure_ (i := 1) (N := (some 45)) (v := ?_) (a' := ?_) #[true, true, false, false, false, false, false, false, false, false, false, false, false, false, false, false, false, false, false, false, false] rfl rfl (by kernel_rfl) (fun _ _ _ h => h) (Or.inl ⟨by rfl, ?_⟩) ?_ ?_
            rotate_left
            · intro w'
              go_simp
              with_reducible rfl
            rotate_left
            · simp only [Act.put, List.setIfInBounds_toArray, List.set_cons_zero, List.set_cons_succ, i64_w, i32_w]
              rfl
            refine pure_ (i := 2) (N := (some 46)) (v := ?_) (a' := ?_) #[true, true, true, false, false, false, false, false, false, false, false, false, false, false, false, false, false, false, false, false, false] rfl rfl (by kernel_rfl) (fun _ _ _ h => h) (Or.inl ⟨by rfl, ?_⟩) ?_ ?_
            rotate_left
            · intro w'
              go_simp
              with_reducible rfl
            rotate_left
            · simp only [Act.put, List.setIfInBounds_toArray, List.set_cons_zero, List.set_cons_succ, i64_w, i32_w]
              rfl
            refine pure_ (i := 3) (N := (some 47)) (v := ?_) (a' := ?_) #[true, true, true, true, false, false, false, false, false, false, false, false, false, false, false, false, false, false, false, false, false] rfl rfl (by kernel_rfl) (fun _ _ _ h => h) (Or.inl ⟨by rfl, ?_⟩) ?_ ?_
            rotate_left
            · intro w'
              go_simp
              with_reducible rfl
            rotate_left
            · simp only [Act.put, List.setIfInBounds_toArray, List.set_cons_zero, List.set_cons_succ, i64_w, i32_w]
              rfl
            refine pure_ (i := 4) (N := (some 48)) (v := ?_) (a' := ?_) #[true, true, true, true, true, false, false, false, false, false, false, false, false, false, false, false, false, false, false, false, false] rfl rfl (by kernel_rfl) (fun _ _ _ h => h) (Or.inl ⟨by rfl, ?_⟩) ?_ ?_
            rotate_left
            · intro w'
              go_simp
              with_reducible rfl
            rotate_left
            · simp only [Act.put, List.setIfInBounds_toArray, List.set_cons_zero, List.set_cons_succ, i64_w, i32_w]
              rfl
            refine pure_ (i := 6) (N := (some 50)) (v := ?_) (a' := ?_) #[true, true, true, true, true, false, true, false, false, false, false, false, false, false, false, false, false, false, false, false, false] rfl rfl (by kernel_rfl) (fun _ _ _ h => h) (Or.inl ⟨by rfl, ?_⟩) ?_ ?_
            rotate_left
            · intro w'
              go_simp
              with_reducible rfl
            rotate_left
            · simp only [Act.put, List.setIfInBounds_toArray, List.set_cons_zero, List.set_cons_succ, i64_w, i32_w]
              rfl
            refine pure_ (i := 7) (N := (some 51)) (v := ?_) (a' := ?_) #[true, true, true, true, true, false, true, true, false, false, false, false, false, false, false, false, false, false, false, false, false] rfl rfl (by kernel_rfl) (fun _ _ _ h => h) (Or.inl ⟨by rfl, ?_⟩) ?_ ?_
            rotate_left
            · intro w'
              go_simp
              with_reducible rfl
            rotate_left
            · simp only [Act.put, List.setIfInBounds_toArray, List.set_cons_zero, List.set_cons_succ, i64_w, i32_w]
              rfl
            refine pure_ (i := 8) (N := (some 52)) (v := ?_) (a' := ?_) #[true, true, true, true, true, false, true, true, true, false, false, false, false, false, false, false, false, false, false, false, false] rfl rfl (by kernel_rfl) (fun _ _ _ h => h) (Or.inl ⟨by rfl, ?_⟩) ?_ ?_
            rotate_left
            · intro w'
              go_simp
              with_reducible rfl
            rotate_left
            · simp only [Act.put, List.setIfInBounds_toArray, List.set_cons_zero, List.set_cons_succ, i64_w, i32_w]
              rfl
            refine pure_ (i := 9) (N := (some 53)) (v := ?_) (a' := ?_) #[true, true, true, true, true, false, true, true, true, true, false, false, false, false, false, false, false, false, false, false, false] rfl rfl (by kernel_rfl) (fun _ _ _ h => h) (Or.inl ⟨by rfl, ?_⟩) ?_ ?_
            rotate_left
            · intro w'
              go_simp
              with_reducible rfl
            rotate_left
            · simp only [Act.put, List.setIfInBounds_toArray, List.set_cons_zero, List.set_cons_succ, i64_w, i32_w]
              rfl
            refine pure_ (i := 10) (N := (some 54)) (v := ?_) (a' := ?_) #[true, true, true, true, true, false, true, true, true, true, true, false, false, false, false, false, false, false, false, false, false] rfl rfl (by kernel_rfl) (fun _ _ _ h => h) (Or.inl ⟨by rfl, ?_⟩) ?_ ?_
            rotate_left
            · intro w'
              go_simp
              with_reducible rfl
            rotate_left
            · simp only [Act.put, List.setIfInBounds_toArray, List.set_cons_zero, List.set_cons_succ, i64_w, i32_w]
              rfl
            refine pure_ (i := 13) (N := (some 57)) (v := ?_) (a' := ?_) #[true, true, true, true, true, false, true, true, true, true, true, false, false, true, false, false, false, false, false, false, false] rfl rfl (by kernel_rfl) (fun _ _ _ h => h) (Or.inl ⟨by rfl, ?_⟩) ?_ ?_
            rotate_left
            · intro w'
              go_simp
              with_reducible rfl
            rotate_left
            · simp only [Act.put, List.setIfInBounds_toArray, List.set_cons_zero, List.set_cons_succ, i64_w, i32_w]
              rfl
            refine pure_ (i := 14) (N := (some 58)) (v := ?_) (a' := ?_) #[true, true, true, true, true, false, true, true, true, true, true, false, false, true, true, false, false, false, false, false, false] rfl rfl (by kernel_rfl) (fun _ _ _ h => h) (Or.inl ⟨by rfl, ?_⟩) ?_ ?_
            rotate_left
            · intro w'
              go_simp
              with_reducible rfl
            rotate_left
            · simp only [Act.put, List.setIfInBounds_toArray, List.set_cons_zero, List.set_cons_succ, i64_w, i32_w]
              rfl
            refine pure_ (i := 15) (N := (some 59)) (v := ?_) (a' := ?_) #[true, true, true, true, true, false, true, true, true, true, true, false, false, true, true, true, false, false, false, false, false] rfl rfl (by kernel_rfl) (fun _ _ _ h => h) (Or.inl ⟨by rfl, ?_⟩) ?_ ?_
            rotate_left
            · intro w'
              go_simp
              with_reducible rfl
            rotate_left
            · simp only [Act.put, List.setIfInBounds_toArray, List.set_cons_zero, List.set_cons_succ, i64_w, i32_w]
              rfl
            refine pure_ (i := 16) (N := (some 60)) (v := ?_) (a' := ?_) #[true, true, true, true, true, false, true, true, true, true, true, false, false, true, true, true, true, false, false, false, false] rfl rfl (by kernel_rfl) (fun _ _ _ h => h) (Or.inl ⟨by rfl, ?_⟩) ?_ ?_
            rotate_left
            · intro w'
              go_simp
              with_reducible rfl
            rotate_left
            · simp only [Act.put, List.setIfInBounds_toArray, List.set_cons_zero, List.set_cons_succ, i64_w, i32_w]
              rfl
            refine take_ (i := 5) (N := (some 49)) (v := ?_) (a' := ?_) #[true, true, true, true, true, true, true, true, true, true, true, false, false, true, true, true, true, false, false, false, false] rfl rfl (by kernel_rfl) (fun _ _ _ h => h) (Or.inl ⟨by rfl, ?_⟩) hHeld ?_ ?_
            rotate_left
            · intro w' hS_
              have cz_ := (blk_cell hS_.1 2).trans rfl
              go_simp
              with_reducible rfl
            rotate_left
            · simp only [Act.put, List.setIfInBounds_toArray, List.set_cons_zero, List.set_cons_succ, i64_w, i32_w]
              rfl
            refine take_ (i := 11) (N := (some 55)) (v := ?_) (a' := ?_) #[true, true, true, true, true, true, true, true, true, true, true, true, false, true, true, true, true, false, false, false, false] rfl rfl (by kernel_rfl) (fun _ _ _ h => h) (Or.inl ⟨by rfl, ?_⟩) hHeld ?_ ?_
            rotate_left
            · intro w' hS_
              have cz_ := hS_.2
              go_simp
              with_reducible rfl
            rotate_left
            · simp only [Act.put, List.setIfInBounds_toArray, List.set_cons_zero, List.set_cons_succ, i64_w, i32_w]
              rfl
            refine pure_ (i := 12) (N := (some 56)) (v := ?_) (a' := ?_) #[true, true, true, true, true, true, true, true, true, true, true, true, true, true, true, true, true, false, false, false, false] rfl rfl (by kernel_rfl) (fun _ _ _ h => h) (Or.inl ⟨by rfl, ?_⟩) ?_ ?_
            rotate_left
            · intro w'
              go_simp
              with_reducible rfl
            rotate_left
            · simp only [Act.put, List.setIfInBounds_toArray, List.set_cons_zero, List.set_cons_succ, i64_w, i32_w]
              rfl
            refine pure_ (i := 17) (N := (some 61)) (v := ?_) (a' := ?_) #[true, true, true, true, true, true, true, true, true, true, true, true, true, true, true, true, true, true, false, false, false] rfl rfl (by kernel_rfl) (fun _ _ _ h => h) (Or.inl ⟨by rfl, ?_⟩) ?_ ?_
            rotate_left
            · intro w'
              go_simp
              with_reducible rfl
            rotate_left
            · simp only [Act.put, List.setIfInBounds_toArray, List.set_cons_zero, List.set_cons_succ, i64_w, i32_w]
              rfl
            refine pure_ (i := 18) (N := (some 62)) (v := ?_) (a' := ?_) #[true, true, true, true, true, true, true, true, true, true, true, true, true, true, true, true, true, true, true, false, false] rfl rfl (by kernel_rfl) (fun _ _ _ h => h) (Or.inl ⟨by rfl, ?_⟩) ?_ ?_
            rotate_left
            · intro w'
              go_simp
              with_reducible rfl
            rotate_left
            · simp only [Act.put, List.setIfInBounds_toArray, List.set_cons_zero, List.set_cons_succ, i64_w, i32_w]
              rfl
            refine pure_ (i := 19) (N := (some 63)) (v := ?_) (a' := ?_) #[true, true, true, true, true, true, true, true, true, true, true, true, true, true, true, true, true, true, true, true, false] rfl rfl (by kernel_rfl) (fun _ _ _ h => h) (Or.inl ⟨by rfl, ?_⟩) ?_ ?_
            rotate_left
            · intro w'
              go_simp
              with_reducible rfl
            rotate_left
            · simp only [Act.put, List.setIfInBounds_toArray, List.set_cons_zero, List.set_cons_succ, i64_w, i32_w]
              rfl
            refine last_ (i := 20) (N := none) #[true, true, true, true, true, true, true, true, true, true, true, true, true, true, true, true, true, true, true, true, true] rfl rfl (by kernel_rfl) (by decide) (fun K hK => ?_)
            have cz_ := (blk_cell hHeld.1 2).trans rfl
            have fz_ := blk_frozen hHeld.1 2
            refine store_step (w1 := ?w1_11) ?hg ?hN ?hr ?_; (case hg => rfl); (case hN => rfl); (case hr => first | (go_simp; done) | (go_simp; rfl))
            refine hK.out _ _ ?_
            clear hK K cz_ fz_
            refine done_ (by kernel_rfl) ?_
            clear hHeld hwm hwi hb1 hb2 htn
            go_wp2
            try clear hK1
            refine inLoop_gen (fun w' => Below w.heap.size w w' ∧ w'.heap[g2]? = some (.cells #[.int .u32 (st.a), .int .u32 (st.b), .int .u32 (st.c), .int .u32 (st.d), .int .u32 (st.e), .int .u32 (st.f), .int .u32 (st.g), .int .u32 (st.h)] 31 (0, 0)) ∧ w'.heap[g3]? = some (.cells #[.int .u32 ((orw (orw (orw (orw 0 (rd (spB a0) ((i : Nat) : Int)) 0) (rd (spB a0) ((i + 1 : Nat) : Int)) 1) (rd (spB a0) ((i + 2 : Nat) : Int)) 2) (rd (spB a0) ((i + 3 : Nat) : Int)) 3)), .int .u32 ((orw (orw (orw (orw 0 (rd (spB a0) ((i + 4 : Nat) : Int)) 0) (rd (spB a0) ((i + 5 : Nat) : Int)) 1) (rd (spB a0) ((i + 6 : Nat) : Int)) 2) (rd (spB a0) ((i + 7 : Nat) : Int)) 3)), .int .u32 ((orw (orw (orw (orw 0 (rd (spB a0) ((i + 8 : Nat) : Int)) 0) (rd (spB a0) ((i + 9 : Nat) : Int)) 1) (rd (spB a0) ((i + 10 : Nat) : Int)) 2) (rd (spB a0) ((i + 11 : Nat) : Int)) 3)), .int .u32 0] 23 (0, 0)) ∧ OwnC w' w.heap.size (.slice (some ⟨g1, 0, none⟩) (a0.size + 1 + zn a0.size + 8) cap1) (spB a0)) ⟨(by repeat (first | (with_reducible first | exact HB.out | apply below_alloc | apply pw_below_drewN | apply below_drew1 | refine below_set ?_ Gg2.out | refine below_set ?_ Gg3.out) | exact HB.out)), (Eq.trans (by (with_reducible repeat (first | exact Kg2.out | apply blk_set | apply far_put Ng2g3.out | apply far_put Ng2g3.out.symm | apply blk_drewN | apply blk_drew | apply blk_alloc))) (by first | rfl)), (Eq.trans (by (with_reducible repeat (first | exact Kg3.out | apply blk_set | apply far_put Ng2g3.out | apply far_put Ng2g3.out.symm | apply blk_drewN | apply blk_drew | apply blk_alloc))) (by first | rfl)), (by repeat (first | (with_reducible exact HC1.out) | (with_reducible exact OwnC.drew HC1.out) | refine OwnC.drew ?_ | refine OwnC.far ?_ N13.out _))⟩ ?_
            try clear K1
            intro wA hF
            clear HB HC1 Kg2 Kg3
            obtain ⟨n0_, n1_, n2_, n3_⟩ := hF
            have HB := Aside0.mk n0_
            have Kg2 := Aside0.mk n1_
            have Kg3 := Aside0.mk n2_
            have HC1 := Aside0.mk n3_
            clear n0_ n1_ n2_ n3_
            refine inLoop_k fun K1 hK1 => ?_
            go_wp2
            have hwm : wrap64 3 = 3 := by unfold wrap64; omega
            have hb1 : (0 ≤ (i : Int) + 12) = True := eq_true (by omega)
            have hb2 : ((i : Int) + 12 < (a0.size : Int) + 1 + (zn a0.size : Int) + 8) = True := eq_true (by have := HI.out; omega)
            have htn : ((i : Int) + 12).toNat = i + 12 := by omega
            have hwi : wrap64 ((i : Int) + 12) = (i : Int) + 12 := w64' _ (by omega) (by omega)
            refine start_ (n := 21) (S := fun w' => w'.heap[g3]? = some (.cells #[.int .u32 ((orw (orw (orw (orw 0 (rd (spB a0) ((i : Nat) : Int)) 0) (rd (spB a0) ((i + 1 : Nat) : Int)) 1) (rd (spB a0) ((i + 2 : Nat) : Int)) 2) (rd (spB a0) ((i + 3 : Nat) : Int)) 3)), .int .u32 ((orw (orw (orw (orw 0 (rd (spB a0) ((i + 4 : Nat) : Int)) 0) (rd (spB a0) ((i + 5 : Nat) : Int)) 1) (rd (spB a0) ((i + 6 : Nat) : Int)) 2) (rd (spB a0) ((i + 7 : Nat) : Int)) 3)), .int .u32 ((orw (orw (orw (orw 0 (rd (spB a0) ((i + 8 : Nat) : Int)) 0) (rd (spB a0) ((i + 9 : Nat) : Int)) 1) (rd (spB a0) ((i + 10 : Nat) : Int)) 2) (rd (spB a0) ((i + 11 : Nat) : Int)) 3)), .int .u32 0] 23 (0, 0)) ∧ w'.cell? ⟨g1, i + 12, none⟩ = some (.int .u8 (rd (spB a0) ((i + 12 : Nat) : Int)))) (ds := [20]) #[false, false, false, false, false, false, false, false, false, false, false, false, false, false, false, false, false, false, false, false, false] (by kernel_rfl) rfl rfl ⟨blk_drew Kg3.out, HC1.out.at (i + 12) (by have := HI.out; rw [spB_length]; omega)⟩ (fun hHeld => ?_)
            refine pure_ (i := 0) (N := (some 44)) (v := ?_) (a' := ?_) #[true, false, false, false, false, false, false, false, false, false, false, false, false, false, false, false, false, false, false, false, false] rfl rfl (by kernel_rfl) (fun _ _ _ h => h) (Or.inl ⟨by rfl, ?_⟩) ?_ ?_
            rotate_left
            · intro w'
              go_simp
              with_reducible rfl
            rotate_left
            · simp only [Act.put, List.setIfInBounds_toArray, List.set_cons_zero, List.set_cons_succ, i64_w, i32_w]
              rfl
            refine pure_ (i := 1) (N := (some 45)) (v := ?_) (a' := ?_) #[true, true, false, false, false, false, false, false, false, false, false, false, false, false, false, false, false, false, false, false, false] rfl rfl (by kernel_rfl) (fun _ _ _ h => h) (Or.inl ⟨by rfl, ?_⟩) ?_ ?_
            rotate_left
            · intro w'
              go_simp
              with_reducible rfl
            rotate_left
            · simp only [Act.put, List.setIfInBounds_toArray, List.set_cons_zero, List.set_cons_succ, i64_w, i32_w]
              rfl
            refine pure_ (i := 2) (N := (some 46)) (v := ?_) (a' := ?_) #[true, true, true, false, false, false, false, false, false, false, false, false, false, false, false, false, false, false, false, false, false] rfl rfl (by kernel_rfl) (fun _ _ _ h => h) (Or.inl ⟨by rfl, ?_⟩) ?_ ?_
            rotate_left
            · intro w'
              go_simp
              with_reducible rfl
            rotate_left
            · simp only [Act.put, List.setIfInBounds_toArray, List.set_cons_zero, List.set_cons_succ, i64_w, i32_w]
              rfl
            refine pure_ (i := 3) (N := (some 47)) (v := ?_) (a' := ?_) #[true, true, true, true, false, false, false, false, false, false, false, false, false, false, false, false, false, false, false, false, false] rfl rfl (by kernel_rfl) (fun _ _ _ h => h) (Or.inl ⟨by rfl, ?_⟩) ?_ ?_
            rotate_left
            · intro w'
              go_simp
              with_reducible rfl
            rotate_left
            · simp only [Act.put, List.setIfInBounds_toArray, List.set_cons_zero, List.set_cons_succ, i64_w, i32_w]
              rfl
            refine pure_ (i := 4) (N := (some 48)) (v := ?_) (a' := ?_) #[true, true, true, true, true, false, false, false, false, false, false, false, false, false, false, false, false, false, false, false, false] rfl rfl (by kernel_rfl) (fun _ _ _ h => h) (Or.inl ⟨by rfl, ?_⟩) ?_ ?_
            rotate_left
            · intro w'
              go_simp
              with_reducible rfl
            rotate_left
            · simp only [Act.put, List.setIfInBounds_toArray, List.set_cons_zero, List.set_cons_succ, i64_w, i32_w]
              rfl
            refine pure_ (i := 6) (N := (some 50)) (v := ?_) (a' := ?_) #[true, true, true, true, true, false, true, false, false, false, false, false, false, false, false, false, false, false, false, false, false] rfl rfl (by kernel_rfl) (fun _ _ _ h => h) (Or.inl ⟨by rfl, ?_⟩) ?_ ?_
            rotate_left
            · intro w'
              go_simp
              with_reducible rfl
            rotate_left
            · simp only [Act.put, List.setIfInBounds_toArray, List.set_cons_zero, List.set_cons_succ, i64_w, i32_w]
              rfl
            refine pure_ (i := 7) (N := (some 51)) (v := ?_) (a' := ?_) #[true, true, true, true, true, false, true, true, false, false, false, false, false, false, false, false, false, false, false, false, false] rfl rfl (by kernel_rfl) (fun _ _ _ h => h) (Or.inl ⟨by rfl, ?_⟩) ?_ ?_
            rotate_left
            · intro w'
              go_simp
              with_reducible rfl
            rotate_left
            · simp only [Act.put, List.setIfInBounds_toArray, List.set_cons_zero, List.set_cons_succ, i64_w, i32_w]
              rfl
            refine pure_ (i := 8) (N := (some 52)) (v := ?_) (a' := ?_) #[true, true, true, true, true, false, true, true, true, false, false, false, false, false, false, false, false, false, false, false, false] rfl rfl (by kernel_rfl) (fun _ _ _ h => h) (Or.inl ⟨by rfl, ?_⟩) ?_ ?_
            rotate_left
            · intro w'
              go_simp
              with_reducible rfl
            rotate_left
            · simp only [Act.put, List.setIfInBounds_toArray, List.set_cons_zero, List.set_cons_succ, i64_w, i32_w]
              rfl
            refine pure_ (i := 9) (N := (some 53)) (v := ?_) (a' := ?_) #[true, true, true, true, true, false, true, true, true, true, false, false, false, false, false, false, false, false, false, false, false] rfl rfl (by kernel_rfl) (fun _ _ _ h => h) (Or.inl ⟨by rfl, ?_⟩) ?_ ?_
            rotate_left
            · intro w'
              go_simp
              with_reducible rfl
            rotate_left
            · simp only [Act.put, List.setIfInBounds_toArray, List.set_cons_zero, List.set_cons_succ, i64_w, i32_w]
              rfl
            refine pure_ (i := 10) (N := (some 54)) (v := ?_) (a' := ?_) #[true, true, true, true, true, false, true, true, true, true, true, false, false, false, false, false, false, false, false, false, false] rfl rfl (by kernel_rfl) (fun _ _ _ h => h) (Or.inl ⟨by rfl, ?_⟩) ?_ ?_
            rotate_left
            · intro w'
              go_simp
              with_reducible rfl
            rotate_left
            · simp only [Act.put, List.setIfInBounds_toArray, List.set_cons_zero, List.set_cons_succ, i64_w, i32_w]
              rfl
            refine pure_ (i := 13) (N := (some 57)) (v := ?_) (a' := ?_) #[true, true, true, true, true, false, true, true, true, true, true, false, false, true, false, false, false, false, false, false, false] rfl rfl (by kernel_rfl) (fun _ _ _ h => h) (Or.inl ⟨by rfl, ?_⟩) ?_ ?_
            rotate_left
            · intro w'
              go_simp
              with_reducible rfl
            rotate_left
            · simp only [Act.put, List.setIfInBounds_toArray, List.set_cons_zero, List.set_cons_succ, i64_w, i32_w]
              rfl
            refine pure_ (i := 14) (N := (some 58)) (v := ?_) (a' := ?_) #[true, true, true, true, true, false, true, true, true, true, true, false, false, true, true, false, false, false, false, false, false] rfl rfl (by kernel_rfl) (fun _ _ _ h => h) (Or.inl ⟨by rfl, ?_⟩) ?_ ?_
            rotate_left
            · intro w'
              go_simp
              with_reducible rfl
            rotate_left
            · simp only [Act.put, List.setIfInBounds_toArray, List.set_cons_zero, List.set_cons_succ, i64_w, i32_w]
              rfl
            refine pure_ (i := 15) (N := (some 59)) (v := ?_) (a' := ?_) #[true, true, true, true, true, false, true, true, true, true, true, false, false, true, true, true, false, false, false, false, false] rfl rfl (by kernel_rfl) (fun _ _ _ h => h) (Or.inl ⟨by rfl, ?_⟩) ?_ ?_
            rotate_left
            · intro w'
              go_simp
              with_reducible rfl
            rotate_left
            · simp only [Act.put, List.setIfInBounds_toArray, List.set_cons_zero, List.set_cons_succ, i64_w, i32_w]
              rfl
            refine pure_ (i := 16) (N := (some 60)) (v := ?_) (a' := ?_) #[true, true, true, true, true, false, true, true, true, true, true, false, false, true, true, true, true, false, false, false, false] rfl rfl (by kernel_rfl) (fun _ _ _ h => h) (Or.inl ⟨by rfl, ?_⟩) ?_ ?_
            rotate_left
            · intro w'
              go_simp
              with_reducible rfl
            rotate_left
            · simp only [Act.put, List.setIfInBounds_toArray, List.set_cons_zero, List.set_cons_succ, i64_w, i32_w]
              rfl
            refine take_ (i := 5) (N := (some 49)) (v := ?_) (a' := ?_) #[true, true, true, true, true, true, true, true, true, true, true, false, false, true, true, true, true, false, false, false, false] rfl rfl (by kernel_rfl) (fun _ _ _ h => h) (Or.inl ⟨by rfl, ?_⟩) hHeld ?_ ?_
            rotate_left
            · intro w' hS_
              have cz_ := (blk_cell hS_.1 3).trans rfl
              go_simp
              with_reducible rfl
            rotate_left
            · simp only [Act.put, List.setIfInBounds_toArray, List.set_cons_zero, List.set_cons_succ, i64_w, i32_w]
              rfl
            refine take_ (i := 11) (N := (some 55)) (v := ?_) (a' := ?_) #[true, true, true, true, true, true, true, true, true, true, true, true, false, true, true, true, true, false, false, false, false] rfl rfl (by kernel_rfl) (fun _ _ _ h => h) (Or.inl ⟨by rfl, ?_⟩) hHeld ?_ ?_
            rotate_left
            · intro w' hS_
              have cz_ := hS_.2
              go_simp
              with_reducible rfl
            rotate_left
            · simp only [Act.put, List.setIfInBounds_toArray, List.set_cons_zero, List.set_cons_succ, i64_w, i32_w]
              rfl
            refine pure_ (i := 12) (N := (some 56)) (v := ?_) (a' := ?_) #[true, true, true, true, true, true, true, true, true, true, true, true, true, true, true, true, true, false, false, false, false] rfl rfl (by kernel_rfl) (fun _ _ _ h => h) (Or.inl ⟨by rfl, ?_⟩) ?_ ?_
            rotate_left
            · intro w'
              go_simp
              with_reducible rfl
            rotate_left
            · simp only [Act.put, List.setIfInBounds_toArray, List.set_cons_zero, List.set_cons_succ, i64_w, i32_w]
              rfl
            refine pure_ (i := 17) (N := (some 61)) (v := ?_) (a' := ?_) #[true, true, true, true, true, true, true, true, true, true, true, true, true, true, true, true, true, true, false, false, false] rfl rfl (by kernel_rfl) (fun _ _ _ h => h) (Or.inl ⟨by rfl, ?_⟩) ?_ ?_
            rotate_left
            · intro w'
              go_simp
              with_reducible rfl
            rotate_left
            · simp only [Act.put, List.setIfInBounds_toArray, List.set_cons_zero, List.set_cons_succ, i64_w, i32_w]
              rfl
            refine pure_ (i := 18) (N := (some 62)) (v := ?_) (a' := ?_) #[true, true, true, true, true, true, true, true, true, true, true, true, true, true, true, true, true, true, true, false, false] rfl rfl (by kernel_rfl) (fun _ _ _ h => h) (Or.inl ⟨by rfl, ?_⟩) ?_ ?_
            rotate_left
            · intro w'
              go_simp
              with_reducible rfl
            rotate_left
            · simp only [Act.put, List.setIfInBounds_toArray, List.set_cons_zero, List.set_cons_succ, i64_w, i32_w]
              rfl
            refine pure_ (i := 19) (N := (some 63)) (v := ?_) (a' := ?_) #[true, true, true, true, true, true, true, true, true, true, true, true, true, true, true, true, true, true, true, true, false] rfl rfl (by kernel_rfl) (fun _ _ _ h => h) (Or.inl ⟨by rfl, ?_⟩) ?_ ?_
            rotate_left
            · intro w'
              go_simp
              with_reducible rfl
            rotate_left
            · simp only [Act.put, List.setIfInBounds_toArray, List.set_cons_zero, List.set_cons_succ, i64_w, i32_w]
              rfl
            refine last_ (i := 20) (N := none) #[true, true, true, true, true, true, true, true, true, true, true, true, true, true, true, true, true, true, true, true, true] rfl rfl (by kernel_rfl) (by decide) (fun K hK => ?_)
            have cz_ := (blk_cell hHeld.1 3).trans rfl
            have fz_ := blk_frozen hHeld.1 3
            refine store_step (w1 := ?w1_12) ?hg ?hN ?hr ?_; (case hg => rfl); (case hN => rfl); (case hr => first | (go_simp; done) | (go_simp; rfl))
            refine hK.out _ _ ?_
            clear hK K cz_ fz_
            refine done_ (by kernel_rfl) ?_
            clear hHeld hwm hwi hb1 hb2 htn
            go_wp2
            try clear hK1
            refine inLoop_gen (fun w' => Below w.heap.size w w' ∧ w'.heap[g2]? = some (.cells #[.int .u32 (st.a), .int .u32 (st.b), .int .u32 (st.c), .int .u32 (st.d), .int .u32 (st.e), .int .u32 (st.f), .int .u32 (st.g), .int .u32 (st.h)] 31 (0, 0)) ∧ w'.heap[g3]? = some (.cells #[.int .u32 ((orw (orw (orw (orw 0 (rd (spB a0) ((i : Nat) : Int)) 0) (rd (spB a0) ((i + 1 : Nat) : Int)) 1) (rd (spB a0) ((i + 2 : Nat) : Int)) 2) (rd (spB a0) ((i + 3 : Nat) : Int)) 3)), .int .u32 ((orw (orw (orw (orw 0 (rd (spB a0) ((i + 4 : Nat) : Int)) 0) (rd (spB a0) ((i + 5 : Nat) : Int)) 1) (rd (spB a0) ((i + 6 : Nat) : Int)) 2) (rd (spB a0) ((i + 7 : Nat) : Int)) 3)), .int .u32 ((orw (orw (orw (orw 0 (rd (spB a0) ((i + 8 : Nat) : Int)) 0) (rd (spB a0) ((i + 9 : Nat) : Int)) 1) (rd (spB a0) ((i + 10 : Nat) : Int)) 2) (rd (spB a0) ((i + 11 : Nat) : Int)) 3)), .int .u32 ((orw 0 (rd (spB a0) ((i + 12 : Nat) : Int)) 0))] 23 (0, 0)) ∧ OwnC w' w.heap.size (.slice (some ⟨g1, 0, none⟩) (a0.size + 1 + zn a0.size + 8) cap1) (spB a0)) ⟨(by repeat (first | (with_reducible first | exact HB.out | apply below_alloc | apply pw_below_drewN | apply below_drew1 | refine below_set ?_ Gg2.out | refine below_set ?_ Gg3.out) | exact HB.out)), (Eq.trans (by (with_reducible repeat (first | exact Kg2.out | apply blk_set | apply far_put Ng2g3.out | apply far_put Ng2g3.out.symm | apply blk_drewN | apply blk_drew | apply blk_alloc))) (by first | rfl)), (Eq.trans (by (with_reducible repeat (first | exact Kg3.out | apply blk_set | apply far_put Ng2g3.out | apply far_put Ng2g3.out.symm | apply blk_drewN | apply blk_drew | apply blk_alloc))) (by first | rfl)), (by repeat (first | (with_reducible exact HC1.out) | (with_reducible exact OwnC.drew HC1.out) | refine OwnC.drew ?_ | refine OwnC.far ?_ N13.out _))⟩ ?_
            try clear K1
            intro wA hF
            clear HB HC1 Kg2 Kg3
            obtain ⟨n0_, n1_, n2_, n3_⟩ := hF
            have HB := Aside0.mk n0_
            have Kg2 := Aside0.mk n1_
            have Kg3 := Aside0.mk n2_
            have HC1 := Aside0.mk n3_
            clear n0_ n1_ n2_ n3_
            refine inLoop_k fun K1 hK1 => ?_
            go_wp2
            have hwm : wrap64 3 = 3 := by unfold wrap64; omega
            have hb1 : (0 ≤ (i : Int) + 13) = True := eq_true (by omega)
            have hb2 : ((i : Int) + 13 < (a0.size : Int) + 1 + (zn a0.size : Int) + 8) = True := eq_true (by have := HI.out; omega)
            have htn : ((i : Int) + 13).toNat = i + 13 := by omega
            have hwi : wrap64 ((i : Int) + 13) = (i : Int) + 13 := w64' _ (by omega) (by omega)
            refine start_ (n := 21) (S := fun w' => w'.heap[g3]? = some (.cells #[.int .u32 ((orw (orw (orw (orw 0 (rd (spB a0) ((i : Nat) : Int)) 0) (rd (spB a0) ((i + 1 : Nat) : Int)) 1) (rd (spB a0) ((i + 2 : Nat) : Int)) 2) (rd (spB a0) ((i + 3 : Nat) : Int)) 3)), .int .u32 ((orw (orw (orw (orw 0 (rd (spB a0) ((i + 4 : Nat) : Int)) 0) (rd (spB a0) ((i + 5 : Nat) : Int)) 1) (rd (spB a0) ((i + 6 : Nat) : Int)) 2) (rd (spB a0) ((i + 7 : Nat) : Int)) 3)), .int .u32 ((orw (orw (orw (orw 0 (rd (spB a0) ((i + 8 : Nat) : Int)) 0) (rd (spB a0) ((i + 9 : Nat) : Int)) 1) (rd (spB a0) ((i + 10 : Nat) : Int)) 2) (rd (spB a0) ((i + 11 : Nat) : Int)) 3)), .int .u32 ((orw 0 (rd (spB a0) ((i + 12 : Nat) : Int)) 0))] 23 (0, 0)) ∧ w'.cell? ⟨g1, i + 13, none⟩ = some (.int .u8 (rd (spB a0) ((i + 13 : Nat) : Int)))) (ds := [20]) #[false, false, false, false, false, false, false, false, false, false, false, false, false, false, false, false, false, false, false, false, false] (by kernel_rfl) rfl rfl ⟨blk_drew Kg3.out, HC1.out.at (i + 13) (by have := HI.out; rw [spB_length]; omega)⟩ (fun hHeld => ?_)
            refine pure_ (i := 0) (N := (some 44)) (v := ?_) (a' := ?_) #[true, false, false, false, false, false, false, false, false, false, false, false, false, false, false, false, false, false, false, false, false] rfl rfl (by kernel_rfl) (fun _ _ _ h => h) (Or.inl ⟨by rfl, ?_⟩) ?_ ?_
            rotate_left
            · intro w'
              go_simp
              with_reducible rfl
            rotate_left
            · simp only [Act.put, List.setIfInBounds_toArray, List.set_cons_zero, List.set_cons_succ, i64_w, i32_w]
              rfl
            refine pure_ (i := 1) (N := (some 45)) (v := ?_) (a' := ?_) #[true, true, false, false, false, false, false, false, false, false, false, false, false, false, false, false, false, false, false, false, false] rfl rfl (by kernel_rfl) (fun _ _ _ h => h) (Or.inl ⟨by rfl, ?_⟩) ?_ ?_
            rotate_left
            · intro w'
              go_simp
              with_reducible rfl
            rotate_left
            · simp only [Act.put, List.setIfInBounds_toArray, List.set_cons_zero, List.set_cons_succ, i64_w, i32_w]
              rfl
            refine pure_ (i := 2) (N := (some 46)) (v := ?_) (a' := ?_) #[true, true, true, false, false, false, false, false, false, false, false, false, false, false, false, false, false, false, false, false, false] rfl rfl (by kernel_rfl) (fun _ _ _ h => h) (Or.inl ⟨by rfl, ?_⟩) ?_ ?_
            rotate_left
            · intro w'
              go_simp
              with_reducible rfl
            rotate_left
            · simp only [Act.put, List.setIfInBounds_toArray, List.set_cons_zero, List.set_cons_succ, i64_w, i32_w]
              rfl
            refine pure_ (i := 3) (N := (some 47)) (v := ?_) (a' := ?_) #[true, true, true, true, false, false, false, false, false, false, false, false, false, false, false, false, false, false, false, false, false] rfl rfl (by kernel_rfl) (fun _ _ _ h => h) (Or.inl ⟨by rfl, ?_⟩) ?_ ?_
            rotate_left
            · intro w'
              go_simp
              with_reducible rfl
            rotate_left
            · simp only [Act.put, List.setIfInBounds_toArray, List.set_cons_zero, List.set_cons_succ, i64_w, i32_w]
              rfl
            refine pure_ (i := 4) (N := (some 48)) (v := ?_) (a' := ?_) #[true, true, true, true, true, false, false, false, false, false, false, false, false, false, false, false, false, false, false, false, false] rfl rfl (by kernel_rfl) (fun _ _ _ h => h) (Or.inl ⟨by rfl, ?_⟩) ?_ ?_
            rotate_left
            · intro w'
              go_simp
              with_reducible rfl
            rotate_left
            · simp only [Act.put, List.setIfInBounds_toArray, List.set_cons_zero, List.set_cons_succ, i64_w, i32_w]
              rfl
            refine pure_ (i := 6) (N := (some 50)) (v := ?_) (a' := ?_) #[true, true, true, true, true, false, true, false, false, false, false, false, false, false, false, false, false, false, false, false, false] rfl rfl (by kernel_rfl) (fun _ _ _ h => h) (Or.inl ⟨by rfl, ?_⟩) ?_ ?_
            rotate_left
            · intro w'
              go_simp
              with_reducible rfl
            rotate_left
            · simp only [Act.put, List.setIfInBounds_toArray, List.set_cons_zero, List.set_cons_succ, i64_w, i32_w]
              rfl
            refine pure_ (i := 7) (N := (some 51)) (v := ?_) (a' := ?_) #[true, true, true, true, true, false, true, true, false, false, false, false, false, false, false, false, false, false, false, false, false] rfl rfl (by kernel_rfl) (fun _ _ _ h => h) (Or.inl ⟨by rfl, ?_⟩) ?_ ?_
            rotate_left
            · intro w'
              go_simp
              with_reducible rfl
            rotate_left
            · simp only [Act.put, List.setIfInBounds_toArray, List.set_cons_zero, List.set_cons_succ, i64_w, i32_w]
              rfl
            refine pure_ (i := 8) (N := (some 52)) (v := ?_) (a' := ?_) #[true, true, true, true, true, false, true, true, true, false, false, false, false, false, false, false, false, false, false, false, false] rfl rfl (by kernel_rfl) (fun _ _ _ h => h) (Or.inl ⟨by rfl, ?_⟩) ?_ ?_
            rotate_left
            · intro w'
              go_simp
              with_reducible rfl
            rotate_left
            · simp only [Act.put, List.setIfInBounds_toArray, List.set_cons_zero, List.set_cons_succ, i64_w, i32_w]
              rfl
            refine pure_ (i := 9) (N := (some 53)) (v := ?_) (a' := ?_) #[true, true, true, true, true, false, true, true, true, true, false, false, false, false, false, false, false, false, false, false, false] rfl rfl (by kernel_rfl) (fun _ _ _ h => h) (Or.inl ⟨by rfl, ?_⟩) ?_ ?_
            rotate_left
            · intro w'
              go_simp
              with_reducible rfl
            rotate_left
            · simp only [Act.put, List.setIfInBounds_toArray, List.set_cons_zero, List.set_cons_succ, i64_w, i32_w]
              rfl
            refine pure_ (i := 10) (N := (some 54)) (v := ?_) (a' := ?_) #[true, true, true, true, true, false, true, true, true, true, true, false, false, false, false, false, false, false, false, false, false] rfl rfl (by kernel_rfl) (fun _ _ _ h => h) (Or.inl ⟨by rfl, ?_⟩) ?_ ?_
            rotate_left
            · intro w'
              go_simp
              with_reducible rfl
            rotate_left
            · simp only [Act.put, List.setIfInBounds_toArray, List.set_cons_zero, List.set_cons_succ, i64_w, i32_w]
              rfl
            refine pure_ (i := 13) (N := (some 57)) (v := ?_) (a' := ?_) #[true, true, true, true, true, false, true, true, true, true, true, false, false, true, false, false, false, false, false, false, false] rfl rfl (by kernel_rfl) (fun _ _ _ h => h) (Or.inl ⟨by rfl, ?_⟩) ?_ ?_
            rotate_left
            · intro w'
              go_simp
              with_reducible rfl
            rotate_left
            · simp only [Act.put, List.setIfInBounds_toArray, List.set_cons_zero, List.set_cons_succ, i64_w, i32_w]
              rfl
            refine pure_ (i := 14) (N := (some 58)) (v := ?_) (a' := ?_) #[true, true, true, true, true, false, true, true, true, true, true, false, false, true, true, false, false, false, false, false, false] rfl rfl (by kernel_rfl) (fun _ _ _ h => h) (Or.inl ⟨by rfl, ?_⟩) ?_ ?_
            rotate_left
            · intro w'
              go_simp
              with_reducible rfl
            rotate_left
            · simp only [Act.put, List.setIfInBounds_toArray, List.set_cons_zero, List.set_cons_succ, i64_w, i32_w]
              rfl
            refine pure_ (i := 15) (N := (some 59)) (v := ?_) (a' := ?_) #[true, true, true, true, true, false, true, true, true, true, true, false, false, true, true, true, false, false, false, false, false] rfl rfl (by kernel_rfl) (fun _ _ _ h => h) (Or.inl ⟨by rfl, ?_⟩) ?_ ?_
            rotate_left
            · intro w'
              go_simp
              with_reducible rfl
            rotate_left
            · simp only [Act.put, List.setIfInBounds_toArray, List.set_cons_zero, List.set_cons_succ, i64_w, i32_w]
              rfl
            refine pure_ (i := 16) (N := (some 60)) (v := ?_) (a' := ?_) #[true, true, true, true, true, false, true, true, true, true, true, false, false, true, true, true, true, false, false, false, false] rfl rfl (by kernel_rfl) (fun _ _ _ h => h) (Or.inl ⟨by rfl, ?_⟩) ?_ ?_
            rotate_left
            · intro w'
              go_simp
              with_reducible rfl
            rotate_left
            · simp only [Act.put, List.setIfInBounds_toArray, List.set_cons_zero, List.set_cons_succ, i64_w, i32_w]
              rfl
            refine take_ (i := 5) (N := (some 49)) (v := ?_) (a' := ?_) #[true, true, true, true, true, true, true, true, true, true, true, false, false, true, true, true, true, false, false, false, false] rfl rfl (by kernel_rfl) (fun _ _ _ h => h) (Or.inl ⟨by rfl, ?_⟩) hHeld ?_ ?_
            rotate_left
            · intro w' hS_
              have cz_ := (blk_cell hS_.1 3).trans rfl
              go_simp
              with_reducible rfl
            rotate_left
            · simp only [Act.put, List.setIfInBounds_toArray, List.set_cons_zero, List.set_cons_succ, i64_w, i32_w]
              rfl
            refine take_ (i := 11) (N := (some 55)) (v := ?_) (a' := ?_) #[true, true, true, true, true, true, true, true, true, true, true, true, false, true, true, true, true, false, false, false, false] rfl rfl (by kernel_rfl) (fun _ _ _ h => h) (Or.inl ⟨by rfl, ?_⟩) hHeld ?_ ?_
            rotate_left
            · intro w' hS_
              have cz_ := hS_.2
              go_simp
              with_reducible rfl
            rotate_left
            · simp only [Act.put, List.setIfInBounds_toArray, List.set_cons_zero, List.set_cons_succ, i64_w, i32_w]
              rfl
            refine pure_ (i := 12) (N := (some 56)) (v := ?_) (a' := ?_) #[true, true, true, true, true, true, true, true, true, true, true, true, true, true, true, true, true, false, false, false, false] rfl rfl (by kernel_rfl) (fun _ _ _ h => h) (Or.inl ⟨by rfl, ?_⟩) ?_ ?_
            rotate_left
            · intro w'
              go_simp
              with_reducible rfl
            rotate_left
            · simp only [Act.put, List.setIfInBounds_toArray, List.set_cons_zero, List.set_cons_succ, i64_w, i32_w]
              rfl
            refine pure_ (i := 17) (N := (some 61)) (v := ?_) (a' := ?_) #[true, true, true, true, true, true, true, true, true, true, true, true, true, true, true, true, true, true, false, false, false] rfl rfl (by kernel_rfl) (fun _ _ _ h => h) (Or.inl ⟨by rfl, ?_⟩) ?_ ?_
            rotate_left
            · intro w'
              go_simp
              with_reducible rfl
            rotate_left
            · simp only [Act.put, List.setIfInBounds_toArray, List.set_cons_zero, List.set_cons_succ, i64_w, i32_w]
              rfl
            refine pure_ (i := 18) (N := (some 62)) (v := ?_) (a' := ?_) #[true, true, true, true, true, true, true, true, true, true, true, true, true, true, true, true, true, true, true, false, false] rfl rfl (by kernel_rfl) (fun _ _ _ h => h) (Or.inl ⟨by rfl, ?_⟩) ?_ ?_
            rotate_left
            · intro w'
              go_simp
              with_reducible rfl
            rotate_left
            · simp only [Act.put, List.setIfInBounds_toArray, List.set_cons_zero, List.set_cons_succ, i64_w, i32_w]
              rfl
            refine pure_ (i := 19) (N := (some 63)) (v := ?_) (a' := ?_) #[true, true, true, true, true, true, true, true, true, true, true, true, true, true, true, true, true, true, true, true, false] rfl rfl (by kernel_rfl) (fun _ _ _ h => h) (Or.inl ⟨by rfl, ?_⟩) ?_ ?_
            rotate_left
            · intro w'
              go_simp
              with_reducible rfl
            rotate_left
            · simp only [Act.put, List.setIfInBounds_toArray, List.set_cons_zero, List.set_cons_succ, i64_w, i32_w]
              rfl
            refine last_ (i := 20) (N := none) #[true, true, true, true, true, true, true, true, true, true, true, true, true, true, true, true, true, true, true, true, true] rfl rfl (by kernel_rfl) (by decide) (fun K hK => ?_)
            have cz_ := (blk_cell hHeld.1 3).trans rfl
            have fz_ := blk_frozen hHeld.1 3
            refine store_step (w1 := ?w1_13) ?hg ?hN ?hr ?_; (case hg => rfl); (case hN => rfl); (case hr => first | (go_simp; done) | (go_simp; rfl))
            refine hK.out _ _ ?_
            clear hK K cz_ fz_
            refine done_ (by kernel_rfl) ?_
            clear hHeld hwm hwi hb1 hb2 htn
            go_wp2
            try clear hK1
            refine inLoop_gen (fun w' => Below w.heap.size w w' ∧ w'.heap[g2]? = some (.cells #[.int .u32 (st.a), .int .u32 (st.b), .int .u32 (st.c), .int .u32 (st.d), .int .u32 (st.e), .int .u32 (st.f), .int .u32 (st.g), .int .u32 (st.h)] 31 (0, 0)) ∧ w'.heap[g3]? = some (.cells #[.int .u32 ((orw (orw (orw (orw 0 (rd (spB a0) ((i : Nat) : Int)) 0) (rd (spB a0) ((i + 1 : Nat) : Int)) 1) (rd (spB a0) ((i + 2 : Nat) : Int)) 2) (rd (spB a0) ((i + 3 : Nat) : Int)) 3)), .int .u32 ((orw (orw (orw (orw 0 (rd (spB a0) ((i + 4 : Nat) : Int)) 0) (rd (spB a0) ((i + 5 : Nat) : Int)) 1) (rd (spB a0) ((i + 6 : Nat) : Int)) 2) (rd (spB a0) ((i + 7 : Nat) : Int)) 3)), .int .u32 ((orw (orw (orw (orw 0 (rd (spB a0) ((i + 8 : Nat) : Int)) 0) (rd (spB a0) ((i + 9 : Nat) : Int)) 1) (rd (spB a0) ((i + 10 : Nat) : Int)) 2) (rd (spB a0) ((i + 11 : Nat) : Int)) 3)), .int .u32 ((orw (orw 0 (rd (spB a0) ((i + 12 : Nat) : Int)) 0) (rd (spB a0) ((i + 13 : Nat) : Int)) 1))] 23 (0, 0)) ∧ OwnC w' w.heap.size (.slice (some ⟨g1, 0, none⟩) (a0.size + 1 + zn a0.size + 8) cap1) (spB a0)) ⟨(by repeat (first | (with_reducible first | exact HB.out | apply below_alloc | apply pw_below_drewN | apply below_drew1 | refine below_set ?_ Gg2.out | refine below_set ?_ Gg3.out) | exact HB.out)), (Eq.trans (by (with_reducible repeat (first | exact Kg2.out | apply blk_set | apply far_put Ng2g3.out | apply far_put Ng2g3.out.symm | apply blk_drewN | apply blk_drew | apply blk_alloc))) (by first | rfl)), (Eq.trans (by (with_reducible repeat (first | exact Kg3.out | apply blk_set | apply far_put Ng2g3.out | apply far_put Ng2g3.out.symm | apply blk_drewN | apply blk_drew | apply blk_alloc))) (by first | rfl)), (by repeat (first | (with_reducible exact HC1.out) | (with_reducible exact OwnC.drew HC1.out) | refine OwnC.drew ?_ | refine OwnC.far ?_ N13.out _))⟩ ?_
            try clear K1
            intro wA hF
            clear HB HC1 Kg2 Kg3
            obtain ⟨n0_, n1_, n2_, n3_⟩ := hF
            have HB := Aside0.mk n0_
            have Kg2 := Aside0.mk n1_
            have Kg3 := Aside0.mk n2_
            have HC1 := Aside0.mk n3_
            clear n0_ n1_ n2_ n3_
            refine inLoop_k fun K1 hK1 => ?_
            go_wp2
            have hwm : wrap64 3 = 3 := by unfold wrap64; omega
            have hb1 : (0 ≤ (i : Int) + 14) = True := eq_true (by omega)
            have hb2 : ((i : Int) + 14 < (a0.size : Int) + 1 + (zn a0.size : Int) + 8) = True := eq_true (by have := HI.out; omega)
            have htn : ((i : Int) + 14).toNat = i + 14 := by omega
            have hwi : wrap64 ((i : Int) + 14) = (i : Int) + 14 := w64' _ (by omega) (by omega)
            refine start_ (n := 21) (S := fun w' => w'.heap[g3]? = some (.cells #[.int .u32 ((orw (orw (orw (orw 0 (rd (spB a0) ((i : Nat) : Int)) 0) (rd (spB a0) ((i + 1 : Nat) : Int)) 1) (rd (spB a0) ((i + 2 : Nat) : Int)) 2) (rd (spB a0) ((i + 3 : Nat) : Int)) 3)), .int .u32 ((orw (orw (orw (orw 0 (rd (spB a0) ((i + 4 : Nat) : Int)) 0) (rd (spB a0) ((i + 5 : Nat) : Int)) 1) (rd (spB a0) ((i + 6 : Nat) : Int)) 2) (rd (spB a0) ((i + 7 : Nat) : Int)) 3)), .int .u32 ((orw (orw (orw (orw 0 (rd (spB a0) ((i + 8 : Nat) : Int)) 0) (rd (spB a0) ((i + 9 : Nat) : Int)) 1) (rd (spB a0) ((i + 10 : Nat) : Int)) 2) (rd (spB a0) ((i + 11 : Nat) : Int)) 3)), .int .u32 ((orw (orw 0 (rd (spB a0) ((i + 12 : Nat) : Int)) 0) (rd (spB a0) ((i + 13 : Nat) : Int)) 1))] 23 (0, 0)) ∧ w'.cell? ⟨g1, i + 14, none⟩ = some (.int .u8 (rd (spB a0) ((i + 14 : Nat) : Int)))) (ds := [20]) #[false, false, false, false, false, false, false, false, false, false, false, false, false, false, false, false, false, false, false, false, false] (by kernel_rfl) rfl rfl ⟨blk_drew Kg3.out, HC1.out.at (i + 14) (by have := HI.out; rw [spB_length]; omega)⟩ (fun hHeld => ?_)
            refine pure_ (i := 0) (N := (some 44)) (v := ?_) (a' := ?_) #[true, false, false, false, false, false, false, false, false, false, false, false, false, false, false, false, false, false, false, false, false] rfl rfl (by kernel_rfl) (fun _ _ _ h => h) (Or.inl ⟨by rfl, ?_⟩) ?_ ?_
            rotate_left
            · intro w'
              go_simp
              with_reducible rfl
            rotate_left
            · simp only [Act.put, List.setIfInBounds_toArray, List.set_cons_zero, List.set_cons_succ, i64_w, i32_w]
              rfl
            refine pure_ (i := 1) (N := (some 45)) (v := ?_) (a' := ?_) #[true, true, false, false, false, false, false, false, false, false, false, false, false, false, false, false, false, false, false, false, false] rfl rfl (by kernel_rfl) (fun _ _ _ h => h) (Or.inl ⟨by rfl, ?_⟩) ?_ ?_
            rotate_left
            · intro w'
              go_simp
              with_reducible rfl
            rotate_left
            · simp only [Act.put, List.setIfInBounds_toArray, List.set_cons_zero, List.set_cons_succ, i64_w, i32_w]
              rfl
            refine pure_ (i := 2) (N := (some 46)) (v := ?_) (a' := ?_) #[true, true, true, false, false, false, false, false, false, false, false, false, false, false, false, false, false, false, false, false, false] rfl rfl (by kernel_rfl) (fun _ _ _ h => h) (Or.inl ⟨by rfl, ?_⟩) ?_ ?_
            rotate_left
            · intro w'
              go_simp
              with_reducible rfl
            rotate_left
            · simp only [Act.put, List.setIfInBounds_toArray, List.set_cons_zero, List.set_cons_succ, i64_w, i32_w]
              rfl
            refine pure_ (i := 3) (N := (some 47)) (v := ?_) (a' := ?_) #[true, true, true, true, false, false, false, false, false, false, false, false, false, false, false, false, false, false, false, false, false] rfl rfl (by kernel_rfl) (fun _ _ _ h => h) (Or.inl ⟨by rfl, ?_⟩) ?_ ?_
            rotate_left
            · intro w'
              go_simp
              with_reducible rfl
            rotate_left
            · simp only [Act.put, List.setIfInBounds_toArray, List.set_cons_zero, List.set_cons_succ, i64_w, i32_w]
              rfl
            refine pure_ (i := 4) (N := (some 48)) (v := ?_) (a' := ?_) #[true, true, true, true, true, false, false, false, false, false, false, false, false, false, false, false, false, false, false, false, false] rfl rfl (by kernel_rfl) (fun _ _ _ h => h) (Or.inl ⟨by rfl, ?_⟩) ?_ ?_
            rotate_left
            · intro w'
              go_simp
              with_reducible rfl
            rotate_left
            · simp only [Act.put, List.setIfInBounds_toArray, List.set_cons_zero, List.set_cons_succ, i64_w, i32_w]
              rfl
            refine pure_ (i := 6) (N := (some 50)) (v := ?_) (a' := ?_) #[true, true, true, true, true, false, true, false, false, false, false, false, false, false, false, false, false, false, false, false, false] rfl rfl (by kernel_rfl) (fun _ _ _ h => h) (Or.inl ⟨by rfl, ?_⟩) ?_ ?_
            rotate_left
            · intro w'
              go_simp
              with_reducible rfl
            rotate_left
            · simp only [Act.put, List.setIfInBounds_toArray, List.set_cons_zero, List.set_cons_succ, i64_w, i32_w]
              rfl
            refine pure_ (i := 7) (N := (some 51)) (v := ?_) (a' := ?_) #[true, true, true, true, true, false, true, true, false, false, false, false, false, false, false, false, false, false, false, false, false] rfl rfl (by kernel_rfl) (fun _ _ _ h => h) (Or.inl ⟨by rfl, ?_⟩) ?_ ?_
            rotate_left
            · intro w'
              go_simp
              with_reducible rfl
            rotate_left
            · simp only [Act.put, List.setIfInBounds_toArray, List.set_cons_zero, List.set_cons_succ, i64_w, i32_w]
              rfl
            refine pure_ (i := 8) (N := (some 52)) (v := ?_) (a' := ?_) #[true, true, true, true, true, false, true, true, true, false, false, false, false, false, false, false, false, false, false, false, false] rfl rfl (by kernel_rfl) (fun _ _ _ h => h) (Or.inl ⟨by rfl, ?_⟩) ?_ ?_
            rotate_left
            · intro w'
              go_simp
              with_reducible rfl
            rotate_left
            · simp only [Act.put, List.setIfInBounds_toArray, List.set_cons_zero, List.set_cons_succ, i64_w, i32_w]
              rfl
            refine pure_ (i := 9) (N := (some 53)) (v := ?_) (a' := ?_) #[true, true, true, true, true, false, true, true, true, true, false, false, false, false, false, false, false, false, false, false, false] rfl rfl (by kernel_rfl) (fun _ _ _ h => h) (Or.inl ⟨by rfl, ?_⟩) ?_ ?_
            rotate_left
            · intro w'
              go_simp
              with_reducible rfl
            rotate_left
            · simp only [Act.put, List.setIfInBounds_toArray, List.set_cons_zero, List.set_cons_succ, i64_w, i32_w]
              rfl
            refine pure_ (i := 10) (N := (some 54)) (v := ?_) (a' := ?_) #[true, true, true, true, true, false, true, true, true, true, true, false, false, false, false, false, false, false, false, false, false] rfl rfl (by kernel_rfl) (fun _ _ _ h => h) (Or.inl ⟨by rfl, ?_⟩) ?_ ?_
            rotate_left
            · intro w'
              go_simp
              with_reducible rfl
            rotate_left
            · simp only [Act.put, List.setIfInBounds_toArray, List.set_cons_zero, List.set_cons_succ, i64_w, i32_w]
              rfl
            refine pure_ (i := 13) (N := (some 57)) (v := ?_) (a' := ?_) #[true, true, true, true, true, false, true, true, true, true, true, false, false, true, false, false, false, false, false, false, false] rfl rfl (by kernel_rfl) (fun _ _ _ h => h) (Or.inl ⟨by rfl, ?_⟩) ?_ ?_
            rotate_left
            · intro w'
              go_simp
              with_reducible rfl
            rotate_left
            · simp only [Act.put, List.setIfInBounds_toArray, List.set_cons_zero, List.set_cons_succ, i64_w, i32_w]
              rfl
            refine pure_ (i := 14) (N := (some 58)) (v := ?_) (a' := ?_) #[true, true, true, true, true, false, true, true, true, true, true, false, false, true, true, false, false, false, false, false, false] rfl rfl (by kernel_rfl) (fun _ _ _ h => h) (Or.inl ⟨by rfl, ?_⟩) ?_ ?_
            rotate_left
            · intro w'
              go_simp
              with_reducible rfl
            rotate_left
            · simp only [Act.put, List.setIfInBounds_toArray, List.set_cons_zero, List.set_cons_succ, i64_w, i32_w]
              rfl
            refine pure_ (i := 15) (N := (some 59)) (v := ?_) (a' := ?_) #[true, true, true, true, true, false, true, true, true, true, true, false, false, true, true, true, false, false, false, false, false] rfl rfl (by kernel_rfl) (fun _ _ _ h => h) (Or.inl ⟨by rfl, ?_⟩) ?_ ?_
            rotate_left
            · intro w'
              go_simp
              with_reducible rfl
            rotate_left
            · simp only [Act.put, List.setIfInBounds_toArray, List.set_cons_zero, List.set_cons_succ, i64_w, i32_w]
              rfl
            refine pure_ (i := 16) (N := (some 60)) (v := ?_) (a' := ?_) #[true, true, true, true, true, false, true, true, true, true, true, false, false, true, true, true, true, false, false, false, false] rfl rfl (by kernel_rfl) (fun _ _ _ h => h) (Or.inl ⟨by rfl, ?_⟩) ?_ ?_
            rotate_left
            · intro w'
              go_simp
              with_reducible rfl
            rotate_left
            · simp only [Act.put, List.setIfInBounds_toArray, List.set_cons_zero, List.set_cons_succ, i64_w, i32_w]
              rfl
            refine take_ (i := 5) (N := (some 49)) (v := ?_) (a' := ?_) #[true, true, true, true, true, true, true, true, true, true, true, false, false, true, true, true, true, false, false, false, false] rfl rfl (by kernel_rfl) (fun _ _ _ h => h) (Or.inl ⟨by rfl, ?_⟩) hHeld ?_ ?_
            rotate_left
            · intro w' hS_
              have cz_ := (blk_cell hS_.1 3).trans rfl
              go_simp
              with_reducible rfl
            rotate_left
            · simp only [Act.put, List.setIfInBounds_toArray, List.set_cons_zero, List.set_cons_succ, i64_w, i32_w]
              rfl
            refine take_ (i := 11) (N := (some 55)) (v := ?_) (a' := ?_) #[true, true, true, true, true, true, true, true, true, true, true, true, false, true, true, true, true, false, false, false, false] rfl rfl (by kernel_rfl) (fun _ _ _ h => h) (Or.inl ⟨by rfl, ?_⟩) hHeld ?_ ?_
            rotate_left
            · intro w' hS_
              have cz_ := hS_.2
              go_simp
              with_reducible rfl
            rotate_left
            · simp only [Act.put, List.setIfInBounds_toArray, List.set_cons_zero, List.set_cons_succ, i64_w, i32_w]
              rfl
            refine pure_ (i := 12) (N := (some 56)) (v := ?_) (a' := ?_) #[true, true, true, true, true, true, true, true, true, true, true, true, true, true, true, true, true, false, false, false, false] rfl rfl (by kernel_rfl) (fun _ _ _ h => h) (Or.inl ⟨by rfl, ?_⟩) ?_ ?_
            rotate_left
            · intro w'
              go_simp
              with_reducible rfl
            rotate_left
            · simp only [Act.put, List.setIfInBounds_toArray, List.set_cons_zero, List.set_cons_succ, i64_w, i32_w]
              rfl
            refine pure_ (i := 17) (N := (some 61)) (v := ?_) (a' := ?_) #[true, true, true, true, true, true, true, true, true, true, true, true, true, true, true, true, true, true, false, false, false] rfl rfl (by kernel_rfl) (fun _ _ _ h => h) (Or.inl ⟨by rfl, ?_⟩) ?_ ?_
            rotate_left
            · intro w'
              go_simp
              with_reducible rfl
            rotate_left
            · simp only [Act.put, List.setIfInBounds_toArray, List.set_cons_zero, List.set_cons_succ, i64_w, i32_w]
              rfl
            refine pure_ (i := 18) (N := (some 62)) (v := ?_) (a' := ?_) #[true, true, true, true, true, true, true, true, true, true, true, true, true, true, true, true, true, true, true, false, false] rfl rfl (by kernel_rfl) (fun _ _ _ h => h) (Or.inl ⟨by rfl, ?_⟩) ?_ ?_
            rotate_left
            · intro w'
              go_simp
              with_reducible rfl
            rotate_left
            · simp only [Act.put, List.setIfInBounds_toArray, List.set_cons_zero, List.set_cons_succ, i64_w, i32_w]
              rfl
            refine pure_ (i := 19) (N := (some 63)) (v := ?_) (a' := ?_) #[true, true, true, true, true, true, true, true, true, true, true, true, true, true, true, true, true, true, true, true, false] rfl rfl (by kernel_rfl) (fun _ _ _ h => h) (Or.inl ⟨by rfl, ?_⟩) ?_ ?_
            rotate_left
            · intro w'
              go_simp
              with_reducible rfl
            rotate_left
            · simp only [Act.put, List.setIfInBounds_toArray, List.set_cons_zero, List.set_cons_succ, i64_w, i32_w]
              rfl
            refine last_ (i := 20) (N := none) #[true, true, true, true, true, true, true, true, true, true, true, true, true, true, true, true, true, true, true, true, true] rfl rfl (by kernel_rfl) (by decide) (fun K hK => ?_)
            have cz_ := (blk_cell hHeld.1 3).trans rfl
            have fz_ := blk_frozen hHeld.1 3
            refine store_step (w1 := ?w1_14) ?hg ?hN ?hr ?_; (case hg => rfl); (case hN => rfl); (case hr => first | (go_simp; done) | (go_simp; rfl))
            refine hK.out _ _ ?_
            clear hK K cz_ fz_
            refine done_ (by kernel_rfl) ?_
            clear hHeld hwm hwi hb1 hb2 htn
            go_wp2
            try clear hK1
            refine inLoop_gen (fun w' => Below w.heap.size w w' ∧ w'.heap[g2]? = some (.cells #[.int .u32 (st.a), .int .u32 (st.b), .int .u32 (st.c), .int .u32 (st.d), .int .u32 (st.e), .int .u32 (st.f), .int .u32 (st.g), .int .u32 (st.h)] 31 (0, 0)) ∧ w'.heap[g3]? = some (.cells #[.int .u32 ((orw (orw (orw (orw 0 (rd (spB a0) ((i : Nat) : Int)) 0) (rd (spB a0) ((i + 1 : Nat) : Int)) 1) (rd (spB a0) ((i + 2 : Nat) : Int)) 2) (rd (spB a0) ((i + 3 : Nat) : Int)) 3)), .int .u32 ((orw (orw (orw (orw 0 (rd (spB a0) ((i + 4 : Nat) : Int)) 0) (rd (spB a0) ((i + 5 : Nat) : Int)) 1) (rd (spB a0) ((i + 6 : Nat) : Int)) 2) (rd (spB a0) ((i + 7 : Nat) : Int)) 3)), .int .u32 ((orw (orw (orw (orw 0 (rd (spB a0) ((i + 8 : Nat) : Int)) 0) (rd (spB a0) ((i + 9 : Nat) : Int)) 1) (rd (spB a0) ((i + 10 : Nat) : Int)) 2) (rd (spB a0) ((i + 11 : Nat) : Int)) 3)), .int .u32 ((orw (orw (orw 0 (rd (spB a0) ((i + 12 : Nat) : Int)) 0) (rd (spB a0) ((i + 13 : Nat) : Int)) 1) (rd (spB a0) ((i + 14 : Nat) : Int)) 2))] 23 (0, 0)) ∧ OwnC w' w.heap.size (.slice (some ⟨g1, 0, none⟩) (a0.size + 1 + zn a0.size + 8) cap1) (spB a0)) ⟨(by repeat (first | (with_reducible first | exact HB.out | apply below_alloc | apply pw_below_drewN | apply below_drew1 | refine below_set ?_ Gg2.out | refine below_set ?_ Gg3.out) | exact HB.out)), (Eq.trans (by (with_reducible repeat (first | exact Kg2.out | apply blk_set | apply far_put Ng2g3.out | apply far_put Ng2g3.out.symm | apply blk_drewN | apply blk_drew | apply blk_alloc))) (by first | rfl)), (Eq.trans (by (with_reducible repeat (first | exact Kg3.out | apply blk_set | apply far_put Ng2g3.out | apply far_put Ng2g3.out.symm | apply blk_drewN | apply blk_drew | apply blk_alloc))) (by first | rfl)), (by repeat (first | (with_reducible exact HC1.out) | (with_reducible exact OwnC.drew HC1.out) | refine OwnC.drew ?_ | refine OwnC.far ?_ N13.out _))⟩ ?_
            try clear K1
            intro wA hF
            clear HB HC1 Kg2 Kg3
            obtain ⟨n0_, n1_, n2_, n3_⟩ := hF
            have HB := Aside0.mk n0_
            have Kg2 := Aside0.mk n1_
            have Kg3 := Aside0.mk n2_
            have HC1 := Aside0.mk n3_
            clear n0_ n1_ n2_ n3_
            refine inLoop_k fun K1 hK1 => ?_
            go_wp2
            have hwm : wrap64 3 = 3 := by unfold wrap64; omega
            have hb1 : (0 ≤ (i : Int) + 15) = True := eq_true (by omega)
            have hb2 : ((i : Int) + 15 < (a0.size : Int) + 1 + (zn a0.size : Int) + 8) = True := eq_true (by have := HI.out; omega)
            have htn : ((i : Int) + 15).toNat = i + 15 := by omega
            have hwi : wrap64 ((i : Int) + 15) = (i : Int) + 15 := w64' _ (by omega) (by omega)
            refine start_ (n := 21) (S := fun w' => w'.heap[g3]? = some (.cells #[.int .u32 ((orw (orw (orw (orw 0 (rd (spB a0) ((i : Nat) : Int)) 0) (rd (spB a0) ((i + 1 : Nat) : Int)) 1) (rd (spB a0) ((i + 2 : Nat) : Int)) 2) (rd (spB a0) ((i + 3 : Nat) : Int)) 3)), .int .u32 ((orw (orw (orw (orw 0 (rd (spB a0) ((i + 4 : Nat) : Int)) 0) (rd (spB a0) ((i + 5 : Nat) : Int)) 1) (rd (spB a0) ((i + 6 : Nat) : Int)) 2) (rd (spB a0) ((i + 7 : Nat) : Int)) 3)), .int .u32 ((orw (orw (orw (orw 0 (rd (spB a0) ((i + 8 : Nat) : Int)) 0) (rd (spB a0) ((i + 9 : Nat) : Int)) 1) (rd (spB a0) ((i + 10 : Nat) : Int)) 2) (rd (spB a0) ((i + 11 : Nat) : Int)) 3)), .int .u32 ((orw (orw (orw 0 (rd (spB a0) ((i + 12 : Nat) : Int)) 0) (rd (spB a0) ((i + 13 : Nat) : Int)) 1) (rd (spB a0) ((i + 14 : Nat) : Int)) 2))] 23 (0, 0)) ∧ w'.cell? ⟨g1, i + 15, none⟩ = some (.int .u8 (rd (spB a0) ((i + 15 : Nat) : Int)))) (ds := [20]) #[false, false, false, false, false, false, false, false, false, false, false, false, false, false, false, false, false, false, false, false, false] (by kernel_rfl) rfl rfl ⟨blk_drew Kg3.out, HC1.out.at (i + 15) (by have := HI.out; rw [spB_length]; omega)⟩ (fun hHeld => ?_)
            refine pure_ (i := 0) (N := (some 44)) (v := ?_) (a' := ?_) #[true, false, false, false, false, false, false, false, false, false, false, false, false, false, false, false, false, false, false, false, false] rfl rfl (by kernel_rfl) (fun _ _ _ h => h) (Or.inl ⟨by rfl, ?_⟩) ?_ ?_
            rotate_left
            · intro w'
              go_simp
              with_reducible rfl
            rotate_left
            · simp only [Act.put, List.setIfInBounds_toArray, List.set_cons_zero, List.set_cons_succ, i64_w, i32_w]
              rfl
            refine pure_ (i := 1) (N := (some 45)) (v := ?_) (a' := ?_) #[true, true, false, false, false, false, false, false, false, false, false, false, false, false, false, false, false, false, false, false, false] rfl rfl (by kernel_rfl) (fun _ _ _ h => h) (Or.inl ⟨by rfl, ?_⟩) ?_ ?_
            rotate_left
            · intro w'
              go_simp
              with_reducible rfl
            rotate_left
            · simp only [Act.put, List.setIfInBounds_toArray, List.set_cons_zero, List.set_cons_succ, i64_w, i32_w]
              rfl
            refine pure_ (i := 2) (N := (some 46)) (v := ?_) (a' := ?_) #[true, true, true, false, false, false, false, false, false, false, false, false, false, false, false, false, false, false, false, false, false] rfl rfl (by kernel_rfl) (fun _ _ _ h => h) (Or.inl ⟨by rfl, ?_⟩) ?_ ?_
            rotate_left
            · intro w'
              go_simp
              with_reducible rfl
            rotate_left
            · simp only [Act.put, List.setIfInBounds_toArray, List.set_cons_zero, List.set_cons_succ, i64_w, i32_w]
              rfl
            refine pure_ (i := 3) (N := (some 47)) (v := ?_) (a' := ?_) #[true, true, true, true, false, false, false, false, false, false, false, false, false, false, false, false, false, false, false, false, false] rfl rfl (by kernel_rfl) (fun _ _ _ h => h) (Or.inl ⟨by rfl, ?_⟩) ?_ ?_
            rotate_left
            · intro w'
              go_simp
              with_reducible rfl
            rotate_left
            · simp only [Act.put, List.setIfInBounds_toArray, List.set_cons_zero, List.set_cons_succ, i64_w, i32_w]
              rfl
            refine pure_ (i := 4) (N := (some 48)) (v := ?_) (a' := ?_) #[true, true, true, true, true, false, false, false, false, false, false, false, false, false, false, false, false, false, false, false, false] rfl rfl (by kernel_rfl) (fun _ _ _ h => h) (Or.inl ⟨by rfl, ?_⟩) ?_ ?_
            rotate_left
            · intro w'
              go_simp
              with_reducible rfl
            rotate_left
            · simp only [Act.put, List.setIfInBounds_toArray, List.set_cons_zero, List.set_cons_succ, i64_w, i32_w]
              rfl
            refine pure_ (i := 6) (N := (some 50)) (v := ?_) (a' := ?_) #[true, true, true, true, true, false, true, false, false, false, false, false, false, false, false, false, false, false, false, false, false] rfl rfl (by kernel_rfl) (fun _ _ _ h => h) (Or.inl ⟨by rfl, ?_⟩) ?_ ?_
            rotate_left
            · intro w'
              go_simp
              with_reducible rfl
            rotate_left
            · simp only [Act.put, List.setIfInBounds_toArray, List.set_cons_zero, List.set_cons_succ, i64_w, i32_w]
              rfl
            refine pure_ (i := 7) (N := (some 51)) (v := ?_) (a' := ?_) #[true, true, true, true, true, false, true, true, false, false, false, false, false, false, false, false, false, false, false, false, false] rfl rfl (by kernel_rfl) (fun _ _ _ h => h) (Or.inl ⟨by rfl, ?_⟩) ?_ ?_
            rotate_left
            · intro w'
              go_simp
              with_reducible rfl
            rotate_left
            · simp only [Act.put, List.setIfInBounds_toArray, List.set_cons_zero, List.set_cons_succ, i64_w, i32_w]
              rfl
            refine pure_ (i := 8) (N := (some 52)) (v := ?_) (a' := ?_) #[true, true, true, true, true, false, true, true, true, false, false, false, false, false, false, false, false, false, false, false, false] rfl rfl (by kernel_rfl) (fun _ _ _ h => h) (Or.inl ⟨by rfl, ?_⟩) ?_ ?_
            rotate_left
            · intro w'
              go_simp
              with_reducible rfl
            rotate_left
            · simp only [Act.put, List.setIfInBounds_toArray, List.set_cons_zero, List.set_cons_succ, i64_w, i32_w]
              rfl
            refine pure_ (i := 9) (N := (some 53)) (v := ?_) (a' := ?_) #[true, true, true, true, true, false, true, true, true, true, false, false, false, false, false, false, false, false, false, false, false] rfl rfl (by kernel_rfl) (fun _ _ _ h => h) (Or.inl ⟨by rfl, ?_⟩) ?_ ?_
            rotate_left
            · intro w'
              go_simp
              with_reducible rfl
            rotate_left
            · simp only [Act.put, List.setIfInBounds_toArray, List.set_cons_zero, List.set_cons_succ, i64_w, i32_w]
              rfl
            refine pure_ (i := 10) (N := (some 54)) (v := ?_) (a' := ?_) #[true, true, true, true, true, false, true, true, true, true, true, false, false, false, false, false, false, false, false, false, false] rfl rfl (by kernel_rfl) (fun _ _ _ h => h) (Or.inl ⟨by rfl, ?_⟩) ?_ ?_
            rotate_left
            · intro w'
              go_simp
              with_reducible rfl
            rotate_left
            · simp only [Act.put, List.setIfInBounds_toArray, List.set_cons_zero, List.set_cons_succ, i64_w, i32_w]
              rfl
            refine pure_ (i := 13) (N := (some 57)) (v := ?_) (a' := ?_) #[true, true, true, true, true, false, true, true, true, true, true, false, false, true, false, false, false, false, false, false, false] rfl rfl (by kernel_rfl) (fun _ _ _ h => h) (Or.inl ⟨by rfl, ?_⟩) ?_ ?_
            rotate_left
            · intro w'
              go_simp
              with_reducible rfl
            rotate_left
            · simp only [Act.put, List.setIfInBounds_toArray, List.set_cons_zero, List.set_cons_succ, i64_w, i32_w]
              rfl
            refine pure_ (i := 14) (N := (some 58)) (v := ?_) (a' := ?_) #[true, true, true, true, true, false, true, true, true, true, true, false, false, true, true, false, false, false, false, false, false] rfl rfl (by kernel_rfl) (fun _ _ _ h => h) (Or.inl ⟨by rfl, ?_⟩) ?_ ?_
            rotate_left
            · intro w'
              go_simp
              with_reducible rfl
            rotate_left
            · simp only [Act.put, List.setIfInBounds_toArray, List.set_cons_zero, List.set_cons_succ, i64_w, i32_w]
              rfl
            refine pure_ (i := 15) (N := (some 59)) (v := ?_) (a' := ?_) #[true, true, true, true, true, false, true, true, true, true, true, false, false, true, true, true, false, false, false, false, false] rfl rfl (by kernel_rfl) (fun _ _ _ h => h) (Or.inl ⟨by rfl, ?_⟩) ?_ ?_
            rotate_left
            · intro w'
              go_simp
              with_reducible rfl
            rotate_left
            · simp only [Act.put, List.setIfInBounds_toArray, List.set_cons_zero, List.set_cons_succ, i64_w, i32_w]
              rfl
            refine pure_ (i := 16) (N := (some 60)) (v := ?_) (a' := ?_) #[true, true, true, true, true, false, true, true, true, true, true, false, false, true, true, true, true, false, false, false, false] rfl rfl (by kernel_rfl) (fun _ _ _ h => h) (Or.inl ⟨by rfl, ?_⟩) ?_ ?_
            rotate_left
            · intro w'
              go_simp
              with_reducible rfl
            rotate_left
            · simp only [Act.put, List.setIfInBounds_toArray, List.set_cons_zero, List.set_cons_succ, i64_w, i32_w]
              rfl
            refine take_ (i := 5) (N := (some 49)) (v := ?_) (a' := ?_) #[true, true, true, true, true, true, true, true, true, true, true, false, false, true, true, true, true, false, false, false, false] rfl rfl (by kernel_rfl) (fun _ _ _ h => h) (Or.inl ⟨by rfl, ?_⟩) hHeld ?_ ?_
            rotate_left
            · intro w' hS_
              have cz_ := (blk_cell hS_.1 3).trans rfl
              go_simp
              with_reducible rfl
            rotate_left
            · simp only [Act.put, List.setIfInBounds_toArray, List.set_cons_zero, List.set_cons_succ, i64_w, i32_w]
              rfl
            refine take_ (i := 11) (N := (some 55)) (v := ?_) (a' := ?_) #[true, true, true, true, true, true, true, true, true, true, true, true, false, true, true, true, true, false, false, false, false] rfl rfl (by kernel_rfl) (fun _ _ _ h => h) (Or.inl ⟨by rfl, ?_⟩) hHeld ?_ ?_
            rotate_left
            · intro w' hS_
              have cz_ := hS_.2
              go_simp
              with_reducible rfl
            rotate_left
            · simp only [Act.put, List.setIfInBounds_toArray, List.set_cons_zero, List.set_cons_succ, i64_w, i32_w]
              rfl
            refine pure_ (i := 12) (N := (some 56)) (v := ?_) (a' := ?_) #[true, true, true, true, true, true, true, true, true, true, true, true, true, true, true, true, true, false, false, false, false] rfl rfl (by kernel_rfl) (fun _ _ _ h => h) (Or.inl ⟨by rfl, ?_⟩) ?_ ?_
            rotate_left
            · intro w'
              go_simp
              with_reducible rfl
            rotate_left
            · simp only [Act.put, List.setIfInBounds_toArray, List.set_cons_zero, List.set_cons_succ, i64_w, i32_w]
              rfl
            refine pure_ (i := 17) (N := (some 61)) (v := ?_) (a' := ?_) #[true, true, true, true, true, true, true, true, true, true, true, true, true, true, true, true, true, true, false, false, false] rfl rfl (by kernel_rfl) (fun _ _ _ h => h) (Or.inl ⟨by rfl, ?_⟩) ?_ ?_
            rotate_left
            · intro w'
              go_simp
              with_reducible rfl
            rotate_left
            · simp only [Act.put, List.setIfInBounds_toArray, List.set_cons_zero, List.set_cons_succ, i64_w, i32_w]
              rfl
            refine pure_ (i := 18) (N := (some 62)) (v := ?_) (a' := ?_) #[true, true, true, true, true, true, true, true, true, true, true, true, true, true, true, true, true, true, true, false, false] rfl rfl (by kernel_rfl) (fun _ _ _ h => h) (Or.inl ⟨by rfl, ?_⟩) ?_ ?_
            rotate_left
            · intro w'
              go_simp
              with_reducible rfl
            rotate_left
            · simp only [Act.put, List.setIfInBounds_toArray, List.set_cons_zero, List.set_cons_succ, i64_w, i32_w]
              rfl
            refine pure_ (i := 19) (N := (some 63)) (v := ?_) (a' := ?_) #[true, true, true, true, true, true, true, true, true, true, true, true, true, true, true, true, true, true, true, true, false] rfl rfl (by kernel_rfl) (fun _ _ _ h => h) (Or.inl ⟨by rfl, ?_⟩) ?_ ?_
            rotate_left
            · intro w'
              go_simp
              with_reducible rfl
            rotate_left
            · simp only [Act.put, List.setIfInBounds_toArray, List.set_cons_zero, List.set_cons_succ, i64_w, i32_w]
              rfl
            refine last_ (i := 20) (N := none) #[true, true, true, true, true, true, true, true, true, true, true, true, true, true, true, true, true, true, true, true, true] rfl rfl (by kernel_rfl) (by decide) (fun K hK => ?_)
            have cz_ := (blk_cell hHeld.1 3).trans rfl
            have fz_ := blk_frozen hHeld.1 3
            refine store_step (w1 := ?w1_15) ?hg ?hN ?hr ?_; (case hg => rfl); (case hN => rfl); (case hr => first | (go_simp; done) | (go_simp; rfl))
            refine hK.out _ _ ?_
            clear hK K cz_ fz_
            refine done_ (by kernel_rfl) ?_
            clear hHeld hwm hwi hb1 hb2 htn
            go_wp2
            try clear hK1
            refine inLoop_gen (fun w' => Below w.heap.size w w' ∧ w'.heap[g2]? = some (.cells #[.int .u32 (st.a), .int .u32 (st.b), .int .u32 (st.c), .int .u32 (st.d), .int .u32 (st.e), .int .u32 (st.f), .int .u32 (st.g), .int .u32 (st.h)] 31 (0, 0)) ∧ w'.heap[g3]? = some (.cells #[.int .u32 ((orw (orw (orw (orw 0 (rd (spB a0) ((i : Nat) : Int)) 0) (rd (spB a0) ((i + 1 : Nat) : Int)) 1) (rd (spB a0) ((i + 2 : Nat) : Int)) 2) (rd (spB a0) ((i + 3 : Nat) : Int)) 3)), .int .u32 ((orw (orw (orw (orw 0 (rd (spB a0) ((i + 4 : Nat) : Int)) 0) (rd (spB a0) ((i + 5 : Nat) : Int)) 1) (rd (spB a0) ((i + 6 : Nat) : Int)) 2) (rd (spB a0) ((i + 7 : Nat) : Int)) 3)), .int .u32 ((orw (orw (orw (orw 0 (rd (spB a0) ((i + 8 : Nat) : Int)) 0) (rd (spB a0) ((i + 9 : Nat) : Int)) 1) (rd (spB a0) ((i + 10 : Nat) : Int)) 2) (rd (spB a0) ((i + 11 : Nat) : Int)) 3)), .int .u32 ((orw (orw (orw (orw 0 (rd (spB a0) ((i + 12 : Nat) : Int)) 0) (rd (spB a0) ((i + 13 : Nat) : Int)) 1) (rd (spB a0) ((i + 14 : Nat) : Int)) 2) (rd (spB a0) ((i + 15 : Nat) : Int)) 3))] 23 (0, 0)) ∧ OwnC w' w.heap.size (.slice (some ⟨g1, 0, none⟩) (a0.size + 1 + zn a0.size + 8) cap1) (spB a0)) ⟨(by repeat (first | (with_reducible first | exact HB.out | apply below_alloc | apply pw_below_drewN | apply below_drew1 | refine below_set ?_ Gg2.out | refine below_set ?_ Gg3.out) | exact HB.out)), (Eq.trans (by (with_reducible repeat (first | exact Kg2.out | apply blk_set | apply far_put Ng2g3.out | apply far_put Ng2g3.out.symm | apply blk_drewN | apply blk_drew | apply blk_alloc))) (by first | rfl)), (Eq.trans (by (with_reducible repeat (first | exact Kg3.out | apply blk_set | apply far_put Ng2g3.out | apply far_put Ng2g3.out.symm | apply blk_drewN | apply blk_drew | apply blk_alloc))) (by first | rfl)), (by repeat (first | (with_reducible exact HC1.out) | (with_reducible exact OwnC.drew HC1.out) | refine OwnC.drew ?_ | refine OwnC.far ?_ N13.out _))⟩ ?_
            try clear K1
            intro wA hF
            clear HB HC1 Kg2 Kg3
            obtain ⟨n0_, n1_, n2_, n3_⟩ := hF
            have HB := Aside0.mk n0_
            have Kg2 := Aside0.mk n1_
            have Kg3 := Aside0.mk n2_
            have HC1 := Aside0.mk n3_
            clear n0_ n1_ n2_ n3_
            obtain ⟨b0, b1, b2, b3, hb_, hs_⟩ : ∃ b0 b1 b2 b3 : Int, wA.heap[g3]? = some (.cells #[.int .u32 b0, .int .u32 b1, .int .u32 b2, .int .u32 b3] 23 (0, 0)) ∧ spongeL (wordsL ((spB a0).drop (i + 16))) (tk st b0 b1 b2 b3) = ofS a0 := ⟨_, _, _, _, Kg3.out, sp_step a0 HS3.out i st (by rw [spB_length]; exact HI.out) HS.out.1⟩
            clear Kg3
            have Kg3 := Aside0.mk hb_
            have HS1 := Aside0.mk hs_
            clear hb_ hs_
            have HT := Aside0.mk (took_at st HS.out.2 b0 b1 b2 b3)
            have HOK := Aside0.mk (tk_ok st HS.out.2 b0 b1 b2 b3)
            clear HS
            generalize tk st b0 b1 b2 b3 = st' at HS1 HT HOK
            have cg2_0 : wA.cell? ⟨g2, 0, none⟩ = some (.int .u32 st.a) := (blk_cell Kg2.out 0).trans rfl
            have zg2_0 := blk_frozen Kg2.out 0
            have cg2_1 : wA.cell? ⟨g2, 1, none⟩ = some (.int .u32 st.b) := (blk_cell Kg2.out 1).trans rfl
            have zg2_1 := blk_frozen Kg2.out 1
            have cg2_2 : wA.cell? ⟨g2, 2, none⟩ = some (.int .u32 st.c) := (blk_cell Kg2.out 2).trans rfl
            have zg2_2 := blk_frozen Kg2.out 2
            have cg2_3 : wA.cell? ⟨g2, 3, none⟩ = some (.int .u32 st.d) := (blk_cell Kg2.out 3).trans rfl
            have zg2_3 := blk_frozen Kg2.out 3
            have cg2_4 : wA.cell? ⟨g2, 4, none⟩ = some (.int .u32 st.e) := (blk_cell Kg2.out 4).trans rfl
            have zg2_4 := blk_frozen Kg2.out 4
            have cg2_5 : wA.cell? ⟨g2, 5, none⟩ = some (.int .u32 st.f) := (blk_cell Kg2.out 5).trans rfl
            have zg2_5 := blk_frozen Kg2.out 5
            have cg2_6 : wA.cell? ⟨g2, 6, none⟩ = some (.int .u32 st.g) := (blk_cell Kg2.out 6).trans rfl
            have zg2_6 := blk_frozen Kg2.out 6
            have cg2_7 : wA.cell? ⟨g2, 7, none⟩ = some (.int .u32 st.h) := (blk_cell Kg2.out 7).trans rfl
            have zg2_7 := blk_frozen Kg2.out 7
            have cg3_0 : wA.cell? ⟨g3, 0, none⟩ = some (.int .u32 b0) := (blk_cell Kg3.out 0).trans rfl
            have zg3_0 := blk_frozen Kg3.out 0
            have cg3_1 : wA.cell? ⟨g3, 1, none⟩ = some (.int .u32 b1) := (blk_cell Kg3.out 1).trans rfl
            have zg3_1 := blk_frozen Kg3.out 1
            have cg3_2 : wA.cell? ⟨g3, 2, none⟩ = some (.int .u32 b2) := (blk_cell Kg3.out 2).trans rfl
            have zg3_2 := blk_frozen Kg3.out 2
            have cg3_3 : wA.cell? ⟨g3, 3, none⟩ = some (.int .u32 b3) := (blk_cell Kg3.out 3).trans rfl
            have zg3_3 := blk_frozen Kg3.out 3
            have hwi16 : wrap64 ((i : Int) + 16) = (i : Int) + 16 := w64' _ (by omega) (by omega)
            refine inLoop_k fun K1 hK1 => ?_
            go_wp2_with (first | ((go_at_call 30); (with_reducible refine (seedcornlaw03_took.calls st.a st.b st.c st.d st.e st.f st.g st.h b0 b1 b2 b3 st'.a st'.b st'.c st'.d st'.e st'.f st'.g st'.h _ HT.out (Tab.below HTB.out (by repeat (first | (with_reducible first | exact HB.out | apply below_alloc | apply pw_below_drewN | apply below_drew1 | refine below_set ?_ Gg2.out | refine below_set ?_ Gg3.out) | exact HB.out)))).mono ?_); rintro e wC ⟨rfl, hb⟩; have n0_ := Aside0.mk (below_step (by repeat (first | (with_reducible first | exact HB.out | apply below_alloc | apply pw_below_drewN | apply below_drew1 | refine below_set ?_ Gg2.out | refine below_set ?_ Gg3.out) | exact HB.out)) hb); have n1_ := Aside0.mk (blk_below (g := g2) (o := (.cells #[.int .u32 (st.a), .int .u32 (st.b), .int .u32 (st.c), .int .u32 (st.d), .int .u32 (st.e), .int .u32 (st.f), .int .u32 (st.g), .int .u32 (st.h)] 31 (0, 0))) (Eq.trans (by (with_reducible repeat (first | exact Kg2.out | apply blk_set | apply far_put Ng2g3.out | apply far_put Ng2g3.out.symm | apply blk_drewN | apply blk_drew | apply blk_alloc))) (by first | rfl)) hb); have n2_ := Aside0.mk (OwnC.below ((by repeat (first | (with_reducible exact HC1.out) | (with_reducible exact OwnC.drew HC1.out) | refine OwnC.drew ?_)) : OwnC _ w.heap.size (.slice (some ⟨g1, 0, none⟩) (a0.size + 1 + zn a0.size + 8) cap1) (spB a0)) hb); clear HB Kg2 Kg3 HC1 hb; have HB := n0_; have Kg2 := n1_; have HC1 := n2_; clear n0_ n1_ n2_; have d_0 : wC.cell? ⟨g2, 0, none⟩ = some (.int .u32 st.a) := (blk_cell Kg2.out 0).trans rfl; have e_0 := blk_frozen Kg2.out 0; have d_1 : wC.cell? ⟨g2, 1, none⟩ = some (.int .u32 st.b) := (blk_cell Kg2.out 1).trans rfl; have e_1 := blk_frozen Kg2.out 1; have d_2 : wC.cell? ⟨g2, 2, none⟩ = some (.int .u32 st.c) := (blk_cell Kg2.out 2).trans rfl; have e_2 := blk_frozen Kg2.out 2; have d_3 : wC.cell? ⟨g2, 3, none⟩ = some (.int .u32 st.d) := (blk_cell Kg2.out 3).trans rfl; have e_3 := blk_frozen Kg2.out 3; have d_4 : wC.cell? ⟨g2, 4, none⟩ = some (.int .u32 st.e) := (blk_cell Kg2.out 4).trans rfl; have e_4 := blk_frozen Kg2.out 4; have d_5 : wC.cell? ⟨g2, 5, none⟩ = some (.int .u32 st.f) := (blk_cell Kg2.out 5).trans rfl; have e_5 := blk_frozen Kg2.out 5; have d_6 : wC.cell? ⟨g2, 6, none⟩ = some (.int .u32 st.g) := (blk_cell Kg2.out 6).trans rfl; have e_6 := blk_frozen Kg2.out 6; have d_7 : wC.cell? ⟨g2, 7, none⟩ = some (.int .u32 st.h) := (blk_cell Kg2.out 7).trans rfl; have e_7 := blk_frozen Kg2.out 7))
            try clear hK1
            clear d_0 e_0 d_1 e_1 d_2 e_2 d_3 e_3 d_4 e_4 d_5 e_5 d_6 e_6 d_7 e_7
            go_roundg kp
            case measure => omega
            case rel => exact ⟨i + 16, st', by first | rfl | (simp; done), ⟨by have := HA.out; omega⟩, ⟨HS1.out, HOK.out⟩, ⟨(by repeat (first | (with_reducible exact HC1.out) | (with_reducible refine OwnC.far ?_ N12.out _) | (with_reducible refine OwnC.drew ?_)))⟩, ⟨(by repeat (first | (with_reducible first | exact HB.out | apply below_alloc | apply pw_below_drewN | apply below_drew1 | refine below_set ?_ Gg2.out) | exact HB.out))⟩, ⟨(Eq.trans (by (with_reducible repeat (first | exact Kg2.out | apply blk_set | apply blk_drewN | apply blk_drew | apply blk_alloc))) (by first | rfl))⟩⟩


end Go.Proofs.YthimgiphlenjdaaDoor.PI
