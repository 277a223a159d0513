/- Contracts of the Go functions of this seat, each over a Lean function of the same answers; written by a program of this session's. -/
import Derived.Test.YthimgiphlenjdaaDoorPIx0
import Derived.Test.YthimgiphlenjdaaDoorHWords
import Derived.Test.YthimgiphlenjdaaDoorHPut
import Derived.Test.YthimgiphlenjdaaDoorPureRight
import Derived.Test.YthimgiphlenjdaaDoorGe
import Derived.Test.YthimgiphlenjdaaDoorGc
namespace Go.Proofs.YthimgiphlenjdaaDoor.PI
open Go.RowKit Go.Proofs.YthimgiphlenjdaaDoorW.PrintWords Go.Proofs.YthimgiphlenjdaaDoorW.PrintLast
open HX
set_option linter.unusedVariables false
set_option linter.unusedSimpArgs false

section
attribute [local go_sem high] eqA24
/-! ### recipe_Put: function 34 -/
-- import HPut
-- import PureRight
def recipe_Put.f (a0_0 : Int) (a0_1 : Int) (a0_2 : Int) (a0_3 : Int) (a0_4 : Int) (l0_5 : List Int) (l0_6 : List (S24)) (a0_7 : Int) : Option (ByteArray × Int) := some (putS ⟨a0_0, a0_1, a0_2, a0_3, a0_4, l0_5, l0_6, a0_7⟩)
set_option maxHeartbeats 8000000 in
set_option maxRecDepth 100000 in
theorem recipe_Put.calls (a0_0 : Int) (a0_1 : Int) (a0_2 : Int) (a0_3 : Int) (a0_4 : Int) (A0_5 : Option Addr) (c0_5 : Nat) (l0_5 : List Int) (A0_6 : Option Addr) (c0_6 : Nat) (l0_6 : List (S24)) (a0_7 : Int) (r1 : ByteArray) (r2 : Int) (w : World) (hr0_5 : Kd.C (Kd.int .i64) w A0_5 l0_5.length l0_5) (hc0_5 : l0_5.length ≤ c0_5) (hr0_6 : Kd.C k24 w A0_6 l0_6.length l0_6) (hc0_6 : l0_6.length ≤ c0_6) (h : recipe_Put.f a0_0 a0_1 a0_2 a0_3 a0_4 l0_5 l0_6 a0_7 = some (r1, r2)) :
    Calls Tryd.prog 34 #[.agg #[.int .i64 a0_0, .int .u32 a0_1, .int .u32 a0_2, .int .u32 a0_3, .int .u32 a0_4, .slice A0_5 l0_5.length c0_5, .slice A0_6 l0_6.length c0_6, .int .i64 a0_7]] w fun e w' => e = .returned (.tuple #[.string r1, .int .i64 r2]) ∧ Below w.heap.size w w' := by
  have hu46 := Tryd.underlying46
  have hu24 := Tryd.underlying24
  have HR5 := Aside0.mk hr0_5
  have HC5 := Aside0.mk hc0_5
  have HR6 := Aside0.mk hr0_6
  have HC6 := Aside0.mk hc0_6
  clear hr0_5 hc0_5 hr0_6 hc0_6
  have HB := Aside0.mk (Below.refl w.heap.size w)
  have hF := Option.some.inj h
  clear h
  by_cases hrt : (Rec.mk a0_0 a0_1 a0_2 a0_3 a0_4 l0_5 l0_6 a0_7).right
  · obtain ⟨h1, h2⟩ : r1 = (⟨#[82]⟩ : ByteArray) ++ strOfNums (bytesL (Rec.mk a0_0 a0_1 a0_2 a0_3 a0_4 l0_5 l0_6 a0_7).words) ∧ r2 = 0 := by
      unfold putS at hF
      rw [if_pos hrt] at hF
      simp only [Prod.mk.injEq] at hF
      exact ⟨by rw [recBytes_eq]; exact hF.1.symm, hF.2.symm⟩
    have HF := Aside0.mk (show recipe_Right.f 10 a0_0 a0_1 a0_2 a0_3 a0_4 l0_5 l0_6 a0_7 = some true by rw [right_of a0_0 a0_1 a0_2 a0_3 a0_4 l0_5 l0_6 a0_7 6, decide_eq_true hrt])
    have HS := Aside0.mk (right_small _ hrt)
    have hwl := words_length (Rec.mk a0_0 a0_1 a0_2 a0_3 a0_4 l0_5 l0_6 a0_7)
    have HWB := Aside0.mk (bytes_f (Rec.mk a0_0 a0_1 a0_2 a0_3 a0_4 l0_5 l0_6 a0_7).words 200 (by have h3 := HS.out.1; have h4 := HS.out.2; (try simp only at h3 h4 hwl); omega) (by have h3 := HS.out.1; have h4 := HS.out.2; (try simp only at h3 h4 hwl); omega))
    have hbs : (strOfNums (bytesL (Rec.mk a0_0 a0_1 a0_2 a0_3 a0_4 l0_5 l0_6 a0_7).words)).size ≤ 1000 := by
      have h3 := HS.out.1
      have h4 := HS.out.2
      rw [strOfNums_size, bytesL_length]
      try simp only at h3 h4 hwl
      omega
    generalize strOfNums (bytesL (Rec.mk a0_0 a0_1 a0_2 a0_3 a0_4 l0_5 l0_6 a0_7).words) = bs at h1 HWB hbs
    obtain ⟨WS, hWS⟩ : ∃ l : List Int, l = (Rec.mk a0_0 a0_1 a0_2 a0_3 a0_4 l0_5 l0_6 a0_7).words := ⟨_, rfl⟩
    rw [← hWS] at HWB
    have HWS := Aside0.mk hWS
    have hz1 : (9223372036854775807 < 1 + bs.size) = False := eq_false (by omega)
    have hz2 : (9223372036854775807 < (⟨#[82]⟩ : ByteArray).size + bs.size) = False := eq_false (by show ¬ (9223372036854775807 < 1 + bs.size); omega)
    have H12 := Aside0.mk (And.intro h1 h2)
    clear hF hrt hwl hWS hbs h1 h2
    go_enter Tryd.func34, Tryd.ntmps34
    go_wp2_with (first | ((with_reducible refine gate_dst (N := 1) rfl ?_); refine box_event ?hg (N := 1) ?hd (cs := #[.int .i64 a0_0, .int .u32 a0_1, .int .u32 a0_2, .int .u32 a0_3, .int .u32 a0_4, .slice A0_5 l0_5.length c0_5, .slice A0_6 l0_6.length c0_6, .int .i64 a0_7]) (t := 46) ?hr ?_; (case hd => rfl); (case hg => rfl); (case hr => first | (go_simp; done) | (go_simp; rfl)); intro gr hg w2 hbox hb; have n0_ := Aside0.mk (below_step (by repeat (first | (with_reducible first | exact HB.out | apply below_alloc | apply pw_below_drewN | apply below_drew1) | exact HB.out)) hb); have n1_ := Aside0.mk hbox; have n2_ := Aside0.mk ((by rw [hg]; exact (below_size HB.out)) : w.heap.size ≤ gr); clear HB; have HB := n0_; have Kgr := n1_; have Ggr := n2_; clear n0_ n1_ n2_ hb hbox hg; obtain ⟨k0_, k1_, k2_, k3_, k4_, k5_, k6_, k7_⟩ := cells8c Kgr.out) | ((go_at_call 42); (refine (recipe_Right.calls 10 a0_0 a0_1 a0_2 a0_3 a0_4 A0_5 c0_5 l0_5 A0_6 c0_6 l0_6 a0_7 true _ (Kd.C_below HR5.out (by repeat (first | (with_reducible first | exact HB.out | apply below_alloc | apply pw_below_drewN | apply below_drew1) | exact HB.out))) HC5.out (Kd.C_below HR6.out (by repeat (first | (with_reducible first | exact HB.out | apply below_alloc | apply pw_below_drewN | apply below_drew1) | exact HB.out))) HC6.out HF.out).mono ?_); rintro e w3 ⟨rfl, hb⟩; have n0_ := Aside0.mk (below_step (by repeat (first | (with_reducible first | exact HB.out | apply below_alloc | apply pw_below_drewN | apply below_drew1) | exact HB.out)) hb); have n1_ := Aside0.mk (blk_below (g := gr) (o := .cells #[.int .i64 a0_0, .int .u32 a0_1, .int .u32 a0_2, .int .u32 a0_3, .int .u32 a0_4, .slice A0_5 l0_5.length c0_5, .slice A0_6 l0_6.length c0_6, .int .i64 a0_7] 46 (0, 0)) Kgr.out hb); clear k0_ k1_ k2_ k3_ k4_ k5_ k6_ k7_; clear HB Kgr hb; have HB := n0_; have Kgr := n1_; clear n0_ n1_) | ((with_reducible refine gate_dst (N := 4) rfl ?_); refine box_event ?hg (N := 4) ?hd (cs := #[.slice none 0 0]) (t := 60) ?hr ?_; (case hd => rfl); (case hg => rfl); (case hr => first | (go_simp; done) | (go_simp; rfl)); intro gl hg w4 hbox hb; have n2_ := Aside0.mk ((by rw [hg]; exact (below_size HB.out)) : w.heap.size ≤ gl); have P := Aside0.mk (show PutSt w gr gl #[.int .i64 a0_0, .int .u32 a0_1, .int .u32 a0_2, .int .u32 a0_3, .int .u32 a0_4, .slice A0_5 l0_5.length c0_5, .slice A0_6 l0_6.length c0_6, .int .i64 a0_7] [] w4 from ⟨below_step HB.out hb, blk_below Kgr.out hb, none, 0, hbox, Kd.R_nil _ _ _ _ _⟩); have Ggl := n2_; clear HB Kgr n2_ hb hbox hg; obtain ⟨k0_, k1_, k2_, k3_, k4_, k5_, k6_, k7_⟩ := cells8c P.out.kr) | ((go_at_call 59); (refine (put1_calls w gr gl _ [] a0_0 _ P.out Ggl.out (by have := (show ([] : List Int).length = 0 from rfl); omega)).mono ?_); rintro e w5 ⟨rfl, hp⟩; obtain ⟨ls1, el_⟩ : ∃ l : List Int, l = [] ++ [a0_0 % 4294967296] := ⟨_, rfl⟩; rw [← el_] at hp; have Els1 := Aside0.mk el_; clear el_; have n_ := Aside0.mk hp; clear P; (try clear k0_ k1_ k2_ k3_ k4_ k5_ k6_ k7_); clear hp; have P := n_; clear n_; obtain ⟨k0_, k1_, k2_, k3_, k4_, k5_, k6_, k7_⟩ := cells8c P.out.kr))
    have HLls1 := Aside0.mk (show ls1.length = 1 by rw [Els1.out, List.length_append]; rfl)
    clear k0_ k1_ k2_ k3_ k4_ k5_ k6_ k7_
    obtain ⟨Ab, cb, kb_, rb_⟩ := P.out.drew.kl
    have KD := Aside0.mk kb_
    have RD := Aside0.mk rb_
    have BD := Aside0.mk P.out.drew.hb
    have QD := Aside0.mk P.out.drew.kr
    clear kb_ rb_
    refine start_ (n := 5) (S := fun w' => w'.heap[gl]? = some (.cells #[.slice Ab ls1.length cb] 60 (0, 0))) (ds := [4]) #[false, false, false, false, false] (by kernel_rfl) rfl rfl KD.out (fun hHeld => ?_)
    refine pure_ (i := 1) (N := (some 19)) (v := ?_) (a' := ?_) #[false, true, false, false, false] rfl rfl (by kernel_rfl) (fun _ _ _ h => h) (Or.inl ⟨by rfl, ?_⟩) ?_ ?_
    rotate_left
    · intro w'
      go_simp
      with_reducible rfl
    rotate_left
    · simp only [Act.put, List.setIfInBounds_toArray, List.set_cons_zero, List.set_cons_succ, i64_w, i32_w]
      rfl
    refine pure_ (i := 2) (N := (some 20)) (v := ?_) (a' := ?_) #[false, true, true, false, false] rfl rfl (by kernel_rfl) (fun _ _ _ h => h) (Or.inl ⟨by rfl, ?_⟩) ?_ ?_
    rotate_left
    · intro w'
      go_simp
      with_reducible rfl
    rotate_left
    · simp only [Act.put, List.setIfInBounds_toArray, List.set_cons_zero, List.set_cons_succ, i64_w, i32_w]
      rfl
    refine take_ (i := 0) (N := (some 18)) (v := ?_) (a' := ?_) #[true, true, true, false, false] rfl rfl (by kernel_rfl) (fun _ _ _ h => h) (Or.inl ⟨by rfl, ?_⟩) hHeld ?_ ?_
    rotate_left
    · intro w' hS_
      have cz_ := (blk_cell hS_ 0).trans rfl
      go_simp
      with_reducible rfl
    rotate_left
    · simp only [Act.put, List.setIfInBounds_toArray, List.set_cons_zero, List.set_cons_succ, i64_w, i32_w]
      rfl
    refine one_ (i := 3) (N := (some 21)) #[true, true, true, true, false] rfl rfl (by kernel_rfl) (by decide) (fun K hK => ?_)
    refine Kd.R_append_rows_step (Kd.int .u32) (Rr := fun (x : Int) (cs : List Value) => cs = [Value.int .u32 x]) (w0 := w) w.heap.size ?hw (.tmp 18) (.tmp 20) 60 22 (.int .u32 0) 4 rfl Tryd.underlying60 info22 rfl (by decide) (by omega) (.slice Ab ls1.length cb) ls1 [a0_1, a0_2, a0_3, a0_4] (some ⟨gr, 1, none⟩) 4 4 (fun _ => True) (fun _ => False) rfl rfl RD.out (reads4 QD.out a0_1 a0_2 a0_3 a0_4 rfl rfl rfl rfl) (fun _ _ h => h) (fun _ h => h.elim) (fun _ _ => trivial) BD.out (below_size BD.out) (by have := HLls1.out; omega) ?_; (case hw => rfl)
    intro v1 w1 ho hb hg hat
    obtain ⟨A1, c1, e1⟩ := Kd.R_slice ho
    subst e1
    obtain ⟨ls2, el_⟩ : ∃ l : List Int, l = ls1 ++ [a0_1, a0_2, a0_3, a0_4] := ⟨_, rfl⟩
    rw [← el_] at ho ⊢
    have Els2 := Aside0.mk el_
    have NO := Aside0.mk ho
    have NB := Aside0.mk hb
    have NG := Aside0.mk hg
    clear ho hb hg hat el_
    refine hK.out _ _ (blk_grown KD.out NG.out (Kd.R_ne RD.out KD.out (by decide))) (fun hHeld => ?_)
    clear hK K
    refine norm_ (a' := ?_) ?_ ?_
    rotate_left
    · show Act.put _ (some 21) _ = _
      simp only [Act.put, List.setIfInBounds_toArray, List.set_cons_zero, List.set_cons_succ, i64_w, i32_w]
      rfl
    refine last_ (i := 4) (N := none) #[true, true, true, true, true] rfl rfl (by kernel_rfl) (by decide) (fun K hK => ?_)
    have cz_ := (blk_cell hHeld 0).trans rfl
    have fz_ := blk_frozen hHeld 0
    refine store1 (w1 := ?w1_6) ?hg ?hN ?hr ?_; (case hg => rfl); (case hN => rfl); (case hr => first | (go_simp; done) | (go_simp; rfl))
    refine hK.out _ _ ?_
    clear hK K cz_ fz_
    refine done_ (by kernel_rfl) ?_
    clear hHeld
    refine gen_q (fun w' => PutSt w gr gl #[.int .i64 a0_0, .int .u32 a0_1, .int .u32 a0_2, .int .u32 a0_3, .int .u32 a0_4, .slice A0_5 l0_5.length c0_5, .slice A0_6 l0_6.length c0_6, .int .i64 a0_7] ls2 w') (PutSt.stored Ggl.out QD.out KD.out RD.out NB.out NG.out NO.out) ?_
    intro w6 hp
    clear P
    have P := Aside0.mk hp
    clear hp KD RD BD QD NB NG NO
    obtain ⟨k0_, k1_, k2_, k3_, k4_, k5_, k6_, k7_⟩ := cells8c P.out.kr
    have HLls2 := Aside0.mk (show ls2.length = 5 by rw [Els2.out, List.length_append, HLls1.out]; rfl)
    go_wp2_with (first | ((go_at_call 59); (refine (put1_calls w gr gl _ ls2 a0_7 _ P.out Ggl.out (by have := HLls2.out; omega)).mono ?_); rintro e w7 ⟨rfl, hp⟩; obtain ⟨ls3, el_⟩ : ∃ l : List Int, l = ls2 ++ [a0_7 % 4294967296] := ⟨_, rfl⟩; rw [← el_] at hp; have Els3 := Aside0.mk el_; clear el_; have n_ := Aside0.mk hp; clear P; (try clear k0_ k1_ k2_ k3_ k4_ k5_ k6_ k7_); clear hp; have P := n_; clear n_; obtain ⟨k0_, k1_, k2_, k3_, k4_, k5_, k6_, k7_⟩ := cells8c P.out.kr))
    have HLls3 := Aside0.mk (show ls3.length = 6 by rw [Els3.out, List.length_append, HLls2.out]; rfl)
    go_wp2_with (first | ((go_at_call 59); (refine (put1_calls w gr gl _ ls3 (l0_5.length : Int) _ P.out Ggl.out (by have := HLls3.out; omega)).mono ?_); rintro e w8 ⟨rfl, hp⟩; obtain ⟨ls4, el_⟩ : ∃ l : List Int, l = ls3 ++ [(l0_5.length : Int) % 4294967296] := ⟨_, rfl⟩; rw [← el_] at hp; have Els4 := Aside0.mk el_; clear el_; have n_ := Aside0.mk hp; clear P; (try clear k0_ k1_ k2_ k3_ k4_ k5_ k6_ k7_); clear hp; have P := n_; clear n_; obtain ⟨k0_, k1_, k2_, k3_, k4_, k5_, k6_, k7_⟩ := cells8c P.out.kr))
    have HLls4 := Aside0.mk (show ls4.length = 7 by rw [Els4.out, List.length_append, HLls3.out]; rfl)
    go_loopg [34] l0_5.length (fun kq v34 w' => ∃ (j : Nat) (ls : List Int), v34 = .int .i64 (j : Int) ∧ Aside0 (j + kq = l0_5.length) ∧ Aside0 (ls = ls4 ++ (l0_5.take j).map m32) ∧ Aside0 (PutSt w gr gl #[.int .i64 a0_0, .int .u32 a0_1, .int .u32 a0_2, .int .u32 a0_3, .int .u32 a0_4, .slice A0_5 l0_5.length c0_5, .slice A0_6 l0_6.length c0_6, .int .i64 a0_7] ls w'))
    case atStart => exact ⟨0, ls4, by first | rfl | (simp; done), ⟨by omega⟩, ⟨by simp⟩, P⟩
    case round =>
      clear P k0_ k1_ k2_ k3_ k4_ k5_ k6_ k7_
      obtain ⟨j, ls, rfl, HA, HE, P⟩ := hrel
      have HLS := Aside0.mk (show ls.length ≤ 27 by rw [HE.out, List.length_append, List.length_map, List.length_take, HLls4.out]; have := HS.out.1; (try simp only at this); omega)
      by_cases hj : j < l0_5.length
      · obtain ⟨kp, rfl⟩ : ∃ kp, gk = kp + 1 := ⟨gk - 1, by have := HA.out; omega⟩
        have c35 : decide ((j : Int) < (l0_5.length : Int)) = true := decide_eq_true (by omega)
        have p0_ : (0 : Int) ≤ (j : Int) := by omega
        have p1_ : (j : Int) < (l0_5.length : Int) := by omega
        have hwj : wrap64 ((j : Int) + 1) = (j : Int) + 1 := by have := HS.out.1; unfold wrap64; omega
        have htk := take_m l0_5 j hj
        have HTK := Aside0.mk htk
        have HJ := Aside0.mk hj
        clear htk hj
        obtain ⟨ad, rfl, hx⟩ := Kd.at_int HR5.out (j : Int) p0_ p1_
        rw [Int.toNat_natCast] at hx
        replace hx := (P.out.hb.cell (World.block_lt_of_cell? w _ hx)).trans hx
        replace p0_ := eq_true p0_
        replace p1_ := eq_true p1_
        go_wp2_with (first | ((go_at_call 59); (refine (put1_calls w gr gl _ ls (rd l0_5 (j : Int)) _ P.out Ggl.out (by have := HLS.out; omega)).mono ?_); rintro e w9 ⟨rfl, hp⟩; obtain ⟨ls', el_⟩ : ∃ l : List Int, l = ls ++ [(rd l0_5 (j : Int)) % 4294967296] := ⟨_, rfl⟩; rw [← el_] at hp; have Els' := Aside0.mk el_; clear el_; have n_ := Aside0.mk hp; clear P; (try clear k0_ k1_ k2_ k3_ k4_ k5_ k6_ k7_); clear hp; have P := n_; clear n_; obtain ⟨k0_, k1_, k2_, k3_, k4_, k5_, k6_, k7_⟩ := cells8c P.out.kr))
        go_roundg kp
        case measure => omega
        case rel => exact ⟨j + 1, ls', by first | rfl | (simp; done) | go_num, ⟨by have := HA.out; omega⟩, ⟨by rw [Els'.out, HE.out, HTK.out, List.append_assoc]⟩, P⟩
      · have hje : j = l0_5.length := by have := HA.out; omega
        have c35 : decide ((j : Int) < (l0_5.length : Int)) = false := decide_eq_false (by omega)
        have c35n : decide (j < l0_5.length) = false := decide_eq_false (by omega)
        have hE := HE.out
        rw [hje, List.take_length] at hE
        clear HE hj hje HA
        have HE := Aside0.mk hE
        clear hE
        obtain ⟨k0_, k1_, k2_, k3_, k4_, k5_, k6_, k7_⟩ := cells8c P.out.kr
        go_wp2_with (first | ((go_at_call 59); (refine (put1_calls w gr gl _ ls (l0_6.length : Int) _ P.out Ggl.out (by have := HLS.out; omega)).mono ?_); rintro e w10 ⟨rfl, hp⟩; obtain ⟨ls5, el_⟩ : ∃ l : List Int, l = ls ++ [(l0_6.length : Int) % 4294967296] := ⟨_, rfl⟩; rw [← el_] at hp; have Els5 := Aside0.mk el_; clear el_; have n_ := Aside0.mk hp; clear P; (try clear k0_ k1_ k2_ k3_ k4_ k5_ k6_ k7_); clear hp; have P := n_; clear n_; obtain ⟨k0_, k1_, k2_, k3_, k4_, k5_, k6_, k7_⟩ := cells8c P.out.kr))
        have HLS5 := Aside0.mk (show ls5.length ≤ 28 by rw [Els5.out, List.length_append]; have := HLS.out; show _ + 1 ≤ _; omega)
        go_loopg [50] l0_6.length (fun kq v50 w' => ∃ (j : Nat) (ls : List Int), v50 = .int .i64 (j : Int) ∧ Aside0 (j + kq = l0_6.length) ∧ Aside0 (ls = ls5 ++ (l0_6.take j).flatMap dig4) ∧ Aside0 (PutSt w gr gl #[.int .i64 a0_0, .int .u32 a0_1, .int .u32 a0_2, .int .u32 a0_3, .int .u32 a0_4, .slice A0_5 l0_5.length c0_5, .slice A0_6 l0_6.length c0_6, .int .i64 a0_7] ls w'))
        case atStart => exact ⟨0, ls5, by first | rfl | (simp; done), ⟨by omega⟩, ⟨by simp⟩, P⟩
        case round =>
          clear P k0_ k1_ k2_ k3_ k4_ k5_ k6_ k7_
          clear c35 c35n HLS
          have HE5 := HE
          clear HE
          obtain ⟨j, ls, rfl, HA, HE, P⟩ := hrel
          have HLS := Aside0.mk (show ls.length ≤ 108 by rw [HE.out, List.length_append, flat_length, List.length_take]; have := HLS5.out; have := HS.out.2; (try simp only at this); omega)
          by_cases hj : j < l0_6.length
          · obtain ⟨kp, rfl⟩ : ∃ kp, gk = kp + 1 := ⟨gk - 1, by have := HA.out; omega⟩
            have c51 : decide ((j : Int) < (l0_6.length : Int)) = true := decide_eq_true (by omega)
            have p0_ : (0 : Int) ≤ (j : Int) := by omega
            have p1_ : (j : Int) < (l0_6.length : Int) := by omega
            have hwj : wrap64 ((j : Int) + 1) = (j : Int) + 1 := by have := HS.out.2; unfold wrap64; omega
            have htk := take_d l0_6 j hj
            have HTK := Aside0.mk htk
            have HJ := Aside0.mk hj
            clear htk hj
            obtain ⟨ad, rfl, hx0, hx1, hx2, hx3⟩ := at_T24 HR6.out (j : Int) p0_ p1_
            rw [Int.toNat_natCast] at hx0 hx1 hx2 hx3
            replace hx0 := (P.out.hb.cell (World.block_lt_of_cell? w _ hx0)).trans hx0
            replace hx1 := (P.out.hb.cell (World.block_lt_of_cell? w _ hx1)).trans hx1
            replace hx2 := (P.out.hb.cell (World.block_lt_of_cell? w _ hx2)).trans hx2
            replace hx3 := (P.out.hb.cell (World.block_lt_of_cell? w _ hx3)).trans hx3
            replace p0_ := eq_true p0_
            replace p1_ := eq_true p1_
            generalize rd_T24 l0_6 (j : Int) = dg at hx0 hx1 hx2 hx3 HTK
            go_wp2_with (first | ((with_reducible refine gate_dst (N := 9) rfl ?_); refine box_event ?hg (N := 9) ?hd (cs := #[.int .u32 0, .int .u32 0, .int .u32 0, .int .u32 0]) (t := 24) ?hr ?_; (case hd => rfl); (case hg => rfl); (case hr => first | (go_simp; done) | (go_simp; rfl)); intro gd hg w11 hbox hb; have n2_ := Aside0.mk ((by rw [hg]; exact (below_size P.out.hb)) : w.heap.size ≤ gd); have n_ := Aside0.mk (P.out.below hb); clear P; have P := n_; have Kgd := Aside0.mk hbox; have Ggd := n2_; clear n_ n2_ hb hbox hg hx0 hx1 hx2 hx3 p0_ p1_; have d0_ : w11.cell? ⟨gd, 0, none⟩ = some (.int .u32 0) := (blk_cell Kgd.out 0).trans rfl; have f0_ := blk_frozen Kgd.out 0; have d1_ : w11.cell? ⟨gd, 1, none⟩ = some (.int .u32 0) := (blk_cell Kgd.out 1).trans rfl; have f1_ := blk_frozen Kgd.out 1; have d2_ : w11.cell? ⟨gd, 2, none⟩ = some (.int .u32 0) := (blk_cell Kgd.out 2).trans rfl; have f2_ := blk_frozen Kgd.out 2; have d3_ : w11.cell? ⟨gd, 3, none⟩ = some (.int .u32 0) := (blk_cell Kgd.out 3).trans rfl; have f3_ := blk_frozen Kgd.out 3))
            refine wp_gen (fun w' => PutSt w gr gl #[.int .i64 a0_0, .int .u32 a0_1, .int .u32 a0_2, .int .u32 a0_3, .int .u32 a0_4, .slice A0_5 l0_5.length c0_5, .slice (some ad) l0_6.length c0_6, .int .i64 a0_7] ls w' ∧ w'.heap[gd]? = some (.cells #[.int .u32 (dg.f0), .int .u32 (dg.f1), .int .u32 (dg.f2), .int .u32 (dg.f3)] 24 (0, 0))) ⟨P.out.set24x4 Kgd.out Ggd.out _ _ _ _, (Eq.trans (by (with_reducible repeat (first | exact Kgd.out | apply blk_set))) (by first | rfl))⟩ ?_
            intro w12 hp
            clear P Kgd d0_ f0_ d1_ f1_ d2_ f2_ d3_ f3_
            have P := Aside0.mk hp.1
            have Kgd := Aside0.mk hp.2
            clear hp
            obtain ⟨Ab, cb, kb_, rb_⟩ := P.out.drew.kl
            have KD := Aside0.mk kb_
            have RD := Aside0.mk rb_
            have BD := Aside0.mk P.out.drew.hb
            have QD := Aside0.mk P.out.drew.kr
            clear kb_ rb_
            have KE := Aside0.mk (blk_drew Kgd.out)
            clear Kgd
            refine start_ (n := 4) (S := fun w' => w'.heap[gl]? = some (.cells #[.slice Ab ls.length cb] 60 (0, 0))) (ds := [3]) #[false, false, false, false] (by kernel_rfl) rfl rfl KD.out (fun hHeld => ?_)
            refine pure_ (i := 1) (N := (some 55)) (v := ?_) (a' := ?_) #[false, true, false, false] rfl rfl (by kernel_rfl) (fun _ _ _ h => h) (Or.inl ⟨by rfl, ?_⟩) ?_ ?_
            rotate_left
            · intro w'
              go_simp
              with_reducible rfl
            rotate_left
            · simp only [Act.put, List.setIfInBounds_toArray, List.set_cons_zero, List.set_cons_succ, i64_w, i32_w]
              rfl
            refine take_ (i := 0) (N := (some 54)) (v := ?_) (a' := ?_) #[true, true, false, false] rfl rfl (by kernel_rfl) (fun _ _ _ h => h) (Or.inl ⟨by rfl, ?_⟩) hHeld ?_ ?_
            rotate_left
            · intro w' hS_
              have cz_ := (blk_cell hS_ 0).trans rfl
              go_simp
              with_reducible rfl
            rotate_left
            · simp only [Act.put, List.setIfInBounds_toArray, List.set_cons_zero, List.set_cons_succ, i64_w, i32_w]
              rfl
            refine one_ (i := 2) (N := (some 56)) #[true, true, true, false] rfl rfl (by kernel_rfl) (by decide) (fun K hK => ?_)
            refine Kd.R_append_rows_step (Kd.int .u32) (Rr := fun (x : Int) (cs : List Value) => cs = [Value.int .u32 x]) (w0 := w) w.heap.size ?hw (.tmp 54) (.tmp 55) 60 22 (.int .u32 0) 4 rfl Tryd.underlying60 info22 rfl (by decide) (by omega) (.slice Ab ls.length cb) ls [dg.f0, dg.f1, dg.f2, dg.f3] (some ⟨gd, 0, none⟩) 4 4 (fun _ => True) (fun _ => False) rfl rfl RD.out (reads4 KE.out dg.f0 dg.f1 dg.f2 dg.f3 rfl rfl rfl rfl) (fun _ _ h => h) (fun _ h => h.elim) (fun _ _ => trivial) BD.out (below_size BD.out) (by have := HLS.out; omega) ?_; (case hw => rfl)
            intro v1 w1 ho hb hg hat
            obtain ⟨A1, c1, e1⟩ := Kd.R_slice ho
            subst e1
            obtain ⟨ls', el_⟩ : ∃ l : List Int, l = ls ++ [dg.f0, dg.f1, dg.f2, dg.f3] := ⟨_, rfl⟩
            rw [← el_] at ho ⊢
            have Els' := Aside0.mk el_
            have NO := Aside0.mk ho
            have NB := Aside0.mk hb
            have NG := Aside0.mk hg
            clear ho hb hg hat el_
            refine hK.out _ _ (blk_grown KD.out NG.out (Kd.R_ne RD.out KD.out (by decide))) (fun hHeld => ?_)
            clear hK K
            refine norm_ (a' := ?_) ?_ ?_
            rotate_left
            · show Act.put _ (some 56) _ = _
              simp only [Act.put, List.setIfInBounds_toArray, List.set_cons_zero, List.set_cons_succ, i64_w, i32_w]
              rfl
            refine last_ (i := 3) (N := none) #[true, true, true, true] rfl rfl (by kernel_rfl) (by decide) (fun K hK => ?_)
            have cz_ := (blk_cell hHeld 0).trans rfl
            have fz_ := blk_frozen hHeld 0
            refine store1 (w1 := ?w1_18) ?hg ?hN ?hr ?_; (case hg => rfl); (case hN => rfl); (case hr => first | (go_simp; done) | (go_simp; rfl))
            refine hK.out _ _ ?_
            clear hK K cz_ fz_
            refine done_ (by kernel_rfl) ?_
            clear hHeld
            refine gen_q (fun w' => PutSt w gr gl #[.int .i64 a0_0, .int .u32 a0_1, .int .u32 a0_2, .int .u32 a0_3, .int .u32 a0_4, .slice A0_5 l0_5.length c0_5, .slice (some ad) l0_6.length c0_6, .int .i64 a0_7] ls' w') (PutSt.stored Ggl.out QD.out KD.out RD.out NB.out NG.out NO.out) ?_
            intro w13 hp
            clear P
            have P := Aside0.mk hp
            clear hp KD RD BD QD NB NG NO KE
            go_wp2
            go_roundg kp
            case measure => omega
            case rel => exact ⟨j + 1, ls', by first | rfl | (simp; done) | go_num, ⟨by have := HA.out; omega⟩, ⟨by rw [Els'.out, HE.out, HTK.out, List.append_assoc]; rfl⟩, P⟩
          · have hje : j = l0_6.length := by have := HA.out; omega
            have c51 : decide ((j : Int) < (l0_6.length : Int)) = false := decide_eq_false (by omega)
            have c51n : decide (j < l0_6.length) = false := decide_eq_false (by omega)
            have hE := HE.out
            rw [hje, List.take_length, Els5.out, HE5.out, Els4.out, Els3.out, Els2.out, Els1.out] at hE
            have hW : ls = WS := by
              rw [hE, HWS.out]
              unfold Rec.words m32
              simp
            clear HE hj hje HA hE
            subst hW
            obtain ⟨Ab, cb, kb_, rb_⟩ := P.out.kl
            have RB := Aside0.mk rb_
            have k9_ := (blk_cell kb_ 0).trans rfl
            clear rb_ kb_
            go_wp2_with (first | ((go_at_call 45); (refine (word_Bytes.calls 200 Ab cb ls bs _ (Kd.R_reads' RB.out).2.2 (Kd.R_reads' RB.out).2.1 HWB.out).mono ?_); rintro e w14 ⟨rfl, hb⟩; have HBZ := Aside0.mk (below_step P.out.hb hb); clear hb))
            go_ret2
            obtain ⟨e1_, e2_⟩ := H12.out
            subst e1_
            subst e2_
            exact ⟨rfl, HBZ.out⟩
  · obtain ⟨rfl, rfl⟩ : r1 = (⟨#[]⟩ : ByteArray) ∧ r2 = 1 := by
      unfold putS at hF
      rw [if_neg hrt] at hF
      simp only [Prod.mk.injEq] at hF
      exact ⟨hF.1.symm, hF.2.symm⟩
    have HF := Aside0.mk (show recipe_Right.f 10 a0_0 a0_1 a0_2 a0_3 a0_4 l0_5 l0_6 a0_7 = some false by rw [right_of a0_0 a0_1 a0_2 a0_3 a0_4 l0_5 l0_6 a0_7 6, decide_eq_false hrt])
    clear hF hrt
    go_enter Tryd.func34, Tryd.ntmps34
    go_wp2_with (first | ((with_reducible refine gate_dst (N := 1) rfl ?_); refine box_event ?hg (N := 1) ?hd (cs := #[.int .i64 a0_0, .int .u32 a0_1, .int .u32 a0_2, .int .u32 a0_3, .int .u32 a0_4, .slice A0_5 l0_5.length c0_5, .slice A0_6 l0_6.length c0_6, .int .i64 a0_7]) (t := 46) ?hr ?_; (case hd => rfl); (case hg => rfl); (case hr => first | (go_simp; done) | (go_simp; rfl)); intro gr hg w2 hbox hb; have n0_ := Aside0.mk (below_step (by repeat (first | (with_reducible first | exact HB.out | apply below_alloc | apply pw_below_drewN | apply below_drew1) | exact HB.out)) hb); have n1_ := Aside0.mk hbox; have n2_ := Aside0.mk ((by rw [hg]; exact (below_size HB.out)) : w.heap.size ≤ gr); clear HB; have HB := n0_; have Kgr := n1_; have Ggr := n2_; clear n0_ n1_ n2_ hb hbox hg; obtain ⟨k0_, k1_, k2_, k3_, k4_, k5_, k6_, k7_⟩ := cells8c Kgr.out) | ((go_at_call 42); (refine (recipe_Right.calls 10 a0_0 a0_1 a0_2 a0_3 a0_4 A0_5 c0_5 l0_5 A0_6 c0_6 l0_6 a0_7 false _ (Kd.C_below HR5.out (by repeat (first | (with_reducible first | exact HB.out | apply below_alloc | apply pw_below_drewN | apply below_drew1) | exact HB.out))) HC5.out (Kd.C_below HR6.out (by repeat (first | (with_reducible first | exact HB.out | apply below_alloc | apply pw_below_drewN | apply below_drew1) | exact HB.out))) HC6.out HF.out).mono ?_); rintro e w3 ⟨rfl, hb⟩; have n0_ := Aside0.mk (below_step (by repeat (first | (with_reducible first | exact HB.out | apply below_alloc | apply pw_below_drewN | apply below_drew1) | exact HB.out)) hb); have n1_ := Aside0.mk (blk_below (g := gr) (o := .cells #[.int .i64 a0_0, .int .u32 a0_1, .int .u32 a0_2, .int .u32 a0_3, .int .u32 a0_4, .slice A0_5 l0_5.length c0_5, .slice A0_6 l0_6.length c0_6, .int .i64 a0_7] 46 (0, 0)) Kgr.out hb); clear k0_ k1_ k2_ k3_ k4_ k5_ k6_ k7_; clear HB Kgr hb; have HB := n0_; have Kgr := n1_; clear n0_ n1_))
    go_ret2
    exact ⟨rfl, HB.out⟩


end

section
attribute [local go_sem high] eqA24
/-! ### recipe_Of: function 36 -/
def recipe_Of.f (k : Nat) (a0_0 : Int) (a0_1 : Int) (a0_2 : Int) (a0_3 : Int) (a0_4 : Int) (l0_5 : List Int) (l0_6 : List (S24)) (a0_7 : Int) : Option (Int × Int × Int × Int × Int) := (recipe_Put.f a0_0 a0_1 a0_2 a0_3 a0_4 l0_5 l0_6 a0_7).bind fun bt427 => (if bt427.2 = 0 then ((digest_Of.f k bt427.1).bind fun bt429 => ((digest_Of.f k (⟨#[114, 101, 99, 105, 112, 101]⟩ : ByteArray)).bind fun bt433 => ((digest_Pair.f bt429.1 bt429.2.1 bt429.2.2.1 bt429.2.2.2 bt433.1 bt433.2.1 bt433.2.2.1 bt433.2.2.2).bind fun bt437 => (some (bt437.1, bt437.2.1, bt437.2.2.1, bt437.2.2.2, 0))))) else (some (0, 0, 0, 0, bt427.2)))
theorem recipe_Of.mono : ∀ a0 a1 a2 a3 a4 a5 a6 a7 k, LeO (recipe_Of.f k a0 a1 a2 a3 a4 a5 a6 a7) (recipe_Of.f (k + 1) a0 a1 a2 a3 a4 a5 a6 a7) := by
  intro a0 a1 a2 a3 a4 a5 a6 a7 k
  unfold recipe_Of.f
  repeat' first
      | (with_reducible exact digest_Of.mono _ _)
      | (with_reducible exact LeO.refl _)
      | (with_reducible exact LeO.none _)
      | (with_reducible refine LeO.ite ?_ ?_)
      | (with_reducible refine LeO.bind ?_ (fun _ => ?_))
      | exact digest_Of.mono _ _
      | exact LeO.none _
      | refine LeO.ite ?_ ?_
      | refine LeO.bind ?_ (fun _ => ?_)
set_option maxHeartbeats 8000000 in
set_option maxRecDepth 100000 in
theorem recipe_Of.calls (k : Nat) (a0_0 : Int) (a0_1 : Int) (a0_2 : Int) (a0_3 : Int) (a0_4 : Int) (A0_5 : Option Addr) (c0_5 : Nat) (l0_5 : List Int) (A0_6 : Option Addr) (c0_6 : Nat) (l0_6 : List (S24)) (a0_7 : Int) (r1 : Int) (r2 : Int) (r3 : Int) (r4 : Int) (r5 : Int) (w : World) (hr0_5 : Kd.C (Kd.int .i64) w A0_5 l0_5.length l0_5) (hc0_5 : l0_5.length ≤ c0_5) (hr0_6 : Kd.C k24 w A0_6 l0_6.length l0_6) (hc0_6 : l0_6.length ≤ c0_6) (h : recipe_Of.f k a0_0 a0_1 a0_2 a0_3 a0_4 l0_5 l0_6 a0_7 = some (r1, r2, r3, r4, r5)) (htb_ : Tab w) :
    Calls Tryd.prog 36 #[.agg #[.int .i64 a0_0, .int .u32 a0_1, .int .u32 a0_2, .int .u32 a0_3, .int .u32 a0_4, .slice A0_5 l0_5.length c0_5, .slice A0_6 l0_6.length c0_6, .int .i64 a0_7]] w fun e w' => e = .returned (.tuple #[.agg #[.int .u32 r1, .int .u32 r2, .int .u32 r3, .int .u32 r4], .int .i64 r5]) ∧ Below w.heap.size w w' := by
  have HTB := Aside0.mk htb_
  clear htb_
  have hu46 := Tryd.underlying46
  have hu24 := Tryd.underlying24
  have HR0_5 := Aside0.mk hr0_5
  have HC0_5 := Aside0.mk hc0_5
  clear hr0_5 hc0_5
  have HR0_6 := Aside0.mk hr0_6
  have HC0_6 := Aside0.mk hc0_6
  clear hr0_6 hc0_6
  have HB := Aside0.mk (Below.refl w.heap.size w)
  have H : ((recipe_Put.f a0_0 a0_1 a0_2 a0_3 a0_4 l0_5 l0_6 a0_7).bind fun bt427 => (if bt427.2 = 0 then ((digest_Of.f k bt427.1).bind fun bt429 => ((digest_Of.f k (⟨#[114, 101, 99, 105, 112, 101]⟩ : ByteArray)).bind fun bt433 => ((digest_Pair.f bt429.1 bt429.2.1 bt429.2.2.1 bt429.2.2.2 bt433.1 bt433.2.1 bt433.2.2.1 bt433.2.2.2).bind fun bt437 => (some (bt437.1, bt437.2.1, bt437.2.2.1, bt437.2.2.2, 0))))) else (some (0, 0, 0, 0, bt427.2)))) = some (r1, r2, r3, r4, r5) := h
  clear h
  replace H := Option.bind_eq_some_iff.mp H
  obtain ⟨⟨t427, t428⟩, A20, H⟩ := H
  replace H : (if t428 = 0 then ((digest_Of.f k t427).bind fun bt429 => ((digest_Of.f k (⟨#[114, 101, 99, 105, 112, 101]⟩ : ByteArray)).bind fun bt433 => ((digest_Pair.f bt429.1 bt429.2.1 bt429.2.2.1 bt429.2.2.2 bt433.1 bt433.2.1 bt433.2.2.1 bt433.2.2.2).bind fun bt437 => (some (bt437.1, bt437.2.1, bt437.2.2.1, bt437.2.2.2, 0))))) else (some (0, 0, 0, 0, t428))) = some (r1, r2, r3, r4, r5) := H
  have A2 := Aside0.mk A20
  clear A20
  by_cases c3 : t428 = 0
  · rw [if_pos c3] at H
    have c3b0 : (t428 == 0) = true := beq_iff_eq.mpr c3
    have c3b1 : (t428 != 0) = false := bne_eq_false_iff_eq.mpr c3
    clear c3
    replace H := Option.bind_eq_some_iff.mp H
    obtain ⟨⟨t429, t430, t431, t432⟩, A40, H⟩ := H
    replace H : ((digest_Of.f k (⟨#[114, 101, 99, 105, 112, 101]⟩ : ByteArray)).bind fun bt433 => ((digest_Pair.f t429 t430 t431 t432 bt433.1 bt433.2.1 bt433.2.2.1 bt433.2.2.2).bind fun bt437 => (some (bt437.1, bt437.2.1, bt437.2.2.1, bt437.2.2.2, 0)))) = some (r1, r2, r3, r4, r5) := H
    have A4 := Aside0.mk A40
    clear A40
    replace H := Option.bind_eq_some_iff.mp H
    obtain ⟨⟨t433, t434, t435, t436⟩, A50, H⟩ := H
    replace H : ((digest_Pair.f t429 t430 t431 t432 t433 t434 t435 t436).bind fun bt437 => (some (bt437.1, bt437.2.1, bt437.2.2.1, bt437.2.2.2, 0))) = some (r1, r2, r3, r4, r5) := H
    have A5 := Aside0.mk A50
    clear A50
    replace H := Option.bind_eq_some_iff.mp H
    obtain ⟨⟨t437, t438, t439, t440⟩, A60, H⟩ := H
    replace H : (some (t437, t438, t439, t440, 0)) = some (r1, r2, r3, r4, r5) := H
    have A6 := Aside0.mk A60
    clear A60
    simp only [Option.some.injEq, Prod.mk.injEq] at H
    obtain ⟨rfl, rfl, rfl, rfl, rfl⟩ := H
    go_enter Tryd.func36, Tryd.ntmps36
    go_wp2_with (first | ((with_reducible refine gate_dst (N := 1) rfl ?_); refine box_event ?hg (N := 1) ?hd (cs := #[.int .i64 a0_0, .int .u32 a0_1, .int .u32 a0_2, .int .u32 a0_3, .int .u32 a0_4, .slice A0_5 l0_5.length c0_5, .slice A0_6 l0_6.length c0_6, .int .i64 a0_7]) (t := 46) ?hr ?_; (case hd => rfl); (case hg => rfl); (case hr => first | (go_simp; done) | (go_simp; rfl)); intro gb425 hg w7 hbox hb; have n0_ := Aside0.mk (below_step (by repeat (first | (with_reducible first | exact HB.out | apply below_alloc | apply pw_below_drewN | apply below_drew1) | exact HB.out)) hb); have n1_ := Aside0.mk (hbox); have n2_ := Aside0.mk ((by rw [hg]; exact (below_size (by repeat (first | (with_reducible first | exact HB.out | apply below_alloc | apply pw_below_drewN | apply below_drew1) | exact HB.out))) : w.heap.size ≤ gb425)); have n3_ := n2_; clear HB; have HB := n0_; have BK425 := n1_; have GW425 := n2_; have GE425 := n3_; clear n0_ n1_ n2_ n3_; clear hb hbox hg) | ((with_reducible refine gate_dst (N := 2) rfl ?_); refine box_event ?hg (N := 2) ?hd (cs := #[.int .u32 0, .int .u32 0, .int .u32 0, .int .u32 0]) (t := 24) ?hr ?_; (case hd => rfl); (case hg => rfl); (case hr => first | (go_simp; done) | (go_simp; rfl)); intro gb426 hg w8 hbox hb; have n0_ := Aside0.mk (blk_below (g := gb425) (by (with_reducible repeat (first | refine blk_drewN ?_ _ | refine blk_drew ?_ | refine blk_alloc ?_ _)); exact BK425.out) hb); have n1_ := Aside0.mk (below_step (by repeat (first | (with_reducible first | exact HB.out | apply below_alloc | apply pw_below_drewN | apply below_drew1 | refine below_set ?_ GE425.out) | exact HB.out)) hb); have n2_ := Aside0.mk (hbox); have n3_ := Aside0.mk ((by rw [hg]; exact (below_size (by repeat (first | (with_reducible first | exact HB.out | apply below_alloc | apply pw_below_drewN | apply below_drew1 | refine below_set ?_ GE425.out) | exact HB.out))) : w.heap.size ≤ gb426)); have n4_ := n3_; have n5_ := Aside0.mk ((by rw [hg]; exact Nat.ne_of_lt (blk_lt (g := gb425) (o := .cells #[.int .i64 a0_0, .int .u32 a0_1, .int .u32 a0_2, .int .u32 a0_3, .int .u32 a0_4, .slice A0_5 l0_5.length c0_5, .slice A0_6 l0_6.length c0_6, .int .i64 a0_7] 46 (0, 0)) (by (with_reducible repeat (first | refine blk_drewN ?_ _ | refine blk_drew ?_ | refine blk_alloc ?_ _)); exact BK425.out)) : gb425 ≠ gb426)); have n6_ := Aside0.mk n5_.out.symm; clear BK425; clear HB; have BK425 := n0_; have HB := n1_; have BK426 := n2_; have GW426 := n3_; have GE426 := n4_; have NB425_426 := n5_; have NB426_425 := n6_; clear n0_ n1_ n2_ n3_ n4_ n5_ n6_; clear hb hbox hg; have hnb9 := NB425_426.out; have hnc9 := NB426_425.out; obtain ⟨hcz10_0, hcz10_1, hcz10_2, hcz10_3, hcz10_4, hcz10_5, hcz10_6, hcz10_7, hfz10_0, hfz10_1, hfz10_2, hfz10_3, hfz10_4, hfz10_5, hfz10_6, hfz10_7⟩ := HX.cells8 BK425.out) | ((with_reducible refine gate_callee (f := 34) rfl ?_); refine goesL_ (some 8) rfl rfl Tryd.func34 (by kernel_rfl) rfl #[.agg #[.int .i64 a0_0, .int .u32 a0_1, .int .u32 a0_2, .int .u32 a0_3, .int .u32 a0_4, .slice A0_5 l0_5.length c0_5, .slice A0_6 l0_6.length c0_6, .int .i64 a0_7]] rfl (by (try simp only [List.map_toArray, List.map_cons, List.map_nil]); first | done | rfl | (simp only [List.length_drop, List.length_take]; rfl)) ?_; (with_reducible refine (recipe_Put.calls a0_0 a0_1 a0_2 a0_3 a0_4 _ _ l0_5 _ _ l0_6 a0_7 t427 t428 _ ?side1 ?side2 ?side3 ?side4 A2.out).mono ?_); (case side1 => repeat (first | exact (Kd.C_below HR0_5.out HB.out) | (with_reducible refine Kd.C_alloc ?_ _) | (with_reducible refine Kd.C_drewN ?_ _) | (with_reducible refine Kd.C_drew ?_))); (case side2 => exact HC0_5.out); (case side3 => repeat (first | exact (Kd.C_below HR0_6.out HB.out) | (with_reducible refine Kd.C_alloc ?_ _) | (with_reducible refine Kd.C_drewN ?_ _) | (with_reducible refine Kd.C_drew ?_))); (case side4 => exact HC0_6.out); rintro e w11 ⟨rfl, hb⟩; refine ⟨_, rfl, ?_⟩; have n0_ := Aside0.mk (blk_below (g := gb425) (by (with_reducible repeat (first | refine blk_drewN ?_ _ | refine blk_drew ?_ | refine blk_alloc ?_ _)); exact BK425.out) hb); have n1_ := Aside0.mk (blk_below (g := gb426) (by (with_reducible repeat (first | refine blk_drewN ?_ _ | refine blk_drew ?_ | refine blk_alloc ?_ _)); exact BK426.out) hb); have n2_ := Aside0.mk (below_step (by repeat (first | (with_reducible first | exact HB.out | apply below_alloc | apply pw_below_drewN | apply below_drew1 | refine below_set ?_ GE425.out | refine below_set ?_ GE426.out) | exact HB.out)) hb); clear BK425; clear BK426; clear HB; have BK425 := n0_; have BK426 := n1_; have HB := n2_; clear n0_ n1_ n2_; (try clear hb); (try clear hb2); (try clear hk); (try clear hi)) | ((with_reducible refine gate_callee (f := 18) rfl ?_); refine goesL_ (some 16) rfl rfl Tryd.func18 (by kernel_rfl) rfl #[.string t427] rfl (by (try simp only [List.map_toArray, List.map_cons, List.map_nil]); first | done | rfl | (simp only [List.length_drop, List.length_take]; rfl)) ?_; (with_reducible refine (digest_Of.calls k t427 t429 t430 t431 t432 _ A4.out (Tab.below HTB.out (by repeat (first | (with_reducible first | exact HB.out | apply below_alloc | apply pw_below_drewN | apply below_drew1 | refine below_set ?_ GE425.out | refine below_set ?_ GE426.out) | exact HB.out)))).mono ?_); rintro e w12 ⟨rfl, hb⟩; refine ⟨_, rfl, ?_⟩; have n0_ := Aside0.mk (blk_below (g := gb425) (by (with_reducible repeat (first | refine blk_drewN ?_ _ | refine blk_drew ?_ | refine blk_alloc ?_ _)); exact BK425.out) hb); have n1_ := Aside0.mk (blk_below (g := gb426) (by (with_reducible repeat (first | refine blk_drewN ?_ _ | refine blk_drew ?_ | refine blk_alloc ?_ _)); exact BK426.out) hb); have n2_ := Aside0.mk (below_step (by repeat (first | (with_reducible first | exact HB.out | apply below_alloc | apply pw_below_drewN | apply below_drew1 | refine below_set ?_ GE425.out | refine below_set ?_ GE426.out) | exact HB.out)) hb); clear BK425; clear BK426; clear HB; have BK425 := n0_; have BK426 := n1_; have HB := n2_; clear n0_ n1_ n2_; (try clear hb); (try clear hb2); (try clear hk); (try clear hi)) | ((with_reducible refine gate_callee (f := 18) rfl ?_); refine goesL_ (some 17) rfl rfl Tryd.func18 (by kernel_rfl) rfl #[.string (⟨#[114, 101, 99, 105, 112, 101]⟩ : ByteArray)] rfl (by (try simp only [List.map_toArray, List.map_cons, List.map_nil]); first | done | rfl | (simp only [List.length_drop, List.length_take]; rfl)) ?_; (with_reducible refine (digest_Of.calls k (⟨#[114, 101, 99, 105, 112, 101]⟩ : ByteArray) t433 t434 t435 t436 _ A5.out (Tab.below HTB.out (by repeat (first | (with_reducible first | exact HB.out | apply below_alloc | apply pw_below_drewN | apply below_drew1 | refine below_set ?_ GE425.out | refine below_set ?_ GE426.out) | exact HB.out)))).mono ?_); rintro e w13 ⟨rfl, hb⟩; refine ⟨_, rfl, ?_⟩; have n0_ := Aside0.mk (blk_below (g := gb425) (by (with_reducible repeat (first | refine blk_drewN ?_ _ | refine blk_drew ?_ | refine blk_alloc ?_ _)); exact BK425.out) hb); have n1_ := Aside0.mk (blk_below (g := gb426) (by (with_reducible repeat (first | refine blk_drewN ?_ _ | refine blk_drew ?_ | refine blk_alloc ?_ _)); exact BK426.out) hb); have n2_ := Aside0.mk (below_step (by repeat (first | (with_reducible first | exact HB.out | apply below_alloc | apply pw_below_drewN | apply below_drew1 | refine below_set ?_ GE425.out | refine below_set ?_ GE426.out) | exact HB.out)) hb); clear BK425; clear BK426; clear HB; have BK425 := n0_; have BK426 := n1_; have HB := n2_; clear n0_ n1_ n2_; (try clear hb); (try clear hb2); (try clear hk); (try clear hi)) | ((with_reducible refine gate_callee (f := 28) rfl ?_); refine goesL_ (some 18) rfl rfl Tryd.func28 (by kernel_rfl) rfl #[.agg #[.int .u32 t429, .int .u32 t430, .int .u32 t431, .int .u32 t432], .agg #[.int .u32 t433, .int .u32 t434, .int .u32 t435, .int .u32 t436]] rfl (by (try simp only [List.map_toArray, List.map_cons, List.map_nil]); first | done | rfl | (simp only [List.length_drop, List.length_take]; rfl)) ?_; (with_reducible refine (digest_Pair.calls t429 t430 t431 t432 t433 t434 t435 t436 t437 t438 t439 t440 _ A6.out (Tab.below HTB.out (by repeat (first | (with_reducible first | exact HB.out | apply below_alloc | apply pw_below_drewN | apply below_drew1 | refine below_set ?_ GE425.out | refine below_set ?_ GE426.out) | exact HB.out)))).mono ?_); rintro e w14 ⟨rfl, hb⟩; refine ⟨_, rfl, ?_⟩; have n0_ := Aside0.mk (blk_below (g := gb425) (by (with_reducible repeat (first | refine blk_drewN ?_ _ | refine blk_drew ?_ | refine blk_alloc ?_ _)); exact BK425.out) hb); have n1_ := Aside0.mk (blk_below (g := gb426) (by (with_reducible repeat (first | refine blk_drewN ?_ _ | refine blk_drew ?_ | refine blk_alloc ?_ _)); exact BK426.out) hb); have n2_ := Aside0.mk (below_step (by repeat (first | (with_reducible first | exact HB.out | apply below_alloc | apply pw_below_drewN | apply below_drew1 | refine below_set ?_ GE425.out | refine below_set ?_ GE426.out) | exact HB.out)) hb); clear BK425; clear BK426; clear HB; have BK425 := n0_; have BK426 := n1_; have HB := n2_; clear n0_ n1_ n2_; (try clear hb); (try clear hb2); (try clear hk); (try clear hi); obtain ⟨hcz15_0, hcz15_1, hcz15_2, hcz15_3, hfz15_0, hfz15_1, hfz15_2, hfz15_3⟩ := HX.cells4 BK426.out))
    refine bodyPost_ret (results_ct rfl _ _ gb426 24 #[.int .u32 t437, .int .u32 t438, .int .u32 t439, .int .u32 t440] (0, 0) _ rfl (by (with_reducible repeat (first | refine blk_drewN ?_ _ | refine blk_drew ?_ | refine blk_alloc ?_ _)); refine blk_put (cs := #[.int .u32 t437, .int .u32 t438, .int .u32 t439, .int .u32 0]) ?_ 3 _ rfl; (with_reducible repeat (first | refine blk_drewN ?_ _ | refine blk_drew ?_ | refine blk_alloc ?_ _)); refine blk_put (cs := #[.int .u32 t437, .int .u32 t438, .int .u32 0, .int .u32 0]) ?_ 2 _ rfl; (with_reducible repeat (first | refine blk_drewN ?_ _ | refine blk_drew ?_ | refine blk_alloc ?_ _)); refine blk_put (cs := #[.int .u32 t437, .int .u32 0, .int .u32 0, .int .u32 0]) ?_ 1 _ rfl; (with_reducible repeat (first | refine blk_drewN ?_ _ | refine blk_drew ?_ | refine blk_alloc ?_ _)); refine blk_put (cs := #[.int .u32 0, .int .u32 0, .int .u32 0, .int .u32 0]) ?_ 0 _ rfl; (with_reducible repeat (first | refine blk_drewN ?_ _ | refine blk_drew ?_ | refine blk_alloc ?_ _)); exact BK426.out) Tryd.underlying24 rfl (by kernel_rfl)) rfl ?_
    exact ⟨by first | rfl | (simp [errW_none, errW_some] <;> rfl) | (simp [*, errW_none, errW_some] <;> rfl), by repeat (first | (with_reducible first | exact HB.out | apply below_alloc | apply pw_below_drewN | apply below_drew1 | refine below_set ?_ GE425.out | refine below_set ?_ GE426.out) | exact HB.out)⟩
  · rw [if_neg c3] at H
    have c3b0 : (t428 == 0) = false := beq_eq_false_iff_ne.mpr c3
    have c3b1 : (t428 != 0) = true := bne_iff_ne.mpr c3
    simp only [Option.some.injEq, Prod.mk.injEq] at H
    obtain ⟨rfl, rfl, rfl, rfl, rfl⟩ := H
    go_enter Tryd.func36, Tryd.ntmps36
    go_wp2_with (first | ((with_reducible refine gate_dst (N := 1) rfl ?_); refine box_event ?hg (N := 1) ?hd (cs := #[.int .i64 a0_0, .int .u32 a0_1, .int .u32 a0_2, .int .u32 a0_3, .int .u32 a0_4, .slice A0_5 l0_5.length c0_5, .slice A0_6 l0_6.length c0_6, .int .i64 a0_7]) (t := 46) ?hr ?_; (case hd => rfl); (case hg => rfl); (case hr => first | (go_simp; done) | (go_simp; rfl)); intro gb425 hg w16 hbox hb; have n0_ := Aside0.mk (below_step (by repeat (first | (with_reducible first | exact HB.out | apply below_alloc | apply pw_below_drewN | apply below_drew1) | exact HB.out)) hb); have n1_ := Aside0.mk (hbox); have n2_ := Aside0.mk ((by rw [hg]; exact (below_size (by repeat (first | (with_reducible first | exact HB.out | apply below_alloc | apply pw_below_drewN | apply below_drew1) | exact HB.out))) : w.heap.size ≤ gb425)); have n3_ := n2_; clear HB; have HB := n0_; have BK425 := n1_; have GW425 := n2_; have GE425 := n3_; clear n0_ n1_ n2_ n3_; clear hb hbox hg) | ((with_reducible refine gate_dst (N := 2) rfl ?_); refine box_event ?hg (N := 2) ?hd (cs := #[.int .u32 0, .int .u32 0, .int .u32 0, .int .u32 0]) (t := 24) ?hr ?_; (case hd => rfl); (case hg => rfl); (case hr => first | (go_simp; done) | (go_simp; rfl)); intro gb426 hg w17 hbox hb; have n0_ := Aside0.mk (blk_below (g := gb425) (by (with_reducible repeat (first | refine blk_drewN ?_ _ | refine blk_drew ?_ | refine blk_alloc ?_ _)); exact BK425.out) hb); have n1_ := Aside0.mk (below_step (by repeat (first | (with_reducible first | exact HB.out | apply below_alloc | apply pw_below_drewN | apply below_drew1 | refine below_set ?_ GE425.out) | exact HB.out)) hb); have n2_ := Aside0.mk (hbox); have n3_ := Aside0.mk ((by rw [hg]; exact (below_size (by repeat (first | (with_reducible first | exact HB.out | apply below_alloc | apply pw_below_drewN | apply below_drew1 | refine below_set ?_ GE425.out) | exact HB.out))) : w.heap.size ≤ gb426)); have n4_ := n3_; have n5_ := Aside0.mk ((by rw [hg]; exact Nat.ne_of_lt (blk_lt (g := gb425) (o := .cells #[.int .i64 a0_0, .int .u32 a0_1, .int .u32 a0_2, .int .u32 a0_3, .int .u32 a0_4, .slice A0_5 l0_5.length c0_5, .slice A0_6 l0_6.length c0_6, .int .i64 a0_7] 46 (0, 0)) (by (with_reducible repeat (first | refine blk_drewN ?_ _ | refine blk_drew ?_ | refine blk_alloc ?_ _)); exact BK425.out)) : gb425 ≠ gb426)); have n6_ := Aside0.mk n5_.out.symm; clear BK425; clear HB; have BK425 := n0_; have HB := n1_; have BK426 := n2_; have GW426 := n3_; have GE426 := n4_; have NB425_426 := n5_; have NB426_425 := n6_; clear n0_ n1_ n2_ n3_ n4_ n5_ n6_; clear hb hbox hg; have hnb18 := NB425_426.out; have hnc18 := NB426_425.out; obtain ⟨hcz19_0, hcz19_1, hcz19_2, hcz19_3, hcz19_4, hcz19_5, hcz19_6, hcz19_7, hfz19_0, hfz19_1, hfz19_2, hfz19_3, hfz19_4, hfz19_5, hfz19_6, hfz19_7⟩ := HX.cells8 BK425.out) | ((with_reducible refine gate_callee (f := 34) rfl ?_); refine goesL_ (some 8) rfl rfl Tryd.func34 (by kernel_rfl) rfl #[.agg #[.int .i64 a0_0, .int .u32 a0_1, .int .u32 a0_2, .int .u32 a0_3, .int .u32 a0_4, .slice A0_5 l0_5.length c0_5, .slice A0_6 l0_6.length c0_6, .int .i64 a0_7]] rfl (by (try simp only [List.map_toArray, List.map_cons, List.map_nil]); first | done | rfl | (simp only [List.length_drop, List.length_take]; rfl)) ?_; (with_reducible refine (recipe_Put.calls a0_0 a0_1 a0_2 a0_3 a0_4 _ _ l0_5 _ _ l0_6 a0_7 t427 t428 _ ?side1 ?side2 ?side3 ?side4 A2.out).mono ?_); (case side1 => repeat (first | exact (Kd.C_below HR0_5.out HB.out) | (with_reducible refine Kd.C_alloc ?_ _) | (with_reducible refine Kd.C_drewN ?_ _) | (with_reducible refine Kd.C_drew ?_))); (case side2 => exact HC0_5.out); (case side3 => repeat (first | exact (Kd.C_below HR0_6.out HB.out) | (with_reducible refine Kd.C_alloc ?_ _) | (with_reducible refine Kd.C_drewN ?_ _) | (with_reducible refine Kd.C_drew ?_))); (case side4 => exact HC0_6.out); rintro e w20 ⟨rfl, hb⟩; refine ⟨_, rfl, ?_⟩; have n0_ := Aside0.mk (blk_below (g := gb425) (by (with_reducible repeat (first | refine blk_drewN ?_ _ | refine blk_drew ?_ | refine blk_alloc ?_ _)); exact BK425.out) hb); have n1_ := Aside0.mk (blk_below (g := gb426) (by (with_reducible repeat (first | refine blk_drewN ?_ _ | refine blk_drew ?_ | refine blk_alloc ?_ _)); exact BK426.out) hb); have n2_ := Aside0.mk (below_step (by repeat (first | (with_reducible first | exact HB.out | apply below_alloc | apply pw_below_drewN | apply below_drew1 | refine below_set ?_ GE425.out | refine below_set ?_ GE426.out) | exact HB.out)) hb); clear BK425; clear BK426; clear HB; have BK425 := n0_; have BK426 := n1_; have HB := n2_; clear n0_ n1_ n2_; (try clear hb); (try clear hb2); (try clear hk); (try clear hi); obtain ⟨hcz21_0, hcz21_1, hcz21_2, hcz21_3, hfz21_0, hfz21_1, hfz21_2, hfz21_3⟩ := HX.cells4 BK426.out))
    refine bodyPost_ret (results_ct rfl _ _ gb426 24 #[.int .u32 0, .int .u32 0, .int .u32 0, .int .u32 0] (0, 0) _ rfl (by (with_reducible repeat (first | refine blk_drewN ?_ _ | refine blk_drew ?_ | refine blk_alloc ?_ _)); refine blk_put (cs := #[.int .u32 0, .int .u32 0, .int .u32 0, .int .u32 0]) ?_ 3 _ rfl; (with_reducible repeat (first | refine blk_drewN ?_ _ | refine blk_drew ?_ | refine blk_alloc ?_ _)); refine blk_put (cs := #[.int .u32 0, .int .u32 0, .int .u32 0, .int .u32 0]) ?_ 2 _ rfl; (with_reducible repeat (first | refine blk_drewN ?_ _ | refine blk_drew ?_ | refine blk_alloc ?_ _)); refine blk_put (cs := #[.int .u32 0, .int .u32 0, .int .u32 0, .int .u32 0]) ?_ 1 _ rfl; (with_reducible repeat (first | refine blk_drewN ?_ _ | refine blk_drew ?_ | refine blk_alloc ?_ _)); refine blk_put (cs := #[.int .u32 0, .int .u32 0, .int .u32 0, .int .u32 0]) ?_ 0 _ rfl; (with_reducible repeat (first | refine blk_drewN ?_ _ | refine blk_drew ?_ | refine blk_alloc ?_ _)); exact BK426.out) Tryd.underlying24 rfl (by kernel_rfl)) rfl ?_
    exact ⟨by first | rfl | (simp [errW_none, errW_some] <;> rfl) | (simp [*, errW_none, errW_some] <;> rfl), by repeat (first | (with_reducible first | exact HB.out | apply below_alloc | apply pw_below_drewN | apply below_drew1 | refine below_set ?_ GE425.out | refine below_set ?_ GE426.out) | exact HB.out)⟩


end

end Go.Proofs.YthimgiphlenjdaaDoor.PI
