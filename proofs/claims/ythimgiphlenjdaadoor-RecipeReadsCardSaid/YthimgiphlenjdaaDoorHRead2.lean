/- recipe.Read's taker: the next four words; a number of things. -/
import Derived.Test.YthimgiphlenjdaaDoorHRead
set_option linter.unusedVariables false
namespace Go.Proofs.YthimgiphlenjdaaDoor.HX
open Go.RowKit Go.Proofs.YthimgiphlenjdaaDoorW.PrintWords PI
set_option maxHeartbeats 8000000 in
set_option maxRecDepth 100000 in
/-- The next four. -/
theorem digest_calls (w1 : World) (gt : Nat) (t : Tk) (w : World) (h : TkSt w1 gt t w) :
    Calls Tryd.prog 63 #[.pointer (some ⟨gt, 0, none⟩)] w fun e w' => e = .returned (.agg #[.int .u32 t.d.1.f0, .int .u32 t.d.1.f1, .int .u32 t.d.1.f2, .int .u32 t.d.1.f3]) ∧ TkSt w1 gt t.d.2 w' ∧ KeepBut w w' gt none := by
  have hu24 := Tryd.underlying24
  have P := Aside0.mk h
  clear h
  go_enter Tryd.func63, Tryd.ntmps63
  go_wp2_with (first | ((with_reducible refine gate_dst (N := 2) rfl ?_); refine box_event ?hg (N := 2) ?hd (cs := #[.int .u32 0, .int .u32 0, .int .u32 0, .int .u32 0]) (t := 24) ?hr ?_; (case hd => rfl); (case hg => rfl); (case hr => first | (go_simp; done) | (go_simp; rfl)); intro gd hg w2 hbox hb; have n0_ := Aside0.mk (P.out.below hb); have KB := Aside0.mk (KeepBut.of_below (g := gt) hb); have Kgd := Aside0.mk hbox; have Ggd := Aside0.mk (show w.heap.size ≤ gd by rw [hg]; exact Nat.le_refl _); have Ngt := Aside0.mk (show gt ≠ gd by rw [hg]; exact Nat.ne_of_lt P.out.lt); have G1 := Aside0.mk (show w1.heap.size ≤ gd by rw [hg]; exact P.out.hb.size); clear P; have P := n0_; clear n0_ hb hbox hg))
  refine wp_loop_in ?_
  refine inLoop_gen (fun w' => TkSt w1 gt t w' ∧ KeepBut w w' gt none ∧ w'.heap[gd]? = some (.cells #[.int .u32 0, .int .u32 0, .int .u32 0, .int .u32 0] 24 (0, 0))) ⟨P.out, KB.out, Kgd.out⟩ ?_
  try clear K1
  intro wA hF
  clear P KB Kgd
  obtain ⟨n0_, n1_, n2_⟩ := hF
  have P := Aside0.mk n0_
  have KB := Aside0.mk n1_
  have Kgd := Aside0.mk n2_
  clear n0_ n1_ n2_
  refine inLoop_k fun K1 hK1 => ?_
  go_wp2_with (first | ((go_at_call 62); (refine (word_calls w1 gt t _ P.out).mono ?_); rintro e w3 ⟨rfl, hp, hk⟩; have n0_ := Aside0.mk hp; have n1_ := Aside0.mk (KeepBut.trans0 KB.out hk); have n2_ := Aside0.mk (KeepBut.blk hk Kgd.out Ngt.out.symm); clear P KB Kgd hp hk; have P := n0_; have KB := n1_; have Kgd := n2_; clear n0_ n1_ n2_; have cz_ : w3.cell? ⟨gd, 0, none⟩ = some (.int .u32 0) := (blk_cell Kgd.out 0).trans rfl; have fz_ := blk_frozen Kgd.out 0))
  try clear hK1
  clear cz_ fz_
  refine inLoop_gen (fun w' => TkSt w1 gt t.w.2 w' ∧ KeepBut w w' gt none ∧ w'.heap[gd]? = some (.cells #[.int .u32 (t.w.1), .int .u32 0, .int .u32 0, .int .u32 0] 24 (0, 0))) ⟨P.out.far G1.out Ngt.out _, keep_far KB.out Ggd.out _, blk_put Kgd.out 0 _ rfl⟩ ?_
  try clear K1
  intro wA hF
  clear P KB Kgd
  obtain ⟨n0_, n1_, n2_⟩ := hF
  have P := Aside0.mk n0_
  have KB := Aside0.mk n1_
  have Kgd := Aside0.mk n2_
  clear n0_ n1_ n2_
  refine inLoop_k fun K1 hK1 => ?_
  go_wp2_with (first | ((go_at_call 62); (refine (word_calls w1 gt t.w.2 _ P.out).mono ?_); rintro e w3 ⟨rfl, hp, hk⟩; have n0_ := Aside0.mk hp; have n1_ := Aside0.mk (KeepBut.trans0 KB.out hk); have n2_ := Aside0.mk (KeepBut.blk hk Kgd.out Ngt.out.symm); clear P KB Kgd hp hk; have P := n0_; have KB := n1_; have Kgd := n2_; clear n0_ n1_ n2_; have cz_ : w3.cell? ⟨gd, 1, none⟩ = some (.int .u32 0) := (blk_cell Kgd.out 1).trans rfl; have fz_ := blk_frozen Kgd.out 1))
  try clear hK1
  clear cz_ fz_
  refine inLoop_gen (fun w' => TkSt w1 gt t.w.2.w.2 w' ∧ KeepBut w w' gt none ∧ w'.heap[gd]? = some (.cells #[.int .u32 (t.w.1), .int .u32 (t.w.2.w.1), .int .u32 0, .int .u32 0] 24 (0, 0))) ⟨P.out.far G1.out Ngt.out _, keep_far KB.out Ggd.out _, blk_put Kgd.out 1 _ rfl⟩ ?_
  try clear K1
  intro wA hF
  clear P KB Kgd
  obtain ⟨n0_, n1_, n2_⟩ := hF
  have P := Aside0.mk n0_
  have KB := Aside0.mk n1_
  have Kgd := Aside0.mk n2_
  clear n0_ n1_ n2_
  refine inLoop_k fun K1 hK1 => ?_
  go_wp2_with (first | ((go_at_call 62); (refine (word_calls w1 gt t.w.2.w.2 _ P.out).mono ?_); rintro e w3 ⟨rfl, hp, hk⟩; have n0_ := Aside0.mk hp; have n1_ := Aside0.mk (KeepBut.trans0 KB.out hk); have n2_ := Aside0.mk (KeepBut.blk hk Kgd.out Ngt.out.symm); clear P KB Kgd hp hk; have P := n0_; have KB := n1_; have Kgd := n2_; clear n0_ n1_ n2_; have cz_ : w3.cell? ⟨gd, 2, none⟩ = some (.int .u32 0) := (blk_cell Kgd.out 2).trans rfl; have fz_ := blk_frozen Kgd.out 2))
  try clear hK1
  clear cz_ fz_
  refine inLoop_gen (fun w' => TkSt w1 gt t.w.2.w.2.w.2 w' ∧ KeepBut w w' gt none ∧ w'.heap[gd]? = some (.cells #[.int .u32 (t.w.1), .int .u32 (t.w.2.w.1), .int .u32 (t.w.2.w.2.w.1), .int .u32 0] 24 (0, 0))) ⟨P.out.far G1.out Ngt.out _, keep_far KB.out Ggd.out _, blk_put Kgd.out 2 _ rfl⟩ ?_
  try clear K1
  intro wA hF
  clear P KB Kgd
  obtain ⟨n0_, n1_, n2_⟩ := hF
  have P := Aside0.mk n0_
  have KB := Aside0.mk n1_
  have Kgd := Aside0.mk n2_
  clear n0_ n1_ n2_
  refine inLoop_k fun K1 hK1 => ?_
  go_wp2_with (first | ((go_at_call 62); (refine (word_calls w1 gt t.w.2.w.2.w.2 _ P.out).mono ?_); rintro e w3 ⟨rfl, hp, hk⟩; have n0_ := Aside0.mk hp; have n1_ := Aside0.mk (KeepBut.trans0 KB.out hk); have n2_ := Aside0.mk (KeepBut.blk hk Kgd.out Ngt.out.symm); clear P KB Kgd hp hk; have P := n0_; have KB := n1_; have Kgd := n2_; clear n0_ n1_ n2_; have cz_ : w3.cell? ⟨gd, 3, none⟩ = some (.int .u32 0) := (blk_cell Kgd.out 3).trans rfl; have fz_ := blk_frozen Kgd.out 3))
  try clear hK1
  clear cz_ fz_
  refine inLoop_gen (fun w' => TkSt w1 gt t.w.2.w.2.w.2.w.2 w' ∧ KeepBut w w' gt none ∧ w'.heap[gd]? = some (.cells #[.int .u32 (t.w.1), .int .u32 (t.w.2.w.1), .int .u32 (t.w.2.w.2.w.1), .int .u32 (t.w.2.w.2.w.2.w.1)] 24 (0, 0))) ⟨P.out.far G1.out Ngt.out _, keep_far KB.out Ggd.out _, blk_put Kgd.out 3 _ rfl⟩ ?_
  try clear K1
  intro wA hF
  clear P KB Kgd
  obtain ⟨n0_, n1_, n2_⟩ := hF
  have P := Aside0.mk n0_
  have KB := Aside0.mk n1_
  have Kgd := Aside0.mk n2_
  clear n0_ n1_ n2_
  have cz0_ : wA.cell? ⟨gd, 0, none⟩ = some (.int .u32 t.w.1) := (blk_cell Kgd.out 0).trans rfl
  have fz0_ := blk_frozen Kgd.out 0
  have cz1_ : wA.cell? ⟨gd, 1, none⟩ = some (.int .u32 t.w.2.w.1) := (blk_cell Kgd.out 1).trans rfl
  have fz1_ := blk_frozen Kgd.out 1
  have cz2_ : wA.cell? ⟨gd, 2, none⟩ = some (.int .u32 t.w.2.w.2.w.1) := (blk_cell Kgd.out 2).trans rfl
  have fz2_ := blk_frozen Kgd.out 2
  have cz3_ : wA.cell? ⟨gd, 3, none⟩ = some (.int .u32 t.w.2.w.2.w.2.w.1) := (blk_cell Kgd.out 3).trans rfl
  have fz3_ := blk_frozen Kgd.out 3
  refine inLoop_k fun K1 hK1 => ?_
  go_wp2
  try clear hK1
  refine bodyPost_ret (results_cell_row rfl _ _ (gd) 24 #[.int .u32 (t.w.1), .int .u32 (t.w.2.w.1), .int .u32 (t.w.2.w.2.w.1), .int .u32 (t.w.2.w.2.w.2.w.1)] (0, 0) _ rfl (by (with_reducible repeat (first | refine blk_drewN ?_ _ | refine blk_drew ?_)); refine blk_put (cs := #[.int .u32 (t.w.1), .int .u32 (t.w.2.w.1), .int .u32 (t.w.2.w.2.w.1), .int .u32 (t.w.2.w.2.w.2.w.1)]) ?_ 3 _ rfl; (with_reducible repeat (first | refine blk_drewN ?_ _ | refine blk_drew ?_)); refine blk_put (cs := #[.int .u32 (t.w.1), .int .u32 (t.w.2.w.1), .int .u32 (t.w.2.w.2.w.1), .int .u32 (t.w.2.w.2.w.2.w.1)]) ?_ 2 _ rfl; (with_reducible repeat (first | refine blk_drewN ?_ _ | refine blk_drew ?_)); refine blk_put (cs := #[.int .u32 (t.w.1), .int .u32 (t.w.2.w.1), .int .u32 (t.w.2.w.2.w.1), .int .u32 (t.w.2.w.2.w.2.w.1)]) ?_ 1 _ rfl; (with_reducible repeat (first | refine blk_drewN ?_ _ | refine blk_drew ?_)); refine blk_put (cs := #[.int .u32 (t.w.1), .int .u32 (t.w.2.w.1), .int .u32 (t.w.2.w.2.w.1), .int .u32 (t.w.2.w.2.w.2.w.1)]) ?_ 0 _ rfl; (with_reducible repeat (first | refine blk_drewN ?_ _ | refine blk_drew ?_)); exact Kgd.out) Tryd.underlying24 rfl (by kernel_rfl)) rfl ?_
  exact ⟨rfl, (((P.out.far G1.out Ngt.out _).far G1.out Ngt.out _).far G1.out Ngt.out _).far G1.out Ngt.out _, keep_far (keep_far (keep_far (keep_far KB.out Ggd.out _) Ggd.out _) Ggd.out _) Ggd.out _⟩
set_option maxHeartbeats 8000000 in
set_option maxRecDepth 100000 in
/-- A number of things that may be. -/
theorem few_calls (w1 : World) (gt : Nat) (t : Tk) (w : World) (h : TkSt w1 gt t w) :
    Calls Tryd.prog 64 #[.pointer (some ⟨gt, 0, none⟩)] w fun e w' => e = .returned (.int .i64 t.few.1) ∧ TkSt w1 gt t.few.2 w' ∧ KeepBut w w' gt none := by
  have hu83 := Tryd.underlying83
  have hu82 := Tryd.underlying82
  have P := Aside0.mk h
  have HW := Aside0.mk (word_calls w1 gt t w h)
  clear h
  have HE : Aside0 (t.few = if t.w.1 > 20 then (0, ⟨t.w.2.xs, true⟩) else (wrap64 t.w.1, t.w.2)) := ⟨rfl⟩
  generalize t.few = r at HE ⊢
  obtain ⟨⟨x, t'⟩, hx⟩ : ∃ p, p = t.w := ⟨_, rfl⟩
  rw [← hx] at HW HE
  clear hx P
  by_cases hb : x > 20
  · rw [if_pos hb] at HE
    have he := HE.out
    subst he
    have c1 : decide (x > 20) = true := decide_eq_true hb
    have c2 : decide (20 < x) = true := decide_eq_true hb
    have hb2 : (20 < x) = True := eq_true hb
    clear hb HE
    go_enter Tryd.func64, Tryd.ntmps64
    go_wp2_with (first | ((go_at_call 62); (refine HW.out.mono ?_); rintro e w3 ⟨rfl, hp, hk⟩; have P := Aside0.mk hp; have KB := Aside0.mk hk; clear hp hk; obtain ⟨A, c, kt, r_⟩ := P.out.kt; have KT := Aside0.mk kt; have RR := Aside0.mk r_; have cz_ : w3.cell? ⟨gt, 1, none⟩ = some (.bool t'.short) := (blk_cell kt 1).trans rfl; have fz_ := blk_frozen kt 1; clear kt r_))
    go_ret
    exact ⟨rfl, ⟨below_set P.out.hb P.out.hg, P.out.hg, A, c, blk_put KT.out 1 _ rfl, RR.out⟩, KeepBut.trans0 KB.out (KeepBut.set _)⟩
  · rw [if_neg hb] at HE
    have he := HE.out
    subst he
    have c1 : decide (x > 20) = false := decide_eq_false hb
    have c2 : decide (20 < x) = false := decide_eq_false hb
    have hb2 : (20 < x) = False := eq_false hb
    clear hb HE
    go_enter Tryd.func64, Tryd.ntmps64
    go_wp2_with (first | ((go_at_call 62); (refine HW.out.mono ?_); rintro e w3 ⟨rfl, hp, hk⟩; have P := Aside0.mk hp; have KB := Aside0.mk hk; clear hp hk))
    go_ret
    exact ⟨rfl, P.out, KB.out⟩
end Go.Proofs.YthimgiphlenjdaaDoor.HX
