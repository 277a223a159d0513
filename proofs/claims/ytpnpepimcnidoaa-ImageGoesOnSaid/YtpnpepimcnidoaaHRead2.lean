/- What image.Read answers, continued. -/
import Derived.Test.YtpnpepimcnidoaaHRead
set_option linter.unusedVariables false
set_option linter.unusedSimpArgs false
namespace Go.Proofs.Ytpnpepimcnidoaa.PI
open Go.RowKit Go.Shelf Go.Proofs.YtpnpepimcnidoaaW.PrintWords Go.Proofs.YtpnpepimcnidoaaW.PrintLast Go.Proofs.YtpnpepimcnidoaaW.PrintMore HX

attribute [local go_sem] Oper.semAt_some

theorem heap_drewN (w : World) (n : Nat) : (w.drewN n).heap = w.heap := rfl
theorem two_new (w : World) (nd : Nat) {w2 : World} {v : Value} {d : Int} (h : Below ((w.alloc (.cells #[v, .int .i64 d] 24)).drewN nd).heap.size ((w.alloc (.cells #[v, .int .i64 d] 24)).drewN nd) w2) : Two w2 w.heap.size v d ∧ Below w.heap.size w w2 ∧ w.heap.size < w2.heap.size := by
  have e : ((w.alloc (.cells #[v, .int .i64 d] 24)).drewN nd).heap.size = w.heap.size + 1 := World.size_alloc w _
  have hs := h.size
  rw [e] at h hs
  refine ⟨(h.block w.heap.size (by omega)).trans (World.alloc_heap_new w _), ?_, by omega⟩
  exact (pw_below_drewN (below_alloc (Below.refl _ w) _) nd).trans (h.mono (by omega))

set_option maxHeartbeats 4000000 in
set_option maxRecDepth 100000 in
theorem read_b1 (s rest : ByteArray) (K : Nat) (l : List Int) (ev : Int) (w : World) (hcut : Aside0 (strings_CutPrefix.f s mark4 = some (rest, false))) (hwords : Aside0 (word_Words.f K rest = some (l, ev))) :
    Calls Try.prog 13 #[.string s] w fun e w' => e = .returned (.tuple #[.agg #[.slice none 0 0, .int .i64 0], .int .i64 7]) ∧ Below w.heap.size w w' := by
  go_enter Try.func13, Try.ntmps13
  go_wp2_with (first | (go_at_call 21; refine (strings_CutPrefix.calls s mark4 rest false _ hcut.out).mono ?_; rintro e w' ⟨rfl, ⟨nd, rfl⟩⟩) | (go_at_call 22; refine (word_Words.calls K rest l ev _ hwords.out).mono ?_; rintro e w2 ⟨v0, rfl, hR, hB⟩; obtain ⟨hT, hB2, hlt⟩ := two_new _ _ hB; have HR := Aside0.mk hR; have HB := Aside0.mk hB2; clear hR hB hB2; obtain ⟨Ao, co, eo⟩ := Kd.R_slice HR.out; subst eo; have hc0 := hT.cell0; have hc1 := hT.cell1; have hf0 := hT.frozen0; have hf1 := hT.frozen1; have HT := Aside0.mk hT; clear hT))
  refine bodyPost_ret (results_ct rfl _ _ w.heap.size 24 #[.slice none 0 0, .int .i64 0] (0, 0) _ rfl (by refine blk_put (cs := #[.slice none 0 0, .int .i64 0]) ?_ 1 _ rfl; refine blk_put (cs := #[.slice none 0 0, .int .i64 0]) ?_ 0 _ rfl; exact HT.out) Try.underlying24 rfl (by kernel_rfl)) rfl ?_
  exact ⟨rfl, below_set (below_set HB.out (Nat.le_refl _)) (Nat.le_refl _)⟩

theorem row_cell {w : World} {base g co : Nat} {l : List Int} {ok : Nat → Prop} (h : (Kd.int .u32).R 36 w base ok (.slice (some ⟨g, 0, none⟩) l.length co) l) (i : Nat) (hi : i < l.length) : w.cell? ⟨g, i, none⟩ = some (.int .u32 (rd l (i : Nat))) := by
  obtain ⟨ad, e, hc⟩ := Kd.at_int (Kd.R_reads' h).2.2 (i : Int) (by omega) (by omega)
  cases e
  rwa [add_plain, Int.toNat_natCast] at hc

set_option maxHeartbeats 4000000 in
set_option maxRecDepth 100000 in
theorem read_b2 (s rest : ByteArray) (K : Nat) (l : List Int)  (w : World) (hcut : Aside0 (strings_CutPrefix.f s mark4 = some (rest, true))) (hwords : Aside0 (word_Words.f K rest = some (l, 7))) :
    Calls Try.prog 13 #[.string s] w fun e w' => e = .returned (.tuple #[.agg #[.slice none 0 0, .int .i64 0], .int .i64 7]) ∧ Below w.heap.size w w' := by
  go_enter Try.func13, Try.ntmps13
  go_wp2_with (first | (go_at_call 21; refine (strings_CutPrefix.calls s mark4 rest true _ hcut.out).mono ?_; rintro e w' ⟨rfl, ⟨nd, rfl⟩⟩) | (go_at_call 22; refine (word_Words.calls K rest l 7 _ hwords.out).mono ?_; rintro e w2 ⟨v0, rfl, hR, hB⟩; obtain ⟨hT, hB2, hlt⟩ := two_new _ _ hB; have HR := Aside0.mk hR; have HB := Aside0.mk hB2; clear hR hB hB2; obtain ⟨Ao, co, eo⟩ := Kd.R_slice HR.out; subst eo; have hc0 := hT.cell0; have hc1 := hT.cell1; have hf0 := hT.frozen0; have hf1 := hT.frozen1; have HT := Aside0.mk hT; clear hT))
  refine bodyPost_ret (results_ct rfl _ _ w.heap.size 24 #[.slice none 0 0, .int .i64 0] (0, 0) _ rfl (by refine blk_put (cs := #[.slice none 0 0, .int .i64 0]) ?_ 1 _ rfl; refine blk_put (cs := #[.slice none 0 0, .int .i64 0]) ?_ 0 _ rfl; exact HT.out) Try.underlying24 rfl (by kernel_rfl)) rfl ?_
  exact ⟨rfl, below_set (below_set HB.out (Nat.le_refl _)) (Nat.le_refl _)⟩

set_option maxHeartbeats 4000000 in
set_option maxRecDepth 100000 in
theorem read_b3 (s rest : ByteArray) (K : Nat) (l : List Int)  (w : World) (hcut : Aside0 (strings_CutPrefix.f s mark4 = some (rest, true))) (hwords : Aside0 (word_Words.f K rest = some (l, 0))) (hl : l.length < 2) :
    Calls Try.prog 13 #[.string s] w fun e w' => e = .returned (.tuple #[.agg #[.slice none 0 0, .int .i64 0], .int .i64 7]) ∧ Below w.heap.size w w' := by
  have h1 : decide ((l.length : Int) < 2) = true := decide_eq_true (by omega)
  have h2 : decide (l.length < 2) = true := decide_eq_true hl
  have hl' := Aside0.mk hl
  clear hl
  go_enter Try.func13, Try.ntmps13
  go_wp2_with (first | (go_at_call 21; refine (strings_CutPrefix.calls s mark4 rest true _ hcut.out).mono ?_; rintro e w' ⟨rfl, ⟨nd, rfl⟩⟩) | (go_at_call 22; refine (word_Words.calls K rest l 0 _ hwords.out).mono ?_; rintro e w2 ⟨v0, rfl, hR, hB⟩; obtain ⟨hT, hB2, hlt⟩ := two_new _ _ hB; have HR := Aside0.mk hR; have HB := Aside0.mk hB2; clear hR hB hB2; obtain ⟨Ao, co, eo⟩ := Kd.R_slice HR.out; subst eo; have hc0 := hT.cell0; have hc1 := hT.cell1; have hf0 := hT.frozen0; have hf1 := hT.frozen1; have HT := Aside0.mk hT; clear hT))
  refine bodyPost_ret (results_ct rfl _ _ w.heap.size 24 #[.slice none 0 0, .int .i64 0] (0, 0) _ rfl (by refine blk_put (cs := #[.slice none 0 0, .int .i64 0]) ?_ 1 _ rfl; refine blk_put (cs := #[.slice none 0 0, .int .i64 0]) ?_ 0 _ rfl; exact HT.out) Try.underlying24 rfl (by kernel_rfl)) rfl ?_
  exact ⟨rfl, below_set (below_set HB.out (Nat.le_refl _)) (Nat.le_refl _)⟩

set_option maxHeartbeats 4000000 in
set_option maxRecDepth 100000 in
theorem read_b4 (s rest : ByteArray) (K : Nat) (l : List Int) (x0 x1 : Int) (w : World) (hcut : Aside0 (strings_CutPrefix.f s mark4 = some (rest, true))) (hwords : Aside0 (word_Words.f K rest = some (l, 0))) (hl : 2 ≤ l.length) (hm : l.length ≤ 35184372088832) (hr0 : Aside0 (rd l ((0 : Nat) : Int) = x0)) (hr1 : Aside0 (rd l ((1 : Nat) : Int) = x1)) (h0 : 0 ≤ x0) (h0' : x0 < 4294967296) (hne : ¬ x0 = (l.length : Int) - 2) :
    Calls Try.prog 13 #[.string s] w fun e w' => e = .returned (.tuple #[.agg #[.slice none 0 0, .int .i64 0], .int .i64 7]) ∧ Below w.heap.size w w' := by
  have h1 : decide ((l.length : Int) < 2) = false := decide_eq_false (by omega)
  have h2 : decide (l.length < 2) = false := decide_eq_false (by omega)
  go_enter Try.func13, Try.ntmps13
  go_wp2_with (first | (go_at_call 21; refine (strings_CutPrefix.calls s mark4 rest true _ hcut.out).mono ?_; rintro e w' ⟨rfl, ⟨nd, rfl⟩⟩) | (go_at_call 22; refine (word_Words.calls K rest l 0 _ hwords.out).mono ?_; rintro e w2 ⟨v0, rfl, hR, hB⟩; obtain ⟨hT, hB2, hlt⟩ := two_new _ _ hB; have HR := Aside0.mk hR; have HB := Aside0.mk hB2; clear hR hB hB2; obtain ⟨g, co, eo, _, _, _⟩ := Kd.R_form HR.out (by omega); subst eo; have hx0 := row_cell HR.out 0 (by omega); have hx1 := row_cell HR.out 1 (by omega); rw [hr0.out] at hx0; rw [hr1.out] at hx1; have hc0 := hT.cell0; have hc1 := hT.cell1; have hf0 := hT.frozen0; have hf1 := hT.frozen1; have HT := Aside0.mk hT; clear hT))
  refine bodyPost_ret (results_ct rfl _ _ w.heap.size 24 #[.slice none 0 0, .int .i64 0] (0, 0) _ rfl (by refine blk_put (cs := #[.slice none 0 0, .int .i64 0]) ?_ 1 _ rfl; refine blk_put (cs := #[.slice none 0 0, .int .i64 0]) ?_ 0 _ rfl; exact HT.out) Try.underlying24 rfl (by kernel_rfl)) rfl ?_
  exact ⟨rfl, below_set (below_set HB.out (Nat.le_refl _)) (Nat.le_refl _)⟩

set_option maxHeartbeats 4000000 in
set_option maxRecDepth 100000 in
theorem read_b5 (s rest : ByteArray) (K : Nat) (l : List Int) (x1 : Int) (w : World) (hcut : Aside0 (strings_CutPrefix.f s mark4 = some (rest, true))) (hwords : Aside0 (word_Words.f K rest = some (l, 0))) (hl : 2 ≤ l.length) (hm : l.length ≤ 35184372088832) (hr0 : Aside0 (rd l ((0 : Nat) : Int) = (l.length : Int) - 2)) (hr1 : Aside0 (rd l ((1 : Nat) : Int) = x1)) (h1' : x1 < 4294967296) (hbig : 32768 < x1) :
    Calls Try.prog 13 #[.string s] w fun e w' => e = .returned (.tuple #[.agg #[.slice none 0 0, .int .i64 0], .int .i64 7]) ∧ Below w.heap.size w w' := by
  have h1 : decide ((l.length : Int) < 2) = false := decide_eq_false (by omega)
  have h2 : decide (l.length < 2) = false := decide_eq_false (by omega)
  go_enter Try.func13, Try.ntmps13
  go_wp2_with (first | (go_at_call 21; refine (strings_CutPrefix.calls s mark4 rest true _ hcut.out).mono ?_; rintro e w' ⟨rfl, ⟨nd, rfl⟩⟩) | (go_at_call 22; refine (word_Words.calls K rest l 0 _ hwords.out).mono ?_; rintro e w2 ⟨v0, rfl, hR, hB⟩; obtain ⟨hT, hB2, hlt⟩ := two_new _ _ hB; have HR := Aside0.mk hR; have HB := Aside0.mk hB2; clear hR hB hB2; obtain ⟨g, co, eo, _, _, _⟩ := Kd.R_form HR.out (by omega); subst eo; have hx0 := row_cell HR.out 0 (by omega); have hx1 := row_cell HR.out 1 (by omega); rw [hr0.out] at hx0; rw [hr1.out] at hx1; have hc0 := hT.cell0; have hc1 := hT.cell1; have hf0 := hT.frozen0; have hf1 := hT.frozen1; have HT := Aside0.mk hT; clear hT))
  refine bodyPost_ret (results_ct rfl _ _ w.heap.size 24 #[.slice none 0 0, .int .i64 0] (0, 0) _ rfl (by refine blk_put (cs := #[.slice none 0 0, .int .i64 0]) ?_ 1 _ rfl; refine blk_put (cs := #[.slice none 0 0, .int .i64 0]) ?_ 0 _ rfl; exact HT.out) Try.underlying24 rfl (by kernel_rfl)) rfl ?_
  exact ⟨rfl, below_set (below_set HB.out (Nat.le_refl _)) (Nat.le_refl _)⟩

theorem cut2 (g co : Nat) (l zs : List Int) (hz : l.drop 2 = zs) (hl : 2 ≤ l.length) : ∃ A1 : Option Addr, (∀ W : World, (Instr.slice 22 (.slice (some ⟨g, 0, none⟩) l.length co) (some (.int .i64 2)) none none).run Try.prog W = .ok (.slice A1 zs.length (co - 2)) W) ∧
    ∀ {w : World} {base : Nat} {ok : Nat → Prop}, (Kd.int .u32).R 36 w base ok (.slice (some ⟨g, 0, none⟩) l.length co) l → (Kd.int .u32).C w A1 zs.length zs := by
  subst hz
  obtain ⟨i0, hi, hz⟩ := Option.map_eq_some_iff.1 info36
  simp only [Prod.mk.injEq] at hz
  obtain ⟨A1, h1, h2⟩ := print_cut (P := Try.prog) 22 36 .i64 Try.underlying22 hi hz.2.1 (some ⟨g, 0, none⟩) l.length co 2 hl
  refine ⟨A1, fun W => by rw [List.length_drop]; exact h1 W, fun {w base ok} h => ?_⟩
  have h3 := Kd.R_reads' h
  have h4 := h2 w .u32 l h3.2.1 (readsInt_of.2 (Kd.reads_of_C (enc := Value.int .u32) (d := (0 : Int)) (h1 := fun _ => rfl) h3.2.2))
  rw [← List.length_drop] at h4
  exact Kd.C_of_reads (enc := Value.int .u32) (d := (0 : Int)) (h1 := fun _ => rfl) (readsInt_of.1 h4)
theorem two_made (w2 : World) (v u : Value) (d : Int) : Two ((w2.alloc (.cells #[v, .int .i64 d] 24)).alloc (.cells #[u] 22)) w2.heap.size v d ∧ ((w2.alloc (.cells #[v, .int .i64 d] 24)).alloc (.cells #[u] 22)).cell? ⟨w2.heap.size + 1, 0, none⟩ = some u ∧ Below w2.heap.size w2 ((w2.alloc (.cells #[v, .int .i64 d] 24)).alloc (.cells #[u] 22)) ∧ ((w2.alloc (.cells #[v, .int .i64 d] 24)).alloc (.cells #[u] 22)).heap.size = w2.heap.size + 2 := by
  have hs : (w2.alloc (.cells #[v, .int .i64 d] 24)).heap.size = w2.heap.size + 1 := World.size_alloc _ _
  have hs2 := World.size_alloc (w2.alloc (.cells #[v, .int .i64 d] 24)) (.cells #[u] 22)
  refine ⟨(Below.heap_alloc _ _ _ (by omega)).trans (World.alloc_heap_new w2 _), ?_, below_alloc (below_alloc (Below.refl _ w2) _) _, by omega⟩
  have := (Boxed.new (w2.alloc (.cells #[v, .int .i64 d] 24)) 22 u).cell
  rwa [hs] at this

/-- What lies behind the return. -/
theorem read_fin {w w2 W W2 : World} {D : Nat} {v a b : Value} {zs : List Int} (hlt : w.heap.size < w2.heap.size) (hB : Below w.heap.size w w2) (hBW : Below w2.heap.size w2 W) (hB3 : Below W.heap.size W W2)
    (hK : W.heap[D]? = some (.deferred (some []))) (hD : w2.heap.size ≤ D) (hT : Two w2 w.heap.size (.slice none 0 0) 0) (hR : (Kd.int .u32).R 36 W w2.heap.size (fun _ => True) v zs) :
    ((W2.setCell ⟨w.heap.size, 0, none⟩ a).setCell ⟨w.heap.size, 1, none⟩ b).heap[D]? = some (.deferred (some [])) ∧
    (((W2.setCell ⟨w.heap.size, 0, none⟩ a).setCell ⟨w.heap.size, 1, none⟩ b).putObj D (.deferred none)).heap[w.heap.size]? = some (.cells #[a, b] 24 (0, 0)) ∧
    (Kd.int .u32).R 36 (((W2.setCell ⟨w.heap.size, 0, none⟩ a).setCell ⟨w.heap.size, 1, none⟩ b).putObj D (.deferred none)) w.heap.size (fun _ => True) v zs ∧
    Below w.heap.size w (((W2.setCell ⟨w.heap.size, 0, none⟩ a).setCell ⟨w.heap.size, 1, none⟩ b).putObj D (.deferred none)) := by
  have hDl : D < W.heap.size := (Array.getElem?_eq_some_iff.1 hK).1
  have h1 : W2.heap[D]? = some (.deferred (some [])) := (hB3.block D hDl).trans hK
  have h2 : ((W2.setCell ⟨w.heap.size, 0, none⟩ a).setCell ⟨w.heap.size, 1, none⟩ b).heap[D]? = some (.deferred (some [])) := by
    rw [Below.heap_setCell _ _ _ _ (by show D ≠ w.heap.size; omega), Below.heap_setCell _ _ _ _ (by show D ≠ w.heap.size; omega)]
    exact h1
  have hblk : W2.heap[w.heap.size]? = some (.cells #[.slice none 0 0, .int .i64 0] 24 (0, 0)) := ((hB3.block _ (by have := hBW.size; omega)).trans (hBW.block _ hlt)).trans hT
  have h3 := blk_put (cs' := #[a, b]) (blk_put (cs' := #[a, .int .i64 0]) hblk 0 a rfl) 1 b rfl
  have hb2 : Below w.heap.size w W2 := (hB.trans (hBW.mono (by omega))).trans (hB3.mono (by have := hBW.size; omega))
  refine ⟨h2, (World.putObj_heap_other (by omega)).trans h3, ?_, ?_⟩
  · refine Kd.R_mono (Kd.R_lower (base := w2.heap.size) ?_ (by omega)) (ok := fun k => True) (fun _ _ => trivial)
    have r1 : (Kd.int .u32).R 36 W w2.heap.size (fun k => w2.heap.size ≤ k ∧ k ≠ D) v zs := Kd.R_mono (Kd.R_bound hR) (fun k hk => ⟨hk.2.1, fun e => by
      obtain ⟨_, _, _, q, _, cells, hc⟩ := hk
      rw [e, hK] at hc
      cases hc⟩)
    have r2 := Kd.R_below r1 hB3
    have r3 := Kd.R_far (Kd.R_far r2 (p := ⟨w.heap.size, 0, none⟩) (fun k hk => by show k ≠ w.heap.size; omega) a) (p := ⟨w.heap.size, 1, none⟩) (fun k hk => by show k ≠ w.heap.size; omega) b
    exact Kd.R_mono (Kd.R_step r3 (fun k hk _ => World.putObj_heap_other (by omega))) (fun _ _ => trivial)
  · refine (((Below.setCell hb2 (p := ⟨w.heap.size, 0, none⟩) (Nat.le_refl _) a).setCell (p := ⟨w.heap.size, 1, none⟩) (Nat.le_refl _) b)).trans ?_
    exact (Below.refl _ _).grown (grownBy_putObj' _ D _) (by have := hb2.size; simp [World.setCell]; omega) (fun k e => by cases e; omega)

set_option maxHeartbeats 8000000 in
set_option maxRecDepth 100000 in
theorem read_ok (s rest : ByteArray) (K : Nat) (l zs : List Int) (x1 : Int) (r : Bool) (w : World) (hcut : Aside0 (strings_CutPrefix.f s mark4 = some (rest, true))) (hwords : Aside0 (word_Words.f K rest = some (l, 0))) (hl : 2 ≤ l.length) (hm : l.length ≤ 35184372088832) (hr0 : Aside0 (rd l ((0 : Nat) : Int) = (l.length : Int) - 2)) (hr1 : Aside0 (rd l ((1 : Nat) : Int) = x1)) (h1' : 0 ≤ x1) (hbig : x1 ≤ 32768) (hzs : Aside0 (l.drop 2 = zs)) (hright : Aside0 (image_Right.f zs x1 = some r)) :
    Calls Try.prog 13 #[.string s] w fun e w' => ∃ v0_ : Value, e = .returned (.tuple (if r then #[.agg #[v0_, .int .i64 x1], .int .i64 0] else #[.agg #[.slice none 0 0, .int .i64 0], .int .i64 7])) ∧ (r = true → Kd.R (Kd.int .u32) 36 w' w.heap.size (fun _ => True) v0_ zs) ∧ Below w.heap.size w w' := by
  refine (callsIn_wide (n := 5)).1 ?_
  have h1 : decide ((l.length : Int) < 2) = false := decide_eq_false (by omega)
  have h2 : decide (l.length < 2) = false := decide_eq_false (by omega)
  have h3 : decide (32768 < x1) = false := decide_eq_false (by omega)
  refine callsIn_of_wp_marks Try.func13 rfl trivial ?_ rfl
  simp only [Try.ntmps13, List.size_toArray, List.length_cons, List.length_nil, Nat.reduceAdd, Nat.reduceSub, Array.replicate_succ, Array.replicate_zero, List.push_toArray, List.append_toArray, List.nil_append, List.cons_append]
  gi_wp2_with (first | (refine ⟨trivial, ?_⟩; gi_at_call 21; refine (callsIn_wide.2 (strings_CutPrefix.calls s mark4 rest true _ hcut.out)).mono ?_; rintro e w' ⟨rfl, ⟨nd, rfl⟩⟩) | (refine ⟨trivial, ?_⟩; gi_at_call 22; refine (callsIn_wide.2 (word_Words.calls K rest l 0 _ hwords.out)).mono ?_; rintro e w2 ⟨v0, rfl, hR, hB⟩; obtain ⟨hT, hB2, hlt⟩ := two_new _ _ hB; have HR := Aside0.mk hR; have HB := Aside0.mk hB2; clear hR hB hB2; obtain ⟨g, co, eo, _, _, _⟩ := Kd.R_form HR.out (by omega); subst eo; have hx0 := row_cell HR.out 0 (by omega); have hx1 := row_cell HR.out 1 (by omega); rw [hr0.out] at hx0; rw [hr1.out] at hx1; obtain ⟨A1, hcut1, hA1⟩ := cut2 g co l zs hzs.out hl; have HC := Aside0.mk (hA1 HR.out); clear hA1; have hc0 := hT.cell0; have hc1 := hT.cell1; have hf0 := hT.frozen0; have hf1 := hT.frozen1; have HT := Aside0.mk hT; clear hT) | (refine ⟨trivial, ?_⟩; gi_at_call 23; refine (words_in Fence.wide _ trivial rfl _ _ _ _).mono ?_; rintro e w' ⟨rfl, rfl⟩))
  obtain ⟨hTm, hBs, hB0, hsz⟩ := two_made w2 (.slice none 0 0) (.slice A1 zs.length (co - 2)) x1
  refine wpIn_rangeFunc_ownG rfl (by decide) (gf := 27) (lb := #[.pointer (some ⟨w2.heap.size + 1, 0, none⟩)]) rfl trivial (enters_of Try.func27 (by kernel_rfl) rfl)
    (words_stops Fence.wide (5 - 1) trivial rfl (by decide) (w2.heap.size + 1) (co - 2) A1 zs w2 HC.out _ hB0 (by omega) hBs) belowK_t (belowK_b (by omega)) (Below.refl _ _) (fun _ => rfl)
    (fun pre W => (∃ v, Two W w2.heap.size v x1 ∧ W.ownsRow w2.heap.size 36 1 v pre.length (nums .u32 pre)) ∧ Below w2.heap.size w2 W)
    (fun _ _ _ => False)
    (OwnFrom.and (Own.from (twoRow_own w2.heap.size w2.heap.size x1) _) (ownFrom_below (Nat.le_refl _) (by omega)))
    (fun _ _ _ _ _ hs _ _ => hs)
    ⟨⟨_, hTm, World.ownsRow_nil _ _ _ _⟩, hB0⟩
    (fun x => { tmps := #[.string s, undef, .pointer (some ⟨w.heap.size, 0, none⟩), .int .i64 0, .string rest, .bool true, .slice (some ⟨g, 0, none⟩) l.length co, .int .i64 0, .pointer (some ⟨w2.heap.size, 0, none⟩), .int .u32 x, .tuple #[.string rest, .bool true], .string s, .tuple #[.string rest, .bool true], .string rest, .bool true, .tuple #[.slice (some ⟨g, 0, none⟩) l.length co, .int .i64 0], .string rest, .tuple #[.slice (some ⟨g, 0, none⟩) l.length co, .int .i64 0], .slice (some ⟨g, 0, none⟩) l.length co, .int .i64 0, .bool true, .bool false, .bool false, .int .i64 0, .bool false, .bool false, .bool false, .slice (some ⟨g, 0, none⟩) l.length co, .int .i64 (l.length : Int), .bool false, .bool false, .bool false, .slice (some ⟨g, 0, none⟩) l.length co, .pointer (some ⟨g, 0, none⟩), .int .u32 ((l.length : Int) - 2), .int .u64 ((l.length : Int) - 2), .slice (some ⟨g, 0, none⟩) l.length co, .int .i64 (l.length : Int), .int .i64 ((l.length : Int) - 2), .int .u64 ((l.length : Int) - 2), .bool false, .bool false, .bool false, .slice (some ⟨g, 0, none⟩) l.length co, .pointer (some ⟨g, 1, none⟩), .int .u32 x1, .bool false, .bool false, undef, .slice (some ⟨g, 0, none⟩) l.length co, .pointer (some ⟨g, 1, none⟩), .int .u32 x1, .int .i64 x1, .agg #[.slice none 0 0, .int .i64 x1], .slice (some ⟨g, 0, none⟩) l.length co, .slice A1 zs.length (co - 2), .func (.func 27) #[] #[.pointer (some ⟨w2.heap.size + 1, 0, none⟩)], .int .u32 x, undef, undef, undef, undef, undef, undef, undef, undef, undef, undef, undef], defers := [] }) ?assign ?body ?done ?stop
  case assign =>
    intro l x W K hK
    gi_wp2
    exact hK
  case body =>
    rintro lr pre x W ⟨⟨v, hv, hrow⟩, hBW⟩ hlt2
    have hcv := hv.cell0
    have hfv := hv.frozen0
    have hzl : zs.length ≤ 35184372088832 := by rw [← hzs.out, List.length_drop]; omega
    obtain ⟨i0, hi, hzz⟩ := Option.map_eq_some_iff.1 info36
    simp only [Prod.mk.injEq] at hzz
    obtain ⟨hz0, hz1, hz2⟩ := hzz
    gi_wp2_with (gi_at_builtin; refine wpListIn_append_own _ rfl _ _ 22 rfl w2.heap.size 36 i0 (.int .u32 0) 1 4 Try.underlying22 hi hz0 hz1 hz2 rfl (by decide) _ _ _ rfl (hrow.alloc _) ⟨W.heap.size, 0, none⟩ 1 1 [.int .u32 x] rfl rfl (cell_one_new _ _ _) (by simp [Value.oneCell']) (by simp only [maxLen]; omega) (by omega) (by have := hBW.size; simp; omega) ?_; intro v' w1 hown' hgrow _; obtain ⟨g', cap', rfl⟩ := ownsRow_succ hown'; obtain ⟨hv1, hv2, hr2, hk2, hb2⟩ := hv.appended (by decide) hrow hBW.size (Nat.le_refl _) hown' hgrow; have hc1 := hv1.cell0; have hf1 := hv1.frozen0)
    exact ⟨hk2.from _, hb2, ⟨_, hv2, by simpa [nums] using hr2⟩, hBW.trans hb2⟩
  case done =>
    rintro D ys W hD hys ⟨⟨v, hv, hrow⟩, hBW⟩ hK
    rw [hys] at hrow
    clear hys
    have hcv := hv.cell0
    have hcv1 := hv.cell1
    have hRv : (Kd.int .u32).R 36 W w2.heap.size (fun _ => True) v zs := Kd.R_of_own hrow (fun _ _ => trivial)
    obtain ⟨Av, cv, ev⟩ := Kd.R_slice hRv
    subst ev
    have hrd := Kd.R_reads' hRv
    have HRV := Aside0.mk hRv
    have HROW := Aside0.mk hrow
    have HHK := Aside0.mk hK
    have HCV := Aside0.mk hrd.2.2
    have HLV := Aside0.mk hrd.2.1
    have HBW := Aside0.mk hBW
    have HV := Aside0.mk hv
    clear hRv hrow hK hrd hBW hv
    have hd0 := (HBW.out.cell (p := ⟨w.heap.size, 0, none⟩) hlt).trans hc0
    have hd1 := (HBW.out.cell (p := ⟨w.heap.size, 1, none⟩) hlt).trans hc1
    have he0 := (HBW.out.frozen (p := ⟨w.heap.size, 0, none⟩) hlt).trans hf0
    have he1 := (HBW.out.frozen (p := ⟨w.heap.size, 1, none⟩) hlt).trans hf1
    clear hc0 hc1 hf0 hf1 hx0 hx1 hcut1 HR HC
    cases r with
    | true =>
      gi_wp2_with (refine ⟨trivial, ?_⟩; gi_at_call 17; refine (callsIn_wide.2 (image_Right.calls Av cv zs x1 true _ HCV.out HLV.out hright.out)).mono ?_; rintro e W2 ⟨rfl, hb3⟩; have HB3 := Aside0.mk hb3; clear hb3; have hg0 := (HB3.out.cell (World.block_lt_of_cell? W _ hd0)).trans hd0; have hg1 := (HB3.out.cell (World.block_lt_of_cell? W _ hd1)).trans hd1; have hh0 := (HB3.out.frozen (p := ⟨w.heap.size, 0, none⟩) (World.block_lt_of_cell? W _ hd0)).trans he0; have hh1 := (HB3.out.frozen (p := ⟨w.heap.size, 1, none⟩) (World.block_lt_of_cell? W _ hd1)).trans he1; have hk0 := (HB3.out.cell (World.block_lt_of_cell? W _ hcv)).trans hcv; have hk1 := (HB3.out.cell (World.block_lt_of_cell? W _ hcv1)).trans hcv1)
      obtain ⟨q1, q2, q3, q4⟩ := read_fin (a := .slice Av zs.length cv) (b := .int .i64 x1) hlt HB.out HBW.out HB3.out HHK.out (by omega) HT.out HRV.out
      refine ⟨by simp, .inl ⟨_, _, rfl, run_takeDeferred q1, ?_⟩⟩
      exact ⟨_, results_ct rfl _ _ w.heap.size 24 #[.slice Av zs.length cv, .int .i64 x1] (0, 0) _ rfl q2 Try.underlying24 rfl (by kernel_rfl), _, rfl, q3, q4⟩
    | false =>
      gi_wp2_with (refine ⟨trivial, ?_⟩; gi_at_call 17; refine (callsIn_wide.2 (image_Right.calls Av cv zs x1 false _ HCV.out HLV.out hright.out)).mono ?_; rintro e W2 ⟨rfl, hb3⟩; have HB3 := Aside0.mk hb3; clear hb3; have hg0 := (HB3.out.cell (World.block_lt_of_cell? W _ hd0)).trans hd0; have hg1 := (HB3.out.cell (World.block_lt_of_cell? W _ hd1)).trans hd1; have hh0 := (HB3.out.frozen (p := ⟨w.heap.size, 0, none⟩) (World.block_lt_of_cell? W _ hd0)).trans he0; have hh1 := (HB3.out.frozen (p := ⟨w.heap.size, 1, none⟩) (World.block_lt_of_cell? W _ hd1)).trans he1; have hk0 := (HB3.out.cell (World.block_lt_of_cell? W _ hcv)).trans hcv; have hk1 := (HB3.out.cell (World.block_lt_of_cell? W _ hcv1)).trans hcv1)
      obtain ⟨q1, q2, q3, q4⟩ := read_fin (a := .slice none 0 0) (b := .int .i64 0) hlt HB.out HBW.out HB3.out HHK.out (by omega) HT.out HRV.out
      refine ⟨by simp, .inl ⟨_, _, rfl, run_takeDeferred q1, ?_⟩⟩
      exact ⟨_, results_ct rfl _ _ w.heap.size 24 #[.slice none 0 0, .int .i64 0] (0, 0) _ rfl q2 Try.underlying24 rfl (by kernel_rfl), rfl, q4⟩
  case stop =>
    rintro D c pre W _ _ h _
    exact h.elim

/-! ### the contract -/
theorem rd_wds (s : ByteArray) (i n j : Nat) (h : j < n) : rd (wds s i n) (j : Int) = wd s (i + 4 * j) := by
  unfold rd wds
  simp [List.getD_eq_getElem?_getD, h]
theorem wds_drop2 (s : ByteArray) (i n : Nat) : (wds s i n).drop 2 = wds s (i + 8) (n - 2) := by
  match n with
  | 0 => simp [wds]
  | 1 => simp [wds]
  | n + 2 => rw [wds_succ, wds_succ]; rfl
theorem read_none (s : ByteArray) (h : readOk s = false) : readS s = ([], 0, 7) := by unfold readS; rw [h]; rfl

set_option maxHeartbeats 1000000 in
theorem image_Read.calls (k : Nat) (a0 : ByteArray) (r1 : List Int) (r2 : Int) (r3 : Int) (w : World) (h : image_Read.f k a0 = some (r1, r2, r3)) :
    Calls Try.prog 13 #[.string a0] w fun e w' => ∃ v0_ : Value, e = .returned (.tuple #[.agg #[v0_, .int .i64 r2], .int .i64 r3]) ∧ Kd.R (Kd.int .u32) 36 w' w.heap.size (fun _ => True) v0_ r1 ∧ Below w.heap.size w w' := by
  unfold image_Read.f at h
  by_cases hs : a0.size ≤ 140737488351232
  case neg => rw [if_neg hs] at h; cases h
  rw [if_pos hs] at h
  have hS : readS a0 = (r1, r2, r3) := Option.some.inj h
  have bad : readOk a0 = false → (Calls Try.prog 13 #[.string a0] w fun e w' => e = .returned (.tuple #[.agg #[.slice none 0 0, .int .i64 0], .int .i64 7]) ∧ Below w.heap.size w w') → Calls Try.prog 13 #[.string a0] w fun e w' => ∃ v0_ : Value, e = .returned (.tuple #[.agg #[v0_, .int .i64 r2], .int .i64 r3]) ∧ Kd.R (Kd.int .u32) 36 w' w.heap.size (fun _ => True) v0_ r1 ∧ Below w.heap.size w w' := by
    intro hb hc
    rw [read_none a0 hb] at hS
    simp only [Prod.mk.injEq] at hS
    obtain ⟨rfl, rfl, rfl⟩ := hS
    exact hc.mono fun e w' ⟨he, hbw⟩ => ⟨_, he, Kd.R_nil _ _ _ _ _, hbw⟩
  have hcut := cut_f a0
  cases hM : hasMark a0 with
  | false =>
    rw [hM] at hcut
    have hw : ∃ l ev, word_Words.f (a0.size + 1) a0 = some (l, ev) := by
      by_cases h4 : a0.size % 4 = 0
      · exact ⟨_, _, words_ok a0 h4 hs⟩
      · exact ⟨_, _, words_bad a0 h4⟩
    obtain ⟨l, ev, hw⟩ := hw
    exact bad (by unfold readOk; rw [hM]; rfl) (read_b1 a0 a0 _ l ev w ⟨hcut⟩ ⟨hw⟩)
  | true =>
    rw [hM] at hcut
    have h4s : 4 ≤ a0.size := by
      unfold hasMark at hM
      simp only [Bool.and_eq_true, decide_eq_true_eq] at hM
      exact hM.1
    obtain ⟨rest, hrest⟩ : ∃ r, r = a0.extract 4 a0.size := ⟨_, rfl⟩
    rw [← hrest] at hcut
    have hrs : rest.size = a0.size - 4 := by rw [hrest, ByteArray.size_extract]; omega
    have ok : readOk a0 = (decide (12 ≤ a0.size) && decide (wd a0 4 ≤ 16384) && decide (wd a0 8 ≤ 32768) && decide ((a0.size : Int) = 12 + 4 * wd a0 4)) := by unfold readOk; rw [hM]; simp
    by_cases h4 : rest.size % 4 = 0
    case neg =>
      refine bad ?_ (read_b2 a0 rest _ [] w ⟨hcut⟩ ⟨words_bad rest h4⟩)
      rw [ok]
      have : decide ((a0.size : Int) = 12 + 4 * wd a0 4) = false := decide_eq_false (by omega)
      rw [this, Bool.and_false]
    have hw := words_ok rest h4 (by omega)
    obtain ⟨m, hm⟩ : ∃ m, m = rest.size / 4 := ⟨_, rfl⟩
    have hl : wds rest 0 (rest.size / 4) = wds a0 4 m := by rw [hrest, wds_extract a0 4 0 _ (by rw [ByteArray.size_extract]; omega), ← hrest, ← hm]
    rw [hl] at hw
    have hlen : (wds a0 4 m).length = m := wds_length _ _ _
    by_cases h2 : m < 2
    · refine bad ?_ (read_b3 a0 rest _ _ w ⟨hcut⟩ ⟨hw⟩ (by omega))
      rw [ok]
      have : decide (12 ≤ a0.size) = false := decide_eq_false (by omega)
      rw [this]; rfl
    have e0 : rd (wds a0 4 m) ((0 : Nat) : Int) = wd a0 4 := rd_wds a0 4 m 0 (by omega)
    have e1 : rd (wds a0 4 m) ((1 : Nat) : Int) = wd a0 8 := rd_wds a0 4 m 1 (by omega)
    have g0 := wd_range a0 4
    have g1 := wd_range a0 8
    by_cases hne : wd a0 4 = (m : Int) - 2
    case neg =>
      refine bad ?_ (read_b4 a0 rest _ _ (wd a0 4) (wd a0 8) w ⟨hcut⟩ ⟨hw⟩ (by omega) (by omega) ⟨e0⟩ ⟨e1⟩ g0.1 g0.2 (by rw [hlen]; exact hne))
      rw [ok]
      have : decide ((a0.size : Int) = 12 + 4 * wd a0 4) = false := decide_eq_false (by omega)
      rw [this, Bool.and_false]
    have e0' : rd (wds a0 4 m) ((0 : Nat) : Int) = ((wds a0 4 m).length : Int) - 2 := by rw [e0, hlen, hne]
    by_cases hbig : wd a0 8 ≤ 32768
    case neg =>
      refine bad ?_ (read_b5 a0 rest _ _ (wd a0 8) w ⟨hcut⟩ ⟨hw⟩ (by omega) (by omega) ⟨e0'⟩ ⟨e1⟩ g1.2 (by omega))
      rw [ok]
      have : decide (wd a0 8 ≤ 32768) = false := decide_eq_false hbig
      rw [this]; simp
    have hright : image_Right.f (wds a0 12 (m - 2)) (wd a0 8) = some (decide (m - 2 ≤ 16384)) := by
      unfold image_Right.f
      rw [wds_length]
      by_cases hx : m - 2 ≤ 16384
      · rw [if_pos (by omega), if_pos g1.1]; simp [hx, hbig]
      · rw [if_neg (by omega)]; simp [hx]
    have hc := read_ok a0 rest _ (wds a0 4 m) (wds a0 12 (m - 2)) (wd a0 8) (decide (m - 2 ≤ 16384)) w ⟨hcut⟩ ⟨hw⟩ (by omega) (by omega) ⟨e0'⟩ ⟨e1⟩ g1.1 hbig ⟨wds_drop2 a0 4 m⟩ ⟨hright⟩
    by_cases hx : m - 2 ≤ 16384
    · have hok : readOk a0 = true := by
        rw [ok]
        simp only [Bool.and_eq_true, decide_eq_true_eq]
        omega
      have hS2 : readS a0 = (wds a0 12 (m - 2), wd a0 8, 0) := by
        unfold readS
        rw [hok, if_pos rfl]
        congr 2
        omega
      rw [hS2] at hS
      simp only [Prod.mk.injEq] at hS
      obtain ⟨rfl, rfl, rfl⟩ := hS
      rw [decide_eq_true hx] at hc
      refine hc.mono fun e w' ⟨v0, he, hR, hbw⟩ => ⟨v0, he, hR rfl, hbw⟩
    · refine bad ?_ (hc.mono fun e w' ⟨v0, he, hR, hbw⟩ => ⟨?_, hbw⟩)
      · rw [ok]
        have : decide (wd a0 4 ≤ 16384) = false := decide_eq_false (by omega)
        rw [this]; simp
      · rw [decide_eq_false hx] at he
        exact he
end Go.Proofs.Ytpnpepimcnidoaa.PI
