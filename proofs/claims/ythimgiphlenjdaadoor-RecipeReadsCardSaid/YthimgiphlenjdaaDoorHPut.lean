/- recipe.Put's memory: the recipe's box, the box of the words' slice; the closure puts one word more. -/
import Derived.Test.YthimgiphlenjdaaDoorHWrite
import Derived.Test.YthimgiphlenjdaaDoorPIx0
set_option linter.unusedVariables false
namespace Go.Proofs.YthimgiphlenjdaaDoor.HX
open Go.RowKit Go.Proofs.YthimgiphlenjdaaDoorW.PrintWords PI
/-- The boxes stand: gr the recipe's, gl that of the slice, whose row is the call's own and holds the words ls. -/
structure PutSt (w0 : World) (gr gl : Nat) (rs : Array Value) (ls : List Int) (w : World) : Prop where
  hb : Below w0.heap.size w0 w
  kr : w.heap[gr]? = some (.cells rs 46 (0, 0))
  kl : ∃ A c, w.heap[gl]? = some (.cells #[.slice A ls.length c] 60 (0, 0)) ∧ (Kd.int .u32).R 22 w w0.heap.size (fun _ => True) (.slice A ls.length c) ls
theorem PutSt.below {w0 w w1 : World} {gr gl : Nat} {rs : Array Value} {ls : List Int} (h : PutSt w0 gr gl rs ls w) (hb : Below w.heap.size w w1) : PutSt w0 gr gl rs ls w1 := by
  obtain ⟨A, c, k, r⟩ := h.kl
  exact ⟨below_step h.hb hb, blk_below h.kr hb, A, c, blk_below k hb, Kd.R_below r hb⟩
theorem PutSt.drew {w0 w : World} {gr gl : Nat} {rs : Array Value} {ls : List Int} (h : PutSt w0 gr gl rs ls w) : PutSt w0 gr gl rs ls w.drew := h.below (below_drew (Below.refl _ _))
theorem PutSt.drewN {w0 w : World} {gr gl : Nat} {rs : Array Value} {ls : List Int} (h : PutSt w0 gr gl rs ls w) (m : Nat) : PutSt w0 gr gl rs ls (w.drewN m) := h.below (pw_below_drewN (Below.refl _ _) m)
theorem PutSt.alloc {w0 w : World} {gr gl : Nat} {rs : Array Value} {ls : List Int} (h : PutSt w0 gr gl rs ls w) (o : Obj) : PutSt w0 gr gl rs ls (w.alloc o) := h.below (below_alloc (Below.refl _ _) o)
theorem ne_types {w : World} {g g' t t' : Nat} {cs cs' : Array Value} (h : w.heap[g]? = some (.cells cs t (0, 0))) (h' : w.heap[g']? = some (.cells cs' t' (0, 0))) (ht : t ≠ t') : g ≠ g' := by
  rintro rfl
  rw [h] at h'
  injection h' with h'
  injection h' with _ h'
  exact ht h'
theorem store1 {P : Program} {ops : Array Oper} {o : Oper} {a : Act} {Q : Exit → Act → World → Prop} {Kc : Act → World → Prop} {W w1 : World} (hw : Region.wanted o (yielded ops a.tmps) = true) (hN : o.dst = none) (hrun : (execOp a.eval o).run P W = .ok .skip w1) (h : Kc a w1) : if Region.wanted o (yielded ops a.tmps) = true then Oper.wp P o a W Kc Q else Kc (a.put none undef) W := by
  rw [if_pos hw]
  unfold Oper.wp
  rw [hrun]
  show Kc (a.put o.dst undef) w1
  rw [hN]
  exact h
theorem gen_q {Q : Exit → Act → World → Prop} {e : Exit} {a : Act} {w : World} (F : World → Prop) (hF : F w) (h : ∀ w', F w' → Q e a w') : Q e a w := h w hF
/-- Behind an append, whose result is stored into the box. -/
theorem PutSt.stored {w0 W w1 : World} {gr gl : Nat} {rs : Array Value} {ls ms : List Int} {v v1 : Value} (hgl : w0.heap.size ≤ gl) (kr : W.heap[gr]? = some (.cells rs 46 (0, 0))) (kl : W.heap[gl]? = some (.cells #[v] 60 (0, 0)))
    (hR : (Kd.int .u32).R 22 W w0.heap.size (fun _ => True) v ls) (hb : Below w0.heap.size w0 w1) (hg : W.grownBy w1 v.ownBlock) (ho : (Kd.int .u32).R 22 w1 w0.heap.size (fun _ => True) v1 ms) : PutSt w0 gr gl rs ms (w1.setCell ⟨gl, 0, none⟩ v1) := by
  have kl1 := blk_grown kl hg (Kd.R_ne hR kl (by decide))
  have kr1 := blk_grown kr hg (Kd.R_ne hR kr (by decide))
  obtain ⟨A, c, rfl⟩ := Kd.R_slice ho
  exact ⟨below_set hb hgl, (blk_far kr1 (by show gr ≠ gl; exact ne_types kr1 kl1 (by decide)) _), A, c, (blk_put kl1 0 _ rfl), Kd.R_set ho kl1 (by intro q hq; simp only [List.mem_cons] at hq; rcases hq with rfl | hq; decide; exact absurd hq (by show q ∉ (Kd.int .u32).E; exact List.not_mem_nil)) 0 _⟩
theorem PutSt.set24 {w0 w : World} {gr gl gd : Nat} {rs : Array Value} {ls : List Int} {cs : Array Value} (h : PutSt w0 gr gl rs ls w) (hd : w.heap[gd]? = some (.cells cs 24 (0, 0))) (hge : w0.heap.size ≤ gd) (j : Nat) (u : Value) : PutSt w0 gr gl rs ls (w.setCell ⟨gd, j, none⟩ u) := by
  obtain ⟨A, c, k, r⟩ := h.kl
  exact ⟨below_set h.hb hge, blk_far h.kr (by show gr ≠ gd; exact ne_types h.kr hd (by decide)) _, A, c, blk_far k (by show gl ≠ gd; exact ne_types k hd (by decide)) _, Kd.R_set r hd (by intro q hq; simp only [List.mem_cons] at hq; rcases hq with rfl | hq; decide; exact absurd hq (by show q ∉ (Kd.int .u32).E; exact List.not_mem_nil)) j u⟩
theorem PutSt.set24x4 {w0 w : World} {gr gl gd : Nat} {rs : Array Value} {ls : List Int} {cs : Array Value} (h : PutSt w0 gr gl rs ls w) (hd : w.heap[gd]? = some (.cells cs 24 (0, 0))) (hge : w0.heap.size ≤ gd) (u0 u1 u2 u3 : Value) :
    PutSt w0 gr gl rs ls ((((w.setCell ⟨gd, 0, none⟩ u0).setCell ⟨gd, 1, none⟩ u1).setCell ⟨gd, 2, none⟩ u2).setCell ⟨gd, 3, none⟩ u3) :=
  (((h.set24 hd hge 0 u0).set24 (blk_set hd 0 u0) hge 1 u1).set24 (blk_set (blk_set hd 0 u0) 1 u1) hge 2 u2).set24 (blk_set (blk_set (blk_set hd 0 u0) 1 u1) 2 u2) hge 3 u3
/-- Four words in a block, read as a row. -/
theorem reads4 {w : World} {g o : Nat} {cs : Array Value} {t : TypeId} (h : w.heap[g]? = some (.cells cs t (0, 0))) (x0 x1 x2 x3 : Int) (h0 : cs[o]? = some (.int .u32 x0)) (h1 : cs[o + 1]? = some (.int .u32 x1)) (h2 : cs[o + 2]? = some (.int .u32 x2)) (h3 : cs[o + 3]? = some (.int .u32 x3)) :
    ReadsRow (fun (x : Int) (c : List Value) => c = [Value.int .u32 x]) 1 w (some ⟨g, o, none⟩) 4 [x0, x1, x2, x3] := by
  have e : ∀ k : Nat, (⟨g, o, none⟩ : Addr).add k = ⟨g, o + k, none⟩ := fun k => by unfold Addr.add; split <;> simp_all
  refine ⟨rfl, by decide, fun _ => ⟨_, rfl, fun j p hj => ⟨[.int .u32 p], rfl, rfl, fun i u hu => ?_⟩⟩⟩
  have hi : i = 0 ∧ u = .int .u32 p := by
    cases i with
    | zero => exact ⟨rfl, (Option.some.inj hu).symm⟩
    | succ i => simp at hu
  obtain ⟨rfl, rfl⟩ := hi
  rw [e, Nat.mul_one, Nat.add_zero, blk_cell h]
  match j, hj with
  | 0, hj => obtain rfl := Option.some.inj hj; exact h0
  | 1, hj => obtain rfl := Option.some.inj hj; exact h1
  | 2, hj => obtain rfl := Option.some.inj hj; exact h2
  | 3, hj => obtain rfl := Option.some.inj hj; exact h3
  | j + 4, hj => simp at hj
set_option maxHeartbeats 4000000 in
/-- One word more. -/
theorem put1_calls (w0 : World) (gr gl : Nat) (rs : Array Value) (ls : List Int) (n : Int) (w : World) (h : PutSt w0 gr gl rs ls w) (hgl : w0.heap.size ≤ gl) (hl : ls.length ≤ 1000) :
    Calls Tryd.prog 59 #[.int .i64 n, .pointer (some ⟨gl, 0, none⟩)] w fun e w' => e = .returned (.tuple #[]) ∧ PutSt w0 gr gl rs (ls ++ [n % 4294967296]) w' := by
  obtain ⟨hb, kr, A, c, kl, hR⟩ := h
  have cL : w.cell? ⟨gl, 0, none⟩ = some (.slice A ls.length c) := (blk_cell kl 0).trans rfl
  have HB := Aside0.mk hb
  have KR := Aside0.mk kr
  have KL := Aside0.mk kl
  have HR := Aside0.mk hR
  have HL := Aside0.mk hl
  have HGL := Aside0.mk hgl
  clear hb kr kl hR hl hgl
  go_enter Tryd.func59, Tryd.ntmps59
  go_wp2_with (first | ((with_reducible refine gate_builtin (b := .append) (xs := #[.tmp 3, .tmp 6]) rfl ?_); at_builtin; refine Kd.R_append (Kd.int .u32) (w0 := w0) w0.heap.size rfl (.tmp 3) (.tmp 6) 60 22 (.int .u32 0) 4 rfl Tryd.underlying60 info22 rfl (by decide) (by omega) (.slice A ls.length c) ls (n % 4294967296) [.int .u32 (n % 4294967296)] (fun _ => True) (fun _ => False) rfl rfl ?aP (fun _ hk => hk.elim) ?aF ?aO ?aB ?aS ?aL ?_; (case aP => exact rfl); (case aB => exact HB.out); (case aF => exact (fun _ _ => trivial)); (case aO => exact HR.out); (case aS => exact below_size HB.out); (case aL => have := HL.out; omega); intro v1 w1 ho hb hg hat; have kl1 := blk_grown KL.out hg (Kd.R_ne HR.out KL.out (by decide)); have cz_ : w1.cell? ⟨gl, 0, none⟩ = some (.slice A ls.length c) := (blk_cell kl1 0).trans rfl; have fz_ := blk_frozen kl1 0; have N0 := Aside0.mk ho; have N1 := Aside0.mk hb; have N2 := Aside0.mk hg; obtain ⟨A1, c1, e1⟩ := Kd.R_slice ho; subst e1; clear ho hb hg hat kl1))
  go_end0
  rw [show ls.length + 1 = (ls ++ [n % 4294967296]).length by simp]
  exact ⟨rfl, PutSt.stored HGL.out KR.out KL.out HR.out N1.out N2.out N0.out⟩
end Go.Proofs.YthimgiphlenjdaaDoor.HX
