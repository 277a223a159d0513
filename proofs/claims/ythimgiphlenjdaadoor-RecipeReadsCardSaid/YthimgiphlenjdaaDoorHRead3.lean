/- recipe.Read's memory: the result's box, the taker's, the recipe's; its two rows. -/
import Derived.Test.YthimgiphlenjdaaDoorHRead2
import Derived.Test.YthimgiphlenjdaaDoorPureRight
set_option linter.unusedVariables false
namespace Go.Proofs.YthimgiphlenjdaaDoor.HX
open Go.RowKit Go.Proofs.YthimgiphlenjdaaDoorW.PrintWords Go.Proofs.YthimgiphlenjdaaDoorW.PrintLast PI
def okR (g2 gt g8 k : Nat) : Prop := k ≠ g2 ∧ k ≠ gt ∧ k ≠ g8
def recCells (r : Rec) (vP vI : Value) : Array Value := #[.int .i64 r.tool, .int .u32 r.i0, .int .u32 r.i1, .int .u32 r.i2, .int .u32 r.i3, vP, vI, .int .i64 r.fuel]
def zero46 : Array Value := #[.int .i64 0, .int .u32 0, .int .u32 0, .int .u32 0, .int .u32 0, .slice none 0 0, .slice none 0 0, .int .i64 0]
structure RdSt (w3 : World) (g2 gt g8 : Nat) (t : Tk) (r : Rec) (vP vI : Value) (w : World) : Prop where
  hp : TkSt w3 gt t w
  h2 : g2 < w3.heap.size
  h8 : gt < g8
  k2 : w.heap[g2]? = some (.cells zero46 46 (0, 0))
  k8 : w.heap[g8]? = some (.cells (recCells r vP vI) 46 (0, 0))
  rP : (Kd.int .i64).R 3 w w3.heap.size (okR g2 gt g8) vP r.ps
  rI : k24.R 24 w w3.heap.size (okR g2 gt g8) vI r.ds
section
variable {w3 w w' w1 : World} {g2 gt g8 : Nat} {t t' : Tk} {r r' : Rec} {vP vI : Value}
theorem RdSt.below (h : RdSt w3 g2 gt g8 t r vP vI w) (hb : Below w.heap.size w w') : RdSt w3 g2 gt g8 t r vP vI w' :=
  ⟨h.hp.below hb, h.h2, h.h8, blk_below h.k2 hb, blk_below h.k8 hb, Kd.R_below h.rP hb, Kd.R_below h.rI hb⟩
theorem RdSt.drew (h : RdSt w3 g2 gt g8 t r vP vI w) : RdSt w3 g2 gt g8 t r vP vI w.drew := h.below (below_drew (Below.refl _ _))
theorem RdSt.call (h : RdSt w3 g2 gt g8 t r vP vI w) (hp : TkSt w3 gt t' w') (hk : KeepBut w w' gt none) : RdSt w3 g2 gt g8 t' r vP vI w' := by
  have h1 := h.h2
  have h3 := h.hp.hg
  have h4 := h.h8
  exact ⟨hp, h1, h4, KeepBut.blk hk h.k2 (by omega), KeepBut.blk hk h.k8 (by omega), Kd.R_keep h.rP hk (fun k ho => ho.2.1), Kd.R_keep h.rI hk (fun k ho => ho.2.1)⟩
theorem RdSt.set (h : RdSt w3 g2 gt g8 t r vP vI w) (i : Nat) (u : Value) (hc : (recCells r vP vI).setIfInBounds i u = recCells r' vP vI) (hps : r'.ps = r.ps) (hds : r'.ds = r.ds) : RdSt w3 g2 gt g8 t r' vP vI (w.setCell ⟨g8, i, none⟩ u) := by
  have h1 := h.h2
  have h3 := h.hp.hg
  have h4 := h.h8
  refine ⟨h.hp.far (by omega) (by omega) u, h1, h4, blk_far h.k2 (by show g2 ≠ g8; omega) u, ?_, ?_, ?_⟩
  · have := blk_set h.k8 i u
    rw [hc] at this
    exact this
  · rw [hps]
    exact Kd.R_far h.rP (fun k ho => ho.2.2) u
  · rw [hds]
    exact Kd.R_far h.rI (fun k ho => ho.2.2) u
theorem RdSt.passes (h : RdSt w3 g2 gt g8 t r vP vI w) {v1 : Value} (hg : w.grownBy w1 vP.ownBlock) (hb : Below w3.heap.size w3 w1) {ps' : List Int} (ho : (Kd.int .i64).R 3 w1 w3.heap.size (okR g2 gt g8) v1 ps') :
    RdSt w3 g2 gt g8 t { r with ps := ps' } v1 vI (w1.setCell ⟨g8, 5, none⟩ v1) := by
  have h1 := h.h2
  have h3 := h.hp.hg
  have h4 := h.h8
  refine ⟨(h.hp.grown hg hb (Kd.R_away h.rP (fun k ho => ho.2.1))).far (by omega) (by omega) _, h1, h4, blk_far (blk_grown h.k2 hg (Kd.R_away h.rP (fun k ho => ho.1))) (by show g2 ≠ g8; omega) _, blk_put (blk_grown h.k8 hg (Kd.R_away h.rP (fun k ho => ho.2.2))) 5 _ rfl, Kd.R_far ho (fun k ho => ho.2.2) _, Kd.R_far (Kd.R_over h.rI h.rP (by intro q hq; rcases List.mem_cons.1 hq with rfl | hq; decide; exact absurd hq (show q ∉ k24.E from List.not_mem_nil)) hg) (fun k ho => ho.2.2) _⟩
theorem RdSt.inputs (h : RdSt w3 g2 gt g8 t r vP vI w) {v1 : Value} (hg : w.grownBy w1 vI.ownBlock) (hb : Below w3.heap.size w3 w1) {ds' : List S24} (ho : k24.R 24 w1 w3.heap.size (okR g2 gt g8) v1 ds') :
    RdSt w3 g2 gt g8 t { r with ds := ds' } vP v1 (w1.setCell ⟨g8, 6, none⟩ v1) := by
  have h1 := h.h2
  have h3 := h.hp.hg
  have h4 := h.h8
  refine ⟨(h.hp.grown hg hb (Kd.R_away h.rI (fun k ho => ho.2.1))).far (by omega) (by omega) _, h1, h4, blk_far (blk_grown h.k2 hg (Kd.R_away h.rI (fun k ho => ho.1))) (by show g2 ≠ g8; omega) _, blk_put (blk_grown h.k8 hg (Kd.R_away h.rI (fun k ho => ho.2.2))) 6 _ rfl, Kd.R_far (Kd.R_over h.rP h.rI (by intro q hq; rcases List.mem_cons.1 hq with rfl | hq; decide; exact absurd hq (show q ∉ (Kd.int .i64).E from List.not_mem_nil)) hg) (fun k ho => ho.2.2) _, Kd.R_far ho (fun k ho => ho.2.2) _⟩
theorem RdSt.fresh (h : RdSt w3 g2 gt g8 t r vP vI w) : ∀ k, w.heap.size ≤ k → okR g2 gt g8 k := fun k hk => by
  have h1 := blk_lt h.k2
  have h3 := h.hp.lt
  have h4 := blk_lt h.k8
  exact ⟨by omega, by omega, by omega⟩
theorem RdSt.init (h : RdSt w3 g2 gt g8 t ⟨0, 0, 0, 0, 0, [], [], 0⟩ (.slice none 0 0) (.slice none 0 0) w) (x : Int) : RdSt w3 g2 gt g8 t ⟨x, 0, 0, 0, 0, [], [], 0⟩ (.slice none 0 0) (.slice none 0 0)
    ((((((((w.setCell ⟨g8, 0, none⟩ (.int .i64 x)).setCell ⟨g8, 1, none⟩ (.int .u32 0)).setCell ⟨g8, 2, none⟩ (.int .u32 0)).setCell ⟨g8, 3, none⟩ (.int .u32 0)).setCell ⟨g8, 4, none⟩ (.int .u32 0)).setCell ⟨g8, 5, none⟩ (.slice none 0 0)).setCell ⟨g8, 6, none⟩ (.slice none 0 0)).setCell ⟨g8, 7, none⟩ (.int .i64 0)) := by
  have h0 := h.set (r' := ⟨x, 0, 0, 0, 0, [], [], 0⟩) 0 (.int .i64 x) rfl rfl rfl
  have h1 := h0.set (r' := ⟨x, 0, 0, 0, 0, [], [], 0⟩) 1 (.int .u32 0) rfl rfl rfl
  have h2 := h1.set (r' := ⟨x, 0, 0, 0, 0, [], [], 0⟩) 2 (.int .u32 0) rfl rfl rfl
  have h3 := h2.set (r' := ⟨x, 0, 0, 0, 0, [], [], 0⟩) 3 (.int .u32 0) rfl rfl rfl
  have h4 := h3.set (r' := ⟨x, 0, 0, 0, 0, [], [], 0⟩) 4 (.int .u32 0) rfl rfl rfl
  have h5 := h4.set (r' := ⟨x, 0, 0, 0, 0, [], [], 0⟩) 5 (.slice none 0 0) rfl rfl rfl
  have h6 := h5.set (r' := ⟨x, 0, 0, 0, 0, [], [], 0⟩) 6 (.slice none 0 0) rfl rfl rfl
  exact h6.set (r' := ⟨x, 0, 0, 0, 0, [], [], 0⟩) 7 (.int .i64 0) rfl rfl rfl
theorem RdSt.img {x : Int} (h : RdSt w3 g2 gt g8 t ⟨x, 0, 0, 0, 0, [], [], 0⟩ vP vI w) (d : S24) : RdSt w3 g2 gt g8 t ⟨x, d.f0, d.f1, d.f2, d.f3, [], [], 0⟩ vP vI
    ((((w.setCell ⟨g8, 1, none⟩ (.int .u32 d.f0)).setCell ⟨g8, 2, none⟩ (.int .u32 d.f1)).setCell ⟨g8, 3, none⟩ (.int .u32 d.f2)).setCell ⟨g8, 4, none⟩ (.int .u32 d.f3)) := by
  have h0 := h.set (r' := ⟨x, d.f0, 0, 0, 0, [], [], 0⟩) 1 (.int .u32 d.f0) rfl rfl rfl
  have h1 := h0.set (r' := ⟨x, d.f0, d.f1, 0, 0, [], [], 0⟩) 2 (.int .u32 d.f1) rfl rfl rfl
  have h2 := h1.set (r' := ⟨x, d.f0, d.f1, d.f2, 0, [], [], 0⟩) 3 (.int .u32 d.f2) rfl rfl rfl
  exact h2.set (r' := ⟨x, d.f0, d.f1, d.f2, d.f3, [], [], 0⟩) 4 (.int .u32 d.f3) rfl rfl rfl
theorem RdSt.fuel {x a b c d f : Int} (h : RdSt w3 g2 gt g8 t ⟨x, a, b, c, d, [], [], f⟩ vP vI w) (y : Int) : RdSt w3 g2 gt g8 t ⟨x, a, b, c, d, [], [], y⟩ vP vI (w.setCell ⟨g8, 7, none⟩ (.int .i64 y)) :=
  h.set (r' := ⟨x, a, b, c, d, [], [], y⟩) 7 (.int .i64 y) rfl rfl rfl
theorem R_far8 {α : Type} {d : Kd α} {e : Nat} {base b' g : Nat} {ok : Nat → Prop} {v : Value} {xs : List α} (h : d.R e w base ok v xs) (hok : ∀ k, ok k → k ≠ g) (hb : b' ≤ base) (u0 u1 u2 u3 u4 u5 u6 u7 : Value) : d.R e
    ((((((((w.setCell ⟨g, 0, none⟩ u0).setCell ⟨g, 1, none⟩ u1).setCell ⟨g, 2, none⟩ u2).setCell ⟨g, 3, none⟩ u3).setCell ⟨g, 4, none⟩ u4).setCell ⟨g, 5, none⟩ u5).setCell ⟨g, 6, none⟩ u6).setCell ⟨g, 7, none⟩ u7) b' (fun _ => True) v xs :=
  Kd.R_lower (Kd.R_mono (Kd.R_far (Kd.R_far (Kd.R_far (Kd.R_far (Kd.R_far (Kd.R_far (Kd.R_far (Kd.R_far h hok _) hok _) hok _) hok _) hok _) hok _) hok _) hok _) (fun _ _ => trivial)) hb
end
section
variable {P : Program} {ops : Array Oper} {Q : Exit → Act → World → Prop}
theorem goesM_ {oi : Oper} {N : Option Tmp} {a : Act} {w : World} {K : Act → World → Prop} {f : FuncId} {fn : Func} {x : Operand} {ts : Array TypeId} (p : Value) (hf : P.funcs[f]? = some fn) (hname : (fn.name == "runtime.NumGoroutine") = false) (hb : fn.body.isSome = true)
    (hw : Region.wanted oi (yielded ops a.tmps) = true) (hN : oi.dst = N) (hop : oi.op = .call { callee := .value x, args := #[], argTypes := ts }) (hx : a.eval x = .func (.func f) #[p] #[])
    (h : Calls P f #[p] w fun e w' => ∃ v, e = .returned v ∧ K (a.put N v) w') : if Region.wanted oi (yielded ops a.tmps) = true then Oper.wp P oi a w K Q else K (a.put N undef) w := by
  refine call_ f #[p] hw hN ?_ h
  have he := enters_ hf hname hb #[p] w
  unfold execOp
  simp [hop, resolve, Deferred.ofValue, invoke, hx, he]
end
theorem toListInj {s t : ByteArray} (h : s.toList = t.toList) : s = t := by
  rw [Lib.toList_data, Lib.toList_data] at h
  exact ByteArray.ext (Array.toList_inj.1 h)
theorem toList_82 (s : ByteArray) (h : s.toList = [82]) : s = (⟨#[82]⟩ : ByteArray) := toListInj (h.trans (by rw [Lib.toList_data]))
/-- Passes read one by one. -/
def Tk.psN (t : Tk) : Nat → List Int × Tk
  | 0 => ([], t)
  | j + 1 => ((t.psN j).1 ++ [wrap64 (t.psN j).2.w.1], (t.psN j).2.w.2)
/-- Inputs read one by one. -/
def Tk.dsN (t : Tk) : Nat → List S24 × Tk
  | 0 => ([], t)
  | j + 1 => ((t.dsN j).1 ++ [(t.dsN j).2.d.1], (t.dsN j).2.d.2)
def Tk.Ok (t : Tk) : Prop := ∀ x ∈ t.xs, 0 ≤ x ∧ x < 4294967296
theorem Tk.Ok.w {t : Tk} (h : t.Ok) : t.w.2.Ok ∧ 0 ≤ t.w.1 ∧ t.w.1 < 4294967296 := by
  obtain ⟨xs, s⟩ := t
  cases xs with
  | nil => exact ⟨fun x hx => absurd hx List.not_mem_nil, (by show (0 : Int) ≤ 0; decide), (by show (0 : Int) < 4294967296; decide)⟩
  | cons x l => exact ⟨fun y hy => h y (List.mem_cons_of_mem _ hy), h x List.mem_cons_self⟩
theorem Tk.Ok.d {t : Tk} (h : t.Ok) : t.d.2.Ok := h.w.1.w.1.w.1.w.1
theorem Tk.Ok.few {t : Tk} (h : t.Ok) : t.few.2.Ok ∧ 0 ≤ t.few.1 ∧ t.few.1 ≤ 20 := by
  obtain ⟨h1, h2, h3⟩ := h.w
  unfold Tk.few
  split
  · exact ⟨h1, (by show (0 : Int) ≤ 0; decide), (by show (0 : Int) ≤ 20; decide)⟩
  · rename_i h4
    have e : wrap64 t.w.1 = t.w.1 := by unfold wrap64; omega
    exact ⟨h1, by show 0 ≤ wrap64 t.w.1; omega, by show wrap64 t.w.1 ≤ 20; omega⟩
theorem Tk.Ok.ps {t : Tk} (h : t.Ok) : ∀ j, (t.psN j).2.Ok
  | 0 => h
  | j + 1 => (Tk.Ok.ps h j).w.1
theorem Tk.Ok.ds {t : Tk} (h : t.Ok) : ∀ j, (t.dsN j).2.Ok
  | 0 => h
  | j + 1 => (Tk.Ok.ds h j).d
theorem Tk.psN_length (t : Tk) : ∀ j, (t.psN j).1.length = j
  | 0 => rfl
  | j + 1 => by
    show ((t.psN j).1 ++ [_]).length = _
    rw [List.length_append, Tk.psN_length t j]
    rfl
theorem Tk.dsN_length (t : Tk) : ∀ j, (t.dsN j).1.length = j
  | 0 => rfl
  | j + 1 => by
    show ((t.dsN j).1 ++ [_]).length = _
    rw [List.length_append, Tk.dsN_length t j]
    rfl
/-- The taker behind the head; how many passes; the taker behind them; how many inputs; the taker behind them. -/
def tk3 (l : List Int) : Tk := (⟨l, false⟩ : Tk).w.2.d.2.w.2
def tkN (l : List Int) : Nat := (tk3 l).few.1.toNat
def tk5 (l : List Int) : Tk := ((tk3 l).few.2.psN (tkN l)).2
def tkM (l : List Int) : Nat := (tk5 l).few.1.toNat
def tk7 (l : List Int) : Tk := ((tk5 l).few.2.dsN (tkM l)).2
def img (l : List Int) : S24 := (⟨l, false⟩ : Tk).w.2.d.1
/-- What the words say. -/
def readR (l : List Int) : Rec :=
  ⟨wrap64 (⟨l, false⟩ : Tk).w.1, (img l).f0, (img l).f1, (img l).f2, (img l).f3, ((tk3 l).few.2.psN (tkN l)).1, ((tk5 l).few.2.dsN (tkM l)).1, wrap64 (⟨l, false⟩ : Tk).w.2.d.2.w.1⟩
def zeroR : Rec := ⟨0, 0, 0, 0, 0, [], [], 0⟩
/-- What recipe.Read answers to the words. -/
def readL (l : List Int) : Rec × Int := if (tk7 l).short = false ∧ (tk7 l).xs = [] ∧ (readR l).right then (readR l, 0) else (zeroR, 7)
theorem readL_eq (l : List Int) (x0 : Int) (t1 : Tk) (d : S24) (t2 : Tk) (xf : Int) (t3 : Tk) (N : Nat) (t4 : Tk) (M : Nat) (t6 : Tk) (h01 : (⟨l, false⟩ : Tk).w = (x0, t1)) (h12 : t1.d = (d, t2)) (h23 : t2.w = (xf, t3)) (h34 : t3.few = ((N : Int), t4)) (h56 : (t4.psN N).2.few = ((M : Int), t6)) :
    readL l = if (t6.dsN M).2.short = false ∧ (t6.dsN M).2.xs = [] ∧ (Rec.mk (wrap64 x0) d.f0 d.f1 d.f2 d.f3 (t4.psN N).1 (t6.dsN M).1 (wrap64 xf)).right then (⟨wrap64 x0, d.f0, d.f1, d.f2, d.f3, (t4.psN N).1, (t6.dsN M).1, wrap64 xf⟩, 0) else (zeroR, 7) := by
  have e1 : tk3 l = t3 := by
    unfold tk3
    rw [h01]
    show t1.d.2.w.2 = t3
    rw [h12]
    show t2.w.2 = t3
    rw [h23]
  have e2 : tkN l = N := by
    unfold tkN
    rw [e1, h34]
    exact Int.toNat_natCast N
  have e3 : tk5 l = (t4.psN N).2 := by
    unfold tk5
    rw [e1, e2, h34]
  have e4 : tkM l = M := by
    unfold tkM
    rw [e3, h56]
    exact Int.toNat_natCast M
  have e5 : tk7 l = (t6.dsN M).2 := by
    unfold tk7
    rw [e3, e4, h56]
  have e6 : img l = d := by
    unfold img
    rw [h01]
    show t1.d.1 = d
    rw [h12]
  have e7 : readR l = ⟨wrap64 x0, d.f0, d.f1, d.f2, d.f3, (t4.psN N).1, (t6.dsN M).1, wrap64 xf⟩ := by
    unfold readR
    rw [e1, e2, e3, e4, e6, h34, h56, h01]
    show Rec.mk (wrap64 x0) _ _ _ _ _ _ (wrap64 t1.d.2.w.1) = _
    rw [h12]
    show Rec.mk (wrap64 x0) _ _ _ _ _ _ (wrap64 t2.w.1) = _
    rw [h23]
  unfold readL
  rw [e5, e7]
end Go.Proofs.YthimgiphlenjdaaDoor.HX
