/- recipe.Read's taker: the next word, the next four, a number of things. -/
import Derived.Test.YthimgiphlenjdaaDoorHPut
set_option linter.unusedVariables false
namespace Go.Proofs.YthimgiphlenjdaaDoor.HX
open Go.RowKit Go.Proofs.YthimgiphlenjdaaDoorW.PrintWords PI
/-- What the taker holds: the words that are left; whether one was missing. -/
structure Tk where
  xs : List Int
  short : Bool
def Tk.w (t : Tk) : Int × Tk := match t.xs with
  | [] => (0, ⟨[], true⟩)
  | x :: l => (x, ⟨l, t.short⟩)
def Tk.d (t : Tk) : S24 × Tk := (⟨t.w.1, t.w.2.w.1, t.w.2.w.2.w.1, t.w.2.w.2.w.2.w.1⟩, t.w.2.w.2.w.2.w.2)
def Tk.few (t : Tk) : Int × Tk := if t.w.1 > 20 then (0, ⟨t.w.2.xs, true⟩) else (wrap64 t.w.1, t.w.2)
/-- The taker's box; the words lie in w1, where the box was not yet. -/
structure TkSt (w1 : World) (gt : Nat) (t : Tk) (w : World) : Prop where
  hb : Below w1.heap.size w1 w
  hg : w1.heap.size ≤ gt
  kt : ∃ A c, w.heap[gt]? = some (.cells #[.slice A t.xs.length c, .bool t.short] 83 (0, 0)) ∧ (Kd.int .u32).C w1 A t.xs.length t.xs ∧ t.xs.length ≤ c
theorem TkSt.below {w1 w w' : World} {gt : Nat} {t : Tk} (h : TkSt w1 gt t w) (hb : Below w.heap.size w w') : TkSt w1 gt t w' := by
  obtain ⟨A, c, k, r⟩ := h.kt
  exact ⟨below_step h.hb hb, h.hg, A, c, blk_below k hb, r⟩
theorem TkSt.lt {w1 w : World} {gt : Nat} {t : Tk} (h : TkSt w1 gt t w) : gt < w.heap.size := by
  obtain ⟨A, c, k, r⟩ := h.kt
  exact blk_lt k
theorem TkSt.far {w1 w : World} {gt g j : Nat} {t : Tk} (h : TkSt w1 gt t w) (hge : w1.heap.size ≤ g) (hne : gt ≠ g) (u : Value) : TkSt w1 gt t (w.setCell ⟨g, j, none⟩ u) := by
  obtain ⟨A, c, k, r⟩ := h.kt
  exact ⟨below_set h.hb hge, h.hg, A, c, blk_far k hne u, r⟩
theorem TkSt.drew {w1 w : World} {gt : Nat} {t : Tk} (h : TkSt w1 gt t w) : TkSt w1 gt t w.drew := h.below (below_drew (Below.refl _ _))
theorem TkSt.grown {w1 w w' : World} {gt : Nat} {t : Tk} {row : Option Nat} (h : TkSt w1 gt t w) (hg : w.grownBy w' row) (hb : Below w1.heap.size w1 w') (hne : some gt ≠ row) : TkSt w1 gt t w' := by
  obtain ⟨A, c, k, r⟩ := h.kt
  exact ⟨hb, h.hg, A, c, blk_grown k hg hne, r⟩
theorem cut1 {w1 : World} (A : Option Addr) (c : Nat) (x : Int) (l : List Int) (hR : (Kd.int .u32).C w1 A (x :: l).length (x :: l)) (hc : l.length + 1 ≤ c) :
    ∃ A', (∀ W : World, (Instr.slice 60 (.slice A (l.length + 1) c) (some (.int .i64 1)) none none).run Tryd.prog W = .ok (.slice A' l.length (c - 1)) W) ∧ (Kd.int .u32).C w1 A' l.length l ∧ l.length ≤ c - 1 := by
  obtain ⟨i, hi, hh⟩ := Option.map_eq_some_iff.1 info22
  simp only [Prod.mk.injEq] at hh
  obtain ⟨hz, hsz, hby⟩ := hh
  refine ⟨if c = (1 : Int).toNat then A else A.map (·.add ((1 : Int).toNat * 1)), fun W => ?_, ?_, by omega⟩
  · have h := cut_from (P := Tryd.prog) 60 22 .i64 Tryd.underlying60 hi 1 hsz A (l.length + 1) c 1 (by omega) (by omega) W
    simpa using h
  · have h := Kd.C_drop (m := 1) hR (by simp) (show (x :: l).length ≤ c from hc)
    exact h
theorem KeepBut.set {w : World} {g j : Nat} (u : Value) : KeepBut w (w.setCell ⟨g, j, none⟩ u) g none := ⟨by simp [World.size_setCell], fun i hi hne _ => Below.heap_setCell w ⟨g, j, none⟩ u i hne⟩
theorem KeepBut.trans0 {w w1 w2 : World} {g : Nat} (h : KeepBut w w1 g none) (k : KeepBut w1 w2 g none) : KeepBut w w2 g none := ⟨Nat.le_trans h.1 k.1, fun i hi h1 h2 => (k.2 i (Nat.lt_of_lt_of_le hi h.1) h1 h2).trans (h.2 i hi h1 h2)⟩
theorem KeepBut.of_below {w w1 : World} {g : Nat} (h : Below w.heap.size w w1) : KeepBut w w1 g none := ⟨h.size, fun i hi _ _ => h.block i hi⟩
theorem KeepBut.blk {w w1 : World} {g gt : Nat} {o : Obj} (h : KeepBut w w1 gt none) (hk : w.heap[g]? = some o) (hne : g ≠ gt) : w1.heap[g]? = some o := (h.2 g (blk_lt hk) hne (by simp)).trans hk
set_option maxHeartbeats 4000000 in
/-- The next word. -/
theorem word_calls (w1 : World) (gt : Nat) (t : Tk) (w : World) (h : TkSt w1 gt t w) :
    Calls Tryd.prog 62 #[.pointer (some ⟨gt, 0, none⟩)] w fun e w' => e = .returned (.int .u32 t.w.1) ∧ TkSt w1 gt t.w.2 w' ∧ KeepBut w w' gt none := by
  obtain ⟨hb, hg, A, c, kt, hR, hc⟩ := h
  obtain ⟨xs, sh⟩ := t
  have hu83 := Tryd.underlying83
  have hu82 := Tryd.underlying82
  have HB := Aside0.mk hb
  have HG := Aside0.mk hg
  have KT := Aside0.mk kt
  clear hb hg
  cases xs with
  | nil =>
    have k0 : w.cell? ⟨gt, 0, none⟩ = some (.slice A 0 c) := (blk_cell kt 0).trans rfl
    have k1 : w.cell? ⟨gt, 1, none⟩ = some (.bool sh) := (blk_cell kt 1).trans rfl
    have f1 := blk_frozen kt 1
    have HR := Aside0.mk hR
    clear kt hR
    go_enter Tryd.func62, Tryd.ntmps62
    go_wp2
    go_ret
    exact ⟨rfl, ⟨below_set HB.out HG.out, HG.out, A, c, blk_put KT.out 1 _ rfl, HR.out, Nat.zero_le _⟩, KeepBut.set _⟩
  | cons x l =>
    obtain ⟨A', hcut, hR', hc'⟩ := cut1 A c x l hR hc
    obtain ⟨ad, rfl, hx⟩ := Kd.at_int hR 0 (by omega) (by show (0 : Int) < ((l.length + 1 : Nat) : Int); omega)
    have k0 : w.cell? ⟨gt, 0, none⟩ = some (.slice (some ad) (l.length + 1) c) := (blk_cell kt 0).trans rfl
    have f0 := blk_frozen kt 0
    have hb0 : (((l.length : Int) + 1) == 0) = false := beq_eq_false_iff_ne.2 (by omega)
    have hb1 : (((l.length + 1 : Nat) : Int) == 0) = false := beq_eq_false_iff_ne.2 (by omega)
    have hp0 : (0 : Int) < (l.length : Int) + 1 := by omega
    have hx0 : w.cell? (ad.add 0) = some (.int .u32 x) := (HB.out.cell (World.block_lt_of_cell? w1 _ hx)).trans hx
    have hx1 : w.cell? ad = some (.int .u32 x) := by
      have e : ad.add 0 = ad := by simp [Addr.add]
      rw [← e]
      exact hx0
    have HR := Aside0.mk hR'
    have HC := Aside0.mk hc'
    clear kt hR hR' hc' hx
    go_enter Tryd.func62, Tryd.ntmps62
    go_wp2
    go_ret
    exact ⟨rfl, ⟨below_set HB.out HG.out, HG.out, A', c - 1, blk_put KT.out 0 _ rfl, HR.out, HC.out⟩, KeepBut.set _⟩
end Go.Proofs.YthimgiphlenjdaaDoor.HX
