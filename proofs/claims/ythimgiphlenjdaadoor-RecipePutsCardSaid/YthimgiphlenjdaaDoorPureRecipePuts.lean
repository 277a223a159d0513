/- What the law RecipePuts asks, in plain words. -/
import Derived.Test.YthimgiphlenjdaaDoorPureRecPut
import Derived.Test.YthimgiphlenjdaaDoorF12
set_option linter.unusedVariables false
namespace Go.Proofs.YthimgiphlenjdaaDoor.PI
open Go.RowKit Go.Proofs.YthimgiphlenjdaaDoorW.PrintWords HX
theorem awake_at (k : Nat) (hk : 300 ≤ k) : seedcornlaw37_awake.f k = some true := at_rounds (g := fun k => seedcornlaw37_awake.f k) seedcornlaw37_awake.mono hk seedcornlaw37_awake.is
theorem few_of (r : Rec) (n : Nat) : seedcornref37_Few.f r.tool r.i0 r.i1 r.i2 r.i3 r.ps r.ds r.fuel (n : Int) = some (decide (r.ps.length ≤ n ∧ r.ds.length ≤ n)) := by
  unfold seedcornref37_Few.f
  by_cases h : r.ps.length ≤ n
  · rw [if_pos (by omega)]
    refine congrArg some ?_
    rw [decide_eq_decide]
    omega
  · rw [if_neg (by omega), decide_eq_false (fun e => h e.1)]
theorem read_f (s : ByteArray) (hs : s.size ≤ 1000000) (r : Rec) (e : Int) (h : readS s = (r, e)) : recipe_Read.f s = some (r.tool, r.i0, r.i1, r.i2, r.i3, r.ps, r.ds, r.fuel, e) := by
  unfold recipe_Read.f
  rw [if_pos hs, h]
theorem readS_empty : readS (⟨#[]⟩ : ByteArray) = (zeroR, 7) := by
  unfold readS
  rw [if_pos (.inl rfl)]
theorem puts_law (m : Nat) (r : Rec) (hs : r.ps.length ≤ 100 ∧ r.ds.length ≤ 100) (hm : 1000 ≤ m) (s : ByteArray) (e : Int) (x : Int × Int × Int × Int × Int) (q : Rec) (i : Int)
    (ha : seedcornlaw37_awake.f (m + 1) = some true) (hf : seedcornref37_Few.f r.tool r.i0 r.i1 r.i2 r.i3 r.ps r.ds r.fuel 100 = some true)
    (hp : recipe_Put.f r.tool r.i0 r.i1 r.i2 r.i3 r.ps r.ds r.fuel = some (s, e)) (hp' : seedcornref37_Put.f (m + 1) r.tool r.i0 r.i1 r.i2 r.i3 r.ps r.ds r.fuel = some (s, e))
    (ho : recipe_Of.f (m + 1) r.tool r.i0 r.i1 r.i2 r.i3 r.ps r.ds r.fuel = some x) (ho' : seedcornref37_Of.f (m + 1) r.tool r.i0 r.i1 r.i2 r.i3 r.ps r.ds r.fuel = some x)
    (hr : recipe_Read.f s = some (q.tool, q.i0, q.i1, q.i2, q.i3, q.ps, q.ds, q.fuel, i)) (h1 : e = 0 → i = 0 ∧ q = r) (h2 : e ≠ 0 → i = 7 ∧ q = zeroR) :
    seedcornlaw37_RecipePuts.f (m + 1) r.tool r.i0 r.i1 r.i2 r.i3 r.ps r.ds r.fuel = some true := by
  obtain ⟨x0, x1, x2, x3, x4⟩ := x
  unfold seedcornlaw37_RecipePuts.f
  rw [ha, Option.bind_some, if_pos rfl, hf, Option.bind_some, if_pos rfl, hp, Option.bind_some, hp', Option.bind_some, ho, Option.bind_some, ho', Option.bind_some, if_pos rfl, if_pos rfl]
  simp only [beq_self_eq_true, Bool.not_true, Bool.or_self, Bool.false_eq_true, if_false, bne_self_eq_false]
  rw [seedcornlaw37_RecipePuts.j0, if_neg (by decide), hr, Option.bind_some]
  by_cases he : e = 0
  · obtain ⟨rfl, rfl⟩ := h1 he
    obtain ⟨v, hv, hv'⟩ := rsame_of q q (by omega) (by omega) m (by omega)
    rw [if_pos he, if_pos rfl]
    simp only []
    rw [hv, Option.bind_some, hv'.2 rfl]
  · obtain ⟨rfl, rfl⟩ := h2 he
    obtain ⟨v, hv, hv'⟩ := rsame_of zeroR zeroR (Nat.zero_le _) (Nat.zero_le _) m (by show 0 + 0 + 3 ≤ m; omega)
    rw [if_neg he, if_pos rfl]
    simp only []
    have hv0 : seedcornref37_Same.f m zeroR.tool zeroR.i0 zeroR.i1 zeroR.i2 zeroR.i3 zeroR.ps zeroR.ds zeroR.fuel 0 0 0 0 0 [] [] 0 = some v := hv
    rw [hv0, Option.bind_some, hv'.2 rfl]
theorem pureRecipePuts (r : Rec) (hok : r.Ok) : ∃ k, seedcornlaw37_RecipePuts.f k r.tool r.i0 r.i1 r.i2 r.i3 r.ps r.ds r.fuel = some true := by
  obtain ⟨m, hm⟩ : ∃ m : Nat, m = 5000 := ⟨_, rfl⟩
  refine ⟨m + 1, ?_⟩
  have fa : seedcornref37_Few.f r.tool r.i0 r.i1 r.i2 r.i3 r.ps r.ds r.fuel 100 = _ := few_of r 100
  by_cases hs : r.ps.length ≤ 100 ∧ r.ds.length ≤ 100
  · rw [decide_eq_true hs] at fa
    by_cases h : r.right
    · have hp : putS r = (recBytes r, 0) := if_pos h
      refine puts_law m r hs (by omega) (recBytes r) 0 (ofT r) r 0 (awake_at _ (by omega)) fa (show some (putS r) = _ by rw [hp]) (by rw [← hp]; exact rput_of r hok (m + 1) (by omega)) (pof_of r (m + 1) (by omega)) (rof_rec r hok (m + 1) (by omega))
        (read_f _ (by have := rec_small r h; omega) r 0 (readS_rec r h hok)) (fun _ => ⟨rfl, rfl⟩) (fun e => absurd rfl e)
    · have hp : putS r = ((⟨#[]⟩ : ByteArray), 1) := if_neg h
      refine puts_law m r hs (by omega) (⟨#[]⟩ : ByteArray) 1 (ofT r) zeroR 7 (awake_at _ (by omega)) fa (show some (putS r) = _ by rw [hp]) (by rw [← hp]; exact rput_of r hok (m + 1) (by omega)) (pof_of r (m + 1) (by omega)) (rof_rec r hok (m + 1) (by omega))
        (read_f _ (by decide) zeroR 7 readS_empty) (fun e => absurd e (by decide)) (fun _ => ⟨rfl, rfl⟩)
  · rw [decide_eq_false hs] at fa
    unfold seedcornlaw37_RecipePuts.f
    rw [awake_at (m + 1) (by omega), Option.bind_some, if_pos rfl, fa, Option.bind_some, if_neg (by decide)]
end Go.Proofs.YthimgiphlenjdaaDoor.PI
