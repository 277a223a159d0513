/- The reference reads of bytes what the program reads. -/
import Derived.Test.YthimgiphlenjdaaDoorPureRec
import Derived.Test.YthimgiphlenjdaaDoorPureRecR
import Derived.Test.YthimgiphlenjdaaDoorPureWordsR
import Derived.Test.YthimgiphlenjdaaDoorF40
set_option linter.unusedVariables false
namespace Go.Proofs.YthimgiphlenjdaaDoor.PI
open Go.RowKit Go.Proofs.YthimgiphlenjdaaDoorW.PrintWords HX
/-- Words as digests. -/
def digsL : List Int → List S24
  | a :: b :: c :: d :: t => ⟨a, b, c, d⟩ :: digsL t
  | _ => []
theorem digsL_flat : ∀ (ds : List S24), digsL (ds.flatMap dig4) = ds
  | [] => rfl
  | d :: ds => by
    show ⟨d.f0, d.f1, d.f2, d.f3⟩ :: digsL (ds.flatMap dig4) = _
    rw [digsL_flat ds]
theorem flat_digsL : ∀ (l : List Int), l.length % 4 = 0 → (digsL l).flatMap dig4 = l
  | [], _ => rfl
  | [_], h => by simp at h
  | [_, _], h => by simp at h
  | [_, _, _], h => by simp at h
  | a :: b :: c :: d :: t, h => by
    show [a, b, c, d] ++ (digsL t).flatMap dig4 = _
    rw [flat_digsL t (by simp at h; omega)]
    rfl
theorem digsL_length (l : List Int) (h : l.length % 4 = 0) : 4 * (digsL l).length = l.length := by
  have := congrArg List.length (flat_digsL l h)
  rw [flat_length] at this
  exact this
theorem digsL_ok (l : List Int) (h : ∀ x ∈ l, W32 x) (hm : l.length % 4 = 0) : ∀ d ∈ digsL l, DigOk d := by
  intro d hd
  have e := flat_digsL l hm
  have hin : ∀ x ∈ dig4 d, x ∈ l := fun x hx => by rw [← e]; exact List.mem_flatMap.2 ⟨d, hd, hx⟩
  exact ⟨h _ (hin _ (by simp [dig4])), h _ (hin _ (by simp [dig4])), h _ (hin _ (by simp [dig4])), h _ (hin _ (by simp [dig4]))⟩
def tupR (p : Rec × Int) : Int × Int × Int × Int × Int × List Int × (List S24) × Int × Int := (p.1.tool, p.1.i0, p.1.i1, p.1.i2, p.1.i3, p.1.ps, p.1.ds, p.1.fuel, p.2)
def errR : Int × Int × Int × Int × Int × List Int × (List S24) × Int × Int := (0, 0, 0, 0, 0, ([] : List Int), ([] : List S24), 0, 7)
theorem rd_drop (l : List Int) (i : Nat) (x : Int) (t : List Int) (h : l.drop i = x :: t) : rd l (i : Int) = x ∧ i < l.length := by
  have hlt : i < l.length := by
    have := congrArg List.length h
    rw [List.length_drop, List.length_cons] at this
    omega
  refine ⟨?_, hlt⟩
  rw [rd_at l i hlt]
  rw [List.drop_eq_getElem_cons hlt] at h
  injection h
theorem rr_ix (N i j : Nat) (h : N ≤ 20) (hi : i ≤ 20) (hj : j ≤ 3) : wrap64 (wrap64 (8 + (N : Int)) + wrap64 (4 * (i : Int))) = ((8 + N + 4 * i : Nat) : Int) ∧ wrap64 (((8 + N + 4 * i : Nat) : Int) + (j : Int)) = ((8 + N + 4 * i + j : Nat) : Int) := by
  have e1 : wrap64 (8 + (N : Int)) = 8 + (N : Int) := by unfold wrap64; omega
  have e2 : wrap64 (4 * (i : Int)) = 4 * (i : Int) := by unfold wrap64; omega
  have H1 := Aside0.mk e1
  have H2 := Aside0.mk e2
  clear e1 e2
  rw [H1.out, H2.out]
  constructor
  · have e : wrap64 (8 + (N : Int) + 4 * (i : Int)) = 8 + (N : Int) + 4 * (i : Int) := by unfold wrap64; omega
    rw [e]
    omega
  · have e : wrap64 (((8 + N + 4 * i : Nat) : Int) + (j : Int)) = ((8 + N + 4 * i : Nat) : Int) + (j : Int) := by unfold wrap64; omega
    rw [e]
    omega
theorem rread_l1 (l : List Int) (N M : Nat) (hN : N ≤ 20) (hM : M ≤ 20) (t i0 i1 i2 i3 f : Int) (ps : List Int) : ∀ (rest : List Int) (i k : Nat) (acc : List S24), l.drop (8 + N + 4 * i) = rest → rest.length = 4 * (M - i) → i ≤ M → acc.length ≤ i →
    seedcornref37_Read.l1 (k + (M - i) + 1) l (N : Int) (M : Int) (i : Int) t i0 i1 i2 i3 ps acc f =
      (seedcornref37_Right.f k t i0 i1 i2 i3 ps (acc ++ digsL rest) f).bind fun b => if b = true then some (t, i0, i1, i2, i3, ps, acc ++ digsL rest, f, 0) else some errR
  | [], i, k, acc, hd, hl, hi, ha => by
    have e : M - i = 0 := by simp only [List.length_nil] at hl; omega
    have eM : wrap64 (M : Int) = (M : Int) := by unfold wrap64; omega
    have HM := Aside0.mk eM
    clear eM
    rw [e, Nat.add_zero, seedcornref37_Read.l1, HM.out, if_neg (by omega)]
    have e2 : acc ++ digsL [] = acc := List.append_nil _
    rw [e2]
    rfl
  | [_], i, k, acc, hd, hl, hi, ha => by simp only [List.length_cons, List.length_nil] at hl; omega
  | [_, _], i, k, acc, hd, hl, hi, ha => by simp only [List.length_cons, List.length_nil] at hl; omega
  | [_, _, _], i, k, acc, hd, hl, hi, ha => by simp only [List.length_cons, List.length_nil] at hl; omega
  | a :: b :: c :: d :: rest, i, k, acc, hd, hl, hi, ha => by
    simp only [List.length_cons] at hl
    obtain ⟨q0, r0⟩ := rd_drop l _ _ _ hd
    have hd1 : l.drop (8 + N + 4 * i + 1) = b :: c :: d :: rest := by rw [← List.drop_drop, hd]; rfl
    have hd2 : l.drop (8 + N + 4 * i + 2) = c :: d :: rest := by rw [← List.drop_drop, hd]; rfl
    have hd3 : l.drop (8 + N + 4 * i + 3) = d :: rest := by rw [← List.drop_drop, hd]; rfl
    have hd4 : l.drop (8 + N + 4 * (i + 1)) = rest := by rw [show 8 + N + 4 * (i + 1) = 8 + N + 4 * i + 4 by omega, ← List.drop_drop, hd]; rfl
    obtain ⟨q1, r1⟩ := rd_drop l _ _ _ hd1
    obtain ⟨q2, r2⟩ := rd_drop l _ _ _ hd2
    obtain ⟨q3, r3⟩ := rd_drop l _ _ _ hd3
    have Q0 := Aside0.mk q0
    have Q1 := Aside0.mk q1
    have Q2 := Aside0.mk q2
    have Q3 := Aside0.mk q3
    have E0 := Aside0.mk (rr_ix N i 0 hN (by omega) (by omega)).1
    have E1 := Aside0.mk (show wrap64 (((8 + N + 4 * i : Nat) : Int) + 1) = ((8 + N + 4 * i + 1 : Nat) : Int) from (rr_ix N i 1 hN (by omega) (by omega)).2)
    have E2 := Aside0.mk (show wrap64 (((8 + N + 4 * i : Nat) : Int) + 2) = ((8 + N + 4 * i + 2 : Nat) : Int) from (rr_ix N i 2 hN (by omega) (by omega)).2)
    have E3 := Aside0.mk (show wrap64 (((8 + N + 4 * i : Nat) : Int) + 3) = ((8 + N + 4 * i + 3 : Nat) : Int) from (rr_ix N i 3 hN (by omega) (by omega)).2)
    have HM := Aside0.mk (show wrap64 (M : Int) = (M : Int) by unfold wrap64; omega)
    have HW := Aside0.mk (wsucc i (by omega))
    have ih := rread_l1 l N M hN hM t i0 i1 i2 i3 f ps rest (i + 1) k (acc ++ [⟨a, b, c, d⟩]) hd4 (by omega) (by omega) (by rw [List.length_append]; simp only [List.length_cons, List.length_nil]; omega)
    have hk : k + (M - i) + 1 = (k + (M - (i + 1)) + 1) + 1 := by omega
    clear q0 q1 q2 q3
    rw [hk, seedcornref37_Read.l1, HM.out, if_pos (by omega), E0.out, E1.out, E2.out, E3.out, if_pos (by omega), if_pos (by omega), if_pos (by omega), if_pos (by omega), if_pos (by omega), if_pos (by omega), if_pos (by omega), if_pos (by omega), if_pos (by omega), Q0.out, Q1.out, Q2.out, Q3.out, HW.out, ih]
    rw [List.append_assoc]
    rfl
/-- What comes behind the passes. -/
def aftR (k : Nat) (l : List Int) (N M : Nat) (t i0 i1 i2 i3 f : Int) (ps : List Int) : Option (Int × Int × Int × Int × Int × List Int × (List S24) × Int × Int) :=
  if M ≤ 20 ∧ l.length = 8 + N + 4 * M then (seedcornref37_Right.f k t i0 i1 i2 i3 ps (digsL (l.drop (8 + N))) f).bind fun b => if b = true then some (t, i0, i1, i2, i3, ps, digsL (l.drop (8 + N)), f, 0) else some errR
  else some errR
theorem rread_l0 (l : List Int) (hl : ∀ x ∈ l, W32 x) (hll : l.length ≤ 1000) (N : Nat) (hN : N ≤ 20) (hlen : 8 + N ≤ l.length) (t i0 i1 i2 i3 f : Int) (k : Nat) (hk : 30 ≤ k) : ∀ (d i : Nat) (acc : List Int), N - i = d → i ≤ N → acc.length ≤ i →
    seedcornref37_Read.l0 (k + 25 + d) l (N : Int) (i : Int) t i0 i1 i2 i3 acc f =
      if ∀ x ∈ ((l.drop 7).take N).drop i, x ≤ 4 then aftR (k + 22 - (rd l ((7 + N : Nat) : Int)).toNat) l N (rd l ((7 + N : Nat) : Int)).toNat t i0 i1 i2 i3 f (acc ++ ((l.drop 7).take N).drop i) else some errR
  | 0, i, acc, hd, hi, ha => by
    have e : ((l.drop 7).take N).drop i = [] := List.drop_eq_nil_of_le (by rw [List.length_take, List.length_drop]; omega)
    have hlt : 7 + N < l.length := by omega
    have hx := hl _ (List.getElem_mem hlt)
    rw [← rd_at l (7 + N) hlt] at hx
    have E7 := Aside0.mk (show wrap64 (7 + (N : Int)) = ((7 + N : Nat) : Int) by
      have e : wrap64 (7 + (N : Int)) = 7 + (N : Int) := by unfold wrap64; omega
      rw [e]
      omega)
    obtain ⟨M, hM⟩ := Int.eq_ofNat_of_zero_le hx.1
    have HM := Aside0.mk hM
    have hM2 : M < 4294967296 := by have := hx.2; omega
    clear hx hM
    rw [e, if_pos (fun x hx => absurd hx List.not_mem_nil), List.append_nil, Nat.add_zero, seedcornref37_Read.l0, if_neg (by omega), E7.out, if_pos (by omega), if_pos (by omega), HM.out, Int.toNat_natCast]
    unfold aftR
    by_cases h20 : M ≤ 20
    · have E8 := Aside0.mk (show wrap64 (wrap64 (8 + (N : Int)) + wrap64 (4 * wrap64 (M : Int))) = ((8 + N + 4 * M : Nat) : Int) by
        have e1 : wrap64 (8 + (N : Int)) = 8 + (N : Int) := by unfold wrap64; omega
        have e2 : wrap64 (M : Int) = (M : Int) := by unfold wrap64; omega
        have H1 := Aside0.mk e1
        have H2 := Aside0.mk e2
        clear e1 e2
        rw [H1.out, H2.out]
        have e3 : wrap64 (4 * (M : Int)) = 4 * (M : Int) := by unfold wrap64; omega
        have H3 := Aside0.mk e3
        clear e3
        rw [H3.out]
        have e4 : wrap64 (8 + (N : Int) + 4 * (M : Int)) = 8 + (N : Int) + 4 * (M : Int) := by unfold wrap64; omega
        rw [e4]
        omega)
      rw [if_neg (by omega), E8.out]
      by_cases hL : l.length = 8 + N + 4 * M
      · have hb : ((l.length : Int) != ((8 + N + 4 * M : Nat) : Int)) = false := by rw [hL]; simp
        have h1 := rread_l1 l N M hN h20 t i0 i1 i2 i3 f acc (l.drop (8 + N)) 0 (k + 22 - M) [] (by rw [Nat.mul_zero, Nat.add_zero]) (by rw [List.length_drop]; omega) (Nat.zero_le _) (Nat.zero_le _)
        rw [if_pos ⟨h20, hL⟩, hb, show k + 24 = (k + 23) + 1 by omega, seedcornref37_Read.j3, if_neg (by decide), show k + 23 = k + 22 - M + (M - 0) + 1 by omega]
        exact h1
      · have hb : ((l.length : Int) != ((8 + N + 4 * M : Nat) : Int)) = true := by rw [bne_iff_ne]; omega
        rw [if_neg (fun h => hL h.2), hb, show k + 24 = (k + 23) + 1 by omega, seedcornref37_Read.j3, if_pos rfl]
        rfl
    · rw [if_pos (by omega), if_neg (fun h => h20 h.1), show k + 24 = (k + 23) + 1 by omega, seedcornref37_Read.j3, if_pos rfl]
      rfl
  | d + 1, i, acc, hd, hi, ha => by
    have hlt : 7 + i < l.length := by omega
    have hx := hl _ (List.getElem_mem hlt)
    rw [← rd_at l (7 + i) hlt] at hx
    have hlt2 : i < ((l.drop 7).take N).length := by rw [List.length_take, List.length_drop]; omega
    have e : ((l.drop 7).take N).drop i = rd l ((7 + i : Nat) : Int) :: ((l.drop 7).take N).drop (i + 1) := by
      rw [List.drop_eq_getElem_cons hlt2, rd_at l (7 + i) hlt]
      simp
    have E7 := Aside0.mk (show wrap64 (7 + (i : Int)) = ((7 + i : Nat) : Int) by
      have e : wrap64 (7 + (i : Int)) = 7 + (i : Int) := by unfold wrap64; omega
      rw [e]
      omega)
    have HW := Aside0.mk (wsucc i (by omega))
    have HX := Aside0.mk (w64_id _ hx)
    have HE := Aside0.mk e
    have ih := rread_l0 l hl hll N hN hlen t i0 i1 i2 i3 f k hk d (i + 1) (acc ++ [rd l ((7 + i : Nat) : Int)]) (by omega) (by omega) (by rw [List.length_append]; simp only [List.length_cons, List.length_nil]; omega)
    clear e hx
    rw [show k + 25 + (d + 1) = (k + 25 + d) + 1 by omega, seedcornref37_Read.l0, if_pos (by omega), E7.out, if_pos (by omega), if_pos (by omega), HX.out, HW.out, HE.out]
    generalize rd l ((7 + i : Nat) : Int) = x at ih
    by_cases h4 : x > 4
    · rw [if_pos h4, if_neg (fun h => by have := h x List.mem_cons_self; omega)]
      rfl
    · rw [if_neg h4, if_pos (by omega), ih, List.append_assoc]
      by_cases hall : ∀ y ∈ ((l.drop 7).take N).drop (i + 1), y ≤ 4
      · rw [if_pos hall, if_pos (fun y hy => (List.mem_cons.1 hy).elim (fun e => by omega) (hall y))]
        rfl
      · rw [if_neg hall, if_neg (fun h => hall fun y hy => h y (List.mem_cons_of_mem _ hy))]
/-- The recipe that the reference makes of words. -/
def mkR (l : List Int) : Rec := ⟨rd l 0, rd l 1, rd l 2, rd l 3, rd l 4, (l.drop 7).take (rd l 6).toNat, digsL (l.drop (8 + (rd l 6).toNat)), rd l 5⟩
/-- It makes it. -/
def GoodR (l : List Int) : Prop :=
  8 ≤ l.length ∧ rd l 0 ≤ 6 ∧ rd l 5 ≤ 100000000 ∧ rd l 6 ≤ 20 ∧ 8 + (rd l 6).toNat ≤ l.length ∧ (∀ x ∈ (l.drop 7).take (rd l 6).toNat, x ≤ 4) ∧
    ((rd l ((7 + (rd l 6).toNat : Nat) : Int)).toNat ≤ 20 ∧ l.length = 8 + (rd l 6).toNat + 4 * (rd l ((7 + (rd l 6).toNat : Nat) : Int)).toNat) ∧ (mkR l).right
theorem list7 (l : List Int) (h : 8 ≤ l.length) : l = rd l 0 :: rd l 1 :: rd l 2 :: rd l 3 :: rd l 4 :: rd l 5 :: rd l 6 :: l.drop 7 := by
  match l, h with
  | a :: b :: c :: d :: e :: f :: g :: t, _ => rfl
theorem good_words (l : List Int) (hl : ∀ x ∈ l, W32 x) (h : GoodR l) : l = (mkR l).words ∧ (mkR l).Ok := by
  obtain ⟨h8, h0, h5, h6, hn, h4, ⟨hm, hlen⟩, hr⟩ := h
  have k7 := list7 l h8
  have w : ∀ i : Nat, i < l.length → W32 (rd l (i : Int)) := fun i hi => by rw [rd_at l i hi]; exact hl _ (List.getElem_mem hi)
  have w0 : W32 (rd l 0) := w 0 (by omega)
  have w1 : W32 (rd l 1) := w 1 (by omega)
  have w2 : W32 (rd l 2) := w 2 (by omega)
  have w3 : W32 (rd l 3) := w 3 (by omega)
  have w4 : W32 (rd l 4) := w 4 (by omega)
  have w5 : W32 (rd l 5) := w 5 (by omega)
  have w6 : W32 (rd l 6) := w 6 (by omega)
  obtain ⟨N, hN⟩ := Int.eq_ofNat_of_zero_le w6.1
  have eN : (rd l 6).toNat = N := by rw [hN]; exact Int.toNat_natCast N
  have w7 := w (7 + N) (by omega)
  obtain ⟨M, hM⟩ := Int.eq_ofNat_of_zero_le w7.1
  have eM : (rd l ((7 + N : Nat) : Int)).toNat = M := by rw [hM]; exact Int.toNat_natCast M
  rw [eN] at hn h4 hm hlen
  rw [eM] at hm hlen
  have hlt : 7 + N < l.length := by omega
  have hdrop : l.drop 7 = (l.drop 7).take N ++ (rd l ((7 + N : Nat) : Int) :: l.drop (8 + N)) := by
    conv => lhs; rw [← List.take_append_drop N (l.drop 7)]
    rw [List.drop_drop, List.drop_eq_getElem_cons hlt, rd_at l (7 + N) hlt, show 8 + N = 7 + N + 1 by omega]
  have hr4 : (l.drop (8 + N)).length % 4 = 0 := by rw [List.length_drop]; omega
  have hps : ((l.drop 7).take N).map m32 = (l.drop 7).take N := by
    conv => rhs; rw [← List.map_id ((l.drop 7).take N)]
    exact List.map_congr_left fun x hx => m32_id x (hl x (List.mem_of_mem_drop (List.mem_of_mem_take hx)))
  have hdl := digsL_length _ hr4
  rw [List.length_drop] at hdl
  refine ⟨?_, w1, w2, w3, w4, ?_⟩
  · have e : (mkR l).words = m32 (rd l 0) :: rd l 1 :: rd l 2 :: rd l 3 :: rd l 4 :: m32 (rd l 5) :: m32 ((((l.drop 7).take N).length : Nat) : Int) :: (((l.drop 7).take N).map m32 ++ (m32 (((digsL (l.drop (8 + N))).length : Nat) : Int) :: (digsL (l.drop (8 + N))).flatMap dig4)) := by
      unfold mkR Rec.words
      rw [eN]
      simp
    rw [e, m32_id _ w0, m32_id _ w5, hps, flat_digsL _ hr4, List.length_take, List.length_drop, show min N (l.length - 7) = N by omega, show (digsL (l.drop (8 + N))).length = M by omega, m32_id (N : Int) ⟨by omega, by omega⟩, m32_id (M : Int) ⟨by omega, by omega⟩]
    rw [hM] at hdrop
    rw [← hdrop]
    have k7' := k7
    rw [hN] at k7'
    exact k7'
  · show ∀ d ∈ digsL (l.drop (8 + (rd l 6).toNat)), DigOk d
    rw [eN]
    exact digsL_ok _ (fun x hx => hl x (List.mem_of_mem_drop hx)) hr4
theorem words_good (r : Rec) (hr : r.right) (hok : r.Ok) : GoodR r.words ∧ mkR r.words = r := by
  obtain ⟨tool, i0, i1, i2, i3, ps, ds, fuel⟩ := r
  have hr' := hr
  obtain ⟨h1, h2, _, h4, h5, h6, _, h8⟩ := hr
  simp only at h1 h2 h4 h5 h6 h8
  have hps : ps.length ≤ 20 ∧ ∀ p ∈ ps, 1 ≤ p ∧ p ≤ 4 := by
    split at h8
    · exact h8
    · rw [h8]
      exact ⟨Nat.zero_le _, fun p hp => absurd hp List.not_mem_nil⟩
  have hpm : ps.map m32 = ps := by
    conv => rhs; rw [← List.map_id ps]
    exact List.map_congr_left fun x hx => m32_id x (by have := hps.2 x hx; exact ⟨by omega, by omega⟩)
  have hw : (Rec.mk tool i0 i1 i2 i3 ps ds fuel).words = tool :: i0 :: i1 :: i2 :: i3 :: fuel :: (ps.length : Int) :: (ps ++ ((ds.length : Int) :: ds.flatMap dig4)) := by
    unfold Rec.words
    simp only [hpm]
    rw [m32_id tool ⟨by omega, by omega⟩, m32_id fuel ⟨by omega, by omega⟩, m32_id (ps.length : Int) ⟨by omega, by omega⟩, m32_id (ds.length : Int) ⟨by omega, by omega⟩]
    simp
  have hlen := words_length (Rec.mk tool i0 i1 i2 i3 ps ds fuel)
  simp only at hlen
  rw [hw] at hlen ⊢
  have e6 : (rd (tool :: i0 :: i1 :: i2 :: i3 :: fuel :: (ps.length : Int) :: (ps ++ ((ds.length : Int) :: ds.flatMap dig4))) 6).toNat = ps.length := Int.toNat_natCast _
  have et : ((tool :: i0 :: i1 :: i2 :: i3 :: fuel :: (ps.length : Int) :: (ps ++ ((ds.length : Int) :: ds.flatMap dig4))).drop 7).take ps.length = ps := by
    show (ps ++ _).take ps.length = ps
    exact List.take_left
  have ed7 : (tool :: i0 :: i1 :: i2 :: i3 :: fuel :: (ps.length : Int) :: (ps ++ ((ds.length : Int) :: ds.flatMap dig4))).drop (7 + ps.length) = (ds.length : Int) :: ds.flatMap dig4 := by
    rw [← List.drop_drop]
    show (ps ++ _).drop ps.length = _
    exact List.drop_left
  have ed : (tool :: i0 :: i1 :: i2 :: i3 :: fuel :: (ps.length : Int) :: (ps ++ ((ds.length : Int) :: ds.flatMap dig4))).drop (8 + ps.length) = ds.flatMap dig4 := by
    rw [show 8 + ps.length = 7 + ps.length + 1 by omega, ← List.drop_drop, ed7]
    rfl
  obtain ⟨em, _⟩ := rd_drop _ _ _ _ ed7
  have eM : (rd (tool :: i0 :: i1 :: i2 :: i3 :: fuel :: (ps.length : Int) :: (ps ++ ((ds.length : Int) :: ds.flatMap dig4))) ((7 + ps.length : Nat) : Int)).toNat = ds.length := by rw [em]; exact Int.toNat_natCast _
  have emk : mkR (tool :: i0 :: i1 :: i2 :: i3 :: fuel :: (ps.length : Int) :: (ps ++ ((ds.length : Int) :: ds.flatMap dig4))) = ⟨tool, i0, i1, i2, i3, ps, ds, fuel⟩ := by
    unfold mkR
    rw [e6, et, ed, digsL_flat]
    rfl
  refine ⟨⟨by omega, h2, h5, ?_, by rw [e6]; omega, ?_, ?_, ?_⟩, emk⟩
  · show ((ps.length : Nat) : Int) ≤ 20
    omega
  · rw [e6, et]
    exact fun x hx => (hps.2 x hx).2
  · rw [e6, eM]
    exact ⟨h6, by omega⟩
  · rw [emk]
    exact hr'
/-- What the reference makes of words is what the program makes of them. -/
theorem readL_good (l : List Int) (hl : ∀ x ∈ l, W32 x) : (GoodR l → readL l = (mkR l, 0)) ∧ (¬ GoodR l → readL l = (zeroR, 7)) := by
  constructor
  · intro h
    obtain ⟨e, hok⟩ := good_words l hl h
    have hr : (mkR l).right := h.2.2.2.2.2.2.2
    obtain ⟨a, b⟩ := read_words (mkR l) hr []
    rw [List.append_nil, ← e] at a b
    unfold readL
    rw [a, b, if_pos ⟨rfl, rfl, hr⟩]
  · intro h
    unfold readL
    rw [if_neg]
    rintro ⟨a, b, c⟩
    obtain ⟨e, hok⟩ := words_back l hl a b
    have := (words_good _ c hok).1
    rw [← e] at this
    exact h this
theorem rread_j1 (l : List Int) (hl : ∀ x ∈ l, W32 x) (hll : l.length ≤ 1000) (k : Nat) (hk : 100 ≤ k) (h8 : 8 ≤ l.length) (h0 : rd l 0 ≤ 6) (h5 : rd l 5 ≤ 100000000) (h6 : rd l 6 ≤ 20) (hn : 8 + (rd l 6).toNat ≤ l.length) :
    seedcornref37_Read.j1 (k + 1) l false = some (tupR (readL l)) := by
  have w : ∀ i : Nat, i < l.length → W32 (rd l (i : Int)) := fun i hi => by rw [rd_at l i hi]; exact hl _ (List.getElem_mem hi)
  have HX0 := Aside0.mk (w64_id (rd l 0) (w 0 (by omega)))
  have HX5 := Aside0.mk (w64_id (rd l 5) (w 5 (by omega)))
  have HX6 := Aside0.mk (w64_id (rd l 6) (w 6 (by omega)))
  obtain ⟨N, hN⟩ := Int.eq_ofNat_of_zero_le (w 6 (by omega)).1
  have hN' : rd l 6 = (N : Int) := hN
  have eN : (rd l 6).toNat = N := by rw [hN']; exact Int.toNat_natCast N
  have hG := readL_good l hl
  unfold GoodR mkR at hG
  rw [eN] at hG hn
  obtain ⟨m, rfl⟩ : ∃ m, k = m + 30 + 25 + (N - 0) := ⟨k - 55 - N, by omega⟩
  have hloop := rread_l0 l hl hll N (by omega) hn (rd l 0) (rd l 1) (rd l 2) (rd l 3) (rd l 4) (rd l 5) (m + 30) (by omega) (N - 0) 0 [] rfl (Nat.zero_le _) (Nat.zero_le _)
  rw [seedcornref37_Read.j1, if_neg (by decide), if_pos (by omega), if_pos (by omega), if_pos (by omega), if_pos (by omega), if_pos (by omega), if_pos (by omega), if_pos (by omega), HX0.out, HX5.out, HX6.out, hN']
  refine hloop.trans ?_
  rw [List.drop_zero, List.nil_append]
  by_cases h4 : ∀ x ∈ (l.drop 7).take N, x ≤ 4
  · rw [if_pos h4]
    unfold aftR
    by_cases hM : (rd l ((7 + N : Nat) : Int)).toNat ≤ 20 ∧ l.length = 8 + N + 4 * (rd l ((7 + N : Nat) : Int)).toNat
    · have hr : seedcornref37_Right.f (m + 30 + 22 - (rd l ((7 + N : Nat) : Int)).toNat) (rd l 0) (rd l 1) (rd l 2) (rd l 3) (rd l 4) ((l.drop 7).take N) (digsL (l.drop (8 + N))) (rd l 5) = some (decide (Rec.mk (rd l 0) (rd l 1) (rd l 2) (rd l 3) (rd l 4) ((l.drop 7).take N) (digsL (l.drop (8 + N))) (rd l 5)).right) := by
        rw [show m + 30 + 22 - (rd l ((7 + N : Nat) : Int)).toNat = (m + 22 - (rd l ((7 + N : Nat) : Int)).toNat) + 30 by omega]
        exact rright_of _ _ _ _ _ _ _ _ _
      rw [if_pos hM, hr, Option.bind_some]
      by_cases hrt : (Rec.mk (rd l 0) (rd l 1) (rd l 2) (rd l 3) (rd l 4) ((l.drop 7).take N) (digsL (l.drop (8 + N))) (rd l 5)).right
      · rw [if_pos (decide_eq_true hrt), hG.1 ⟨h8, h0, h5, h6, hn, h4, hM, hrt⟩]
        rfl
      · rw [if_neg (by rw [decide_eq_true_iff]; exact hrt), hG.2 (fun h => hrt h.2.2.2.2.2.2.2)]
        rfl
    · rw [if_neg hM, hG.2 (fun h => hM h.2.2.2.2.2.2.1)]
      rfl
  · rw [if_neg h4, hG.2 (fun h => h4 h.2.2.2.2.2.1)]
    rfl
end Go.Proofs.YthimgiphlenjdaaDoor.PI
