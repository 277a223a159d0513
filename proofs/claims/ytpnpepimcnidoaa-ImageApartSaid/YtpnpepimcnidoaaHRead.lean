/- What image.Read answers: the image whose bytes a string is, or ErrForm; for every string within the reach; nothing that lay in memory has turned. -/
import Derived.Test.YtpnpepimcnidoaaPIa
import Derived.Test.YtpnpepimcnidoaaHSpec
import Derived.RangeFuncBox
import Derived.RangeFuncNested
import Derived.RangeFuncBound
import Derived.RangeFuncCalls
import Derived.RangeFuncLeaves
import Derived.Shelf.Abstract
import Derived.Shelf.RegionOpen
import Derived.WalkKit
import Derived.OwnWalkIn
import Derived.TacticsInMore
import Derived.LoopNIn
import Derived.LoopIn
import Derived.Maps.AppendAt
set_option linter.unusedVariables false
set_option linter.unusedSimpArgs false
namespace Go.Proofs.Ytpnpepimcnidoaa.PI
open Go.RowKit Go.Shelf Go.Proofs.YtpnpepimcnidoaaW.PrintWords Go.Proofs.YtpnpepimcnidoaaW.PrintLast Go.Proofs.YtpnpepimcnidoaaW.PrintMore HX

/-! ### the plain function -/
def mark4 : ByteArray := ⟨#[83, 69, 69, 68]⟩
/-- Do its bytes begin with the mark? -/
def hasMark (s : ByteArray) : Bool := decide (4 ≤ s.size) && ((s.extract 0 4).toList == mark4.toList)
/-- Is it an image's bytes? -/
def readOk (s : ByteArray) : Bool := hasMark s && decide (12 ≤ s.size) && decide (wd s 4 ≤ 16384) && decide (wd s 8 ≤ 32768) && decide ((s.size : Int) = 12 + 4 * wd s 4)
def readS (s : ByteArray) : List Int × Int × Int := if readOk s = true then (wds s 12 (wd s 4).toNat, wd s 8, 0) else ([], 0, 7)
def image_Read.f (k : Nat) (a0 : ByteArray) : Option (List Int × Int × Int) := if a0.size ≤ 140737488351232 then some (readS a0) else none
theorem image_Read.mono : ∀ a0 k, LeO (image_Read.f k a0) (image_Read.f (k + 1) a0) := fun _ _ => LeO.refl _

theorem words_l (m : Nat) : ∀ (k : Nat) (s : ByteArray) (x : List Int), s.size = 4 * m → m < k → x.length + m ≤ 35184372088832 → word_Words.l0 k s x = some (x ++ wds s 0 m, 0) := by
  induction m with
  | zero =>
    intro k s x hs hk hx
    obtain ⟨k, rfl⟩ : ∃ j, k = j + 1 := ⟨k - 1, by omega⟩
    simp only [word_Words.l0]
    rw [if_neg (by omega)]
    simp [wds]
  | succ m ih =>
    intro k s x hs hk hx
    obtain ⟨k, rfl⟩ : ∃ j, k = j + 1 := ⟨k - 1, by omega⟩
    simp only [word_Words.l0]
    rw [if_pos (by omega), if_pos (by omega), if_pos (by omega), if_pos (by omega), if_pos (by omega), if_pos (by omega), if_pos (by omega)]
    rw [ih k _ _ (by rw [ByteArray.size_extract]; omega) (by omega) (by rw [List.length_append]; show x.length + 1 + m ≤ _; omega)]
    rw [or_word _ _ _ _ (bt_range _ _) (bt_range _ _) (bt_range _ _) (bt_range _ _)]
    rw [wds_extract s 4 0 m (by omega), wds_succ]
    simp [wd]

theorem words_ok (s : ByteArray) (h4 : s.size % 4 = 0) (hs : s.size ≤ 140737488351232) : word_Words.f (s.size + 1) s = some (wds s 0 (s.size / 4), 0) := by
  unfold word_Words.f
  rw [if_pos (by omega), words_l (s.size / 4) _ s [] (by omega) (by omega) (by simp; omega)]
  simp
theorem words_bad (s : ByteArray) (h4 : ¬ s.size % 4 = 0) : word_Words.f (s.size + 1) s = some ([], 7) := by
  unfold word_Words.f
  rw [if_neg (by omega)]
theorem cut_f (s : ByteArray) : strings_CutPrefix.f s mark4 = some (if hasMark s = true then (s.extract 4 s.size, true) else (s, false)) := by
  have h4 : (mark4.size : Int) = 4 := rfl
  unfold strings_CutPrefix.f stringslite_CutPrefix.f stringslite_HasPrefix.f hasMark
  simp only [h4, show ((4 : Int).toNat) = 4 from rfl]
  by_cases h : 4 ≤ s.size
  · rw [if_pos (by omega), if_pos (by omega), if_pos (by omega)]
    simp only [Option.bind_some]
    cases h2 : (s.extract 0 4).toList == mark4.toList
    · simp [h]
    · have e : (4 : Int) ≤ (s.size : Int) := by omega
      simp only [h, h2, e, decide_true, Bool.and_true, if_true, Option.bind_some]
      rw [if_pos (show (0 : Int) ≤ 4 by decide)]
      rfl
  · rw [if_neg (by omega)]
    simp [h]

attribute [local go_sem] Oper.semAt_some

/-! ### the iterator: image.words -/
set_option maxHeartbeats 1000000 in
/-- words(l): the slice is boxed; the function value captures the box. -/
theorem words_in (F : Fence) (n : Nat) (h23 : F.fn 23) (hro : F.round = none) (A : Option Addr) (len cap : Nat) (w : World) :
    CallsIn F n Try.prog 23 #[.slice A len cap] w fun e w' => e = .returned (.func (.func 27) #[] #[.pointer (some ⟨w.heap.size, 0, none⟩)]) ∧ w' = w.alloc (.cells #[.slice A len cap] 22) := by
  refine callsIn_of_wp Try.func23 rfl h23 ?_ hro
  simp only [Try.ntmps23, List.size_toArray, List.length_cons, List.length_nil, Nat.reduceAdd, Nat.reduceSub, Array.replicate_succ, Array.replicate_zero, List.push_toArray, List.append_toArray, List.nil_append, List.cons_append]
  gi_wp2
  go_ret
  exact ⟨rfl, rfl⟩

set_option maxRecDepth 100000 in
set_option maxHeartbeats 4000000 in
/-- Its loop: for every loop body that keeps what lay below w0's end, where the slice lies. -/
theorem words1_in (F : Fence) (n : Nat) (h27 : F.fn 27) (hro : F.round = none) (hn : 1 ≤ n) (l Bs cap : Nat) (A : Option Addr) (zs : List Int) (w0 : World) (hC : (Kd.int .u32).C w0 A zs.length zs) (J Jx : List Int → World → Prop)
    (hY : ∀ pre x W, J pre W → pre.length < zs.length → YieldAt F (n - 1) Try.prog l #[.int .u32 x] W fun e W' =>
      (e = .returned (.bool true) ∧ J (pre ++ [x]) W' ∧ Below w0.heap.size W W') ∨ (e = .returned (.bool false) ∧ Jx (pre ++ [x]) W'))
    (W : World) (hW : Below w0.heap.size w0 W) (hBs : W.cell? ⟨Bs, 0, none⟩ = some (.slice A zs.length cap)) (h0 : J [] W) :
    CallsIn F n Try.prog 27 #[.func (.yield l) #[] #[], .pointer (some ⟨Bs, 0, none⟩)] W fun e W' => (∃ v, e = .returned v) ∧
      ((∃ ys, ys = zs ∧ J ys W') ∨ (∃ pre, pre <+: zs ∧ Jx pre W')) := by
  have hmx : zs.length ≤ 9223372036854775807 := Kd.C_max hC
  refine callsIn_of_wp Try.func27 rfl h27 ?_ hro
  simp only [Try.ntmps27, List.size_toArray, List.length_cons, List.length_nil, Nat.reduceAdd, Nat.reduceSub, Array.replicate_succ, Array.replicate_zero, List.push_toArray, List.append_toArray, List.nil_append, List.cons_append]
  gi_wp2
  gi_loopw [7] (fun i wr => ∃ k : Nat, k ≤ zs.length ∧ i = .int .i64 k ∧ J (zs.take k) wr ∧ Below w0.heap.size w0 wr)
    (fun i _ => zs.length - (intOf i).toNat)
  case atStart => exact ⟨0, Nat.zero_le _, rfl, h0, hW⟩
  case round =>
    obtain ⟨k, hk, rfl, hJs, hnx⟩ := hrel
    by_cases hlt : k < zs.length
    · obtain ⟨ad, hA, hcx0⟩ := Kd.at_int hC (k : Int) (by omega) (by omega)
      rw [Int.toNat_natCast] at hcx0
      have hcx := (hnx.cell (World.block_lt_of_cell? w0 _ hcx0)).trans hcx0
      clear hcx0
      subst hA
      obtain ⟨x, hx⟩ : ∃ x, x = rd zs (k : Int) := ⟨_, rfl⟩
      rw [← hx] at hcx
      have hx' : zs.take (k + 1) = zs.take k ++ [x] := by
        rw [List.take_succ_eq_append_getElem hlt, hx]
        simp [rd, List.getD_eq_getElem?_getD, List.getElem?_eq_getElem hlt]
      have HX' := Aside0.mk hx'
      clear hx hx'
      obtain ⟨fn, tmps, assign, body, hy, hR⟩ := hY _ x wr hJs (by rw [List.length_take]; omega)
      gi_wp2
      refine hR.mono ?_
      rintro e W3 (⟨rfl, hJ3, hk3⟩ | ⟨rfl, hJx3⟩)
      · gi_wp2
        go_roundw
        case rel => exact ⟨k + 1, by omega, by simp, by rw [HX'.out]; exact hJ3, hnx.trans hk3⟩
        case measure => simp [intOf]; omega
      · gi_wp2
        refine bodyPost_ret (results_none rfl _ _ _) rfl ?_
        exact ⟨⟨_, rfl⟩, .inr ⟨_, (by rw [← HX'.out]; exact List.take_prefix _ _), hJx3⟩⟩
    · obtain rfl : k = zs.length := by omega
      gi_wp2
      go_end0
      exact ⟨⟨_, rfl⟩, .inl ⟨_, List.take_length, hJs⟩⟩

/-- What words hands back gives all of zs, in order, to whoever goes on. -/
theorem words_stops (F : Fence) (n : Nat) (h27 : F.fn 27) (hro : F.round = none) (hn : 1 ≤ n) (Bs cap : Nat) (A : Option Addr) (zs : List Int) (w0 : World) (hC : (Kd.int .u32).C w0 A zs.length zs) (w : World) (hw : Below w0.heap.size w0 w) (hBs : Bs < w.heap.size)
    (hc : w.cell? ⟨Bs, 0, none⟩ = some (.slice A zs.length cap)) :
    SeqStopsK F n Try.prog 27 #[.pointer (some ⟨Bs, 0, none⟩)] (fun x : Int => #[Value.int .u32 x]) (Below w0.heap.size) (fun ys => ys = zs) (fun pre => pre <+: zs) zs.length w := fun l J Jx W hW _ _ hY h0 =>
  words1_in F n h27 hro hn l Bs cap A zs w0 hC J Jx hY W (hw.trans (hW.mono hw.size)) ((hW.cell (p := ⟨Bs, 0, none⟩) hBs).trans hc) h0

/-! ### a struct of two cells whose first holds a slice that grows -/
def Two (W : World) (B : Nat) (v : Value) (d : Int) : Prop := W.heap[B]? = some (.cells #[v, .int .i64 d] 24 (0, 0))
section
variable {W w1 : World} {B n₀ : Nat} {v v' : Value} {d : Int}
theorem Two.lt (h : Two W B v d) : B < W.heap.size := (Array.getElem?_eq_some_iff.1 h).1
theorem Two.cell0 (h : Two W B v d) : W.cell? ⟨B, 0, none⟩ = some v := by simp [World.cell?, show W.heap[B]? = _ from h]
theorem Two.cell1 (h : Two W B v d) : W.cell? ⟨B, 1, none⟩ = some (.int .i64 d) := by simp [World.cell?, show W.heap[B]? = _ from h]
theorem Two.frozen0 (h : Two W B v d) : W.frozen? ⟨B, 0, none⟩ = false := by simp [World.frozen?, show W.heap[B]? = _ from h]
theorem Two.frozen1 (h : Two W B v d) : W.frozen? ⟨B, 1, none⟩ = false := by simp [World.frozen?, show W.heap[B]? = _ from h]
theorem Two.kept {W' : World} {row : Option Nat} (h : Two W B v d) (hg : W.grownBy W' row) (hne : some B ≠ row) : Two W' B v d := (hg.block B h.lt hne).trans h
theorem Two.set (v' : Value) (h : Two W B v d) : Two (W.setCell ⟨B, 0, none⟩ v') B v' d := by
  obtain ⟨hlt, hk⟩ := Array.getElem?_eq_some_iff.1 h
  show (W.heap.modify B _)[B]? = _
  rw [Array.getElem?_eq_getElem (by rw [Array.size_modify]; exact hlt), Array.getElem_modify_self, hk]
  rfl
theorem Two.not_row {t e : TypeId} (h : Two W B v d) (hte : 24 ≠ e) {base size k : Nat} {u : Value} {xs : List Value} (hr : W.ownsRow base e size u k xs) : some B ≠ u.ownBlock := by
  rcases hr.2 with ⟨rfl, _⟩ | ⟨g, cap, cur, rfl, _, hgb, _⟩
  · simp [Value.ownBlock]
  · intro e'
    obtain rfl : B = g := by simpa [Value.ownBlock] using e'
    have := (show W.heap[B]? = _ from h).symm.trans hgb
    simp at this
    exact hte this.2
theorem Two.appended {e : TypeId} {size k m : Nat} {xs ys : List Value} {tmp : Obj}
    (hv : Two W B v d) (hte : 24 ≠ e) (hrow : W.ownsRow n₀ e size v k xs) (hn₀ : n₀ ≤ W.heap.size) (hB : n₀ ≤ B)
    (hown' : w1.ownsRow n₀ e size v' m ys) (hgrow : (W.alloc tmp).grownBy w1 v.ownBlock) :
    Two w1 B v d ∧ Two (w1.setCell ⟨B, 0, none⟩ v') B v' d ∧ (w1.setCell ⟨B, 0, none⟩ v').ownsRow n₀ e size v' m ys ∧ KeepsOthers W (w1.setCell ⟨B, 0, none⟩ v') ∧ Below n₀ W (w1.setCell ⟨B, 0, none⟩ v') := by
  have hv1 : Two w1 B v d := (hv.kept (World.grownBy_alloc W tmp none) (by simp)).kept hgrow (hv.not_row (t := 0) hte hrow)
  refine ⟨hv1, hv1.set v', hown'.kept (grownBy_setCell' w1 B v') (.inr (hv1.not_row (t := 0) hte hown').symm), ?_, ?_⟩
  · refine ((KeepsOthers.alloc W tmp).trans (KeepsOthers.of_grownBy hgrow fun j o ej hj => ?_)).trans (KeepsOthers.setCell _ _ _)
    rcases (hrow.alloc tmp).2 with ⟨rfl, _⟩ | ⟨g, cap, cur, rfl, _, hgb, _⟩
    · simp [Value.ownBlock] at ej
    · obtain rfl : g = j := by simpa [Value.ownBlock] using ej
      rw [hgb] at hj; cases hj; rfl
  · refine (((Below.refl n₀ W).alloc hn₀ tmp).grown hgrow (by simp; omega) fun j ej => ?_).setCell (p := ⟨B, 0, none⟩) hB v'
    rcases hrow.2 with ⟨rfl, _⟩ | ⟨g, cap, cur, rfl, hb, _, _⟩
    · simp [Value.ownBlock] at ej
    · obtain rfl : g = j := by simpa [Value.ownBlock] using ej
      exact hb
end
theorem twoRow_own (n₀ B : Nat) (d : Int) : Own (fun (pre : List Int) W => ∃ v, Two W B v d ∧ W.ownsRow n₀ 36 1 v pre.length (nums .u32 pre)) := by
  rintro s X Y row ⟨v, hv, hr⟩ hg hrow
  refine ⟨v, hv.kept hg (fun e' => ?_), hr.kept hg ?_⟩
  · obtain ⟨o, ho, hc⟩ := hrow B e'.symm
    rw [show X.heap[B]? = _ from hv] at ho; cases ho; cases hc
  · rcases hr.2 with ⟨rfl, _⟩ | ⟨g, cap, cur, rfl, _, hgb, _⟩
    · exact .inl rfl
    · refine .inr fun e' => ?_
      obtain ⟨o, ho, hc⟩ := hrow g (by simpa [Value.ownBlock] using e'.symm)
      rw [hgb] at ho; cases ho; cases hc
end Go.Proofs.Ytpnpepimcnidoaa.PI
