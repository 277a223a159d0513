/- A recipe's bytes are read back; what is read has just these bytes; no recipe's bytes begin another one's. -/
import Derived.Test.YthimgiphlenjdaaDoorF38
import Derived.Test.YthimgiphlenjdaaDoorGi
import Derived.Test.YthimgiphlenjdaaDoorPureOf
set_option linter.unusedVariables false
namespace Go.Proofs.YthimgiphlenjdaaDoor.PI
open Go.RowKit Go.Proofs.YthimgiphlenjdaaDoorW.PrintWords HX
theorem m32_id (x : Int) (h : W32 x) : m32 x = x := by unfold W32 at h; unfold m32; omega
theorem w64_id (x : Int) (h : W32 x) : wrap64 x = x := by unfold W32 at h; unfold wrap64; omega
theorem m32_w (x : Int) : W32 (m32 x) := by unfold W32 m32; omega
/-! Words, read. -/
theorem psN_read (ps : List Int) (rest : List Int) (s : Bool) : ∀ j, j ≤ ps.length → (Tk.mk (ps.map m32 ++ rest) s).psN j = ((ps.take j).map (fun x => wrap64 (m32 x)), Tk.mk ((ps.drop j).map m32 ++ rest) s)
  | 0, _ => by
    show ([], _) = _
    simp
  | j + 1, h => by
    have ih := psN_read ps rest s j (by omega)
    show (((Tk.mk (ps.map m32 ++ rest) s).psN j).1 ++ [wrap64 ((Tk.mk (ps.map m32 ++ rest) s).psN j).2.w.1], ((Tk.mk (ps.map m32 ++ rest) s).psN j).2.w.2) = _
    rw [ih, List.drop_eq_getElem_cons (by omega), List.take_succ_eq_append_getElem (by omega), List.map_append]
    rfl
theorem dsN_read (ds : List S24) (rest : List Int) (s : Bool) : ∀ j, j ≤ ds.length → (Tk.mk (ds.flatMap dig4 ++ rest) s).dsN j = (ds.take j, Tk.mk ((ds.drop j).flatMap dig4 ++ rest) s)
  | 0, _ => by
    show ([], _) = _
    simp
  | j + 1, h => by
    have ih := dsN_read ds rest s j (by omega)
    show (((Tk.mk (ds.flatMap dig4 ++ rest) s).dsN j).1 ++ [((Tk.mk (ds.flatMap dig4 ++ rest) s).dsN j).2.d.1], ((Tk.mk (ds.flatMap dig4 ++ rest) s).dsN j).2.d.2) = _
    rw [ih, List.drop_eq_getElem_cons (by omega), List.take_succ_eq_append_getElem (by omega)]
    rfl
theorem few_read (n : Nat) (h : n ≤ 20) (l : List Int) (s : Bool) : (Tk.mk (m32 (n : Int) :: l) s).few = ((n : Int), Tk.mk l s) := by
  have e : m32 (n : Int) = (n : Int) := by unfold m32; omega
  rw [e]
  show (if (n : Int) > 20 then _ else _) = _
  rw [if_neg (by omega)]
  show (wrap64 (n : Int), Tk.mk l s) = _
  rw [show wrap64 (n : Int) = (n : Int) by unfold wrap64; omega]
theorem pass_id (x : Int) (h : 1 ≤ x ∧ x ≤ 4) : wrap64 (m32 x) = x := by unfold m32 wrap64; omega
theorem small_id (x : Int) (h : 0 ≤ x ∧ x ≤ 100000000) : wrap64 (m32 x) = x := by unfold m32 wrap64; omega
/-- A recipe that may be is read of its words, whatever comes behind. -/
theorem read_words (r : Rec) (hr : r.right) (rest : List Int) : readR (r.words ++ rest) = r ∧ tk7 (r.words ++ rest) = ⟨rest, false⟩ := by
  obtain ⟨tool, i0, i1, i2, i3, ps, ds, fuel⟩ := r
  obtain ⟨h1, h2, _, h4, h5, h6, _, h8⟩ := hr
  simp only at h1 h2 h4 h5 h6 h8
  have hps : ps.length ≤ 20 ∧ ∀ p ∈ ps, 1 ≤ p ∧ p ≤ 4 := by
    split at h8
    · exact h8
    · rw [h8]
      exact ⟨Nat.zero_le _, fun p hp => absurd hp List.not_mem_nil⟩
  have hw : (Rec.mk tool i0 i1 i2 i3 ps ds fuel).words ++ rest = m32 tool :: i0 :: i1 :: i2 :: i3 :: m32 fuel :: m32 (ps.length : Int) :: (ps.map m32 ++ (m32 (ds.length : Int) :: (ds.flatMap dig4 ++ rest))) := by
    unfold Rec.words
    simp
  rw [hw]
  have e3 : tk3 (m32 tool :: i0 :: i1 :: i2 :: i3 :: m32 fuel :: m32 (ps.length : Int) :: (ps.map m32 ++ (m32 (ds.length : Int) :: (ds.flatMap dig4 ++ rest)))) = ⟨m32 (ps.length : Int) :: (ps.map m32 ++ (m32 (ds.length : Int) :: (ds.flatMap dig4 ++ rest))), false⟩ := rfl
  have f3 := few_read ps.length hps.1 (ps.map m32 ++ (m32 (ds.length : Int) :: (ds.flatMap dig4 ++ rest))) false
  have eN : tkN (m32 tool :: i0 :: i1 :: i2 :: i3 :: m32 fuel :: m32 (ps.length : Int) :: (ps.map m32 ++ (m32 (ds.length : Int) :: (ds.flatMap dig4 ++ rest)))) = ps.length := by
    unfold tkN
    rw [e3, f3]
    exact Int.toNat_natCast _
  have p3 := psN_read ps (m32 (ds.length : Int) :: (ds.flatMap dig4 ++ rest)) false ps.length (Nat.le_refl _)
  rw [List.take_length, List.drop_length, List.map_nil, List.nil_append] at p3
  have e5 : tk5 (m32 tool :: i0 :: i1 :: i2 :: i3 :: m32 fuel :: m32 (ps.length : Int) :: (ps.map m32 ++ (m32 (ds.length : Int) :: (ds.flatMap dig4 ++ rest)))) = ⟨m32 (ds.length : Int) :: (ds.flatMap dig4 ++ rest), false⟩ := by
    unfold tk5
    rw [eN, e3, f3, p3]
  have f5 := few_read ds.length h6 (ds.flatMap dig4 ++ rest) false
  have eM : tkM (m32 tool :: i0 :: i1 :: i2 :: i3 :: m32 fuel :: m32 (ps.length : Int) :: (ps.map m32 ++ (m32 (ds.length : Int) :: (ds.flatMap dig4 ++ rest)))) = ds.length := by
    unfold tkM
    rw [e5, f5]
    exact Int.toNat_natCast _
  have d5 := dsN_read ds rest false ds.length (Nat.le_refl _)
  rw [List.take_length, List.drop_length, List.flatMap_nil, List.nil_append] at d5
  have hpm : ps.map (fun x => wrap64 (m32 x)) = ps := by
    conv => rhs; rw [← List.map_id ps]
    exact List.map_congr_left fun x hx => pass_id x (hps.2 x hx)
  constructor
  · unfold readR
    rw [eN, eM, e3, e5, f3, f5, p3, d5, hpm]
    show Rec.mk (wrap64 (m32 tool)) i0 i1 i2 i3 ps ds (wrap64 (m32 fuel)) = _
    rw [small_id tool (by omega), small_id fuel ⟨h4, h5⟩]
  · unfold tk7
    rw [eM, e5, f5, d5]
/-! Back. -/
theorem w_back (t : Tk) (h : t.w.2.short = false) : t.xs = t.w.1 :: t.w.2.xs ∧ t.short = false := by
  obtain ⟨xs, s⟩ := t
  cases xs with
  | nil => cases h
  | cons x l => exact ⟨rfl, h⟩
theorem d_back (t : Tk) (h : t.d.2.short = false) : t.xs = dig4 t.d.1 ++ t.d.2.xs ∧ t.short = false := by
  obtain ⟨a3, b3⟩ := w_back _ (show t.w.2.w.2.w.2.w.2.short = false from h)
  obtain ⟨a2, b2⟩ := w_back _ b3
  obtain ⟨a1, b1⟩ := w_back _ b2
  obtain ⟨a0, b0⟩ := w_back _ b1
  refine ⟨?_, b0⟩
  rw [a0, a1, a2, a3]
  rfl
theorem few_back (t : Tk) (hok : t.Ok) (h : t.few.2.short = false) : t.xs = t.few.1 :: t.few.2.xs ∧ t.short = false := by
  have hw := hok.w
  unfold Tk.few at h ⊢
  split
  · rename_i h1
    rw [if_pos h1] at h
    cases h
  · rename_i h1
    rw [if_neg h1] at h
    obtain ⟨a, b⟩ := w_back t h
    refine ⟨?_, b⟩
    show t.xs = wrap64 t.w.1 :: t.w.2.xs
    rw [w64_id _ ⟨hw.2.1, hw.2.2⟩]
    exact a
theorem ps_back (t : Tk) (hok : t.Ok) : ∀ j, (t.psN j).2.short = false → t.xs = (t.psN j).1.map m32 ++ (t.psN j).2.xs ∧ t.short = false
  | 0, h => ⟨rfl, h⟩
  | j + 1, h => by
    have hj := (hok.ps j).w
    obtain ⟨a, b⟩ := w_back (t.psN j).2 h
    obtain ⟨c, d⟩ := ps_back t hok j b
    refine ⟨?_, d⟩
    show t.xs = ((t.psN j).1 ++ [wrap64 (t.psN j).2.w.1]).map m32 ++ (t.psN j).2.w.2.xs
    rw [w64_id _ ⟨hj.2.1, hj.2.2⟩, List.map_append, List.append_assoc, List.map_cons, List.map_nil, m32_id _ ⟨hj.2.1, hj.2.2⟩, c, a]
    rfl
theorem ds_back (t : Tk) : ∀ j, (t.dsN j).2.short = false → t.xs = (t.dsN j).1.flatMap dig4 ++ (t.dsN j).2.xs ∧ t.short = false
  | 0, h => ⟨rfl, h⟩
  | j + 1, h => by
    obtain ⟨a, b⟩ := d_back (t.dsN j).2 h
    obtain ⟨c, d⟩ := ds_back t j b
    refine ⟨?_, d⟩
    show t.xs = ((t.dsN j).1 ++ [(t.dsN j).2.d.1]).flatMap dig4 ++ (t.dsN j).2.d.2.xs
    rw [List.flatMap_append, List.append_assoc, c, a]
    simp
theorem d_ok (t : Tk) (h : t.Ok) : DigOk t.d.1 := ⟨⟨h.w.2.1, h.w.2.2⟩, ⟨h.w.1.w.2.1, h.w.1.w.2.2⟩, ⟨h.w.1.w.1.w.2.1, h.w.1.w.1.w.2.2⟩, ⟨h.w.1.w.1.w.1.w.2.1, h.w.1.w.1.w.1.w.2.2⟩⟩
theorem ds_ok (t : Tk) (h : t.Ok) : ∀ j, ∀ d ∈ (t.dsN j).1, DigOk d
  | 0, d, hd => absurd hd List.not_mem_nil
  | j + 1, d, hd => by
    rcases List.mem_append.1 (show d ∈ (t.dsN j).1 ++ [(t.dsN j).2.d.1] from hd) with hd | hd
    · exact ds_ok t h j d hd
    · rw [List.mem_singleton.1 hd]
      exact d_ok _ (h.ds j)
/-- What was read to its end is the words of what was read. -/
theorem words_back (l : List Int) (hl : ∀ x ∈ l, 0 ≤ x ∧ x < 4294967296) (h1 : (tk7 l).short = false) (h2 : (tk7 l).xs = []) : l = (readR l).words ∧ (readR l).Ok := by
  have k0 : (⟨l, false⟩ : Tk).Ok := hl
  have k1 := k0.w
  have k2 := k1.1.d
  have k3 := k2.w
  have k4 : (tk3 l).few.2.Ok ∧ 0 ≤ (tk3 l).few.1 ∧ (tk3 l).few.1 ≤ 20 := Tk.Ok.few (t := tk3 l) k3.1
  have k5 : (tk5 l).Ok := k4.1.ps (tkN l)
  have k6 := k5.few
  obtain ⟨a7, b7⟩ := ds_back (tk5 l).few.2 (tkM l) h1
  obtain ⟨a6, b6⟩ := few_back (tk5 l) k5 b7
  obtain ⟨a5, b5⟩ := ps_back (tk3 l).few.2 k4.1 (tkN l) b6
  obtain ⟨a4, b4⟩ := few_back (tk3 l) k3.1 b5
  obtain ⟨a3, b3⟩ := w_back _ (show ((⟨l, false⟩ : Tk).w.2.d.2.w.2).short = false from b4)
  obtain ⟨a2, b2⟩ := d_back _ b3
  obtain ⟨a1, b1⟩ := w_back _ b2
  have n1 : ((tkN l : Nat) : Int) = (tk3 l).few.1 := by unfold tkN; exact Int.toNat_of_nonneg k4.2.1
  have n2 : ((tkM l : Nat) : Int) = (tk5 l).few.1 := by unfold tkM; exact Int.toNat_of_nonneg k6.2.1
  have e7 : (tk5 l).few.2.xs = ((tk5 l).few.2.dsN (tkM l)).1.flatMap dig4 := by rw [a7, show ((tk5 l).few.2.dsN (tkM l)).2.xs = [] from h2, List.append_nil]
  have e6 : (tk5 l).xs = ((tkM l : Nat) : Int) :: ((tk5 l).few.2.dsN (tkM l)).1.flatMap dig4 := by rw [a6, e7, n2]
  have e5 : (tk3 l).few.2.xs = ((tk3 l).few.2.psN (tkN l)).1.map m32 ++ ((tkM l : Nat) : Int) :: ((tk5 l).few.2.dsN (tkM l)).1.flatMap dig4 := by rw [a5, show ((tk3 l).few.2.psN (tkN l)).2.xs = _ from e6]
  have e4 : (tk3 l).xs = ((tkN l : Nat) : Int) :: (((tk3 l).few.2.psN (tkN l)).1.map m32 ++ ((tkM l : Nat) : Int) :: ((tk5 l).few.2.dsN (tkM l)).1.flatMap dig4) := by rw [a4, e5, n1]
  have hN : tkN l ≤ 20 := by omega
  have hM : tkM l ≤ 20 := by omega
  refine ⟨?_, ⟨k1.1.w.2, k1.1.w.1.w.2, k1.1.w.1.w.1.w.2, k1.1.w.1.w.1.w.1.w.2, ds_ok _ k6.1 _⟩⟩
  show l = [m32 (wrap64 (⟨l, false⟩ : Tk).w.1), (img l).f0, (img l).f1, (img l).f2, (img l).f3, m32 (wrap64 (⟨l, false⟩ : Tk).w.2.d.2.w.1), m32 ((((tk3 l).few.2.psN (tkN l)).1.length : Nat) : Int)] ++ ((tk3 l).few.2.psN (tkN l)).1.map m32 ++ [m32 ((((tk5 l).few.2.dsN (tkM l)).1.length : Nat) : Int)] ++ ((tk5 l).few.2.dsN (tkM l)).1.flatMap dig4
  rw [w64_id _ k1.2, m32_id _ k1.2, w64_id _ k3.2, m32_id _ k3.2, Tk.psN_length, Tk.dsN_length, m32_id ((tkN l : Nat) : Int) ⟨by omega, by omega⟩, m32_id ((tkM l : Nat) : Int) ⟨by omega, by omega⟩]
  have e0 : l = (⟨l, false⟩ : Tk).w.1 :: (dig4 (img l) ++ ((⟨l, false⟩ : Tk).w.2.d.2.w.1 :: (tk3 l).xs)) := by
    have a1' : l = (⟨l, false⟩ : Tk).w.1 :: (⟨l, false⟩ : Tk).w.2.xs := a1
    have a2' : (⟨l, false⟩ : Tk).w.2.xs = dig4 (img l) ++ (⟨l, false⟩ : Tk).w.2.d.2.xs := a2
    have a3' : (⟨l, false⟩ : Tk).w.2.d.2.xs = (⟨l, false⟩ : Tk).w.2.d.2.w.1 :: (tk3 l).xs := a3
    rw [a3'] at a2'
    rw [a2'] at a1'
    exact a1'
  rw [e4] at e0
  refine e0.trans ?_
  simp [dig4]
/-! Bytes. -/
theorem wordsL_bytesL : ∀ (l : List Int), (∀ x ∈ l, W32 x) → wordsL (bytesL l) = l
  | [], _ => rfl
  | x :: l, h => by
    have hx : W32 x := h x (by simp)
    unfold W32 at hx
    show le4 _ _ _ _ :: wordsL (bytesL l) = _
    rw [wordsL_bytesL l (fun y hy => h y (by simp [hy]))]
    congr 1
    unfold le4
    omega
theorem bytesL_wordsL : ∀ (l : List Int), (∀ x ∈ l, 0 ≤ x ∧ x ≤ 255) → l.length % 4 = 0 → bytesL (wordsL l) = l
  | [], _, _ => rfl
  | [_], _, h => by simp at h
  | [_, _], _, h => by simp at h
  | [_, _, _], _, h => by simp at h
  | a :: b :: c :: d :: t, h, hl => by
    have ha := h a (by simp)
    have hb := h b (by simp)
    have hc := h c (by simp)
    have hd := h d (by simp)
    show [_, _, _, _] ++ bytesL (wordsL t) = _
    rw [bytesL_wordsL t (fun y hy => h y (by simp [hy])) (by simp at hl; omega)]
    unfold le4
    simp only [List.cons_append, List.nil_append, List.cons.injEq, and_true]
    exact ⟨by omega, by omega, by omega, by omega⟩
theorem bytesL_byte (l : List Int) : ∀ x ∈ bytesL l, 0 ≤ x ∧ x ≤ 255 := by
  intro x hx
  obtain ⟨y, _, hy⟩ := List.mem_flatMap.1 hx
  simp only [List.mem_cons, List.not_mem_nil, or_false] at hy
  rcases hy with rfl | rfl | rfl | rfl <;> omega
theorem words_ok (r : Rec) (h : r.Ok) : ∀ x ∈ r.words, W32 x := by
  obtain ⟨h0, h1, h2, h3, h4⟩ := h
  intro x hx
  unfold Rec.words at hx
  simp only [List.mem_append, List.mem_cons, List.not_mem_nil, or_false, List.mem_map, List.mem_flatMap] at hx
  rcases hx with ((hx | ⟨y, _, rfl⟩) | rfl) | ⟨d, hd, hx⟩
  · rcases hx with rfl | rfl | rfl | rfl | rfl | rfl | rfl
    · exact m32_w _
    · exact h0
    · exact h1
    · exact h2
    · exact h3
    · exact m32_w _
    · exact m32_w _
  · exact m32_w _
  · exact m32_w _
  · obtain ⟨g0, g1, g2, g3⟩ := h4 d hd
    simp only [dig4, List.mem_cons, List.not_mem_nil, or_false] at hx
    rcases hx with rfl | rfl | rfl | rfl <;> assumption
theorem str_bytes (s : ByteArray) : strOfNums (bytesOf s) = s := by
  apply ByteArray.ext
  show ((bytesOf s).map fun n => UInt8.ofNat n.toNat).toArray = s.data
  unfold bytesOf
  rw [List.map_map]
  conv => rhs; rw [← Array.toArray_toList (xs := s.data), ← List.map_id s.data.toList]
  refine congrArg List.toArray (List.map_congr_left fun b _ => ?_)
  show UInt8.ofNat ((b.toNat : Nat) : Int).toNat = b
  rw [Int.toNat_natCast, UInt8.ofNat_toNat]
theorem bytesOf_inj {s t : ByteArray} (h : bytesOf s = bytesOf t) : s = t := by rw [← str_bytes s, h, str_bytes]
theorem bytesOf_extract (s : ByteArray) (a b : Nat) : bytesOf (s.extract a b) = ((bytesOf s).take b).drop a := by
  unfold bytesOf
  rw [ByteArray.data_extract, Array.toList_extract]
  simp only [List.map_take, List.map_drop, List.extract_eq_take_drop]
  exact List.drop_take.symm
theorem bytesOf_rec (r : Rec) : bytesOf (recBytes r) = 82 :: bytesL r.words := by
  unfold recBytes
  refine bytesOf_str _ fun x hx => ?_
  rcases List.mem_cons.1 hx with rfl | hx
  · decide
  · exact bytesL_byte _ x hx
theorem rec_size (r : Rec) : (recBytes r).size = 1 + 4 * (8 + r.ps.length + 4 * r.ds.length) := by
  unfold recBytes
  rw [strOfNums_size, List.length_cons, bytesL_length, words_length]
  omega
theorem rec_small (r : Rec) (h : r.right) : (recBytes r).size ≤ 433 := by
  have := right_small r h
  rw [rec_size]
  omega
theorem rec_head (r : Rec) : (recBytes r).extract 0 1 = (⟨#[82]⟩ : ByteArray) := by
  apply bytesOf_inj
  rw [bytesOf_extract, bytesOf_rec]
  rfl
theorem rec_tail (r : Rec) : bytesOf ((recBytes r).extract 1 (recBytes r).size) = bytesL r.words := by
  rw [bytesOf_extract, bytesOf_rec, List.take_of_length_le (by rw [← bytesOf_rec, bytesOf_length]; exact Nat.le_refl _)]
  rfl
/-- It is read of its bytes. -/
theorem readS_rec (r : Rec) (h : r.right) (hok : r.Ok) : readS (recBytes r) = (r, 0) := by
  have hw := read_words r h []
  rw [List.append_nil] at hw
  unfold readS
  rw [if_neg, rec_tail, wordsL_bytesL _ (words_ok r hok)]
  · unfold readL
    rw [hw.1, hw.2, if_pos ⟨rfl, rfl, h⟩]
  · rintro (e | e | e)
    · rw [rec_size] at e
      omega
    · exact e (rec_head r)
    · rw [← bytesOf_length, rec_tail, bytesL_length] at e
      omega
/-- What is read of bytes has just these bytes. -/
theorem readS_back (s : ByteArray) (h : (readS s).2 = 0) : (readS s).1.right ∧ (readS s).1.Ok ∧ recBytes (readS s).1 = s := by
  unfold readS at h ⊢
  split
  · rename_i h1
    rw [if_pos h1] at h
    cases h
  · rename_i h1
    rw [if_neg h1] at h
    have h0 : ¬ s.size = 0 := fun e => h1 (.inl e)
    have hR : s.extract 0 1 = (⟨#[82]⟩ : ByteArray) := Decidable.byContradiction fun e => h1 (.inr (.inl e))
    have hm : (s.extract 1 s.size).size % 4 = 0 := Decidable.byContradiction fun e => h1 (.inr (.inr e))
    unfold readL at h ⊢
    split
    · rename_i h2
      obtain ⟨a, b, c⟩ := h2
      obtain ⟨e, hok⟩ := words_back _ (wordsL_ok _ (bytesOf_ok _)) a b
      refine ⟨c, hok, ?_⟩
      apply bytesOf_inj
      rw [bytesOf_rec]
      show 82 :: bytesL (readR (wordsL (bytesOf (s.extract 1 s.size)))).words = _
      rw [← e, bytesL_wordsL _ (bytesOf_ok _) (by rw [bytesOf_length]; exact hm)]
      have e1 := congrArg bytesOf hR
      rw [bytesOf_extract] at e1
      rw [bytesOf_extract]
      have hlen : (bytesOf s).length = s.size := bytesOf_length s
      rw [List.take_of_length_le (by omega)]
      cases hb : bytesOf s with
      | nil => rw [hb] at hlen; simp at hlen; omega
      | cons x l =>
        rw [hb] at e1
        have : x = 82 := by
          have e2 : [x] = [82] := e1
          injection e2
        rw [this]
        rfl
    · rename_i h2
      rw [if_neg h2] at h
      cases h
theorem readS_err (s : ByteArray) (h : ¬ (readS s).2 = 0) : readS s = (zeroR, 7) := by
  unfold readS at h ⊢
  split
  · rfl
  · rename_i h1
    rw [if_neg h1] at h
    unfold readL at h ⊢
    split
    · rename_i h2
      rw [if_pos h2] at h
      exact absurd rfl h
    · rfl
/-- No recipe's bytes begin another one's. -/
theorem rec_prefix (a b : Rec) (ha : a.right) (hb : b.right) (oa : a.Ok) (ob : b.Ok) (h : (bytesOf (recBytes b)).take (recBytes a).size = bytesOf (recBytes a)) : a = b := by
  rw [← bytesOf_length (recBytes a), bytesOf_rec, bytesOf_rec] at h
  have h1 : (bytesL b.words).take (bytesL a.words).length = bytesL a.words := by
    rw [List.length_cons, List.take_succ_cons] at h
    injection h
  have h2 : bytesL b.words = bytesL a.words ++ (bytesL b.words).drop (bytesL a.words).length := by
    conv => lhs; rw [← List.take_append_drop (bytesL a.words).length (bytesL b.words), h1]
  have hl := congrArg List.length h2
  rw [List.length_append, List.length_drop, bytesL_length, bytesL_length] at hl
  have h3 := congrArg wordsL h2
  rw [wordsL_append _ _ (by rw [bytesL_length]; omega), wordsL_bytesL _ (words_ok b ob), wordsL_bytesL _ (words_ok a oa)] at h3
  have ra := (read_words a ha (wordsL ((bytesL b.words).drop (bytesL a.words).length))).1
  have rb := (read_words b hb []).1
  rw [List.append_nil, h3] at rb
  exact ra.symm.trans rb
theorem rec_inj (a b : Rec) (ha : a.right) (hb : b.right) (oa : a.Ok) (ob : b.Ok) (h : recBytes a = recBytes b) : a = b :=
  rec_prefix a b ha hb oa ob (by rw [h, List.take_of_length_le (by rw [bytesOf_length]; exact Nat.le_refl _)])
end Go.Proofs.YthimgiphlenjdaaDoor.PI
