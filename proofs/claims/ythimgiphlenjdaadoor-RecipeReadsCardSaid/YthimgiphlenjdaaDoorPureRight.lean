/- A recipe, whether it may be, its words, its bytes, in plain words. -/
import Derived.Test.YthimgiphlenjdaaDoorGe
import Derived.Test.YthimgiphlenjdaaDoorGc
set_option linter.unusedVariables false
namespace Go.Proofs.YthimgiphlenjdaaDoor.PI
open Go.RowKit Go.Proofs.YthimgiphlenjdaaDoorW.PrintWords
/-- A recipe. -/
structure Rec where
  tool : Int
  i0 : Int
  i1 : Int
  i2 : Int
  i3 : Int
  ps : List Int
  ds : List S24
  fuel : Int
/-- It may be. -/
def Rec.right (r : Rec) : Prop :=
  1 ≤ r.tool ∧ r.tool ≤ 6 ∧ (r.tool = 1 ∨ (r.i0 = 0 ∧ r.i1 = 0 ∧ r.i2 = 0 ∧ r.i3 = 0 ∧ r.fuel = 0)) ∧ 0 ≤ r.fuel ∧ r.fuel ≤ 100000000 ∧ r.ds.length ≤ 20 ∧ (r.tool = 1 ∨ r.tool = 6 ∨ r.ds.length = 1) ∧
    (if r.tool = 3 then r.ps.length ≤ 20 ∧ ∀ p ∈ r.ps, 1 ≤ p ∧ p ≤ 4 else r.ps = [])
instance (r : Rec) : Decidable r.right := by unfold Rec.right; infer_instance
/-- A word. -/
def W32 (x : Int) : Prop := 0 ≤ x ∧ x < 4294967296
def DigOk (d : S24) : Prop := W32 d.f0 ∧ W32 d.f1 ∧ W32 d.f2 ∧ W32 d.f3
/-- Its digests are of words. -/
def Rec.Ok (r : Rec) : Prop := W32 r.i0 ∧ W32 r.i1 ∧ W32 r.i2 ∧ W32 r.i3 ∧ ∀ d ∈ r.ds, DigOk d
def dig4 (d : S24) : List Int := [d.f0, d.f1, d.f2, d.f3]
def m32 (x : Int) : Int := x % 4294967296
/-- Its words. -/
def Rec.words (r : Rec) : List Int := [m32 r.tool, r.i0, r.i1, r.i2, r.i3, m32 r.fuel, m32 (r.ps.length : Int)] ++ r.ps.map m32 ++ [m32 (r.ds.length : Int)] ++ r.ds.flatMap dig4
/-- Words as bytes, the low end first. -/
def bytesL (l : List Int) : List Int := l.flatMap fun x => [x % 256, x / 256 % 256, x / 65536 % 256, x / 16777216 % 256]
def recBytes (r : Rec) : ByteArray := strOfNums (82 :: bytesL r.words)
/-- What recipe.Put answers. -/
def putS (r : Rec) : ByteArray × Int := if r.right then (recBytes r, 0) else ((⟨#[]⟩ : ByteArray), 1)
theorem bytesL_length (l : List Int) : (bytesL l).length = 4 * l.length := by
  induction l with
  | nil => rfl
  | cons x l ih =>
    show ([_, _, _, _] ++ bytesL l).length = _
    rw [List.length_append, ih]
    simp only [List.length_cons, List.length_nil]
    omega
theorem strOfNums_size (l : List Int) : (strOfNums l).size = l.length := by
  show ((l.map fun n => UInt8.ofNat n.toNat).toArray).size = _
  simp
theorem flat_length (l : List S24) : (l.flatMap dig4).length = 4 * l.length := by
  induction l with
  | nil => rfl
  | cons x l ih =>
    show ([_, _, _, _] ++ l.flatMap dig4).length = _
    rw [List.length_append, ih]
    simp only [List.length_cons, List.length_nil]
    omega
theorem words_length (r : Rec) : r.words.length = 8 + r.ps.length + 4 * r.ds.length := by
  unfold Rec.words
  rw [List.length_append, List.length_append, List.length_append, List.length_map, flat_length]
  show 7 + _ + 1 + _ = _
  omega
theorem right_small (r : Rec) (h : r.right) : r.ps.length ≤ 20 ∧ r.ds.length ≤ 20 := by
  obtain ⟨_, _, _, _, _, h6, _, h8⟩ := h
  refine ⟨?_, h6⟩
  split at h8
  · exact h8.1
  · rw [h8]
    exact Nat.zero_le _
theorem bytes_loop (l : List Int) (hl : l.length ≤ 1000000) : ∀ (d i k : Nat) (x3 : List Int), l.length - i = d → i ≤ l.length → d < k → x3.length ≤ 4 * i → word_Bytes.l0 k x3 l (l.length : Int) (i : Int) = some (strOfNums (x3 ++ bytesL (l.drop i)))
  | 0, i, k, x3, hd, hi, hk, hx => by
    obtain ⟨k, rfl⟩ : ∃ m, k = m + 1 := ⟨k - 1, by omega⟩
    rw [word_Bytes.l0, if_neg (by omega), List.drop_eq_nil_of_le (by omega)]
    simp [bytesL]
  | d + 1, i, k, x3, hd, hi, hk, hx => by
    obtain ⟨k, rfl⟩ : ∃ m, k = m + 1 := ⟨k - 1, by omega⟩
    have hw : wrap64 ((i : Int) + 1) = ((i + 1 : Nat) : Int) := by
      have e : wrap64 ((i : Int) + 1) = (i : Int) + 1 := by unfold wrap64; omega
      rw [e]
      omega
    have HW := Aside0.mk hw
    clear hw
    have hdr : l.drop i = rd l (i : Int) :: l.drop (i + 1) := by
      rw [List.drop_eq_getElem_cons (by omega)]
      unfold rd
      rw [Int.toNat_natCast, List.getD_eq_getElem?_getD, List.getElem?_eq_getElem (by omega)]
      rfl
    have HD := Aside0.mk hdr
    clear hdr
    rw [word_Bytes.l0, if_pos (by omega), if_pos (by omega), if_pos (by omega), Option.bind_some, if_pos (by simp only [List.length_cons, List.length_nil]; omega), HW.out,
      bytes_loop l hl d (i + 1) k _ (by omega) (by omega) (by omega) (by rw [List.length_append]; simp only [List.length_cons, List.length_nil]; omega), HD.out]
    simp [bytesL]
theorem bytes_f (l : List Int) (k : Nat) (hl : l.length ≤ 1000000) (hk : l.length < k) : word_Bytes.f k l = some (strOfNums (bytesL l)) := by
  unfold word_Bytes.f
  have h := bytes_loop l hl l.length 0 k [] (by omega) (by omega) hk (by simp)
  simpa using h
theorem recBytes_eq (r : Rec) : (⟨#[82]⟩ : ByteArray) ++ strOfNums (bytesL r.words) = recBytes r := by
  unfold recBytes strOfNums
  apply ByteArray.ext
  rw [ByteArray.data_append]
  simp
theorem take_m (l : List Int) (j : Nat) (h : j < l.length) : (l.take (j + 1)).map m32 = (l.take j).map m32 ++ [rd l (j : Int) % 4294967296] := by
  rw [List.take_succ_eq_append_getElem h, List.map_append]
  unfold rd m32
  rw [Int.toNat_natCast, List.getD_eq_getElem?_getD, List.getElem?_eq_getElem h]
  rfl
theorem take_d (l : List S24) (j : Nat) (h : j < l.length) : (l.take (j + 1)).flatMap dig4 = (l.take j).flatMap dig4 ++ dig4 (rd_T24 l (j : Int)) := by
  have e : rd_T24 l (j : Int) = l[j] := by
    unfold rd_T24
    rw [Int.toNat_natCast, List.getD_eq_getElem?_getD, List.getElem?_eq_getElem h]
    rfl
  rw [List.take_succ_eq_append_getElem h, List.flatMap_append, e]
  simp
theorem passOk_iff (p : Int) : passOk p = true ↔ 1 ≤ p ∧ p ≤ 4 := by
  unfold passOk
  simp
theorem right_of (a0 a1 a2 a3 a4 : Int) (ps : List Int) (ds : List S24) (a7 : Int) (k : Nat) : recipe_Right.f (k + 4) a0 a1 a2 a3 a4 ps ds a7 = some (decide (Rec.mk a0 a1 a2 a3 a4 ps ds a7).right) := by
  have hp : recipe_passes.f a0 ps = some (decide (if a0 = 3 then ps.length ≤ 20 ∧ ∀ p ∈ ps, 1 ≤ p ∧ p ≤ 4 else ps = [])) := by
    unfold recipe_passes.f
    refine congrArg some ?_
    split
    · rw [Bool.decide_and]
      congr 1
      rw [Bool.eq_iff_iff, List.all_eq_true, decide_eq_true_iff]
      exact forall_congr' fun p => imp_congr_right fun _ => passOk_iff p
    · cases ps <;> simp
  have H := Aside0.mk hp
  clear hp
  have key : ∀ b c : Bool, (b = true ↔ c = true) → some b = some c := fun b c h => by rw [Bool.eq_iff_iff.2 h]
  unfold recipe_Right.f
  split
  · rw [recipe_Right.j0, if_pos rfl]
    refine key _ _ ?_
    rw [decide_eq_true_iff]
    unfold Rec.right
    simp only
    constructor
    · intro h
      cases h
    · rintro ⟨h1, h2, _⟩
      omega
  · rw [recipe_Right.j0]
    split
    · rename_i h1 h2
      refine key _ _ ?_
      have h3 := of_decide_eq_true h2
      rw [decide_eq_true_iff]
      unfold Rec.right
      simp only
      constructor
      · intro h
        cases h
      · rintro ⟨h1, h2, _⟩
        omega
    · rename_i h1 h2
      have h3 : a0 ≤ 6 := by simpa using h2
      -- the image, the fuel
      have j2 : ∀ b : Bool, recipe_Right.j2 (k + 2) b a0 a1 a2 a3 a4 ps ds a7 = some (!b && (decide (a0 = 1 ∨ a0 = 6 ∨ ds.length = 1) && decide (if a0 = 3 then ps.length ≤ 20 ∧ ∀ p ∈ ps, 1 ≤ p ∧ p ≤ 4 else ps = []))) := by
        intro b
        generalize hQ : decide (if a0 = 3 then ps.length ≤ 20 ∧ ∀ p ∈ ps, 1 ≤ p ∧ p ≤ 4 else ps = []) = Q at H ⊢
        rw [recipe_Right.j2]
        cases b with
        | true => rw [if_pos rfl]; rfl
        | false =>
          rw [if_neg (by decide), H.out]
          have hs : recipe_single.f a0 = some (decide (¬ (a0 = 1 ∨ a0 = 6))) := by
            unfold recipe_single.f
            split
            · rename_i e; subst e; rfl
            · split
              · rename_i e; subst e; rfl
              · split
                · rename_i e; subst e; rfl
                · refine key _ _ ?_
                  simp only [beq_iff_eq, decide_eq_true_iff]
                  omega
          rw [hs, Option.bind_some]
          by_cases ht : a0 = 1 ∨ a0 = 6
          · rw [if_neg (by rw [decide_eq_true_iff]; exact fun h => h ht)]
            rw [decide_eq_true (show a0 = 1 ∨ a0 = 6 ∨ ds.length = 1 by omega)]
            rfl
          · rw [if_pos (by rw [decide_eq_true_iff]; exact ht)]
            by_cases hd : ds.length = 1
            · rw [if_pos (by omega), decide_eq_true (show a0 = 1 ∨ a0 = 6 ∨ ds.length = 1 by omega)]
              rfl
            · rw [if_neg (by omega), decide_eq_false (show ¬ (a0 = 1 ∨ a0 = 6 ∨ ds.length = 1) by omega)]
              rfl
      have J2 := Aside0.mk j2
      clear j2
      have j1 : ∀ b : Bool, recipe_Right.j1 (k + 3) b a0 a1 a2 a3 a4 ps ds a7 = some (!b && (decide (0 ≤ a7 ∧ a7 ≤ 100000000 ∧ ds.length ≤ 20) && (decide (a0 = 1 ∨ a0 = 6 ∨ ds.length = 1) && decide (if a0 = 3 then ps.length ≤ 20 ∧ ∀ p ∈ ps, 1 ≤ p ∧ p ≤ 4 else ps = [])))) := by
        intro b
        generalize hQ : decide (if a0 = 3 then ps.length ≤ 20 ∧ ∀ p ∈ ps, 1 ≤ p ∧ p ≤ 4 else ps = []) = Q at J2 ⊢
        generalize hQ2 : decide (a0 = 1 ∨ a0 = 6 ∨ ds.length = 1) = Q2 at J2 ⊢
        rw [recipe_Right.j1]
        cases b with
        | true => rw [if_pos rfl]; rfl
        | false =>
          rw [if_neg (by decide)]
          split
          · rw [J2.out, decide_eq_false (show ¬ (0 ≤ a7 ∧ a7 ≤ 100000000 ∧ ds.length ≤ 20) by omega)]; rfl
          · split
            · rw [J2.out, decide_eq_false (show ¬ (0 ≤ a7 ∧ a7 ≤ 100000000 ∧ ds.length ≤ 20) by omega)]; rfl
            · rw [J2.out]
              by_cases hd : ds.length ≤ 20
              · rw [decide_eq_true (show 0 ≤ a7 ∧ a7 ≤ 100000000 ∧ ds.length ≤ 20 by omega), decide_eq_false (show ¬ ((ds.length : Int) > 20) by omega)]; rfl
              · rw [decide_eq_false (show ¬ (0 ≤ a7 ∧ a7 ≤ 100000000 ∧ ds.length ≤ 20) by omega), decide_eq_true (show ((ds.length : Int) > 20) by omega)]; rfl
      have J1 := Aside0.mk j1
      clear j1
      have fin : ∀ b : Bool, ((!b) = decide (a0 = 1 ∨ (a1 = 0 ∧ a2 = 0 ∧ a3 = 0 ∧ a4 = 0 ∧ a7 = 0))) → some (!b && (decide (0 ≤ a7 ∧ a7 ≤ 100000000 ∧ ds.length ≤ 20) && (decide (a0 = 1 ∨ a0 = 6 ∨ ds.length = 1) && decide (if a0 = 3 then ps.length ≤ 20 ∧ ∀ p ∈ ps, 1 ≤ p ∧ p ≤ 4 else ps = [])))) = some (decide (Rec.mk a0 a1 a2 a3 a4 ps ds a7).right) := by
        intro b hb
        rw [hb]
        refine key _ _ ?_
        simp only [Bool.and_eq_true, decide_eq_true_iff]
        unfold Rec.right
        simp only
        constructor
        · rintro ⟨p1, ⟨p2, p3, p4⟩, p5, p6⟩
          exact ⟨by omega, h3, p1, p2, p3, p4, p5, p6⟩
        · rintro ⟨_, _, p1, p2, p3, p4, p5, p6⟩
          exact ⟨p1, ⟨p2, p3, p4⟩, p5, p6⟩
      split
      · rw [J1.out]
        refine fin false ?_
        rw [decide_eq_true (by left; assumption)]
        rfl
      · rename_i h4
        split
        · rename_i h5
          rw [J1.out]
          refine fin true ?_
          refine (decide_eq_false ?_).symm
          rintro (h6 | ⟨rfl, rfl, rfl, rfl, _⟩)
          · exact h4 h6
          · exact absurd h5 (by decide)
        · rename_i h5
          rw [J1.out]
          refine fin _ ?_
          simp only [Bool.or_eq_true, Bool.not_eq_true', beq_eq_false_iff_ne, ne_eq] at h5
          rw [Bool.eq_iff_iff]
          simp only [Bool.not_eq_true', bne_eq_false_iff_eq, decide_eq_true_iff]
          omega
end Go.Proofs.YthimgiphlenjdaaDoor.PI
