/- What the functions of the walks answer, in the plain law's words. -/
import Derived.Test.YtpnpepimcnidoaaHLaw
import Derived.Test.YtpnpepimcnidoaaPId
set_option linter.unusedVariables false
set_option linter.unusedSimpArgs false
namespace Go.Proofs.Ytpnpepimcnidoaa.PI
open Go.RowKit Go.Proofs.YtpnpepimcnidoaaW.PrintWords Go.Proofs.YtpnpepimcnidoaaW.PrintLast HX

theorem wrap64_of {n : Int} (h0 : -9223372036854775808 ≤ n) (h1 : n ≤ 9223372036854775807) : wrap64 n = n := by unfold wrap64; omega
theorem drop_cons (l : List Int) (i : Nat) (h : i < l.length) : l.drop i = rd l (i : Nat) :: l.drop (i + 1) := by
  rw [List.drop_eq_getElem_cons h]
  simp [rd, List.getD_eq_getElem?_getD, List.getElem?_eq_getElem h]
theorem rd_u32 {l : List Int} (h : U32 l) (i : Nat) (hi : i < l.length) : 0 ≤ rd l (i : Nat) ∧ rd l (i : Nat) < 4294967296 := by
  have : rd l (i : Nat) = l[i] := by simp [rd, List.getD_eq_getElem?_getD, List.getElem?_eq_getElem hi]
  rw [this]
  exact h _ (List.getElem_mem hi)

/-! ### word.Bytes and the reference's -/
theorem bytes_l (l : List Int) (hm : l.length ≤ 35184372088832) (d : Nat) : ∀ (k i : Nat) (x : List Int), i + d = l.length → d < k → x.length + 4 * d < 140737488355328 →
    word_Bytes.l0 k x l (l.length : Int) (i : Int) = some (strOfNums (x ++ bw (l.drop i))) := by
  induction d with
  | zero =>
    intro k i x hi hk hx
    obtain ⟨k, rfl⟩ : ∃ j, k = j + 1 := ⟨k - 1, by omega⟩
    simp only [word_Bytes.l0]
    rw [if_neg (by omega), List.drop_of_length_le (by omega), bw_nil, List.append_nil]
  | succ d ih =>
    intro k i x hi hk hx
    obtain ⟨k, rfl⟩ : ∃ j, k = j + 1 := ⟨k - 1, by omega⟩
    simp only [word_Bytes.l0, Option.bind_some]
    rw [if_pos (by omega), if_pos (by omega), if_pos (by omega)]
    rw [if_pos (by show x.length + 4 < _; omega)]
    rw [show wrap64 ((i : Int) + 1) = ((i + 1 : Nat) : Int) from wrap64_of (by omega) (by omega)]
    rw [ih k (i + 1) _ (by omega) (by omega) (by rw [List.length_append]; show x.length + 4 + 4 * d < _; omega)]
    rw [drop_cons l i (by omega), bw_cons]
    simp [bw1]
theorem bytes_f (l : List Int) (hm : 4 * l.length < 140737488355328) (k : Nat) (hk : l.length < k) : word_Bytes.f k l = some (strOfNums (bw l)) := by
  have := bytes_l l (by omega) l.length k 0 [] (by omega) hk (by simpa using hm)
  simpa [word_Bytes.f] using this

theorem rbytes_one (l x : List Int) (i : Nat) (v : Int) (hv : 0 ≤ v ∧ v < 4294967296) (k : Nat) (hx : x.length + 4 < 140737488355328) :
    seedcornref01_Bytes.l1 (k + 5) l x (i : Int) v 0 = seedcornref01_Bytes.l0 k l (x ++ bw1 v) (wrap64 ((i : Int) + 1)) := by
  have t1 : Int.tmod v 256 % 256 = v % 256 := by rw [Int.tmod_eq_emod_of_nonneg hv.1]; omega
  have d1 : Int.tdiv v 256 % 4294967296 = v / 256 := by rw [Int.tdiv_eq_ediv_of_nonneg hv.1]; omega
  have t2 : Int.tmod (v / 256) 256 % 256 = v / 256 % 256 := by rw [Int.tmod_eq_emod_of_nonneg (by omega)]; omega
  have d2 : Int.tdiv (v / 256) 256 % 4294967296 = v / 65536 := by rw [Int.tdiv_eq_ediv_of_nonneg (by omega)]; omega
  have t3 : Int.tmod (v / 65536) 256 % 256 = v / 65536 % 256 := by rw [Int.tmod_eq_emod_of_nonneg (by omega)]; omega
  have d3 : Int.tdiv (v / 65536) 256 % 4294967296 = v / 16777216 := by rw [Int.tdiv_eq_ediv_of_nonneg (by omega)]; omega
  have t4 : Int.tmod (v / 16777216) 256 % 256 = v / 16777216 % 256 := by rw [Int.tmod_eq_emod_of_nonneg (by omega)]; omega
  have w0 : wrap64 (0 + 1) = 1 := wrap64_of (by decide) (by decide)
  have w1 : wrap64 (1 + 1) = 2 := wrap64_of (by decide) (by decide)
  have w2 : wrap64 (2 + 1) = 3 := wrap64_of (by decide) (by decide)
  have w3 : wrap64 (3 + 1) = 4 := wrap64_of (by decide) (by decide)
  simp only [seedcornref01_Bytes.l1]
  rw [if_pos (by decide), if_pos (by omega), t1, d1, w0]
  rw [if_pos (by decide), if_pos (by rw [List.length_append]; show x.length + 1 < _; omega), t2, d2, w1]
  rw [if_pos (by decide), if_pos (by rw [List.length_append, List.length_append]; show x.length + 1 + 1 < _; omega), t3, d3, w2]
  rw [if_pos (by decide), if_pos (by rw [List.length_append, List.length_append, List.length_append]; show x.length + 1 + 1 + 1 < _; omega), t4, w3]
  rw [if_neg (by decide)]
  congr 1
  simp [bw1]
theorem rbytes_l (l : List Int) (hu : U32 l) (hm : l.length ≤ 35184372088832) (d : Nat) : ∀ (k i : Nat) (x : List Int), i + d = l.length → 6 * d < k → x.length + 4 * d < 140737488355328 →
    seedcornref01_Bytes.l0 k l x (i : Int) = some (strOfNums (x ++ bw (l.drop i))) := by
  induction d with
  | zero =>
    intro k i x hi hk hx
    obtain ⟨k, rfl⟩ : ∃ j, k = j + 1 := ⟨k - 1, by omega⟩
    simp only [seedcornref01_Bytes.l0]
    rw [if_neg (by omega), List.drop_of_length_le (by omega), bw_nil, List.append_nil]
  | succ d ih =>
    intro k i x hi hk hx
    obtain ⟨k, rfl⟩ : ∃ j, k = (j + 5) + 1 := ⟨k - 6, by omega⟩
    rw [seedcornref01_Bytes.l0]
    rw [if_pos (by omega), if_pos (by omega)]
    rw [rbytes_one l x i _ (rd_u32 hu i (by omega)) k (by omega)]
    rw [show wrap64 ((i : Int) + 1) = ((i + 1 : Nat) : Int) from wrap64_of (by omega) (by omega)]
    rw [ih k (i + 1) _ (by omega) (by omega) (by rw [List.length_append]; show x.length + 4 + 4 * d < _; omega)]
    rw [drop_cons l i (by omega), bw_cons, List.append_assoc]
theorem rbytes_f (l : List Int) (hu : U32 l) (hm : 4 * l.length < 140737488355328) (k : Nat) (hk : 6 * l.length < k) : seedcornref01_Bytes.f k l = some (strOfNums (bw l)) := by
  have := rbytes_l l hu (by omega) l.length k 0 [] (by omega) hk (by simpa using hm)
  simpa [seedcornref01_Bytes.f] using this

/-! ### Right, Put -/
def okB (l : List Int) (d : Int) : Bool := decide (l.length ≤ 16384) && decide (0 ≤ d) && decide (d ≤ 32768)
theorem okB_iff {l : List Int} {d : Int} : okB l d = true ↔ l.length ≤ 16384 ∧ 0 ≤ d ∧ d ≤ 32768 := by
  unfold okB; simp only [Bool.and_eq_true, decide_eq_true_eq]; exact ⟨fun ⟨⟨a, b⟩, c⟩ => ⟨a, b, c⟩, fun ⟨a, b, c⟩ => ⟨⟨a, b⟩, c⟩⟩
theorem right_f (l : List Int) (d : Int) : image_Right.f l d = some (okB l d) := by
  unfold image_Right.f okB
  by_cases h1 : l.length ≤ 16384
  · rw [if_pos (by omega)]
    by_cases h2 : 0 ≤ d
    · rw [if_pos h2]; simp [h1, h2]
    · rw [if_neg h2]; simp [h2]
  · rw [if_neg (by omega)]; simp [h1]
theorem rright_f (l : List Int) (d : Int) : seedcornref08_Right.f l d = some (okB l d) := right_f l d
def putS (l : List Int) (d : Int) : ByteArray × Int := if okB l d = true then (strOfNums (enc l d), 0) else (⟨#[]⟩, 1)
theorem head_u32 {l : List Int} {d : Int} (h : okB l d = true) : ([((l.length : Int)) % 4294967296, d % 4294967296] : List Int) = [(l.length : Int), d] ∧ U32 [(l.length : Int), d] := by
  rw [okB_iff] at h
  refine ⟨?_, fun x hx => ?_⟩
  · rw [show ((l.length : Int)) % 4294967296 = l.length by omega, show d % 4294967296 = d by omega]
  · simp only [List.mem_cons, List.not_mem_nil, or_false] at hx
    rcases hx with h1 | h1 <;> omega
theorem enc_split (l : List Int) (d : Int) : ((⟨#[83, 69, 69, 68]⟩ : ByteArray) ++ strOfNums (bw [(l.length : Int), d])) ++ strOfNums (bw l) = strOfNums (enc l d) := by
  have : (⟨#[83, 69, 69, 68]⟩ : ByteArray) = strOfNums [83, 69, 69, 68] := rfl
  rw [this, strOf_append, strOf_append]
  congr 1
theorem put_f (l : List Int) (d : Int) (k : Nat) (hk : 16384 < k) : image_Put.f k l d = some (putS l d) := by
  unfold image_Put.f putS
  rw [right_f]
  simp only [Option.bind_some]
  by_cases h : okB l d = true
  · rw [if_pos h, if_pos h]
    obtain ⟨e1, e2⟩ := head_u32 h
    have h' := okB_iff.1 h
    rw [e1, bytes_f [(l.length : Int), d] (by simp) k (by simp; omega)]
    have s1 : (strOfNums (bw [(l.length : Int), d])).size = 8 := by rw [strOfNums_size, bw_length]; rfl
    have s2 : (strOfNums (bw l)).size = 4 * l.length := by rw [strOfNums_size, bw_length]
    simp only [Option.bind_some]
    rw [if_pos (by omega), bytes_f l (by omega) k (by omega)]
    simp only [Option.bind_some]
    have s3 : (⟨#[83, 69, 69, 68]⟩ : ByteArray).size = 4 := rfl
    rw [if_pos (by rw [ByteArray.size_append]; omega), enc_split]
  · rw [if_neg h, if_neg h]
theorem rput_f (l : List Int) (d : Int) (hu : U32 l) (k : Nat) (hk : 98304 < k) : seedcornref08_Put.f k l d = some (putS l d) := by
  unfold seedcornref08_Put.f putS
  rw [rright_f]
  simp only [Option.bind_some]
  by_cases h : okB l d = true
  · rw [if_pos h, if_pos h]
    obtain ⟨e1, e2⟩ := head_u32 h
    have h' := okB_iff.1 h
    rw [e1, rbytes_f [(l.length : Int), d] e2 (by simp) k (by simp; omega)]
    have s1 : (strOfNums (bw [(l.length : Int), d])).size = 8 := by rw [strOfNums_size, bw_length]; rfl
    have s2 : (strOfNums (bw l)).size = 4 * l.length := by rw [strOfNums_size, bw_length]
    simp only [Option.bind_some]
    rw [if_pos (by omega), rbytes_f l hu (by omega) k (by omega)]
    simp only [Option.bind_some]
    have s3 : (⟨#[83, 69, 69, 68]⟩ : ByteArray).size = 4 := rfl
    rw [if_pos (by rw [ByteArray.size_append]; omega), enc_split]
  · rw [if_neg h, if_neg h]

/-! ### Same -/
def sameB (l : List Int) (d : Int) (m : List Int) (e : Int) : Bool := decide (l = m) && decide (d = e)
theorem rsame_l (l m : List Int) (d e : Int) (hlm : l.length = m.length) (hm : l.length ≤ 35184372088832) (n : Nat) : ∀ (k i : Nat), i + n = l.length → n < k → l.take i = m.take i →
    seedcornref08_Same.l0 k (i : Int) l d m e = some (decide (l = m)) := by
  induction n with
  | zero =>
    intro k i hi hk ht
    obtain ⟨k, rfl⟩ : ∃ j, k = j + 1 := ⟨k - 1, by omega⟩
    simp only [seedcornref08_Same.l0]
    rw [if_neg (by omega)]
    rw [List.take_of_length_le (by omega), List.take_of_length_le (by omega)] at ht
    rw [decide_eq_true ht]
  | succ n ih =>
    intro k i hi hk ht
    obtain ⟨k, rfl⟩ : ∃ j, k = j + 1 := ⟨k - 1, by omega⟩
    simp only [seedcornref08_Same.l0]
    rw [if_pos (by omega), if_pos (by omega), if_pos (by omega)]
    have e1 : rd l (i : Nat) = l[i]'(by omega) := by simp [rd, List.getD_eq_getElem?_getD, List.getElem?_eq_getElem (show i < l.length by omega)]
    have e2 : rd m (i : Nat) = m[i]'(by omega) := by simp [rd, List.getD_eq_getElem?_getD, List.getElem?_eq_getElem (show i < m.length by omega)]
    by_cases h : rd l (i : Nat) = rd m (i : Nat)
    · rw [if_pos h, show wrap64 ((i : Int) + 1) = ((i + 1 : Nat) : Int) from wrap64_of (by omega) (by omega)]
      refine ih k (i + 1) (by omega) (by omega) ?_
      rw [List.take_succ_eq_append_getElem (by omega), List.take_succ_eq_append_getElem (by omega), ht, ← e1, ← e2, h]
    · rw [if_neg h]
      have : l ≠ m := fun hh => h (by subst hh; rfl)
      rw [decide_eq_false this]
theorem rsame_f (l m : List Int) (d e : Int) (hm : l.length ≤ 35184372088832) (k : Nat) (hk : l.length + 1 < k) : seedcornref08_Same.f k l d m e = some (sameB l d m e) := by
  unfold seedcornref08_Same.f sameB
  obtain ⟨k, rfl⟩ : ∃ j, k = j + 1 := ⟨k - 1, by omega⟩
  by_cases h : d = e
  · rw [if_pos h, seedcornref08_Same.j0]
    by_cases hl : l.length = m.length
    · have : ((l.length : Int) != (m.length : Int)) = false := by rw [hl]; simp
      rw [this, if_neg (by decide)]
      have := rsame_l l m d e hl hm l.length k 0 (by omega) (by omega) rfl
      rw [show ((0 : Nat) : Int) = 0 from rfl] at this
      rw [this]; simp [h]
    · have : ((l.length : Int) != (m.length : Int)) = true := by rw [bne_iff_ne]; omega
      rw [this, if_pos rfl]
      have : l ≠ m := fun hh => hl (by rw [hh])
      rw [decide_eq_false this]; rfl
  · rw [if_neg h, seedcornref08_Same.j0, if_pos rfl, decide_eq_false h, Bool.and_false]

/-! ### the reference's Read -/
theorem rword_f (s : ByteArray) (i : Nat) (h : i + 3 < s.size) (hs : s.size ≤ 140737488351232) : seedcornref08_word.f s (i : Int) = some (wd s i) := by
  unfold seedcornref08_word.f
  have w1 : wrap64 ((i : Int) + 1) = ((i + 1 : Nat) : Int) := wrap64_of (by omega) (by omega)
  have w2 : wrap64 ((i : Int) + 2) = ((i + 2 : Nat) : Int) := wrap64_of (by omega) (by omega)
  have w3 : wrap64 ((i : Int) + 3) = ((i + 3 : Nat) : Int) := wrap64_of (by omega) (by omega)
  rw [w1, w2, w3]
  rw [if_pos (by omega), if_pos (by omega), if_pos (by omega), if_pos (by omega), if_pos (by omega), if_pos (by omega), if_pos (by omega), if_pos (by omega)]
  have r0 := bt_range s (i : Nat)
  have r1 := bt_range s ((i + 1 : Nat) : Int)
  have r2 := bt_range s ((i + 2 : Nat) : Int)
  have r3 := bt_range s ((i + 3 : Nat) : Int)
  congr 1
  unfold wd word4
  omega
theorem wds_snoc (s : ByteArray) (i n : Nat) : wds s i (n + 1) = wds s i n ++ [wd s (i + 4 * n)] := by simp [wds, List.range_succ]
theorem rread_l (s : ByteArray) (hs : s.size ≤ 140737488351232) (n : Nat) (hn : s.size = 12 + 4 * n) (hn2 : n ≤ 16384) (dd : Int) (m : Nat) : ∀ (k i : Nat), i + m = n → m < k →
    seedcornref08_Read.l0 k s (n : Int) (i : Int) (wds s 12 i) dd = some (wds s 12 n, dd, 0) := by
  induction m with
  | zero =>
    intro k i hi hk
    obtain ⟨k, rfl⟩ : ∃ j, k = j + 1 := ⟨k - 1, by omega⟩
    simp only [seedcornref08_Read.l0]
    rw [wrap64_of (n := (n : Int)) (by omega) (by omega), if_neg (by omega)]
    obtain rfl : i = n := by omega
    rfl
  | succ m ih =>
    intro k i hi hk
    obtain ⟨k, rfl⟩ : ∃ j, k = j + 1 := ⟨k - 1, by omega⟩
    simp only [seedcornref08_Read.l0]
    rw [wrap64_of (n := (n : Int)) (by omega) (by omega), if_pos (by omega)]
    rw [show wrap64 (12 + wrap64 (4 * (i : Int))) = ((12 + 4 * i : Nat) : Int) by rw [wrap64_of (n := 4 * (i : Int)) (by omega) (by omega)]; rw [wrap64_of (by omega) (by omega)]; omega]
    rw [rword_f s (12 + 4 * i) (by omega) hs]
    simp only [Option.bind_some]
    rw [if_pos (by rw [wds_length]; omega), show wrap64 ((i : Int) + 1) = ((i + 1 : Nat) : Int) from wrap64_of (by omega) (by omega), ← wds_snoc]
    exact ih k (i + 1) (by omega) (by omega)
theorem mark_bt (s : ByteArray) (h : 4 ≤ s.size) : ((bytesOf s).take 4 = [83, 69, 69, 68]) ↔ bt s 0 = 83 ∧ bt s 1 = 69 ∧ bt s 2 = 69 ∧ bt s 3 = 68 := by
  have hl : (bytesOf s).length = s.size := bytesOf_length s
  rw [← rd_bytesOf, ← rd_bytesOf, ← rd_bytesOf, ← rd_bytesOf]
  match hh : bytesOf s, hl with
  | a :: b :: c :: d :: t, _ => simp [rd]
  | [], hl => simp at hl; omega
  | [a], hl => simp at hl; omega
  | [a, b], hl => simp at hl; omega
  | [a, b, c], hl => simp at hl; omega
theorem rread_j0 (s : ByteArray) (k : Nat) : seedcornref08_Read.j0 (k + 1) s true = some ([], 0, 7) := by simp only [seedcornref08_Read.j0]; rfl
theorem rread_j1 (s : ByteArray) (k : Nat) (a b : Int) : seedcornref08_Read.j1 (k + 1) s a b true = some ([], 0, 7) := by simp only [seedcornref08_Read.j1]; rfl
theorem rread_f (s : ByteArray) (hs : s.size ≤ 140737488351232) (k : Nat) (hk : 16400 < k) : seedcornref08_Read.f k s = some (readS s) := by
  unfold seedcornref08_Read.f
  obtain ⟨k, rfl⟩ : ∃ j, k = (j + 1) + 1 := ⟨k - 2, by omega⟩
  by_cases h12 : s.size < 12
  · rw [if_pos (by omega), rread_j0, read_none]
    rw [Bool.eq_false_iff]; intro h; have := (readOk_iff s).1 h; omega
  rw [if_neg (by omega)]
  have bad : ¬ (bt s 0 = 83 ∧ bt s 1 = 69 ∧ bt s 2 = 69 ∧ bt s 3 = 68) → some (([] : List Int), (0 : Int), (7 : Int)) = some (readS s) := fun hb => by
    rw [read_none]
    rw [Bool.eq_false_iff]; intro h; exact hb ((mark_bt s (by omega)).1 ((readOk_iff s).1 h).1)
  rw [if_pos (by omega)]
  by_cases b0 : bt s 0 = 83
  case neg => rw [if_neg b0, rread_j0]; exact bad (fun h => b0 h.1)
  rw [if_pos b0, if_pos (by omega)]
  by_cases b1 : bt s 1 = 69
  case neg => rw [if_neg b1, rread_j0]; exact bad (fun h => b1 h.2.1)
  rw [if_pos b1, if_pos (by omega)]
  by_cases b2 : bt s 2 = 69
  case neg => rw [if_neg b2, rread_j0]; exact bad (fun h => b2 h.2.2.1)
  rw [if_pos b2, if_pos (by omega)]
  by_cases b3 : bt s 3 = 68
  case neg =>
    have : (bt s 3 != 68) = true := by rw [bne_iff_ne]; exact b3
    rw [this, rread_j0]; exact bad (fun h => b3 h.2.2.2)
  have : (bt s 3 != 68) = false := by rw [b3]; rfl
  rw [this]
  have hmark := (mark_bt s (by omega)).2 ⟨b0, b1, b2, b3⟩
  have g4 := wd_range s 4
  have g8 := wd_range s 8
  have nope : ¬ (wd s 4 ≤ 16384 ∧ wd s 8 ≤ 32768 ∧ (s.size : Int) = 12 + 4 * wd s 4) → some (([] : List Int), (0 : Int), (7 : Int)) = some (readS s) := fun hb => by
    rw [read_none]
    rw [Bool.eq_false_iff]; intro h; exact hb ((readOk_iff s).1 h).2.2
  have e4 := rword_f s 4 (by omega) hs
  have e8 := rword_f s 8 (by omega) hs
  rw [show ((4 : Nat) : Int) = 4 from rfl] at e4
  rw [show ((8 : Nat) : Int) = 8 from rfl] at e8
  rw [seedcornref08_Read.j0, if_neg (by decide), e4, e8]
  simp only [Option.bind_some]
  by_cases c4 : wd s 4 > 16384
  · rw [if_pos c4, rread_j1]; exact nope (by omega)
  rw [if_neg c4]
  by_cases c8 : wd s 8 > 32768
  · rw [if_pos c8, rread_j1]; exact nope (by omega)
  rw [if_neg c8]
  rw [wrap64_of (n := wd s 4) (by omega) (by omega), wrap64_of (n := 4 * wd s 4) (by omega) (by omega), wrap64_of (n := 12 + 4 * wd s 4) (by omega) (by omega)]
  by_cases hsz : (s.size : Int) = 12 + 4 * wd s 4
  case neg =>
    have : ((s.size : Int) != 12 + 4 * wd s 4) = true := by rw [bne_iff_ne]; exact hsz
    rw [this, rread_j1]; exact nope (fun h => hsz h.2.2)
  have : ((s.size : Int) != 12 + 4 * wd s 4) = false := by rw [hsz]; simp
  rw [this, seedcornref08_Read.j1, if_neg (by decide), wrap64_of (n := wd s 8) (by omega) (by omega)]
  have ok : readOk s = true := (readOk_iff s).2 ⟨hmark, by omega, by omega, by omega, hsz⟩
  have hl := rread_l s hs (wd s 4).toNat (by omega) (by omega) (wd s 8) (wd s 4).toNat k 0 (by omega) (by omega)
  rw [show (((wd s 4).toNat : Nat) : Int) = wd s 4 by omega, show ((0 : Nat) : Int) = 0 from rfl, show wds s 12 0 = [] from rfl] at hl
  rw [hl]
  unfold readS
  rw [if_pos ok]
theorem read_f (s : ByteArray) (hs : s.size ≤ 140737488351232) (k : Nat) : image_Read.f k s = some (readS s) := by unfold image_Read.f; rw [if_pos hs]

/-! ### awake -/
theorem putS_ok {l : List Int} {d : Int} (h : okB l d = true) : putS l d = (strOfNums (enc l d), 0) := by unfold putS; rw [if_pos h]
theorem putS_no {l : List Int} {d : Int} (h : okB l d = false) : putS l d = (⟨#[]⟩, 1) := by unfold putS; rw [if_neg (by rw [h]; decide)]
theorem awake_f (k : Nat) (hk : 16384 < k) : seedcornlaw08_awake.f k = some true := by
  unfold seedcornlaw08_awake.f
  simp only [Option.bind_some]
  have h5 : okB [5] 2 = true := by decide
  have hn : okB [] (-1) = false := by decide
  have u5 : U32 [5] := fun x hx => by simp at hx; omega
  rw [put_f [5] 2 k hk, put_f [] (-1) k hk, putS_ok h5, putS_no hn]
  have e : strOfNums (enc [5] 2) = (⟨#[83, 69, 69, 68, 1, 0, 0, 0, 2, 0, 0, 0, 5, 0, 0, 0]⟩ : ByteArray) := by decide +kernel
  have hsz : (strOfNums (enc [5] 2)).size = 16 := by rw [strOfNums_size, enc_length]; rfl
  simp only [Option.bind_some]
  rw [read_f _ (by omega) k, read_enc [5] 2 u5 (by decide) (by decide)]
  simp only [Option.bind_some]
  rw [if_pos (by omega)]
  have hx : strOfNums (enc [5] 2) ++ (⟨#[120]⟩ : ByteArray) = strOfNums (enc [5] 2 ++ [120]) := by rw [← strOf_append]; rfl
  rw [hx, read_f _ (by rw [strOfNums_size, List.length_append, enc_length]; decide) k, read_more [5] 2 [120] (fun x hx => by simp at hx; omega) (by decide) (by decide) (by decide)]
  simp only [Option.bind_some]
  rw [if_pos (by decide), if_pos (by rw [e, Lib.toList_data]), if_pos (by decide)]
  rw [rsame_f [5] [5] 2 2 (by decide) k (by simp; omega)]
  rfl
end Go.Proofs.Ytpnpepimcnidoaa.PI
