/- The plain law of words and bytes: what is put is read, and what is read was put. No program in sight. -/
import Derived.Test.YtpnpepimcnidoaaHRead2
import Derived.Lib.Strings
set_option linter.unusedVariables false
set_option linter.unusedSimpArgs false
namespace Go.Proofs.Ytpnpepimcnidoaa.PI
open Go.RowKit Go.Proofs.YtpnpepimcnidoaaW.PrintWords Go.Proofs.YtpnpepimcnidoaaW.PrintLast HX

/-! ### bytes as numbers -/
def B8 (xs : List Int) : Prop := ∀ x ∈ xs, 0 ≤ x ∧ x < 256
def U32 (xs : List Int) : Prop := ∀ x ∈ xs, 0 ≤ x ∧ x < 4294967296
theorem U32.cons {x : Int} {xs : List Int} (h : U32 (x :: xs)) : (0 ≤ x ∧ x < 4294967296) ∧ U32 xs := ⟨h x (by simp), fun y hy => h y (by simp [hy])⟩
theorem B8.append {xs ys : List Int} (h : B8 xs) (k : B8 ys) : B8 (xs ++ ys) := fun x hx => by
  rcases List.mem_append.1 hx with h1 | h1
  · exact h x h1
  · exact k x h1
theorem B8.left {xs ys : List Int} (h : B8 (xs ++ ys)) : B8 xs := fun x hx => h x (by simp [hx])
theorem B8.right {xs ys : List Int} (h : B8 (xs ++ ys)) : B8 ys := fun x hx => h x (by simp [hx])
theorem bytesOf_b8 (s : ByteArray) : B8 (bytesOf s) := fun x hx => by
  simp only [bytesOf, List.mem_map] at hx
  obtain ⟨b, _, rfl⟩ := hx
  have := b.toNat_lt
  omega
theorem strOf_bytesOf (s : ByteArray) : strOfNums (bytesOf s) = s := by
  unfold strOfNums bytesOf
  have : (List.map (fun n : Int => UInt8.ofNat n.toNat) (List.map (fun b : UInt8 => (b.toNat : Int)) s.data.toList)) = s.data.toList := by
    rw [List.map_map]
    conv => rhs; rw [← List.map_id s.data.toList]
    apply List.map_congr_left
    intro b _
    simp
  rw [this]
theorem bytesOf_strOf {xs : List Int} (h : B8 xs) : bytesOf (strOfNums xs) = xs := by
  unfold bytesOf
  rw [strOfNums_data, List.map_map]
  conv => rhs; rw [← List.map_id xs]
  apply List.map_congr_left
  intro x hx
  obtain ⟨h0, h1⟩ := h x hx
  simp only [Function.comp_def, id_eq]
  rw [UInt8.toNat_ofNat']
  omega
theorem bt_strOf {xs : List Int} (h : B8 xs) (i : Int) : bt (strOfNums xs) i = rd xs i := by rw [← rd_bytesOf, bytesOf_strOf h]
theorem bytes_ext {s t : ByteArray} (h : bytesOf s = bytesOf t) : s = t := by rw [← strOf_bytesOf s, h, strOf_bytesOf]
theorem toList_beq {s t : ByteArray} : (s.toList == t.toList) = decide (s = t) := by
  by_cases h : s = t
  · subst h; simp
  · simp only [decide_eq_false h]
    refine beq_eq_false_iff_ne.2 fun e => h ?_
    rw [Lib.toList_data, Lib.toList_data] at e
    exact ByteArray.ext (Array.toList_inj.1 e)
theorem bytesOf_append (s t : ByteArray) : bytesOf (s ++ t) = bytesOf s ++ bytesOf t := by simp [bytesOf]
theorem strOf_append (xs ys : List Int) : strOfNums xs ++ strOfNums ys = strOfNums (xs ++ ys) := by
  apply ByteArray.ext
  apply Array.toList_inj.1
  simp [strOfNums]
theorem bytesOf_extract (s : ByteArray) (a b : Nat) : bytesOf (s.extract a b) = ((bytesOf s).take b).drop a := by
  unfold bytesOf
  rw [ByteArray.data_extract, Array.toList_extract]
  simp only [List.map_take, List.map_drop, List.extract_eq_take_drop]
  rw [List.drop_take]

/-! ### words as bytes -/
def bw1 (x : Int) : List Int := [x % 256, (x / 256) % 256, (x / 65536) % 256, (x / 16777216) % 256]
def bw (ws : List Int) : List Int := ws.flatMap bw1
theorem bw_nil : bw [] = [] := rfl
theorem bw_cons (x : Int) (ws : List Int) : bw (x :: ws) = bw1 x ++ bw ws := rfl
theorem bw_append (xs ys : List Int) : bw (xs ++ ys) = bw xs ++ bw ys := by simp [bw]
theorem bw_length (ws : List Int) : (bw ws).length = 4 * ws.length := by
  induction ws with
  | nil => rfl
  | cons x ws ih => rw [bw_cons, List.length_append, ih, List.length_cons]; show 4 + _ = _; omega
theorem bw1_b8 (x : Int) : B8 (bw1 x) := fun y hy => by
  simp only [bw1, List.mem_cons, List.not_mem_nil, or_false] at hy
  rcases hy with h | h | h | h <;> omega
theorem bw_b8 (ws : List Int) : B8 (bw ws) := fun y hy => by
  simp only [bw, List.mem_flatMap] at hy
  obtain ⟨x, _, h⟩ := hy
  exact bw1_b8 x y h

theorem rd_append_right (xs ys : List Int) (j : Nat) : rd (xs ++ ys) ((xs.length + j : Nat) : Int) = rd ys (j : Nat) := by
  unfold rd
  simp only [Int.toNat_natCast, List.getD_eq_getElem?_getD]
  rw [List.getElem?_append_right (by omega)]
  congr 2
  omega
theorem rd_append_left (xs ys : List Int) (j : Nat) (h : j < xs.length) : rd (xs ++ ys) (j : Int) = rd xs (j : Nat) := by
  unfold rd
  simp only [Int.toNat_natCast, List.getD_eq_getElem?_getD]
  rw [List.getElem?_append_left h]

theorem wd_at (pre post : List Int) (x : Int) (h : B8 (pre ++ (bw1 x ++ post))) (hx : 0 ≤ x ∧ x < 4294967296) : wd (strOfNums (pre ++ (bw1 x ++ post))) pre.length = x := by
  unfold wd
  rw [bt_strOf h, bt_strOf h, bt_strOf h, bt_strOf h]
  have e0 := rd_append_right pre (bw1 x ++ post) 0
  rw [Nat.add_zero] at e0
  rw [e0, rd_append_right pre (bw1 x ++ post) 1, rd_append_right pre (bw1 x ++ post) 2, rd_append_right pre (bw1 x ++ post) 3]
  rw [rd_append_left _ _ 0 (by simp [bw1]), rd_append_left _ _ 1 (by simp [bw1]), rd_append_left _ _ 2 (by simp [bw1]), rd_append_left _ _ 3 (by simp [bw1])]
  show word4 (x % 256) ((x / 256) % 256) ((x / 65536) % 256) ((x / 16777216) % 256) = x
  unfold word4
  omega

theorem wds_at (ws : List Int) : ∀ (pre post : List Int), B8 (pre ++ (bw ws ++ post)) → U32 ws → wds (strOfNums (pre ++ (bw ws ++ post))) pre.length ws.length = ws := by
  induction ws with
  | nil => intro pre post _ _; rfl
  | cons x ws ih =>
    intro pre post hb hu
    obtain ⟨hx, hu2⟩ := hu.cons
    have e : pre ++ (bw (x :: ws) ++ post) = pre ++ (bw1 x ++ (bw ws ++ post)) := by rw [bw_cons, List.append_assoc]
    have e2 : pre ++ (bw (x :: ws) ++ post) = (pre ++ bw1 x) ++ (bw ws ++ post) := by rw [bw_cons]; simp only [List.append_assoc]
    rw [List.length_cons, wds_succ]
    congr 1
    · rw [e]; exact wd_at pre (bw ws ++ post) x (e ▸ hb) hx
    · have := ih (pre ++ bw1 x) post (e2 ▸ hb) hu2
      rw [List.length_append] at this
      rw [e2]
      exact this

theorem bw1_wd (s : ByteArray) (i : Nat) (h : i + 4 ≤ s.size) : bw1 (wd s i) = ((bytesOf s).drop i).take 4 := by
  have r0 := bt_range s (i : Nat)
  have r1 := bt_range s ((i + 1 : Nat) : Int)
  have r2 := bt_range s ((i + 2 : Nat) : Int)
  have r3 := bt_range s ((i + 3 : Nat) : Int)
  have e : bw1 (wd s i) = [bt s (i : Nat), bt s ((i + 1 : Nat) : Int), bt s ((i + 2 : Nat) : Int), bt s ((i + 3 : Nat) : Int)] := by
    unfold bw1 wd word4
    have a0 : (bt s (i : Nat) + 256 * bt s ((i + 1 : Nat) : Int) + 65536 * bt s ((i + 2 : Nat) : Int) + 16777216 * bt s ((i + 3 : Nat) : Int)) % 256 = bt s (i : Nat) := by omega
    have a1 : (bt s (i : Nat) + 256 * bt s ((i + 1 : Nat) : Int) + 65536 * bt s ((i + 2 : Nat) : Int) + 16777216 * bt s ((i + 3 : Nat) : Int)) / 256 % 256 = bt s ((i + 1 : Nat) : Int) := by omega
    have a2 : (bt s (i : Nat) + 256 * bt s ((i + 1 : Nat) : Int) + 65536 * bt s ((i + 2 : Nat) : Int) + 16777216 * bt s ((i + 3 : Nat) : Int)) / 65536 % 256 = bt s ((i + 2 : Nat) : Int) := by omega
    have a3 : (bt s (i : Nat) + 256 * bt s ((i + 1 : Nat) : Int) + 65536 * bt s ((i + 2 : Nat) : Int) + 16777216 * bt s ((i + 3 : Nat) : Int)) / 16777216 % 256 = bt s ((i + 3 : Nat) : Int) := by omega
    rw [a0, a1, a2, a3]
  rw [e]
  have hl : (bytesOf s).length = s.size := bytesOf_length s
  apply List.ext_getElem
  · simp; omega
  · intro j h1 h2
    have hj : j < 4 := by simpa using h1
    rw [List.getElem_take, List.getElem_drop]
    have key : ∀ k : Nat, k < 4 → bt s ((i + k : Nat) : Int) = (bytesOf s)[i + k]?.getD 0 := fun k hk => by
      rw [← rd_bytesOf]; simp only [rd, Int.toNat_natCast, List.getD_eq_getElem?_getD]
    have hg : (bytesOf s)[i + j]?.getD 0 = (bytesOf s)[i + j]'(by omega) := by rw [List.getElem?_eq_getElem (by omega)]; rfl
    rw [← hg, ← key j hj]
    rcases (by omega : j = 0 ∨ j = 1 ∨ j = 2 ∨ j = 3) with rfl | rfl | rfl | rfl <;> rfl

theorem bw_wds (s : ByteArray) (n : Nat) : ∀ i, i + 4 * n ≤ s.size → bw (wds s i n) = ((bytesOf s).drop i).take (4 * n) := by
  induction n with
  | zero => intro i _; simp [wds, bw]
  | succ n ih =>
    intro i h
    rw [wds_succ, bw_cons, bw1_wd s i (by omega), ih (i + 4) (by omega)]
    rw [show 4 * (n + 1) = 4 + 4 * n by omega, List.take_add, List.drop_drop]
theorem wds_u32 (s : ByteArray) (i n : Nat) : U32 (wds s i n) := fun x hx => by
  simp only [wds, List.mem_map] at hx
  obtain ⟨j, _, rfl⟩ := hx
  exact wd_range s _
theorem bw_inj {xs ys : List Int} (hx : U32 xs) (hy : U32 ys) (h : bw xs = bw ys) : xs = ys := by
  have hl : xs.length = ys.length := by have := bw_length xs; have := bw_length ys; rw [h] at *; omega
  have e1 := wds_at xs [] [] (by simpa using bw_b8 xs) hx
  have e2 := wds_at ys [] [] (by simpa using bw_b8 ys) hy
  rw [← e1, ← e2, h, hl]

/-! ### an image's bytes -/
def enc (l : List Int) (d : Int) : List Int := [83, 69, 69, 68] ++ (bw [(l.length : Int), d] ++ bw l)
theorem enc_b8 (l : List Int) (d : Int) : B8 (enc l d) := B8.append (fun x hx => by simp at hx; omega) ((bw_b8 _).append (bw_b8 _))
theorem enc_length (l : List Int) (d : Int) : (enc l d).length = 12 + 4 * l.length := by
  unfold enc; rw [List.length_append, List.length_append, bw_length, bw_length]; simp; omega
/-- The numbers at the head of what begins so. -/
theorem head_wd (l : List Int) (d : Int) (post : List Int) (hp : B8 post) (hl : l.length ≤ 16384) (hd : 0 ≤ d ∧ d ≤ 32768) :
    wd (strOfNums (enc l d ++ post)) 4 = l.length ∧ wd (strOfNums (enc l d ++ post)) 8 = d := by
  have e1 : enc l d ++ post = [83, 69, 69, 68] ++ (bw1 (l.length : Int) ++ (bw1 d ++ (bw l ++ post))) := by simp [enc, bw]
  have e2 : enc l d ++ post = ([83, 69, 69, 68] ++ bw1 (l.length : Int)) ++ (bw1 d ++ (bw l ++ post)) := by simp [enc, bw]
  have hb : B8 (enc l d ++ post) := (enc_b8 l d).append hp
  constructor
  · rw [e1]; exact wd_at [83, 69, 69, 68] _ _ (e1 ▸ hb) (by omega)
  · rw [e2]; exact wd_at ([83, 69, 69, 68] ++ bw1 (l.length : Int)) _ _ (e2 ▸ hb) (by omega)
theorem bytesOf_mark : bytesOf mark4 = [83, 69, 69, 68] := rfl
theorem hasMark_iff (s : ByteArray) : hasMark s = decide ((bytesOf s).take 4 = [83, 69, 69, 68]) := by
  unfold hasMark
  rw [toList_beq]
  by_cases h : s.extract 0 4 = mark4
  · have e : (bytesOf s).take 4 = [83, 69, 69, 68] := by
      have := congrArg bytesOf h
      rw [bytesOf_extract, bytesOf_mark] at this
      simpa using this
    have hl : 4 ≤ s.size := by
      have := congrArg List.length e
      rw [List.length_take, bytesOf_length] at this
      simp at this
      omega
    rw [decide_eq_true h, decide_eq_true e, decide_eq_true hl]; rfl
  · have e : ¬ (bytesOf s).take 4 = [83, 69, 69, 68] := fun e => h (bytes_ext (by rw [bytesOf_extract, bytesOf_mark]; simpa using e))
    rw [decide_eq_false h, decide_eq_false e, Bool.and_false]
theorem readOk_iff (s : ByteArray) : readOk s = true ↔ (bytesOf s).take 4 = [83, 69, 69, 68] ∧ 12 ≤ s.size ∧ wd s 4 ≤ 16384 ∧ wd s 8 ≤ 32768 ∧ (s.size : Int) = 12 + 4 * wd s 4 := by
  unfold readOk
  rw [hasMark_iff]
  simp only [Bool.and_eq_true, decide_eq_true_eq]
  constructor
  · rintro ⟨⟨⟨⟨a, b⟩, c⟩, d⟩, e⟩; exact ⟨a, b, c, d, e⟩
  · rintro ⟨a, b, c, d, e⟩; exact ⟨⟨⟨⟨a, b⟩, c⟩, d⟩, e⟩
/-- What is put is read. -/
theorem read_enc (l : List Int) (d : Int) (hu : U32 l) (hl : l.length ≤ 16384) (hd : 0 ≤ d ∧ d ≤ 32768) : readS (strOfNums (enc l d)) = (l, d, 0) := by
  have hw := head_wd l d [] (fun x hx => by simp at hx) hl hd
  rw [List.append_nil] at hw
  have hsz : (strOfNums (enc l d)).size = 12 + 4 * l.length := by rw [strOfNums_size, enc_length]
  have ok : readOk (strOfNums (enc l d)) = true := by
    rw [readOk_iff]
    refine ⟨by rw [bytesOf_strOf (enc_b8 l d)]; rfl, by omega, by omega, by omega, by omega⟩
  unfold readS
  rw [if_pos ok, hw.1, hw.2]
  have e : enc l d = ([83, 69, 69, 68] ++ bw [(l.length : Int), d]) ++ (bw l ++ []) := by simp [enc]
  have := wds_at l ([83, 69, 69, 68] ++ bw [(l.length : Int), d]) [] (e ▸ enc_b8 l d) hu
  rw [← e] at this
  have h12 : ([83, 69, 69, 68] ++ bw [(l.length : Int), d]).length = 12 := by rw [List.length_append, bw_length]; rfl
  rw [h12] at this
  rw [Int.toNat_natCast, this]
/-- What is read was put. -/
theorem enc_read (s : ByteArray) (h : readOk s = true) : strOfNums (enc (wds s 12 (wd s 4).toNat) (wd s 8)) = s := by
  rw [readOk_iff] at h
  obtain ⟨h1, h2, h3, h4, h5⟩ := h
  have g := wd_range s 4
  apply bytes_ext
  rw [bytesOf_strOf (enc_b8 _ _)]
  unfold enc
  rw [wds_length]
  have e1 : [(((wd s 4).toNat : Nat) : Int), wd s 8] = wds s 4 2 := by
    rw [wds_succ, wds_succ]
    have : (((wd s 4).toNat : Nat) : Int) = wd s 4 := by omega
    rw [this]; rfl
  rw [e1, bw_wds s 2 4 (by omega), bw_wds s _ 12 (by omega), ← h1]
  have hl : (bytesOf s).length = s.size := bytesOf_length s
  have e2 : ((bytesOf s).drop 12).take (4 * (wd s 4).toNat) = (bytesOf s).drop 12 := List.take_of_length_le (by rw [List.length_drop]; omega)
  rw [e2]
  have e3 : (bytesOf s).drop 12 = (((bytesOf s).drop 4).drop 8) := by rw [List.drop_drop]
  rw [e3, show 4 * 2 = 8 from rfl, List.take_append_drop, List.take_append_drop]
/-- No image begins with another one's bytes and more. -/
theorem read_more (l : List Int) (d : Int) (post : List Int) (hp : B8 post) (hl : l.length ≤ 16384) (hd : 0 ≤ d ∧ d ≤ 32768) (hne : post ≠ []) : readS (strOfNums (enc l d ++ post)) = ([], 0, 7) := by
  apply read_none
  rw [Bool.eq_false_iff]
  intro h
  rw [readOk_iff] at h
  have hw := head_wd l d post hp hl hd
  have hsz : (strOfNums (enc l d ++ post)).size = 12 + 4 * l.length + post.length := by rw [strOfNums_size, List.length_append, enc_length]
  have : 0 < post.length := List.length_pos_iff.2 hne
  omega
theorem wd_prefix (s : ByteArray) (a i : Nat) (h : i + 4 ≤ a) (ha : a ≤ s.size) : wd (s.extract 0 a) i = wd s i := by
  have key : ∀ j, j < a → bt (s.extract 0 a) (j : Nat) = bt s (j : Nat) := fun j hj => by
    rw [← rd_bytesOf, ← rd_bytesOf, bytesOf_extract]
    simp only [rd, Int.toNat_natCast, List.drop_zero, List.getD_eq_getElem?_getD]
    rw [List.getElem?_take]
    simp [hj]
  unfold wd
  rw [key i (by omega), key (i + 1) (by omega), key (i + 2) (by omega), key (i + 3) (by omega)]
/-- No part from the front is an image. -/
theorem read_cut (l : List Int) (d : Int) (a : Nat) (hl : l.length ≤ 16384) (hd : 0 ≤ d ∧ d ≤ 32768) (ha : a < 12 + 4 * l.length) : readS ((strOfNums (enc l d)).extract 0 a) = ([], 0, 7) := by
  apply read_none
  rw [Bool.eq_false_iff]
  intro h
  rw [readOk_iff] at h
  have hsz : (strOfNums (enc l d)).size = 12 + 4 * l.length := by rw [strOfNums_size, enc_length]
  have hsz2 : ((strOfNums (enc l d)).extract 0 a).size = a := by rw [ByteArray.size_extract]; omega
  have hw := head_wd l d [] (fun x hx => by simp at hx) hl hd
  rw [List.append_nil] at hw
  have := wd_prefix (strOfNums (enc l d)) a 4 (by omega) (by omega)
  omega
theorem enc_inj {l m : List Int} {d e : Int} (hu : U32 l) (hv : U32 m) (hl : l.length ≤ 16384) (hm : m.length ≤ 16384) (hd : 0 ≤ d ∧ d ≤ 32768) (he : 0 ≤ e ∧ e ≤ 32768) (h : strOfNums (enc l d) = strOfNums (enc m e)) : l = m ∧ d = e := by
  have h1 := read_enc l d hu hl hd
  have h2 := read_enc m e hv hm he
  rw [h, h2] at h1
  simp only [Prod.mk.injEq] at h1
  exact ⟨h1.1.symm, h1.2.1.symm⟩
/-- If one's bytes begin the other one's, they are alike. -/
theorem enc_prefix {l m : List Int} {d e : Int} (hu : U32 l) (hv : U32 m) (hl : l.length ≤ 16384) (hm : m.length ≤ 16384) (hd : 0 ≤ d ∧ d ≤ 32768) (he : 0 ≤ e ∧ e ≤ 32768) (hle : l.length ≤ m.length)
    (h : (strOfNums (enc m e)).extract 0 (12 + 4 * l.length) = strOfNums (enc l d)) : l = m ∧ d = e := by
  have hszm : (strOfNums (enc m e)).size = 12 + 4 * m.length := by rw [strOfNums_size, enc_length]
  have hw1 := head_wd l d [] (fun x hx => by simp at hx) hl hd
  have hw2 := head_wd m e [] (fun x hx => by simp at hx) hm he
  rw [List.append_nil] at hw1 hw2
  have h4 := wd_prefix (strOfNums (enc m e)) (12 + 4 * l.length) 4 (by omega) (by omega)
  rw [h] at h4
  have hlen : l.length = m.length := by omega
  refine enc_inj hu hv hl hm hd he ?_
  rw [← h]
  apply bytes_ext
  rw [bytesOf_extract, List.drop_zero, List.take_of_length_le (by rw [bytesOf_length]; omega)]
end Go.Proofs.Ytpnpepimcnidoaa.PI
