/- Contracts of the Go functions of this seat, each over a Lean function of the same answers; written by a program of this session's. -/
import Derived.Test.YthimgiphlenjdaaDoorPIx0
import Derived.Test.YthimgiphlenjdaaDoorHWords
import Derived.Test.YthimgiphlenjdaaDoorHSwap
import Derived.Test.YthimgiphlenjdaaDoorPureRecR
import Derived.Test.YthimgiphlenjdaaDoorPureRecSwap
import Derived.Test.YthimgiphlenjdaaDoorGi
import Derived.Test.YthimgiphlenjdaaDoorF32
import Derived.Test.YthimgiphlenjdaaDoorF41
import Derived.Test.YthimgiphlenjdaaDoorGg
namespace Go.Proofs.YthimgiphlenjdaaDoor.PI
open Go.RowKit Go.Proofs.YthimgiphlenjdaaDoorW.PrintWords Go.Proofs.YthimgiphlenjdaaDoorW.PrintLast
open HX
set_option linter.unusedVariables false
set_option linter.unusedSimpArgs false

/-! ### seedcornlaw37_RecipeSwaps: function 17 -/
-- import HSwap
-- import PureRecR
-- import PureRecSwap
-- import F34
attribute [local go_sem high] eqA24
structure SwB (w : World) (g5 g7 g8 : Nat) (c5 c7 c8 : Array Value) (vB : Value) (b7 : List S24) (W : World) : Prop where
  hb : Below w.heap.size w W
  k5 : W.heap[g5]? = some (.cells c5 55 (0, 0))
  k7 : W.heap[g7]? = some (.cells c7 46 (0, 0))
  k8 : W.heap[g8]? = some (.cells c8 46 (0, 0))
  h5 : w.heap.size ≤ g5
  h7 : w.heap.size ≤ g7
  h8 : w.heap.size ≤ g8
  rB : k24.R 24 W w.heap.size (fun _ => True) vB b7
theorem SwB.below {w W W' : World} {g5 g7 g8 : Nat} {c5 c7 c8 : Array Value} {vB : Value} {b7 : List S24} (h : SwB w g5 g7 g8 c5 c7 c8 vB b7 W) (hb : Below W.heap.size W W') : SwB w g5 g7 g8 c5 c7 c8 vB b7 W' :=
  ⟨below_step h.hb hb, blk_below h.k5 hb, blk_below h.k7 hb, blk_below h.k8 hb, h.h5, h.h7, h.h8, Kd.R_below h.rB hb⟩
theorem k24_lit {W : World} {base : Nat} (s : S24) (hb : base ≤ W.heap.size) : k24.R 24 (W.alloc (.cells #[.int .u32 s.f0, .int .u32 s.f1, .int .u32 s.f2, .int .u32 s.f3] 24)) base (fun _ => True) (.slice (some ⟨W.heap.size, 0, none⟩) 1 1) [s] := by
  refine ⟨fun _ _ => trivial, [.int .u32 s.f0, .int .u32 s.f1, .int .u32 s.f2, .int .u32 s.f3], ?_, ?_⟩
  · have h2 := World.ownsRow_lit (base := base) (e := 24) (size := k24.sz) W #[.int .u32 s.f0, .int .u32 s.f1, .int .u32 s.f2, .int .u32 s.f3] 1 hb (by decide) rfl
    simpa using h2
  · exact Reps.c4 (k24_mkM _ _ _ s) (Reps.none _ _)
theorem blk_new (W : World) (o : Obj) : (W.alloc o).heap[W.heap.size]? = some o := by
  show (W.heap.push o)[W.heap.size]? = some o
  simp
theorem sw_start {w w2 : World} {g5 : Nat} {c5 : Array Value} (hb : Below w.heap.size w w2) (k5 : w2.heap[g5]? = some (.cells c5 55 (0, 0))) (h5 : w.heap.size ≤ g5) (ca cb : Array Value) :
    SwB w g5 w2.heap.size (w2.heap.size + 1 + 1) c5 ca cb (.slice (some ⟨w2.heap.size + 1, 0, none⟩) 1 1) [⟨7, 0, 0, 0⟩] (((w2.alloc (.cells ca 46)).alloc (.cells #[.int .u32 7, .int .u32 0, .int .u32 0, .int .u32 0] 24)).alloc (.cells cb 46)) := by
  have hs := below_size hb
  have s1 : (w2.alloc (.cells ca 46)).heap.size = w2.heap.size + 1 := by simp only [World.size_alloc]
  have s2 : ((w2.alloc (.cells ca 46)).alloc (.cells #[.int .u32 7, .int .u32 0, .int .u32 0, .int .u32 0] 24)).heap.size = w2.heap.size + 1 + 1 := by simp only [World.size_alloc]
  have r := k24_lit (W := w2.alloc (.cells ca 46)) (base := w.heap.size) ⟨7, 0, 0, 0⟩ (by omega)
  rw [s1] at r
  have k8 := blk_new ((w2.alloc (.cells ca 46)).alloc (.cells #[.int .u32 7, .int .u32 0, .int .u32 0, .int .u32 0] 24)) (.cells cb 46)
  rw [s2] at k8
  have b1 : Below w.heap.size w (w2.alloc (.cells ca 46)) := below_alloc hb _
  exact ⟨below_alloc (below_alloc b1 _) _, blk_alloc (blk_alloc (blk_alloc k5 _) _) _, blk_alloc (blk_alloc (blk_new w2 _) _) _, k8, h5, hs, by omega, Kd.R_alloc r _⟩
theorem tmod_ix (x : Int) (n : Nat) (hx : 0 ≤ x) (hn : 0 < n) : ∃ i : Nat, x.tmod (n : Int) = (i : Int) ∧ i < n := by
  have h1 : x.tmod (n : Int) = x % (n : Int) := Int.tmod_eq_emod_of_nonneg hx
  have h2 : 0 ≤ x % (n : Int) := Int.emod_nonneg _ (by omega)
  have h3 : x % (n : Int) < n := Int.emod_lt_of_pos _ (by omega)
  exact ⟨(x % (n : Int)).toNat, by omega, by omega⟩
def Cell24 (w : World) (ad : Addr) (i : Nat) (d : S24) : Prop := w.cell? (ad.add (i * 4)) = some (.int .u32 d.f0) ∧ w.cell? ⟨(ad.add (i * 4)).block, (ad.add (i * 4)).off + 1, none⟩ = some (.int .u32 d.f1) ∧ w.cell? ⟨(ad.add (i * 4)).block, (ad.add (i * 4)).off + 2, none⟩ = some (.int .u32 d.f2) ∧ w.cell? ⟨(ad.add (i * 4)).block, (ad.add (i * 4)).off + 3, none⟩ = some (.int .u32 d.f3)
theorem Cell24.below {w w' : World} {ad : Addr} {i : Nat} {d : S24} (h : Cell24 w ad i d) (hb : Below w.heap.size w w') : Cell24 w' ad i d :=
  ⟨(hb.cell (World.block_lt_of_cell? w _ h.1)).trans h.1, (hb.cell (World.block_lt_of_cell? w _ h.2.1)).trans h.2.1, (hb.cell (World.block_lt_of_cell? w _ h.2.2.1)).trans h.2.2.1, (hb.cell (World.block_lt_of_cell? w _ h.2.2.2)).trans h.2.2.2⟩
theorem at2_24 {w : World} {A : Option Addr} {l : List S24} (h : Kd.C k24 w A l.length l) (i k : Nat) (hi : i < l.length) (hk : k < l.length) : ∃ ad, A = some ad ∧ Cell24 w ad i (rd_T24 l i) ∧ Cell24 w ad k (rd_T24 l k) := by
  obtain ⟨ad, rfl, a0, a1, a2, a3⟩ := at_T24 h (i : Int) (by omega) (by omega)
  obtain ⟨ad', e, b0, b1, b2, b3⟩ := at_T24 h (k : Int) (by omega) (by omega)
  obtain rfl := Option.some.inj e
  rw [Int.toNat_natCast] at a0 a1 a2 a3 b0 b1 b2 b3
  exact ⟨ad, rfl, ⟨a0, a1, a2, a3⟩, ⟨b0, b1, b2, b3⟩⟩
theorem at2_int {w : World} {A : Option Addr} {l : List Int} (h : Kd.C (Kd.int .i64) w A l.length l) (i k : Nat) (hi : i < l.length) (hk : k < l.length) : ∃ ad, A = some ad ∧ w.cell? (ad.add i) = some (.int .i64 (rd l (i : Int))) ∧ w.cell? (ad.add k) = some (.int .i64 (rd l (k : Int))) := by
  obtain ⟨ad, rfl, a⟩ := Kd.at_int h (i : Int) (by omega) (by omega)
  obtain ⟨ad', e, b⟩ := Kd.at_int h (k : Int) (by omega) (by omega)
  obtain rfl := Option.some.inj e
  rw [Int.toNat_natCast] at a b
  exact ⟨ad, rfl, a, b⟩
theorem R_some {α : Type} {d : Kd α} {w : World} {e base : Nat} {ok : Nat → Prop} {v : Value} {xs : List α} (h : d.R e w base ok v xs) (hp : 0 < xs.length) : ∃ g c, v = .slice (some ⟨g, 0, none⟩) xs.length c := by
  obtain ⟨A, c, e1⟩ := Kd.R_slice h
  obtain ⟨_, inner, hown, hr⟩ := h
  rcases hown.2 with ⟨hv, _⟩ | ⟨g', cap', cur, hv, _⟩
  · rw [e1] at hv
    injection hv with _ h2
    omega
  · rw [e1] at hv
    injection hv with h1 h2 h3
    subst h1
    exact ⟨g', c, e1⟩
theorem sw_c {w w6 w8 : World} {g5 g7 g8 g11 : Nat} {c5 c7 c8 : Array Value} {vB v1 : Value} {b7 lC : List S24} {z0 z1 z2 z3 z4 z5 z6 z7 : Value} (h : SwB w g5 g7 g8 c5 c7 c8 vB b7 w6) (k11 : w6.heap[g11]? = some (.cells #[z0, z1, z2, z3, z4, z5, z6, z7] 46 (0, 0))) (h11 : w.heap.size ≤ g11) (n5 : g5 ≠ g11) (n7 : g7 ≠ g11) (n8 : g8 ≠ g11)
    (hb : Below w6.heap.size w6 w8) (hr : k24.R 24 w8 w6.heap.size (fun _ => True) v1 lC) : SwC w w6.heap.size g5 g7 g8 g11 c5 c7 c8 #[z0, z1, z2, z3, z4, z5, v1, z7] vB b7 v1 lC (w8.setCell ⟨g11, 6, none⟩ v1) := by
  have k11' := blk_below k11 hb
  have o := Only.one k11' 6 v1
  have h8 := h.below hb
  have rB' : k24.R 24 w8 w.heap.size (fun k => k < w6.heap.size) vB b7 := Kd.R_below (Kd.R_mono (Kd.R_bound h.rB) (fun k hk => hk.2.2.1)) hb
  exact ⟨o.bel h8.hb h11, below_size h.hb, o.blk h8.k5 n5, o.blk h8.k7 n7, o.blk h8.k8 n8, blk_put k11' 6 v1 rfl, o.row rB' (by decide) rfl, o.row hr (by decide) rfl⟩
theorem sw_d {w w6 w8 : World} {NF g5 g7 g8 g11 g14 : Nat} {c5 c7 c8 c11 : Array Value} {vB vC v1 : Value} {b7 lC : List S24} {lD : List Int} {z0 z1 z2 z3 z4 z5 z6 z7 : Value} (h : SwC w NF g5 g7 g8 g11 c5 c7 c8 c11 vB b7 vC lC w6) (k14 : w6.heap[g14]? = some (.cells #[z0, z1, z2, z3, z4, z5, z6, z7] 46 (0, 0))) (h14 : w.heap.size ≤ g14) (n5 : g5 ≠ g14) (n7 : g7 ≠ g14) (n8 : g8 ≠ g14) (n11 : g11 ≠ g14)
    (hb : Below w6.heap.size w6 w8) (hr : (Kd.int .i64).R 3 w8 w6.heap.size (fun _ => True) v1 lD) : SwD w NF g5 g7 g8 g11 g14 c5 c7 c8 c11 #[z0, z1, z2, z3, z4, v1, z6, z7] vB b7 vC lC v1 lD (w8.setCell ⟨g14, 5, none⟩ v1) := by
  have k14' := blk_below k14 hb
  have o := Only.one k14' 5 v1
  exact ⟨(h.below hb).only o h14 n5 n7 n8 n11, blk_put k14' 5 v1 rfl, o.row (Kd.R_lower hr (below_size h.hb)) (by decide) rfl⟩
def seedcornlaw37_RecipeSwaps.T23 : Bool × List (List Nat × List Nat) := (true, [([], []), ([0], [0]), ([], []), ([2], [2]), ([1, 3], [1, 3]), ([4], [4]), ([5], [5]), ([6, 5], [5, 6]), ([7, 5], [5, 7]), ([5, 8], [5, 8]), ([9, 5], [9]), ([10], [10]), ([10], [10]), ([11, 12, 10], [10, 11, 12]), ([10], [10]), ([10], [10]), ([14, 15, 10], [10, 14, 15]), ([16, 10], [10, 16]), ([10], [10]), ([10], [10]), ([18, 19, 10], [10, 18, 19]), ([20, 10], [10, 20]), ([17, 21, 10], [10, 17, 21]), ([13, 22, 10], [10, 13, 22]), ([10, 23], [10, 23]), ([24, 10], [24]), ([25], [25]), ([25], [25]), ([26, 27, 25, 25], [25, 26, 27]), ([25], [25]), ([25], [25]), ([29, 30, 25], [25, 29, 30]), ([31, 25], [25, 31]), ([25], [25]), ([25], [25]), ([33, 34, 25], [25, 33, 34]), ([35, 25], [25, 35]), ([32, 36, 25], [25, 32, 36]), ([28, 37, 25], [25, 28, 37]), ([25, 38], [25, 38]), ([39, 28], [39]), ([40], [40]), ([41, 40], [40, 41]), ([40], [40]), ([43, 40], [40, 43]), ([42, 44, 40], [40, 42, 44]), ([40, 45], [40, 45]), ([46, 40], [46]), ([47], [47]), ([47], [47]), ([48, 49, 47], [47, 48, 49]), ([47], [47]), ([47], [47]), ([51, 52, 47], [47, 51, 52]), ([53, 47], [47, 53]), ([47], [47]), ([47], [47]), ([55, 56, 47], [47, 55, 56]), ([57, 47], [47, 57]), ([54, 58, 47], [47, 54, 58]), ([50, 59, 47], [47, 50, 59]), ([47, 60], [47, 60]), ([61, 47], [61]), ([62], [62]), ([62], [62]), ([63, 64, 62, 62], [62, 63, 64]), ([62], [62]), ([62], [62]), ([66, 67, 62], [62, 66, 67]), ([68, 62], [62, 68]), ([62], [62]), ([62], [62]), ([70, 71, 62], [62, 70, 71]), ([72, 62], [62, 72]), ([69, 73, 62], [62, 69, 73]), ([65, 74, 62], [62, 65, 74]), ([62, 75], [62, 75]), ([76, 65, 0, 1, 2, 3, 4, 5, 6, 7, 8, 9, 10, 11, 12, 13, 14, 15, 16, 17, 18, 19, 20, 21, 22, 23, 24, 25, 26, 27, 28, 29, 30, 31, 32, 33, 34, 35, 36, 37, 38, 39, 40, 41, 42, 43, 44, 45, 46, 47, 48, 49, 50, 51, 52, 53, 54, 55, 56, 57, 58, 59, 60, 61, 62, 63, 64, 65, 66, 67, 68, 69, 70, 71, 72, 73, 74, 75, 76], [76])])
def seedcornlaw37_RecipeSwaps.B23 : List Nat := [0, 1, 0, 4, 15, 31, 63, 127, 255, 511, 1023, 2047, 2047, 8191, 2047, 2047, 51199, 116735, 2047, 2047, 788479, 1837055, 4179967, 8388607, 16777215, 33554431, 67108863, 67108863, 268435455, 67108863, 67108863, 1677721599, 3825205247, 67108863, 67108863, 25836912639, 60196651007, 136969191423, 274877906943, 549755813887, 1099511627775, 2199023255551, 4398046511103, 2199023255551, 10995116277759, 35184372088831, 70368744177663, 140737488355327, 281474976710655, 281474976710655, 1125899906842623, 281474976710655, 281474976710655, 7036874417766399, 16044073672507391, 281474976710655, 281474976710655, 108367866033602559, 252483054109458431, 574490427466448895, 1152921504606846975, 2305843009213693951, 4611686018427387903, 9223372036854775807, 9223372036854775807, 36893488147419103231, 9223372036854775807, 9223372036854775807, 230584300921369395199, 525732206100722221055, 9223372036854775807, 9223372036854775807, 3550998234189088686079, 8273364717058733899775, 18824902327220597424127, 37778931862957161709567, 75557863725914323419135, 151115727451828646838271]
theorem seedcornlaw37_RecipeSwaps.tab23 : rtab .any (opsOf Tryd.f17 23) = seedcornlaw37_RecipeSwaps.T23 := by kernel_rfl
theorem seedcornlaw37_RecipeSwaps.bits23 : waitsOk seedcornlaw37_RecipeSwaps.T23.2 seedcornlaw37_RecipeSwaps.B23 = true := by kernel_rfl
/-- What comes in. -/
def SwOk (l0 : List S24) (x y : Int) (r : Bool) : Prop := r = true ∧ (∀ d ∈ l0, DigOk d) ∧ (0 ≤ x ∧ x ≤ 255) ∧ (0 ≤ y ∧ y ≤ 255)
set_option maxHeartbeats 8000000 in
set_option maxRecDepth 100000 in
theorem seedcornlaw37_RecipeSwaps.calls (A0 : Option Addr) (c0 : Nat) (l0 : List S24) (A1 : Option Addr) (c1 : Nat) (l1 : List Int) (x y : Int) (r : Bool) (w : World) (hr0 : Kd.C k24 w A0 l0.length l0) (hc0 : l0.length ≤ c0) (hr1 : Kd.C (Kd.int .i64) w A1 l1.length l1) (hc1 : l1.length ≤ c1) (h : SwOk l0 x y r) (htb_ : Tab w) :
    Calls Tryd.prog 17 #[.slice A0 l0.length c0, .slice A1 l1.length c1, .agg #[.int .u8 x, .int .u8 y]] w fun e w' => e = .returned (.bool r) ∧ Below w.heap.size w w' := by
  have hu46 := Tryd.underlying46
  have hu24 := Tryd.underlying24
  have hu55 := Tryd.underlying55
  have hu43 := Tryd.underlying43
  have hu44 := Tryd.underlying44
  have HTB := Aside0.mk htb_
  have HR0 := Aside0.mk hr0
  have HC0 := Aside0.mk hc0
  have HR1 := Aside0.mk hr1
  have HC1 := Aside0.mk hc1
  clear htb_ hr0 hc0 hr1 hc1
  have HB := Aside0.mk (Below.refl w.heap.size w)
  obtain ⟨rfl, hok, hx, hy⟩ := h
  have HOK := Aside0.mk hok
  have HX := Aside0.mk hx
  have HY := Aside0.mk hy
  clear hok hx hy
  obtain ⟨kA, hkA⟩ : ∃ k, seedcornlaw37_awake.f k = some true := ⟨300, seedcornlaw37_awake.is⟩
  have AW := Aside0.mk hkA
  clear hkA
  go_enter Tryd.func17, Tryd.ntmps17
  go_upto_region 5 with (first | ((with_reducible refine gate_dst (N := 5) rfl ?_); refine box_event ?hg (N := 5) ?hd (cs := #[.int .u8 x, .int .u8 y]) (t := 55) ?hr ?_; (case hd => rfl); (case hg => rfl); (case hr => first | (go_simp; done) | (go_simp; rfl)); intro g5 hg w1 hbox hb; have n0_ := Aside0.mk (below_step (by repeat (first | (with_reducible first | exact HB.out | apply below_alloc | apply pw_below_drewN | apply below_drew1) | exact HB.out)) hb); have n1_ := Aside0.mk ((by rw [hg]; exact (below_size (by repeat (first | (with_reducible first | exact HB.out | apply below_alloc | apply pw_below_drewN | apply below_drew1) | exact HB.out)))) : w.heap.size ≤ g5); have n2_ := Aside0.mk hbox; clear HB ; have HB := n0_; have G5 := n1_; have K5 := n2_; clear n0_ n1_ n2_  hb hbox hg) | ((go_at_call 32); (refine (seedcornlaw37_awake.calls kA true _ AW.out (Tab.below HTB.out (by repeat (first | (with_reducible first | exact HB.out | apply below_alloc | apply pw_below_drewN | apply below_drew1) | exact HB.out)))).mono ?_); rintro e w2 ⟨rfl, hb⟩; have n0_ := Aside0.mk (below_step (by repeat (first | (with_reducible first | exact HB.out | apply below_alloc | apply pw_below_drewN | apply below_drew1) | exact HB.out)) hb); have n1_ := Aside0.mk (blk_below K5.out hb); clear HB K5 hb; have HB := n0_; have K5 := n1_; clear n0_ n1_))
  refine wp_gen (fun w' => SwB w g5 w2.heap.size (w2.heap.size + 1 + 1) #[.int .u8 x, .int .u8 y] #[.int .i64 6, .int .u32 0, .int .u32 0, .int .u32 0, .int .u32 0, .slice none 0 0, .slice A0 l0.length c0, .int .i64 0] #[.int .i64 3, .int .u32 0, .int .u32 0, .int .u32 0, .int .u32 0, .slice A1 l1.length c1, .slice (some ⟨w2.heap.size + 1, 0, none⟩) 1 1, .int .i64 0] (.slice (some ⟨w2.heap.size + 1, 0, none⟩) 1 1) [(⟨7, 0, 0, 0⟩ : S24)] w') (sw_start HB.out K5.out G5.out _ _) ?_
  have HSZ := Aside0.mk (below_size HB.out)
  intro w3 hp
  obtain ⟨AB, hAB⟩ : ∃ A : Option Addr, A = some ⟨w2.heap.size + 1, 0, none⟩ := ⟨_, rfl⟩
  rw [← hAB] at hp ⊢
  clear hAB
  obtain ⟨g8, hg8⟩ : ∃ g : Nat, g = w2.heap.size + 1 + 1 := ⟨_, rfl⟩
  rw [← hg8] at hp ⊢
  have N78 := Aside0.mk (show w2.heap.size ≠ g8 by omega)
  clear hg8 HSZ HB K5
  generalize w2.heap.size = g7 at hp N78 ⊢
  obtain ⟨b7, hb7⟩ : ∃ l : List S24, l = [(⟨7, 0, 0, 0⟩ : S24)] := ⟨_, rfl⟩
  have hl7 : b7.length = 1 := by rw [hb7]; rfl
  rw [← hb7] at hp
  have P := Aside0.mk (show SwB w g5 g7 g8 #[.int .u8 x, .int .u8 y] #[.int .i64 6, .int .u32 0, .int .u32 0, .int .u32 0, .int .u32 0, .slice none 0 0, .slice A0 l0.length c0, .int .i64 0] #[.int .i64 3, .int .u32 0, .int .u32 0, .int .u32 0, .int .u32 0, .slice A1 l1.length c1, .slice AB b7.length 1, .int .i64 0] (.slice AB b7.length 1) b7 w3 by rw [hl7]; exact hp)
  have HB7 := Aside0.mk hb7
  have HL7 := Aside0.mk (show b7.length ≤ 1 by omega)
  clear hp hb7 hl7
  obtain ⟨a0_, a1_, a2_, a3_, a4_, a5_, a6_, a7_⟩ := cells8c P.out.k7
  obtain ⟨b0_, b1_, b2_, b3_, b4_, b5_, b6_, b7_⟩ := cells8c P.out.k8
  have HNIL := Aside0.mk (show ∀ W : World, Kd.C (Kd.int .i64) W none ([] : List Int).length [] from fun W => (Kd.R_reads' (show (Kd.int .i64).R 3 W 0 (fun _ => True) (.slice none 0 0) [] from Kd.R_nil _ _ _ _ _)).2.2)
  by_cases h0 : l0.length < 1
  · have sq : ((l0.length : Int) < 1) = True := eq_true (by omega)
    have sd : decide ((l0.length : Int) < 1) = true := decide_eq_true (by omega)
    have sn : decide (l0.length < 1) = true := decide_eq_true (by omega)
    go_wp2
    go_ret
    exact ⟨rfl, P.out.hb⟩
  have sq : ((l0.length : Int) < 1) = False := eq_false (by omega)
  have sd : decide ((l0.length : Int) < 1) = false := decide_eq_false (by omega)
  have sn : decide (l0.length < 1) = false := decide_eq_false (by omega)
  by_cases h1 : l1.length < 1
  · have uq : ((l1.length : Int) < 1) = True := eq_true (by omega)
    have ud : decide ((l1.length : Int) < 1) = true := decide_eq_true (by omega)
    have un : decide (l1.length < 1) = true := decide_eq_true (by omega)
    go_wp2
    go_ret
    exact ⟨rfl, P.out.hb⟩
  have uq : ((l1.length : Int) < 1) = False := eq_false (by omega)
  have ud : decide ((l1.length : Int) < 1) = false := decide_eq_false (by omega)
  have un : decide (l1.length < 1) = false := decide_eq_false (by omega)
  by_cases ra : (Rec.mk 6 0 0 0 0 [] l0 0).right
  rotate_left
  · have FA := Aside0.mk (show seedcornref37_Right.f 30 6 0 0 0 0 [] l0 0 = some false by rw [show (30 : Nat) = 0 + 30 from rfl, rright_of 6 0 0 0 0 [] l0 0 0, decide_eq_false ra])
    have CA := Aside0.mk (show ∀ W : World, Below w.heap.size w W → Calls Tryd.prog 41 #[.agg #[.int .i64 6, .int .u32 0, .int .u32 0, .int .u32 0, .int .u32 0, .slice none 0 0, .slice A0 l0.length c0, .int .i64 0]] W fun e w' => e = .returned (.bool false) ∧ Below W.heap.size W w' from fun W hb => seedcornref37_Right.calls 30 6 0 0 0 0 none 0 [] A0 c0 l0 0 false W (HNIL.out _) (Nat.le_refl 0) (Kd.C_below HR0.out hb) HC0.out FA.out)
    clear FA
    clear ra
    go_wp2_with (first | ((go_at_call 41); (with_reducible refine (CA.out _ P.out.hb).mono ?_); rintro e w4 ⟨rfl, hb⟩; have n0_ := Aside0.mk (P.out.below hb); clear P hb; have P := n0_; clear n0_; clear a0_ a1_ a2_ a3_ a4_ a5_ a6_ a7_; clear b0_ b1_ b2_ b3_ b4_ b5_ b6_ b7_; obtain ⟨a0_, a1_, a2_, a3_, a4_, a5_, a6_, a7_⟩ := cells8c P.out.k7; obtain ⟨b0_, b1_, b2_, b3_, b4_, b5_, b6_, b7_⟩ := cells8c P.out.k8))
    go_ret
    exact ⟨rfl, P.out.hb⟩
  by_cases rb : (Rec.mk 3 0 0 0 0 l1 b7 0).right
  rotate_left
  · have FA := Aside0.mk (show seedcornref37_Right.f 30 6 0 0 0 0 [] l0 0 = some true by rw [show (30 : Nat) = 0 + 30 from rfl, rright_of 6 0 0 0 0 [] l0 0 0, decide_eq_true ra])
    have FB := Aside0.mk (show seedcornref37_Right.f 30 3 0 0 0 0 l1 b7 0 = some false by rw [show (30 : Nat) = 0 + 30 from rfl, rright_of 3 0 0 0 0 l1 b7 0 0, decide_eq_false rb])
    have CA := Aside0.mk (show ∀ W : World, Below w.heap.size w W → Calls Tryd.prog 41 #[.agg #[.int .i64 6, .int .u32 0, .int .u32 0, .int .u32 0, .int .u32 0, .slice none 0 0, .slice A0 l0.length c0, .int .i64 0]] W fun e w' => e = .returned (.bool true) ∧ Below W.heap.size W w' from fun W hb => seedcornref37_Right.calls 30 6 0 0 0 0 none 0 [] A0 c0 l0 0 true W (HNIL.out _) (Nat.le_refl 0) (Kd.C_below HR0.out hb) HC0.out FA.out)
    clear FA
    have CB := Aside0.mk (show ∀ W : World, Below w.heap.size w W → k24.R 24 W w.heap.size (fun _ => True) (.slice AB b7.length 1) b7 → Calls Tryd.prog 41 #[.agg #[.int .i64 3, .int .u32 0, .int .u32 0, .int .u32 0, .int .u32 0, .slice A1 l1.length c1, .slice AB b7.length 1, .int .i64 0]] W fun e w' => e = .returned (.bool false) ∧ Below W.heap.size W w' from fun W hb hr => seedcornref37_Right.calls 30 3 0 0 0 0 A1 c1 l1 AB 1 b7 0 false W (Kd.C_below HR1.out hb) HC1.out (Kd.R_reads' hr).2.2 HL7.out FB.out)
    clear FB
    clear ra rb
    go_wp2_with (first | ((go_at_call 41); (with_reducible refine (CA.out _ P.out.hb).mono ?_); rintro e w4 ⟨rfl, hb⟩; have n0_ := Aside0.mk (P.out.below hb); clear P hb; have P := n0_; clear n0_; clear a0_ a1_ a2_ a3_ a4_ a5_ a6_ a7_; clear b0_ b1_ b2_ b3_ b4_ b5_ b6_ b7_; obtain ⟨a0_, a1_, a2_, a3_, a4_, a5_, a6_, a7_⟩ := cells8c P.out.k7; obtain ⟨b0_, b1_, b2_, b3_, b4_, b5_, b6_, b7_⟩ := cells8c P.out.k8) | ((go_at_call 41); (with_reducible refine (CB.out _ P.out.hb P.out.rB).mono ?_); rintro e w5 ⟨rfl, hb⟩; have n0_ := Aside0.mk (P.out.below hb); clear P hb; have P := n0_; clear n0_; clear a0_ a1_ a2_ a3_ a4_ a5_ a6_ a7_; clear b0_ b1_ b2_ b3_ b4_ b5_ b6_ b7_; obtain ⟨a0_, a1_, a2_, a3_, a4_, a5_, a6_, a7_⟩ := cells8c P.out.k7; obtain ⟨b0_, b1_, b2_, b3_, b4_, b5_, b6_, b7_⟩ := cells8c P.out.k8))
    go_ret
    exact ⟨rfl, P.out.hb⟩
  have FA := Aside0.mk (show seedcornref37_Right.f 30 6 0 0 0 0 [] l0 0 = some true by rw [show (30 : Nat) = 0 + 30 from rfl, rright_of 6 0 0 0 0 [] l0 0 0, decide_eq_true ra])
  have FB := Aside0.mk (show seedcornref37_Right.f 30 3 0 0 0 0 l1 b7 0 = some true by rw [show (30 : Nat) = 0 + 30 from rfl, rright_of 3 0 0 0 0 l1 b7 0 0, decide_eq_true rb])
  have CA := Aside0.mk (show ∀ W : World, Below w.heap.size w W → Calls Tryd.prog 41 #[.agg #[.int .i64 6, .int .u32 0, .int .u32 0, .int .u32 0, .int .u32 0, .slice none 0 0, .slice A0 l0.length c0, .int .i64 0]] W fun e w' => e = .returned (.bool true) ∧ Below W.heap.size W w' from fun W hb => seedcornref37_Right.calls 30 6 0 0 0 0 none 0 [] A0 c0 l0 0 true W (HNIL.out _) (Nat.le_refl 0) (Kd.C_below HR0.out hb) HC0.out FA.out)
  clear FA
  have CB := Aside0.mk (show ∀ W : World, Below w.heap.size w W → k24.R 24 W w.heap.size (fun _ => True) (.slice AB b7.length 1) b7 → Calls Tryd.prog 41 #[.agg #[.int .i64 3, .int .u32 0, .int .u32 0, .int .u32 0, .int .u32 0, .slice A1 l1.length c1, .slice AB b7.length 1, .int .i64 0]] W fun e w' => e = .returned (.bool true) ∧ Below W.heap.size W w' from fun W hb hr => seedcornref37_Right.calls 30 3 0 0 0 0 A1 c1 l1 AB 1 b7 0 true W (Kd.C_below HR1.out hb) HC1.out (Kd.R_reads' hr).2.2 HL7.out FB.out)
  clear FB
  have RA := Aside0.mk ra
  have RB := Aside0.mk rb
  clear ra rb
  have hwx : wrap64 x = x := by have := HX.out; unfold wrap64; omega
  have hwy : wrap64 y = y := by have := HY.out; unfold wrap64; omega
  have q0b : ((l0.length : Int) == 0) = false := beq_eq_false_iff_ne.2 (by omega)
  have q0p : ((l0.length : Int) = 0) = False := eq_false (by omega)
  have q0n : (l0.length = 0) = False := eq_false (by omega)
  have q1b : ((l1.length : Int) == 0) = false := beq_eq_false_iff_ne.2 (by omega)
  have q1p : ((l1.length : Int) = 0) = False := eq_false (by omega)
  have q1n : (l1.length = 0) = False := eq_false (by omega)
  go_upto_region 9 with (first | ((go_at_call 41); (with_reducible refine (CA.out _ P.out.hb).mono ?_); rintro e w4 ⟨rfl, hb⟩; have n0_ := Aside0.mk (P.out.below hb); clear P hb; have P := n0_; clear n0_; clear a0_ a1_ a2_ a3_ a4_ a5_ a6_ a7_; clear b0_ b1_ b2_ b3_ b4_ b5_ b6_ b7_; obtain ⟨a0_, a1_, a2_, a3_, a4_, a5_, a6_, a7_⟩ := cells8c P.out.k7; obtain ⟨b0_, b1_, b2_, b3_, b4_, b5_, b6_, b7_⟩ := cells8c P.out.k8) | ((go_at_call 41); (with_reducible refine (CB.out _ P.out.hb P.out.rB).mono ?_); rintro e w5 ⟨rfl, hb⟩; have n0_ := Aside0.mk (P.out.below hb); clear P hb; have P := n0_; clear n0_; clear a0_ a1_ a2_ a3_ a4_ a5_ a6_ a7_; clear b0_ b1_ b2_ b3_ b4_ b5_ b6_ b7_; obtain ⟨a0_, a1_, a2_, a3_, a4_, a5_, a6_, a7_⟩ := cells8c P.out.k7; obtain ⟨b0_, b1_, b2_, b3_, b4_, b5_, b6_, b7_⟩ := cells8c P.out.k8; have e0_ : w5.cell? ⟨g5, 0, none⟩ = some (.int .u8 x) := (blk_cell P.out.k5 0).trans rfl; have e1_ : w5.cell? ⟨g5, 1, none⟩ = some (.int .u8 y) := (blk_cell P.out.k5 1).trans rfl))
  obtain ⟨i, hi, hil⟩ := tmod_ix x l0.length HX.out.1 (by omega)
  obtain ⟨k, hk, hkl⟩ := tmod_ix y l0.length HY.out.1 (by omega)
  obtain ⟨m, hm, hml⟩ := tmod_ix x l1.length HX.out.1 (by omega)
  obtain ⟨n, hn, hnl⟩ := tmod_ix y l1.length HY.out.1 (by omega)
  rw [hi, hk]
  clear hi hk
  obtain ⟨ad0, hA0, xi, xk⟩ := at2_24 HR0.out i k hil hkl
  obtain ⟨ad1, hA1, zm, zn⟩ := at2_int HR1.out m n hml hnl
  subst hA0
  subst hA1
  have HIL := Aside0.mk hil
  have HKL := Aside0.mk hkl
  have HML := Aside0.mk hml
  have HNL := Aside0.mk hnl
  have HM := Aside0.mk hm
  have HN := Aside0.mk hn
  have pi0 : (0 ≤ (i : Int)) = True := eq_true (by omega)
  have pi1 : ((i : Int) < (l0.length : Int)) = True := eq_true (by omega)
  have pi2 : (i < l0.length) = True := eq_true hil
  have pk0 : (0 ≤ (k : Int)) = True := eq_true (by omega)
  have pk1 : ((k : Int) < (l0.length : Int)) = True := eq_true (by omega)
  have pk2 : (k < l0.length) = True := eq_true hkl
  have pm0 : (0 ≤ (m : Int)) = True := eq_true (by omega)
  have pm1 : ((m : Int) < (l1.length : Int)) = True := eq_true (by omega)
  have pm2 : (m < l1.length) = True := eq_true hml
  have pn0 : (0 ≤ (n : Int)) = True := eq_true (by omega)
  have pn1 : ((n : Int) < (l1.length : Int)) = True := eq_true (by omega)
  have pn2 : (n < l1.length) = True := eq_true hnl
  obtain ⟨di, hdi⟩ : ∃ d, d = rd_T24 l0 (i : Int) := ⟨_, rfl⟩
  obtain ⟨dk, hdk⟩ : ∃ d, d = rd_T24 l0 (k : Int) := ⟨_, rfl⟩
  obtain ⟨pm, hpm⟩ : ∃ d, d = rd l1 (m : Int) := ⟨_, rfl⟩
  obtain ⟨pn, hpn⟩ : ∃ d, d = rd l1 (n : Int) := ⟨_, rfl⟩
  rw [← hdi] at xi
  rw [← hdk] at xk
  rw [← hpm] at zm
  rw [← hpn] at zn
  have XI := Aside0.mk xi
  have XK := Aside0.mk xk
  have ZM := Aside0.mk zm
  have ZN := Aside0.mk zn
  have DI := Aside0.mk hdi
  have DK := Aside0.mk hdk
  have PM := Aside0.mk hpm
  have PN := Aside0.mk hpn
  have HLA := Aside0.mk (show l0.length ≤ 20 from (right_small _ RA.out).2)
  have HLB := Aside0.mk (show l1.length ≤ 20 from (right_small _ RB.out).1)
  clear hil hkl hml hnl hm hn xi xk zm zn hdi hdk hpm hpn q0b q0p q0n CA CB h0 h1 sq sd sn uq ud un
  go_upto_region 10 with fail
  refine wp_gen (fun w' => SwB w g5 g7 g8 #[.int .u8 x, .int .u8 y] #[.int .i64 6, .int .u32 0, .int .u32 0, .int .u32 0, .int .u32 0, .slice none 0 0, .slice (some ad0) l0.length c0, .int .i64 0] #[.int .i64 3, .int .u32 0, .int .u32 0, .int .u32 0, .int .u32 0, .slice (some ad1) l1.length c1, .slice AB b7.length 1, .int .i64 0] (.slice AB b7.length 1) b7 w' ∧ w'.heap[w5.heap.size]? = some (.cells #[.int .i64 6, .int .u32 0, .int .u32 0, .int .u32 0, .int .u32 0, .slice none 0 0, .slice (some ad0) l0.length c0, .int .i64 0] 46 (0, 0))) ⟨P.out.below (below_alloc (Below.refl _ _) _), blk_new _ _⟩ ?_
  rintro w6 ⟨hp, h11⟩
  have N5 := Aside0.mk (Nat.ne_of_lt (blk_lt P.out.k5))
  have N7 := Aside0.mk (Nat.ne_of_lt (blk_lt P.out.k7))
  have N8 := Aside0.mk (Nat.ne_of_lt (blk_lt P.out.k8))
  have G11 := Aside0.mk (below_size P.out.hb)
  clear a0_ a1_ a2_ a3_ a4_ a5_ a6_ a7_
  clear b0_ b1_ b2_ b3_ b4_ b5_ b6_ b7_
  clear e0_ e1_ P
  generalize w5.heap.size = g11 at h11 N5 N7 N8 G11 ⊢
  have P := Aside0.mk hp
  have K11 := Aside0.mk h11
  clear hp h11
  go_wp2_with (first | ((with_reducible refine gate_dst (N := 62) rfl ?_); refine Kd.R_lit k24 _ 24 ?hg (N := 62) ?hd (xs := ([] : List S24)) (inner := []) (ok := fun _ => True) (okp := fun _ => True) ?hr (Reps.none _ _) (fun _ hk => hk) trivial (Below.refl _ _) (Nat.le_refl _) (by simp) ?_; (case hd => rfl); (case hg => rfl); (case hr => first | (go_simp; done) | (go_simp; rfl)); intro v62 w7 ho hb hg_ hnew_; clear hg_ hnew_; have HO := Aside0.mk ho; have HB7_ := Aside0.mk hb; clear ho hb) | ((with_reducible refine gate_builtin (b := .append) (xs := #[.tmp 62, .tmp 63]) rfl ?_); at_builtin; refine Kd.R_append_rows k24 (Rr := k24.K w7) (w0 := w6) w6.heap.size rfl (.tmp 62) (.tmp 63) 44 24 (.agg #[.int .u32 0, .int .u32 0, .int .u32 0, .int .u32 0]) 16 rfl Tryd.underlying44 info24 rfl (by decide) (by omega) v62 [] l0 (some ad0) l0.length c0 (fun _ => True) (fun _ => False) rfl rfl HO.out (Kd.C_below HR0.out (below_step P.out.hb HB7_.out)) (fun x cs h => by have e := k24_open h; subst e; exact k24_mkM _ _ _ _) (fun _ h => h.elim) (fun _ _ => trivial) HB7_.out (below_size HB7_.out) (by have := HLA.out; show (0 + l0.length) * 16 ≤ _; omega) ?_; intro v1 w8 ho hb hg_ hat_; clear hg_ hat_; have HO8 := Aside0.mk (show k24.R 24 w8 w6.heap.size (fun _ => True) v1 l0 from ho); have HB8 := Aside0.mk hb; have cz_ : w8.cell? ⟨g11, 6, none⟩ = some (.slice (some ad0) l0.length c0) := (blk_cell (blk_below K11.out hb) 6).trans rfl; have fz_ := blk_frozen (blk_below K11.out hb) 6; clear ho hb HO HB7_; obtain ⟨gC, cC, eC⟩ := R_some HO8.out (by have := HIL.out; omega); subst eC))
  clear cz_ fz_
  refine wp_gen (fun w' => SwC w w6.heap.size g5 g7 g8 g11 #[.int .u8 x, .int .u8 y] #[.int .i64 6, .int .u32 0, .int .u32 0, .int .u32 0, .int .u32 0, .slice none 0 0, .slice (some ad0) l0.length c0, .int .i64 0] #[.int .i64 3, .int .u32 0, .int .u32 0, .int .u32 0, .int .u32 0, .slice (some ad1) l1.length c1, .slice AB b7.length 1, .int .i64 0] #[.int .i64 6, .int .u32 0, .int .u32 0, .int .u32 0, .int .u32 0, .slice none 0 0, .slice (some ⟨gC, 0, none⟩) l0.length cC, .int .i64 0] (.slice AB b7.length 1) b7 (.slice (some ⟨gC, 0, none⟩) l0.length cC) l0 w') (sw_c P.out K11.out G11.out N5.out N7.out N8.out HB8.out HO8.out) ?_
  have G5 := Aside0.mk P.out.h5
  have G7 := Aside0.mk P.out.h7
  have G8 := Aside0.mk P.out.h8
  intro w9 hp
  clear P HB8 HO8 K11
  generalize w6.heap.size = NF at hp
  have P := Aside0.mk hp
  clear hp
  refine start_ (n := 9) (S := fun w' => SwC w NF g5 g7 g8 g11 #[.int .u8 x, .int .u8 y] #[.int .i64 6, .int .u32 0, .int .u32 0, .int .u32 0, .int .u32 0, .slice none 0 0, .slice (some ad0) l0.length c0, .int .i64 0] #[.int .i64 3, .int .u32 0, .int .u32 0, .int .u32 0, .int .u32 0, .slice (some ad1) l1.length c1, .slice AB b7.length 1, .int .i64 0] #[.int .i64 6, .int .u32 0, .int .u32 0, .int .u32 0, .int .u32 0, .slice none 0 0, .slice (some ⟨gC, 0, none⟩) l0.length cC, .int .i64 0] (.slice AB b7.length 1) b7 (.slice (some ⟨gC, 0, none⟩) l0.length cC) l0 w') (ds := [8]) #[false, false, false, false, false, false, false, false, false] (by kernel_rfl) rfl rfl P.out.drew (fun hHeld => ?_)
  refine pure_ (i := 0) (N := (some 66)) (v := ?_) (a' := ?_) #[true, false, false, false, false, false, false, false, false] rfl rfl (by kernel_rfl) (fun _ _ _ h => h) (Or.inl ⟨by rfl, ?_⟩) ?_ ?_
  rotate_left
  · intro w'
    go_simp
    with_reducible rfl
  rotate_left
  · simp only [Act.put, List.setIfInBounds_toArray, List.set_cons_zero, List.set_cons_succ, i64_w, i32_w]
    rfl
  refine pure_ (i := 2) (N := (some 68)) (v := ?_) (a' := ?_) #[true, false, true, false, false, false, false, false, false] rfl rfl (by kernel_rfl) (fun _ _ _ h => h) (Or.inl ⟨by rfl, ?_⟩) ?_ ?_
  rotate_left
  · intro w'
    go_simp
    with_reducible rfl
  rotate_left
  · simp only [Act.put, List.setIfInBounds_toArray, List.set_cons_zero, List.set_cons_succ, i64_w, i32_w]
    rfl
  refine pure_ (i := 3) (N := (some 69)) (v := ?_) (a' := ?_) #[true, false, true, true, false, false, false, false, false] rfl rfl (by kernel_rfl) (fun _ _ _ h => h) (Or.inl ⟨by rfl, ?_⟩) ?_ ?_
  rotate_left
  · intro w'
    go_simp
    with_reducible rfl
  rotate_left
  · simp only [Act.put, List.setIfInBounds_toArray, List.set_cons_zero, List.set_cons_succ, i64_w, i32_w]
    rfl
  refine pure_ (i := 4) (N := (some 70)) (v := ?_) (a' := ?_) #[true, false, true, true, true, false, false, false, false] rfl rfl (by kernel_rfl) (fun _ _ _ h => h) (Or.inl ⟨by rfl, ?_⟩) ?_ ?_
  rotate_left
  · intro w'
    go_simp
    with_reducible rfl
  rotate_left
  · simp only [Act.put, List.setIfInBounds_toArray, List.set_cons_zero, List.set_cons_succ, i64_w, i32_w]
    rfl
  refine pure_ (i := 5) (N := (some 71)) (v := ?_) (a' := ?_) #[true, false, true, true, true, true, false, false, false] rfl rfl (by kernel_rfl) (fun _ _ _ h => h) (Or.inl ⟨by rfl, ?_⟩) ?_ ?_
  rotate_left
  · intro w'
    go_simp
    with_reducible rfl
  rotate_left
  · simp only [Act.put, List.setIfInBounds_toArray, List.set_cons_zero, List.set_cons_succ, i64_w, i32_w]
    rfl
  refine take_ (i := 1) (N := (some 67)) (v := ?_) (a' := ?_) #[true, true, true, true, true, true, false, false, false] rfl rfl (by kernel_rfl) (fun _ _ _ h => h) (Or.inl ⟨by rfl, ?_⟩) hHeld ?_ ?_
  rotate_left
  · intro w' hS_
    have cz_ : w'.cell? ⟨g11, 6, none⟩ = some (.slice (some ⟨gC, 0, none⟩) l0.length cC) := (blk_cell hS_.k11 6).trans rfl
    go_simp
    with_reducible rfl
  rotate_left
  · simp only [Act.put, List.setIfInBounds_toArray, List.set_cons_zero, List.set_cons_succ, i64_w, i32_w]
    rfl
  refine take_ (i := 6) (N := (some 72)) (v := ?_) (a' := ?_) #[true, true, true, true, true, true, true, false, false] rfl rfl (by kernel_rfl) (fun _ _ _ h => h) (Or.inl ⟨by rfl, ?_⟩) hHeld ?_ ?_
  rotate_left
  · intro w' hS_
    obtain ⟨x0_, x1_, x2_, x3_⟩ := XK.out.below (hS_.hb)
    go_simp
    with_reducible rfl
  rotate_left
  · simp only [Act.put, List.setIfInBounds_toArray, List.set_cons_zero, List.set_cons_succ, i64_w, i32_w]
    rfl
  refine pure_ (i := 7) (N := (some 73)) (v := ?_) (a' := ?_) #[true, true, true, true, true, true, true, true, false] rfl rfl (by kernel_rfl) (fun _ _ _ h => h) (Or.inl ⟨by rfl, ?_⟩) ?_ ?_
  rotate_left
  · intro w'
    go_simp
    with_reducible rfl
  rotate_left
  · simp only [Act.put, List.setIfInBounds_toArray, List.set_cons_zero, List.set_cons_succ, i64_w, i32_w]
    rfl
  refine last_ (i := 8) (N := none) #[true, true, true, true, true, true, true, true, true] rfl rfl (by kernel_rfl) (by decide) (fun K hK => ?_)
  obtain ⟨w10, hrun_, hrow_, hgr_⟩ := store_row (P := Tryd.prog) 24 hHeld.rC z24 i HIL.out dk (.agg #[.int .u32 dk.f0, .int .u32 dk.f1, .int .u32 dk.f2, .int .u32 dk.f3]) [.int .u32 dk.f0, .int .u32 dk.f1, .int .u32 dk.f2, .int .u32 dk.f3] rfl rfl (by kernel_rfl) (by intro q hq; simp only [List.mem_cons, List.not_mem_nil, or_false] at hq; rcases hq with rfl | rfl | rfl | rfl <;> rfl) (k24_mkM _ _ (fun _ => False) dk) (fun _ h => h.elim)
  have NXT := Aside0.mk (hHeld.stored hrow_ hgr_)
  clear hrow_ hgr_
  refine storeR_step (t := 24) (p := .tmp 73) (x := .tmp 72) (by rfl) rfl rfl ?had ?hxx hrun_ ?_; (case had => first | rfl | (show Value.pointer _ = Value.pointer _; simp [Addr.add])); (case hxx => rfl)
  refine hK.out _ _ ?_
  clear hK K hrun_
  refine done_ (by kernel_rfl) ?_
  clear hHeld
  refine gen_q (fun w' => SwC w NF g5 g7 g8 g11 #[.int .u8 x, .int .u8 y] #[.int .i64 6, .int .u32 0, .int .u32 0, .int .u32 0, .int .u32 0, .slice none 0 0, .slice (some ad0) l0.length c0, .int .i64 0] #[.int .i64 3, .int .u32 0, .int .u32 0, .int .u32 0, .int .u32 0, .slice (some ad1) l1.length c1, .slice AB b7.length 1, .int .i64 0] #[.int .i64 6, .int .u32 0, .int .u32 0, .int .u32 0, .int .u32 0, .slice none 0 0, .slice (some ⟨gC, 0, none⟩) l0.length cC, .int .i64 0] (.slice AB b7.length 1) b7 (.slice (some ⟨gC, 0, none⟩) l0.length cC) (l0.set i dk) w') NXT.out ?_
  intro w11 hp
  clear P NXT
  obtain ⟨lc1, hlc1⟩ : ∃ l, l = l0.set i dk := ⟨_, rfl⟩
  rw [← hlc1] at hp
  have LC1 := Aside0.mk hlc1
  have P := Aside0.mk hp
  clear hp hlc1
  go_wp2
  refine start_ (n := 9) (S := fun w' => SwC w NF g5 g7 g8 g11 #[.int .u8 x, .int .u8 y] #[.int .i64 6, .int .u32 0, .int .u32 0, .int .u32 0, .int .u32 0, .slice none 0 0, .slice (some ad0) l0.length c0, .int .i64 0] #[.int .i64 3, .int .u32 0, .int .u32 0, .int .u32 0, .int .u32 0, .slice (some ad1) l1.length c1, .slice AB b7.length 1, .int .i64 0] #[.int .i64 6, .int .u32 0, .int .u32 0, .int .u32 0, .int .u32 0, .slice none 0 0, .slice (some ⟨gC, 0, none⟩) l0.length cC, .int .i64 0] (.slice AB b7.length 1) b7 (.slice (some ⟨gC, 0, none⟩) l0.length cC) lc1 w') (ds := [8]) #[false, false, false, false, false, false, false, false, false] (by kernel_rfl) rfl rfl P.out.drew (fun hHeld => ?_)
  refine pure_ (i := 0) (N := (some 74)) (v := ?_) (a' := ?_) #[true, false, false, false, false, false, false, false, false] rfl rfl (by kernel_rfl) (fun _ _ _ h => h) (Or.inl ⟨by rfl, ?_⟩) ?_ ?_
  rotate_left
  · intro w'
    go_simp
    with_reducible rfl
  rotate_left
  · simp only [Act.put, List.setIfInBounds_toArray, List.set_cons_zero, List.set_cons_succ, i64_w, i32_w]
    rfl
  refine pure_ (i := 2) (N := (some 76)) (v := ?_) (a' := ?_) #[true, false, true, false, false, false, false, false, false] rfl rfl (by kernel_rfl) (fun _ _ _ h => h) (Or.inl ⟨by rfl, ?_⟩) ?_ ?_
  rotate_left
  · intro w'
    go_simp
    with_reducible rfl
  rotate_left
  · simp only [Act.put, List.setIfInBounds_toArray, List.set_cons_zero, List.set_cons_succ, i64_w, i32_w]
    rfl
  refine pure_ (i := 3) (N := (some 77)) (v := ?_) (a' := ?_) #[true, false, true, true, false, false, false, false, false] rfl rfl (by kernel_rfl) (fun _ _ _ h => h) (Or.inl ⟨by rfl, ?_⟩) ?_ ?_
  rotate_left
  · intro w'
    go_simp
    with_reducible rfl
  rotate_left
  · simp only [Act.put, List.setIfInBounds_toArray, List.set_cons_zero, List.set_cons_succ, i64_w, i32_w]
    rfl
  refine pure_ (i := 4) (N := (some 78)) (v := ?_) (a' := ?_) #[true, false, true, true, true, false, false, false, false] rfl rfl (by kernel_rfl) (fun _ _ _ h => h) (Or.inl ⟨by rfl, ?_⟩) ?_ ?_
  rotate_left
  · intro w'
    go_simp
    with_reducible rfl
  rotate_left
  · simp only [Act.put, List.setIfInBounds_toArray, List.set_cons_zero, List.set_cons_succ, i64_w, i32_w]
    rfl
  refine pure_ (i := 5) (N := (some 79)) (v := ?_) (a' := ?_) #[true, false, true, true, true, true, false, false, false] rfl rfl (by kernel_rfl) (fun _ _ _ h => h) (Or.inl ⟨by rfl, ?_⟩) ?_ ?_
  rotate_left
  · intro w'
    go_simp
    with_reducible rfl
  rotate_left
  · simp only [Act.put, List.setIfInBounds_toArray, List.set_cons_zero, List.set_cons_succ, i64_w, i32_w]
    rfl
  refine take_ (i := 1) (N := (some 75)) (v := ?_) (a' := ?_) #[true, true, true, true, true, true, false, false, false] rfl rfl (by kernel_rfl) (fun _ _ _ h => h) (Or.inl ⟨by rfl, ?_⟩) hHeld ?_ ?_
  rotate_left
  · intro w' hS_
    have cz_ : w'.cell? ⟨g11, 6, none⟩ = some (.slice (some ⟨gC, 0, none⟩) l0.length cC) := (blk_cell hS_.k11 6).trans rfl
    go_simp
    with_reducible rfl
  rotate_left
  · simp only [Act.put, List.setIfInBounds_toArray, List.set_cons_zero, List.set_cons_succ, i64_w, i32_w]
    rfl
  refine take_ (i := 6) (N := (some 80)) (v := ?_) (a' := ?_) #[true, true, true, true, true, true, true, false, false] rfl rfl (by kernel_rfl) (fun _ _ _ h => h) (Or.inl ⟨by rfl, ?_⟩) hHeld ?_ ?_
  rotate_left
  · intro w' hS_
    obtain ⟨x0_, x1_, x2_, x3_⟩ := XI.out.below (hS_.hb)
    go_simp
    with_reducible rfl
  rotate_left
  · simp only [Act.put, List.setIfInBounds_toArray, List.set_cons_zero, List.set_cons_succ, i64_w, i32_w]
    rfl
  refine pure_ (i := 7) (N := (some 81)) (v := ?_) (a' := ?_) #[true, true, true, true, true, true, true, true, false] rfl rfl (by kernel_rfl) (fun _ _ _ h => h) (Or.inl ⟨by rfl, ?_⟩) ?_ ?_
  rotate_left
  · intro w'
    go_simp
    with_reducible rfl
  rotate_left
  · simp only [Act.put, List.setIfInBounds_toArray, List.set_cons_zero, List.set_cons_succ, i64_w, i32_w]
    rfl
  refine last_ (i := 8) (N := none) #[true, true, true, true, true, true, true, true, true] rfl rfl (by kernel_rfl) (by decide) (fun K hK => ?_)
  obtain ⟨w12, hrun_, hrow_, hgr_⟩ := store_row (P := Tryd.prog) 24 hHeld.rC z24 k HKL.out di (.agg #[.int .u32 di.f0, .int .u32 di.f1, .int .u32 di.f2, .int .u32 di.f3]) [.int .u32 di.f0, .int .u32 di.f1, .int .u32 di.f2, .int .u32 di.f3] rfl rfl (by kernel_rfl) (by intro q hq; simp only [List.mem_cons, List.not_mem_nil, or_false] at hq; rcases hq with rfl | rfl | rfl | rfl <;> rfl) (k24_mkM _ _ (fun _ => False) di) (fun _ h => h.elim)
  have NXT := Aside0.mk (hHeld.stored hrow_ hgr_)
  clear hrow_ hgr_
  refine storeR_step (t := 24) (p := .tmp 81) (x := .tmp 80) (by rfl) rfl rfl ?had ?hxx hrun_ ?_; (case had => first | rfl | (show Value.pointer _ = Value.pointer _; simp [Addr.add])); (case hxx => rfl)
  refine hK.out _ _ ?_
  clear hK K hrun_
  refine done_ (by kernel_rfl) ?_
  clear hHeld
  refine gen_q (fun w' => SwC w NF g5 g7 g8 g11 #[.int .u8 x, .int .u8 y] #[.int .i64 6, .int .u32 0, .int .u32 0, .int .u32 0, .int .u32 0, .slice none 0 0, .slice (some ad0) l0.length c0, .int .i64 0] #[.int .i64 3, .int .u32 0, .int .u32 0, .int .u32 0, .int .u32 0, .slice (some ad1) l1.length c1, .slice AB b7.length 1, .int .i64 0] #[.int .i64 6, .int .u32 0, .int .u32 0, .int .u32 0, .int .u32 0, .slice none 0 0, .slice (some ⟨gC, 0, none⟩) l0.length cC, .int .i64 0] (.slice AB b7.length 1) b7 (.slice (some ⟨gC, 0, none⟩) l0.length cC) (lc1.set k di) w') NXT.out ?_
  intro w13 hp
  clear P NXT
  obtain ⟨lc, hlc⟩ : ∃ l, l = lc1.set k di := ⟨_, rfl⟩
  rw [← hlc] at hp
  have LC2 := Aside0.mk (show lc = (l0.set i dk).set k di by rw [hlc, LC1.out])
  have HLC := Aside0.mk (show lc.length = l0.length by rw [LC2.out, List.length_set, List.length_set])
  have P := Aside0.mk hp
  clear hp hlc LC1
  have hm := HM.out
  have hn := HN.out
  have e0_ : w13.cell? ⟨g5, 0, none⟩ = some (.int .u8 x) := (blk_cell P.out.k5 0).trans rfl
  have e1_ : w13.cell? ⟨g5, 1, none⟩ = some (.int .u8 y) := (blk_cell P.out.k5 1).trans rfl
  obtain ⟨b0_, b1_, b2_, b3_, b4_, b5_, b6_, b7_⟩ := cells8c P.out.k8
  go_upto_region 16 with fail
  refine wp_gen (fun w' => SwC w NF g5 g7 g8 g11 #[.int .u8 x, .int .u8 y] #[.int .i64 6, .int .u32 0, .int .u32 0, .int .u32 0, .int .u32 0, .slice none 0 0, .slice (some ad0) l0.length c0, .int .i64 0] #[.int .i64 3, .int .u32 0, .int .u32 0, .int .u32 0, .int .u32 0, .slice (some ad1) l1.length c1, .slice AB b7.length 1, .int .i64 0] #[.int .i64 6, .int .u32 0, .int .u32 0, .int .u32 0, .int .u32 0, .slice none 0 0, .slice (some ⟨gC, 0, none⟩) l0.length cC, .int .i64 0] (.slice AB b7.length 1) b7 (.slice (some ⟨gC, 0, none⟩) l0.length cC) lc w' ∧ w'.heap[w13.heap.size]? = some (.cells #[.int .i64 3, .int .u32 0, .int .u32 0, .int .u32 0, .int .u32 0, .slice (some ad1) l1.length c1, .slice AB b7.length 1, .int .i64 0] 46 (0, 0))) ⟨P.out.below (below_alloc (Below.refl _ _) _), blk_new _ _⟩ ?_
  rintro w14 ⟨hp, h14⟩
  have M5 := Aside0.mk (Nat.ne_of_lt (blk_lt P.out.k5))
  have M7 := Aside0.mk (Nat.ne_of_lt (blk_lt P.out.k7))
  have M8 := Aside0.mk (Nat.ne_of_lt (blk_lt P.out.k8))
  have M11 := Aside0.mk (Nat.ne_of_lt (blk_lt P.out.k11))
  have G14 := Aside0.mk (below_size P.out.hb)
  clear b0_ b1_ b2_ b3_ b4_ b5_ b6_ b7_
  clear e0_ e1_ P hm hn
  generalize w13.heap.size = g14 at h14 M5 M7 M8 M11 G14 ⊢
  have P := Aside0.mk hp
  have K14 := Aside0.mk h14
  clear hp h14
  go_wp2_with (first | ((with_reducible refine gate_dst (N := 95) rfl ?_); refine Kd.R_lit (Kd.int .i64) _ 3 ?hg (N := 95) ?hd (xs := ([] : List Int)) (inner := []) (ok := fun _ => True) (okp := fun _ => True) ?hr (Reps.none _ _) (fun _ hk => hk) trivial (Below.refl _ _) (Nat.le_refl _) (by simp) ?_; (case hd => rfl); (case hg => rfl); (case hr => first | (go_simp; done) | (go_simp; rfl)); intro v95 w15 ho hb hg_ hnew_; clear hg_ hnew_; have HO := Aside0.mk ho; have HB15_ := Aside0.mk hb; clear ho hb) | ((with_reducible refine gate_builtin (b := .append) (xs := #[.tmp 95, .tmp 96]) rfl ?_); at_builtin; refine Kd.R_append_rows (Kd.int .i64) (Rr := (Kd.int .i64).K w15) (w0 := w14) w14.heap.size rfl (.tmp 95) (.tmp 96) 43 3 (.int .i64 0) 8 rfl Tryd.underlying43 info3 rfl (by decide) (by omega) v95 [] l1 (some ad1) l1.length c1 (fun _ => True) (fun _ => False) rfl rfl HO.out (Kd.C_below HR1.out (below_step P.out.hb HB15_.out)) (fun x cs h => h) (fun _ h => h.elim) (fun _ _ => trivial) HB15_.out (below_size HB15_.out) (by have := HLB.out; show (0 + l1.length) * 8 ≤ _; omega) ?_; intro v1 w16 ho hb hg_ hat_; clear hg_ hat_; have HO16 := Aside0.mk (show (Kd.int .i64).R 3 w16 w14.heap.size (fun _ => True) v1 l1 from ho); have HB16 := Aside0.mk hb; have cz_ : w16.cell? ⟨g14, 5, none⟩ = some (.slice (some ad1) l1.length c1) := (blk_cell (blk_below K14.out hb) 5).trans rfl; have fz_ := blk_frozen (blk_below K14.out hb) 5; clear ho hb HO HB15_; obtain ⟨gD, cD, eD⟩ := R_some HO16.out (by have := HML.out; omega); subst eD))
  clear cz_ fz_
  refine wp_gen (fun w' => SwD w NF g5 g7 g8 g11 g14 #[.int .u8 x, .int .u8 y] #[.int .i64 6, .int .u32 0, .int .u32 0, .int .u32 0, .int .u32 0, .slice none 0 0, .slice (some ad0) l0.length c0, .int .i64 0] #[.int .i64 3, .int .u32 0, .int .u32 0, .int .u32 0, .int .u32 0, .slice (some ad1) l1.length c1, .slice AB b7.length 1, .int .i64 0] #[.int .i64 6, .int .u32 0, .int .u32 0, .int .u32 0, .int .u32 0, .slice none 0 0, .slice (some ⟨gC, 0, none⟩) l0.length cC, .int .i64 0] #[.int .i64 3, .int .u32 0, .int .u32 0, .int .u32 0, .int .u32 0, .slice (some ⟨gD, 0, none⟩) l1.length cD, .slice AB b7.length 1, .int .i64 0] (.slice AB b7.length 1) b7 (.slice (some ⟨gC, 0, none⟩) l0.length cC) lc (.slice (some ⟨gD, 0, none⟩) l1.length cD) l1 w') (sw_d P.out K14.out G14.out M5.out M7.out M8.out M11.out HB16.out HO16.out) ?_
  intro w17 hp
  clear P HB16 HO16 K14
  have P := Aside0.mk hp
  clear hp
  refine start_ (n := 9) (S := fun w' => SwD w NF g5 g7 g8 g11 g14 #[.int .u8 x, .int .u8 y] #[.int .i64 6, .int .u32 0, .int .u32 0, .int .u32 0, .int .u32 0, .slice none 0 0, .slice (some ad0) l0.length c0, .int .i64 0] #[.int .i64 3, .int .u32 0, .int .u32 0, .int .u32 0, .int .u32 0, .slice (some ad1) l1.length c1, .slice AB b7.length 1, .int .i64 0] #[.int .i64 6, .int .u32 0, .int .u32 0, .int .u32 0, .int .u32 0, .slice none 0 0, .slice (some ⟨gC, 0, none⟩) l0.length cC, .int .i64 0] #[.int .i64 3, .int .u32 0, .int .u32 0, .int .u32 0, .int .u32 0, .slice (some ⟨gD, 0, none⟩) l1.length cD, .slice AB b7.length 1, .int .i64 0] (.slice AB b7.length 1) b7 (.slice (some ⟨gC, 0, none⟩) l0.length cC) lc (.slice (some ⟨gD, 0, none⟩) l1.length cD) l1 w') (ds := [8]) #[false, false, false, false, false, false, false, false, false] (by kernel_rfl) rfl rfl P.out.drew (fun hHeld => ?_)
  refine pure_ (i := 0) (N := (some 99)) (v := ?_) (a' := ?_) #[true, false, false, false, false, false, false, false, false] rfl rfl (by kernel_rfl) (fun _ _ _ h => h) (Or.inl ⟨by rfl, ?_⟩) ?_ ?_
  rotate_left
  · intro w'
    go_simp
    with_reducible rfl
  rotate_left
  · simp only [Act.put, List.setIfInBounds_toArray, List.set_cons_zero, List.set_cons_succ, i64_w, i32_w]
    rfl
  refine pure_ (i := 2) (N := (some 101)) (v := ?_) (a' := ?_) #[true, false, true, false, false, false, false, false, false] rfl rfl (by kernel_rfl) (fun _ _ _ h => h) (Or.inl ⟨by rfl, ?_⟩) ?_ ?_
  rotate_left
  · intro w'
    go_simp
    with_reducible rfl
  rotate_left
  · simp only [Act.put, List.setIfInBounds_toArray, List.set_cons_zero, List.set_cons_succ, i64_w, i32_w]
    rfl
  refine pure_ (i := 3) (N := (some 102)) (v := ?_) (a' := ?_) #[true, false, true, true, false, false, false, false, false] rfl rfl (by kernel_rfl) (fun _ _ _ h => h) (Or.inl ⟨by rfl, ?_⟩) ?_ ?_
  rotate_left
  · intro w'
    go_simp
    with_reducible rfl
  rotate_left
  · simp only [Act.put, List.setIfInBounds_toArray, List.set_cons_zero, List.set_cons_succ, i64_w, i32_w]
    rfl
  refine pure_ (i := 4) (N := (some 103)) (v := ?_) (a' := ?_) #[true, false, true, true, true, false, false, false, false] rfl rfl (by kernel_rfl) (fun _ _ _ h => h) (Or.inl ⟨by rfl, ?_⟩) ?_ ?_
  rotate_left
  · intro w'
    go_simp
    with_reducible rfl
  rotate_left
  · simp only [Act.put, List.setIfInBounds_toArray, List.set_cons_zero, List.set_cons_succ, i64_w, i32_w]
    rfl
  refine pure_ (i := 5) (N := (some 104)) (v := ?_) (a' := ?_) #[true, false, true, true, true, true, false, false, false] rfl rfl (by kernel_rfl) (fun _ _ _ h => h) (Or.inl ⟨by rfl, ?_⟩) ?_ ?_
  rotate_left
  · intro w'
    go_simp
    with_reducible rfl
  rotate_left
  · simp only [Act.put, List.setIfInBounds_toArray, List.set_cons_zero, List.set_cons_succ, i64_w, i32_w]
    rfl
  refine take_ (i := 1) (N := (some 100)) (v := ?_) (a' := ?_) #[true, true, true, true, true, true, false, false, false] rfl rfl (by kernel_rfl) (fun _ _ _ h => h) (Or.inl ⟨by rfl, ?_⟩) hHeld ?_ ?_
  rotate_left
  · intro w' hS_
    have cz_ : w'.cell? ⟨g14, 5, none⟩ = some (.slice (some ⟨gD, 0, none⟩) l1.length cD) := (blk_cell hS_.k14 5).trans rfl
    go_simp
    with_reducible rfl
  rotate_left
  · simp only [Act.put, List.setIfInBounds_toArray, List.set_cons_zero, List.set_cons_succ, i64_w, i32_w]
    rfl
  refine take_ (i := 6) (N := (some 105)) (v := ?_) (a' := ?_) #[true, true, true, true, true, true, true, false, false] rfl rfl (by kernel_rfl) (fun _ _ _ h => h) (Or.inl ⟨by rfl, ?_⟩) hHeld ?_ ?_
  rotate_left
  · intro w' hS_
    have x0_ := (hS_.c.hb.cell (World.block_lt_of_cell? w _ ZN.out)).trans ZN.out
    go_simp
    with_reducible rfl
  rotate_left
  · simp only [Act.put, List.setIfInBounds_toArray, List.set_cons_zero, List.set_cons_succ, i64_w, i32_w]
    rfl
  refine pure_ (i := 7) (N := (some 106)) (v := ?_) (a' := ?_) #[true, true, true, true, true, true, true, true, false] rfl rfl (by kernel_rfl) (fun _ _ _ h => h) (Or.inl ⟨by rfl, ?_⟩) ?_ ?_
  rotate_left
  · intro w'
    go_simp
    with_reducible rfl
  rotate_left
  · simp only [Act.put, List.setIfInBounds_toArray, List.set_cons_zero, List.set_cons_succ, i64_w, i32_w]
    rfl
  refine last_ (i := 8) (N := none) #[true, true, true, true, true, true, true, true, true] rfl rfl (by kernel_rfl) (by decide) (fun K hK => ?_)
  obtain ⟨w18, hrun_, hrow_, hgr_⟩ := store_row (P := Tryd.prog) 3 hHeld.rD 0 m HML.out pn (.int .i64 pn) [.int .i64 pn] rfl rfl (by kernel_rfl) (by intro q hq; simp only [List.mem_cons, List.not_mem_nil, or_false] at hq; rcases hq with rfl; rfl) (show (Kd.int .i64).M _ _ (fun _ => False) pn [.int .i64 pn] from rfl) (fun _ h => h.elim)
  have NXT := Aside0.mk (hHeld.stored hrow_ hgr_)
  clear hrow_ hgr_
  rw [show m * (Kd.int .i64).sz = m from Nat.mul_one m] at hrun_
  refine storeR_step (t := 3) (p := .tmp 106) (x := .tmp 105) (by rfl) rfl rfl ?had ?hxx hrun_ ?_; (case had => first | rfl | (show Value.pointer _ = Value.pointer _; simp [Addr.add])); (case hxx => rfl)
  refine hK.out _ _ ?_
  clear hK K hrun_
  refine done_ (by kernel_rfl) ?_
  clear hHeld
  refine gen_q (fun w' => SwD w NF g5 g7 g8 g11 g14 #[.int .u8 x, .int .u8 y] #[.int .i64 6, .int .u32 0, .int .u32 0, .int .u32 0, .int .u32 0, .slice none 0 0, .slice (some ad0) l0.length c0, .int .i64 0] #[.int .i64 3, .int .u32 0, .int .u32 0, .int .u32 0, .int .u32 0, .slice (some ad1) l1.length c1, .slice AB b7.length 1, .int .i64 0] #[.int .i64 6, .int .u32 0, .int .u32 0, .int .u32 0, .int .u32 0, .slice none 0 0, .slice (some ⟨gC, 0, none⟩) l0.length cC, .int .i64 0] #[.int .i64 3, .int .u32 0, .int .u32 0, .int .u32 0, .int .u32 0, .slice (some ⟨gD, 0, none⟩) l1.length cD, .slice AB b7.length 1, .int .i64 0] (.slice AB b7.length 1) b7 (.slice (some ⟨gC, 0, none⟩) l0.length cC) lc (.slice (some ⟨gD, 0, none⟩) l1.length cD) (l1.set m pn) w') NXT.out ?_
  intro w19 hp
  clear P NXT
  obtain ⟨ld1, hld1⟩ : ∃ l, l = l1.set m pn := ⟨_, rfl⟩
  rw [← hld1] at hp
  have LD1 := Aside0.mk hld1
  have P := Aside0.mk hp
  clear hp hld1
  go_wp2
  refine start_ (n := 9) (S := fun w' => SwD w NF g5 g7 g8 g11 g14 #[.int .u8 x, .int .u8 y] #[.int .i64 6, .int .u32 0, .int .u32 0, .int .u32 0, .int .u32 0, .slice none 0 0, .slice (some ad0) l0.length c0, .int .i64 0] #[.int .i64 3, .int .u32 0, .int .u32 0, .int .u32 0, .int .u32 0, .slice (some ad1) l1.length c1, .slice AB b7.length 1, .int .i64 0] #[.int .i64 6, .int .u32 0, .int .u32 0, .int .u32 0, .int .u32 0, .slice none 0 0, .slice (some ⟨gC, 0, none⟩) l0.length cC, .int .i64 0] #[.int .i64 3, .int .u32 0, .int .u32 0, .int .u32 0, .int .u32 0, .slice (some ⟨gD, 0, none⟩) l1.length cD, .slice AB b7.length 1, .int .i64 0] (.slice AB b7.length 1) b7 (.slice (some ⟨gC, 0, none⟩) l0.length cC) lc (.slice (some ⟨gD, 0, none⟩) l1.length cD) ld1 w') (ds := [8]) #[false, false, false, false, false, false, false, false, false] (by kernel_rfl) rfl rfl P.out.drew (fun hHeld => ?_)
  refine pure_ (i := 0) (N := (some 107)) (v := ?_) (a' := ?_) #[true, false, false, false, false, false, false, false, false] rfl rfl (by kernel_rfl) (fun _ _ _ h => h) (Or.inl ⟨by rfl, ?_⟩) ?_ ?_
  rotate_left
  · intro w'
    go_simp
    with_reducible rfl
  rotate_left
  · simp only [Act.put, List.setIfInBounds_toArray, List.set_cons_zero, List.set_cons_succ, i64_w, i32_w]
    rfl
  refine pure_ (i := 2) (N := (some 109)) (v := ?_) (a' := ?_) #[true, false, true, false, false, false, false, false, false] rfl rfl (by kernel_rfl) (fun _ _ _ h => h) (Or.inl ⟨by rfl, ?_⟩) ?_ ?_
  rotate_left
  · intro w'
    go_simp
    with_reducible rfl
  rotate_left
  · simp only [Act.put, List.setIfInBounds_toArray, List.set_cons_zero, List.set_cons_succ, i64_w, i32_w]
    rfl
  refine pure_ (i := 3) (N := (some 110)) (v := ?_) (a' := ?_) #[true, false, true, true, false, false, false, false, false] rfl rfl (by kernel_rfl) (fun _ _ _ h => h) (Or.inl ⟨by rfl, ?_⟩) ?_ ?_
  rotate_left
  · intro w'
    go_simp
    with_reducible rfl
  rotate_left
  · simp only [Act.put, List.setIfInBounds_toArray, List.set_cons_zero, List.set_cons_succ, i64_w, i32_w]
    rfl
  refine pure_ (i := 4) (N := (some 111)) (v := ?_) (a' := ?_) #[true, false, true, true, true, false, false, false, false] rfl rfl (by kernel_rfl) (fun _ _ _ h => h) (Or.inl ⟨by rfl, ?_⟩) ?_ ?_
  rotate_left
  · intro w'
    go_simp
    with_reducible rfl
  rotate_left
  · simp only [Act.put, List.setIfInBounds_toArray, List.set_cons_zero, List.set_cons_succ, i64_w, i32_w]
    rfl
  refine pure_ (i := 5) (N := (some 112)) (v := ?_) (a' := ?_) #[true, false, true, true, true, true, false, false, false] rfl rfl (by kernel_rfl) (fun _ _ _ h => h) (Or.inl ⟨by rfl, ?_⟩) ?_ ?_
  rotate_left
  · intro w'
    go_simp
    with_reducible rfl
  rotate_left
  · simp only [Act.put, List.setIfInBounds_toArray, List.set_cons_zero, List.set_cons_succ, i64_w, i32_w]
    rfl
  refine take_ (i := 1) (N := (some 108)) (v := ?_) (a' := ?_) #[true, true, true, true, true, true, false, false, false] rfl rfl (by kernel_rfl) (fun _ _ _ h => h) (Or.inl ⟨by rfl, ?_⟩) hHeld ?_ ?_
  rotate_left
  · intro w' hS_
    have cz_ : w'.cell? ⟨g14, 5, none⟩ = some (.slice (some ⟨gD, 0, none⟩) l1.length cD) := (blk_cell hS_.k14 5).trans rfl
    go_simp
    with_reducible rfl
  rotate_left
  · simp only [Act.put, List.setIfInBounds_toArray, List.set_cons_zero, List.set_cons_succ, i64_w, i32_w]
    rfl
  refine take_ (i := 6) (N := (some 113)) (v := ?_) (a' := ?_) #[true, true, true, true, true, true, true, false, false] rfl rfl (by kernel_rfl) (fun _ _ _ h => h) (Or.inl ⟨by rfl, ?_⟩) hHeld ?_ ?_
  rotate_left
  · intro w' hS_
    have x0_ := (hS_.c.hb.cell (World.block_lt_of_cell? w _ ZM.out)).trans ZM.out
    go_simp
    with_reducible rfl
  rotate_left
  · simp only [Act.put, List.setIfInBounds_toArray, List.set_cons_zero, List.set_cons_succ, i64_w, i32_w]
    rfl
  refine pure_ (i := 7) (N := (some 114)) (v := ?_) (a' := ?_) #[true, true, true, true, true, true, true, true, false] rfl rfl (by kernel_rfl) (fun _ _ _ h => h) (Or.inl ⟨by rfl, ?_⟩) ?_ ?_
  rotate_left
  · intro w'
    go_simp
    with_reducible rfl
  rotate_left
  · simp only [Act.put, List.setIfInBounds_toArray, List.set_cons_zero, List.set_cons_succ, i64_w, i32_w]
    rfl
  refine last_ (i := 8) (N := none) #[true, true, true, true, true, true, true, true, true] rfl rfl (by kernel_rfl) (by decide) (fun K hK => ?_)
  obtain ⟨w20, hrun_, hrow_, hgr_⟩ := store_row (P := Tryd.prog) 3 hHeld.rD 0 n HNL.out pm (.int .i64 pm) [.int .i64 pm] rfl rfl (by kernel_rfl) (by intro q hq; simp only [List.mem_cons, List.not_mem_nil, or_false] at hq; rcases hq with rfl; rfl) (show (Kd.int .i64).M _ _ (fun _ => False) pm [.int .i64 pm] from rfl) (fun _ h => h.elim)
  have NXT := Aside0.mk (hHeld.stored hrow_ hgr_)
  clear hrow_ hgr_
  rw [show n * (Kd.int .i64).sz = n from Nat.mul_one n] at hrun_
  refine storeR_step (t := 3) (p := .tmp 114) (x := .tmp 113) (by rfl) rfl rfl ?had ?hxx hrun_ ?_; (case had => first | rfl | (show Value.pointer _ = Value.pointer _; simp [Addr.add])); (case hxx => rfl)
  refine hK.out _ _ ?_
  clear hK K hrun_
  refine done_ (by kernel_rfl) ?_
  clear hHeld
  refine gen_q (fun w' => SwD w NF g5 g7 g8 g11 g14 #[.int .u8 x, .int .u8 y] #[.int .i64 6, .int .u32 0, .int .u32 0, .int .u32 0, .int .u32 0, .slice none 0 0, .slice (some ad0) l0.length c0, .int .i64 0] #[.int .i64 3, .int .u32 0, .int .u32 0, .int .u32 0, .int .u32 0, .slice (some ad1) l1.length c1, .slice AB b7.length 1, .int .i64 0] #[.int .i64 6, .int .u32 0, .int .u32 0, .int .u32 0, .int .u32 0, .slice none 0 0, .slice (some ⟨gC, 0, none⟩) l0.length cC, .int .i64 0] #[.int .i64 3, .int .u32 0, .int .u32 0, .int .u32 0, .int .u32 0, .slice (some ⟨gD, 0, none⟩) l1.length cD, .slice AB b7.length 1, .int .i64 0] (.slice AB b7.length 1) b7 (.slice (some ⟨gC, 0, none⟩) l0.length cC) lc (.slice (some ⟨gD, 0, none⟩) l1.length cD) (ld1.set n pm) w') NXT.out ?_
  intro w21 hp
  clear P NXT
  obtain ⟨ld, hld⟩ : ∃ l, l = ld1.set n pm := ⟨_, rfl⟩
  rw [← hld] at hp
  have LD2 := Aside0.mk (show ld = (l1.set m pn).set n pm by rw [hld, LD1.out])
  have HLD := Aside0.mk (show ld.length = l1.length by rw [LD2.out, List.length_set, List.length_set])
  have P := Aside0.mk hp
  clear hp hld LD1
  obtain ⟨bA, sA, sC, hbA, hpA, hpC, hzA, hqA, hqA', hsA, hsA', hmA⟩ := swaps_A l0 i k HIL.out HKL.out di dk DI.out DK.out lc LC2.out HOK.out RA.out
  obtain ⟨bB, sB, sD, hbB, hpB, hpD, hzB, hqB, hqB', hsB, hsB', hmB⟩ := swaps_B l1 b7 m n HML.out HNL.out pm pn PM.out PN.out ld LD2.out HB7.out RB.out
  have HPA := Aside0.mk hpA
  have HPB := Aside0.mk hpB
  have HPC := Aside0.mk hpC
  have HPD := Aside0.mk hpD
  have HMA := Aside0.mk hmA
  have HMB := Aside0.mk hmB
  clear hpA hpB hpC hpD hmA hmB
  have KA := Aside0.mk (show ∀ W : World, SwD w NF g5 g7 g8 g11 g14 #[.int .u8 x, .int .u8 y] #[.int .i64 6, .int .u32 0, .int .u32 0, .int .u32 0, .int .u32 0, .slice none 0 0, .slice (some ad0) l0.length c0, .int .i64 0] #[.int .i64 3, .int .u32 0, .int .u32 0, .int .u32 0, .int .u32 0, .slice (some ad1) l1.length c1, .slice AB b7.length 1, .int .i64 0] #[.int .i64 6, .int .u32 0, .int .u32 0, .int .u32 0, .int .u32 0, .slice none 0 0, .slice (some ⟨gC, 0, none⟩) l0.length cC, .int .i64 0] #[.int .i64 3, .int .u32 0, .int .u32 0, .int .u32 0, .int .u32 0, .slice (some ⟨gD, 0, none⟩) l1.length cD, .slice AB b7.length 1, .int .i64 0] (.slice AB b7.length 1) b7 (.slice (some ⟨gC, 0, none⟩) l0.length cC) lc (.slice (some ⟨gD, 0, none⟩) l1.length cD) ld W → Calls Tryd.prog 34 #[.agg #[.int .i64 6, .int .u32 0, .int .u32 0, .int .u32 0, .int .u32 0, .slice none 0 0, .slice (some ad0) l0.length c0, .int .i64 0]] W fun e w' => e = .returned (.tuple #[.string sA, .int .i64 0]) ∧ Below W.heap.size W w' from fun W h => by
    exact recipe_Put.calls 6 0 0 0 0 none 0 [] (some ad0) c0 l0 0 sA 0 W (HNIL.out _) (Nat.le_refl 0) (Kd.C_below HR0.out h.c.hb) HC0.out (congrArg some HPA.out))
  have KB := Aside0.mk (show ∀ W : World, SwD w NF g5 g7 g8 g11 g14 #[.int .u8 x, .int .u8 y] #[.int .i64 6, .int .u32 0, .int .u32 0, .int .u32 0, .int .u32 0, .slice none 0 0, .slice (some ad0) l0.length c0, .int .i64 0] #[.int .i64 3, .int .u32 0, .int .u32 0, .int .u32 0, .int .u32 0, .slice (some ad1) l1.length c1, .slice AB b7.length 1, .int .i64 0] #[.int .i64 6, .int .u32 0, .int .u32 0, .int .u32 0, .int .u32 0, .slice none 0 0, .slice (some ⟨gC, 0, none⟩) l0.length cC, .int .i64 0] #[.int .i64 3, .int .u32 0, .int .u32 0, .int .u32 0, .int .u32 0, .slice (some ⟨gD, 0, none⟩) l1.length cD, .slice AB b7.length 1, .int .i64 0] (.slice AB b7.length 1) b7 (.slice (some ⟨gC, 0, none⟩) l0.length cC) lc (.slice (some ⟨gD, 0, none⟩) l1.length cD) ld W → Calls Tryd.prog 34 #[.agg #[.int .i64 3, .int .u32 0, .int .u32 0, .int .u32 0, .int .u32 0, .slice (some ad1) l1.length c1, .slice AB b7.length 1, .int .i64 0]] W fun e w' => e = .returned (.tuple #[.string sB, .int .i64 0]) ∧ Below W.heap.size W w' from fun W h => by
    exact recipe_Put.calls 3 0 0 0 0 (some ad1) c1 l1 AB 1 b7 0 sB 0 W (Kd.C_below HR1.out h.c.hb) HC1.out (Kd.R_reads' h.c.rB).2.2 HL7.out (congrArg some HPB.out))
  have KC := Aside0.mk (show ∀ W : World, SwD w NF g5 g7 g8 g11 g14 #[.int .u8 x, .int .u8 y] #[.int .i64 6, .int .u32 0, .int .u32 0, .int .u32 0, .int .u32 0, .slice none 0 0, .slice (some ad0) l0.length c0, .int .i64 0] #[.int .i64 3, .int .u32 0, .int .u32 0, .int .u32 0, .int .u32 0, .slice (some ad1) l1.length c1, .slice AB b7.length 1, .int .i64 0] #[.int .i64 6, .int .u32 0, .int .u32 0, .int .u32 0, .int .u32 0, .slice none 0 0, .slice (some ⟨gC, 0, none⟩) l0.length cC, .int .i64 0] #[.int .i64 3, .int .u32 0, .int .u32 0, .int .u32 0, .int .u32 0, .slice (some ⟨gD, 0, none⟩) l1.length cD, .slice AB b7.length 1, .int .i64 0] (.slice AB b7.length 1) b7 (.slice (some ⟨gC, 0, none⟩) l0.length cC) lc (.slice (some ⟨gD, 0, none⟩) l1.length cD) ld W → Calls Tryd.prog 34 #[.agg #[.int .i64 6, .int .u32 0, .int .u32 0, .int .u32 0, .int .u32 0, .slice none 0 0, .slice (some ⟨gC, 0, none⟩) l0.length cC, .int .i64 0]] W fun e w' => e = .returned (.tuple #[.string sC, .int .i64 0]) ∧ Below W.heap.size W w' from fun W h => by
    have hr := Kd.R_reads' h.c.rC
    have c := recipe_Put.calls 6 0 0 0 0 none 0 [] (some ⟨gC, 0, none⟩) cC lc 0 sC 0 W (HNIL.out _) (Nat.le_refl 0) hr.2.2 (by rw [HLC.out]; exact hr.2.1) (congrArg some HPC.out)
    rw [HLC.out] at c
    exact c)
  have KD := Aside0.mk (show ∀ W : World, SwD w NF g5 g7 g8 g11 g14 #[.int .u8 x, .int .u8 y] #[.int .i64 6, .int .u32 0, .int .u32 0, .int .u32 0, .int .u32 0, .slice none 0 0, .slice (some ad0) l0.length c0, .int .i64 0] #[.int .i64 3, .int .u32 0, .int .u32 0, .int .u32 0, .int .u32 0, .slice (some ad1) l1.length c1, .slice AB b7.length 1, .int .i64 0] #[.int .i64 6, .int .u32 0, .int .u32 0, .int .u32 0, .int .u32 0, .slice none 0 0, .slice (some ⟨gC, 0, none⟩) l0.length cC, .int .i64 0] #[.int .i64 3, .int .u32 0, .int .u32 0, .int .u32 0, .int .u32 0, .slice (some ⟨gD, 0, none⟩) l1.length cD, .slice AB b7.length 1, .int .i64 0] (.slice AB b7.length 1) b7 (.slice (some ⟨gC, 0, none⟩) l0.length cC) lc (.slice (some ⟨gD, 0, none⟩) l1.length cD) ld W → Calls Tryd.prog 34 #[.agg #[.int .i64 3, .int .u32 0, .int .u32 0, .int .u32 0, .int .u32 0, .slice (some ⟨gD, 0, none⟩) l1.length cD, .slice AB b7.length 1, .int .i64 0]] W fun e w' => e = .returned (.tuple #[.string sD, .int .i64 0]) ∧ Below W.heap.size W w' from fun W h => by
    have hr := Kd.R_reads' h.rD
    have c := recipe_Put.calls 3 0 0 0 0 (some ⟨gD, 0, none⟩) cD ld AB 1 b7 0 sD 0 W hr.2.2 (by rw [HLD.out]; exact hr.2.1) (Kd.R_reads' h.c.rB).2.2 HL7.out (congrArg some HPD.out)
    rw [HLD.out] at c
    exact c)
  have KAC := Aside0.mk (show ∀ W : World, SwD w NF g5 g7 g8 g11 g14 #[.int .u8 x, .int .u8 y] #[.int .i64 6, .int .u32 0, .int .u32 0, .int .u32 0, .int .u32 0, .slice none 0 0, .slice (some ad0) l0.length c0, .int .i64 0] #[.int .i64 3, .int .u32 0, .int .u32 0, .int .u32 0, .int .u32 0, .slice (some ad1) l1.length c1, .slice AB b7.length 1, .int .i64 0] #[.int .i64 6, .int .u32 0, .int .u32 0, .int .u32 0, .int .u32 0, .slice none 0 0, .slice (some ⟨gC, 0, none⟩) l0.length cC, .int .i64 0] #[.int .i64 3, .int .u32 0, .int .u32 0, .int .u32 0, .int .u32 0, .slice (some ⟨gD, 0, none⟩) l1.length cD, .slice AB b7.length 1, .int .i64 0] (.slice AB b7.length 1) b7 (.slice (some ⟨gC, 0, none⟩) l0.length cC) lc (.slice (some ⟨gD, 0, none⟩) l1.length cD) ld W → Calls Tryd.prog 43 #[.agg #[.int .i64 6, .int .u32 0, .int .u32 0, .int .u32 0, .int .u32 0, .slice none 0 0, .slice (some ad0) l0.length c0, .int .i64 0], .agg #[.int .i64 6, .int .u32 0, .int .u32 0, .int .u32 0, .int .u32 0, .slice none 0 0, .slice (some ⟨gC, 0, none⟩) l0.length cC, .int .i64 0]] W fun e w' => e = .returned (.bool bA) ∧ Below W.heap.size W w' from fun W h => by
    have hr := Kd.R_reads' h.c.rC
    have c := recipe_Same.calls 100 6 0 0 0 0 none 0 [] (some ad0) c0 l0 0 6 0 0 0 0 none 0 [] (some ⟨gC, 0, none⟩) cC lc 0 bA W (HNIL.out _) (Nat.le_refl 0) (Kd.C_below HR0.out h.c.hb) HC0.out (HNIL.out _) (Nat.le_refl 0) hr.2.2 (by rw [HLC.out]; exact hr.2.1) HMA.out
    rw [HLC.out] at c
    exact c)
  have KBD := Aside0.mk (show ∀ W : World, SwD w NF g5 g7 g8 g11 g14 #[.int .u8 x, .int .u8 y] #[.int .i64 6, .int .u32 0, .int .u32 0, .int .u32 0, .int .u32 0, .slice none 0 0, .slice (some ad0) l0.length c0, .int .i64 0] #[.int .i64 3, .int .u32 0, .int .u32 0, .int .u32 0, .int .u32 0, .slice (some ad1) l1.length c1, .slice AB b7.length 1, .int .i64 0] #[.int .i64 6, .int .u32 0, .int .u32 0, .int .u32 0, .int .u32 0, .slice none 0 0, .slice (some ⟨gC, 0, none⟩) l0.length cC, .int .i64 0] #[.int .i64 3, .int .u32 0, .int .u32 0, .int .u32 0, .int .u32 0, .slice (some ⟨gD, 0, none⟩) l1.length cD, .slice AB b7.length 1, .int .i64 0] (.slice AB b7.length 1) b7 (.slice (some ⟨gC, 0, none⟩) l0.length cC) lc (.slice (some ⟨gD, 0, none⟩) l1.length cD) ld W → Calls Tryd.prog 43 #[.agg #[.int .i64 3, .int .u32 0, .int .u32 0, .int .u32 0, .int .u32 0, .slice (some ad1) l1.length c1, .slice AB b7.length 1, .int .i64 0], .agg #[.int .i64 3, .int .u32 0, .int .u32 0, .int .u32 0, .int .u32 0, .slice (some ⟨gD, 0, none⟩) l1.length cD, .slice AB b7.length 1, .int .i64 0]] W fun e w' => e = .returned (.bool bB) ∧ Below W.heap.size W w' from fun W h => by
    have hr := Kd.R_reads' h.rD
    have c := recipe_Same.calls 100 3 0 0 0 0 (some ad1) c1 l1 AB 1 b7 0 3 0 0 0 0 (some ⟨gD, 0, none⟩) cD ld AB 1 b7 0 bB W (Kd.C_below HR1.out h.c.hb) HC1.out (Kd.R_reads' h.c.rB).2.2 HL7.out hr.2.2 (by rw [HLD.out]; exact hr.2.1) (Kd.R_reads' h.c.rB).2.2 HL7.out HMB.out
    rw [HLD.out] at c
    exact c)
  clear HPA HPB HPC HPD HMA HMB
  obtain ⟨a0_, a1_, a2_, a3_, a4_, a5_, a6_, a7_⟩ := cells8c P.out.c.k7
  go_wp2_with (first | ((go_at_call 34); (with_reducible refine (KA.out _ P.out).mono ?_); rintro e w22 ⟨rfl, hb⟩; have n0_ := Aside0.mk (P.out.below hb); clear P hb; have P := n0_; clear n0_; clear a0_ a1_ a2_ a3_ a4_ a5_ a6_ a7_; obtain ⟨c0_, c1_, c2_, c3_, c4_, c5_, c6_, c7_⟩ := cells8c P.out.c.k11))
  go_wp2_with (first | ((go_at_call 34); (with_reducible refine (KC.out _ P.out).mono ?_); rintro e w23 ⟨rfl, hb⟩; have n0_ := Aside0.mk (P.out.below hb); clear P hb; have P := n0_; clear n0_; clear c0_ c1_ c2_ c3_ c4_ c5_ c6_ c7_; obtain ⟨b0_, b1_, b2_, b3_, b4_, b5_, b6_, b7_⟩ := cells8c P.out.c.k8))
  go_wp2_with (first | ((go_at_call 34); (with_reducible refine (KB.out _ P.out).mono ?_); rintro e w24 ⟨rfl, hb⟩; have n0_ := Aside0.mk (P.out.below hb); clear P hb; have P := n0_; clear n0_; clear b0_ b1_ b2_ b3_ b4_ b5_ b6_ b7_; obtain ⟨d0_, d1_, d2_, d3_, d4_, d5_, d6_, d7_⟩ := cells8c P.out.k14))
  go_wp2_with (first | ((go_at_call 34); (with_reducible refine (KD.out _ P.out).mono ?_); rintro e w25 ⟨rfl, hb⟩; have n0_ := Aside0.mk (P.out.below hb); clear P hb; have P := n0_; clear n0_; clear d0_ d1_ d2_ d3_ d4_ d5_ d6_ d7_))
  have z1 : ((sA.size : Int) == (sC.size : Int)) = true := beq_iff_eq.2 (by omega)
  have z1' : (sA.size == sC.size) = true := beq_iff_eq.2 hzA
  have z2 : decide ((sA.size : Int) > 0) = true := decide_eq_true (by omega)
  have z2' : decide ((0 : Int) < (sA.size : Int)) = true := decide_eq_true (by omega)
  have z2n : decide (0 < sA.size) = true := decide_eq_true hqA
  have z3 : ((sB.size : Int) == (sD.size : Int)) = true := beq_iff_eq.2 (by omega)
  have z3' : (sB.size == sD.size) = true := beq_iff_eq.2 hzB
  have y1 : (bA == bA) = true := beq_self_eq_true bA
  have y2 : (bB == bB) = true := beq_self_eq_true bB
  clear hzA hzB hqA hqA' hqB hqB'
  refine start_ (n := 78) (S := fun w' => SwD w NF g5 g7 g8 g11 g14 #[.int .u8 x, .int .u8 y] #[.int .i64 6, .int .u32 0, .int .u32 0, .int .u32 0, .int .u32 0, .slice none 0 0, .slice (some ad0) l0.length c0, .int .i64 0] #[.int .i64 3, .int .u32 0, .int .u32 0, .int .u32 0, .int .u32 0, .slice (some ad1) l1.length c1, .slice AB b7.length 1, .int .i64 0] #[.int .i64 6, .int .u32 0, .int .u32 0, .int .u32 0, .int .u32 0, .slice none 0 0, .slice (some ⟨gC, 0, none⟩) l0.length cC, .int .i64 0] #[.int .i64 3, .int .u32 0, .int .u32 0, .int .u32 0, .int .u32 0, .slice (some ⟨gD, 0, none⟩) l1.length cD, .slice AB b7.length 1, .int .i64 0] (.slice AB b7.length 1) b7 (.slice (some ⟨gC, 0, none⟩) l0.length cC) lc (.slice (some ⟨gD, 0, none⟩) l1.length cD) ld w') (ds := []) #[false, false, false, false, false, false, false, false, false, false, false, false, false, false, false, false, false, false, false, false, false, false, false, false, false, false, false, false, false, false, false, false, false, false, false, false, false, false, false, false, false, false, false, false, false, false, false, false, false, false, false, false, false, false, false, false, false, false, false, false, false, false, false, false, false, false, false, false, false, false, false, false, false, false, false, false, false, false] (by kernel_rfl) rfl rfl P.out.drew (fun hHeld => ?_)
  refine with_tabW seedcornlaw37_RecipeSwaps.tab23 seedcornlaw37_RecipeSwaps.bits23 (fun HT_ HW_ => ?_)
  refine pure_ (i := 0) (N := (some 135)) (v := ?_) (a' := ?_) #[true, false, false, false, false, false, false, false, false, false, false, false, false, false, false, false, false, false, false, false, false, false, false, false, false, false, false, false, false, false, false, false, false, false, false, false, false, false, false, false, false, false, false, false, false, false, false, false, false, false, false, false, false, false, false, false, false, false, false, false, false, false, false, false, false, false, false, false, false, false, false, false, false, false, false, false, false, false] rfl rfl (any_of HT_.out (by kernel_rfl)) (fun _ _ _ h => h) (Or.inl ⟨by rfl, ?_⟩) ?_ ?_
  rotate_left
  · intro w'
    go_simp
    with_reducible rfl
  rotate_left
  · simp only [Act.put, List.setIfInBounds_toArray, List.set_cons_zero, List.set_cons_succ, i64_w, i32_w]
    rfl
  refine pure_ (i := 1) (N := (some 136)) (v := ?_) (a' := ?_) #[true, true, false, false, false, false, false, false, false, false, false, false, false, false, false, false, false, false, false, false, false, false, false, false, false, false, false, false, false, false, false, false, false, false, false, false, false, false, false, false, false, false, false, false, false, false, false, false, false, false, false, false, false, false, false, false, false, false, false, false, false, false, false, false, false, false, false, false, false, false, false, false, false, false, false, false, false, false] rfl rfl (any_of HT_.out (by kernel_rfl)) (fun _ _ _ h => h) (Or.inl ⟨by rfl, ?_⟩) ?_ ?_
  rotate_left
  · intro w'
    go_simp
    with_reducible rfl
  rotate_left
  · simp only [Act.put, List.setIfInBounds_toArray, List.set_cons_zero, List.set_cons_succ, i64_w, i32_w]
    rfl
  refine pure_ (i := 2) (N := (some 137)) (v := ?_) (a' := ?_) #[true, true, true, false, false, false, false, false, false, false, false, false, false, false, false, false, false, false, false, false, false, false, false, false, false, false, false, false, false, false, false, false, false, false, false, false, false, false, false, false, false, false, false, false, false, false, false, false, false, false, false, false, false, false, false, false, false, false, false, false, false, false, false, false, false, false, false, false, false, false, false, false, false, false, false, false, false, false] rfl rfl (any_of HT_.out (by kernel_rfl)) (fun _ _ _ h => h) (Or.inl ⟨by rfl, ?_⟩) ?_ ?_
  rotate_left
  · intro w'
    go_simp
    with_reducible rfl
  rotate_left
  · simp only [Act.put, List.setIfInBounds_toArray, List.set_cons_zero, List.set_cons_succ, i64_w, i32_w]
    rfl
  refine pure_ (i := 3) (N := (some 138)) (v := ?_) (a' := ?_) #[true, true, true, true, false, false, false, false, false, false, false, false, false, false, false, false, false, false, false, false, false, false, false, false, false, false, false, false, false, false, false, false, false, false, false, false, false, false, false, false, false, false, false, false, false, false, false, false, false, false, false, false, false, false, false, false, false, false, false, false, false, false, false, false, false, false, false, false, false, false, false, false, false, false, false, false, false, false] rfl rfl (any_of HT_.out (by kernel_rfl)) (fun _ _ _ h => h) (Or.inl ⟨by rfl, ?_⟩) ?_ ?_
  rotate_left
  · intro w'
    go_simp
    with_reducible rfl
  rotate_left
  · simp only [Act.put, List.setIfInBounds_toArray, List.set_cons_zero, List.set_cons_succ, i64_w, i32_w]
    rfl
  refine pure_ (i := 4) (N := (some 139)) (v := ?_) (a' := ?_) #[true, true, true, true, true, false, false, false, false, false, false, false, false, false, false, false, false, false, false, false, false, false, false, false, false, false, false, false, false, false, false, false, false, false, false, false, false, false, false, false, false, false, false, false, false, false, false, false, false, false, false, false, false, false, false, false, false, false, false, false, false, false, false, false, false, false, false, false, false, false, false, false, false, false, false, false, false, false] rfl rfl (any_of HT_.out (by kernel_rfl)) (fun _ _ _ h => h) (Or.inl ⟨by rfl, ?_⟩) ?_ ?_
  rotate_left
  · intro w'
    go_simp
    with_reducible rfl
  rotate_left
  · simp only [Act.put, List.setIfInBounds_toArray, List.set_cons_zero, List.set_cons_succ, i64_w, i32_w]
    rfl
  refine pure_ (i := 5) (N := (some 140)) (v := ?_) (a' := ?_) #[true, true, true, true, true, true, false, false, false, false, false, false, false, false, false, false, false, false, false, false, false, false, false, false, false, false, false, false, false, false, false, false, false, false, false, false, false, false, false, false, false, false, false, false, false, false, false, false, false, false, false, false, false, false, false, false, false, false, false, false, false, false, false, false, false, false, false, false, false, false, false, false, false, false, false, false, false, false] rfl rfl (any_of HT_.out (by kernel_rfl)) (fun _ _ _ h => h) (Or.inl ⟨by rfl, ?_⟩) ?_ ?_
  rotate_left
  · intro w'
    go_simp
    with_reducible rfl
  rotate_left
  · simp only [Act.put, List.setIfInBounds_toArray, List.set_cons_zero, List.set_cons_succ, i64_w, i32_w]
    rfl
  refine pure_ (i := 6) (N := (some 141)) (v := ?_) (a' := ?_) #[true, true, true, true, true, true, true, false, false, false, false, false, false, false, false, false, false, false, false, false, false, false, false, false, false, false, false, false, false, false, false, false, false, false, false, false, false, false, false, false, false, false, false, false, false, false, false, false, false, false, false, false, false, false, false, false, false, false, false, false, false, false, false, false, false, false, false, false, false, false, false, false, false, false, false, false, false, false] rfl rfl (any_of HT_.out (by kernel_rfl)) (fun _ _ _ h => h) (Or.inl ⟨by rfl, ?_⟩) ?_ ?_
  rotate_left
  · intro w'
    go_simp
    with_reducible rfl
  rotate_left
  · simp only [Act.put, List.setIfInBounds_toArray, List.set_cons_zero, List.set_cons_succ, i64_w, i32_w]
    rfl
  refine pure_ (i := 7) (N := (some 142)) (v := ?_) (a' := ?_) #[true, true, true, true, true, true, true, true, false, false, false, false, false, false, false, false, false, false, false, false, false, false, false, false, false, false, false, false, false, false, false, false, false, false, false, false, false, false, false, false, false, false, false, false, false, false, false, false, false, false, false, false, false, false, false, false, false, false, false, false, false, false, false, false, false, false, false, false, false, false, false, false, false, false, false, false, false, false] rfl rfl (any_of HT_.out (by kernel_rfl)) (fun _ _ _ h => h) (Or.inl ⟨by rfl, ?_⟩) ?_ ?_
  rotate_left
  · intro w'
    go_simp
    with_reducible rfl
  rotate_left
  · simp only [Act.put, List.setIfInBounds_toArray, List.set_cons_zero, List.set_cons_succ, i64_w, i32_w]
    rfl
  refine pure_ (i := 8) (N := (some 143)) (v := ?_) (a' := ?_) #[true, true, true, true, true, true, true, true, true, false, false, false, false, false, false, false, false, false, false, false, false, false, false, false, false, false, false, false, false, false, false, false, false, false, false, false, false, false, false, false, false, false, false, false, false, false, false, false, false, false, false, false, false, false, false, false, false, false, false, false, false, false, false, false, false, false, false, false, false, false, false, false, false, false, false, false, false, false] rfl rfl (any_of HT_.out (by kernel_rfl)) (fun _ _ _ h => h) (Or.inl ⟨by rfl, ?_⟩) ?_ ?_
  rotate_left
  · intro w'
    go_simp
    with_reducible rfl
  rotate_left
  · simp only [Act.put, List.setIfInBounds_toArray, List.set_cons_zero, List.set_cons_succ, i64_w, i32_w]
    rfl
  refine pure_ (i := 9) (N := (some 144)) (v := ?_) (a' := ?_) #[true, true, true, true, true, true, true, true, true, true, false, false, false, false, false, false, false, false, false, false, false, false, false, false, false, false, false, false, false, false, false, false, false, false, false, false, false, false, false, false, false, false, false, false, false, false, false, false, false, false, false, false, false, false, false, false, false, false, false, false, false, false, false, false, false, false, false, false, false, false, false, false, false, false, false, false, false, false] rfl rfl (any_of HT_.out (by kernel_rfl)) (fun _ _ _ h => h) (Or.inl ⟨by rfl, ?_⟩) ?_ ?_
  rotate_left
  · intro w'
    go_simp
    with_reducible rfl
  rotate_left
  · simp only [Act.put, List.setIfInBounds_toArray, List.set_cons_zero, List.set_cons_succ, i64_w, i32_w]
    rfl
  refine pure_ (i := 10) (N := (some 145)) (v := ?_) (a' := ?_) #[true, true, true, true, true, true, true, true, true, true, true, false, false, false, false, false, false, false, false, false, false, false, false, false, false, false, false, false, false, false, false, false, false, false, false, false, false, false, false, false, false, false, false, false, false, false, false, false, false, false, false, false, false, false, false, false, false, false, false, false, false, false, false, false, false, false, false, false, false, false, false, false, false, false, false, false, false, false] rfl rfl (any_of HT_.out (by kernel_rfl)) (fun _ _ _ h => h) (Or.inl ⟨by rfl, ?_⟩) ?_ ?_
  rotate_left
  · intro w'
    go_simp
    with_reducible rfl
  rotate_left
  · simp only [Act.put, List.setIfInBounds_toArray, List.set_cons_zero, List.set_cons_succ, i64_w, i32_w]
    rfl
  refine pure_ (i := 11) (N := (some 146)) (v := ?_) (a' := ?_) #[true, true, true, true, true, true, true, true, true, true, true, true, false, false, false, false, false, false, false, false, false, false, false, false, false, false, false, false, false, false, false, false, false, false, false, false, false, false, false, false, false, false, false, false, false, false, false, false, false, false, false, false, false, false, false, false, false, false, false, false, false, false, false, false, false, false, false, false, false, false, false, false, false, false, false, false, false, false] rfl rfl (any_of HT_.out (by kernel_rfl)) (fun _ _ _ h => h) (Or.inl ⟨by rfl, ?_⟩) ?_ ?_
  rotate_left
  · intro w'
    go_simp
    with_reducible rfl
  rotate_left
  · simp only [Act.put, List.setIfInBounds_toArray, List.set_cons_zero, List.set_cons_succ, i64_w, i32_w]
    rfl
  refine pure_ (i := 12) (N := (some 147)) (v := ?_) (a' := ?_) #[true, true, true, true, true, true, true, true, true, true, true, true, true, false, false, false, false, false, false, false, false, false, false, false, false, false, false, false, false, false, false, false, false, false, false, false, false, false, false, false, false, false, false, false, false, false, false, false, false, false, false, false, false, false, false, false, false, false, false, false, false, false, false, false, false, false, false, false, false, false, false, false, false, false, false, false, false, false] rfl rfl (any_of HT_.out (by kernel_rfl)) (fun _ _ _ h => h) (Or.inl ⟨by rfl, ?_⟩) ?_ ?_
  rotate_left
  · intro w'
    go_simp
    with_reducible rfl
  rotate_left
  · simp only [Act.put, List.setIfInBounds_toArray, List.set_cons_zero, List.set_cons_succ, i64_w, i32_w]
    rfl
  refine pure_ (i := 13) (N := (some 148)) (v := ?_) (a' := ?_) #[true, true, true, true, true, true, true, true, true, true, true, true, true, true, false, false, false, false, false, false, false, false, false, false, false, false, false, false, false, false, false, false, false, false, false, false, false, false, false, false, false, false, false, false, false, false, false, false, false, false, false, false, false, false, false, false, false, false, false, false, false, false, false, false, false, false, false, false, false, false, false, false, false, false, false, false, false, false] rfl rfl (any_of HT_.out (by kernel_rfl)) (fun _ _ _ h => h) (Or.inl ⟨by rfl, ?_⟩) ?_ ?_
  rotate_left
  · intro w'
    go_simp
    with_reducible rfl
  rotate_left
  · simp only [Act.put, List.setIfInBounds_toArray, List.set_cons_zero, List.set_cons_succ, i64_w, i32_w]
    rfl
  refine pure_ (i := 14) (N := (some 149)) (v := ?_) (a' := ?_) #[true, true, true, true, true, true, true, true, true, true, true, true, true, true, true, false, false, false, false, false, false, false, false, false, false, false, false, false, false, false, false, false, false, false, false, false, false, false, false, false, false, false, false, false, false, false, false, false, false, false, false, false, false, false, false, false, false, false, false, false, false, false, false, false, false, false, false, false, false, false, false, false, false, false, false, false, false, false] rfl rfl (any_of HT_.out (by kernel_rfl)) (fun _ _ _ h => h) (Or.inl ⟨by rfl, ?_⟩) ?_ ?_
  rotate_left
  · intro w'
    go_simp
    with_reducible rfl
  rotate_left
  · simp only [Act.put, List.setIfInBounds_toArray, List.set_cons_zero, List.set_cons_succ, i64_w, i32_w]
    rfl
  refine pure_ (i := 15) (N := (some 150)) (v := ?_) (a' := ?_) #[true, true, true, true, true, true, true, true, true, true, true, true, true, true, true, true, false, false, false, false, false, false, false, false, false, false, false, false, false, false, false, false, false, false, false, false, false, false, false, false, false, false, false, false, false, false, false, false, false, false, false, false, false, false, false, false, false, false, false, false, false, false, false, false, false, false, false, false, false, false, false, false, false, false, false, false, false, false] rfl rfl (any_of HT_.out (by kernel_rfl)) (fun _ _ _ h => h) (Or.inl ⟨by rfl, ?_⟩) ?_ ?_
  rotate_left
  · intro w'
    go_simp
    with_reducible rfl
  rotate_left
  · simp only [Act.put, List.setIfInBounds_toArray, List.set_cons_zero, List.set_cons_succ, i64_w, i32_w]
    rfl
  refine pure_ (i := 16) (N := (some 151)) (v := ?_) (a' := ?_) #[true, true, true, true, true, true, true, true, true, true, true, true, true, true, true, true, true, false, false, false, false, false, false, false, false, false, false, false, false, false, false, false, false, false, false, false, false, false, false, false, false, false, false, false, false, false, false, false, false, false, false, false, false, false, false, false, false, false, false, false, false, false, false, false, false, false, false, false, false, false, false, false, false, false, false, false, false, false] rfl rfl (any_of HT_.out (by kernel_rfl)) (fun _ _ _ h => h) (Or.inl ⟨by rfl, ?_⟩) ?_ ?_
  rotate_left
  · intro w'
    go_simp
    with_reducible rfl
  rotate_left
  · simp only [Act.put, List.setIfInBounds_toArray, List.set_cons_zero, List.set_cons_succ, i64_w, i32_w]
    rfl
  refine pure_ (i := 18) (N := (some 153)) (v := ?_) (a' := ?_) #[true, true, true, true, true, true, true, true, true, true, true, true, true, true, true, true, true, false, true, false, false, false, false, false, false, false, false, false, false, false, false, false, false, false, false, false, false, false, false, false, false, false, false, false, false, false, false, false, false, false, false, false, false, false, false, false, false, false, false, false, false, false, false, false, false, false, false, false, false, false, false, false, false, false, false, false, false, false] rfl rfl (any_of HT_.out (by kernel_rfl)) (fun _ _ _ h => h) (Or.inl ⟨by rfl, ?_⟩) ?_ ?_
  rotate_left
  · intro w'
    go_simp
    with_reducible rfl
  rotate_left
  · simp only [Act.put, List.setIfInBounds_toArray, List.set_cons_zero, List.set_cons_succ, i64_w, i32_w]
    rfl
  refine pure_ (i := 19) (N := (some 154)) (v := ?_) (a' := ?_) #[true, true, true, true, true, true, true, true, true, true, true, true, true, true, true, true, true, false, true, true, false, false, false, false, false, false, false, false, false, false, false, false, false, false, false, false, false, false, false, false, false, false, false, false, false, false, false, false, false, false, false, false, false, false, false, false, false, false, false, false, false, false, false, false, false, false, false, false, false, false, false, false, false, false, false, false, false, false] rfl rfl (any_of HT_.out (by kernel_rfl)) (fun _ _ _ h => h) (Or.inl ⟨by rfl, ?_⟩) ?_ ?_
  rotate_left
  · intro w'
    go_simp
    with_reducible rfl
  rotate_left
  · simp only [Act.put, List.setIfInBounds_toArray, List.set_cons_zero, List.set_cons_succ, i64_w, i32_w]
    rfl
  refine pure_ (i := 20) (N := (some 155)) (v := ?_) (a' := ?_) #[true, true, true, true, true, true, true, true, true, true, true, true, true, true, true, true, true, false, true, true, true, false, false, false, false, false, false, false, false, false, false, false, false, false, false, false, false, false, false, false, false, false, false, false, false, false, false, false, false, false, false, false, false, false, false, false, false, false, false, false, false, false, false, false, false, false, false, false, false, false, false, false, false, false, false, false, false, false] rfl rfl (any_of HT_.out (by kernel_rfl)) (fun _ _ _ h => h) (Or.inl ⟨by rfl, ?_⟩) ?_ ?_
  rotate_left
  · intro w'
    go_simp
    with_reducible rfl
  rotate_left
  · simp only [Act.put, List.setIfInBounds_toArray, List.set_cons_zero, List.set_cons_succ, i64_w, i32_w]
    rfl
  refine take_ (i := 17) (N := (some 152)) (v := ?_) (a' := ?_) #[true, true, true, true, true, true, true, true, true, true, true, true, true, true, true, true, true, true, true, true, true, false, false, false, false, false, false, false, false, false, false, false, false, false, false, false, false, false, false, false, false, false, false, false, false, false, false, false, false, false, false, false, false, false, false, false, false, false, false, false, false, false, false, false, false, false, false, false, false, false, false, false, false, false, false, false, false, false] rfl rfl (take_ofW HT_.out HW_.out (by kernel_rfl)) (fun _ _ _ h => h) (Or.inl ⟨by rfl, ?_⟩) hHeld ?_ ?_
  rotate_left
  · intro w' hS_
    obtain ⟨x0_, x1_, x2_, x3_⟩ := XI.out.below (hS_.c.hb)
    go_simp
    with_reducible rfl
  rotate_left
  · simp only [Act.put, List.setIfInBounds_toArray, List.set_cons_zero, List.set_cons_succ, i64_w, i32_w]
    rfl
  refine take_ (i := 21) (N := (some 156)) (v := ?_) (a' := ?_) #[true, true, true, true, true, true, true, true, true, true, true, true, true, true, true, true, true, true, true, true, true, true, false, false, false, false, false, false, false, false, false, false, false, false, false, false, false, false, false, false, false, false, false, false, false, false, false, false, false, false, false, false, false, false, false, false, false, false, false, false, false, false, false, false, false, false, false, false, false, false, false, false, false, false, false, false, false, false] rfl rfl (take_ofW HT_.out HW_.out (by kernel_rfl)) (fun _ _ _ h => h) (Or.inl ⟨by rfl, ?_⟩) hHeld ?_ ?_
  rotate_left
  · intro w' hS_
    obtain ⟨x0_, x1_, x2_, x3_⟩ := XK.out.below (hS_.c.hb)
    go_simp
    with_reducible rfl
  rotate_left
  · simp only [Act.put, List.setIfInBounds_toArray, List.set_cons_zero, List.set_cons_succ, i64_w, i32_w]
    rfl
  refine pure_ (i := 22) (N := (some 157)) (v := ?_) (a' := ?_) #[true, true, true, true, true, true, true, true, true, true, true, true, true, true, true, true, true, true, true, true, true, true, true, false, false, false, false, false, false, false, false, false, false, false, false, false, false, false, false, false, false, false, false, false, false, false, false, false, false, false, false, false, false, false, false, false, false, false, false, false, false, false, false, false, false, false, false, false, false, false, false, false, false, false, false, false, false, false] rfl rfl (any_of HT_.out (by kernel_rfl)) (fun _ _ _ h => h) (Or.inl ⟨by rfl, ?_⟩) ?_ ?_
  rotate_left
  · intro w'
    go_simp
    with_reducible rfl
  rotate_left
  · simp only [Act.put, List.setIfInBounds_toArray, List.set_cons_zero, List.set_cons_succ, i64_w, i32_w]
    rfl
  refine pure_ (i := 23) (N := (some 158)) (v := ?_) (a' := ?_) #[true, true, true, true, true, true, true, true, true, true, true, true, true, true, true, true, true, true, true, true, true, true, true, true, false, false, false, false, false, false, false, false, false, false, false, false, false, false, false, false, false, false, false, false, false, false, false, false, false, false, false, false, false, false, false, false, false, false, false, false, false, false, false, false, false, false, false, false, false, false, false, false, false, false, false, false, false, false] rfl rfl (any_of HT_.out (by kernel_rfl)) (fun _ _ _ h => h) (Or.inl ⟨by rfl, ?_⟩) ?_ ?_
  rotate_left
  · intro w'
    go_simp
    with_reducible rfl
  rotate_left
  · simp only [Act.put, List.setIfInBounds_toArray, List.set_cons_zero, List.set_cons_succ, i64_w, i32_w]
    rfl
  refine pure_ (i := 24) (N := (some 159)) (v := ?_) (a' := ?_) #[true, true, true, true, true, true, true, true, true, true, true, true, true, true, true, true, true, true, true, true, true, true, true, true, true, false, false, false, false, false, false, false, false, false, false, false, false, false, false, false, false, false, false, false, false, false, false, false, false, false, false, false, false, false, false, false, false, false, false, false, false, false, false, false, false, false, false, false, false, false, false, false, false, false, false, false, false, false] rfl rfl (any_of HT_.out (by kernel_rfl)) (fun _ _ _ h => h) (Or.inl ⟨by rfl, ?_⟩) ?_ ?_
  rotate_left
  · intro w'
    go_simp
    with_reducible rfl
  rotate_left
  · simp only [Act.put, List.setIfInBounds_toArray, List.set_cons_zero, List.set_cons_succ, i64_w, i32_w]
    rfl
  refine pure_ (i := 25) (N := (some 160)) (v := ?_) (a' := ?_) #[true, true, true, true, true, true, true, true, true, true, true, true, true, true, true, true, true, true, true, true, true, true, true, true, true, true, false, false, false, false, false, false, false, false, false, false, false, false, false, false, false, false, false, false, false, false, false, false, false, false, false, false, false, false, false, false, false, false, false, false, false, false, false, false, false, false, false, false, false, false, false, false, false, false, false, false, false, false] rfl rfl (any_of HT_.out (by kernel_rfl)) (fun _ _ _ h => h) (Or.inl ⟨by rfl, ?_⟩) ?_ ?_
  rotate_left
  · intro w'
    go_simp
    with_reducible rfl
  rotate_left
  · simp only [Act.put, List.setIfInBounds_toArray, List.set_cons_zero, List.set_cons_succ, i64_w, i32_w]
    rfl
  refine pure_ (i := 29) (N := (some 164)) (v := ?_) (a' := ?_) #[true, true, true, true, true, true, true, true, true, true, true, true, true, true, true, true, true, true, true, true, true, true, true, true, true, true, false, false, false, true, false, false, false, false, false, false, false, false, false, false, false, false, false, false, false, false, false, false, false, false, false, false, false, false, false, false, false, false, false, false, false, false, false, false, false, false, false, false, false, false, false, false, false, false, false, false, false, false] rfl rfl (any_of HT_.out (by kernel_rfl)) (fun _ _ _ h => h) (Or.inl ⟨by rfl, ?_⟩) ?_ ?_
  rotate_left
  · intro w'
    go_simp
    with_reducible rfl
  rotate_left
  · simp only [Act.put, List.setIfInBounds_toArray, List.set_cons_zero, List.set_cons_succ, i64_w, i32_w]
    rfl
  refine pure_ (i := 30) (N := (some 165)) (v := ?_) (a' := ?_) #[true, true, true, true, true, true, true, true, true, true, true, true, true, true, true, true, true, true, true, true, true, true, true, true, true, true, false, false, false, true, true, false, false, false, false, false, false, false, false, false, false, false, false, false, false, false, false, false, false, false, false, false, false, false, false, false, false, false, false, false, false, false, false, false, false, false, false, false, false, false, false, false, false, false, false, false, false, false] rfl rfl (any_of HT_.out (by kernel_rfl)) (fun _ _ _ h => h) (Or.inl ⟨by rfl, ?_⟩) ?_ ?_
  rotate_left
  · intro w'
    go_simp
    with_reducible rfl
  rotate_left
  · simp only [Act.put, List.setIfInBounds_toArray, List.set_cons_zero, List.set_cons_succ, i64_w, i32_w]
    rfl
  refine pure_ (i := 31) (N := (some 166)) (v := ?_) (a' := ?_) #[true, true, true, true, true, true, true, true, true, true, true, true, true, true, true, true, true, true, true, true, true, true, true, true, true, true, false, false, false, true, true, true, false, false, false, false, false, false, false, false, false, false, false, false, false, false, false, false, false, false, false, false, false, false, false, false, false, false, false, false, false, false, false, false, false, false, false, false, false, false, false, false, false, false, false, false, false, false] rfl rfl (any_of HT_.out (by kernel_rfl)) (fun _ _ _ h => h) (Or.inl ⟨by rfl, ?_⟩) ?_ ?_
  rotate_left
  · intro w'
    go_simp
    with_reducible rfl
  rotate_left
  · simp only [Act.put, List.setIfInBounds_toArray, List.set_cons_zero, List.set_cons_succ, i64_w, i32_w]
    rfl
  refine pure_ (i := 33) (N := (some 168)) (v := ?_) (a' := ?_) #[true, true, true, true, true, true, true, true, true, true, true, true, true, true, true, true, true, true, true, true, true, true, true, true, true, true, false, false, false, true, true, true, false, true, false, false, false, false, false, false, false, false, false, false, false, false, false, false, false, false, false, false, false, false, false, false, false, false, false, false, false, false, false, false, false, false, false, false, false, false, false, false, false, false, false, false, false, false] rfl rfl (any_of HT_.out (by kernel_rfl)) (fun _ _ _ h => h) (Or.inl ⟨by rfl, ?_⟩) ?_ ?_
  rotate_left
  · intro w'
    go_simp
    with_reducible rfl
  rotate_left
  · simp only [Act.put, List.setIfInBounds_toArray, List.set_cons_zero, List.set_cons_succ, i64_w, i32_w]
    rfl
  refine pure_ (i := 34) (N := (some 169)) (v := ?_) (a' := ?_) #[true, true, true, true, true, true, true, true, true, true, true, true, true, true, true, true, true, true, true, true, true, true, true, true, true, true, false, false, false, true, true, true, false, true, true, false, false, false, false, false, false, false, false, false, false, false, false, false, false, false, false, false, false, false, false, false, false, false, false, false, false, false, false, false, false, false, false, false, false, false, false, false, false, false, false, false, false, false] rfl rfl (any_of HT_.out (by kernel_rfl)) (fun _ _ _ h => h) (Or.inl ⟨by rfl, ?_⟩) ?_ ?_
  rotate_left
  · intro w'
    go_simp
    with_reducible rfl
  rotate_left
  · simp only [Act.put, List.setIfInBounds_toArray, List.set_cons_zero, List.set_cons_succ, i64_w, i32_w]
    rfl
  refine pure_ (i := 35) (N := (some 170)) (v := ?_) (a' := ?_) #[true, true, true, true, true, true, true, true, true, true, true, true, true, true, true, true, true, true, true, true, true, true, true, true, true, true, false, false, false, true, true, true, false, true, true, true, false, false, false, false, false, false, false, false, false, false, false, false, false, false, false, false, false, false, false, false, false, false, false, false, false, false, false, false, false, false, false, false, false, false, false, false, false, false, false, false, false, false] rfl rfl (any_of HT_.out (by kernel_rfl)) (fun _ _ _ h => h) (Or.inl ⟨by rfl, ?_⟩) ?_ ?_
  rotate_left
  · intro w'
    go_simp
    with_reducible rfl
  rotate_left
  · simp only [Act.put, List.setIfInBounds_toArray, List.set_cons_zero, List.set_cons_succ, i64_w, i32_w]
    rfl
  refine take_ (i := 26) (N := (some 161)) (v := ?_) (a' := ?_) #[true, true, true, true, true, true, true, true, true, true, true, true, true, true, true, true, true, true, true, true, true, true, true, true, true, true, true, false, false, true, true, true, false, true, true, true, false, false, false, false, false, false, false, false, false, false, false, false, false, false, false, false, false, false, false, false, false, false, false, false, false, false, false, false, false, false, false, false, false, false, false, false, false, false, false, false, false, false] rfl rfl (take_ofW HT_.out HW_.out (by kernel_rfl)) (fun _ _ _ h => h) (Or.inl ⟨by rfl, ?_⟩) hHeld ?_ ?_
  rotate_left
  · intro w' hS_
    obtain ⟨y0_, y1_, y2_, y3_, y4_, y5_, y6_, y7_⟩ := cells8c hS_.c.k7
    go_simp
    with_reducible rfl
  rotate_left
  · simp only [Act.put, List.setIfInBounds_toArray, List.set_cons_zero, List.set_cons_succ, i64_w, i32_w]
    rfl
  refine take_ (i := 27) (N := (some 162)) (v := ?_) (a' := ?_) #[true, true, true, true, true, true, true, true, true, true, true, true, true, true, true, true, true, true, true, true, true, true, true, true, true, true, true, true, false, true, true, true, false, true, true, true, false, false, false, false, false, false, false, false, false, false, false, false, false, false, false, false, false, false, false, false, false, false, false, false, false, false, false, false, false, false, false, false, false, false, false, false, false, false, false, false, false, false] rfl rfl (take_ofW HT_.out HW_.out (by kernel_rfl)) (fun _ _ _ h => h) (Or.inl ⟨by rfl, ?_⟩) hHeld ?_ ?_
  rotate_left
  · intro w' hS_
    obtain ⟨y0_, y1_, y2_, y3_, y4_, y5_, y6_, y7_⟩ := cells8c hS_.c.k11
    go_simp
    with_reducible rfl
  rotate_left
  · simp only [Act.put, List.setIfInBounds_toArray, List.set_cons_zero, List.set_cons_succ, i64_w, i32_w]
    rfl
  refine take_ (i := 32) (N := (some 167)) (v := ?_) (a' := ?_) #[true, true, true, true, true, true, true, true, true, true, true, true, true, true, true, true, true, true, true, true, true, true, true, true, true, true, true, true, false, true, true, true, true, true, true, true, false, false, false, false, false, false, false, false, false, false, false, false, false, false, false, false, false, false, false, false, false, false, false, false, false, false, false, false, false, false, false, false, false, false, false, false, false, false, false, false, false, false] rfl rfl (take_ofW HT_.out HW_.out (by kernel_rfl)) (fun _ _ _ h => h) (Or.inl ⟨by rfl, ?_⟩) hHeld ?_ ?_
  rotate_left
  · intro w' hS_
    obtain ⟨x0_, x1_, x2_, x3_⟩ := XI.out.below (hS_.c.hb)
    go_simp
    with_reducible rfl
  rotate_left
  · simp only [Act.put, List.setIfInBounds_toArray, List.set_cons_zero, List.set_cons_succ, i64_w, i32_w]
    rfl
  refine take_ (i := 36) (N := (some 171)) (v := ?_) (a' := ?_) #[true, true, true, true, true, true, true, true, true, true, true, true, true, true, true, true, true, true, true, true, true, true, true, true, true, true, true, true, false, true, true, true, true, true, true, true, true, false, false, false, false, false, false, false, false, false, false, false, false, false, false, false, false, false, false, false, false, false, false, false, false, false, false, false, false, false, false, false, false, false, false, false, false, false, false, false, false, false] rfl rfl (take_ofW HT_.out HW_.out (by kernel_rfl)) (fun _ _ _ h => h) (Or.inl ⟨by rfl, ?_⟩) hHeld ?_ ?_
  rotate_left
  · intro w' hS_
    obtain ⟨x0_, x1_, x2_, x3_⟩ := XK.out.below (hS_.c.hb)
    go_simp
    with_reducible rfl
  rotate_left
  · simp only [Act.put, List.setIfInBounds_toArray, List.set_cons_zero, List.set_cons_succ, i64_w, i32_w]
    rfl
  refine pure_ (i := 37) (N := (some 172)) (v := ?_) (a' := ?_) #[true, true, true, true, true, true, true, true, true, true, true, true, true, true, true, true, true, true, true, true, true, true, true, true, true, true, true, true, false, true, true, true, true, true, true, true, true, true, false, false, false, false, false, false, false, false, false, false, false, false, false, false, false, false, false, false, false, false, false, false, false, false, false, false, false, false, false, false, false, false, false, false, false, false, false, false, false, false] rfl rfl (any_of HT_.out (by kernel_rfl)) (fun _ _ _ h => h) (Or.inl ⟨by rfl, ?_⟩) ?_ ?_
  rotate_left
  · intro w'
    go_simp
    with_reducible rfl
  rotate_left
  · simp only [Act.put, List.setIfInBounds_toArray, List.set_cons_zero, List.set_cons_succ, i64_w, i32_w]
    rfl
  refine one_ (i := 28) (N := (some 163)) #[true, true, true, true, true, true, true, true, true, true, true, true, true, true, true, true, true, true, true, true, true, true, true, true, true, true, true, true, true, true, true, true, true, true, true, true, true, true, false, false, false, false, false, false, false, false, false, false, false, false, false, false, false, false, false, false, false, false, false, false, false, false, false, false, false, false, false, false, false, false, false, false, false, false, false, false, false, false] rfl rfl (one_of HT_.out (by kernel_rfl)) (by decide) (fun K hK => ?_)
  refine goes_ Tryd.func43 (by kernel_rfl) rfl #[.agg #[.int .i64 6, .int .u32 0, .int .u32 0, .int .u32 0, .int .u32 0, .slice none 0 0, .slice (some ad0) l0.length c0, .int .i64 0], .agg #[.int .i64 6, .int .u32 0, .int .u32 0, .int .u32 0, .int .u32 0, .slice none 0 0, .slice (some ⟨gC, 0, none⟩) l0.length cC, .int .i64 0]] (by rfl) rfl rfl (by (try simp only [List.map_toArray, List.map_cons, List.map_nil]); first | done | rfl) ?_
  refine (KAC.out _ hHeld).mono ?_
  rintro e w30 ⟨rfl, hb⟩
  refine ⟨_, rfl, ?_⟩
  refine hK.out _ _ (hHeld.below hb) (fun hHeld => ?_)
  clear hK K
  refine norm_ (a' := ?_) ?_ ?_
  rotate_left
  · show Act.put _ (some 163) _ = _
    simp only [Act.put, List.setIfInBounds_toArray, List.set_cons_zero, List.set_cons_succ, i64_w, i32_w]
    rfl
  refine pure_ (i := 38) (N := (some 173)) (v := ?_) (a' := ?_) #[true, true, true, true, true, true, true, true, true, true, true, true, true, true, true, true, true, true, true, true, true, true, true, true, true, true, true, true, true, true, true, true, true, true, true, true, true, true, true, false, false, false, false, false, false, false, false, false, false, false, false, false, false, false, false, false, false, false, false, false, false, false, false, false, false, false, false, false, false, false, false, false, false, false, false, false, false, false] rfl rfl (any_of HT_.out (by kernel_rfl)) (fun _ _ _ h => h) (Or.inl ⟨by rfl, ?_⟩) ?_ ?_
  rotate_left
  · intro w'
    go_simp
    with_reducible rfl
  rotate_left
  · simp only [Act.put, List.setIfInBounds_toArray, List.set_cons_zero, List.set_cons_succ, i64_w, i32_w]
    rfl
  refine pure_ (i := 39) (N := (some 174)) (v := ?_) (a' := ?_) #[true, true, true, true, true, true, true, true, true, true, true, true, true, true, true, true, true, true, true, true, true, true, true, true, true, true, true, true, true, true, true, true, true, true, true, true, true, true, true, true, false, false, false, false, false, false, false, false, false, false, false, false, false, false, false, false, false, false, false, false, false, false, false, false, false, false, false, false, false, false, false, false, false, false, false, false, false, false] rfl rfl (any_of HT_.out (by kernel_rfl)) (fun _ _ _ h => h) (Or.inl ⟨by rfl, ?_⟩) ?_ ?_
  rotate_left
  · intro w'
    go_simp
    with_reducible rfl
  rotate_left
  · simp only [Act.put, List.setIfInBounds_toArray, List.set_cons_zero, List.set_cons_succ, i64_w, i32_w]
    rfl
  refine pure_ (i := 40) (N := (some 175)) (v := ?_) (a' := ?_) #[true, true, true, true, true, true, true, true, true, true, true, true, true, true, true, true, true, true, true, true, true, true, true, true, true, true, true, true, true, true, true, true, true, true, true, true, true, true, true, true, true, false, false, false, false, false, false, false, false, false, false, false, false, false, false, false, false, false, false, false, false, false, false, false, false, false, false, false, false, false, false, false, false, false, false, false, false, false] rfl rfl (any_of HT_.out (by kernel_rfl)) (fun _ _ _ h => h) (Or.inl ⟨by rfl, ?_⟩) ?_ ?_
  rotate_left
  · intro w'
    go_simp
    with_reducible rfl
  rotate_left
  · simp only [Act.put, List.setIfInBounds_toArray, List.set_cons_zero, List.set_cons_succ, i64_w, i32_w]
    rfl
  refine pure_ (i := 41) (N := (some 176)) (v := ?_) (a' := ?_) #[true, true, true, true, true, true, true, true, true, true, true, true, true, true, true, true, true, true, true, true, true, true, true, true, true, true, true, true, true, true, true, true, true, true, true, true, true, true, true, true, true, true, false, false, false, false, false, false, false, false, false, false, false, false, false, false, false, false, false, false, false, false, false, false, false, false, false, false, false, false, false, false, false, false, false, false, false, false] rfl rfl (any_of HT_.out (by kernel_rfl)) (fun _ _ _ h => h) (Or.inl ⟨by rfl, ?_⟩) ?_ ?_
  rotate_left
  · intro w'
    go_simp
    with_reducible rfl
  rotate_left
  · simp only [Act.put, List.setIfInBounds_toArray, List.set_cons_zero, List.set_cons_succ, i64_w, i32_w]
    rfl
  refine pure_ (i := 42) (N := (some 177)) (v := ?_) (a' := ?_) #[true, true, true, true, true, true, true, true, true, true, true, true, true, true, true, true, true, true, true, true, true, true, true, true, true, true, true, true, true, true, true, true, true, true, true, true, true, true, true, true, true, true, true, false, false, false, false, false, false, false, false, false, false, false, false, false, false, false, false, false, false, false, false, false, false, false, false, false, false, false, false, false, false, false, false, false, false, false] rfl rfl (any_of HT_.out (by kernel_rfl)) (fun _ _ _ h => h) (Or.inl ⟨by rfl, ?_⟩) ?_ ?_
  rotate_left
  · intro w'
    go_simp
    with_reducible rfl
  rotate_left
  · simp only [Act.put, List.setIfInBounds_toArray, List.set_cons_zero, List.set_cons_succ, i64_w, i32_w]
    rfl
  refine pure_ (i := 43) (N := (some 178)) (v := ?_) (a' := ?_) #[true, true, true, true, true, true, true, true, true, true, true, true, true, true, true, true, true, true, true, true, true, true, true, true, true, true, true, true, true, true, true, true, true, true, true, true, true, true, true, true, true, true, true, true, false, false, false, false, false, false, false, false, false, false, false, false, false, false, false, false, false, false, false, false, false, false, false, false, false, false, false, false, false, false, false, false, false, false] rfl rfl (any_of HT_.out (by kernel_rfl)) (fun _ _ _ h => h) (Or.inl ⟨by rfl, ?_⟩) ?_ ?_
  rotate_left
  · intro w'
    go_simp
    with_reducible rfl
  rotate_left
  · simp only [Act.put, List.setIfInBounds_toArray, List.set_cons_zero, List.set_cons_succ, i64_w, i32_w]
    rfl
  refine pure_ (i := 44) (N := (some 179)) (v := ?_) (a' := ?_) #[true, true, true, true, true, true, true, true, true, true, true, true, true, true, true, true, true, true, true, true, true, true, true, true, true, true, true, true, true, true, true, true, true, true, true, true, true, true, true, true, true, true, true, true, true, false, false, false, false, false, false, false, false, false, false, false, false, false, false, false, false, false, false, false, false, false, false, false, false, false, false, false, false, false, false, false, false, false] rfl rfl (any_of HT_.out (by kernel_rfl)) (fun _ _ _ h => h) (Or.inl ⟨by rfl, ?_⟩) ?_ ?_
  rotate_left
  · intro w'
    go_simp
    with_reducible rfl
  rotate_left
  · simp only [Act.put, List.setIfInBounds_toArray, List.set_cons_zero, List.set_cons_succ, i64_w, i32_w]
    rfl
  refine pure_ (i := 45) (N := (some 180)) (v := ?_) (a' := ?_) #[true, true, true, true, true, true, true, true, true, true, true, true, true, true, true, true, true, true, true, true, true, true, true, true, true, true, true, true, true, true, true, true, true, true, true, true, true, true, true, true, true, true, true, true, true, true, false, false, false, false, false, false, false, false, false, false, false, false, false, false, false, false, false, false, false, false, false, false, false, false, false, false, false, false, false, false, false, false] rfl rfl (any_of HT_.out (by kernel_rfl)) (fun _ _ _ h => h) (Or.inl ⟨by rfl, ?_⟩) ?_ ?_
  rotate_left
  · intro w'
    go_simp
    with_reducible rfl
  rotate_left
  · simp only [Act.put, List.setIfInBounds_toArray, List.set_cons_zero, List.set_cons_succ, i64_w, i32_w]
    rfl
  refine pure_ (i := 46) (N := (some 181)) (v := ?_) (a' := ?_) #[true, true, true, true, true, true, true, true, true, true, true, true, true, true, true, true, true, true, true, true, true, true, true, true, true, true, true, true, true, true, true, true, true, true, true, true, true, true, true, true, true, true, true, true, true, true, true, false, false, false, false, false, false, false, false, false, false, false, false, false, false, false, false, false, false, false, false, false, false, false, false, false, false, false, false, false, false, false] rfl rfl (any_of HT_.out (by kernel_rfl)) (fun _ _ _ h => h) (Or.inl ⟨by rfl, ?_⟩) ?_ ?_
  rotate_left
  · intro w'
    go_simp
    with_reducible rfl
  rotate_left
  · simp only [Act.put, List.setIfInBounds_toArray, List.set_cons_zero, List.set_cons_succ, i64_w, i32_w]
    rfl
  refine pure_ (i := 47) (N := (some 182)) (v := ?_) (a' := ?_) #[true, true, true, true, true, true, true, true, true, true, true, true, true, true, true, true, true, true, true, true, true, true, true, true, true, true, true, true, true, true, true, true, true, true, true, true, true, true, true, true, true, true, true, true, true, true, true, true, false, false, false, false, false, false, false, false, false, false, false, false, false, false, false, false, false, false, false, false, false, false, false, false, false, false, false, false, false, false] rfl rfl (any_of HT_.out (by kernel_rfl)) (fun _ _ _ h => h) (Or.inl ⟨by rfl, ?_⟩) ?_ ?_
  rotate_left
  · intro w'
    go_simp
    with_reducible rfl
  rotate_left
  · simp only [Act.put, List.setIfInBounds_toArray, List.set_cons_zero, List.set_cons_succ, i64_w, i32_w]
    rfl
  refine pure_ (i := 48) (N := (some 183)) (v := ?_) (a' := ?_) #[true, true, true, true, true, true, true, true, true, true, true, true, true, true, true, true, true, true, true, true, true, true, true, true, true, true, true, true, true, true, true, true, true, true, true, true, true, true, true, true, true, true, true, true, true, true, true, true, true, false, false, false, false, false, false, false, false, false, false, false, false, false, false, false, false, false, false, false, false, false, false, false, false, false, false, false, false, false] rfl rfl (any_of HT_.out (by kernel_rfl)) (fun _ _ _ h => h) (Or.inl ⟨by rfl, ?_⟩) ?_ ?_
  rotate_left
  · intro w'
    go_simp
    with_reducible rfl
  rotate_left
  · simp only [Act.put, List.setIfInBounds_toArray, List.set_cons_zero, List.set_cons_succ, i64_w, i32_w]
    rfl
  refine pure_ (i := 49) (N := (some 184)) (v := ?_) (a' := ?_) #[true, true, true, true, true, true, true, true, true, true, true, true, true, true, true, true, true, true, true, true, true, true, true, true, true, true, true, true, true, true, true, true, true, true, true, true, true, true, true, true, true, true, true, true, true, true, true, true, true, true, false, false, false, false, false, false, false, false, false, false, false, false, false, false, false, false, false, false, false, false, false, false, false, false, false, false, false, false] rfl rfl (any_of HT_.out (by kernel_rfl)) (fun _ _ _ h => h) (Or.inl ⟨by rfl, ?_⟩) ?_ ?_
  rotate_left
  · intro w'
    go_simp
    with_reducible rfl
  rotate_left
  · simp only [Act.put, List.setIfInBounds_toArray, List.set_cons_zero, List.set_cons_succ, i64_w, i32_w]
    rfl
  refine pure_ (i := 50) (N := (some 185)) (v := ?_) (a' := ?_) #[true, true, true, true, true, true, true, true, true, true, true, true, true, true, true, true, true, true, true, true, true, true, true, true, true, true, true, true, true, true, true, true, true, true, true, true, true, true, true, true, true, true, true, true, true, true, true, true, true, true, true, false, false, false, false, false, false, false, false, false, false, false, false, false, false, false, false, false, false, false, false, false, false, false, false, false, false, false] rfl rfl (any_of HT_.out (by kernel_rfl)) (fun _ _ _ h => h) (Or.inl ⟨by rfl, ?_⟩) ?_ ?_
  rotate_left
  · intro w'
    go_simp
    with_reducible rfl
  rotate_left
  · simp only [Act.put, List.setIfInBounds_toArray, List.set_cons_zero, List.set_cons_succ, i64_w, i32_w]
    rfl
  refine pure_ (i := 51) (N := (some 186)) (v := ?_) (a' := ?_) #[true, true, true, true, true, true, true, true, true, true, true, true, true, true, true, true, true, true, true, true, true, true, true, true, true, true, true, true, true, true, true, true, true, true, true, true, true, true, true, true, true, true, true, true, true, true, true, true, true, true, true, true, false, false, false, false, false, false, false, false, false, false, false, false, false, false, false, false, false, false, false, false, false, false, false, false, false, false] rfl rfl (any_of HT_.out (by kernel_rfl)) (fun _ _ _ h => h) (Or.inl ⟨by rfl, ?_⟩) ?_ ?_
  rotate_left
  · intro w'
    go_simp
    with_reducible rfl
  rotate_left
  · simp only [Act.put, List.setIfInBounds_toArray, List.set_cons_zero, List.set_cons_succ, i64_w, i32_w]
    rfl
  refine pure_ (i := 52) (N := (some 187)) (v := ?_) (a' := ?_) #[true, true, true, true, true, true, true, true, true, true, true, true, true, true, true, true, true, true, true, true, true, true, true, true, true, true, true, true, true, true, true, true, true, true, true, true, true, true, true, true, true, true, true, true, true, true, true, true, true, true, true, true, true, false, false, false, false, false, false, false, false, false, false, false, false, false, false, false, false, false, false, false, false, false, false, false, false, false] rfl rfl (any_of HT_.out (by kernel_rfl)) (fun _ _ _ h => h) (Or.inl ⟨by rfl, ?_⟩) ?_ ?_
  rotate_left
  · intro w'
    go_simp
    with_reducible rfl
  rotate_left
  · simp only [Act.put, List.setIfInBounds_toArray, List.set_cons_zero, List.set_cons_succ, i64_w, i32_w]
    rfl
  refine pure_ (i := 53) (N := (some 188)) (v := ?_) (a' := ?_) #[true, true, true, true, true, true, true, true, true, true, true, true, true, true, true, true, true, true, true, true, true, true, true, true, true, true, true, true, true, true, true, true, true, true, true, true, true, true, true, true, true, true, true, true, true, true, true, true, true, true, true, true, true, true, false, false, false, false, false, false, false, false, false, false, false, false, false, false, false, false, false, false, false, false, false, false, false, false] rfl rfl (any_of HT_.out (by kernel_rfl)) (fun _ _ _ h => h) (Or.inl ⟨by rfl, ?_⟩) ?_ ?_
  rotate_left
  · intro w'
    go_simp
    with_reducible rfl
  rotate_left
  · simp only [Act.put, List.setIfInBounds_toArray, List.set_cons_zero, List.set_cons_succ, i64_w, i32_w]
    rfl
  refine pure_ (i := 55) (N := (some 190)) (v := ?_) (a' := ?_) #[true, true, true, true, true, true, true, true, true, true, true, true, true, true, true, true, true, true, true, true, true, true, true, true, true, true, true, true, true, true, true, true, true, true, true, true, true, true, true, true, true, true, true, true, true, true, true, true, true, true, true, true, true, true, false, true, false, false, false, false, false, false, false, false, false, false, false, false, false, false, false, false, false, false, false, false, false, false] rfl rfl (any_of HT_.out (by kernel_rfl)) (fun _ _ _ h => h) (Or.inl ⟨by rfl, ?_⟩) ?_ ?_
  rotate_left
  · intro w'
    go_simp
    with_reducible rfl
  rotate_left
  · simp only [Act.put, List.setIfInBounds_toArray, List.set_cons_zero, List.set_cons_succ, i64_w, i32_w]
    rfl
  refine pure_ (i := 56) (N := (some 191)) (v := ?_) (a' := ?_) #[true, true, true, true, true, true, true, true, true, true, true, true, true, true, true, true, true, true, true, true, true, true, true, true, true, true, true, true, true, true, true, true, true, true, true, true, true, true, true, true, true, true, true, true, true, true, true, true, true, true, true, true, true, true, false, true, true, false, false, false, false, false, false, false, false, false, false, false, false, false, false, false, false, false, false, false, false, false] rfl rfl (any_of HT_.out (by kernel_rfl)) (fun _ _ _ h => h) (Or.inl ⟨by rfl, ?_⟩) ?_ ?_
  rotate_left
  · intro w'
    go_simp
    with_reducible rfl
  rotate_left
  · simp only [Act.put, List.setIfInBounds_toArray, List.set_cons_zero, List.set_cons_succ, i64_w, i32_w]
    rfl
  refine pure_ (i := 57) (N := (some 192)) (v := ?_) (a' := ?_) #[true, true, true, true, true, true, true, true, true, true, true, true, true, true, true, true, true, true, true, true, true, true, true, true, true, true, true, true, true, true, true, true, true, true, true, true, true, true, true, true, true, true, true, true, true, true, true, true, true, true, true, true, true, true, false, true, true, true, false, false, false, false, false, false, false, false, false, false, false, false, false, false, false, false, false, false, false, false] rfl rfl (any_of HT_.out (by kernel_rfl)) (fun _ _ _ h => h) (Or.inl ⟨by rfl, ?_⟩) ?_ ?_
  rotate_left
  · intro w'
    go_simp
    with_reducible rfl
  rotate_left
  · simp only [Act.put, List.setIfInBounds_toArray, List.set_cons_zero, List.set_cons_succ, i64_w, i32_w]
    rfl
  refine take_ (i := 54) (N := (some 189)) (v := ?_) (a' := ?_) #[true, true, true, true, true, true, true, true, true, true, true, true, true, true, true, true, true, true, true, true, true, true, true, true, true, true, true, true, true, true, true, true, true, true, true, true, true, true, true, true, true, true, true, true, true, true, true, true, true, true, true, true, true, true, true, true, true, true, false, false, false, false, false, false, false, false, false, false, false, false, false, false, false, false, false, false, false, false] rfl rfl (take_ofW HT_.out HW_.out (by kernel_rfl)) (fun _ _ _ h => h) (Or.inl ⟨by rfl, ?_⟩) hHeld ?_ ?_
  rotate_left
  · intro w' hS_
    have x0_ := (hS_.c.hb.cell (World.block_lt_of_cell? w _ ZM.out)).trans ZM.out
    go_simp
    with_reducible rfl
  rotate_left
  · simp only [Act.put, List.setIfInBounds_toArray, List.set_cons_zero, List.set_cons_succ, i64_w, i32_w]
    rfl
  refine take_ (i := 58) (N := (some 193)) (v := ?_) (a' := ?_) #[true, true, true, true, true, true, true, true, true, true, true, true, true, true, true, true, true, true, true, true, true, true, true, true, true, true, true, true, true, true, true, true, true, true, true, true, true, true, true, true, true, true, true, true, true, true, true, true, true, true, true, true, true, true, true, true, true, true, true, false, false, false, false, false, false, false, false, false, false, false, false, false, false, false, false, false, false, false] rfl rfl (take_ofW HT_.out HW_.out (by kernel_rfl)) (fun _ _ _ h => h) (Or.inl ⟨by rfl, ?_⟩) hHeld ?_ ?_
  rotate_left
  · intro w' hS_
    have x0_ := (hS_.c.hb.cell (World.block_lt_of_cell? w _ ZN.out)).trans ZN.out
    go_simp
    with_reducible rfl
  rotate_left
  · simp only [Act.put, List.setIfInBounds_toArray, List.set_cons_zero, List.set_cons_succ, i64_w, i32_w]
    rfl
  refine pure_ (i := 59) (N := (some 194)) (v := ?_) (a' := ?_) #[true, true, true, true, true, true, true, true, true, true, true, true, true, true, true, true, true, true, true, true, true, true, true, true, true, true, true, true, true, true, true, true, true, true, true, true, true, true, true, true, true, true, true, true, true, true, true, true, true, true, true, true, true, true, true, true, true, true, true, true, false, false, false, false, false, false, false, false, false, false, false, false, false, false, false, false, false, false] rfl rfl (any_of HT_.out (by kernel_rfl)) (fun _ _ _ h => h) (Or.inl ⟨by rfl, ?_⟩) ?_ ?_
  rotate_left
  · intro w'
    go_simp
    with_reducible rfl
  rotate_left
  · simp only [Act.put, List.setIfInBounds_toArray, List.set_cons_zero, List.set_cons_succ, i64_w, i32_w]
    rfl
  refine pure_ (i := 60) (N := (some 195)) (v := ?_) (a' := ?_) #[true, true, true, true, true, true, true, true, true, true, true, true, true, true, true, true, true, true, true, true, true, true, true, true, true, true, true, true, true, true, true, true, true, true, true, true, true, true, true, true, true, true, true, true, true, true, true, true, true, true, true, true, true, true, true, true, true, true, true, true, true, false, false, false, false, false, false, false, false, false, false, false, false, false, false, false, false, false] rfl rfl (any_of HT_.out (by kernel_rfl)) (fun _ _ _ h => h) (Or.inl ⟨by rfl, ?_⟩) ?_ ?_
  rotate_left
  · intro w'
    go_simp
    with_reducible rfl
  rotate_left
  · simp only [Act.put, List.setIfInBounds_toArray, List.set_cons_zero, List.set_cons_succ, i64_w, i32_w]
    rfl
  refine pure_ (i := 61) (N := (some 196)) (v := ?_) (a' := ?_) #[true, true, true, true, true, true, true, true, true, true, true, true, true, true, true, true, true, true, true, true, true, true, true, true, true, true, true, true, true, true, true, true, true, true, true, true, true, true, true, true, true, true, true, true, true, true, true, true, true, true, true, true, true, true, true, true, true, true, true, true, true, true, false, false, false, false, false, false, false, false, false, false, false, false, false, false, false, false] rfl rfl (any_of HT_.out (by kernel_rfl)) (fun _ _ _ h => h) (Or.inl ⟨by rfl, ?_⟩) ?_ ?_
  rotate_left
  · intro w'
    go_simp
    with_reducible rfl
  rotate_left
  · simp only [Act.put, List.setIfInBounds_toArray, List.set_cons_zero, List.set_cons_succ, i64_w, i32_w]
    rfl
  refine pure_ (i := 62) (N := (some 197)) (v := ?_) (a' := ?_) #[true, true, true, true, true, true, true, true, true, true, true, true, true, true, true, true, true, true, true, true, true, true, true, true, true, true, true, true, true, true, true, true, true, true, true, true, true, true, true, true, true, true, true, true, true, true, true, true, true, true, true, true, true, true, true, true, true, true, true, true, true, true, true, false, false, false, false, false, false, false, false, false, false, false, false, false, false, false] rfl rfl (any_of HT_.out (by kernel_rfl)) (fun _ _ _ h => h) (Or.inl ⟨by rfl, ?_⟩) ?_ ?_
  rotate_left
  · intro w'
    go_simp
    with_reducible rfl
  rotate_left
  · simp only [Act.put, List.setIfInBounds_toArray, List.set_cons_zero, List.set_cons_succ, i64_w, i32_w]
    rfl
  refine pure_ (i := 66) (N := (some 201)) (v := ?_) (a' := ?_) #[true, true, true, true, true, true, true, true, true, true, true, true, true, true, true, true, true, true, true, true, true, true, true, true, true, true, true, true, true, true, true, true, true, true, true, true, true, true, true, true, true, true, true, true, true, true, true, true, true, true, true, true, true, true, true, true, true, true, true, true, true, true, true, false, false, false, true, false, false, false, false, false, false, false, false, false, false, false] rfl rfl (any_of HT_.out (by kernel_rfl)) (fun _ _ _ h => h) (Or.inl ⟨by rfl, ?_⟩) ?_ ?_
  rotate_left
  · intro w'
    go_simp
    with_reducible rfl
  rotate_left
  · simp only [Act.put, List.setIfInBounds_toArray, List.set_cons_zero, List.set_cons_succ, i64_w, i32_w]
    rfl
  refine pure_ (i := 67) (N := (some 202)) (v := ?_) (a' := ?_) #[true, true, true, true, true, true, true, true, true, true, true, true, true, true, true, true, true, true, true, true, true, true, true, true, true, true, true, true, true, true, true, true, true, true, true, true, true, true, true, true, true, true, true, true, true, true, true, true, true, true, true, true, true, true, true, true, true, true, true, true, true, true, true, false, false, false, true, true, false, false, false, false, false, false, false, false, false, false] rfl rfl (any_of HT_.out (by kernel_rfl)) (fun _ _ _ h => h) (Or.inl ⟨by rfl, ?_⟩) ?_ ?_
  rotate_left
  · intro w'
    go_simp
    with_reducible rfl
  rotate_left
  · simp only [Act.put, List.setIfInBounds_toArray, List.set_cons_zero, List.set_cons_succ, i64_w, i32_w]
    rfl
  refine pure_ (i := 68) (N := (some 203)) (v := ?_) (a' := ?_) #[true, true, true, true, true, true, true, true, true, true, true, true, true, true, true, true, true, true, true, true, true, true, true, true, true, true, true, true, true, true, true, true, true, true, true, true, true, true, true, true, true, true, true, true, true, true, true, true, true, true, true, true, true, true, true, true, true, true, true, true, true, true, true, false, false, false, true, true, true, false, false, false, false, false, false, false, false, false] rfl rfl (any_of HT_.out (by kernel_rfl)) (fun _ _ _ h => h) (Or.inl ⟨by rfl, ?_⟩) ?_ ?_
  rotate_left
  · intro w'
    go_simp
    with_reducible rfl
  rotate_left
  · simp only [Act.put, List.setIfInBounds_toArray, List.set_cons_zero, List.set_cons_succ, i64_w, i32_w]
    rfl
  refine pure_ (i := 70) (N := (some 205)) (v := ?_) (a' := ?_) #[true, true, true, true, true, true, true, true, true, true, true, true, true, true, true, true, true, true, true, true, true, true, true, true, true, true, true, true, true, true, true, true, true, true, true, true, true, true, true, true, true, true, true, true, true, true, true, true, true, true, true, true, true, true, true, true, true, true, true, true, true, true, true, false, false, false, true, true, true, false, true, false, false, false, false, false, false, false] rfl rfl (any_of HT_.out (by kernel_rfl)) (fun _ _ _ h => h) (Or.inl ⟨by rfl, ?_⟩) ?_ ?_
  rotate_left
  · intro w'
    go_simp
    with_reducible rfl
  rotate_left
  · simp only [Act.put, List.setIfInBounds_toArray, List.set_cons_zero, List.set_cons_succ, i64_w, i32_w]
    rfl
  refine pure_ (i := 71) (N := (some 206)) (v := ?_) (a' := ?_) #[true, true, true, true, true, true, true, true, true, true, true, true, true, true, true, true, true, true, true, true, true, true, true, true, true, true, true, true, true, true, true, true, true, true, true, true, true, true, true, true, true, true, true, true, true, true, true, true, true, true, true, true, true, true, true, true, true, true, true, true, true, true, true, false, false, false, true, true, true, false, true, true, false, false, false, false, false, false] rfl rfl (any_of HT_.out (by kernel_rfl)) (fun _ _ _ h => h) (Or.inl ⟨by rfl, ?_⟩) ?_ ?_
  rotate_left
  · intro w'
    go_simp
    with_reducible rfl
  rotate_left
  · simp only [Act.put, List.setIfInBounds_toArray, List.set_cons_zero, List.set_cons_succ, i64_w, i32_w]
    rfl
  refine pure_ (i := 72) (N := (some 207)) (v := ?_) (a' := ?_) #[true, true, true, true, true, true, true, true, true, true, true, true, true, true, true, true, true, true, true, true, true, true, true, true, true, true, true, true, true, true, true, true, true, true, true, true, true, true, true, true, true, true, true, true, true, true, true, true, true, true, true, true, true, true, true, true, true, true, true, true, true, true, true, false, false, false, true, true, true, false, true, true, true, false, false, false, false, false] rfl rfl (any_of HT_.out (by kernel_rfl)) (fun _ _ _ h => h) (Or.inl ⟨by rfl, ?_⟩) ?_ ?_
  rotate_left
  · intro w'
    go_simp
    with_reducible rfl
  rotate_left
  · simp only [Act.put, List.setIfInBounds_toArray, List.set_cons_zero, List.set_cons_succ, i64_w, i32_w]
    rfl
  refine take_ (i := 63) (N := (some 198)) (v := ?_) (a' := ?_) #[true, true, true, true, true, true, true, true, true, true, true, true, true, true, true, true, true, true, true, true, true, true, true, true, true, true, true, true, true, true, true, true, true, true, true, true, true, true, true, true, true, true, true, true, true, true, true, true, true, true, true, true, true, true, true, true, true, true, true, true, true, true, true, true, false, false, true, true, true, false, true, true, true, false, false, false, false, false] rfl rfl (take_ofW HT_.out HW_.out (by kernel_rfl)) (fun _ _ _ h => h) (Or.inl ⟨by rfl, ?_⟩) hHeld ?_ ?_
  rotate_left
  · intro w' hS_
    obtain ⟨y0_, y1_, y2_, y3_, y4_, y5_, y6_, y7_⟩ := cells8c hS_.c.k8
    go_simp
    with_reducible rfl
  rotate_left
  · simp only [Act.put, List.setIfInBounds_toArray, List.set_cons_zero, List.set_cons_succ, i64_w, i32_w]
    rfl
  refine take_ (i := 64) (N := (some 199)) (v := ?_) (a' := ?_) #[true, true, true, true, true, true, true, true, true, true, true, true, true, true, true, true, true, true, true, true, true, true, true, true, true, true, true, true, true, true, true, true, true, true, true, true, true, true, true, true, true, true, true, true, true, true, true, true, true, true, true, true, true, true, true, true, true, true, true, true, true, true, true, true, true, false, true, true, true, false, true, true, true, false, false, false, false, false] rfl rfl (take_ofW HT_.out HW_.out (by kernel_rfl)) (fun _ _ _ h => h) (Or.inl ⟨by rfl, ?_⟩) hHeld ?_ ?_
  rotate_left
  · intro w' hS_
    obtain ⟨y0_, y1_, y2_, y3_, y4_, y5_, y6_, y7_⟩ := cells8c hS_.k14
    go_simp
    with_reducible rfl
  rotate_left
  · simp only [Act.put, List.setIfInBounds_toArray, List.set_cons_zero, List.set_cons_succ, i64_w, i32_w]
    rfl
  refine take_ (i := 69) (N := (some 204)) (v := ?_) (a' := ?_) #[true, true, true, true, true, true, true, true, true, true, true, true, true, true, true, true, true, true, true, true, true, true, true, true, true, true, true, true, true, true, true, true, true, true, true, true, true, true, true, true, true, true, true, true, true, true, true, true, true, true, true, true, true, true, true, true, true, true, true, true, true, true, true, true, true, false, true, true, true, true, true, true, true, false, false, false, false, false] rfl rfl (take_ofW HT_.out HW_.out (by kernel_rfl)) (fun _ _ _ h => h) (Or.inl ⟨by rfl, ?_⟩) hHeld ?_ ?_
  rotate_left
  · intro w' hS_
    have x0_ := (hS_.c.hb.cell (World.block_lt_of_cell? w _ ZM.out)).trans ZM.out
    go_simp
    with_reducible rfl
  rotate_left
  · simp only [Act.put, List.setIfInBounds_toArray, List.set_cons_zero, List.set_cons_succ, i64_w, i32_w]
    rfl
  refine take_ (i := 73) (N := (some 208)) (v := ?_) (a' := ?_) #[true, true, true, true, true, true, true, true, true, true, true, true, true, true, true, true, true, true, true, true, true, true, true, true, true, true, true, true, true, true, true, true, true, true, true, true, true, true, true, true, true, true, true, true, true, true, true, true, true, true, true, true, true, true, true, true, true, true, true, true, true, true, true, true, true, false, true, true, true, true, true, true, true, true, false, false, false, false] rfl rfl (take_ofW HT_.out HW_.out (by kernel_rfl)) (fun _ _ _ h => h) (Or.inl ⟨by rfl, ?_⟩) hHeld ?_ ?_
  rotate_left
  · intro w' hS_
    have x0_ := (hS_.c.hb.cell (World.block_lt_of_cell? w _ ZN.out)).trans ZN.out
    go_simp
    with_reducible rfl
  rotate_left
  · simp only [Act.put, List.setIfInBounds_toArray, List.set_cons_zero, List.set_cons_succ, i64_w, i32_w]
    rfl
  refine pure_ (i := 74) (N := (some 209)) (v := ?_) (a' := ?_) #[true, true, true, true, true, true, true, true, true, true, true, true, true, true, true, true, true, true, true, true, true, true, true, true, true, true, true, true, true, true, true, true, true, true, true, true, true, true, true, true, true, true, true, true, true, true, true, true, true, true, true, true, true, true, true, true, true, true, true, true, true, true, true, true, true, false, true, true, true, true, true, true, true, true, true, false, false, false] rfl rfl (any_of HT_.out (by kernel_rfl)) (fun _ _ _ h => h) (Or.inl ⟨by rfl, ?_⟩) ?_ ?_
  rotate_left
  · intro w'
    go_simp
    with_reducible rfl
  rotate_left
  · simp only [Act.put, List.setIfInBounds_toArray, List.set_cons_zero, List.set_cons_succ, i64_w, i32_w]
    rfl
  refine one_ (i := 65) (N := (some 200)) #[true, true, true, true, true, true, true, true, true, true, true, true, true, true, true, true, true, true, true, true, true, true, true, true, true, true, true, true, true, true, true, true, true, true, true, true, true, true, true, true, true, true, true, true, true, true, true, true, true, true, true, true, true, true, true, true, true, true, true, true, true, true, true, true, true, true, true, true, true, true, true, true, true, true, true, false, false, false] rfl rfl (one_of HT_.out (by kernel_rfl)) (by decide) (fun K hK => ?_)
  refine goes_ Tryd.func43 (by kernel_rfl) rfl #[.agg #[.int .i64 3, .int .u32 0, .int .u32 0, .int .u32 0, .int .u32 0, .slice (some ad1) l1.length c1, .slice AB b7.length 1, .int .i64 0], .agg #[.int .i64 3, .int .u32 0, .int .u32 0, .int .u32 0, .int .u32 0, .slice (some ⟨gD, 0, none⟩) l1.length cD, .slice AB b7.length 1, .int .i64 0]] (by rfl) rfl rfl (by (try simp only [List.map_toArray, List.map_cons, List.map_nil]); first | done | rfl) ?_
  refine (KBD.out _ hHeld).mono ?_
  rintro e w31 ⟨rfl, hb⟩
  refine ⟨_, rfl, ?_⟩
  refine hK.out _ _ (hHeld.below hb) (fun hHeld => ?_)
  clear hK K
  refine norm_ (a' := ?_) ?_ ?_
  rotate_left
  · show Act.put _ (some 200) _ = _
    simp only [Act.put, List.setIfInBounds_toArray, List.set_cons_zero, List.set_cons_succ, i64_w, i32_w]
    rfl
  refine pure_ (i := 75) (N := (some 210)) (v := ?_) (a' := ?_) #[true, true, true, true, true, true, true, true, true, true, true, true, true, true, true, true, true, true, true, true, true, true, true, true, true, true, true, true, true, true, true, true, true, true, true, true, true, true, true, true, true, true, true, true, true, true, true, true, true, true, true, true, true, true, true, true, true, true, true, true, true, true, true, true, true, true, true, true, true, true, true, true, true, true, true, true, false, false] rfl rfl (any_of HT_.out (by kernel_rfl)) (fun _ _ _ h => h) (Or.inl ⟨by rfl, ?_⟩) ?_ ?_
  rotate_left
  · intro w'
    go_simp
    with_reducible rfl
  rotate_left
  · simp only [Act.put, List.setIfInBounds_toArray, List.set_cons_zero, List.set_cons_succ, i64_w, i32_w]
    rfl
  refine pure_ (i := 76) (N := (some 211)) (v := ?_) (a' := ?_) #[true, true, true, true, true, true, true, true, true, true, true, true, true, true, true, true, true, true, true, true, true, true, true, true, true, true, true, true, true, true, true, true, true, true, true, true, true, true, true, true, true, true, true, true, true, true, true, true, true, true, true, true, true, true, true, true, true, true, true, true, true, true, true, true, true, true, true, true, true, true, true, true, true, true, true, true, true, false] rfl rfl (any_of HT_.out (by kernel_rfl)) (fun _ _ _ h => h) (Or.inl ⟨by rfl, ?_⟩) ?_ ?_
  rotate_left
  · intro w'
    go_simp
    with_reducible rfl
  rotate_left
  · simp only [Act.put, List.setIfInBounds_toArray, List.set_cons_zero, List.set_cons_succ, i64_w, i32_w]
    rfl
  refine pure_ (i := 77) (N := (some 6)) (v := ?_) (a' := ?_) #[true, true, true, true, true, true, true, true, true, true, true, true, true, true, true, true, true, true, true, true, true, true, true, true, true, true, true, true, true, true, true, true, true, true, true, true, true, true, true, true, true, true, true, true, true, true, true, true, true, true, true, true, true, true, true, true, true, true, true, true, true, true, true, true, true, true, true, true, true, true, true, true, true, true, true, true, true, true] rfl rfl (any_of HT_.out (by kernel_rfl)) (fun _ _ _ h => h) (Or.inl ⟨by rfl, ?_⟩) ?_ ?_
  rotate_left
  · intro w'
    go_simp
    with_reducible rfl
  rotate_left
  · simp only [Act.put, List.setIfInBounds_toArray, List.set_cons_zero, List.set_cons_succ, i64_w, i32_w]
    rfl
  refine done_ (done_of HT_.out (by kernel_rfl)) ?_
  go_wp2
  go_ret
  exact ⟨rfl, (by repeat (first | (with_reducible first | exact hHeld.c.hb | apply below_alloc | apply pw_below_drewN | apply below_drew1) | exact hHeld.c.hb))⟩


end Go.Proofs.YthimgiphlenjdaaDoor.PI
