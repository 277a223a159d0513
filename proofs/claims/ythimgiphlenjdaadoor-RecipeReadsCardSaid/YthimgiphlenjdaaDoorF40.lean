/- Contracts of the Go functions of this seat, each over a Lean function of the same answers; written by a program of this session's. -/
import Derived.Test.YthimgiphlenjdaaDoorPIx0
import Derived.Test.YthimgiphlenjdaaDoorHWords
import Derived.Test.YthimgiphlenjdaaDoorF41
import Derived.Test.YthimgiphlenjdaaDoorF58
namespace Go.Proofs.YthimgiphlenjdaaDoor.PI
open Go.RowKit Go.Proofs.YthimgiphlenjdaaDoorW.PrintWords Go.Proofs.YthimgiphlenjdaaDoorW.PrintLast
open HX
set_option linter.unusedVariables false
set_option linter.unusedSimpArgs false

/-! ### seedcornref37_Read: function 40 -/
mutual
def seedcornref37_Read.j0 : Nat → ByteArray → Bool → Option (Int × Int × Int × Int × Int × List Int × (List (S24)) × Int × Int)
  | 0, _, _ => none
  | k + 1, x0, x24 => if x24 = true then (some (0, 0, 0, 0, 0, ([] : List Int), ([] : List (S24)), 0, 7)) else (if 1 ≤ (x0.size : Int) then ((seedcornref01_Words.f k (x0.extract 1 x0.size)).bind fun bt586 => (if bt586.2 = 0 then (if (bt586.1.length : Int) < 8 then (seedcornref37_Read.j1 k bt586.1 true) else (if 0 < (bt586.1.length : Int) then (if (rd bt586.1 0) > 6 then (seedcornref37_Read.j1 k bt586.1 true) else (if 5 < (bt586.1.length : Int) then (if (rd bt586.1 5) > 100000000 then (seedcornref37_Read.j1 k bt586.1 true) else (if 6 < (bt586.1.length : Int) then (if (rd bt586.1 6) > 20 then (seedcornref37_Read.j1 k bt586.1 true) else (seedcornref37_Read.j1 k bt586.1 (decide ((bt586.1.length : Int) < (wrap64 (8 + (wrap64 (rd bt586.1 6)))))))) else (none))) else (none))) else (none))) else (seedcornref37_Read.j1 k bt586.1 true))) else (none))
def seedcornref37_Read.j1 : Nat → List Int → Bool → Option (Int × Int × Int × Int × Int × List Int × (List (S24)) × Int × Int)
  | 0, _, _ => none
  | k + 1, x4, x66 => if x66 = true then (some (0, 0, 0, 0, 0, ([] : List Int), ([] : List (S24)), 0, 7)) else (if 0 < (x4.length : Int) then (if 1 < (x4.length : Int) then (if 2 < (x4.length : Int) then (if 3 < (x4.length : Int) then (if 4 < (x4.length : Int) then (if 5 < (x4.length : Int) then (if 6 < (x4.length : Int) then (seedcornref37_Read.l0 k x4 (wrap64 (rd x4 6)) 0 (wrap64 (rd x4 0)) (rd x4 1) (rd x4 2) (rd x4 3) (rd x4 4) ([] : List Int) (wrap64 (rd x4 5))) else (none)) else (none)) else (none)) else (none)) else (none)) else (none)) else (none))
def seedcornref37_Read.l0 : Nat → List Int → Int → Int → Int → Int → Int → Int → Int → List Int → Int → Option (Int × Int × Int × Int × Int × List Int × (List (S24)) × Int × Int)
  | 0, _, _, _, _, _, _, _, _, _, _ => none
  | k + 1, x4, x7, x8, x601000, x601001, x601002, x601003, x601004, x601005, x601007 => if x8 < x7 then (if 0 ≤ (wrap64 (7 + x8)) then (if (wrap64 (7 + x8)) < (x4.length : Int) then (if (rd x4 (wrap64 (7 + x8))) > 4 then (some (0, 0, 0, 0, 0, ([] : List Int), ([] : List (S24)), 0, 7)) else (if x601005.length < 17592186044416 then (seedcornref37_Read.l0 k x4 x7 (wrap64 (x8 + 1)) x601000 x601001 x601002 x601003 x601004 (x601005 ++ [wrap64 (rd x4 (wrap64 (7 + x8)))]) x601007) else (none))) else (none)) else (none)) else (if 0 ≤ (wrap64 (7 + x7)) then (if (wrap64 (7 + x7)) < (x4.length : Int) then (if (rd x4 (wrap64 (7 + x7))) > 20 then (seedcornref37_Read.j3 k x4 x7 (rd x4 (wrap64 (7 + x7))) true x601000 x601001 x601002 x601003 x601004 x601005 x601007) else (seedcornref37_Read.j3 k x4 x7 (rd x4 (wrap64 (7 + x7))) ((x4.length : Int) != (wrap64 ((wrap64 (8 + x7)) + (wrap64 (4 * (wrap64 (rd x4 (wrap64 (7 + x7))))))))) x601000 x601001 x601002 x601003 x601004 x601005 x601007)) else (none)) else (none))
def seedcornref37_Read.j3 : Nat → List Int → Int → Int → Bool → Int → Int → Int → Int → Int → List Int → Int → Option (Int × Int × Int × Int × Int × List Int × (List (S24)) × Int × Int)
  | 0, _, _, _, _, _, _, _, _, _, _, _ => none
  | k + 1, x4, x7, x9, x134, x601000, x601001, x601002, x601003, x601004, x601005, x601007 => if x134 = true then (some (0, 0, 0, 0, 0, ([] : List Int), ([] : List (S24)), 0, 7)) else (seedcornref37_Read.l1 k x4 x7 x9 0 x601000 x601001 x601002 x601003 x601004 x601005 ([] : List (S24)) x601007)
def seedcornref37_Read.l1 : Nat → List Int → Int → Int → Int → Int → Int → Int → Int → Int → List Int → List (S24) → Int → Option (Int × Int × Int × Int × Int × List Int × (List (S24)) × Int × Int)
  | 0, _, _, _, _, _, _, _, _, _, _, _, _ => none
  | k + 1, x4, x7, x9, x10, x601000, x601001, x601002, x601003, x601004, x601005, x601006, x601007 => if x10 < (wrap64 (x9)) then (if 0 ≤ (wrap64 ((wrap64 (8 + x7)) + (wrap64 (4 * x10)))) then (if (wrap64 ((wrap64 (8 + x7)) + (wrap64 (4 * x10)))) < (x4.length : Int) then (if 0 ≤ (wrap64 ((wrap64 ((wrap64 (8 + x7)) + (wrap64 (4 * x10)))) + 1)) then (if (wrap64 ((wrap64 ((wrap64 (8 + x7)) + (wrap64 (4 * x10)))) + 1)) < (x4.length : Int) then (if 0 ≤ (wrap64 ((wrap64 ((wrap64 (8 + x7)) + (wrap64 (4 * x10)))) + 2)) then (if (wrap64 ((wrap64 ((wrap64 (8 + x7)) + (wrap64 (4 * x10)))) + 2)) < (x4.length : Int) then (if 0 ≤ (wrap64 ((wrap64 ((wrap64 (8 + x7)) + (wrap64 (4 * x10)))) + 3)) then (if (wrap64 ((wrap64 ((wrap64 (8 + x7)) + (wrap64 (4 * x10)))) + 3)) < (x4.length : Int) then (if x601006.length < 8796093022208 then (seedcornref37_Read.l1 k x4 x7 x9 (wrap64 (x10 + 1)) x601000 x601001 x601002 x601003 x601004 x601005 (x601006 ++ [(⟨rd x4 (wrap64 ((wrap64 (8 + x7)) + (wrap64 (4 * x10)))), rd x4 (wrap64 ((wrap64 ((wrap64 (8 + x7)) + (wrap64 (4 * x10)))) + 1)), rd x4 (wrap64 ((wrap64 ((wrap64 (8 + x7)) + (wrap64 (4 * x10)))) + 2)), rd x4 (wrap64 ((wrap64 ((wrap64 (8 + x7)) + (wrap64 (4 * x10)))) + 3))⟩ : S24)]) x601007) else (none)) else (none)) else (none)) else (none)) else (none)) else (none)) else (none)) else (none)) else (none)) else ((seedcornref37_Right.f k x601000 x601001 x601002 x601003 x601004 x601005 x601006 x601007).bind fun t615 => (if t615 = true then (some (x601000, x601001, x601002, x601003, x601004, x601005, x601006, x601007, 0)) else (some (0, 0, 0, 0, 0, ([] : List Int), ([] : List (S24)), 0, 7))))
end
def seedcornref37_Read.f (k : Nat) (a0 : ByteArray) : Option (Int × Int × Int × Int × Int × List Int × (List (S24)) × Int × Int) := if (a0.size : Int) < 1 then (seedcornref37_Read.j0 k a0 true) else (if (a0.size : Int) > 2000 then (seedcornref37_Read.j0 k a0 true) else (if 0 < (a0.size : Int) then (seedcornref37_Read.j0 k a0 ((bt a0 0) != 82)) else (none)))
theorem seedcornref37_Read.mono_l : ∀ k, (∀ y0 y1, LeO (seedcornref37_Read.j0 k y0 y1) (seedcornref37_Read.j0 (k + 1) y0 y1)) ∧ (∀ y0 y1, LeO (seedcornref37_Read.j1 k y0 y1) (seedcornref37_Read.j1 (k + 1) y0 y1)) ∧ (∀ y0 y1 y2 y3 y4 y5 y6 y7 y8 y9, LeO (seedcornref37_Read.l0 k y0 y1 y2 y3 y4 y5 y6 y7 y8 y9) (seedcornref37_Read.l0 (k + 1) y0 y1 y2 y3 y4 y5 y6 y7 y8 y9)) ∧ (∀ y0 y1 y2 y3 y4 y5 y6 y7 y8 y9 y10, LeO (seedcornref37_Read.j3 k y0 y1 y2 y3 y4 y5 y6 y7 y8 y9 y10) (seedcornref37_Read.j3 (k + 1) y0 y1 y2 y3 y4 y5 y6 y7 y8 y9 y10)) ∧ (∀ y0 y1 y2 y3 y4 y5 y6 y7 y8 y9 y10 y11, LeO (seedcornref37_Read.l1 k y0 y1 y2 y3 y4 y5 y6 y7 y8 y9 y10 y11) (seedcornref37_Read.l1 (k + 1) y0 y1 y2 y3 y4 y5 y6 y7 y8 y9 y10 y11))
  | 0 => ⟨fun _ _ r h => by simp [seedcornref37_Read.j0] at h, fun _ _ r h => by simp [seedcornref37_Read.j1] at h, fun _ _ _ _ _ _ _ _ _ _ r h => by simp [seedcornref37_Read.l0] at h, fun _ _ _ _ _ _ _ _ _ _ _ r h => by simp [seedcornref37_Read.j3] at h, fun _ _ _ _ _ _ _ _ _ _ _ _ r h => by simp [seedcornref37_Read.l1] at h⟩
  | k + 1 => by
    obtain ⟨ih0, ih1, ih2, ih3, ih4⟩ := seedcornref37_Read.mono_l k
    refine ⟨?_, ?_, ?_, ?_, ?_⟩
    · intro y0 y1
      unfold seedcornref37_Read.j0
      repeat' first
      | (with_reducible exact ih0 _ _)
      | (with_reducible exact ih1 _ _)
      | (with_reducible exact ih2 _ _ _ _ _ _ _ _ _ _)
      | (with_reducible exact ih3 _ _ _ _ _ _ _ _ _ _ _)
      | (with_reducible exact ih4 _ _ _ _ _ _ _ _ _ _ _ _)
      | (with_reducible exact seedcornref01_Words.mono _ _)
      | (with_reducible exact seedcornref37_Right.mono _ _ _ _ _ _ _ _ _)
      | (with_reducible exact LeO.refl _)
      | (with_reducible exact LeO.none _)
      | (with_reducible refine LeO.ite ?_ ?_)
      | (with_reducible refine LeO.bind ?_ (fun _ => ?_))
      | exact ih0 _ _
      | exact ih1 _ _
      | exact ih2 _ _ _ _ _ _ _ _ _ _
      | exact ih3 _ _ _ _ _ _ _ _ _ _ _
      | exact ih4 _ _ _ _ _ _ _ _ _ _ _ _
      | exact seedcornref01_Words.mono _ _
      | exact seedcornref37_Right.mono _ _ _ _ _ _ _ _ _
      | exact LeO.none _
      | refine LeO.ite ?_ ?_
      | refine LeO.bind ?_ (fun _ => ?_)
    · intro y0 y1
      unfold seedcornref37_Read.j1
      repeat' first
      | (with_reducible exact ih0 _ _)
      | (with_reducible exact ih1 _ _)
      | (with_reducible exact ih2 _ _ _ _ _ _ _ _ _ _)
      | (with_reducible exact ih3 _ _ _ _ _ _ _ _ _ _ _)
      | (with_reducible exact ih4 _ _ _ _ _ _ _ _ _ _ _ _)
      | (with_reducible exact seedcornref01_Words.mono _ _)
      | (with_reducible exact seedcornref37_Right.mono _ _ _ _ _ _ _ _ _)
      | (with_reducible exact LeO.refl _)
      | (with_reducible exact LeO.none _)
      | (with_reducible refine LeO.ite ?_ ?_)
      | (with_reducible refine LeO.bind ?_ (fun _ => ?_))
      | exact ih0 _ _
      | exact ih1 _ _
      | exact ih2 _ _ _ _ _ _ _ _ _ _
      | exact ih3 _ _ _ _ _ _ _ _ _ _ _
      | exact ih4 _ _ _ _ _ _ _ _ _ _ _ _
      | exact seedcornref01_Words.mono _ _
      | exact seedcornref37_Right.mono _ _ _ _ _ _ _ _ _
      | exact LeO.none _
      | refine LeO.ite ?_ ?_
      | refine LeO.bind ?_ (fun _ => ?_)
    · intro y0 y1 y2 y3 y4 y5 y6 y7 y8 y9
      unfold seedcornref37_Read.l0
      repeat' first
      | (with_reducible exact ih0 _ _)
      | (with_reducible exact ih1 _ _)
      | (with_reducible exact ih2 _ _ _ _ _ _ _ _ _ _)
      | (with_reducible exact ih3 _ _ _ _ _ _ _ _ _ _ _)
      | (with_reducible exact ih4 _ _ _ _ _ _ _ _ _ _ _ _)
      | (with_reducible exact seedcornref01_Words.mono _ _)
      | (with_reducible exact seedcornref37_Right.mono _ _ _ _ _ _ _ _ _)
      | (with_reducible exact LeO.refl _)
      | (with_reducible exact LeO.none _)
      | (with_reducible refine LeO.ite ?_ ?_)
      | (with_reducible refine LeO.bind ?_ (fun _ => ?_))
      | exact ih0 _ _
      | exact ih1 _ _
      | exact ih2 _ _ _ _ _ _ _ _ _ _
      | exact ih3 _ _ _ _ _ _ _ _ _ _ _
      | exact ih4 _ _ _ _ _ _ _ _ _ _ _ _
      | exact seedcornref01_Words.mono _ _
      | exact seedcornref37_Right.mono _ _ _ _ _ _ _ _ _
      | exact LeO.none _
      | refine LeO.ite ?_ ?_
      | refine LeO.bind ?_ (fun _ => ?_)
    · intro y0 y1 y2 y3 y4 y5 y6 y7 y8 y9 y10
      unfold seedcornref37_Read.j3
      repeat' first
      | (with_reducible exact ih0 _ _)
      | (with_reducible exact ih1 _ _)
      | (with_reducible exact ih2 _ _ _ _ _ _ _ _ _ _)
      | (with_reducible exact ih3 _ _ _ _ _ _ _ _ _ _ _)
      | (with_reducible exact ih4 _ _ _ _ _ _ _ _ _ _ _ _)
      | (with_reducible exact seedcornref01_Words.mono _ _)
      | (with_reducible exact seedcornref37_Right.mono _ _ _ _ _ _ _ _ _)
      | (with_reducible exact LeO.refl _)
      | (with_reducible exact LeO.none _)
      | (with_reducible refine LeO.ite ?_ ?_)
      | (with_reducible refine LeO.bind ?_ (fun _ => ?_))
      | exact ih0 _ _
      | exact ih1 _ _
      | exact ih2 _ _ _ _ _ _ _ _ _ _
      | exact ih3 _ _ _ _ _ _ _ _ _ _ _
      | exact ih4 _ _ _ _ _ _ _ _ _ _ _ _
      | exact seedcornref01_Words.mono _ _
      | exact seedcornref37_Right.mono _ _ _ _ _ _ _ _ _
      | exact LeO.none _
      | refine LeO.ite ?_ ?_
      | refine LeO.bind ?_ (fun _ => ?_)
    · intro y0 y1 y2 y3 y4 y5 y6 y7 y8 y9 y10 y11
      unfold seedcornref37_Read.l1
      repeat' first
      | (with_reducible exact ih0 _ _)
      | (with_reducible exact ih1 _ _)
      | (with_reducible exact ih2 _ _ _ _ _ _ _ _ _ _)
      | (with_reducible exact ih3 _ _ _ _ _ _ _ _ _ _ _)
      | (with_reducible exact ih4 _ _ _ _ _ _ _ _ _ _ _ _)
      | (with_reducible exact seedcornref01_Words.mono _ _)
      | (with_reducible exact seedcornref37_Right.mono _ _ _ _ _ _ _ _ _)
      | (with_reducible exact LeO.refl _)
      | (with_reducible exact LeO.none _)
      | (with_reducible refine LeO.ite ?_ ?_)
      | (with_reducible refine LeO.bind ?_ (fun _ => ?_))
      | exact ih0 _ _
      | exact ih1 _ _
      | exact ih2 _ _ _ _ _ _ _ _ _ _
      | exact ih3 _ _ _ _ _ _ _ _ _ _ _
      | exact ih4 _ _ _ _ _ _ _ _ _ _ _ _
      | exact seedcornref01_Words.mono _ _
      | exact seedcornref37_Right.mono _ _ _ _ _ _ _ _ _
      | exact LeO.none _
      | refine LeO.ite ?_ ?_
      | refine LeO.bind ?_ (fun _ => ?_)
theorem seedcornref37_Read.mono : ∀ a0 k, LeO (seedcornref37_Read.f k a0) (seedcornref37_Read.f (k + 1) a0) := by
  intro a0 k
  obtain ⟨ih0, ih1, ih2, ih3, ih4⟩ := seedcornref37_Read.mono_l k
  unfold seedcornref37_Read.f
  repeat' first
      | (with_reducible exact ih0 _ _)
      | (with_reducible exact ih1 _ _)
      | (with_reducible exact ih2 _ _ _ _ _ _ _ _ _ _)
      | (with_reducible exact ih3 _ _ _ _ _ _ _ _ _ _ _)
      | (with_reducible exact ih4 _ _ _ _ _ _ _ _ _ _ _ _)
      | (with_reducible exact seedcornref01_Words.mono _ _)
      | (with_reducible exact seedcornref37_Right.mono _ _ _ _ _ _ _ _ _)
      | (with_reducible exact LeO.refl _)
      | (with_reducible exact LeO.none _)
      | (with_reducible refine LeO.ite ?_ ?_)
      | (with_reducible refine LeO.bind ?_ (fun _ => ?_))
      | exact ih0 _ _
      | exact ih1 _ _
      | exact ih2 _ _ _ _ _ _ _ _ _ _
      | exact ih3 _ _ _ _ _ _ _ _ _ _ _
      | exact ih4 _ _ _ _ _ _ _ _ _ _ _ _
      | exact seedcornref01_Words.mono _ _
      | exact seedcornref37_Right.mono _ _ _ _ _ _ _ _ _
      | exact LeO.none _
      | refine LeO.ite ?_ ?_
      | refine LeO.bind ?_ (fun _ => ?_)
def seedcornref37_Read.T6 : Bool × List (List Nat × List Nat) := (true, [([], []), ([0], [0]), ([1], [1]), ([2], [2]), ([], []), ([4], [4]), ([5], [5]), ([], []), ([7], [7]), ([8], [8]), ([], []), ([10], [10]), ([11], [11]), ([], []), ([13], [13]), ([14], [14]), ([6, 9, 12, 15], [6, 9, 12, 15]), ([], []), ([17], [17]), ([18], [18]), ([19], [19]), ([3, 16, 20], [3, 16, 20]), ([], []), ([22, 21, 0, 1, 2, 3, 4, 5, 6, 7, 8, 9, 10, 11, 12, 13, 14, 15, 16, 17, 18, 19, 20, 21, 22], [21, 22])])
def seedcornref37_Read.B6 : List Nat := [0, 1, 3, 7, 0, 16, 48, 0, 128, 384, 0, 1024, 3072, 0, 8192, 24576, 65520, 0, 131072, 393216, 917504, 2097151, 0, 8388607]
theorem seedcornref37_Read.tab6 : rtab .any (opsOf Tryd.f40 6) = seedcornref37_Read.T6 := by kernel_rfl
theorem seedcornref37_Read.bits6 : waitsOk seedcornref37_Read.T6.2 seedcornref37_Read.B6 = true := by kernel_rfl
def seedcornref37_Read.T13 : Bool × List (List Nat × List Nat) := (true, [([], []), ([0], [0]), ([], []), ([], []), ([3], [3]), ([2, 4], [2, 4]), ([5], [5]), ([6], [6]), ([7], [7]), ([1, 8], [1, 8]), ([0, 1, 2, 3, 4, 5, 6, 7, 8, 9], []), ([10, 9, 9, 0, 1, 2, 3, 4, 5, 6, 7, 8, 9], [9, 10])])
def seedcornref37_Read.B13 : List Nat := [0, 1, 0, 0, 8, 28, 60, 124, 252, 511, 1023, 2047]
theorem seedcornref37_Read.tab13 : rtab .any (opsOf Tryd.f40 13) = seedcornref37_Read.T13 := by kernel_rfl
theorem seedcornref37_Read.bits13 : waitsOk seedcornref37_Read.T13.2 seedcornref37_Read.B13 = true := by kernel_rfl
def seedcornref37_Read.T21 : Bool × List (List Nat × List Nat) := (true, [([], []), ([0], [0]), ([], []), ([], []), ([2, 3], [2, 3]), ([4], [4]), ([], []), ([], []), ([7], [7]), ([6, 8], [6, 8]), ([9], [9]), ([], []), ([], []), ([12], [12]), ([11, 13], [11, 13]), ([14], [14]), ([], []), ([], []), ([17], [17]), ([16, 18], [16, 18]), ([19], [19]), ([5, 10, 15, 20], [5, 10, 15, 20]), ([21], [21]), ([1, 22], [1, 22]), ([0, 1, 2, 3, 4, 5, 6, 7, 8, 9, 10, 11, 12, 13, 14, 15, 16, 17, 18, 19, 20, 21, 22, 23], []), ([24, 23, 23, 0, 1, 2, 3, 4, 5, 6, 7, 8, 9, 10, 11, 12, 13, 14, 15, 16, 17, 18, 19, 20, 21, 22, 23], [23, 24])])
def seedcornref37_Read.B21 : List Nat := [0, 1, 0, 0, 12, 28, 0, 0, 128, 448, 960, 0, 0, 4096, 14336, 30720, 0, 0, 131072, 458752, 983040, 2097148, 4194300, 8388607, 16777215, 33554431]
theorem seedcornref37_Read.tab21 : rtab .any (opsOf Tryd.f40 21) = seedcornref37_Read.T21 := by kernel_rfl
theorem seedcornref37_Read.bits21 : waitsOk seedcornref37_Read.T21.2 seedcornref37_Read.B21 = true := by kernel_rfl
set_option maxHeartbeats 8000000 in
set_option maxRecDepth 100000 in
theorem seedcornref37_Read.calls (k : Nat) (a0 : ByteArray) (r1 : Int) (r2 : Int) (r3 : Int) (r4 : Int) (r5 : Int) (r6 : List Int) (r7 : List (S24)) (r8 : Int) (r9 : Int) (w : World) (h : seedcornref37_Read.f k a0 = some (r1, r2, r3, r4, r5, r6, r7, r8, r9)) :
    Calls Tryd.prog 40 #[.string a0] w fun e w' => ∃ v5_ v6_ : Value, e = .returned (.tuple #[.agg #[.int .i64 r1, .int .u32 r2, .int .u32 r3, .int .u32 r4, .int .u32 r5, v5_, v6_, .int .i64 r8], .int .i64 r9]) ∧ Kd.R (Kd.int .i64) 3 w' w.heap.size (fun _ => True) v5_ r6 ∧ Kd.R k24 24 w' w.heap.size (fun _ => True) v6_ r7 ∧ Below w.heap.size w w' := by
  have hu46 := Tryd.underlying46
  have hu24 := Tryd.underlying24
  have HB := Aside0.mk (Below.refl w.heap.size w)
  have H : (if (a0.size : Int) < 1 then (seedcornref37_Read.j0 k a0 true) else (if (a0.size : Int) > 2000 then (seedcornref37_Read.j0 k a0 true) else (if 0 < (a0.size : Int) then (seedcornref37_Read.j0 k a0 ((bt a0 0) != 82)) else (none)))) = some (r1, r2, r3, r4, r5, r6, r7, r8, r9) := h
  clear h
  have HC2 := Aside0.mk H
  clear H
  go_enter Tryd.func40, Tryd.ntmps40
  go_upto_region 1 with (first | ((with_reducible refine gate_dst (N := 2) rfl ?_); (try (refine gate_guard (by rfl) ?_; dsimp only)); refine box_event ?hg (N := 2) ?hd (cs := #[.int .i64 0, .int .u32 0, .int .u32 0, .int .u32 0, .int .u32 0, .slice none 0 0, .slice none 0 0, .int .i64 0]) (t := 46) ?hr ?_; (case hd => rfl); (case hg => rfl); (case hr => first | (go_simp; done) | (go_simp; rfl)); intro gb585 hg w3 hbox hb; have n0_ := Aside0.mk (below_step (by repeat (first | (with_reducible first | exact HB.out | apply below_alloc | apply pw_below_drewN | apply below_drew1) | exact HB.out)) hb); have n1_ := Aside0.mk (hbox); have n2_ := Aside0.mk ((by rw [hg]; exact (below_size (by repeat (first | (with_reducible first | exact HB.out | apply below_alloc | apply pw_below_drewN | apply below_drew1) | exact HB.out))) : w.heap.size ≤ gb585)); have n3_ := n2_; clear HB; have HB := n0_; have BK585 := n1_; have GW585 := n2_; have GE585 := n3_; clear n0_ n1_ n2_ n3_; clear hb hbox hg))
  (try simp only [Act.put, List.setIfInBounds_toArray, List.set_cons_zero, List.set_cons_succ])
  go_cut [24] (fun v24 wc => ∃ (kq : Nat) (x24_1 : Bool), v24 = .bool x24_1 ∧ Aside0 (seedcornref37_Read.j0 kq a0 x24_1 = some (r1, r2, r3, r4, r5, r6, r7, r8, r9)) ∧ Aside0 (kq ≤ k) ∧ Aside0 (wc.heap[gb585]? = some (.cells #[.int .i64 0, .int .u32 0, .int .u32 0, .int .u32 0, .int .u32 0, (.slice none 0 0), (.slice none 0 0), .int .i64 0] 46 (0, 0))) ∧ Aside0 (Below w.heap.size w wc))
  case first =>
    have H := HC2.out
    clear HC2
    by_cases c4 : (a0.size : Int) < 1
    · rw [if_pos c4] at H
      have c4b0 : decide ((a0.size : Int) < 1) = true := decide_eq_true c4
      have c4b1 : decide (a0.size < 1) = true := decide_eq_true (by omega)
      clear c4
      (first | rw [c4b0] | (simp only [i64_w, i32_w]; rw [c4b0]) | skip)
      have H' := Aside0.mk H
      clear H
      go_wp2
      go_meet
      case rel => exact ⟨_, (true), (by first | rfl | (simp; done) | (simp [*]; done)), H', ⟨by first | omega | exact Nat.le_refl _⟩, ⟨by (with_reducible repeat (first | refine blk_drewN ?_ _ | refine blk_drew ?_ | refine blk_alloc ?_ _)); exact BK585.out⟩, ⟨by repeat (first | (with_reducible first | exact HB.out | apply below_alloc | apply pw_below_drewN | apply below_drew1 | refine below_set ?_ GE585.out) | exact HB.out)⟩⟩
    · rw [if_neg c4] at H
      have c4b0 : decide ((a0.size : Int) < 1) = false := decide_eq_false c4
      have c4b1 : decide (a0.size < 1) = false := decide_eq_false (by omega)
      clear c4
      (first | rw [c4b0] | (simp only [i64_w, i32_w]; rw [c4b0]) | skip)
      by_cases c5 : (a0.size : Int) > 2000
      · rw [if_pos c5] at H
        have c5b0 : decide (2000 < (a0.size : Int)) = true := decide_eq_true c5
        have c5b1 : decide (2000 < a0.size) = true := decide_eq_true (by omega)
        clear c5
        have H' := Aside0.mk H
        clear H
        go_wp2
        go_meet
        case rel => exact ⟨_, (true), (by first | rfl | (simp; done) | (simp [*]; done)), H', ⟨by first | omega | exact Nat.le_refl _⟩, ⟨by (with_reducible repeat (first | refine blk_drewN ?_ _ | refine blk_drew ?_ | refine blk_alloc ?_ _)); exact BK585.out⟩, ⟨by repeat (first | (with_reducible first | exact HB.out | apply below_alloc | apply pw_below_drewN | apply below_drew1 | refine below_set ?_ GE585.out) | exact HB.out)⟩⟩
      · rw [if_neg c5] at H
        have c5b0 : decide (2000 < (a0.size : Int)) = false := decide_eq_false c5
        have c5b1 : decide (2000 < a0.size) = false := decide_eq_false (by omega)
        clear c5
        by_cases c6 : 0 < (a0.size : Int)
        · rw [if_pos c6] at H
          have c6b0 : decide (0 < (a0.size : Int)) = true := decide_eq_true c6
          have c6b1 : decide (0 < a0.size) = true := decide_eq_true (by omega)
          clear c6
          have H' := Aside0.mk H
          clear H
          have p7 : 0 ≤ (0 : Int) := (by omega)
          have q7 : 0 < a0.size := (by have : (0 : Int) < (a0.size : Int) := of_decide_eq_true (by first | (with_reducible assumption) | assumption); omega)
          have hx7 : ∀ h : 0 < a0.size, ((a0[0]'h).toNat : Int) = bt a0 0 := bt_at a0 0
          clear p7
          have qi7 : (0 < (a0.size : Int)) = True := eq_true (of_decide_eq_true (by first | (with_reducible assumption) | assumption))
          replace q7 := eq_true q7
          go_wp2
          go_meet
          case rel => exact ⟨_, (((bt a0 0) != 82)), (by first | rfl | (simp; done) | (simp [*]; done)), H', ⟨by first | omega | exact Nat.le_refl _⟩, ⟨by (with_reducible repeat (first | refine blk_drewN ?_ _ | refine blk_drew ?_ | refine blk_alloc ?_ _)); exact BK585.out⟩, ⟨by repeat (first | (with_reducible first | exact HB.out | apply below_alloc | apply pw_below_drewN | apply below_drew1 | refine below_set ?_ GE585.out) | exact HB.out)⟩⟩
        · rw [if_neg c6] at H
          exact absurd H (by simp)
  case rest =>
    clear HC2
    try clear p2
    try clear c4
    try clear c4b0
    try clear c4b1
    try clear c5
    try clear c5b0
    try clear c5b1
    try clear c6
    try clear c6b0
    try clear c6b1
    try clear p7
    try clear q7
    try clear hx7
    try clear qi7
    try clear p7
    try clear q7
    obtain ⟨kq, x24_1, rfl, HA, HJ1, BK585, HB⟩ := hcut
    cases kq with
    | zero => exact absurd HA.out (by simp [seedcornref37_Read.j0])
    | succ kj1 =>
      have H := HA.out
      clear HA
      simp only [seedcornref37_Read.j0] at H
      by_cases c8 : x24_1 = true
      · subst c8
        have H1 : (some (0, 0, 0, 0, 0, ([] : List Int), ([] : List (S24)), 0, 7)) = some (r1, r2, r3, r4, r5, r6, r7, r8, r9) := by rw [if_pos rfl] at H; exact H
        clear H
        have H := H1
        clear H1
        simp only [Option.some.injEq, Prod.mk.injEq] at H
        obtain ⟨rfl, rfl, rfl, rfl, rfl, rfl, rfl, rfl, rfl⟩ := H
        obtain ⟨hcz9_0, hcz9_1, hcz9_2, hcz9_3, hcz9_4, hcz9_5, hcz9_6, hcz9_7, hfz9_0, hfz9_1, hfz9_2, hfz9_3, hfz9_4, hfz9_5, hfz9_6, hfz9_7⟩ := HX.cells8 BK585.out
        go_wp2
        refine bodyPost_ret (results_ct rfl _ _ gb585 46 #[.int .i64 0, .int .u32 0, .int .u32 0, .int .u32 0, .int .u32 0, .slice none 0 0, .slice none 0 0, .int .i64 0] (0, 0) _ rfl (by (with_reducible repeat (first | refine blk_drewN ?_ _ | refine blk_drew ?_ | refine blk_alloc ?_ _)); refine blk_put (cs := #[.int .i64 0, .int .u32 0, .int .u32 0, .int .u32 0, .int .u32 0, .slice none 0 0, .slice none 0 0, .int .i64 0]) ?_ 7 _ rfl; (with_reducible repeat (first | refine blk_drewN ?_ _ | refine blk_drew ?_ | refine blk_alloc ?_ _)); refine blk_put (cs := #[.int .i64 0, .int .u32 0, .int .u32 0, .int .u32 0, .int .u32 0, .slice none 0 0, .slice none 0 0, .int .i64 0]) ?_ 6 _ rfl; (with_reducible repeat (first | refine blk_drewN ?_ _ | refine blk_drew ?_ | refine blk_alloc ?_ _)); refine blk_put (cs := #[.int .i64 0, .int .u32 0, .int .u32 0, .int .u32 0, .int .u32 0, .slice none 0 0, .slice none 0 0, .int .i64 0]) ?_ 5 _ rfl; (with_reducible repeat (first | refine blk_drewN ?_ _ | refine blk_drew ?_ | refine blk_alloc ?_ _)); refine blk_put (cs := #[.int .i64 0, .int .u32 0, .int .u32 0, .int .u32 0, .int .u32 0, .slice none 0 0, .slice none 0 0, .int .i64 0]) ?_ 4 _ rfl; (with_reducible repeat (first | refine blk_drewN ?_ _ | refine blk_drew ?_ | refine blk_alloc ?_ _)); refine blk_put (cs := #[.int .i64 0, .int .u32 0, .int .u32 0, .int .u32 0, .int .u32 0, .slice none 0 0, .slice none 0 0, .int .i64 0]) ?_ 3 _ rfl; (with_reducible repeat (first | refine blk_drewN ?_ _ | refine blk_drew ?_ | refine blk_alloc ?_ _)); refine blk_put (cs := #[.int .i64 0, .int .u32 0, .int .u32 0, .int .u32 0, .int .u32 0, .slice none 0 0, .slice none 0 0, .int .i64 0]) ?_ 2 _ rfl; (with_reducible repeat (first | refine blk_drewN ?_ _ | refine blk_drew ?_ | refine blk_alloc ?_ _)); refine blk_put (cs := #[.int .i64 0, .int .u32 0, .int .u32 0, .int .u32 0, .int .u32 0, .slice none 0 0, .slice none 0 0, .int .i64 0]) ?_ 1 _ rfl; (with_reducible repeat (first | refine blk_drewN ?_ _ | refine blk_drew ?_ | refine blk_alloc ?_ _)); refine blk_put (cs := #[.int .i64 0, .int .u32 0, .int .u32 0, .int .u32 0, .int .u32 0, .slice none 0 0, .slice none 0 0, .int .i64 0]) ?_ 0 _ rfl; (with_reducible repeat (first | refine blk_drewN ?_ _ | refine blk_drew ?_ | refine blk_alloc ?_ _)); exact BK585.out) Tryd.underlying46 rfl (by kernel_rfl)) rfl ?_
        exact ⟨_, _, by first | rfl | (simp [errW_none, errW_some] <;> rfl) | (simp [*, errW_none, errW_some] <;> rfl), by first | exact Kd.R_nil _ _ _ _ _ | exact Kd.N_nil _ _ _ _ _ | exact Kd.V_nil _ _ _ _ _ | exact Kd.Q_nil _ _ _ _ _ | exact Kd.S_nil _ _ _ _ _, by first | exact Kd.R_nil _ _ _ _ _ | exact Kd.N_nil _ _ _ _ _ | exact Kd.V_nil _ _ _ _ _ | exact Kd.Q_nil _ _ _ _ _ | exact Kd.S_nil _ _ _ _ _, by repeat (first | (with_reducible first | exact HB.out | apply below_alloc | apply pw_below_drewN | apply below_drew1 | refine below_set ?_ GE585.out) | exact HB.out)⟩
      · replace c8 := Bool.eq_false_iff.mpr c8
        subst c8
        have H1 : (if 1 ≤ (a0.size : Int) then ((seedcornref01_Words.f kj1 (a0.extract 1 a0.size)).bind fun bt586 => (if bt586.2 = 0 then (if (bt586.1.length : Int) < 8 then (seedcornref37_Read.j1 kj1 bt586.1 true) else (if 0 < (bt586.1.length : Int) then (if (rd bt586.1 0) > 6 then (seedcornref37_Read.j1 kj1 bt586.1 true) else (if 5 < (bt586.1.length : Int) then (if (rd bt586.1 5) > 100000000 then (seedcornref37_Read.j1 kj1 bt586.1 true) else (if 6 < (bt586.1.length : Int) then (if (rd bt586.1 6) > 20 then (seedcornref37_Read.j1 kj1 bt586.1 true) else (seedcornref37_Read.j1 kj1 bt586.1 (decide ((bt586.1.length : Int) < (wrap64 (8 + (wrap64 (rd bt586.1 6)))))))) else (none))) else (none))) else (none))) else (seedcornref37_Read.j1 kj1 bt586.1 true))) else (none)) = some (r1, r2, r3, r4, r5, r6, r7, r8, r9) := by rw [if_neg (show ¬ (false = true) by decide)] at H; exact H
        clear H
        have H := H1
        clear H1
        by_cases c10 : 1 ≤ (a0.size : Int)
        · rw [if_pos c10] at H
          have c10b0 := eq_true c10
          have c10b1 : decide (1 ≤ (a0.size : Int)) = true := decide_eq_true c10
          clear c10
          replace H := Option.bind_eq_some_iff.mp H
          obtain ⟨⟨t586, t587⟩, A110, H⟩ := H
          replace H : (if t587 = 0 then (if (t586.length : Int) < 8 then (seedcornref37_Read.j1 kj1 t586 true) else (if 0 < (t586.length : Int) then (if (rd t586 0) > 6 then (seedcornref37_Read.j1 kj1 t586 true) else (if 5 < (t586.length : Int) then (if (rd t586 5) > 100000000 then (seedcornref37_Read.j1 kj1 t586 true) else (if 6 < (t586.length : Int) then (if (rd t586 6) > 20 then (seedcornref37_Read.j1 kj1 t586 true) else (seedcornref37_Read.j1 kj1 t586 (decide ((t586.length : Int) < (wrap64 (8 + (wrap64 (rd t586 6)))))))) else (none))) else (none))) else (none))) else (seedcornref37_Read.j1 kj1 t586 true)) = some (r1, r2, r3, r4, r5, r6, r7, r8, r9) := H
          have A11 := Aside0.mk A110
          clear A110
          have HC12 := Aside0.mk H
          clear H
          go_upto_region 4 with (first | ((with_reducible refine gate_callee (f := 58) rfl ?_); refine goesL_ (some 29) rfl rfl Tryd.func58 (by kernel_rfl) rfl #[.string (a0.extract 1 a0.size)] rfl (by (try simp only [List.map_toArray, List.map_cons, List.map_nil]); first | done | rfl | (simp only [List.length_drop, List.length_take]; rfl)) ?_; (with_reducible refine (seedcornref01_Words.calls kj1 (a0.extract 1 a0.size) t586 t587 _ A11.out).mono ?_); rintro e w13 ⟨v588, rfl, ho0, hb⟩; refine ⟨_, rfl, ?_⟩; have n0_ := Aside0.mk (Kd.R_lower ho0 (below_size (by repeat (first | (with_reducible first | exact HB.out | apply below_alloc | apply pw_below_drewN | apply below_drew1 | refine below_set ?_ GE585.out) | exact HB.out)))); have n1_ := Aside0.mk (blk_below (g := gb585) (by (with_reducible repeat (first | refine blk_drewN ?_ _ | refine blk_drew ?_ | refine blk_alloc ?_ _)); exact BK585.out) hb); have n2_ := Aside0.mk (below_step (by repeat (first | (with_reducible first | exact HB.out | apply below_alloc | apply pw_below_drewN | apply below_drew1 | refine below_set ?_ GE585.out) | exact HB.out)) hb); clear BK585; clear HB; have HO589 := n0_; have BK585 := n1_; have HB := n2_; clear n0_ n1_ n2_; (try clear hb); (try clear hb2); (try clear hk); (try clear hi); (try clear ho0)))
          (try simp only [Act.put, List.setIfInBounds_toArray, List.set_cons_zero, List.set_cons_succ])
          go_cut [66] (fun v66 wc => ∃ (kq : Nat) (x66_11 : Bool), v66 = .bool x66_11 ∧ Aside0 (seedcornref37_Read.j1 kq t586 x66_11 = some (r1, r2, r3, r4, r5, r6, r7, r8, r9)) ∧ Aside0 (kq ≤ kj1) ∧ Aside0 (Kd.R (Kd.int .u32) 22 wc w.heap.size (fun _ => True) v588 t586) ∧ Aside0 (wc.heap[gb585]? = some (.cells #[.int .i64 0, .int .u32 0, .int .u32 0, .int .u32 0, .int .u32 0, (.slice none 0 0), (.slice none 0 0), .int .i64 0] 46 (0, 0))) ∧ Aside0 (Below w.heap.size w wc))
          case first =>
            have H := HC12.out
            clear HC12
            by_cases c14 : t587 = 0
            · rw [if_pos c14] at H
              have c14b0 : (t587 == 0) = true := beq_iff_eq.mpr c14
              have c14b1 : (t587 != 0) = false := bne_eq_false_iff_eq.mpr c14
              clear c14
              (first | rw [c14b0] | (simp only [i64_w, i32_w]; rw [c14b0]) | skip)
              by_cases c15 : (t586.length : Int) < 8
              · rw [if_pos c15] at H
                have c15b0 : decide ((t586.length : Int) < 8) = true := decide_eq_true c15
                have c15b1 : decide (t586.length < 8) = true := decide_eq_true (by omega)
                clear c15
                have H' := Aside0.mk H
                clear H
                obtain ⟨Ao16, co16, eo16⟩ := Kd.R_slice HO589.out
                subst eo16
                go_wp2
                go_meet
                case rel => exact ⟨_, (true), (by first | rfl | (simp; done) | (simp [*]; done)), H', ⟨by have := HJ1.out; first | omega | exact Nat.le_refl _⟩, ⟨by (with_reducible repeat (first | apply Kd.R_alloc | apply Kd.R_drewN | apply Kd.R_drew)); exact HO589.out⟩, ⟨by (with_reducible repeat (first | refine blk_drewN ?_ _ | refine blk_drew ?_ | refine blk_alloc ?_ _)); exact BK585.out⟩, ⟨by repeat (first | (with_reducible first | exact HB.out | apply below_alloc | apply pw_below_drewN | apply below_drew1 | refine below_set ?_ GE585.out) | exact HB.out)⟩⟩
              · rw [if_neg c15] at H
                have c15b0 : decide ((t586.length : Int) < 8) = false := decide_eq_false c15
                have c15b1 : decide (t586.length < 8) = false := decide_eq_false (by omega)
                clear c15
                by_cases c17 : 0 < (t586.length : Int)
                · rw [if_pos c17] at H
                  have c17b0 : decide (0 < (t586.length : Int)) = true := decide_eq_true c17
                  have c17b1 : decide (0 < t586.length) = true := decide_eq_true (by omega)
                  clear c17
                  by_cases c18 : (rd t586 0) > 6
                  · rw [if_pos c18] at H
                    have c18b0 : decide (6 < (rd t586 0)) = true := decide_eq_true c18
                    clear c18
                    have H' := Aside0.mk H
                    clear H
                    obtain ⟨Ao19, co19, eo19⟩ := Kd.R_slice HO589.out
                    subst eo19
                    have p590 : 0 ≤ (0 : Int) := (by omega)
                    have q590 : 0 < (t586.length : Int) := of_decide_eq_true (by first | (with_reducible assumption) | assumption)
                    obtain ⟨ad590, e590, hx590_0⟩ := Kd.at_int (Kd.R_reads' HO589.out).2.2 0 p590 q590
                    cases e590
                    have qi590 : (0 < t586.length) = True := eq_true (by omega)
                    (try rw [show ((0 : Int)).toNat = 0 from rfl] at hx590_0)
                    (try rw [Addr.add_zero'] at hx590_0)
                    replace p590 := eq_true p590
                    replace q590 := eq_true q590
                    go_wp2
                    go_meet
                    case rel => exact ⟨_, (true), (by first | rfl | (simp; done) | (simp [*]; done)), H', ⟨by have := HJ1.out; first | omega | exact Nat.le_refl _⟩, ⟨by (with_reducible repeat (first | apply Kd.R_alloc | apply Kd.R_drewN | apply Kd.R_drew)); exact HO589.out⟩, ⟨by (with_reducible repeat (first | refine blk_drewN ?_ _ | refine blk_drew ?_ | refine blk_alloc ?_ _)); exact BK585.out⟩, ⟨by repeat (first | (with_reducible first | exact HB.out | apply below_alloc | apply pw_below_drewN | apply below_drew1 | refine below_set ?_ GE585.out) | exact HB.out)⟩⟩
                  · rw [if_neg c18] at H
                    have c18b0 : decide (6 < (rd t586 0)) = false := decide_eq_false c18
                    clear c18
                    by_cases c20 : 5 < (t586.length : Int)
                    · rw [if_pos c20] at H
                      have c20b0 : decide (5 < (t586.length : Int)) = true := decide_eq_true c20
                      have c20b1 : decide (5 < t586.length) = true := decide_eq_true (by omega)
                      clear c20
                      by_cases c21 : (rd t586 5) > 100000000
                      · rw [if_pos c21] at H
                        have c21b0 : decide (100000000 < (rd t586 5)) = true := decide_eq_true c21
                        clear c21
                        have H' := Aside0.mk H
                        clear H
                        obtain ⟨Ao22, co22, eo22⟩ := Kd.R_slice HO589.out
                        subst eo22
                        have p590 : 0 ≤ (0 : Int) := (by omega)
                        have q590 : 0 < (t586.length : Int) := of_decide_eq_true (by first | (with_reducible assumption) | assumption)
                        obtain ⟨ad590, e590, hx590_0⟩ := Kd.at_int (Kd.R_reads' HO589.out).2.2 0 p590 q590
                        cases e590
                        have qi590 : (0 < t586.length) = True := eq_true (by omega)
                        (try rw [show ((0 : Int)).toNat = 0 from rfl] at hx590_0)
                        (try rw [Addr.add_zero'] at hx590_0)
                        replace p590 := eq_true p590
                        replace q590 := eq_true q590
                        have p591 : 0 ≤ (5 : Int) := (by omega)
                        have q591 : 5 < (t586.length : Int) := of_decide_eq_true (by first | (with_reducible assumption) | assumption)
                        obtain ⟨ad591, e591, hx591_0⟩ := Kd.at_int (Kd.R_reads' HO589.out).2.2 5 p591 q591
                        obtain rfl : ad590 = ad591 := (by injection e591)
                        (try simp only [show (5 : Int).toNat = 5 from rfl, Nat.reduceMul, Nat.reduceEqDiff, Go.Addr.add, ↓reduceIte] at hx591_0)
                        have qi591 : (5 < t586.length) = True := eq_true (by omega)
                        (try rw [show ((5 : Int)).toNat = 5 from rfl] at hx591_0)
                        replace p591 := eq_true p591
                        replace q591 := eq_true q591
                        go_wp2
                        go_meet
                        case rel => exact ⟨_, (true), (by first | rfl | (simp; done) | (simp [*]; done)), H', ⟨by have := HJ1.out; first | omega | exact Nat.le_refl _⟩, ⟨by (with_reducible repeat (first | apply Kd.R_alloc | apply Kd.R_drewN | apply Kd.R_drew)); exact HO589.out⟩, ⟨by (with_reducible repeat (first | refine blk_drewN ?_ _ | refine blk_drew ?_ | refine blk_alloc ?_ _)); exact BK585.out⟩, ⟨by repeat (first | (with_reducible first | exact HB.out | apply below_alloc | apply pw_below_drewN | apply below_drew1 | refine below_set ?_ GE585.out) | exact HB.out)⟩⟩
                      · rw [if_neg c21] at H
                        have c21b0 : decide (100000000 < (rd t586 5)) = false := decide_eq_false c21
                        clear c21
                        by_cases c23 : 6 < (t586.length : Int)
                        · rw [if_pos c23] at H
                          have c23b0 : decide (6 < (t586.length : Int)) = true := decide_eq_true c23
                          have c23b1 : decide (6 < t586.length) = true := decide_eq_true (by omega)
                          clear c23
                          by_cases c24 : (rd t586 6) > 20
                          · rw [if_pos c24] at H
                            have c24b0 : decide (20 < (rd t586 6)) = true := decide_eq_true c24
                            clear c24
                            have H' := Aside0.mk H
                            clear H
                            obtain ⟨Ao25, co25, eo25⟩ := Kd.R_slice HO589.out
                            subst eo25
                            have p590 : 0 ≤ (0 : Int) := (by omega)
                            have q590 : 0 < (t586.length : Int) := of_decide_eq_true (by first | (with_reducible assumption) | assumption)
                            obtain ⟨ad590, e590, hx590_0⟩ := Kd.at_int (Kd.R_reads' HO589.out).2.2 0 p590 q590
                            cases e590
                            have qi590 : (0 < t586.length) = True := eq_true (by omega)
                            (try rw [show ((0 : Int)).toNat = 0 from rfl] at hx590_0)
                            (try rw [Addr.add_zero'] at hx590_0)
                            replace p590 := eq_true p590
                            replace q590 := eq_true q590
                            have p591 : 0 ≤ (5 : Int) := (by omega)
                            have q591 : 5 < (t586.length : Int) := of_decide_eq_true (by first | (with_reducible assumption) | assumption)
                            obtain ⟨ad591, e591, hx591_0⟩ := Kd.at_int (Kd.R_reads' HO589.out).2.2 5 p591 q591
                            obtain rfl : ad590 = ad591 := (by injection e591)
                            (try simp only [show (5 : Int).toNat = 5 from rfl, Nat.reduceMul, Nat.reduceEqDiff, Go.Addr.add, ↓reduceIte] at hx591_0)
                            have qi591 : (5 < t586.length) = True := eq_true (by omega)
                            (try rw [show ((5 : Int)).toNat = 5 from rfl] at hx591_0)
                            replace p591 := eq_true p591
                            replace q591 := eq_true q591
                            have p592 : 0 ≤ (6 : Int) := (by omega)
                            have q592 : 6 < (t586.length : Int) := of_decide_eq_true (by first | (with_reducible assumption) | assumption)
                            obtain ⟨ad592, e592, hx592_0⟩ := Kd.at_int (Kd.R_reads' HO589.out).2.2 6 p592 q592
                            obtain rfl : ad590 = ad592 := (by injection e592)
                            (try simp only [show (6 : Int).toNat = 6 from rfl, Nat.reduceMul, Nat.reduceEqDiff, Go.Addr.add, ↓reduceIte] at hx592_0)
                            have qi592 : (6 < t586.length) = True := eq_true (by omega)
                            (try rw [show ((6 : Int)).toNat = 6 from rfl] at hx592_0)
                            replace p592 := eq_true p592
                            replace q592 := eq_true q592
                            go_wp2
                            go_meet
                            case rel => exact ⟨_, (true), (by first | rfl | (simp; done) | (simp [*]; done)), H', ⟨by have := HJ1.out; first | omega | exact Nat.le_refl _⟩, ⟨by (with_reducible repeat (first | apply Kd.R_alloc | apply Kd.R_drewN | apply Kd.R_drew)); exact HO589.out⟩, ⟨by (with_reducible repeat (first | refine blk_drewN ?_ _ | refine blk_drew ?_ | refine blk_alloc ?_ _)); exact BK585.out⟩, ⟨by repeat (first | (with_reducible first | exact HB.out | apply below_alloc | apply pw_below_drewN | apply below_drew1 | refine below_set ?_ GE585.out) | exact HB.out)⟩⟩
                          · rw [if_neg c24] at H
                            have c24b0 : decide (20 < (rd t586 6)) = false := decide_eq_false c24
                            clear c24
                            have H' := Aside0.mk H
                            clear H
                            obtain ⟨Ao26, co26, eo26⟩ := Kd.R_slice HO589.out
                            subst eo26
                            have p590 : 0 ≤ (0 : Int) := (by omega)
                            have q590 : 0 < (t586.length : Int) := of_decide_eq_true (by first | (with_reducible assumption) | assumption)
                            obtain ⟨ad590, e590, hx590_0⟩ := Kd.at_int (Kd.R_reads' HO589.out).2.2 0 p590 q590
                            cases e590
                            have qi590 : (0 < t586.length) = True := eq_true (by omega)
                            (try rw [show ((0 : Int)).toNat = 0 from rfl] at hx590_0)
                            (try rw [Addr.add_zero'] at hx590_0)
                            replace p590 := eq_true p590
                            replace q590 := eq_true q590
                            have p591 : 0 ≤ (5 : Int) := (by omega)
                            have q591 : 5 < (t586.length : Int) := of_decide_eq_true (by first | (with_reducible assumption) | assumption)
                            obtain ⟨ad591, e591, hx591_0⟩ := Kd.at_int (Kd.R_reads' HO589.out).2.2 5 p591 q591
                            obtain rfl : ad590 = ad591 := (by injection e591)
                            (try simp only [show (5 : Int).toNat = 5 from rfl, Nat.reduceMul, Nat.reduceEqDiff, Go.Addr.add, ↓reduceIte] at hx591_0)
                            have qi591 : (5 < t586.length) = True := eq_true (by omega)
                            (try rw [show ((5 : Int)).toNat = 5 from rfl] at hx591_0)
                            replace p591 := eq_true p591
                            replace q591 := eq_true q591
                            have p592 : 0 ≤ (6 : Int) := (by omega)
                            have q592 : 6 < (t586.length : Int) := of_decide_eq_true (by first | (with_reducible assumption) | assumption)
                            obtain ⟨ad592, e592, hx592_0⟩ := Kd.at_int (Kd.R_reads' HO589.out).2.2 6 p592 q592
                            obtain rfl : ad590 = ad592 := (by injection e592)
                            (try simp only [show (6 : Int).toNat = 6 from rfl, Nat.reduceMul, Nat.reduceEqDiff, Go.Addr.add, ↓reduceIte] at hx592_0)
                            have qi592 : (6 < t586.length) = True := eq_true (by omega)
                            (try rw [show ((6 : Int)).toNat = 6 from rfl] at hx592_0)
                            replace p592 := eq_true p592
                            replace q592 := eq_true q592
                            have p593 : 0 ≤ (6 : Int) := (by omega)
                            have q593 : 6 < (t586.length : Int) := of_decide_eq_true (by first | (with_reducible assumption) | assumption)
                            obtain ⟨ad593, e593, hx593_0⟩ := Kd.at_int (Kd.R_reads' HO589.out).2.2 6 p593 q593
                            obtain rfl : ad590 = ad593 := (by injection e593)
                            (try simp only [show (6 : Int).toNat = 6 from rfl, Nat.reduceMul, Nat.reduceEqDiff, Go.Addr.add, ↓reduceIte] at hx593_0)
                            have qi593 : (6 < t586.length) = True := eq_true (by omega)
                            (try rw [show ((6 : Int)).toNat = 6 from rfl] at hx593_0)
                            replace p593 := eq_true p593
                            replace q593 := eq_true q593
                            go_wp2
                            go_meet
                            case rel => exact ⟨_, (decide ((t586.length : Int) < (wrap64 (8 + (wrap64 (rd t586 6)))))), (by first | rfl | (simp; done) | (simp [*]; done)), H', ⟨by have := HJ1.out; first | omega | exact Nat.le_refl _⟩, ⟨by (with_reducible repeat (first | apply Kd.R_alloc | apply Kd.R_drewN | apply Kd.R_drew)); exact HO589.out⟩, ⟨by (with_reducible repeat (first | refine blk_drewN ?_ _ | refine blk_drew ?_ | refine blk_alloc ?_ _)); exact BK585.out⟩, ⟨by repeat (first | (with_reducible first | exact HB.out | apply below_alloc | apply pw_below_drewN | apply below_drew1 | refine below_set ?_ GE585.out) | exact HB.out)⟩⟩
                        · rw [if_neg c23] at H
                          exact absurd H (by simp)
                    · rw [if_neg c20] at H
                      exact absurd H (by simp)
                · rw [if_neg c17] at H
                  exact absurd H (by simp)
            · rw [if_neg c14] at H
              have c14b0 : (t587 == 0) = false := beq_eq_false_iff_ne.mpr c14
              have c14b1 : (t587 != 0) = true := bne_iff_ne.mpr c14
              (first | rw [c14b0] | (simp only [i64_w, i32_w]; rw [c14b0]) | skip)
              have H' := Aside0.mk H
              clear H
              go_wp2
              go_meet
              case rel => exact ⟨_, (true), (by first | rfl | (simp; done) | (simp [*]; done)), H', ⟨by have := HJ1.out; first | omega | exact Nat.le_refl _⟩, ⟨by (with_reducible repeat (first | apply Kd.R_alloc | apply Kd.R_drewN | apply Kd.R_drew)); exact HO589.out⟩, ⟨by (with_reducible repeat (first | refine blk_drewN ?_ _ | refine blk_drew ?_ | refine blk_alloc ?_ _)); exact BK585.out⟩, ⟨by repeat (first | (with_reducible first | exact HB.out | apply below_alloc | apply pw_below_drewN | apply below_drew1 | refine below_set ?_ GE585.out) | exact HB.out)⟩⟩
          case rest =>
            clear HC12
            try clear c1
            try clear c2
            try clear p2
            try clear c4
            try clear c4b0
            try clear c4b1
            try clear c5
            try clear c5b0
            try clear c5b1
            try clear p5
            try clear q5
            try clear hx5
            try clear qi5
            try clear c6
            try clear c6b0
            try clear c6b1
            try clear p6
            try clear p7
            try clear q7
            try clear hx7
            try clear qi7
            try clear c8
            try clear c10
            try clear c10b0
            try clear c10b1
            try clear c14
            try clear c14b0
            try clear c14b1
            try clear c15
            try clear c15b0
            try clear c15b1
            try clear c17
            try clear c17b0
            try clear c17b1
            try clear c18
            try clear c18b0
            try clear c20
            try clear c20b0
            try clear c20b1
            try clear c21
            try clear c21b0
            try clear c23
            try clear c23b0
            try clear c23b1
            try clear c24
            try clear c24b0
            try clear hcz9_0 hcz9_1 hcz9_2 hcz9_3 hcz9_4 hcz9_5 hcz9_6 hcz9_7
            try clear hfz9_0 hfz9_1 hfz9_2 hfz9_3 hfz9_4 hfz9_5 hfz9_6 hfz9_7
            try clear hx590_0
            try clear hx591_0
            try clear hx592_0
            try clear hx593_0
            try clear p2
            try clear p590
            try clear p591
            try clear p592
            try clear p593
            try clear p7
            try clear q590
            try clear q591
            try clear q592
            try clear q593
            try clear q7
            obtain ⟨kq, x66_11, rfl, HA, HJ11, HO_4, BK585, HB⟩ := hcut
            cases kq with
            | zero => exact absurd HA.out (by simp [seedcornref37_Read.j1])
            | succ kj11 =>
              have H := HA.out
              clear HA
              simp only [seedcornref37_Read.j1] at H
              by_cases c27 : x66_11 = true
              · subst c27
                have H1 : (some (0, 0, 0, 0, 0, ([] : List Int), ([] : List (S24)), 0, 7)) = some (r1, r2, r3, r4, r5, r6, r7, r8, r9) := by rw [if_pos rfl] at H; exact H
                clear H
                have H := H1
                clear H1
                simp only [Option.some.injEq, Prod.mk.injEq] at H
                obtain ⟨rfl, rfl, rfl, rfl, rfl, rfl, rfl, rfl, rfl⟩ := H
                obtain ⟨hcz28_0, hcz28_1, hcz28_2, hcz28_3, hcz28_4, hcz28_5, hcz28_6, hcz28_7, hfz28_0, hfz28_1, hfz28_2, hfz28_3, hfz28_4, hfz28_5, hfz28_6, hfz28_7⟩ := HX.cells8 BK585.out
                go_wp2
                refine bodyPost_ret (results_ct rfl _ _ gb585 46 #[.int .i64 0, .int .u32 0, .int .u32 0, .int .u32 0, .int .u32 0, .slice none 0 0, .slice none 0 0, .int .i64 0] (0, 0) _ rfl (by (with_reducible repeat (first | refine blk_drewN ?_ _ | refine blk_drew ?_ | refine blk_alloc ?_ _)); refine blk_put (cs := #[.int .i64 0, .int .u32 0, .int .u32 0, .int .u32 0, .int .u32 0, .slice none 0 0, .slice none 0 0, .int .i64 0]) ?_ 7 _ rfl; (with_reducible repeat (first | refine blk_drewN ?_ _ | refine blk_drew ?_ | refine blk_alloc ?_ _)); refine blk_put (cs := #[.int .i64 0, .int .u32 0, .int .u32 0, .int .u32 0, .int .u32 0, .slice none 0 0, .slice none 0 0, .int .i64 0]) ?_ 6 _ rfl; (with_reducible repeat (first | refine blk_drewN ?_ _ | refine blk_drew ?_ | refine blk_alloc ?_ _)); refine blk_put (cs := #[.int .i64 0, .int .u32 0, .int .u32 0, .int .u32 0, .int .u32 0, .slice none 0 0, .slice none 0 0, .int .i64 0]) ?_ 5 _ rfl; (with_reducible repeat (first | refine blk_drewN ?_ _ | refine blk_drew ?_ | refine blk_alloc ?_ _)); refine blk_put (cs := #[.int .i64 0, .int .u32 0, .int .u32 0, .int .u32 0, .int .u32 0, .slice none 0 0, .slice none 0 0, .int .i64 0]) ?_ 4 _ rfl; (with_reducible repeat (first | refine blk_drewN ?_ _ | refine blk_drew ?_ | refine blk_alloc ?_ _)); refine blk_put (cs := #[.int .i64 0, .int .u32 0, .int .u32 0, .int .u32 0, .int .u32 0, .slice none 0 0, .slice none 0 0, .int .i64 0]) ?_ 3 _ rfl; (with_reducible repeat (first | refine blk_drewN ?_ _ | refine blk_drew ?_ | refine blk_alloc ?_ _)); refine blk_put (cs := #[.int .i64 0, .int .u32 0, .int .u32 0, .int .u32 0, .int .u32 0, .slice none 0 0, .slice none 0 0, .int .i64 0]) ?_ 2 _ rfl; (with_reducible repeat (first | refine blk_drewN ?_ _ | refine blk_drew ?_ | refine blk_alloc ?_ _)); refine blk_put (cs := #[.int .i64 0, .int .u32 0, .int .u32 0, .int .u32 0, .int .u32 0, .slice none 0 0, .slice none 0 0, .int .i64 0]) ?_ 1 _ rfl; (with_reducible repeat (first | refine blk_drewN ?_ _ | refine blk_drew ?_ | refine blk_alloc ?_ _)); refine blk_put (cs := #[.int .i64 0, .int .u32 0, .int .u32 0, .int .u32 0, .int .u32 0, .slice none 0 0, .slice none 0 0, .int .i64 0]) ?_ 0 _ rfl; (with_reducible repeat (first | refine blk_drewN ?_ _ | refine blk_drew ?_ | refine blk_alloc ?_ _)); exact BK585.out) Tryd.underlying46 rfl (by kernel_rfl)) rfl ?_
                exact ⟨_, _, by first | rfl | (simp [errW_none, errW_some] <;> rfl) | (simp [*, errW_none, errW_some] <;> rfl), by first | exact Kd.R_nil _ _ _ _ _ | exact Kd.N_nil _ _ _ _ _ | exact Kd.V_nil _ _ _ _ _ | exact Kd.Q_nil _ _ _ _ _ | exact Kd.S_nil _ _ _ _ _, by first | exact Kd.R_nil _ _ _ _ _ | exact Kd.N_nil _ _ _ _ _ | exact Kd.V_nil _ _ _ _ _ | exact Kd.Q_nil _ _ _ _ _ | exact Kd.S_nil _ _ _ _ _, by repeat (first | (with_reducible first | exact HB.out | apply below_alloc | apply pw_below_drewN | apply below_drew1 | refine below_set ?_ GE585.out) | exact HB.out)⟩
              · replace c27 := Bool.eq_false_iff.mpr c27
                subst c27
                have H1 : (if 0 < (t586.length : Int) then (if 1 < (t586.length : Int) then (if 2 < (t586.length : Int) then (if 3 < (t586.length : Int) then (if 4 < (t586.length : Int) then (if 5 < (t586.length : Int) then (if 6 < (t586.length : Int) then (seedcornref37_Read.l0 kj11 t586 (wrap64 (rd t586 6)) 0 (wrap64 (rd t586 0)) (rd t586 1) (rd t586 2) (rd t586 3) (rd t586 4) ([] : List Int) (wrap64 (rd t586 5))) else (none)) else (none)) else (none)) else (none)) else (none)) else (none)) else (none)) = some (r1, r2, r3, r4, r5, r6, r7, r8, r9) := by rw [if_neg (show ¬ (false = true) by decide)] at H; exact H
                clear H
                have H := H1
                clear H1
                by_cases c29 : 0 < (t586.length : Int)
                · rw [if_pos c29] at H
                  have c29b0 : decide (0 < (t586.length : Int)) = true := decide_eq_true c29
                  have c29b1 : decide (0 < t586.length) = true := decide_eq_true (by omega)
                  clear c29
                  by_cases c30 : 1 < (t586.length : Int)
                  · rw [if_pos c30] at H
                    have c30b0 : decide (1 < (t586.length : Int)) = true := decide_eq_true c30
                    have c30b1 : decide (1 < t586.length) = true := decide_eq_true (by omega)
                    clear c30
                    by_cases c31 : 2 < (t586.length : Int)
                    · rw [if_pos c31] at H
                      have c31b0 : decide (2 < (t586.length : Int)) = true := decide_eq_true c31
                      have c31b1 : decide (2 < t586.length) = true := decide_eq_true (by omega)
                      clear c31
                      by_cases c32 : 3 < (t586.length : Int)
                      · rw [if_pos c32] at H
                        have c32b0 : decide (3 < (t586.length : Int)) = true := decide_eq_true c32
                        have c32b1 : decide (3 < t586.length) = true := decide_eq_true (by omega)
                        clear c32
                        by_cases c33 : 4 < (t586.length : Int)
                        · rw [if_pos c33] at H
                          have c33b0 : decide (4 < (t586.length : Int)) = true := decide_eq_true c33
                          have c33b1 : decide (4 < t586.length) = true := decide_eq_true (by omega)
                          clear c33
                          by_cases c34 : 5 < (t586.length : Int)
                          · rw [if_pos c34] at H
                            have c34b0 : decide (5 < (t586.length : Int)) = true := decide_eq_true c34
                            have c34b1 : decide (5 < t586.length) = true := decide_eq_true (by omega)
                            clear c34
                            by_cases c35 : 6 < (t586.length : Int)
                            · rw [if_pos c35] at H
                              have c35b0 : decide (6 < (t586.length : Int)) = true := decide_eq_true c35
                              have c35b1 : decide (6 < t586.length) = true := decide_eq_true (by omega)
                              clear c35
                              have H' := Aside0.mk H
                              clear H
                              try go_wp2
                              have n0_ := Aside0.mk (Kd.R_drew HO_4.out)
                              have n1_ := Aside0.mk (blk_drew BK585.out)
                              have n2_ := Aside0.mk (below_drew1 HB.out)
                              clear HO_4
                              clear BK585
                              clear HB
                              have HO_4 := n0_
                              have BK585 := n1_
                              have HB := n2_
                              clear n0_ n1_ n2_
                              obtain ⟨Ao37, co37, eo37⟩ := Kd.R_slice HO_4.out
                              (first | subst eo37 | (injection eo37 with f1_ f2_ f3_; have f4_ := f1_.symm; have f5_ := f3_.symm; clear f1_ f2_ f3_; subst f4_; subst f5_))
                              have p594 : 0 ≤ (0 : Int) := (by omega)
                              have q594 : 0 < (t586.length : Int) := of_decide_eq_true (by first | (with_reducible assumption) | assumption)
                              obtain ⟨ad594, e594, hx594_0⟩ := Kd.at_int (Kd.R_reads' HO_4.out).2.2 0 p594 q594
                              cases e594
                              have qi594 : (0 < t586.length) = True := eq_true (by omega)
                              (try rw [show ((0 : Int)).toNat = 0 from rfl] at hx594_0)
                              (try rw [Addr.add_zero'] at hx594_0)
                              replace p594 := eq_true p594
                              replace q594 := eq_true q594
                              have p595 : 0 ≤ (1 : Int) := (by omega)
                              have q595 : 1 < (t586.length : Int) := of_decide_eq_true (by first | (with_reducible assumption) | assumption)
                              obtain ⟨ad595, e595, hx595_0⟩ := Kd.at_int (Kd.R_reads' HO_4.out).2.2 1 p595 q595
                              obtain rfl : ad594 = ad595 := (by injection e595)
                              (try simp only [show (1 : Int).toNat = 1 from rfl, Nat.reduceMul, Nat.reduceEqDiff, Go.Addr.add, ↓reduceIte] at hx595_0)
                              have qi595 : (1 < t586.length) = True := eq_true (by omega)
                              (try rw [show ((1 : Int)).toNat = 1 from rfl] at hx595_0)
                              replace p595 := eq_true p595
                              replace q595 := eq_true q595
                              have p596 : 0 ≤ (2 : Int) := (by omega)
                              have q596 : 2 < (t586.length : Int) := of_decide_eq_true (by first | (with_reducible assumption) | assumption)
                              obtain ⟨ad596, e596, hx596_0⟩ := Kd.at_int (Kd.R_reads' HO_4.out).2.2 2 p596 q596
                              obtain rfl : ad594 = ad596 := (by injection e596)
                              (try simp only [show (2 : Int).toNat = 2 from rfl, Nat.reduceMul, Nat.reduceEqDiff, Go.Addr.add, ↓reduceIte] at hx596_0)
                              have qi596 : (2 < t586.length) = True := eq_true (by omega)
                              (try rw [show ((2 : Int)).toNat = 2 from rfl] at hx596_0)
                              replace p596 := eq_true p596
                              replace q596 := eq_true q596
                              have p597 : 0 ≤ (3 : Int) := (by omega)
                              have q597 : 3 < (t586.length : Int) := of_decide_eq_true (by first | (with_reducible assumption) | assumption)
                              obtain ⟨ad597, e597, hx597_0⟩ := Kd.at_int (Kd.R_reads' HO_4.out).2.2 3 p597 q597
                              obtain rfl : ad594 = ad597 := (by injection e597)
                              (try simp only [show (3 : Int).toNat = 3 from rfl, Nat.reduceMul, Nat.reduceEqDiff, Go.Addr.add, ↓reduceIte] at hx597_0)
                              have qi597 : (3 < t586.length) = True := eq_true (by omega)
                              (try rw [show ((3 : Int)).toNat = 3 from rfl] at hx597_0)
                              replace p597 := eq_true p597
                              replace q597 := eq_true q597
                              have p598 : 0 ≤ (4 : Int) := (by omega)
                              have q598 : 4 < (t586.length : Int) := of_decide_eq_true (by first | (with_reducible assumption) | assumption)
                              obtain ⟨ad598, e598, hx598_0⟩ := Kd.at_int (Kd.R_reads' HO_4.out).2.2 4 p598 q598
                              obtain rfl : ad594 = ad598 := (by injection e598)
                              (try simp only [show (4 : Int).toNat = 4 from rfl, Nat.reduceMul, Nat.reduceEqDiff, Go.Addr.add, ↓reduceIte] at hx598_0)
                              have qi598 : (4 < t586.length) = True := eq_true (by omega)
                              (try rw [show ((4 : Int)).toNat = 4 from rfl] at hx598_0)
                              replace p598 := eq_true p598
                              replace q598 := eq_true q598
                              have p599 : 0 ≤ (5 : Int) := (by omega)
                              have q599 : 5 < (t586.length : Int) := of_decide_eq_true (by first | (with_reducible assumption) | assumption)
                              obtain ⟨ad599, e599, hx599_0⟩ := Kd.at_int (Kd.R_reads' HO_4.out).2.2 5 p599 q599
                              obtain rfl : ad594 = ad599 := (by injection e599)
                              (try simp only [show (5 : Int).toNat = 5 from rfl, Nat.reduceMul, Nat.reduceEqDiff, Go.Addr.add, ↓reduceIte] at hx599_0)
                              have qi599 : (5 < t586.length) = True := eq_true (by omega)
                              (try rw [show ((5 : Int)).toNat = 5 from rfl] at hx599_0)
                              replace p599 := eq_true p599
                              replace q599 := eq_true q599
                              refine start_ (n := 24) (S := fun w' => w'.cell? ad594 = some (.int .u32 (rd t586 0)) ∧ w'.cell? ⟨ad594.block, ad594.off + 1, none⟩ = some (.int .u32 (rd t586 1)) ∧ w'.cell? ⟨ad594.block, ad594.off + 2, none⟩ = some (.int .u32 (rd t586 2)) ∧ w'.cell? ⟨ad594.block, ad594.off + 3, none⟩ = some (.int .u32 (rd t586 3)) ∧ w'.cell? ⟨ad594.block, ad594.off + 4, none⟩ = some (.int .u32 (rd t586 4)) ∧ w'.cell? ⟨ad594.block, ad594.off + 5, none⟩ = some (.int .u32 (rd t586 5))) (ds := []) #[false, false, false, false, false, false, false, false, false, false, false, false, false, false, false, false, false, false, false, false, false, false, false, false] (by kernel_rfl) rfl rfl ⟨hx594_0, hx595_0, hx596_0, hx597_0, hx598_0, hx599_0⟩ (fun hHeld => ?_); refine with_tabW seedcornref37_Read.tab6 seedcornref37_Read.bits6 (fun HT_ HW_ => ?_)
                              generalize wc.drew = w36 at HO_4 BK585 HB hx594_0 hx595_0 hx596_0 hx597_0 hx598_0 hx599_0 hHeld ⊢
                              refine pure_ (i := 0) (N := some 68) (v := ?_) (a' := ?_) #[true, false, false, false, false, false, false, false, false, false, false, false, false, false, false, false, false, false, false, false, false, false, false, false] rfl rfl (any_of HT_.out (by kernel_rfl)) (fun _ _ _ h => h) (Or.inl ⟨by rfl, ?_⟩) ?_ ?_
                              rotate_left
                              · intro w'
                                go_simp
                                with_reducible rfl
                              rotate_left
                              · simp only [Act.put, List.setIfInBounds_toArray, List.set_cons_zero, List.set_cons_succ, i64_w, i32_w]
                                rfl
                              refine pure_ (i := 1) (N := some 69) (v := ?_) (a' := ?_) #[true, true, false, false, false, false, false, false, false, false, false, false, false, false, false, false, false, false, false, false, false, false, false, false] rfl rfl (any_of HT_.out (by kernel_rfl)) (fun _ _ _ h => h) (Or.inl ⟨by rfl, ?_⟩) ?_ ?_
                              rotate_left
                              · intro w'
                                go_simp
                                with_reducible rfl
                              rotate_left
                              · simp only [Act.put, List.setIfInBounds_toArray, List.set_cons_zero, List.set_cons_succ, i64_w, i32_w]
                                rfl
                              refine pure_ (i := 4) (N := some 72) (v := ?_) (a' := ?_) #[true, true, false, false, true, false, false, false, false, false, false, false, false, false, false, false, false, false, false, false, false, false, false, false] rfl rfl (any_of HT_.out (by kernel_rfl)) (fun _ _ _ h => h) (Or.inl ⟨by rfl, ?_⟩) ?_ ?_
                              rotate_left
                              · intro w'
                                go_simp
                                with_reducible rfl
                              rotate_left
                              · simp only [Act.put, List.setIfInBounds_toArray, List.set_cons_zero, List.set_cons_succ, i64_w, i32_w]
                                rfl
                              refine pure_ (i := 5) (N := some 73) (v := ?_) (a' := ?_) #[true, true, false, false, true, true, false, false, false, false, false, false, false, false, false, false, false, false, false, false, false, false, false, false] rfl rfl (any_of HT_.out (by kernel_rfl)) (fun _ _ _ h => h) (Or.inl ⟨by rfl, ?_⟩) ?_ ?_
                              rotate_left
                              · intro w'
                                go_simp
                                with_reducible rfl
                              rotate_left
                              · simp only [Act.put, List.setIfInBounds_toArray, List.set_cons_zero, List.set_cons_succ, i64_w, i32_w]
                                rfl
                              refine pure_ (i := 7) (N := some 75) (v := ?_) (a' := ?_) #[true, true, false, false, true, true, false, true, false, false, false, false, false, false, false, false, false, false, false, false, false, false, false, false] rfl rfl (any_of HT_.out (by kernel_rfl)) (fun _ _ _ h => h) (Or.inl ⟨by rfl, ?_⟩) ?_ ?_
                              rotate_left
                              · intro w'
                                go_simp
                                with_reducible rfl
                              rotate_left
                              · simp only [Act.put, List.setIfInBounds_toArray, List.set_cons_zero, List.set_cons_succ, i64_w, i32_w]
                                rfl
                              refine pure_ (i := 8) (N := some 76) (v := ?_) (a' := ?_) #[true, true, false, false, true, true, false, true, true, false, false, false, false, false, false, false, false, false, false, false, false, false, false, false] rfl rfl (any_of HT_.out (by kernel_rfl)) (fun _ _ _ h => h) (Or.inl ⟨by rfl, ?_⟩) ?_ ?_
                              rotate_left
                              · intro w'
                                go_simp
                                with_reducible rfl
                              rotate_left
                              · simp only [Act.put, List.setIfInBounds_toArray, List.set_cons_zero, List.set_cons_succ, i64_w, i32_w]
                                rfl
                              refine pure_ (i := 10) (N := some 78) (v := ?_) (a' := ?_) #[true, true, false, false, true, true, false, true, true, false, true, false, false, false, false, false, false, false, false, false, false, false, false, false] rfl rfl (any_of HT_.out (by kernel_rfl)) (fun _ _ _ h => h) (Or.inl ⟨by rfl, ?_⟩) ?_ ?_
                              rotate_left
                              · intro w'
                                go_simp
                                with_reducible rfl
                              rotate_left
                              · simp only [Act.put, List.setIfInBounds_toArray, List.set_cons_zero, List.set_cons_succ, i64_w, i32_w]
                                rfl
                              refine pure_ (i := 11) (N := some 79) (v := ?_) (a' := ?_) #[true, true, false, false, true, true, false, true, true, false, true, true, false, false, false, false, false, false, false, false, false, false, false, false] rfl rfl (any_of HT_.out (by kernel_rfl)) (fun _ _ _ h => h) (Or.inl ⟨by rfl, ?_⟩) ?_ ?_
                              rotate_left
                              · intro w'
                                go_simp
                                with_reducible rfl
                              rotate_left
                              · simp only [Act.put, List.setIfInBounds_toArray, List.set_cons_zero, List.set_cons_succ, i64_w, i32_w]
                                rfl
                              refine pure_ (i := 13) (N := some 81) (v := ?_) (a' := ?_) #[true, true, false, false, true, true, false, true, true, false, true, true, false, true, false, false, false, false, false, false, false, false, false, false] rfl rfl (any_of HT_.out (by kernel_rfl)) (fun _ _ _ h => h) (Or.inl ⟨by rfl, ?_⟩) ?_ ?_
                              rotate_left
                              · intro w'
                                go_simp
                                with_reducible rfl
                              rotate_left
                              · simp only [Act.put, List.setIfInBounds_toArray, List.set_cons_zero, List.set_cons_succ, i64_w, i32_w]
                                rfl
                              refine pure_ (i := 14) (N := some 82) (v := ?_) (a' := ?_) #[true, true, false, false, true, true, false, true, true, false, true, true, false, true, true, false, false, false, false, false, false, false, false, false] rfl rfl (any_of HT_.out (by kernel_rfl)) (fun _ _ _ h => h) (Or.inl ⟨by rfl, ?_⟩) ?_ ?_
                              rotate_left
                              · intro w'
                                go_simp
                                with_reducible rfl
                              rotate_left
                              · simp only [Act.put, List.setIfInBounds_toArray, List.set_cons_zero, List.set_cons_succ, i64_w, i32_w]
                                rfl
                              refine pure_ (i := 17) (N := some 85) (v := ?_) (a' := ?_) #[true, true, false, false, true, true, false, true, true, false, true, true, false, true, true, false, false, true, false, false, false, false, false, false] rfl rfl (any_of HT_.out (by kernel_rfl)) (fun _ _ _ h => h) (Or.inl ⟨by rfl, ?_⟩) ?_ ?_
                              rotate_left
                              · intro w'
                                go_simp
                                with_reducible rfl
                              rotate_left
                              · simp only [Act.put, List.setIfInBounds_toArray, List.set_cons_zero, List.set_cons_succ, i64_w, i32_w]
                                rfl
                              refine pure_ (i := 18) (N := some 86) (v := ?_) (a' := ?_) #[true, true, false, false, true, true, false, true, true, false, true, true, false, true, true, false, false, true, true, false, false, false, false, false] rfl rfl (any_of HT_.out (by kernel_rfl)) (fun _ _ _ h => h) (Or.inl ⟨by rfl, ?_⟩) ?_ ?_
                              rotate_left
                              · intro w'
                                go_simp
                                with_reducible rfl
                              rotate_left
                              · simp only [Act.put, List.setIfInBounds_toArray, List.set_cons_zero, List.set_cons_succ, i64_w, i32_w]
                                rfl
                              refine take_ (i := 2) (N := some 70) (v := ?_) (a' := ?_) #[true, true, true, false, true, true, false, true, true, false, true, true, false, true, true, false, false, true, true, false, false, false, false, false] rfl rfl (take_ofW HT_.out HW_.out (by kernel_rfl)) (fun _ _ _ h => h) (Or.inl ⟨by rfl, ?_⟩) hHeld ?_ ?_
                              rotate_left
                              · rintro w' ⟨s0, s1, s2, s3, s4, s5⟩
                                go_simp
                                with_reducible rfl
                              rotate_left
                              · simp only [Act.put, List.setIfInBounds_toArray, List.set_cons_zero, List.set_cons_succ, i64_w, i32_w]
                                rfl
                              refine pure_ (i := 3) (N := some 71) (v := ?_) (a' := ?_) #[true, true, true, true, true, true, false, true, true, false, true, true, false, true, true, false, false, true, true, false, false, false, false, false] rfl rfl (any_of HT_.out (by kernel_rfl)) (fun _ _ _ h => h) (Or.inl ⟨by rfl, ?_⟩) ?_ ?_
                              rotate_left
                              · intro w'
                                go_simp
                                with_reducible rfl
                              rotate_left
                              · simp only [Act.put, List.setIfInBounds_toArray, List.set_cons_zero, List.set_cons_succ, i64_w, i32_w]
                                rfl
                              refine take_ (i := 6) (N := some 74) (v := ?_) (a' := ?_) #[true, true, true, true, true, true, true, true, true, false, true, true, false, true, true, false, false, true, true, false, false, false, false, false] rfl rfl (take_ofW HT_.out HW_.out (by kernel_rfl)) (fun _ _ _ h => h) (Or.inl ⟨by rfl, ?_⟩) hHeld ?_ ?_
                              rotate_left
                              · rintro w' ⟨s0, s1, s2, s3, s4, s5⟩
                                go_simp
                                with_reducible rfl
                              rotate_left
                              · simp only [Act.put, List.setIfInBounds_toArray, List.set_cons_zero, List.set_cons_succ, i64_w, i32_w]
                                rfl
                              refine take_ (i := 9) (N := some 77) (v := ?_) (a' := ?_) #[true, true, true, true, true, true, true, true, true, true, true, true, false, true, true, false, false, true, true, false, false, false, false, false] rfl rfl (take_ofW HT_.out HW_.out (by kernel_rfl)) (fun _ _ _ h => h) (Or.inl ⟨by rfl, ?_⟩) hHeld ?_ ?_
                              rotate_left
                              · rintro w' ⟨s0, s1, s2, s3, s4, s5⟩
                                go_simp
                                with_reducible rfl
                              rotate_left
                              · simp only [Act.put, List.setIfInBounds_toArray, List.set_cons_zero, List.set_cons_succ, i64_w, i32_w]
                                rfl
                              refine take_ (i := 12) (N := some 80) (v := ?_) (a' := ?_) #[true, true, true, true, true, true, true, true, true, true, true, true, true, true, true, false, false, true, true, false, false, false, false, false] rfl rfl (take_ofW HT_.out HW_.out (by kernel_rfl)) (fun _ _ _ h => h) (Or.inl ⟨by rfl, ?_⟩) hHeld ?_ ?_
                              rotate_left
                              · rintro w' ⟨s0, s1, s2, s3, s4, s5⟩
                                go_simp
                                with_reducible rfl
                              rotate_left
                              · simp only [Act.put, List.setIfInBounds_toArray, List.set_cons_zero, List.set_cons_succ, i64_w, i32_w]
                                rfl
                              refine take_ (i := 15) (N := some 83) (v := ?_) (a' := ?_) #[true, true, true, true, true, true, true, true, true, true, true, true, true, true, true, true, false, true, true, false, false, false, false, false] rfl rfl (take_ofW HT_.out HW_.out (by kernel_rfl)) (fun _ _ _ h => h) (Or.inl ⟨by rfl, ?_⟩) hHeld ?_ ?_
                              rotate_left
                              · rintro w' ⟨s0, s1, s2, s3, s4, s5⟩
                                go_simp
                                with_reducible rfl
                              rotate_left
                              · simp only [Act.put, List.setIfInBounds_toArray, List.set_cons_zero, List.set_cons_succ, i64_w, i32_w]
                                rfl
                              refine pure_ (i := 16) (N := some 84) (v := ?_) (a' := ?_) #[true, true, true, true, true, true, true, true, true, true, true, true, true, true, true, true, true, true, true, false, false, false, false, false] rfl rfl (any_of HT_.out (by kernel_rfl)) (fun _ _ _ h => h) (Or.inl ⟨by rfl, ?_⟩) ?_ ?_
                              rotate_left
                              · intro w'
                                go_simp
                                with_reducible rfl
                              rotate_left
                              · simp only [Act.put, List.setIfInBounds_toArray, List.set_cons_zero, List.set_cons_succ, i64_w, i32_w]
                                rfl
                              refine take_ (i := 19) (N := some 87) (v := ?_) (a' := ?_) #[true, true, true, true, true, true, true, true, true, true, true, true, true, true, true, true, true, true, true, true, false, false, false, false] rfl rfl (take_ofW HT_.out HW_.out (by kernel_rfl)) (fun _ _ _ h => h) (Or.inl ⟨by rfl, ?_⟩) hHeld ?_ ?_
                              rotate_left
                              · rintro w' ⟨s0, s1, s2, s3, s4, s5⟩
                                go_simp
                                with_reducible rfl
                              rotate_left
                              · simp only [Act.put, List.setIfInBounds_toArray, List.set_cons_zero, List.set_cons_succ, i64_w, i32_w]
                                rfl
                              refine pure_ (i := 20) (N := some 88) (v := ?_) (a' := ?_) #[true, true, true, true, true, true, true, true, true, true, true, true, true, true, true, true, true, true, true, true, true, false, false, false] rfl rfl (any_of HT_.out (by kernel_rfl)) (fun _ _ _ h => h) (Or.inl ⟨by rfl, ?_⟩) ?_ ?_
                              rotate_left
                              · intro w'
                                go_simp
                                with_reducible rfl
                              rotate_left
                              · simp only [Act.put, List.setIfInBounds_toArray, List.set_cons_zero, List.set_cons_succ, i64_w, i32_w]
                                rfl
                              refine pure_ (i := 21) (N := some 89) (v := ?_) (a' := ?_) #[true, true, true, true, true, true, true, true, true, true, true, true, true, true, true, true, true, true, true, true, true, true, false, false] rfl rfl (any_of HT_.out (by kernel_rfl)) (fun _ _ _ h => h) (Or.inl ⟨by rfl, ?_⟩) ?_ ?_
                              rotate_left
                              · intro w'
                                go_simp
                                with_reducible rfl
                              rotate_left
                              · simp only [Act.put, List.setIfInBounds_toArray, List.set_cons_zero, List.set_cons_succ, i64_w, i32_w]
                                rfl
                              refine one_ (i := 22) (N := some 6) #[true, true, true, true, true, true, true, true, true, true, true, true, true, true, true, true, true, true, true, true, true, true, true, false] rfl rfl (one_of HT_.out (by kernel_rfl)) (by decide) (fun K hK => ?_)
                              refine box_step ?hg (N := 6) ?hd (cs := #[.int .i64 0, .int .u32 0, .int .u32 0, .int .u32 0, .int .u32 0, .slice none 0 0, .slice none 0 0, .int .i64 0]) (t := 46) ?hr ?_; (case hd => rfl); (case hg => rfl); (case hr => first | (go_simp; done) | (go_simp; rfl))
                              intro gb600 hg w38 hbox hb
                              have HS0_ := (hb.cell (World.block_lt_of_cell? _ _ (hHeld.1))).trans (hHeld.1)
                              have HS1_ := (hb.cell (World.block_lt_of_cell? _ _ (hHeld.2.1))).trans (hHeld.2.1)
                              have HS2_ := (hb.cell (World.block_lt_of_cell? _ _ (hHeld.2.2.1))).trans (hHeld.2.2.1)
                              have HS3_ := (hb.cell (World.block_lt_of_cell? _ _ (hHeld.2.2.2.1))).trans (hHeld.2.2.2.1)
                              have HS4_ := (hb.cell (World.block_lt_of_cell? _ _ (hHeld.2.2.2.2.1))).trans (hHeld.2.2.2.2.1)
                              have HS5_ := (hb.cell (World.block_lt_of_cell? _ _ (hHeld.2.2.2.2.2))).trans (hHeld.2.2.2.2.2)
                              have n0_ := Aside0.mk (Kd.R_below (by (with_reducible repeat (first | apply Kd.R_alloc | apply Kd.R_drewN | apply Kd.R_drew)); exact HO_4.out) hb)
                              have n1_ := Aside0.mk (blk_below (g := gb585) (by (with_reducible repeat (first | refine blk_drewN ?_ _ | refine blk_drew ?_ | refine blk_alloc ?_ _)); exact BK585.out) hb)
                              have n2_ := Aside0.mk (below_step (by repeat (first | (with_reducible first | exact HB.out | apply below_alloc | apply pw_below_drewN | apply below_drew1 | refine below_set ?_ GE585.out) | exact HB.out)) hb)
                              have n3_ := Aside0.mk (hbox)
                              have n4_ := Aside0.mk ((by rw [hg]; exact (below_size (by repeat (first | (with_reducible first | exact HB.out | apply below_alloc | apply pw_below_drewN | apply below_drew1 | refine below_set ?_ GE585.out) | exact HB.out))) : w.heap.size ≤ gb600))
                              have n5_ := Aside0.mk ((by rw [hg]; exact (below_size (by repeat (first | (with_reducible first | exact HB.out | apply below_alloc | apply pw_below_drewN | apply below_drew1 | refine below_set ?_ GE585.out) | exact HB.out))) : w.heap.size ≤ gb600))
                              have n6_ := Aside0.mk ((by rw [hg]; exact Nat.ne_of_lt (blk_lt (g := gb585) (o := .cells #[.int .i64 0, .int .u32 0, .int .u32 0, .int .u32 0, .int .u32 0, .slice none 0 0, .slice none 0 0, .int .i64 0] 46 (0, 0)) (by (with_reducible repeat (first | refine blk_drewN ?_ _ | refine blk_drew ?_ | refine blk_alloc ?_ _)); exact BK585.out)) : gb585 ≠ gb600))
                              have n7_ := Aside0.mk ((by rw [hg]; exact Nat.ne_of_gt (blk_lt (g := gb585) (o := .cells #[.int .i64 0, .int .u32 0, .int .u32 0, .int .u32 0, .int .u32 0, .slice none 0 0, .slice none 0 0, .int .i64 0] 46 (0, 0)) (by (with_reducible repeat (first | refine blk_drewN ?_ _ | refine blk_drew ?_ | refine blk_alloc ?_ _)); exact BK585.out)) : gb600 ≠ gb585))
                              clear HO_4
                              clear BK585
                              clear HB
                              have HO_4 := n0_
                              have BK585 := n1_
                              have HB := n2_
                              have BK600 := n3_
                              have GW600 := n4_
                              have GE600 := n5_
                              have NB585_600 := n6_
                              have NB600_585 := n7_
                              clear n0_ n1_ n2_ n3_ n4_ n5_ n6_ n7_
                              clear hb hbox hg
                              refine hK.out _ _ ⟨HS0_, HS1_, HS2_, HS3_, HS4_, HS5_⟩ (fun hHeld => ?_)
                              clear hK K
                              refine norm_ (a' := ?_) ?_ ?_
                              rotate_left
                              · show Act.put _ (some 6) _ = _
                                simp only [Act.put, List.setIfInBounds_toArray, List.set_cons_zero, List.set_cons_succ, i64_w, i32_w]
                                rfl
                              refine one_ (i := 23) (N := none) #[true, true, true, true, true, true, true, true, true, true, true, true, true, true, true, true, true, true, true, true, true, true, true, true] rfl rfl (one_of HT_.out (by kernel_rfl)) (by decide) (fun K hK => ?_)
                              have hs39 : w38.cell? ⟨gb600, 0, none⟩ = some (.int .i64 0) := (blk_cell BK600.out 0).trans rfl
                              have hfs39 := blk_frozen BK600.out 0
                              have hns39_0 := NB585_600.out
                              have hms39_0 := NB600_585.out
                              have hs40 : w38.cell? ⟨gb600, 1, none⟩ = some (.int .u32 0) := (blk_cell BK600.out 1).trans rfl
                              have hfs40 := blk_frozen BK600.out 1
                              have hns40_0 := NB585_600.out
                              have hms40_0 := NB600_585.out
                              have hs41 : w38.cell? ⟨gb600, 2, none⟩ = some (.int .u32 0) := (blk_cell BK600.out 2).trans rfl
                              have hfs41 := blk_frozen BK600.out 2
                              have hns41_0 := NB585_600.out
                              have hms41_0 := NB600_585.out
                              have hs42 : w38.cell? ⟨gb600, 3, none⟩ = some (.int .u32 0) := (blk_cell BK600.out 3).trans rfl
                              have hfs42 := blk_frozen BK600.out 3
                              have hns42_0 := NB585_600.out
                              have hms42_0 := NB600_585.out
                              have hs43 : w38.cell? ⟨gb600, 4, none⟩ = some (.int .u32 0) := (blk_cell BK600.out 4).trans rfl
                              have hfs43 := blk_frozen BK600.out 4
                              have hns43_0 := NB585_600.out
                              have hms43_0 := NB600_585.out
                              have hs44 : w38.cell? ⟨gb600, 5, none⟩ = some (.slice none 0 0) := (blk_cell BK600.out 5).trans rfl
                              have hfs44 := blk_frozen BK600.out 5
                              have hns44_0 := NB585_600.out
                              have hms44_0 := NB600_585.out
                              have hs45 : w38.cell? ⟨gb600, 6, none⟩ = some (.slice none 0 0) := (blk_cell BK600.out 6).trans rfl
                              have hfs45 := blk_frozen BK600.out 6
                              have hns45_0 := NB585_600.out
                              have hms45_0 := NB600_585.out
                              have hs46 : w38.cell? ⟨gb600, 7, none⟩ = some (.int .i64 0) := (blk_cell BK600.out 7).trans rfl
                              have hfs46 := blk_frozen BK600.out 7
                              have hns46_0 := NB585_600.out
                              have hms46_0 := NB600_585.out
                              refine skip_ (w1 := ?_) (by rfl) rfl ?_ ?_
                              rotate_left
                              · go_simp
                                rfl
                              refine hK.out _ _ ⟨((cell_far (p := ⟨gb600, _, none⟩) (by first | (dsimp only; exact Kd.own_blk (Kd.R_ne HO_4.out BK600.out (by decide))) | (rw [add_block]; exact Kd.own_blk (Kd.R_ne HO_4.out BK600.out (by decide)))) _).trans (((cell_far (p := ⟨gb600, _, none⟩) (by first | (dsimp only; exact Kd.own_blk (Kd.R_ne HO_4.out BK600.out (by decide))) | (rw [add_block]; exact Kd.own_blk (Kd.R_ne HO_4.out BK600.out (by decide)))) _).trans (((cell_far (p := ⟨gb600, _, none⟩) (by first | (dsimp only; exact Kd.own_blk (Kd.R_ne HO_4.out BK600.out (by decide))) | (rw [add_block]; exact Kd.own_blk (Kd.R_ne HO_4.out BK600.out (by decide)))) _).trans (((cell_far (p := ⟨gb600, _, none⟩) (by first | (dsimp only; exact Kd.own_blk (Kd.R_ne HO_4.out BK600.out (by decide))) | (rw [add_block]; exact Kd.own_blk (Kd.R_ne HO_4.out BK600.out (by decide)))) _).trans (((cell_far (p := ⟨gb600, _, none⟩) (by first | (dsimp only; exact Kd.own_blk (Kd.R_ne HO_4.out BK600.out (by decide))) | (rw [add_block]; exact Kd.own_blk (Kd.R_ne HO_4.out BK600.out (by decide)))) _).trans (((cell_far (p := ⟨gb600, _, none⟩) (by first | (dsimp only; exact Kd.own_blk (Kd.R_ne HO_4.out BK600.out (by decide))) | (rw [add_block]; exact Kd.own_blk (Kd.R_ne HO_4.out BK600.out (by decide)))) _).trans (((cell_far (p := ⟨gb600, _, none⟩) (by first | (dsimp only; exact Kd.own_blk (Kd.R_ne HO_4.out BK600.out (by decide))) | (rw [add_block]; exact Kd.own_blk (Kd.R_ne HO_4.out BK600.out (by decide)))) _).trans (((cell_far (p := ⟨gb600, _, none⟩) (by first | (dsimp only; exact Kd.own_blk (Kd.R_ne HO_4.out BK600.out (by decide))) | (rw [add_block]; exact Kd.own_blk (Kd.R_ne HO_4.out BK600.out (by decide)))) _).trans (hHeld.1)))))))))))))))), ((cell_far (p := ⟨gb600, _, none⟩) (by first | (dsimp only; exact Kd.own_blk (Kd.R_ne HO_4.out BK600.out (by decide))) | (rw [add_block]; exact Kd.own_blk (Kd.R_ne HO_4.out BK600.out (by decide)))) _).trans (((cell_far (p := ⟨gb600, _, none⟩) (by first | (dsimp only; exact Kd.own_blk (Kd.R_ne HO_4.out BK600.out (by decide))) | (rw [add_block]; exact Kd.own_blk (Kd.R_ne HO_4.out BK600.out (by decide)))) _).trans (((cell_far (p := ⟨gb600, _, none⟩) (by first | (dsimp only; exact Kd.own_blk (Kd.R_ne HO_4.out BK600.out (by decide))) | (rw [add_block]; exact Kd.own_blk (Kd.R_ne HO_4.out BK600.out (by decide)))) _).trans (((cell_far (p := ⟨gb600, _, none⟩) (by first | (dsimp only; exact Kd.own_blk (Kd.R_ne HO_4.out BK600.out (by decide))) | (rw [add_block]; exact Kd.own_blk (Kd.R_ne HO_4.out BK600.out (by decide)))) _).trans (((cell_far (p := ⟨gb600, _, none⟩) (by first | (dsimp only; exact Kd.own_blk (Kd.R_ne HO_4.out BK600.out (by decide))) | (rw [add_block]; exact Kd.own_blk (Kd.R_ne HO_4.out BK600.out (by decide)))) _).trans (((cell_far (p := ⟨gb600, _, none⟩) (by first | (dsimp only; exact Kd.own_blk (Kd.R_ne HO_4.out BK600.out (by decide))) | (rw [add_block]; exact Kd.own_blk (Kd.R_ne HO_4.out BK600.out (by decide)))) _).trans (((cell_far (p := ⟨gb600, _, none⟩) (by first | (dsimp only; exact Kd.own_blk (Kd.R_ne HO_4.out BK600.out (by decide))) | (rw [add_block]; exact Kd.own_blk (Kd.R_ne HO_4.out BK600.out (by decide)))) _).trans (((cell_far (p := ⟨gb600, _, none⟩) (by first | (dsimp only; exact Kd.own_blk (Kd.R_ne HO_4.out BK600.out (by decide))) | (rw [add_block]; exact Kd.own_blk (Kd.R_ne HO_4.out BK600.out (by decide)))) _).trans (hHeld.2.1)))))))))))))))), ((cell_far (p := ⟨gb600, _, none⟩) (by first | (dsimp only; exact Kd.own_blk (Kd.R_ne HO_4.out BK600.out (by decide))) | (rw [add_block]; exact Kd.own_blk (Kd.R_ne HO_4.out BK600.out (by decide)))) _).trans (((cell_far (p := ⟨gb600, _, none⟩) (by first | (dsimp only; exact Kd.own_blk (Kd.R_ne HO_4.out BK600.out (by decide))) | (rw [add_block]; exact Kd.own_blk (Kd.R_ne HO_4.out BK600.out (by decide)))) _).trans (((cell_far (p := ⟨gb600, _, none⟩) (by first | (dsimp only; exact Kd.own_blk (Kd.R_ne HO_4.out BK600.out (by decide))) | (rw [add_block]; exact Kd.own_blk (Kd.R_ne HO_4.out BK600.out (by decide)))) _).trans (((cell_far (p := ⟨gb600, _, none⟩) (by first | (dsimp only; exact Kd.own_blk (Kd.R_ne HO_4.out BK600.out (by decide))) | (rw [add_block]; exact Kd.own_blk (Kd.R_ne HO_4.out BK600.out (by decide)))) _).trans (((cell_far (p := ⟨gb600, _, none⟩) (by first | (dsimp only; exact Kd.own_blk (Kd.R_ne HO_4.out BK600.out (by decide))) | (rw [add_block]; exact Kd.own_blk (Kd.R_ne HO_4.out BK600.out (by decide)))) _).trans (((cell_far (p := ⟨gb600, _, none⟩) (by first | (dsimp only; exact Kd.own_blk (Kd.R_ne HO_4.out BK600.out (by decide))) | (rw [add_block]; exact Kd.own_blk (Kd.R_ne HO_4.out BK600.out (by decide)))) _).trans (((cell_far (p := ⟨gb600, _, none⟩) (by first | (dsimp only; exact Kd.own_blk (Kd.R_ne HO_4.out BK600.out (by decide))) | (rw [add_block]; exact Kd.own_blk (Kd.R_ne HO_4.out BK600.out (by decide)))) _).trans (((cell_far (p := ⟨gb600, _, none⟩) (by first | (dsimp only; exact Kd.own_blk (Kd.R_ne HO_4.out BK600.out (by decide))) | (rw [add_block]; exact Kd.own_blk (Kd.R_ne HO_4.out BK600.out (by decide)))) _).trans (hHeld.2.2.1)))))))))))))))), ((cell_far (p := ⟨gb600, _, none⟩) (by first | (dsimp only; exact Kd.own_blk (Kd.R_ne HO_4.out BK600.out (by decide))) | (rw [add_block]; exact Kd.own_blk (Kd.R_ne HO_4.out BK600.out (by decide)))) _).trans (((cell_far (p := ⟨gb600, _, none⟩) (by first | (dsimp only; exact Kd.own_blk (Kd.R_ne HO_4.out BK600.out (by decide))) | (rw [add_block]; exact Kd.own_blk (Kd.R_ne HO_4.out BK600.out (by decide)))) _).trans (((cell_far (p := ⟨gb600, _, none⟩) (by first | (dsimp only; exact Kd.own_blk (Kd.R_ne HO_4.out BK600.out (by decide))) | (rw [add_block]; exact Kd.own_blk (Kd.R_ne HO_4.out BK600.out (by decide)))) _).trans (((cell_far (p := ⟨gb600, _, none⟩) (by first | (dsimp only; exact Kd.own_blk (Kd.R_ne HO_4.out BK600.out (by decide))) | (rw [add_block]; exact Kd.own_blk (Kd.R_ne HO_4.out BK600.out (by decide)))) _).trans (((cell_far (p := ⟨gb600, _, none⟩) (by first | (dsimp only; exact Kd.own_blk (Kd.R_ne HO_4.out BK600.out (by decide))) | (rw [add_block]; exact Kd.own_blk (Kd.R_ne HO_4.out BK600.out (by decide)))) _).trans (((cell_far (p := ⟨gb600, _, none⟩) (by first | (dsimp only; exact Kd.own_blk (Kd.R_ne HO_4.out BK600.out (by decide))) | (rw [add_block]; exact Kd.own_blk (Kd.R_ne HO_4.out BK600.out (by decide)))) _).trans (((cell_far (p := ⟨gb600, _, none⟩) (by first | (dsimp only; exact Kd.own_blk (Kd.R_ne HO_4.out BK600.out (by decide))) | (rw [add_block]; exact Kd.own_blk (Kd.R_ne HO_4.out BK600.out (by decide)))) _).trans (((cell_far (p := ⟨gb600, _, none⟩) (by first | (dsimp only; exact Kd.own_blk (Kd.R_ne HO_4.out BK600.out (by decide))) | (rw [add_block]; exact Kd.own_blk (Kd.R_ne HO_4.out BK600.out (by decide)))) _).trans (hHeld.2.2.2.1)))))))))))))))), ((cell_far (p := ⟨gb600, _, none⟩) (by first | (dsimp only; exact Kd.own_blk (Kd.R_ne HO_4.out BK600.out (by decide))) | (rw [add_block]; exact Kd.own_blk (Kd.R_ne HO_4.out BK600.out (by decide)))) _).trans (((cell_far (p := ⟨gb600, _, none⟩) (by first | (dsimp only; exact Kd.own_blk (Kd.R_ne HO_4.out BK600.out (by decide))) | (rw [add_block]; exact Kd.own_blk (Kd.R_ne HO_4.out BK600.out (by decide)))) _).trans (((cell_far (p := ⟨gb600, _, none⟩) (by first | (dsimp only; exact Kd.own_blk (Kd.R_ne HO_4.out BK600.out (by decide))) | (rw [add_block]; exact Kd.own_blk (Kd.R_ne HO_4.out BK600.out (by decide)))) _).trans (((cell_far (p := ⟨gb600, _, none⟩) (by first | (dsimp only; exact Kd.own_blk (Kd.R_ne HO_4.out BK600.out (by decide))) | (rw [add_block]; exact Kd.own_blk (Kd.R_ne HO_4.out BK600.out (by decide)))) _).trans (((cell_far (p := ⟨gb600, _, none⟩) (by first | (dsimp only; exact Kd.own_blk (Kd.R_ne HO_4.out BK600.out (by decide))) | (rw [add_block]; exact Kd.own_blk (Kd.R_ne HO_4.out BK600.out (by decide)))) _).trans (((cell_far (p := ⟨gb600, _, none⟩) (by first | (dsimp only; exact Kd.own_blk (Kd.R_ne HO_4.out BK600.out (by decide))) | (rw [add_block]; exact Kd.own_blk (Kd.R_ne HO_4.out BK600.out (by decide)))) _).trans (((cell_far (p := ⟨gb600, _, none⟩) (by first | (dsimp only; exact Kd.own_blk (Kd.R_ne HO_4.out BK600.out (by decide))) | (rw [add_block]; exact Kd.own_blk (Kd.R_ne HO_4.out BK600.out (by decide)))) _).trans (((cell_far (p := ⟨gb600, _, none⟩) (by first | (dsimp only; exact Kd.own_blk (Kd.R_ne HO_4.out BK600.out (by decide))) | (rw [add_block]; exact Kd.own_blk (Kd.R_ne HO_4.out BK600.out (by decide)))) _).trans (hHeld.2.2.2.2.1)))))))))))))))), ((cell_far (p := ⟨gb600, _, none⟩) (by first | (dsimp only; exact Kd.own_blk (Kd.R_ne HO_4.out BK600.out (by decide))) | (rw [add_block]; exact Kd.own_blk (Kd.R_ne HO_4.out BK600.out (by decide)))) _).trans (((cell_far (p := ⟨gb600, _, none⟩) (by first | (dsimp only; exact Kd.own_blk (Kd.R_ne HO_4.out BK600.out (by decide))) | (rw [add_block]; exact Kd.own_blk (Kd.R_ne HO_4.out BK600.out (by decide)))) _).trans (((cell_far (p := ⟨gb600, _, none⟩) (by first | (dsimp only; exact Kd.own_blk (Kd.R_ne HO_4.out BK600.out (by decide))) | (rw [add_block]; exact Kd.own_blk (Kd.R_ne HO_4.out BK600.out (by decide)))) _).trans (((cell_far (p := ⟨gb600, _, none⟩) (by first | (dsimp only; exact Kd.own_blk (Kd.R_ne HO_4.out BK600.out (by decide))) | (rw [add_block]; exact Kd.own_blk (Kd.R_ne HO_4.out BK600.out (by decide)))) _).trans (((cell_far (p := ⟨gb600, _, none⟩) (by first | (dsimp only; exact Kd.own_blk (Kd.R_ne HO_4.out BK600.out (by decide))) | (rw [add_block]; exact Kd.own_blk (Kd.R_ne HO_4.out BK600.out (by decide)))) _).trans (((cell_far (p := ⟨gb600, _, none⟩) (by first | (dsimp only; exact Kd.own_blk (Kd.R_ne HO_4.out BK600.out (by decide))) | (rw [add_block]; exact Kd.own_blk (Kd.R_ne HO_4.out BK600.out (by decide)))) _).trans (((cell_far (p := ⟨gb600, _, none⟩) (by first | (dsimp only; exact Kd.own_blk (Kd.R_ne HO_4.out BK600.out (by decide))) | (rw [add_block]; exact Kd.own_blk (Kd.R_ne HO_4.out BK600.out (by decide)))) _).trans (((cell_far (p := ⟨gb600, _, none⟩) (by first | (dsimp only; exact Kd.own_blk (Kd.R_ne HO_4.out BK600.out (by decide))) | (rw [add_block]; exact Kd.own_blk (Kd.R_ne HO_4.out BK600.out (by decide)))) _).trans (hHeld.2.2.2.2.2))))))))))))))))⟩ (fun hHeld => ?_)
                              clear hK K
                              refine done_ (done_of HT_.out (by kernel_rfl)) ?_
                              have p601 : 0 ≤ (6 : Int) := (by omega)
                              have q601 : 6 < (t586.length : Int) := of_decide_eq_true (by first | (with_reducible assumption) | assumption)
                              obtain ⟨ad601, e601, hx601_0⟩ := Kd.at_int (Kd.R_reads' HO_4.out).2.2 6 p601 q601
                              obtain rfl : ad594 = ad601 := (by injection e601)
                              (try simp only [show (6 : Int).toNat = 6 from rfl, Nat.reduceMul, Nat.reduceEqDiff, Go.Addr.add, ↓reduceIte] at hx601_0)
                              have qi601 : (6 < t586.length) = True := eq_true (by omega)
                              (try rw [show ((6 : Int)).toNat = 6 from rfl] at hx601_0)
                              have hn601_0 : ad594.block ≠ gb600 := Kd.own_blk (Kd.R_ne HO_4.out BK600.out (by decide))
                              have hn601_1 : ad594.block ≠ gb600 := Kd.own_blk (Kd.R_ne HO_4.out BK600.out (by decide))
                              have hn601_2 : ad594.block ≠ gb600 := Kd.own_blk (Kd.R_ne HO_4.out BK600.out (by decide))
                              have hn601_3 : ad594.block ≠ gb600 := Kd.own_blk (Kd.R_ne HO_4.out BK600.out (by decide))
                              have hn601_4 : ad594.block ≠ gb600 := Kd.own_blk (Kd.R_ne HO_4.out BK600.out (by decide))
                              have hn601_5 : ad594.block ≠ gb600 := Kd.own_blk (Kd.R_ne HO_4.out BK600.out (by decide))
                              have hn601_6 : ad594.block ≠ gb600 := Kd.own_blk (Kd.R_ne HO_4.out BK600.out (by decide))
                              have hn601_7 : ad594.block ≠ gb600 := Kd.own_blk (Kd.R_ne HO_4.out BK600.out (by decide))
                              replace hx601_0 := (cell_far (p := ⟨gb600, 0, none⟩) (by first | (rw [add_block]; exact hn601_0) | (show (Addr.add _ _).block ≠ _; rw [add_block]; exact hn601_0) | exact hn601_0) (.int .i64 (wrap64 (rd t586 0)))).trans hx601_0
                              replace hx601_0 := (cell_far (p := ⟨gb600, 1, none⟩) (by first | (rw [add_block]; exact hn601_1) | (show (Addr.add _ _).block ≠ _; rw [add_block]; exact hn601_1) | exact hn601_1) (.int .u32 (rd t586 1))).trans hx601_0
                              replace hx601_0 := (cell_far (p := ⟨gb600, 2, none⟩) (by first | (rw [add_block]; exact hn601_2) | (show (Addr.add _ _).block ≠ _; rw [add_block]; exact hn601_2) | exact hn601_2) (.int .u32 (rd t586 2))).trans hx601_0
                              replace hx601_0 := (cell_far (p := ⟨gb600, 3, none⟩) (by first | (rw [add_block]; exact hn601_3) | (show (Addr.add _ _).block ≠ _; rw [add_block]; exact hn601_3) | exact hn601_3) (.int .u32 (rd t586 3))).trans hx601_0
                              replace hx601_0 := (cell_far (p := ⟨gb600, 4, none⟩) (by first | (rw [add_block]; exact hn601_4) | (show (Addr.add _ _).block ≠ _; rw [add_block]; exact hn601_4) | exact hn601_4) (.int .u32 (rd t586 4))).trans hx601_0
                              replace hx601_0 := (cell_far (p := ⟨gb600, 5, none⟩) (by first | (rw [add_block]; exact hn601_5) | (show (Addr.add _ _).block ≠ _; rw [add_block]; exact hn601_5) | exact hn601_5) (.slice none 0 0)).trans hx601_0
                              replace hx601_0 := (cell_far (p := ⟨gb600, 6, none⟩) (by first | (rw [add_block]; exact hn601_6) | (show (Addr.add _ _).block ≠ _; rw [add_block]; exact hn601_6) | exact hn601_6) (.slice none 0 0)).trans hx601_0
                              replace hx601_0 := (cell_far (p := ⟨gb600, 7, none⟩) (by first | (rw [add_block]; exact hn601_7) | (show (Addr.add _ _).block ≠ _; rw [add_block]; exact hn601_7) | exact hn601_7) (.int .i64 (wrap64 (rd t586 5)))).trans hx601_0
                              clear hn601_0
                              clear hn601_1
                              clear hn601_2
                              clear hn601_3
                              clear hn601_4
                              clear hn601_5
                              clear hn601_6
                              clear hn601_7
                              replace p601 := eq_true p601
                              replace q601 := eq_true q601
                              try go_wp2
                              go_loopg [8] kj11 (fun kq v8 w' => ∃ (x8_3 : Int) (x586000_3 : Int) (x586001_3 : Int) (x586002_3 : Int) (x586003_3 : Int) (x586004_3 : Int) (x586007_3 : Int) (x601005_3 : List Int) (u601005 : Value), v8 = .int .i64 x8_3 ∧ Aside0 (seedcornref37_Read.l0 kq t586 (wrap64 (rd t586 6)) x8_3 (wrap64 (rd t586 0)) (rd t586 1) (rd t586 2) (rd t586 3) (rd t586 4) x601005_3 (wrap64 (rd t586 5)) = some (r1, r2, r3, r4, r5, r6, r7, r8, r9)) ∧ Aside0 (kq ≤ kj11) ∧ Aside0 (Kd.R (Kd.int .u32) 22 w' w.heap.size (fun _ => True) (.slice (some ad594) t586.length co37) t586) ∧ Aside0 (Kd.R (Kd.int .i64) 3 w' w.heap.size (fun _ => True) u601005 x601005_3) ∧ Aside0 (w'.heap[gb585]? = some (.cells #[.int .i64 x586000_3, .int .u32 x586001_3, .int .u32 x586002_3, .int .u32 x586003_3, .int .u32 x586004_3, (.slice none 0 0), (.slice none 0 0), .int .i64 x586007_3] 46 (0, 0))) ∧ Aside0 (w'.heap[gb600]? = some (.cells #[.int .i64 (wrap64 (rd t586 0)), .int .u32 (rd t586 1), .int .u32 (rd t586 2), .int .u32 (rd t586 3), .int .u32 (rd t586 4), u601005, (.slice none 0 0), .int .i64 (wrap64 (rd t586 5))] 46 (0, 0))) ∧ Aside0 (Below w.heap.size w w'))
                              case atStart => exact ⟨(0), (0), (0), (0), (0), (0), (0), (([] : List Int)), (.slice none 0 0), (by first | rfl | (simp; done) | (simp [*]; done)), H', ⟨Nat.le_refl _⟩, ⟨by (with_reducible repeat (first | apply Kd.R_alloc | apply Kd.R_drewN | apply Kd.R_drew)); exact Kd.R_mono (Kd.R_far (p := ⟨gb600, 7, none⟩) (Kd.R_far (p := ⟨gb600, 6, none⟩) (Kd.R_far (p := ⟨gb600, 5, none⟩) (Kd.R_far (p := ⟨gb600, 4, none⟩) (Kd.R_far (p := ⟨gb600, 3, none⟩) (Kd.R_far (p := ⟨gb600, 2, none⟩) (Kd.R_far (p := ⟨gb600, 1, none⟩) (Kd.R_far (p := ⟨gb600, 0, none⟩) (Kd.R_types HO_4.out BK600.out (by decide)) (fun _ hk => hk.2) (.int .i64 (wrap64 (rd t586 0)))) (fun _ hk => hk.2) (.int .u32 (rd t586 1))) (fun _ hk => hk.2) (.int .u32 (rd t586 2))) (fun _ hk => hk.2) (.int .u32 (rd t586 3))) (fun _ hk => hk.2) (.int .u32 (rd t586 4))) (fun _ hk => hk.2) (.slice none 0 0)) (fun _ hk => hk.2) (.slice none 0 0)) (fun _ hk => hk.2) (.int .i64 (wrap64 (rd t586 5)))) (fun _ hk => trivial)⟩, ⟨by first | exact Kd.R_nil _ _ _ _ _ | exact Kd.N_nil _ _ _ _ _ | exact Kd.V_nil _ _ _ _ _ | exact Kd.Q_nil _ _ _ _ _ | exact Kd.S_nil _ _ _ _ _⟩, ⟨by (with_reducible repeat (first | refine blk_drewN ?_ _ | refine blk_drew ?_ | refine blk_alloc ?_ _ | refine blk_far ?_ NB585_600.out _)); exact BK585.out⟩, ⟨by (with_reducible repeat (first | refine blk_drewN ?_ _ | refine blk_drew ?_ | refine blk_alloc ?_ _)); refine blk_put (cs := #[.int .i64 (wrap64 (rd t586 0)), .int .u32 (rd t586 1), .int .u32 (rd t586 2), .int .u32 (rd t586 3), .int .u32 (rd t586 4), .slice none 0 0, .slice none 0 0, .int .i64 0]) ?_ 7 _ rfl; (with_reducible repeat (first | refine blk_drewN ?_ _ | refine blk_drew ?_ | refine blk_alloc ?_ _)); refine blk_put (cs := #[.int .i64 (wrap64 (rd t586 0)), .int .u32 (rd t586 1), .int .u32 (rd t586 2), .int .u32 (rd t586 3), .int .u32 (rd t586 4), .slice none 0 0, .slice none 0 0, .int .i64 0]) ?_ 6 _ rfl; (with_reducible repeat (first | refine blk_drewN ?_ _ | refine blk_drew ?_ | refine blk_alloc ?_ _)); refine blk_put (cs := #[.int .i64 (wrap64 (rd t586 0)), .int .u32 (rd t586 1), .int .u32 (rd t586 2), .int .u32 (rd t586 3), .int .u32 (rd t586 4), .slice none 0 0, .slice none 0 0, .int .i64 0]) ?_ 5 _ rfl; (with_reducible repeat (first | refine blk_drewN ?_ _ | refine blk_drew ?_ | refine blk_alloc ?_ _)); refine blk_put (cs := #[.int .i64 (wrap64 (rd t586 0)), .int .u32 (rd t586 1), .int .u32 (rd t586 2), .int .u32 (rd t586 3), .int .u32 0, .slice none 0 0, .slice none 0 0, .int .i64 0]) ?_ 4 _ rfl; (with_reducible repeat (first | refine blk_drewN ?_ _ | refine blk_drew ?_ | refine blk_alloc ?_ _)); refine blk_put (cs := #[.int .i64 (wrap64 (rd t586 0)), .int .u32 (rd t586 1), .int .u32 (rd t586 2), .int .u32 0, .int .u32 0, .slice none 0 0, .slice none 0 0, .int .i64 0]) ?_ 3 _ rfl; (with_reducible repeat (first | refine blk_drewN ?_ _ | refine blk_drew ?_ | refine blk_alloc ?_ _)); refine blk_put (cs := #[.int .i64 (wrap64 (rd t586 0)), .int .u32 (rd t586 1), .int .u32 0, .int .u32 0, .int .u32 0, .slice none 0 0, .slice none 0 0, .int .i64 0]) ?_ 2 _ rfl; (with_reducible repeat (first | refine blk_drewN ?_ _ | refine blk_drew ?_ | refine blk_alloc ?_ _)); refine blk_put (cs := #[.int .i64 (wrap64 (rd t586 0)), .int .u32 0, .int .u32 0, .int .u32 0, .int .u32 0, .slice none 0 0, .slice none 0 0, .int .i64 0]) ?_ 1 _ rfl; (with_reducible repeat (first | refine blk_drewN ?_ _ | refine blk_drew ?_ | refine blk_alloc ?_ _)); refine blk_put (cs := #[.int .i64 0, .int .u32 0, .int .u32 0, .int .u32 0, .int .u32 0, .slice none 0 0, .slice none 0 0, .int .i64 0]) ?_ 0 _ rfl; (with_reducible repeat (first | refine blk_drewN ?_ _ | refine blk_drew ?_ | refine blk_alloc ?_ _)); exact BK600.out⟩, ⟨by repeat (first | (with_reducible first | exact HB.out | apply below_alloc | apply pw_below_drewN | apply below_drew1 | refine below_set ?_ GE585.out | refine below_set ?_ GE600.out) | exact HB.out)⟩⟩
                              case round =>
                                clear H'
                                try clear c1
                                try clear c2
                                try clear p2
                                try clear c3
                                try clear c4
                                try clear c4b0
                                try clear c4b1
                                try clear c5
                                try clear c5b0
                                try clear c5b1
                                try clear p5
                                try clear q5
                                try clear hx5
                                try clear qi5
                                try clear c6
                                try clear c6b0
                                try clear c6b1
                                try clear p6
                                try clear q6
                                try clear hx6
                                try clear qi6
                                try clear p7
                                try clear q7
                                try clear hx7
                                try clear qi7
                                try clear c8
                                try clear c10
                                try clear c10b0
                                try clear c10b1
                                try clear c14
                                try clear c14b0
                                try clear c14b1
                                try clear c15
                                try clear c15b0
                                try clear c15b1
                                try clear c17
                                try clear c17b0
                                try clear c17b1
                                try clear c18
                                try clear c18b0
                                try clear c20
                                try clear c20b0
                                try clear c20b1
                                try clear c21
                                try clear c21b0
                                try clear c23
                                try clear c23b0
                                try clear c23b1
                                try clear c24
                                try clear c24b0
                                try clear c27
                                try clear c29
                                try clear c29b0
                                try clear c29b1
                                try clear c30
                                try clear c30b0
                                try clear c30b1
                                try clear c31
                                try clear c31b0
                                try clear c31b1
                                try clear c32
                                try clear c32b0
                                try clear c32b1
                                try clear c33
                                try clear c33b0
                                try clear c33b1
                                try clear c34
                                try clear c34b0
                                try clear c34b1
                                try clear c35
                                try clear c35b0
                                try clear c35b1
                                try clear hcz28_0 hcz28_1 hcz28_2 hcz28_3 hcz28_4 hcz28_5 hcz28_6 hcz28_7
                                try clear hcz9_0 hcz9_1 hcz9_2 hcz9_3 hcz9_4 hcz9_5 hcz9_6 hcz9_7
                                try clear hfz28_0 hfz28_1 hfz28_2 hfz28_3 hfz28_4 hfz28_5 hfz28_6 hfz28_7
                                try clear hfz9_0 hfz9_1 hfz9_2 hfz9_3 hfz9_4 hfz9_5 hfz9_6 hfz9_7
                                try clear hx590_0
                                try clear hx591_0
                                try clear hx592_0
                                try clear hx593_0
                                try clear hx594_0
                                try clear hx595_0
                                try clear hx596_0
                                try clear hx597_0
                                try clear hx598_0
                                try clear hx599_0
                                try clear hx601_0
                                try clear p2
                                try clear p5
                                try clear p590
                                try clear p591
                                try clear p592
                                try clear p593
                                try clear p594
                                try clear p595
                                try clear p596
                                try clear p597
                                try clear p598
                                try clear p599
                                try clear p6
                                try clear p601
                                try clear p7
                                try clear q5
                                try clear q590
                                try clear q591
                                try clear q592
                                try clear q593
                                try clear q594
                                try clear q595
                                try clear q596
                                try clear q597
                                try clear q598
                                try clear q599
                                try clear q601
                                try clear q7
                                obtain ⟨x8_3, x586000_3, x586001_3, x586002_3, x586003_3, x586004_3, x586007_3, x601005_3, u601005, rfl, HA, HK3, HO_4, HO_601005, BK585, BK600, HB⟩ := hrel
                                cases gk with
                                | zero => exact absurd HA.out (by simp [seedcornref37_Read.l0])
                                | succ k3 =>
                                  have H := HA.out
                                  clear HA
                                  simp only [seedcornref37_Read.l0] at H
                                  by_cases c47 : x8_3 < (wrap64 (rd t586 6))
                                  · rw [if_pos c47] at H
                                    have c47b0 : decide (x8_3 < (wrap64 (rd t586 6))) = true := decide_eq_true c47
                                    clear c47
                                    obtain ⟨ji48, hji48⟩ : ∃ j_ : Int, (wrap64 (7 + x8_3)) = j_ := ⟨_, rfl⟩
                                    replace H : (if 0 ≤ (ji48) then (if (ji48) < (t586.length : Int) then (if (rd t586 (ji48)) > 4 then (some (0, 0, 0, 0, 0, ([] : List Int), ([] : List (S24)), 0, 7)) else (if x601005_3.length < 17592186044416 then (seedcornref37_Read.l0 k3 t586 (wrap64 (rd t586 6)) (wrap64 (x8_3 + 1)) (wrap64 (rd t586 0)) (rd t586 1) (rd t586 2) (rd t586 3) (rd t586 4) (x601005_3 ++ [wrap64 (rd t586 (ji48))]) (wrap64 (rd t586 5))) else (none))) else (none)) else (none)) = some (r1, r2, r3, r4, r5, r6, r7, r8, r9) := by first | (rw [hji48] at H; exact H) | (simp only [hji48] at H ⊢; exact H)
                                    have hji48w : (IntKind.i64.wrap (7 + x8_3)) = ji48 := (i64_w _).trans hji48
                                    by_cases c49 : 0 ≤ (ji48)
                                    · rw [if_pos c49] at H
                                      have c49b0 : decide (0 ≤ (ji48)) = true := decide_eq_true c49
                                      clear c49
                                      by_cases c50 : (ji48) < (t586.length : Int)
                                      · rw [if_pos c50] at H
                                        have c50b0 : decide ((ji48) < (t586.length : Int)) = true := decide_eq_true c50
                                        clear c50
                                        by_cases c51 : (rd t586 (ji48)) > 4
                                        · rw [if_pos c51] at H
                                          have c51b0 : decide (4 < (rd t586 (ji48))) = true := decide_eq_true c51
                                          clear c51
                                          simp only [Option.some.injEq, Prod.mk.injEq] at H
                                          obtain ⟨rfl, rfl, rfl, rfl, rfl, rfl, rfl, rfl, rfl⟩ := H
                                          have p602 : 0 ≤ ((ji48) : Int) := of_decide_eq_true (by first | (with_reducible assumption) | assumption)
                                          have q602 : (ji48) < (t586.length : Int) := of_decide_eq_true (by first | (with_reducible assumption) | assumption)
                                          obtain ⟨ad602, e602, hx602_0⟩ := Kd.at_int (Kd.R_reads' HO_4.out).2.2 (ji48) p602 q602
                                          obtain rfl : ad594 = ad602 := (by injection e602)
                                          replace p602 := eq_true p602
                                          replace q602 := eq_true q602
                                          have hnb52 := NB585_600.out
                                          have hnc52 := NB600_585.out
                                          obtain ⟨hcz53_0, hcz53_1, hcz53_2, hcz53_3, hcz53_4, hcz53_5, hcz53_6, hcz53_7, hfz53_0, hfz53_1, hfz53_2, hfz53_3, hfz53_4, hfz53_5, hfz53_6, hfz53_7⟩ := HX.cells8 BK585.out
                                          go_wp2
                                          refine bodyPost_ret (results_ct rfl _ _ gb585 46 #[.int .i64 0, .int .u32 0, .int .u32 0, .int .u32 0, .int .u32 0, .slice none 0 0, .slice none 0 0, .int .i64 0] (0, 0) _ rfl (by (with_reducible repeat (first | refine blk_drewN ?_ _ | refine blk_drew ?_ | refine blk_alloc ?_ _)); refine blk_put (cs := #[.int .i64 0, .int .u32 0, .int .u32 0, .int .u32 0, .int .u32 0, .slice none 0 0, .slice none 0 0, .int .i64 x586007_3]) ?_ 7 _ rfl; (with_reducible repeat (first | refine blk_drewN ?_ _ | refine blk_drew ?_ | refine blk_alloc ?_ _)); refine blk_put (cs := #[.int .i64 0, .int .u32 0, .int .u32 0, .int .u32 0, .int .u32 0, .slice none 0 0, .slice none 0 0, .int .i64 x586007_3]) ?_ 6 _ rfl; (with_reducible repeat (first | refine blk_drewN ?_ _ | refine blk_drew ?_ | refine blk_alloc ?_ _)); refine blk_put (cs := #[.int .i64 0, .int .u32 0, .int .u32 0, .int .u32 0, .int .u32 0, .slice none 0 0, .slice none 0 0, .int .i64 x586007_3]) ?_ 5 _ rfl; (with_reducible repeat (first | refine blk_drewN ?_ _ | refine blk_drew ?_ | refine blk_alloc ?_ _)); refine blk_put (cs := #[.int .i64 0, .int .u32 0, .int .u32 0, .int .u32 0, .int .u32 x586004_3, .slice none 0 0, .slice none 0 0, .int .i64 x586007_3]) ?_ 4 _ rfl; (with_reducible repeat (first | refine blk_drewN ?_ _ | refine blk_drew ?_ | refine blk_alloc ?_ _)); refine blk_put (cs := #[.int .i64 0, .int .u32 0, .int .u32 0, .int .u32 x586003_3, .int .u32 x586004_3, .slice none 0 0, .slice none 0 0, .int .i64 x586007_3]) ?_ 3 _ rfl; (with_reducible repeat (first | refine blk_drewN ?_ _ | refine blk_drew ?_ | refine blk_alloc ?_ _)); refine blk_put (cs := #[.int .i64 0, .int .u32 0, .int .u32 x586002_3, .int .u32 x586003_3, .int .u32 x586004_3, .slice none 0 0, .slice none 0 0, .int .i64 x586007_3]) ?_ 2 _ rfl; (with_reducible repeat (first | refine blk_drewN ?_ _ | refine blk_drew ?_ | refine blk_alloc ?_ _)); refine blk_put (cs := #[.int .i64 0, .int .u32 x586001_3, .int .u32 x586002_3, .int .u32 x586003_3, .int .u32 x586004_3, .slice none 0 0, .slice none 0 0, .int .i64 x586007_3]) ?_ 1 _ rfl; (with_reducible repeat (first | refine blk_drewN ?_ _ | refine blk_drew ?_ | refine blk_alloc ?_ _)); refine blk_put (cs := #[.int .i64 x586000_3, .int .u32 x586001_3, .int .u32 x586002_3, .int .u32 x586003_3, .int .u32 x586004_3, .slice none 0 0, .slice none 0 0, .int .i64 x586007_3]) ?_ 0 _ rfl; (with_reducible repeat (first | refine blk_drewN ?_ _ | refine blk_drew ?_ | refine blk_alloc ?_ _)); exact BK585.out) Tryd.underlying46 rfl (by kernel_rfl)) rfl ?_
                                          exact ⟨_, _, by first | rfl | (simp [errW_none, errW_some] <;> rfl) | (simp only [← hji48]; first | rfl | (simp [errW_none, errW_some] <;> rfl)) | (simp [*, errW_none, errW_some] <;> rfl), by first | exact Kd.R_nil _ _ _ _ _ | exact Kd.N_nil _ _ _ _ _ | exact Kd.V_nil _ _ _ _ _ | exact Kd.Q_nil _ _ _ _ _ | exact Kd.S_nil _ _ _ _ _, by first | exact Kd.R_nil _ _ _ _ _ | exact Kd.N_nil _ _ _ _ _ | exact Kd.V_nil _ _ _ _ _ | exact Kd.Q_nil _ _ _ _ _ | exact Kd.S_nil _ _ _ _ _, by repeat (first | (with_reducible first | exact HB.out | apply below_alloc | apply pw_below_drewN | apply below_drew1 | refine below_set ?_ GE585.out | refine below_set ?_ GE600.out) | exact HB.out)⟩
                                        · rw [if_neg c51] at H
                                          have c51b0 : decide (4 < (rd t586 (ji48))) = false := decide_eq_false c51
                                          clear c51
                                          by_cases c54 : x601005_3.length < 17592186044416
                                          · rw [if_pos c54] at H
                                            have LMc54 := Aside0.mk c54
                                            clear c54
                                            obtain ⟨y604, hy604⟩ : ∃ y_ : List Int, y_ = (x601005_3 ++ [wrap64 (rd t586 (ji48))]) := ⟨_, rfl⟩
                                            replace H : (seedcornref37_Read.l0 k3 t586 (wrap64 (rd t586 6)) (wrap64 (x8_3 + 1)) (wrap64 (rd t586 0)) (rd t586 1) (rd t586 2) (rd t586 3) (rd t586 4) y604 (wrap64 (rd t586 5))) = some (r1, r2, r3, r4, r5, r6, r7, r8, r9) := by first | (rw [hy604]; with_reducible exact H) | (have H2_ := (Option.bind_some _ _).symm.trans H; rw [hy604]; with_reducible exact H2_) | (have H2_ := (Option.bind_some _ _).symm.trans H; with_reducible exact H2_) | with_reducible exact H | (rw [hy604]; exact H) | exact H
                                            have Ny604 := Aside0.mk hy604
                                            clear hy604
                                            have H' := Aside0.mk H
                                            clear H
                                            have p602 : 0 ≤ ((ji48) : Int) := of_decide_eq_true (by first | (with_reducible assumption) | assumption)
                                            have q602 : (ji48) < (t586.length : Int) := of_decide_eq_true (by first | (with_reducible assumption) | assumption)
                                            obtain ⟨ad602, e602, hx602_0⟩ := Kd.at_int (Kd.R_reads' HO_4.out).2.2 (ji48) p602 q602
                                            obtain rfl : ad594 = ad602 := (by injection e602)
                                            replace p602 := eq_true p602
                                            replace q602 := eq_true q602
                                            try go_wp2
                                            have n0_ := Aside0.mk (Kd.R_drew HO_4.out)
                                            have n1_ := Aside0.mk (Kd.R_drew HO_601005.out)
                                            have n2_ := Aside0.mk (blk_drew BK585.out)
                                            have n3_ := Aside0.mk (blk_drew BK600.out)
                                            have n4_ := Aside0.mk (below_drew1 HB.out)
                                            clear HO_4
                                            clear HO_601005
                                            clear BK585
                                            clear BK600
                                            clear HB
                                            have HO_4 := n0_
                                            have HO_601005 := n1_
                                            have BK585 := n2_
                                            have BK600 := n3_
                                            have HB := n4_
                                            clear n0_ n1_ n2_ n3_ n4_
                                            have p603 : 0 ≤ ((ji48) : Int) := of_decide_eq_true (by first | (with_reducible assumption) | assumption)
                                            have q603 : (ji48) < (t586.length : Int) := of_decide_eq_true (by first | (with_reducible assumption) | assumption)
                                            obtain ⟨ad603, e603, hx603_0⟩ := Kd.at_int (Kd.R_reads' HO_4.out).2.2 (ji48) p603 q603
                                            obtain rfl : ad594 = ad603 := (by injection e603)
                                            replace p603 := eq_true p603
                                            replace q603 := eq_true q603
                                            refine start_ (n := 12) (S := fun w' => w'.cell? ⟨gb600, 0, none⟩ = some (.int .i64 (wrap64 (rd t586 0))) ∧ w'.cell? ⟨gb600, 1, none⟩ = some (.int .u32 (rd t586 1)) ∧ w'.cell? ⟨gb600, 2, none⟩ = some (.int .u32 (rd t586 2)) ∧ w'.cell? ⟨gb600, 3, none⟩ = some (.int .u32 (rd t586 3)) ∧ w'.cell? ⟨gb600, 4, none⟩ = some (.int .u32 (rd t586 4)) ∧ w'.cell? ⟨gb600, 5, none⟩ = some (u601005) ∧ w'.cell? ⟨gb600, 6, none⟩ = some (.slice none 0 0) ∧ w'.cell? ⟨gb600, 7, none⟩ = some (.int .i64 (wrap64 (rd t586 5))) ∧ w'.cell? (ad594.add ((ji48)).toNat) = some (.int .u32 (rd t586 (ji48)))) (ds := [9, 11]) #[false, false, false, false, false, false, false, false, false, false, false, false] (by kernel_rfl) rfl rfl ⟨(blk_cell BK600.out 0).trans rfl, (blk_cell BK600.out 1).trans rfl, (blk_cell BK600.out 2).trans rfl, (blk_cell BK600.out 3).trans rfl, (blk_cell BK600.out 4).trans rfl, (blk_cell BK600.out 5).trans rfl, (blk_cell BK600.out 6).trans rfl, (blk_cell BK600.out 7).trans rfl, hx603_0⟩ (fun hHeld => ?_); refine with_tabW seedcornref37_Read.tab13 seedcornref37_Read.bits13 (fun HT_ HW_ => ?_)
                                            generalize wr.drew = w55 at HO_4 HO_601005 BK585 BK600 HB hx603_0 hHeld ⊢
                                            refine pure_ (i := 0) (N := some 106) (v := ?_) (a' := ?_) #[true, false, false, false, false, false, false, false, false, false, false, false] rfl rfl (any_of HT_.out (by kernel_rfl)) (fun _ _ _ h => h) (Or.inl ⟨by rfl, ?_⟩) ?_ ?_
                                            rotate_left
                                            · intro w'
                                              go_simp
                                              with_reducible rfl
                                            rotate_left
                                            · simp only [Act.put, List.setIfInBounds_toArray, List.set_cons_zero, List.set_cons_succ, i64_w, i32_w]
                                              rfl
                                            refine pure_ (i := 2) (N := some 108) (v := ?_) (a' := ?_) #[true, false, true, false, false, false, false, false, false, false, false, false] rfl rfl (any_of HT_.out (by kernel_rfl)) (fun _ _ _ h => h) (Or.inl ⟨by rfl, ?_⟩) ?_ ?_
                                            rotate_left
                                            · intro w'
                                              go_simp
                                              with_reducible rfl
                                            rotate_left
                                            · simp only [Act.put, List.setIfInBounds_toArray, List.set_cons_zero, List.set_cons_succ, i64_w, i32_w]
                                              rfl
                                            refine pure_ (i := 3) (N := some 109) (v := ?_) (a' := ?_) #[true, false, true, true, false, false, false, false, false, false, false, false] rfl rfl (any_of HT_.out (by kernel_rfl)) (fun _ _ _ h => h) (Or.inl ⟨by rfl, ?_⟩) ?_ ?_
                                            rotate_left
                                            · intro w'
                                              go_simp
                                              with_reducible rfl
                                            rotate_left
                                            · simp only [Act.put, List.setIfInBounds_toArray, List.set_cons_zero, List.set_cons_succ, i64_w, i32_w]
                                              rfl
                                            refine pure_ (i := 4) (N := some 110) (v := ?_) (a' := ?_) #[true, false, true, true, true, false, false, false, false, false, false, false] rfl rfl (any_of HT_.out (by kernel_rfl)) (fun _ _ _ h => h) (Or.inl ⟨by rfl, ?_⟩) ?_ ?_
                                            rotate_left
                                            · intro w'
                                              go_simp
                                              with_reducible rfl
                                            rotate_left
                                            · simp only [Act.put, List.setIfInBounds_toArray, List.set_cons_zero, List.set_cons_succ, i64_w, i32_w]
                                              rfl
                                            refine pure_ (i := 5) (N := some 111) (v := ?_) (a' := ?_) #[true, false, true, true, true, true, false, false, false, false, false, false] rfl rfl (any_of HT_.out (by kernel_rfl)) (fun _ _ _ h => h) (Or.inl ⟨by rfl, ?_⟩) ?_ ?_
                                            rotate_left
                                            · intro w'
                                              go_simp
                                              with_reducible rfl
                                            rotate_left
                                            · simp only [Act.put, List.setIfInBounds_toArray, List.set_cons_zero, List.set_cons_succ, i64_w, i32_w]
                                              rfl
                                            refine take_ (i := 1) (N := some 107) (v := ?_) (a' := ?_) #[true, true, true, true, true, true, false, false, false, false, false, false] rfl rfl (take_ofW HT_.out HW_.out (by kernel_rfl)) (fun _ _ _ h => h) (Or.inl ⟨by rfl, ?_⟩) hHeld ?_ ?_
                                            rotate_left
                                            · rintro w' ⟨s0, s1, s2, s3, s4, s5, s6, s7, s8⟩
                                              go_simp
                                              with_reducible rfl
                                            rotate_left
                                            · simp only [Act.put, List.setIfInBounds_toArray, List.set_cons_zero, List.set_cons_succ, i64_w, i32_w]
                                              rfl
                                            refine take_ (i := 6) (N := some 112) (v := ?_) (a' := ?_) #[true, true, true, true, true, true, true, false, false, false, false, false] rfl rfl (take_ofW HT_.out HW_.out (by kernel_rfl)) (fun _ _ _ h => h) (Or.inl ⟨by rfl, ?_⟩) hHeld ?_ ?_
                                            rotate_left
                                            · rintro w' ⟨s0, s1, s2, s3, s4, s5, s6, s7, s8⟩
                                              go_simp
                                              with_reducible rfl
                                            rotate_left
                                            · simp only [Act.put, List.setIfInBounds_toArray, List.set_cons_zero, List.set_cons_succ, i64_w, i32_w]
                                              rfl
                                            refine pure_ (i := 7) (N := some 113) (v := ?_) (a' := ?_) #[true, true, true, true, true, true, true, true, false, false, false, false] rfl rfl (any_of HT_.out (by kernel_rfl)) (fun _ _ _ h => h) (Or.inl ⟨by rfl, ?_⟩) ?_ ?_
                                            rotate_left
                                            · intro w'
                                              go_simp
                                              with_reducible rfl
                                            rotate_left
                                            · simp only [Act.put, List.setIfInBounds_toArray, List.set_cons_zero, List.set_cons_succ, i64_w, i32_w]
                                              rfl
                                            refine one_ (i := 8) (N := some 114) #[true, true, true, true, true, true, true, true, true, false, false, false] rfl rfl (one_of HT_.out (by kernel_rfl)) (by decide) (fun K hK => ?_)
                                            refine value_ (w1 := ?_) (v := ?_) (by rfl) rfl ?_ ?_
                                            rotate_left 2
                                            · go_simp
                                              constructor
                                              · rfl
                                              · rfl
                                            refine hK.out _ _ ⟨(blk_cell (blk_alloc BK600.out _) 0).trans rfl, (blk_cell (blk_alloc BK600.out _) 1).trans rfl, (blk_cell (blk_alloc BK600.out _) 2).trans rfl, (blk_cell (blk_alloc BK600.out _) 3).trans rfl, (blk_cell (blk_alloc BK600.out _) 4).trans rfl, (blk_cell (blk_alloc BK600.out _) 5).trans rfl, (blk_cell (blk_alloc BK600.out _) 6).trans rfl, (blk_cell (blk_alloc BK600.out _) 7).trans rfl, (World.cell?_alloc_lt _ _ _ (World.block_lt_of_cell? _ _ (hHeld.2.2.2.2.2.2.2.2))).trans (hHeld.2.2.2.2.2.2.2.2)⟩ (fun hHeld => ?_)
                                            clear hK K
                                            refine norm_ (a' := ?_) ?_ ?_
                                            rotate_left
                                            · show Act.put _ (some 114) _ = _
                                              simp only [Act.put, List.setIfInBounds_toArray, List.set_cons_zero, List.set_cons_succ, i64_w, i32_w]
                                              rfl
                                            refine last_ (i := 9) (N := some 115) #[true, true, true, true, true, true, true, true, true, true, false, false] rfl rfl (one_of HT_.out (by kernel_rfl)) (by decide) (fun K hK => ?_)
                                            refine Kd.R_append_step (Kd.int .i64) (w0 := w) w.heap.size (by rfl) (.tmp 107) (.tmp 114) 43 3 (.int .i64 0) 8 rfl Tryd.underlying43 info3 rfl (by decide) (by omega) u601005 x601005_3 (wrap64 (rd t586 (ji48))) [.int .i64 (wrap64 (rd t586 (ji48)))] (fun _ => True) (fun _ => False) rfl rfl ?aP (fun _ hk => hk.elim) ?aF ?aO ?aB ?aS ?aL ?_
                                            (case aP => exact rfl)
                                            (case aB => exact (by repeat (first | (with_reducible first | exact HB.out | apply below_alloc | apply pw_below_drewN | apply below_drew1 | refine below_set ?_ GE585.out | refine below_set ?_ GE600.out) | exact HB.out)))
                                            (case aF => exact (fun _ _ => trivial))
                                            (case aO => exact (by (with_reducible repeat (first | apply Kd.R_alloc | apply Kd.R_drewN | apply Kd.R_drew)); exact HO_601005.out))
                                            (case aS => exact (below_size (by repeat (first | (with_reducible first | exact HB.out | apply below_alloc | apply pw_below_drewN | apply below_drew1 | refine below_set ?_ GE585.out | refine below_set ?_ GE600.out) | exact HB.out))))
                                            (case aL => first | exact Nat.le_trans (Nat.mul_le_mul_right 8 LMc54.out) (by decide) | (have := LMc54.out; omega))
                                            intro v605 w56 ho hb hg hat
                                            rw [← Ny604.out] at ho
                                            have n0_ := Aside0.mk (Kd.R_over' (by (with_reducible repeat (first | apply Kd.R_alloc | apply Kd.R_drewN | apply Kd.R_drew)); exact HO_4.out) (Kd.R_typed (by (with_reducible repeat (first | apply Kd.R_alloc | apply Kd.R_drewN | apply Kd.R_drew)); exact HO_601005.out)) (by decide) hg)
                                            have n1_ := Aside0.mk (blk_grown (g := gb585) (by (with_reducible repeat (first | refine blk_drewN ?_ _ | refine blk_drew ?_ | refine blk_alloc ?_ _)); exact BK585.out) hg (Kd.R_ne HO_601005.out BK585.out (by decide)))
                                            have n2_ := Aside0.mk (blk_grown (g := gb600) (by (with_reducible repeat (first | refine blk_drewN ?_ _ | refine blk_drew ?_ | refine blk_alloc ?_ _)); exact BK600.out) hg (Kd.R_ne HO_601005.out BK600.out (by decide)))
                                            have n3_ := Aside0.mk (hb)
                                            have n4_ := Aside0.mk (ho)
                                            clear HO_4
                                            clear BK585
                                            clear BK600
                                            clear HB
                                            clear HO_601005
                                            have HO_4 := n0_
                                            have BK585 := n1_
                                            have BK600 := n2_
                                            have HB := n3_
                                            have HO606 := n4_
                                            clear n0_ n1_ n2_ n3_ n4_
                                            clear ho hb hg hat
                                            obtain ⟨Ao57, co57, eo57⟩ := Kd.R_slice HO606.out
                                            (first | subst eo57 | (injection eo57 with f1_ f2_ f3_; have f4_ := f1_.symm; have f5_ := f3_.symm; clear f1_ f2_ f3_; subst f4_; subst f5_))
                                            refine hK.out _ _ ?_
                                            clear hK K
                                            refine norm_ (a' := ?_) ?_ ?_
                                            rotate_left
                                            · show Act.put _ (some 115) _ = _
                                              simp only [Act.put, List.setIfInBounds_toArray, List.set_cons_zero, List.set_cons_succ, i64_w, i32_w]
                                              rfl
                                            refine pure_ (i := 10) (N := some 116) (v := ?_) (a' := ?_) #[true, true, true, true, true, true, true, true, true, true, true, false] rfl rfl (any_of HT_.out (by kernel_rfl)) (fun _ _ _ h => h) (Or.inl ⟨by rfl, ?_⟩) ?_ ?_
                                            rotate_left
                                            · intro w'
                                              go_simp
                                              with_reducible rfl
                                            rotate_left
                                            · simp only [Act.put, List.setIfInBounds_toArray, List.set_cons_zero, List.set_cons_succ, i64_w, i32_w]
                                              rfl
                                            refine last_ (i := 11) (N := none) #[true, true, true, true, true, true, true, true, true, true, true, true] rfl rfl (one_of HT_.out (by kernel_rfl)) (by decide) (fun K hK => ?_)
                                            have hs58 : w56.cell? ⟨gb600, 5, none⟩ = some (u601005) := (blk_cell BK600.out 5).trans rfl
                                            have hfs58 := blk_frozen BK600.out 5
                                            have hns58_0 := NB585_600.out
                                            have hms58_0 := NB600_585.out
                                            refine skip_ (w1 := ?_) (by rfl) rfl ?_ ?_
                                            rotate_left
                                            · go_simp
                                              rfl
                                            refine hK.out _ _ ?_
                                            clear hK K
                                            refine done_ (done_of HT_.out (by kernel_rfl)) ?_
                                            try go_wp2
                                            go_roundg k3
                                            case measure => first | exact Nat.lt_succ_self _ | (have := HJ1.out; have := HJ11.out; have := HK3.out; omega)
                                            case rel => exact ⟨(wrap64 (x8_3 + 1)), (x586000_3), (x586001_3), (x586002_3), (x586003_3), (x586004_3), (x586007_3), (y604), (.slice Ao57 y604.length co57), (by first | rfl | (simp; done) | (simp [*]; done)), H', ⟨by first | exact Nat.le_of_succ_le HK3.out | (have := HJ1.out; have := HJ11.out; have := HK3.out; omega)⟩, ⟨by (with_reducible repeat (first | apply Kd.R_alloc | apply Kd.R_drewN | apply Kd.R_drew)); exact Kd.R_mono (Kd.R_far (p := ⟨gb600, 5, none⟩) (Kd.R_types HO_4.out BK600.out (by decide)) (fun _ hk => hk.2) (.slice Ao57 y604.length co57)) (fun _ hk => trivial)⟩, ⟨by (with_reducible repeat (first | apply Kd.R_alloc | apply Kd.R_drewN | apply Kd.R_drew)); exact Kd.R_mono (Kd.R_far (p := ⟨gb600, 5, none⟩) (Kd.R_types HO606.out BK600.out (by decide)) (fun _ hk => hk.2) (.slice Ao57 y604.length co57)) (fun _ hk => trivial)⟩, ⟨by (with_reducible repeat (first | refine blk_drewN ?_ _ | refine blk_drew ?_ | refine blk_alloc ?_ _ | refine blk_far ?_ NB585_600.out _)); exact BK585.out⟩, ⟨by (with_reducible repeat (first | refine blk_drewN ?_ _ | refine blk_drew ?_ | refine blk_alloc ?_ _)); refine blk_put (cs := #[.int .i64 (wrap64 (rd t586 0)), .int .u32 (rd t586 1), .int .u32 (rd t586 2), .int .u32 (rd t586 3), .int .u32 (rd t586 4), u601005, .slice none 0 0, .int .i64 (wrap64 (rd t586 5))]) ?_ 5 _ rfl; (with_reducible repeat (first | refine blk_drewN ?_ _ | refine blk_drew ?_ | refine blk_alloc ?_ _)); exact BK600.out⟩, ⟨by repeat (first | (with_reducible first | exact HB.out | apply below_alloc | apply pw_below_drewN | apply below_drew1 | refine below_set ?_ GE585.out | refine below_set ?_ GE600.out) | exact HB.out)⟩⟩
                                          · rw [if_neg c54] at H
                                            exact absurd H (by simp)
                                      · rw [if_neg c50] at H
                                        exact absurd H (by simp)
                                    · rw [if_neg c49] at H
                                      exact absurd H (by simp)
                                  · rw [if_neg c47] at H
                                    have c47b0 : decide (x8_3 < (wrap64 (rd t586 6))) = false := decide_eq_false c47
                                    clear c47
                                    obtain ⟨ji59, hji59⟩ : ∃ j_ : Int, (wrap64 (7 + (wrap64 (rd t586 6)))) = j_ := ⟨_, rfl⟩
                                    replace H : (if 0 ≤ (ji59) then (if (ji59) < (t586.length : Int) then (if (rd t586 (ji59)) > 20 then (seedcornref37_Read.j3 k3 t586 (wrap64 (rd t586 6)) (rd t586 (ji59)) true (wrap64 (rd t586 0)) (rd t586 1) (rd t586 2) (rd t586 3) (rd t586 4) x601005_3 (wrap64 (rd t586 5))) else (seedcornref37_Read.j3 k3 t586 (wrap64 (rd t586 6)) (rd t586 (ji59)) ((t586.length : Int) != (wrap64 ((wrap64 (8 + (wrap64 (rd t586 6)))) + (wrap64 (4 * (wrap64 (rd t586 (ji59)))))))) (wrap64 (rd t586 0)) (rd t586 1) (rd t586 2) (rd t586 3) (rd t586 4) x601005_3 (wrap64 (rd t586 5)))) else (none)) else (none)) = some (r1, r2, r3, r4, r5, r6, r7, r8, r9) := by first | (rw [hji59] at H; exact H) | (simp only [hji59] at H ⊢; exact H)
                                    have hji59w : (IntKind.i64.wrap (7 + (wrap64 (rd t586 6)))) = ji59 := (i64_w _).trans hji59
                                    by_cases c60 : 0 ≤ (ji59)
                                    · rw [if_pos c60] at H
                                      have c60b0 : decide (0 ≤ (ji59)) = true := decide_eq_true c60
                                      clear c60
                                      by_cases c61 : (ji59) < (t586.length : Int)
                                      · rw [if_pos c61] at H
                                        have c61b0 : decide ((ji59) < (t586.length : Int)) = true := decide_eq_true c61
                                        clear c61
                                        have HC62 := Aside0.mk H
                                        clear H
                                        have p607 : 0 ≤ ((ji59) : Int) := of_decide_eq_true (by first | (with_reducible assumption) | assumption)
                                        have q607 : (ji59) < (t586.length : Int) := of_decide_eq_true (by first | (with_reducible assumption) | assumption)
                                        obtain ⟨ad607, e607, hx607_0⟩ := Kd.at_int (Kd.R_reads' HO_4.out).2.2 (ji59) p607 q607
                                        obtain rfl : ad594 = ad607 := (by injection e607)
                                        replace p607 := eq_true p607
                                        replace q607 := eq_true q607
                                        go_upto_region 15 with (fail)
                                        go_cut [134] (fun v134 wc => ∃ (kq : Nat) (x134_61 : Bool), v134 = .bool x134_61 ∧ Aside0 (seedcornref37_Read.j3 kq t586 (wrap64 (rd t586 6)) (rd t586 (ji59)) x134_61 (wrap64 (rd t586 0)) (rd t586 1) (rd t586 2) (rd t586 3) (rd t586 4) x601005_3 (wrap64 (rd t586 5)) = some (r1, r2, r3, r4, r5, r6, r7, r8, r9)) ∧ Aside0 (kq ≤ k3) ∧ Aside0 (Kd.R (Kd.int .u32) 22 wc w.heap.size (fun _ => True) (.slice (some ad594) t586.length co37) t586) ∧ Aside0 (Kd.R (Kd.int .i64) 3 wc w.heap.size (fun _ => True) u601005 x601005_3) ∧ Aside0 (wc.heap[gb585]? = some (.cells #[.int .i64 x586000_3, .int .u32 x586001_3, .int .u32 x586002_3, .int .u32 x586003_3, .int .u32 x586004_3, (.slice none 0 0), (.slice none 0 0), .int .i64 x586007_3] 46 (0, 0))) ∧ Aside0 (wc.heap[gb600]? = some (.cells #[.int .i64 (wrap64 (rd t586 0)), .int .u32 (rd t586 1), .int .u32 (rd t586 2), .int .u32 (rd t586 3), .int .u32 (rd t586 4), u601005, (.slice none 0 0), .int .i64 (wrap64 (rd t586 5))] 46 (0, 0))) ∧ Aside0 (Below w.heap.size w wc))
                                        case first =>
                                          have H := HC62.out
                                          clear HC62
                                          by_cases c63 : (rd t586 (ji59)) > 20
                                          · rw [if_pos c63] at H
                                            have c63b0 : decide (20 < (rd t586 (ji59))) = true := decide_eq_true c63
                                            clear c63
                                            (first | rw [c63b0] | (simp only [i64_w, i32_w]; rw [c63b0]) | skip)
                                            have H' := Aside0.mk H
                                            clear H
                                            go_wp2
                                            go_meet
                                            case rel => exact ⟨_, (true), (by first | rfl | (simp; done) | (simp [*]; done)), H', ⟨by have := HJ1.out; have := HJ11.out; have := HK3.out; first | omega | exact Nat.le_refl _⟩, ⟨by (with_reducible repeat (first | apply Kd.R_alloc | apply Kd.R_drewN | apply Kd.R_drew)); exact HO_4.out⟩, ⟨by (with_reducible repeat (first | apply Kd.R_alloc | apply Kd.R_drewN | apply Kd.R_drew)); exact HO_601005.out⟩, ⟨by (with_reducible repeat (first | refine blk_drewN ?_ _ | refine blk_drew ?_ | refine blk_alloc ?_ _)); exact BK585.out⟩, ⟨by (with_reducible repeat (first | refine blk_drewN ?_ _ | refine blk_drew ?_ | refine blk_alloc ?_ _)); exact BK600.out⟩, ⟨by repeat (first | (with_reducible first | exact HB.out | apply below_alloc | apply pw_below_drewN | apply below_drew1 | refine below_set ?_ GE585.out | refine below_set ?_ GE600.out) | exact HB.out)⟩⟩
                                          · rw [if_neg c63] at H
                                            have c63b0 : decide (20 < (rd t586 (ji59))) = false := decide_eq_false c63
                                            clear c63
                                            (first | rw [c63b0] | (simp only [i64_w, i32_w]; rw [c63b0]) | skip)
                                            have H' := Aside0.mk H
                                            clear H
                                            go_wp2
                                            go_meet
                                            case rel => exact ⟨_, (((t586.length : Int) != (wrap64 ((wrap64 (8 + (wrap64 (rd t586 6)))) + (wrap64 (4 * (wrap64 (rd t586 (ji59))))))))), (by first | rfl | (simp; done) | (simp only [← hji59] <;> (first | rfl | simp)) | (simp [*]; done)), H', ⟨by have := HJ1.out; have := HJ11.out; have := HK3.out; first | omega | exact Nat.le_refl _⟩, ⟨by (with_reducible repeat (first | apply Kd.R_alloc | apply Kd.R_drewN | apply Kd.R_drew)); exact HO_4.out⟩, ⟨by (with_reducible repeat (first | apply Kd.R_alloc | apply Kd.R_drewN | apply Kd.R_drew)); exact HO_601005.out⟩, ⟨by (with_reducible repeat (first | refine blk_drewN ?_ _ | refine blk_drew ?_ | refine blk_alloc ?_ _)); exact BK585.out⟩, ⟨by (with_reducible repeat (first | refine blk_drewN ?_ _ | refine blk_drew ?_ | refine blk_alloc ?_ _)); exact BK600.out⟩, ⟨by repeat (first | (with_reducible first | exact HB.out | apply below_alloc | apply pw_below_drewN | apply below_drew1 | refine below_set ?_ GE585.out | refine below_set ?_ GE600.out) | exact HB.out)⟩⟩
                                        case rest =>
                                          clear HC62
                                          try clear c1
                                          try clear c2
                                          try clear p2
                                          try clear c3
                                          try clear c4
                                          try clear c4b0
                                          try clear c4b1
                                          try clear c5
                                          try clear c5b0
                                          try clear c5b1
                                          try clear p5
                                          try clear q5
                                          try clear hx5
                                          try clear qi5
                                          try clear c6
                                          try clear c6b0
                                          try clear c6b1
                                          try clear p6
                                          try clear q6
                                          try clear hx6
                                          try clear qi6
                                          try clear p7
                                          try clear q7
                                          try clear hx7
                                          try clear qi7
                                          try clear c8
                                          try clear c10
                                          try clear c10b0
                                          try clear c10b1
                                          try clear c14
                                          try clear c14b0
                                          try clear c14b1
                                          try clear c15
                                          try clear c15b0
                                          try clear c15b1
                                          try clear c17
                                          try clear c17b0
                                          try clear c17b1
                                          try clear c18
                                          try clear c18b0
                                          try clear c20
                                          try clear c20b0
                                          try clear c20b1
                                          try clear c21
                                          try clear c21b0
                                          try clear c23
                                          try clear c23b0
                                          try clear c23b1
                                          try clear c24
                                          try clear c24b0
                                          try clear c27
                                          try clear c29
                                          try clear c29b0
                                          try clear c29b1
                                          try clear c30
                                          try clear c30b0
                                          try clear c30b1
                                          try clear c31
                                          try clear c31b0
                                          try clear c31b1
                                          try clear c32
                                          try clear c32b0
                                          try clear c32b1
                                          try clear c33
                                          try clear c33b0
                                          try clear c33b1
                                          try clear c34
                                          try clear c34b0
                                          try clear c34b1
                                          try clear c35
                                          try clear c35b0
                                          try clear c35b1
                                          try clear c47
                                          try clear c47b0
                                          try clear c49
                                          try clear c49b0
                                          try clear c50
                                          try clear c50b0
                                          try clear c51
                                          try clear c51b0
                                          try clear c52
                                          try clear c54
                                          try clear p59
                                          try clear q59
                                          try clear hx59
                                          try clear c60
                                          try clear c60b0
                                          try clear p60
                                          try clear q60
                                          try clear hx60
                                          try clear qi60
                                          try clear c61
                                          try clear c61b0
                                          try clear c63
                                          try clear c63b0
                                          try clear hcz28_0 hcz28_1 hcz28_2 hcz28_3 hcz28_4 hcz28_5 hcz28_6 hcz28_7
                                          try clear hcz53_0 hcz53_1 hcz53_2 hcz53_3 hcz53_4 hcz53_5 hcz53_6 hcz53_7
                                          try clear hcz9_0 hcz9_1 hcz9_2 hcz9_3 hcz9_4 hcz9_5 hcz9_6 hcz9_7
                                          try clear hfz28_0 hfz28_1 hfz28_2 hfz28_3 hfz28_4 hfz28_5 hfz28_6 hfz28_7
                                          try clear hfz53_0 hfz53_1 hfz53_2 hfz53_3 hfz53_4 hfz53_5 hfz53_6 hfz53_7
                                          try clear hfz9_0 hfz9_1 hfz9_2 hfz9_3 hfz9_4 hfz9_5 hfz9_6 hfz9_7
                                          try clear hx590_0
                                          try clear hx591_0
                                          try clear hx592_0
                                          try clear hx593_0
                                          try clear hx594_0
                                          try clear hx595_0
                                          try clear hx596_0
                                          try clear hx597_0
                                          try clear hx598_0
                                          try clear hx599_0
                                          try clear hx601_0
                                          try clear hx602_0
                                          try clear hx603_0
                                          try clear hx607_0
                                          try clear p2
                                          try clear p5
                                          try clear p590
                                          try clear p591
                                          try clear p592
                                          try clear p593
                                          try clear p594
                                          try clear p595
                                          try clear p596
                                          try clear p597
                                          try clear p598
                                          try clear p599
                                          try clear p6
                                          try clear p601
                                          try clear p602
                                          try clear p603
                                          try clear p607
                                          try clear p7
                                          try clear q5
                                          try clear q590
                                          try clear q591
                                          try clear q592
                                          try clear q593
                                          try clear q594
                                          try clear q595
                                          try clear q596
                                          try clear q597
                                          try clear q598
                                          try clear q599
                                          try clear q6
                                          try clear q601
                                          try clear q602
                                          try clear q603
                                          try clear q607
                                          try clear q7
                                          obtain ⟨kq, x134_61, rfl, HA, HJ61, HO_4, HO_601005, BK585, BK600, HB⟩ := hcut
                                          cases kq with
                                          | zero => exact absurd HA.out (by simp [seedcornref37_Read.j3])
                                          | succ kj61 =>
                                            have H := HA.out
                                            clear HA
                                            simp only [seedcornref37_Read.j3] at H
                                            by_cases c64 : x134_61 = true
                                            · subst c64
                                              have H1 : (some (0, 0, 0, 0, 0, ([] : List Int), ([] : List (S24)), 0, 7)) = some (r1, r2, r3, r4, r5, r6, r7, r8, r9) := by rw [if_pos rfl] at H; exact H
                                              clear H
                                              have H := H1
                                              clear H1
                                              simp only [Option.some.injEq, Prod.mk.injEq] at H
                                              obtain ⟨rfl, rfl, rfl, rfl, rfl, rfl, rfl, rfl, rfl⟩ := H
                                              have hnb65 := NB585_600.out
                                              have hnc65 := NB600_585.out
                                              obtain ⟨hcz66_0, hcz66_1, hcz66_2, hcz66_3, hcz66_4, hcz66_5, hcz66_6, hcz66_7, hfz66_0, hfz66_1, hfz66_2, hfz66_3, hfz66_4, hfz66_5, hfz66_6, hfz66_7⟩ := HX.cells8 BK585.out
                                              go_wp2
                                              refine bodyPost_ret (results_ct rfl _ _ gb585 46 #[.int .i64 0, .int .u32 0, .int .u32 0, .int .u32 0, .int .u32 0, .slice none 0 0, .slice none 0 0, .int .i64 0] (0, 0) _ rfl (by (with_reducible repeat (first | refine blk_drewN ?_ _ | refine blk_drew ?_ | refine blk_alloc ?_ _)); refine blk_put (cs := #[.int .i64 0, .int .u32 0, .int .u32 0, .int .u32 0, .int .u32 0, .slice none 0 0, .slice none 0 0, .int .i64 x586007_3]) ?_ 7 _ rfl; (with_reducible repeat (first | refine blk_drewN ?_ _ | refine blk_drew ?_ | refine blk_alloc ?_ _)); refine blk_put (cs := #[.int .i64 0, .int .u32 0, .int .u32 0, .int .u32 0, .int .u32 0, .slice none 0 0, .slice none 0 0, .int .i64 x586007_3]) ?_ 6 _ rfl; (with_reducible repeat (first | refine blk_drewN ?_ _ | refine blk_drew ?_ | refine blk_alloc ?_ _)); refine blk_put (cs := #[.int .i64 0, .int .u32 0, .int .u32 0, .int .u32 0, .int .u32 0, .slice none 0 0, .slice none 0 0, .int .i64 x586007_3]) ?_ 5 _ rfl; (with_reducible repeat (first | refine blk_drewN ?_ _ | refine blk_drew ?_ | refine blk_alloc ?_ _)); refine blk_put (cs := #[.int .i64 0, .int .u32 0, .int .u32 0, .int .u32 0, .int .u32 x586004_3, .slice none 0 0, .slice none 0 0, .int .i64 x586007_3]) ?_ 4 _ rfl; (with_reducible repeat (first | refine blk_drewN ?_ _ | refine blk_drew ?_ | refine blk_alloc ?_ _)); refine blk_put (cs := #[.int .i64 0, .int .u32 0, .int .u32 0, .int .u32 x586003_3, .int .u32 x586004_3, .slice none 0 0, .slice none 0 0, .int .i64 x586007_3]) ?_ 3 _ rfl; (with_reducible repeat (first | refine blk_drewN ?_ _ | refine blk_drew ?_ | refine blk_alloc ?_ _)); refine blk_put (cs := #[.int .i64 0, .int .u32 0, .int .u32 x586002_3, .int .u32 x586003_3, .int .u32 x586004_3, .slice none 0 0, .slice none 0 0, .int .i64 x586007_3]) ?_ 2 _ rfl; (with_reducible repeat (first | refine blk_drewN ?_ _ | refine blk_drew ?_ | refine blk_alloc ?_ _)); refine blk_put (cs := #[.int .i64 0, .int .u32 x586001_3, .int .u32 x586002_3, .int .u32 x586003_3, .int .u32 x586004_3, .slice none 0 0, .slice none 0 0, .int .i64 x586007_3]) ?_ 1 _ rfl; (with_reducible repeat (first | refine blk_drewN ?_ _ | refine blk_drew ?_ | refine blk_alloc ?_ _)); refine blk_put (cs := #[.int .i64 x586000_3, .int .u32 x586001_3, .int .u32 x586002_3, .int .u32 x586003_3, .int .u32 x586004_3, .slice none 0 0, .slice none 0 0, .int .i64 x586007_3]) ?_ 0 _ rfl; (with_reducible repeat (first | refine blk_drewN ?_ _ | refine blk_drew ?_ | refine blk_alloc ?_ _)); exact BK585.out) Tryd.underlying46 rfl (by kernel_rfl)) rfl ?_
                                              exact ⟨_, _, by first | rfl | (simp [errW_none, errW_some] <;> rfl) | (simp only [← hji59]; first | rfl | (simp [errW_none, errW_some] <;> rfl)) | (simp [*, errW_none, errW_some] <;> rfl), by first | exact Kd.R_nil _ _ _ _ _ | exact Kd.N_nil _ _ _ _ _ | exact Kd.V_nil _ _ _ _ _ | exact Kd.Q_nil _ _ _ _ _ | exact Kd.S_nil _ _ _ _ _, by first | exact Kd.R_nil _ _ _ _ _ | exact Kd.N_nil _ _ _ _ _ | exact Kd.V_nil _ _ _ _ _ | exact Kd.Q_nil _ _ _ _ _ | exact Kd.S_nil _ _ _ _ _, by repeat (first | (with_reducible first | exact HB.out | apply below_alloc | apply pw_below_drewN | apply below_drew1 | refine below_set ?_ GE585.out | refine below_set ?_ GE600.out) | exact HB.out)⟩
                                            · replace c64 := Bool.eq_false_iff.mpr c64
                                              subst c64
                                              have H1 : (seedcornref37_Read.l1 kj61 t586 (wrap64 (rd t586 6)) (rd t586 (ji59)) 0 (wrap64 (rd t586 0)) (rd t586 1) (rd t586 2) (rd t586 3) (rd t586 4) x601005_3 ([] : List (S24)) (wrap64 (rd t586 5))) = some (r1, r2, r3, r4, r5, r6, r7, r8, r9) := by rw [if_neg (show ¬ (false = true) by decide)] at H; exact H
                                              clear H
                                              have H := H1
                                              clear H1
                                              have H' := Aside0.mk H
                                              clear H
                                              go_wp2
                                              go_loopg [10] kj61 (fun kq v10 w' => ∃ (x10_5 : Int) (x601006_5 : List (S24)) (u601006 : Value), v10 = .int .i64 x10_5 ∧ Aside0 (seedcornref37_Read.l1 kq t586 (wrap64 (rd t586 6)) (rd t586 (ji59)) x10_5 (wrap64 (rd t586 0)) (rd t586 1) (rd t586 2) (rd t586 3) (rd t586 4) x601005_3 x601006_5 (wrap64 (rd t586 5)) = some (r1, r2, r3, r4, r5, r6, r7, r8, r9)) ∧ Aside0 (kq ≤ kj61) ∧ Aside0 (Kd.R (Kd.int .u32) 22 w' w.heap.size (fun _ => True) (.slice (some ad594) t586.length co37) t586) ∧ Aside0 (Kd.R (Kd.int .i64) 3 w' w.heap.size (fun _ => True) u601005 x601005_3) ∧ Aside0 (Kd.R k24 24 w' w.heap.size (fun _ => True) u601006 x601006_5) ∧ Aside0 (w'.heap[gb585]? = some (.cells #[.int .i64 x586000_3, .int .u32 x586001_3, .int .u32 x586002_3, .int .u32 x586003_3, .int .u32 x586004_3, (.slice none 0 0), (.slice none 0 0), .int .i64 x586007_3] 46 (0, 0))) ∧ Aside0 (w'.heap[gb600]? = some (.cells #[.int .i64 (wrap64 (rd t586 0)), .int .u32 (rd t586 1), .int .u32 (rd t586 2), .int .u32 (rd t586 3), .int .u32 (rd t586 4), u601005, u601006, .int .i64 (wrap64 (rd t586 5))] 46 (0, 0))) ∧ Aside0 (Below w.heap.size w w'))
                                              case atStart => exact ⟨(0), (([] : List (S24))), (.slice none 0 0), (by first | rfl | (simp; done) | (simp [*]; done)), H', ⟨Nat.le_refl _⟩, ⟨by (with_reducible repeat (first | apply Kd.R_alloc | apply Kd.R_drewN | apply Kd.R_drew)); exact HO_4.out⟩, ⟨by (with_reducible repeat (first | apply Kd.R_alloc | apply Kd.R_drewN | apply Kd.R_drew)); exact HO_601005.out⟩, ⟨by first | exact Kd.R_nil _ _ _ _ _ | exact Kd.N_nil _ _ _ _ _ | exact Kd.V_nil _ _ _ _ _ | exact Kd.Q_nil _ _ _ _ _ | exact Kd.S_nil _ _ _ _ _⟩, ⟨by (with_reducible repeat (first | refine blk_drewN ?_ _ | refine blk_drew ?_ | refine blk_alloc ?_ _)); exact BK585.out⟩, ⟨by (with_reducible repeat (first | refine blk_drewN ?_ _ | refine blk_drew ?_ | refine blk_alloc ?_ _)); exact BK600.out⟩, ⟨by repeat (first | (with_reducible first | exact HB.out | apply below_alloc | apply pw_below_drewN | apply below_drew1 | refine below_set ?_ GE585.out | refine below_set ?_ GE600.out) | exact HB.out)⟩⟩
                                              case round =>
                                                clear H'
                                                try clear c1
                                                try clear c2
                                                try clear p2
                                                try clear c3
                                                try clear c4
                                                try clear c4b0
                                                try clear c4b1
                                                try clear c5
                                                try clear c5b0
                                                try clear c5b1
                                                try clear p5
                                                try clear q5
                                                try clear hx5
                                                try clear qi5
                                                try clear c6
                                                try clear c6b0
                                                try clear c6b1
                                                try clear p6
                                                try clear q6
                                                try clear hx6
                                                try clear qi6
                                                try clear p7
                                                try clear q7
                                                try clear hx7
                                                try clear qi7
                                                try clear c8
                                                try clear c10
                                                try clear c10b0
                                                try clear c10b1
                                                try clear c14
                                                try clear c14b0
                                                try clear c14b1
                                                try clear c15
                                                try clear c15b0
                                                try clear c15b1
                                                try clear c17
                                                try clear c17b0
                                                try clear c17b1
                                                try clear c18
                                                try clear c18b0
                                                try clear c20
                                                try clear c20b0
                                                try clear c20b1
                                                try clear c21
                                                try clear c21b0
                                                try clear c23
                                                try clear c23b0
                                                try clear c23b1
                                                try clear c24
                                                try clear c24b0
                                                try clear c27
                                                try clear c29
                                                try clear c29b0
                                                try clear c29b1
                                                try clear c30
                                                try clear c30b0
                                                try clear c30b1
                                                try clear c31
                                                try clear c31b0
                                                try clear c31b1
                                                try clear c32
                                                try clear c32b0
                                                try clear c32b1
                                                try clear c33
                                                try clear c33b0
                                                try clear c33b1
                                                try clear c34
                                                try clear c34b0
                                                try clear c34b1
                                                try clear c35
                                                try clear c35b0
                                                try clear c35b1
                                                try clear c47
                                                try clear c47b0
                                                try clear c49
                                                try clear c49b0
                                                try clear c50
                                                try clear c50b0
                                                try clear c51
                                                try clear c51b0
                                                try clear c52
                                                try clear c54
                                                try clear p59
                                                try clear q59
                                                try clear hx59
                                                try clear c60
                                                try clear c60b0
                                                try clear p60
                                                try clear q60
                                                try clear hx60
                                                try clear qi60
                                                try clear c61
                                                try clear c61b0
                                                try clear c63
                                                try clear c63b0
                                                try clear c64
                                                try clear p64
                                                try clear c65
                                                try clear hcz28_0 hcz28_1 hcz28_2 hcz28_3 hcz28_4 hcz28_5 hcz28_6 hcz28_7
                                                try clear hcz53_0 hcz53_1 hcz53_2 hcz53_3 hcz53_4 hcz53_5 hcz53_6 hcz53_7
                                                try clear hcz66_0 hcz66_1 hcz66_2 hcz66_3 hcz66_4 hcz66_5 hcz66_6 hcz66_7
                                                try clear hcz9_0 hcz9_1 hcz9_2 hcz9_3 hcz9_4 hcz9_5 hcz9_6 hcz9_7
                                                try clear hfz28_0 hfz28_1 hfz28_2 hfz28_3 hfz28_4 hfz28_5 hfz28_6 hfz28_7
                                                try clear hfz53_0 hfz53_1 hfz53_2 hfz53_3 hfz53_4 hfz53_5 hfz53_6 hfz53_7
                                                try clear hfz66_0 hfz66_1 hfz66_2 hfz66_3 hfz66_4 hfz66_5 hfz66_6 hfz66_7
                                                try clear hfz9_0 hfz9_1 hfz9_2 hfz9_3 hfz9_4 hfz9_5 hfz9_6 hfz9_7
                                                try clear hx590_0
                                                try clear hx591_0
                                                try clear hx592_0
                                                try clear hx593_0
                                                try clear hx594_0
                                                try clear hx595_0
                                                try clear hx596_0
                                                try clear hx597_0
                                                try clear hx598_0
                                                try clear hx599_0
                                                try clear hx601_0
                                                try clear hx602_0
                                                try clear hx603_0
                                                try clear hx607_0
                                                try clear p2
                                                try clear p5
                                                try clear p59
                                                try clear p590
                                                try clear p591
                                                try clear p592
                                                try clear p593
                                                try clear p594
                                                try clear p595
                                                try clear p596
                                                try clear p597
                                                try clear p598
                                                try clear p599
                                                try clear p6
                                                try clear p60
                                                try clear p601
                                                try clear p602
                                                try clear p603
                                                try clear p607
                                                try clear p7
                                                try clear q5
                                                try clear q59
                                                try clear q590
                                                try clear q591
                                                try clear q592
                                                try clear q593
                                                try clear q594
                                                try clear q595
                                                try clear q596
                                                try clear q597
                                                try clear q598
                                                try clear q599
                                                try clear q6
                                                try clear q60
                                                try clear q601
                                                try clear q602
                                                try clear q603
                                                try clear q607
                                                try clear q7
                                                obtain ⟨x10_5, x601006_5, u601006, rfl, HA, HK5, HO_4, HO_601005, HO_601006, BK585, BK600, HB⟩ := hrel
                                                cases gk with
                                                | zero => exact absurd HA.out (by simp [seedcornref37_Read.l1])
                                                | succ k5 =>
                                                  have H := HA.out
                                                  clear HA
                                                  simp only [seedcornref37_Read.l1] at H
                                                  by_cases c67 : x10_5 < (wrap64 ((rd t586 (ji59))))
                                                  · rw [if_pos c67] at H
                                                    have c67b0 : decide (x10_5 < (wrap64 ((rd t586 (ji59))))) = true := decide_eq_true c67
                                                    clear c67
                                                    obtain ⟨ji68, hji68⟩ : ∃ j_ : Int, (wrap64 ((wrap64 (8 + (wrap64 (rd t586 6)))) + (wrap64 (4 * x10_5)))) = j_ := ⟨_, rfl⟩
                                                    replace H : (if 0 ≤ (ji68) then (if (ji68) < (t586.length : Int) then (if 0 ≤ (wrap64 ((ji68) + 1)) then (if (wrap64 ((ji68) + 1)) < (t586.length : Int) then (if 0 ≤ (wrap64 ((ji68) + 2)) then (if (wrap64 ((ji68) + 2)) < (t586.length : Int) then (if 0 ≤ (wrap64 ((ji68) + 3)) then (if (wrap64 ((ji68) + 3)) < (t586.length : Int) then (if x601006_5.length < 8796093022208 then (seedcornref37_Read.l1 k5 t586 (wrap64 (rd t586 6)) (rd t586 (ji59)) (wrap64 (x10_5 + 1)) (wrap64 (rd t586 0)) (rd t586 1) (rd t586 2) (rd t586 3) (rd t586 4) x601005_3 (x601006_5 ++ [(⟨rd t586 (ji68), rd t586 (wrap64 ((ji68) + 1)), rd t586 (wrap64 ((ji68) + 2)), rd t586 (wrap64 ((ji68) + 3))⟩ : S24)]) (wrap64 (rd t586 5))) else (none)) else (none)) else (none)) else (none)) else (none)) else (none)) else (none)) else (none)) else (none)) = some (r1, r2, r3, r4, r5, r6, r7, r8, r9) := by first | (rw [hji68] at H; exact H) | (simp only [hji68] at H ⊢; exact H)
                                                    have hji68w : (IntKind.i64.wrap ((wrap64 (8 + (wrap64 (rd t586 6)))) + (wrap64 (4 * x10_5)))) = ji68 := (i64_w _).trans hji68
                                                    by_cases c69 : 0 ≤ (ji68)
                                                    · rw [if_pos c69] at H
                                                      have c69b0 : decide (0 ≤ (ji68)) = true := decide_eq_true c69
                                                      clear c69
                                                      by_cases c70 : (ji68) < (t586.length : Int)
                                                      · rw [if_pos c70] at H
                                                        have c70b0 : decide ((ji68) < (t586.length : Int)) = true := decide_eq_true c70
                                                        clear c70
                                                        obtain ⟨ji71, hji71⟩ : ∃ j_ : Int, (wrap64 ((ji68) + 1)) = j_ := ⟨_, rfl⟩
                                                        replace H : (if 0 ≤ (ji71) then (if (ji71) < (t586.length : Int) then (if 0 ≤ (wrap64 ((ji68) + 2)) then (if (wrap64 ((ji68) + 2)) < (t586.length : Int) then (if 0 ≤ (wrap64 ((ji68) + 3)) then (if (wrap64 ((ji68) + 3)) < (t586.length : Int) then (if x601006_5.length < 8796093022208 then (seedcornref37_Read.l1 k5 t586 (wrap64 (rd t586 6)) (rd t586 (ji59)) (wrap64 (x10_5 + 1)) (wrap64 (rd t586 0)) (rd t586 1) (rd t586 2) (rd t586 3) (rd t586 4) x601005_3 (x601006_5 ++ [(⟨rd t586 (ji68), rd t586 (ji71), rd t586 (wrap64 ((ji68) + 2)), rd t586 (wrap64 ((ji68) + 3))⟩ : S24)]) (wrap64 (rd t586 5))) else (none)) else (none)) else (none)) else (none)) else (none)) else (none)) else (none)) = some (r1, r2, r3, r4, r5, r6, r7, r8, r9) := by first | (rw [hji71] at H; exact H) | (simp only [hji71] at H ⊢; exact H)
                                                        have hji71w : (IntKind.i64.wrap ((ji68) + 1)) = ji71 := (i64_w _).trans hji71
                                                        by_cases c72 : 0 ≤ (ji71)
                                                        · rw [if_pos c72] at H
                                                          have c72b0 : decide (0 ≤ (ji71)) = true := decide_eq_true c72
                                                          clear c72
                                                          by_cases c73 : (ji71) < (t586.length : Int)
                                                          · rw [if_pos c73] at H
                                                            have c73b0 : decide ((ji71) < (t586.length : Int)) = true := decide_eq_true c73
                                                            clear c73
                                                            obtain ⟨ji74, hji74⟩ : ∃ j_ : Int, (wrap64 ((ji68) + 2)) = j_ := ⟨_, rfl⟩
                                                            replace H : (if 0 ≤ (ji74) then (if (ji74) < (t586.length : Int) then (if 0 ≤ (wrap64 ((ji68) + 3)) then (if (wrap64 ((ji68) + 3)) < (t586.length : Int) then (if x601006_5.length < 8796093022208 then (seedcornref37_Read.l1 k5 t586 (wrap64 (rd t586 6)) (rd t586 (ji59)) (wrap64 (x10_5 + 1)) (wrap64 (rd t586 0)) (rd t586 1) (rd t586 2) (rd t586 3) (rd t586 4) x601005_3 (x601006_5 ++ [(⟨rd t586 (ji68), rd t586 (ji71), rd t586 (ji74), rd t586 (wrap64 ((ji68) + 3))⟩ : S24)]) (wrap64 (rd t586 5))) else (none)) else (none)) else (none)) else (none)) else (none)) = some (r1, r2, r3, r4, r5, r6, r7, r8, r9) := by first | (rw [hji74] at H; exact H) | (simp only [hji74] at H ⊢; exact H)
                                                            have hji74w : (IntKind.i64.wrap ((ji68) + 2)) = ji74 := (i64_w _).trans hji74
                                                            by_cases c75 : 0 ≤ (ji74)
                                                            · rw [if_pos c75] at H
                                                              have c75b0 : decide (0 ≤ (ji74)) = true := decide_eq_true c75
                                                              clear c75
                                                              by_cases c76 : (ji74) < (t586.length : Int)
                                                              · rw [if_pos c76] at H
                                                                have c76b0 : decide ((ji74) < (t586.length : Int)) = true := decide_eq_true c76
                                                                clear c76
                                                                obtain ⟨ji77, hji77⟩ : ∃ j_ : Int, (wrap64 ((ji68) + 3)) = j_ := ⟨_, rfl⟩
                                                                replace H : (if 0 ≤ (ji77) then (if (ji77) < (t586.length : Int) then (if x601006_5.length < 8796093022208 then (seedcornref37_Read.l1 k5 t586 (wrap64 (rd t586 6)) (rd t586 (ji59)) (wrap64 (x10_5 + 1)) (wrap64 (rd t586 0)) (rd t586 1) (rd t586 2) (rd t586 3) (rd t586 4) x601005_3 (x601006_5 ++ [(⟨rd t586 (ji68), rd t586 (ji71), rd t586 (ji74), rd t586 (ji77)⟩ : S24)]) (wrap64 (rd t586 5))) else (none)) else (none)) else (none)) = some (r1, r2, r3, r4, r5, r6, r7, r8, r9) := by first | (rw [hji77] at H; exact H) | (simp only [hji77] at H ⊢; exact H)
                                                                have hji77w : (IntKind.i64.wrap ((ji68) + 3)) = ji77 := (i64_w _).trans hji77
                                                                by_cases c78 : 0 ≤ (ji77)
                                                                · rw [if_pos c78] at H
                                                                  have c78b0 : decide (0 ≤ (ji77)) = true := decide_eq_true c78
                                                                  clear c78
                                                                  by_cases c79 : (ji77) < (t586.length : Int)
                                                                  · rw [if_pos c79] at H
                                                                    have c79b0 : decide ((ji77) < (t586.length : Int)) = true := decide_eq_true c79
                                                                    clear c79
                                                                    by_cases c80 : x601006_5.length < 8796093022208
                                                                    · rw [if_pos c80] at H
                                                                      have LMc80 := Aside0.mk c80
                                                                      clear c80
                                                                      obtain ⟨y612, hy612⟩ : ∃ y_ : List (S24), y_ = (x601006_5 ++ [(⟨rd t586 (ji68), rd t586 (ji71), rd t586 (ji74), rd t586 (ji77)⟩ : S24)]) := ⟨_, rfl⟩
                                                                      replace H : (seedcornref37_Read.l1 k5 t586 (wrap64 (rd t586 6)) (rd t586 (ji59)) (wrap64 (x10_5 + 1)) (wrap64 (rd t586 0)) (rd t586 1) (rd t586 2) (rd t586 3) (rd t586 4) x601005_3 y612 (wrap64 (rd t586 5))) = some (r1, r2, r3, r4, r5, r6, r7, r8, r9) := by first | (rw [hy612]; with_reducible exact H) | (have H2_ := (Option.bind_some _ _).symm.trans H; rw [hy612]; with_reducible exact H2_) | (have H2_ := (Option.bind_some _ _).symm.trans H; with_reducible exact H2_) | with_reducible exact H | (rw [hy612]; exact H) | exact H
                                                                      have Ny612 := Aside0.mk hy612
                                                                      clear hy612
                                                                      have H' := Aside0.mk H
                                                                      clear H
                                                                      try go_wp2
                                                                      have n0_ := Aside0.mk (Kd.R_drew HO_4.out)
                                                                      have n1_ := Aside0.mk (Kd.R_drew HO_601005.out)
                                                                      have n2_ := Aside0.mk (Kd.R_drew HO_601006.out)
                                                                      have n3_ := Aside0.mk (blk_drew BK585.out)
                                                                      have n4_ := Aside0.mk (blk_drew BK600.out)
                                                                      have n5_ := Aside0.mk (below_drew1 HB.out)
                                                                      clear HO_4
                                                                      clear HO_601005
                                                                      clear HO_601006
                                                                      clear BK585
                                                                      clear BK600
                                                                      clear HB
                                                                      have HO_4 := n0_
                                                                      have HO_601005 := n1_
                                                                      have HO_601006 := n2_
                                                                      have BK585 := n3_
                                                                      have BK600 := n4_
                                                                      have HB := n5_
                                                                      clear n0_ n1_ n2_ n3_ n4_ n5_
                                                                      have p608 : 0 ≤ ((ji68) : Int) := of_decide_eq_true (by first | (with_reducible assumption) | assumption)
                                                                      have q608 : (ji68) < (t586.length : Int) := of_decide_eq_true (by first | (with_reducible assumption) | assumption)
                                                                      obtain ⟨ad608, e608, hx608_0⟩ := Kd.at_int (Kd.R_reads' HO_4.out).2.2 (ji68) p608 q608
                                                                      obtain rfl : ad594 = ad608 := (by injection e608)
                                                                      replace p608 := eq_true p608
                                                                      replace q608 := eq_true q608
                                                                      have p609 : 0 ≤ ((ji71) : Int) := of_decide_eq_true (by first | (with_reducible assumption) | assumption)
                                                                      have q609 : (ji71) < (t586.length : Int) := of_decide_eq_true (by first | (with_reducible assumption) | assumption)
                                                                      obtain ⟨ad609, e609, hx609_0⟩ := Kd.at_int (Kd.R_reads' HO_4.out).2.2 (ji71) p609 q609
                                                                      obtain rfl : ad594 = ad609 := (by injection e609)
                                                                      replace p609 := eq_true p609
                                                                      replace q609 := eq_true q609
                                                                      have p610 : 0 ≤ ((ji74) : Int) := of_decide_eq_true (by first | (with_reducible assumption) | assumption)
                                                                      have q610 : (ji74) < (t586.length : Int) := of_decide_eq_true (by first | (with_reducible assumption) | assumption)
                                                                      obtain ⟨ad610, e610, hx610_0⟩ := Kd.at_int (Kd.R_reads' HO_4.out).2.2 (ji74) p610 q610
                                                                      obtain rfl : ad594 = ad610 := (by injection e610)
                                                                      replace p610 := eq_true p610
                                                                      replace q610 := eq_true q610
                                                                      have p611 : 0 ≤ ((ji77) : Int) := of_decide_eq_true (by first | (with_reducible assumption) | assumption)
                                                                      have q611 : (ji77) < (t586.length : Int) := of_decide_eq_true (by first | (with_reducible assumption) | assumption)
                                                                      obtain ⟨ad611, e611, hx611_0⟩ := Kd.at_int (Kd.R_reads' HO_4.out).2.2 (ji77) p611 q611
                                                                      obtain rfl : ad594 = ad611 := (by injection e611)
                                                                      replace p611 := eq_true p611
                                                                      replace q611 := eq_true q611
                                                                      refine start_ (n := 26) (S := fun w' => w'.cell? ⟨gb600, 0, none⟩ = some (.int .i64 (wrap64 (rd t586 0))) ∧ w'.cell? ⟨gb600, 1, none⟩ = some (.int .u32 (rd t586 1)) ∧ w'.cell? ⟨gb600, 2, none⟩ = some (.int .u32 (rd t586 2)) ∧ w'.cell? ⟨gb600, 3, none⟩ = some (.int .u32 (rd t586 3)) ∧ w'.cell? ⟨gb600, 4, none⟩ = some (.int .u32 (rd t586 4)) ∧ w'.cell? ⟨gb600, 5, none⟩ = some (u601005) ∧ w'.cell? ⟨gb600, 6, none⟩ = some (u601006) ∧ w'.cell? ⟨gb600, 7, none⟩ = some (.int .i64 (wrap64 (rd t586 5))) ∧ w'.cell? (ad594.add ((ji68)).toNat) = some (.int .u32 (rd t586 (ji68))) ∧ w'.cell? (ad594.add ((ji71)).toNat) = some (.int .u32 (rd t586 (ji71))) ∧ w'.cell? (ad594.add ((ji74)).toNat) = some (.int .u32 (rd t586 (ji74))) ∧ w'.cell? (ad594.add ((ji77)).toNat) = some (.int .u32 (rd t586 (ji77)))) (ds := [23, 25]) #[false, false, false, false, false, false, false, false, false, false, false, false, false, false, false, false, false, false, false, false, false, false, false, false, false, false] (by kernel_rfl) rfl rfl ⟨(blk_cell BK600.out 0).trans rfl, (blk_cell BK600.out 1).trans rfl, (blk_cell BK600.out 2).trans rfl, (blk_cell BK600.out 3).trans rfl, (blk_cell BK600.out 4).trans rfl, (blk_cell BK600.out 5).trans rfl, (blk_cell BK600.out 6).trans rfl, (blk_cell BK600.out 7).trans rfl, hx608_0, hx609_0, hx610_0, hx611_0⟩ (fun hHeld => ?_); refine with_tabW seedcornref37_Read.tab21 seedcornref37_Read.bits21 (fun HT_ HW_ => ?_)
                                                                      generalize wr.drew = w81 at HO_4 HO_601005 HO_601006 BK585 BK600 HB hx608_0 hx609_0 hx610_0 hx611_0 hHeld ⊢
                                                                      refine pure_ (i := 0) (N := some 147) (v := ?_) (a' := ?_) #[true, false, false, false, false, false, false, false, false, false, false, false, false, false, false, false, false, false, false, false, false, false, false, false, false, false] rfl rfl (any_of HT_.out (by kernel_rfl)) (fun _ _ _ h => h) (Or.inl ⟨by rfl, ?_⟩) ?_ ?_
                                                                      rotate_left
                                                                      · intro w'
                                                                        go_simp
                                                                        with_reducible rfl
                                                                      rotate_left
                                                                      · simp only [Act.put, List.setIfInBounds_toArray, List.set_cons_zero, List.set_cons_succ, i64_w, i32_w]
                                                                        rfl
                                                                      refine pure_ (i := 2) (N := some 149) (v := ?_) (a' := ?_) #[true, false, true, false, false, false, false, false, false, false, false, false, false, false, false, false, false, false, false, false, false, false, false, false, false, false] rfl rfl (any_of HT_.out (by kernel_rfl)) (fun _ _ _ h => h) (Or.inl ⟨by rfl, ?_⟩) ?_ ?_
                                                                      rotate_left
                                                                      · intro w'
                                                                        go_simp
                                                                        with_reducible rfl
                                                                      rotate_left
                                                                      · simp only [Act.put, List.setIfInBounds_toArray, List.set_cons_zero, List.set_cons_succ, i64_w, i32_w]
                                                                        rfl
                                                                      refine pure_ (i := 3) (N := some 150) (v := ?_) (a' := ?_) #[true, false, true, true, false, false, false, false, false, false, false, false, false, false, false, false, false, false, false, false, false, false, false, false, false, false] rfl rfl (any_of HT_.out (by kernel_rfl)) (fun _ _ _ h => h) (Or.inl ⟨by rfl, ?_⟩) ?_ ?_
                                                                      rotate_left
                                                                      · intro w'
                                                                        go_simp
                                                                        with_reducible rfl
                                                                      rotate_left
                                                                      · simp only [Act.put, List.setIfInBounds_toArray, List.set_cons_zero, List.set_cons_succ, i64_w, i32_w]
                                                                        rfl
                                                                      refine pure_ (i := 4) (N := some 151) (v := ?_) (a' := ?_) #[true, false, true, true, true, false, false, false, false, false, false, false, false, false, false, false, false, false, false, false, false, false, false, false, false, false] rfl rfl (any_of HT_.out (by kernel_rfl)) (fun _ _ _ h => h) (Or.inl ⟨by rfl, ?_⟩) ?_ ?_
                                                                      rotate_left
                                                                      · intro w'
                                                                        go_simp
                                                                        with_reducible rfl
                                                                      rotate_left
                                                                      · simp only [Act.put, List.setIfInBounds_toArray, List.set_cons_zero, List.set_cons_succ, i64_w, i32_w]
                                                                        rfl
                                                                      refine pure_ (i := 6) (N := some 153) (v := ?_) (a' := ?_) #[true, false, true, true, true, false, true, false, false, false, false, false, false, false, false, false, false, false, false, false, false, false, false, false, false, false] rfl rfl (any_of HT_.out (by kernel_rfl)) (fun _ _ _ h => h) (Or.inl ⟨by rfl, ?_⟩) ?_ ?_
                                                                      rotate_left
                                                                      · intro w'
                                                                        go_simp
                                                                        with_reducible rfl
                                                                      rotate_left
                                                                      · simp only [Act.put, List.setIfInBounds_toArray, List.set_cons_zero, List.set_cons_succ, i64_w, i32_w]
                                                                        rfl
                                                                      refine pure_ (i := 7) (N := some 154) (v := ?_) (a' := ?_) #[true, false, true, true, true, false, true, true, false, false, false, false, false, false, false, false, false, false, false, false, false, false, false, false, false, false] rfl rfl (any_of HT_.out (by kernel_rfl)) (fun _ _ _ h => h) (Or.inl ⟨by rfl, ?_⟩) ?_ ?_
                                                                      rotate_left
                                                                      · intro w'
                                                                        go_simp
                                                                        with_reducible rfl
                                                                      rotate_left
                                                                      · simp only [Act.put, List.setIfInBounds_toArray, List.set_cons_zero, List.set_cons_succ, i64_w, i32_w]
                                                                        rfl
                                                                      refine pure_ (i := 8) (N := some 155) (v := ?_) (a' := ?_) #[true, false, true, true, true, false, true, true, true, false, false, false, false, false, false, false, false, false, false, false, false, false, false, false, false, false] rfl rfl (any_of HT_.out (by kernel_rfl)) (fun _ _ _ h => h) (Or.inl ⟨by rfl, ?_⟩) ?_ ?_
                                                                      rotate_left
                                                                      · intro w'
                                                                        go_simp
                                                                        with_reducible rfl
                                                                      rotate_left
                                                                      · simp only [Act.put, List.setIfInBounds_toArray, List.set_cons_zero, List.set_cons_succ, i64_w, i32_w]
                                                                        rfl
                                                                      refine pure_ (i := 9) (N := some 156) (v := ?_) (a' := ?_) #[true, false, true, true, true, false, true, true, true, true, false, false, false, false, false, false, false, false, false, false, false, false, false, false, false, false] rfl rfl (any_of HT_.out (by kernel_rfl)) (fun _ _ _ h => h) (Or.inl ⟨by rfl, ?_⟩) ?_ ?_
                                                                      rotate_left
                                                                      · intro w'
                                                                        go_simp
                                                                        with_reducible rfl
                                                                      rotate_left
                                                                      · simp only [Act.put, List.setIfInBounds_toArray, List.set_cons_zero, List.set_cons_succ, i64_w, i32_w]
                                                                        rfl
                                                                      refine pure_ (i := 11) (N := some 158) (v := ?_) (a' := ?_) #[true, false, true, true, true, false, true, true, true, true, false, true, false, false, false, false, false, false, false, false, false, false, false, false, false, false] rfl rfl (any_of HT_.out (by kernel_rfl)) (fun _ _ _ h => h) (Or.inl ⟨by rfl, ?_⟩) ?_ ?_
                                                                      rotate_left
                                                                      · intro w'
                                                                        go_simp
                                                                        with_reducible rfl
                                                                      rotate_left
                                                                      · simp only [Act.put, List.setIfInBounds_toArray, List.set_cons_zero, List.set_cons_succ, i64_w, i32_w]
                                                                        rfl
                                                                      refine pure_ (i := 12) (N := some 159) (v := ?_) (a' := ?_) #[true, false, true, true, true, false, true, true, true, true, false, true, true, false, false, false, false, false, false, false, false, false, false, false, false, false] rfl rfl (any_of HT_.out (by kernel_rfl)) (fun _ _ _ h => h) (Or.inl ⟨by rfl, ?_⟩) ?_ ?_
                                                                      rotate_left
                                                                      · intro w'
                                                                        go_simp
                                                                        with_reducible rfl
                                                                      rotate_left
                                                                      · simp only [Act.put, List.setIfInBounds_toArray, List.set_cons_zero, List.set_cons_succ, i64_w, i32_w]
                                                                        rfl
                                                                      refine pure_ (i := 13) (N := some 160) (v := ?_) (a' := ?_) #[true, false, true, true, true, false, true, true, true, true, false, true, true, true, false, false, false, false, false, false, false, false, false, false, false, false] rfl rfl (any_of HT_.out (by kernel_rfl)) (fun _ _ _ h => h) (Or.inl ⟨by rfl, ?_⟩) ?_ ?_
                                                                      rotate_left
                                                                      · intro w'
                                                                        go_simp
                                                                        with_reducible rfl
                                                                      rotate_left
                                                                      · simp only [Act.put, List.setIfInBounds_toArray, List.set_cons_zero, List.set_cons_succ, i64_w, i32_w]
                                                                        rfl
                                                                      refine pure_ (i := 14) (N := some 161) (v := ?_) (a' := ?_) #[true, false, true, true, true, false, true, true, true, true, false, true, true, true, true, false, false, false, false, false, false, false, false, false, false, false] rfl rfl (any_of HT_.out (by kernel_rfl)) (fun _ _ _ h => h) (Or.inl ⟨by rfl, ?_⟩) ?_ ?_
                                                                      rotate_left
                                                                      · intro w'
                                                                        go_simp
                                                                        with_reducible rfl
                                                                      rotate_left
                                                                      · simp only [Act.put, List.setIfInBounds_toArray, List.set_cons_zero, List.set_cons_succ, i64_w, i32_w]
                                                                        rfl
                                                                      refine pure_ (i := 16) (N := some 163) (v := ?_) (a' := ?_) #[true, false, true, true, true, false, true, true, true, true, false, true, true, true, true, false, true, false, false, false, false, false, false, false, false, false] rfl rfl (any_of HT_.out (by kernel_rfl)) (fun _ _ _ h => h) (Or.inl ⟨by rfl, ?_⟩) ?_ ?_
                                                                      rotate_left
                                                                      · intro w'
                                                                        go_simp
                                                                        with_reducible rfl
                                                                      rotate_left
                                                                      · simp only [Act.put, List.setIfInBounds_toArray, List.set_cons_zero, List.set_cons_succ, i64_w, i32_w]
                                                                        rfl
                                                                      refine pure_ (i := 17) (N := some 164) (v := ?_) (a' := ?_) #[true, false, true, true, true, false, true, true, true, true, false, true, true, true, true, false, true, true, false, false, false, false, false, false, false, false] rfl rfl (any_of HT_.out (by kernel_rfl)) (fun _ _ _ h => h) (Or.inl ⟨by rfl, ?_⟩) ?_ ?_
                                                                      rotate_left
                                                                      · intro w'
                                                                        go_simp
                                                                        with_reducible rfl
                                                                      rotate_left
                                                                      · simp only [Act.put, List.setIfInBounds_toArray, List.set_cons_zero, List.set_cons_succ, i64_w, i32_w]
                                                                        rfl
                                                                      refine pure_ (i := 18) (N := some 165) (v := ?_) (a' := ?_) #[true, false, true, true, true, false, true, true, true, true, false, true, true, true, true, false, true, true, true, false, false, false, false, false, false, false] rfl rfl (any_of HT_.out (by kernel_rfl)) (fun _ _ _ h => h) (Or.inl ⟨by rfl, ?_⟩) ?_ ?_
                                                                      rotate_left
                                                                      · intro w'
                                                                        go_simp
                                                                        with_reducible rfl
                                                                      rotate_left
                                                                      · simp only [Act.put, List.setIfInBounds_toArray, List.set_cons_zero, List.set_cons_succ, i64_w, i32_w]
                                                                        rfl
                                                                      refine pure_ (i := 19) (N := some 166) (v := ?_) (a' := ?_) #[true, false, true, true, true, false, true, true, true, true, false, true, true, true, true, false, true, true, true, true, false, false, false, false, false, false] rfl rfl (any_of HT_.out (by kernel_rfl)) (fun _ _ _ h => h) (Or.inl ⟨by rfl, ?_⟩) ?_ ?_
                                                                      rotate_left
                                                                      · intro w'
                                                                        go_simp
                                                                        with_reducible rfl
                                                                      rotate_left
                                                                      · simp only [Act.put, List.setIfInBounds_toArray, List.set_cons_zero, List.set_cons_succ, i64_w, i32_w]
                                                                        rfl
                                                                      refine take_ (i := 1) (N := some 148) (v := ?_) (a' := ?_) #[true, true, true, true, true, false, true, true, true, true, false, true, true, true, true, false, true, true, true, true, false, false, false, false, false, false] rfl rfl (take_ofW HT_.out HW_.out (by kernel_rfl)) (fun _ _ _ h => h) (Or.inl ⟨by rfl, ?_⟩) hHeld ?_ ?_
                                                                      rotate_left
                                                                      · rintro w' ⟨s0, s1, s2, s3, s4, s5, s6, s7, s8, s9, s10, s11⟩
                                                                        go_simp
                                                                        with_reducible rfl
                                                                      rotate_left
                                                                      · simp only [Act.put, List.setIfInBounds_toArray, List.set_cons_zero, List.set_cons_succ, i64_w, i32_w]
                                                                        rfl
                                                                      refine take_ (i := 5) (N := some 152) (v := ?_) (a' := ?_) #[true, true, true, true, true, true, true, true, true, true, false, true, true, true, true, false, true, true, true, true, false, false, false, false, false, false] rfl rfl (take_ofW HT_.out HW_.out (by kernel_rfl)) (fun _ _ _ h => h) (Or.inl ⟨by rfl, ?_⟩) hHeld ?_ ?_
                                                                      rotate_left
                                                                      · rintro w' ⟨s0, s1, s2, s3, s4, s5, s6, s7, s8, s9, s10, s11⟩
                                                                        go_simp
                                                                        with_reducible rfl
                                                                      rotate_left
                                                                      · simp only [Act.put, List.setIfInBounds_toArray, List.set_cons_zero, List.set_cons_succ, i64_w, i32_w]
                                                                        rfl
                                                                      refine take_ (i := 10) (N := some 157) (v := ?_) (a' := ?_) #[true, true, true, true, true, true, true, true, true, true, true, true, true, true, true, false, true, true, true, true, false, false, false, false, false, false] rfl rfl (take_ofW HT_.out HW_.out (by kernel_rfl)) (fun _ _ _ h => h) (Or.inl ⟨by rfl, ?_⟩) hHeld ?_ ?_
                                                                      rotate_left
                                                                      · rintro w' ⟨s0, s1, s2, s3, s4, s5, s6, s7, s8, s9, s10, s11⟩
                                                                        go_simp
                                                                        with_reducible rfl
                                                                      rotate_left
                                                                      · simp only [Act.put, List.setIfInBounds_toArray, List.set_cons_zero, List.set_cons_succ, i64_w, i32_w]
                                                                        rfl
                                                                      refine take_ (i := 15) (N := some 162) (v := ?_) (a' := ?_) #[true, true, true, true, true, true, true, true, true, true, true, true, true, true, true, true, true, true, true, true, false, false, false, false, false, false] rfl rfl (take_ofW HT_.out HW_.out (by kernel_rfl)) (fun _ _ _ h => h) (Or.inl ⟨by rfl, ?_⟩) hHeld ?_ ?_
                                                                      rotate_left
                                                                      · rintro w' ⟨s0, s1, s2, s3, s4, s5, s6, s7, s8, s9, s10, s11⟩
                                                                        go_simp
                                                                        with_reducible rfl
                                                                      rotate_left
                                                                      · simp only [Act.put, List.setIfInBounds_toArray, List.set_cons_zero, List.set_cons_succ, i64_w, i32_w]
                                                                        rfl
                                                                      refine take_ (i := 20) (N := some 167) (v := ?_) (a' := ?_) #[true, true, true, true, true, true, true, true, true, true, true, true, true, true, true, true, true, true, true, true, true, false, false, false, false, false] rfl rfl (take_ofW HT_.out HW_.out (by kernel_rfl)) (fun _ _ _ h => h) (Or.inl ⟨by rfl, ?_⟩) hHeld ?_ ?_
                                                                      rotate_left
                                                                      · rintro w' ⟨s0, s1, s2, s3, s4, s5, s6, s7, s8, s9, s10, s11⟩
                                                                        go_simp
                                                                        with_reducible rfl
                                                                      rotate_left
                                                                      · simp only [Act.put, List.setIfInBounds_toArray, List.set_cons_zero, List.set_cons_succ, i64_w, i32_w]
                                                                        rfl
                                                                      refine pure_ (i := 21) (N := some 168) (v := ?_) (a' := ?_) #[true, true, true, true, true, true, true, true, true, true, true, true, true, true, true, true, true, true, true, true, true, true, false, false, false, false] rfl rfl (any_of HT_.out (by kernel_rfl)) (fun _ _ _ h => h) (Or.inl ⟨by rfl, ?_⟩) ?_ ?_
                                                                      rotate_left
                                                                      · intro w'
                                                                        go_simp
                                                                        with_reducible rfl
                                                                      rotate_left
                                                                      · simp only [Act.put, List.setIfInBounds_toArray, List.set_cons_zero, List.set_cons_succ, i64_w, i32_w]
                                                                        rfl
                                                                      refine one_ (i := 22) (N := some 169) #[true, true, true, true, true, true, true, true, true, true, true, true, true, true, true, true, true, true, true, true, true, true, true, false, false, false] rfl rfl (one_of HT_.out (by kernel_rfl)) (by decide) (fun K hK => ?_)
                                                                      refine value_ (w1 := ?_) (v := ?_) (by rfl) rfl ?_ ?_
                                                                      rotate_left 2
                                                                      · go_simp
                                                                        constructor
                                                                        · rfl
                                                                        · rfl
                                                                      refine hK.out _ _ ⟨(blk_cell (blk_alloc BK600.out _) 0).trans rfl, (blk_cell (blk_alloc BK600.out _) 1).trans rfl, (blk_cell (blk_alloc BK600.out _) 2).trans rfl, (blk_cell (blk_alloc BK600.out _) 3).trans rfl, (blk_cell (blk_alloc BK600.out _) 4).trans rfl, (blk_cell (blk_alloc BK600.out _) 5).trans rfl, (blk_cell (blk_alloc BK600.out _) 6).trans rfl, (blk_cell (blk_alloc BK600.out _) 7).trans rfl, (World.cell?_alloc_lt _ _ _ (World.block_lt_of_cell? _ _ (hHeld.2.2.2.2.2.2.2.2.1))).trans (hHeld.2.2.2.2.2.2.2.2.1), (World.cell?_alloc_lt _ _ _ (World.block_lt_of_cell? _ _ (hHeld.2.2.2.2.2.2.2.2.2.1))).trans (hHeld.2.2.2.2.2.2.2.2.2.1), (World.cell?_alloc_lt _ _ _ (World.block_lt_of_cell? _ _ (hHeld.2.2.2.2.2.2.2.2.2.2.1))).trans (hHeld.2.2.2.2.2.2.2.2.2.2.1), (World.cell?_alloc_lt _ _ _ (World.block_lt_of_cell? _ _ (hHeld.2.2.2.2.2.2.2.2.2.2.2))).trans (hHeld.2.2.2.2.2.2.2.2.2.2.2)⟩ (fun hHeld => ?_)
                                                                      clear hK K
                                                                      refine norm_ (a' := ?_) ?_ ?_
                                                                      rotate_left
                                                                      · show Act.put _ (some 169) _ = _
                                                                        simp only [Act.put, List.setIfInBounds_toArray, List.set_cons_zero, List.set_cons_succ, i64_w, i32_w]
                                                                        rfl
                                                                      refine last_ (i := 23) (N := some 170) #[true, true, true, true, true, true, true, true, true, true, true, true, true, true, true, true, true, true, true, true, true, true, true, true, false, false] rfl rfl (one_of HT_.out (by kernel_rfl)) (by decide) (fun K hK => ?_)
                                                                      refine Kd.R_append_step k24 (w0 := w) w.heap.size (by rfl) (.tmp 148) (.tmp 169) 44 24 (.agg #[(.int .u32 0), (.int .u32 0), (.int .u32 0), (.int .u32 0)]) 16 rfl Tryd.underlying44 info24 rfl (by decide) (by omega) u601006 x601006_5 (⟨rd t586 (ji68), rd t586 (ji71), rd t586 (ji74), rd t586 (ji77)⟩ : S24) [.int .u32 (rd t586 (ji68)), .int .u32 (rd t586 (ji71)), .int .u32 (rd t586 (ji74)), .int .u32 (rd t586 (ji77))] (fun _ => True) (fun _ => False) rfl rfl ?aP (fun _ hk => hk.elim) ?aF ?aO ?aB ?aS ?aL ?_
                                                                      (case aP => exact k24_mkM _ _ _ (⟨rd t586 (ji68), rd t586 (ji71), rd t586 (ji74), rd t586 (ji77)⟩ : S24))
                                                                      (case aB => exact (by repeat (first | (with_reducible first | exact HB.out | apply below_alloc | apply pw_below_drewN | apply below_drew1 | refine below_set ?_ GE585.out | refine below_set ?_ GE600.out) | exact HB.out)))
                                                                      (case aF => exact (fun _ _ => trivial))
                                                                      (case aO => exact (by (with_reducible repeat (first | apply Kd.R_alloc | apply Kd.R_drewN | apply Kd.R_drew)); exact HO_601006.out))
                                                                      (case aS => exact (below_size (by repeat (first | (with_reducible first | exact HB.out | apply below_alloc | apply pw_below_drewN | apply below_drew1 | refine below_set ?_ GE585.out | refine below_set ?_ GE600.out) | exact HB.out))))
                                                                      (case aL => first | exact Nat.le_trans (Nat.mul_le_mul_right 16 LMc80.out) (by decide) | (have := LMc80.out; omega))
                                                                      intro v613 w82 ho hb hg hat
                                                                      rw [← Ny612.out] at ho
                                                                      have n0_ := Aside0.mk (Kd.R_over' (by (with_reducible repeat (first | apply Kd.R_alloc | apply Kd.R_drewN | apply Kd.R_drew)); exact HO_4.out) (Kd.R_typed (by (with_reducible repeat (first | apply Kd.R_alloc | apply Kd.R_drewN | apply Kd.R_drew)); exact HO_601006.out)) (by decide) hg)
                                                                      have n1_ := Aside0.mk (Kd.R_over' (by (with_reducible repeat (first | apply Kd.R_alloc | apply Kd.R_drewN | apply Kd.R_drew)); exact HO_601005.out) (Kd.R_typed (by (with_reducible repeat (first | apply Kd.R_alloc | apply Kd.R_drewN | apply Kd.R_drew)); exact HO_601006.out)) (by decide) hg)
                                                                      have n2_ := Aside0.mk (blk_grown (g := gb585) (by (with_reducible repeat (first | refine blk_drewN ?_ _ | refine blk_drew ?_ | refine blk_alloc ?_ _)); exact BK585.out) hg (Kd.R_ne HO_601006.out BK585.out (by decide)))
                                                                      have n3_ := Aside0.mk (blk_grown (g := gb600) (by (with_reducible repeat (first | refine blk_drewN ?_ _ | refine blk_drew ?_ | refine blk_alloc ?_ _)); exact BK600.out) hg (Kd.R_ne HO_601006.out BK600.out (by decide)))
                                                                      have n4_ := Aside0.mk (hb)
                                                                      have n5_ := Aside0.mk (ho)
                                                                      clear HO_4
                                                                      clear HO_601005
                                                                      clear BK585
                                                                      clear BK600
                                                                      clear HB
                                                                      clear HO_601006
                                                                      have HO_4 := n0_
                                                                      have HO_601005 := n1_
                                                                      have BK585 := n2_
                                                                      have BK600 := n3_
                                                                      have HB := n4_
                                                                      have HO614 := n5_
                                                                      clear n0_ n1_ n2_ n3_ n4_ n5_
                                                                      clear ho hb hg hat
                                                                      obtain ⟨Ao83, co83, eo83⟩ := Kd.R_slice HO614.out
                                                                      (first | subst eo83 | (injection eo83 with f1_ f2_ f3_; have f4_ := f1_.symm; have f5_ := f3_.symm; clear f1_ f2_ f3_; subst f4_; subst f5_))
                                                                      refine hK.out _ _ ?_
                                                                      clear hK K
                                                                      refine norm_ (a' := ?_) ?_ ?_
                                                                      rotate_left
                                                                      · show Act.put _ (some 170) _ = _
                                                                        simp only [Act.put, List.setIfInBounds_toArray, List.set_cons_zero, List.set_cons_succ, i64_w, i32_w]
                                                                        rfl
                                                                      refine pure_ (i := 24) (N := some 171) (v := ?_) (a' := ?_) #[true, true, true, true, true, true, true, true, true, true, true, true, true, true, true, true, true, true, true, true, true, true, true, true, true, false] rfl rfl (any_of HT_.out (by kernel_rfl)) (fun _ _ _ h => h) (Or.inl ⟨by rfl, ?_⟩) ?_ ?_
                                                                      rotate_left
                                                                      · intro w'
                                                                        go_simp
                                                                        with_reducible rfl
                                                                      rotate_left
                                                                      · simp only [Act.put, List.setIfInBounds_toArray, List.set_cons_zero, List.set_cons_succ, i64_w, i32_w]
                                                                        rfl
                                                                      refine last_ (i := 25) (N := none) #[true, true, true, true, true, true, true, true, true, true, true, true, true, true, true, true, true, true, true, true, true, true, true, true, true, true] rfl rfl (one_of HT_.out (by kernel_rfl)) (by decide) (fun K hK => ?_)
                                                                      have hs84 : w82.cell? ⟨gb600, 6, none⟩ = some (u601006) := (blk_cell BK600.out 6).trans rfl
                                                                      have hfs84 := blk_frozen BK600.out 6
                                                                      have hns84_0 := NB585_600.out
                                                                      have hms84_0 := NB600_585.out
                                                                      refine skip_ (w1 := ?_) (by rfl) rfl ?_ ?_
                                                                      rotate_left
                                                                      · go_simp
                                                                        rfl
                                                                      refine hK.out _ _ ?_
                                                                      clear hK K
                                                                      refine done_ (done_of HT_.out (by kernel_rfl)) ?_
                                                                      try go_wp2
                                                                      go_roundg k5
                                                                      case measure => first | exact Nat.lt_succ_self _ | (have := HJ1.out; have := HJ11.out; have := HK3.out; have := HJ61.out; have := HK5.out; omega)
                                                                      case rel => exact ⟨(wrap64 (x10_5 + 1)), (y612), (.slice Ao83 y612.length co83), (by first | rfl | (simp; done) | (simp [*]; done)), H', ⟨by first | exact Nat.le_of_succ_le HK5.out | (have := HJ1.out; have := HJ11.out; have := HK3.out; have := HJ61.out; have := HK5.out; omega)⟩, ⟨by (with_reducible repeat (first | apply Kd.R_alloc | apply Kd.R_drewN | apply Kd.R_drew)); exact Kd.R_mono (Kd.R_far (p := ⟨gb600, 6, none⟩) (Kd.R_types HO_4.out BK600.out (by decide)) (fun _ hk => hk.2) (.slice Ao83 y612.length co83)) (fun _ hk => trivial)⟩, ⟨by (with_reducible repeat (first | apply Kd.R_alloc | apply Kd.R_drewN | apply Kd.R_drew)); exact Kd.R_mono (Kd.R_far (p := ⟨gb600, 6, none⟩) (Kd.R_types HO_601005.out BK600.out (by decide)) (fun _ hk => hk.2) (.slice Ao83 y612.length co83)) (fun _ hk => trivial)⟩, ⟨by (with_reducible repeat (first | apply Kd.R_alloc | apply Kd.R_drewN | apply Kd.R_drew)); exact Kd.R_mono (Kd.R_far (p := ⟨gb600, 6, none⟩) (Kd.R_types HO614.out BK600.out (by decide)) (fun _ hk => hk.2) (.slice Ao83 y612.length co83)) (fun _ hk => trivial)⟩, ⟨by (with_reducible repeat (first | refine blk_drewN ?_ _ | refine blk_drew ?_ | refine blk_alloc ?_ _ | refine blk_far ?_ NB585_600.out _)); exact BK585.out⟩, ⟨by (with_reducible repeat (first | refine blk_drewN ?_ _ | refine blk_drew ?_ | refine blk_alloc ?_ _)); refine blk_put (cs := #[.int .i64 (wrap64 (rd t586 0)), .int .u32 (rd t586 1), .int .u32 (rd t586 2), .int .u32 (rd t586 3), .int .u32 (rd t586 4), u601005, u601006, .int .i64 (wrap64 (rd t586 5))]) ?_ 6 _ rfl; (with_reducible repeat (first | refine blk_drewN ?_ _ | refine blk_drew ?_ | refine blk_alloc ?_ _)); exact BK600.out⟩, ⟨by repeat (first | (with_reducible first | exact HB.out | apply below_alloc | apply pw_below_drewN | apply below_drew1 | refine below_set ?_ GE585.out | refine below_set ?_ GE600.out) | exact HB.out)⟩⟩
                                                                    · rw [if_neg c80] at H
                                                                      exact absurd H (by simp)
                                                                  · rw [if_neg c79] at H
                                                                    exact absurd H (by simp)
                                                                · rw [if_neg c78] at H
                                                                  exact absurd H (by simp)
                                                              · rw [if_neg c76] at H
                                                                exact absurd H (by simp)
                                                            · rw [if_neg c75] at H
                                                              exact absurd H (by simp)
                                                          · rw [if_neg c73] at H
                                                            exact absurd H (by simp)
                                                        · rw [if_neg c72] at H
                                                          exact absurd H (by simp)
                                                      · rw [if_neg c70] at H
                                                        exact absurd H (by simp)
                                                    · rw [if_neg c69] at H
                                                      exact absurd H (by simp)
                                                  · rw [if_neg c67] at H
                                                    have c67b0 : decide (x10_5 < (wrap64 ((rd t586 (ji59))))) = false := decide_eq_false c67
                                                    clear c67
                                                    replace H := Option.bind_eq_some_iff.mp H
                                                    obtain ⟨t615, A850, H⟩ := H
                                                    replace H : (if t615 = true then (some ((wrap64 (rd t586 0)), (rd t586 1), (rd t586 2), (rd t586 3), (rd t586 4), x601005_3, x601006_5, (wrap64 (rd t586 5)), 0)) else (some (0, 0, 0, 0, 0, ([] : List Int), ([] : List (S24)), 0, 7))) = some (r1, r2, r3, r4, r5, r6, r7, r8, r9) := H
                                                    have A85 := Aside0.mk A850
                                                    clear A850
                                                    by_cases c86 : t615 = true
                                                    · subst c86
                                                      have H1 : (some ((wrap64 (rd t586 0)), (rd t586 1), (rd t586 2), (rd t586 3), (rd t586 4), x601005_3, x601006_5, (wrap64 (rd t586 5)), 0)) = some (r1, r2, r3, r4, r5, r6, r7, r8, r9) := by rw [if_pos rfl] at H; exact H
                                                      clear H
                                                      have H := H1
                                                      clear H1
                                                      simp only [Option.some.injEq, Prod.mk.injEq] at H
                                                      obtain ⟨rfl, rfl, rfl, rfl, rfl, rfl, rfl, rfl, rfl⟩ := H
                                                      have hnb87 := NB600_585.out
                                                      have hnc87 := NB585_600.out
                                                      obtain ⟨hcz88_0, hcz88_1, hcz88_2, hcz88_3, hcz88_4, hcz88_5, hcz88_6, hcz88_7, hfz88_0, hfz88_1, hfz88_2, hfz88_3, hfz88_4, hfz88_5, hfz88_6, hfz88_7⟩ := HX.cells8 BK600.out
                                                      obtain ⟨Ao89, co89, eo89⟩ := Kd.R_slice HO_601005.out
                                                      subst eo89
                                                      obtain ⟨Ao90, co90, eo90⟩ := Kd.R_slice HO_601006.out
                                                      subst eo90
                                                      go_wp2_with (first | ((with_reducible refine gate_callee (f := 41) rfl ?_); refine goesL_ (some 173) rfl rfl Tryd.func41 (by kernel_rfl) rfl #[.agg #[.int .i64 (wrap64 (rd t586 0)), .int .u32 (rd t586 1), .int .u32 (rd t586 2), .int .u32 (rd t586 3), .int .u32 (rd t586 4), .slice Ao89 x601005_3.length co89, .slice Ao90 x601006_5.length co90, .int .i64 (wrap64 (rd t586 5))]] rfl (by (try simp only [List.map_toArray, List.map_cons, List.map_nil]); first | done | rfl | (simp only [List.length_drop, List.length_take]; rfl)) ?_; (with_reducible refine (seedcornref37_Right.calls k5 (wrap64 (rd t586 0)) (rd t586 1) (rd t586 2) (rd t586 3) (rd t586 4) _ _ x601005_3 _ _ x601006_5 (wrap64 (rd t586 5)) true _ ?side1 ?side2 ?side3 ?side4 A85.out).mono ?_); (case side1 => repeat (first | exact (Kd.R_reads' HO_601005.out).2.2 | (with_reducible refine Kd.C_alloc ?_ _) | (with_reducible refine Kd.C_drewN ?_ _) | (with_reducible refine Kd.C_drew ?_))); (case side2 => exact (Kd.R_reads' HO_601005.out).2.1); (case side3 => repeat (first | exact (Kd.R_reads' HO_601006.out).2.2 | (with_reducible refine Kd.C_alloc ?_ _) | (with_reducible refine Kd.C_drewN ?_ _) | (with_reducible refine Kd.C_drew ?_))); (case side4 => exact (Kd.R_reads' HO_601006.out).2.1); rintro e w91 ⟨rfl, hb⟩; refine ⟨_, rfl, ?_⟩; have n0_ := Aside0.mk (Kd.R_below (by (with_reducible repeat (first | apply Kd.R_alloc | apply Kd.R_drewN | apply Kd.R_drew)); exact HO_4.out) hb); have n1_ := Aside0.mk (Kd.R_below (by (with_reducible repeat (first | apply Kd.R_alloc | apply Kd.R_drewN | apply Kd.R_drew)); exact HO_601005.out) hb); have n2_ := Aside0.mk (Kd.R_below (by (with_reducible repeat (first | apply Kd.R_alloc | apply Kd.R_drewN | apply Kd.R_drew)); exact HO_601006.out) hb); have n3_ := Aside0.mk (blk_below (g := gb585) (by (with_reducible repeat (first | refine blk_drewN ?_ _ | refine blk_drew ?_ | refine blk_alloc ?_ _)); exact BK585.out) hb); have n4_ := Aside0.mk (blk_below (g := gb600) (by (with_reducible repeat (first | refine blk_drewN ?_ _ | refine blk_drew ?_ | refine blk_alloc ?_ _)); exact BK600.out) hb); have n5_ := Aside0.mk (below_step (by repeat (first | (with_reducible first | exact HB.out | apply below_alloc | apply pw_below_drewN | apply below_drew1 | refine below_set ?_ GE585.out | refine below_set ?_ GE600.out) | exact HB.out)) hb); clear HO_4; clear HO_601005; clear HO_601006; clear BK585; clear BK600; clear HB; have HO_4 := n0_; have HO_601005 := n1_; have HO_601006 := n2_; have BK585 := n3_; have BK600 := n4_; have HB := n5_; clear n0_ n1_ n2_ n3_ n4_ n5_; (try clear hb); (try clear hb2); (try clear hk); (try clear hi); obtain ⟨hcz92_0, hcz92_1, hcz92_2, hcz92_3, hcz92_4, hcz92_5, hcz92_6, hcz92_7, hfz92_0, hfz92_1, hfz92_2, hfz92_3, hfz92_4, hfz92_5, hfz92_6, hfz92_7⟩ := HX.cells8 BK600.out; obtain ⟨hcz93_0, hcz93_1, hcz93_2, hcz93_3, hcz93_4, hcz93_5, hcz93_6, hcz93_7, hfz93_0, hfz93_1, hfz93_2, hfz93_3, hfz93_4, hfz93_5, hfz93_6, hfz93_7⟩ := HX.cells8 BK585.out))
                                                      refine bodyPost_ret (results_ct rfl _ _ gb585 46 #[.int .i64 (wrap64 (rd t586 0)), .int .u32 (rd t586 1), .int .u32 (rd t586 2), .int .u32 (rd t586 3), .int .u32 (rd t586 4), .slice Ao89 x601005_3.length co89, .slice Ao90 x601006_5.length co90, .int .i64 (wrap64 (rd t586 5))] (0, 0) _ rfl (by (with_reducible repeat (first | refine blk_drewN ?_ _ | refine blk_drew ?_ | refine blk_alloc ?_ _)); refine blk_put (cs := #[.int .i64 (wrap64 (rd t586 0)), .int .u32 (rd t586 1), .int .u32 (rd t586 2), .int .u32 (rd t586 3), .int .u32 (rd t586 4), .slice Ao89 x601005_3.length co89, .slice Ao90 x601006_5.length co90, .int .i64 x586007_3]) ?_ 7 _ rfl; (with_reducible repeat (first | refine blk_drewN ?_ _ | refine blk_drew ?_ | refine blk_alloc ?_ _)); refine blk_put (cs := #[.int .i64 (wrap64 (rd t586 0)), .int .u32 (rd t586 1), .int .u32 (rd t586 2), .int .u32 (rd t586 3), .int .u32 (rd t586 4), .slice Ao89 x601005_3.length co89, .slice none 0 0, .int .i64 x586007_3]) ?_ 6 _ rfl; (with_reducible repeat (first | refine blk_drewN ?_ _ | refine blk_drew ?_ | refine blk_alloc ?_ _)); refine blk_put (cs := #[.int .i64 (wrap64 (rd t586 0)), .int .u32 (rd t586 1), .int .u32 (rd t586 2), .int .u32 (rd t586 3), .int .u32 (rd t586 4), .slice none 0 0, .slice none 0 0, .int .i64 x586007_3]) ?_ 5 _ rfl; (with_reducible repeat (first | refine blk_drewN ?_ _ | refine blk_drew ?_ | refine blk_alloc ?_ _)); refine blk_put (cs := #[.int .i64 (wrap64 (rd t586 0)), .int .u32 (rd t586 1), .int .u32 (rd t586 2), .int .u32 (rd t586 3), .int .u32 x586004_3, .slice none 0 0, .slice none 0 0, .int .i64 x586007_3]) ?_ 4 _ rfl; (with_reducible repeat (first | refine blk_drewN ?_ _ | refine blk_drew ?_ | refine blk_alloc ?_ _)); refine blk_put (cs := #[.int .i64 (wrap64 (rd t586 0)), .int .u32 (rd t586 1), .int .u32 (rd t586 2), .int .u32 x586003_3, .int .u32 x586004_3, .slice none 0 0, .slice none 0 0, .int .i64 x586007_3]) ?_ 3 _ rfl; (with_reducible repeat (first | refine blk_drewN ?_ _ | refine blk_drew ?_ | refine blk_alloc ?_ _)); refine blk_put (cs := #[.int .i64 (wrap64 (rd t586 0)), .int .u32 (rd t586 1), .int .u32 x586002_3, .int .u32 x586003_3, .int .u32 x586004_3, .slice none 0 0, .slice none 0 0, .int .i64 x586007_3]) ?_ 2 _ rfl; (with_reducible repeat (first | refine blk_drewN ?_ _ | refine blk_drew ?_ | refine blk_alloc ?_ _)); refine blk_put (cs := #[.int .i64 (wrap64 (rd t586 0)), .int .u32 x586001_3, .int .u32 x586002_3, .int .u32 x586003_3, .int .u32 x586004_3, .slice none 0 0, .slice none 0 0, .int .i64 x586007_3]) ?_ 1 _ rfl; (with_reducible repeat (first | refine blk_drewN ?_ _ | refine blk_drew ?_ | refine blk_alloc ?_ _)); refine blk_put (cs := #[.int .i64 x586000_3, .int .u32 x586001_3, .int .u32 x586002_3, .int .u32 x586003_3, .int .u32 x586004_3, .slice none 0 0, .slice none 0 0, .int .i64 x586007_3]) ?_ 0 _ rfl; (with_reducible repeat (first | refine blk_drewN ?_ _ | refine blk_drew ?_ | refine blk_alloc ?_ _)); exact BK585.out) Tryd.underlying46 rfl (by kernel_rfl)) rfl ?_
                                                      exact ⟨_, _, by first | rfl | (simp [errW_none, errW_some] <;> rfl) | (simp only [← hji59]; first | rfl | (simp [errW_none, errW_some] <;> rfl)) | (simp [*, errW_none, errW_some] <;> rfl), by (with_reducible repeat (first | apply Kd.R_alloc | apply Kd.R_drewN | apply Kd.R_drew)); exact Kd.R_mono (Kd.R_far (p := ⟨gb585, 7, none⟩) (Kd.R_far (p := ⟨gb585, 6, none⟩) (Kd.R_far (p := ⟨gb585, 5, none⟩) (Kd.R_far (p := ⟨gb585, 4, none⟩) (Kd.R_far (p := ⟨gb585, 3, none⟩) (Kd.R_far (p := ⟨gb585, 2, none⟩) (Kd.R_far (p := ⟨gb585, 1, none⟩) (Kd.R_far (p := ⟨gb585, 0, none⟩) (Kd.R_types HO_601005.out BK585.out (by decide)) (fun _ hk => hk.2) (.int .i64 (wrap64 (rd t586 0)))) (fun _ hk => hk.2) (.int .u32 (rd t586 1))) (fun _ hk => hk.2) (.int .u32 (rd t586 2))) (fun _ hk => hk.2) (.int .u32 (rd t586 3))) (fun _ hk => hk.2) (.int .u32 (rd t586 4))) (fun _ hk => hk.2) (.slice Ao89 x601005_3.length co89)) (fun _ hk => hk.2) (.slice Ao90 x601006_5.length co90)) (fun _ hk => hk.2) (.int .i64 (wrap64 (rd t586 5)))) (fun _ hk => trivial), by (with_reducible repeat (first | apply Kd.R_alloc | apply Kd.R_drewN | apply Kd.R_drew)); exact Kd.R_mono (Kd.R_far (p := ⟨gb585, 7, none⟩) (Kd.R_far (p := ⟨gb585, 6, none⟩) (Kd.R_far (p := ⟨gb585, 5, none⟩) (Kd.R_far (p := ⟨gb585, 4, none⟩) (Kd.R_far (p := ⟨gb585, 3, none⟩) (Kd.R_far (p := ⟨gb585, 2, none⟩) (Kd.R_far (p := ⟨gb585, 1, none⟩) (Kd.R_far (p := ⟨gb585, 0, none⟩) (Kd.R_types HO_601006.out BK585.out (by decide)) (fun _ hk => hk.2) (.int .i64 (wrap64 (rd t586 0)))) (fun _ hk => hk.2) (.int .u32 (rd t586 1))) (fun _ hk => hk.2) (.int .u32 (rd t586 2))) (fun _ hk => hk.2) (.int .u32 (rd t586 3))) (fun _ hk => hk.2) (.int .u32 (rd t586 4))) (fun _ hk => hk.2) (.slice Ao89 x601005_3.length co89)) (fun _ hk => hk.2) (.slice Ao90 x601006_5.length co90)) (fun _ hk => hk.2) (.int .i64 (wrap64 (rd t586 5)))) (fun _ hk => trivial), by repeat (first | (with_reducible first | exact HB.out | apply below_alloc | apply pw_below_drewN | apply below_drew1 | refine below_set ?_ GE585.out | refine below_set ?_ GE600.out) | exact HB.out)⟩
                                                    · replace c86 := Bool.eq_false_iff.mpr c86
                                                      subst c86
                                                      have H1 : (some (0, 0, 0, 0, 0, ([] : List Int), ([] : List (S24)), 0, 7)) = some (r1, r2, r3, r4, r5, r6, r7, r8, r9) := by rw [if_neg (show ¬ (false = true) by decide)] at H; exact H
                                                      clear H
                                                      have H := H1
                                                      clear H1
                                                      simp only [Option.some.injEq, Prod.mk.injEq] at H
                                                      obtain ⟨rfl, rfl, rfl, rfl, rfl, rfl, rfl, rfl, rfl⟩ := H
                                                      have hnb94 := NB600_585.out
                                                      have hnc94 := NB585_600.out
                                                      obtain ⟨hcz95_0, hcz95_1, hcz95_2, hcz95_3, hcz95_4, hcz95_5, hcz95_6, hcz95_7, hfz95_0, hfz95_1, hfz95_2, hfz95_3, hfz95_4, hfz95_5, hfz95_6, hfz95_7⟩ := HX.cells8 BK600.out
                                                      obtain ⟨Ao96, co96, eo96⟩ := Kd.R_slice HO_601005.out
                                                      subst eo96
                                                      obtain ⟨Ao97, co97, eo97⟩ := Kd.R_slice HO_601006.out
                                                      subst eo97
                                                      go_wp2_with (first | ((with_reducible refine gate_callee (f := 41) rfl ?_); refine goesL_ (some 173) rfl rfl Tryd.func41 (by kernel_rfl) rfl #[.agg #[.int .i64 (wrap64 (rd t586 0)), .int .u32 (rd t586 1), .int .u32 (rd t586 2), .int .u32 (rd t586 3), .int .u32 (rd t586 4), .slice Ao96 x601005_3.length co96, .slice Ao97 x601006_5.length co97, .int .i64 (wrap64 (rd t586 5))]] rfl (by (try simp only [List.map_toArray, List.map_cons, List.map_nil]); first | done | rfl | (simp only [List.length_drop, List.length_take]; rfl)) ?_; (with_reducible refine (seedcornref37_Right.calls k5 (wrap64 (rd t586 0)) (rd t586 1) (rd t586 2) (rd t586 3) (rd t586 4) _ _ x601005_3 _ _ x601006_5 (wrap64 (rd t586 5)) false _ ?side1 ?side2 ?side3 ?side4 A85.out).mono ?_); (case side1 => repeat (first | exact (Kd.R_reads' HO_601005.out).2.2 | (with_reducible refine Kd.C_alloc ?_ _) | (with_reducible refine Kd.C_drewN ?_ _) | (with_reducible refine Kd.C_drew ?_))); (case side2 => exact (Kd.R_reads' HO_601005.out).2.1); (case side3 => repeat (first | exact (Kd.R_reads' HO_601006.out).2.2 | (with_reducible refine Kd.C_alloc ?_ _) | (with_reducible refine Kd.C_drewN ?_ _) | (with_reducible refine Kd.C_drew ?_))); (case side4 => exact (Kd.R_reads' HO_601006.out).2.1); rintro e w98 ⟨rfl, hb⟩; refine ⟨_, rfl, ?_⟩; have n0_ := Aside0.mk (Kd.R_below (by (with_reducible repeat (first | apply Kd.R_alloc | apply Kd.R_drewN | apply Kd.R_drew)); exact HO_4.out) hb); have n1_ := Aside0.mk (Kd.R_below (by (with_reducible repeat (first | apply Kd.R_alloc | apply Kd.R_drewN | apply Kd.R_drew)); exact HO_601005.out) hb); have n2_ := Aside0.mk (Kd.R_below (by (with_reducible repeat (first | apply Kd.R_alloc | apply Kd.R_drewN | apply Kd.R_drew)); exact HO_601006.out) hb); have n3_ := Aside0.mk (blk_below (g := gb585) (by (with_reducible repeat (first | refine blk_drewN ?_ _ | refine blk_drew ?_ | refine blk_alloc ?_ _)); exact BK585.out) hb); have n4_ := Aside0.mk (blk_below (g := gb600) (by (with_reducible repeat (first | refine blk_drewN ?_ _ | refine blk_drew ?_ | refine blk_alloc ?_ _)); exact BK600.out) hb); have n5_ := Aside0.mk (below_step (by repeat (first | (with_reducible first | exact HB.out | apply below_alloc | apply pw_below_drewN | apply below_drew1 | refine below_set ?_ GE585.out | refine below_set ?_ GE600.out) | exact HB.out)) hb); clear HO_4; clear HO_601005; clear HO_601006; clear BK585; clear BK600; clear HB; have HO_4 := n0_; have HO_601005 := n1_; have HO_601006 := n2_; have BK585 := n3_; have BK600 := n4_; have HB := n5_; clear n0_ n1_ n2_ n3_ n4_ n5_; (try clear hb); (try clear hb2); (try clear hk); (try clear hi); obtain ⟨hcz99_0, hcz99_1, hcz99_2, hcz99_3, hcz99_4, hcz99_5, hcz99_6, hcz99_7, hfz99_0, hfz99_1, hfz99_2, hfz99_3, hfz99_4, hfz99_5, hfz99_6, hfz99_7⟩ := HX.cells8 BK585.out))
                                                      refine bodyPost_ret (results_ct rfl _ _ gb585 46 #[.int .i64 0, .int .u32 0, .int .u32 0, .int .u32 0, .int .u32 0, .slice none 0 0, .slice none 0 0, .int .i64 0] (0, 0) _ rfl (by (with_reducible repeat (first | refine blk_drewN ?_ _ | refine blk_drew ?_ | refine blk_alloc ?_ _)); refine blk_put (cs := #[.int .i64 0, .int .u32 0, .int .u32 0, .int .u32 0, .int .u32 0, .slice none 0 0, .slice none 0 0, .int .i64 x586007_3]) ?_ 7 _ rfl; (with_reducible repeat (first | refine blk_drewN ?_ _ | refine blk_drew ?_ | refine blk_alloc ?_ _)); refine blk_put (cs := #[.int .i64 0, .int .u32 0, .int .u32 0, .int .u32 0, .int .u32 0, .slice none 0 0, .slice none 0 0, .int .i64 x586007_3]) ?_ 6 _ rfl; (with_reducible repeat (first | refine blk_drewN ?_ _ | refine blk_drew ?_ | refine blk_alloc ?_ _)); refine blk_put (cs := #[.int .i64 0, .int .u32 0, .int .u32 0, .int .u32 0, .int .u32 0, .slice none 0 0, .slice none 0 0, .int .i64 x586007_3]) ?_ 5 _ rfl; (with_reducible repeat (first | refine blk_drewN ?_ _ | refine blk_drew ?_ | refine blk_alloc ?_ _)); refine blk_put (cs := #[.int .i64 0, .int .u32 0, .int .u32 0, .int .u32 0, .int .u32 x586004_3, .slice none 0 0, .slice none 0 0, .int .i64 x586007_3]) ?_ 4 _ rfl; (with_reducible repeat (first | refine blk_drewN ?_ _ | refine blk_drew ?_ | refine blk_alloc ?_ _)); refine blk_put (cs := #[.int .i64 0, .int .u32 0, .int .u32 0, .int .u32 x586003_3, .int .u32 x586004_3, .slice none 0 0, .slice none 0 0, .int .i64 x586007_3]) ?_ 3 _ rfl; (with_reducible repeat (first | refine blk_drewN ?_ _ | refine blk_drew ?_ | refine blk_alloc ?_ _)); refine blk_put (cs := #[.int .i64 0, .int .u32 0, .int .u32 x586002_3, .int .u32 x586003_3, .int .u32 x586004_3, .slice none 0 0, .slice none 0 0, .int .i64 x586007_3]) ?_ 2 _ rfl; (with_reducible repeat (first | refine blk_drewN ?_ _ | refine blk_drew ?_ | refine blk_alloc ?_ _)); refine blk_put (cs := #[.int .i64 0, .int .u32 x586001_3, .int .u32 x586002_3, .int .u32 x586003_3, .int .u32 x586004_3, .slice none 0 0, .slice none 0 0, .int .i64 x586007_3]) ?_ 1 _ rfl; (with_reducible repeat (first | refine blk_drewN ?_ _ | refine blk_drew ?_ | refine blk_alloc ?_ _)); refine blk_put (cs := #[.int .i64 x586000_3, .int .u32 x586001_3, .int .u32 x586002_3, .int .u32 x586003_3, .int .u32 x586004_3, .slice none 0 0, .slice none 0 0, .int .i64 x586007_3]) ?_ 0 _ rfl; (with_reducible repeat (first | refine blk_drewN ?_ _ | refine blk_drew ?_ | refine blk_alloc ?_ _)); exact BK585.out) Tryd.underlying46 rfl (by kernel_rfl)) rfl ?_
                                                      exact ⟨_, _, by first | rfl | (simp [errW_none, errW_some] <;> rfl) | (simp only [← hji59]; first | rfl | (simp [errW_none, errW_some] <;> rfl)) | (simp [*, errW_none, errW_some] <;> rfl), by first | exact Kd.R_nil _ _ _ _ _ | exact Kd.N_nil _ _ _ _ _ | exact Kd.V_nil _ _ _ _ _ | exact Kd.Q_nil _ _ _ _ _ | exact Kd.S_nil _ _ _ _ _, by first | exact Kd.R_nil _ _ _ _ _ | exact Kd.N_nil _ _ _ _ _ | exact Kd.V_nil _ _ _ _ _ | exact Kd.Q_nil _ _ _ _ _ | exact Kd.S_nil _ _ _ _ _, by repeat (first | (with_reducible first | exact HB.out | apply below_alloc | apply pw_below_drewN | apply below_drew1 | refine below_set ?_ GE585.out | refine below_set ?_ GE600.out) | exact HB.out)⟩
                                      · rw [if_neg c61] at H
                                        exact absurd H (by simp)
                                    · rw [if_neg c60] at H
                                      exact absurd H (by simp)
                            · rw [if_neg c35] at H
                              exact absurd H (by simp)
                          · rw [if_neg c34] at H
                            exact absurd H (by simp)
                        · rw [if_neg c33] at H
                          exact absurd H (by simp)
                      · rw [if_neg c32] at H
                        exact absurd H (by simp)
                    · rw [if_neg c31] at H
                      exact absurd H (by simp)
                  · rw [if_neg c30] at H
                    exact absurd H (by simp)
                · rw [if_neg c29] at H
                  exact absurd H (by simp)
        · rw [if_neg c10] at H
          exact absurd H (by simp)


end Go.Proofs.YthimgiphlenjdaaDoor.PI
