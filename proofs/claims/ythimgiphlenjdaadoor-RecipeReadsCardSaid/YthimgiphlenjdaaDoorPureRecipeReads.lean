/- What the law RecipeReads asks, in plain words. -/
import Derived.Test.YthimgiphlenjdaaDoorPureRecRead
import Derived.Test.YthimgiphlenjdaaDoorF13
set_option linter.unusedVariables false
namespace Go.Proofs.YthimgiphlenjdaaDoor.PI
open Go.RowKit Go.Proofs.YthimgiphlenjdaaDoorW.PrintWords HX
theorem awake_at (k : Nat) (hk : 300 ≤ k) : seedcornlaw37_awake.f k = some true := at_rounds (g := fun k => seedcornlaw37_awake.f k) seedcornlaw37_awake.mono hk seedcornlaw37_awake.is
theorem head_82 (s : ByteArray) (h : 0 < s.size) : bt s 0 = 82 ↔ s.extract 0 1 = (⟨#[82]⟩ : ByteArray) := by
  have hl : (bytesOf s).length = s.size := bytesOf_length s
  have e1 : bytesOf (s.extract 0 1) = (bytesOf s).take 1 := by rw [bytesOf_extract, List.drop_zero]
  have e2 : bt s 0 = rd (bytesOf s) 0 := (rd_bytesOf s 0).symm
  cases hb : bytesOf s with
  | nil =>
    rw [hb] at hl
    simp only [List.length_nil] at hl
    omega
  | cons x l =>
    rw [hb] at e1 e2
    have e3 : bt s 0 = x := e2
    have e4 : bytesOf (s.extract 0 1) = [x] := e1
    rw [e3]
    constructor
    · rintro rfl
      apply bytesOf_inj
      rw [e4]
      rfl
    · intro h
      rw [h] at e4
      have e5 : [(82 : Int)] = [x] := e4
      injection e5 with e5
      exact e5.symm
theorem rread_of (s : ByteArray) (hs : s.size ≤ 1000) (k : Nat) (hk : 3000 ≤ k) : seedcornref37_Read.f (k + 1 + 1) s = some (tupR (readS s)) := by
  have bad : ∀ m, seedcornref37_Read.j0 (m + 1) s true = some errR := fun m => by rw [seedcornref37_Read.j0, if_pos rfl]; rfl
  have bad1 : ∀ m l, seedcornref37_Read.j1 (m + 1) l true = some errR := fun m l => by rw [seedcornref37_Read.j1, if_pos rfl]; rfl
  unfold seedcornref37_Read.f
  by_cases h0 : s.size = 0
  · rw [if_pos (by omega), bad]
    unfold readS
    rw [if_pos (.inl h0)]
    rfl
  · rw [if_neg (by omega), if_neg (by omega), if_pos (by omega)]
    by_cases hR : s.extract 0 1 = (⟨#[82]⟩ : ByteArray)
    · have hb : (bt s 0 != 82) = false := by rw [(head_82 s (by omega)).2 hR]; rfl
      rw [hb, seedcornref37_Read.j0, if_neg (by decide), if_pos (by omega)]
      have hse : (s.extract 1 s.size).size = s.size - 1 := by rw [ByteArray.size_extract]; omega
      by_cases hm : (s.extract 1 s.size).size % 4 = 0
      · have hw := rwords_of (s.extract 1 s.size) (k + 1) hm (by omega) (by omega)
        have hlen := wordsL_length (bytesOf (s.extract 1 s.size)) (by rw [bytesOf_length]; exact hm)
        rw [bytesOf_length] at hlen
        have hok := wordsL_ok _ (bytesOf_ok (s.extract 1 s.size))
        have hS : readS s = readL (wordsL (bytesOf (s.extract 1 s.size))) := by
          unfold readS
          rw [if_neg]
          rintro (e | e | e)
          · exact h0 e
          · exact e hR
          · exact e hm
        rw [hw, Option.bind_some, hS]
        have hll : (wordsL (bytesOf (s.extract 1 s.size))).length ≤ 1000 := by omega
        clear hw hS hlen hse
        generalize wordsL (bytesOf (s.extract 1 s.size)) = l at hok hll ⊢
        have hG := readL_good l hok
        rw [if_pos rfl]
        by_cases h8 : 8 ≤ l.length
        · have w6 : W32 (rd l 6) := by
            have := rd_at l 6 (by omega)
            have e : rd l 6 = l[6] := this
            rw [e]
            exact hok _ (List.getElem_mem (by omega))
          rw [if_neg (by show ¬ (l.length : Int) < 8; omega), if_pos (by show (0 : Int) < (l.length : Int); omega)]
          by_cases h1 : rd l 0 ≤ 6
          · rw [if_neg (by show ¬ rd l 0 > 6; omega), if_pos (by show (5 : Int) < (l.length : Int); omega)]
            by_cases h2 : rd l 5 ≤ 100000000
            · rw [if_neg (by show ¬ rd l 5 > 100000000; omega), if_pos (by show (6 : Int) < (l.length : Int); omega)]
              by_cases h3 : rd l 6 ≤ 20
              · rw [if_neg (by show ¬ rd l 6 > 20; omega)]
                obtain ⟨N, hN⟩ := Int.eq_ofNat_of_zero_le w6.1
                have hN' : rd l 6 = (N : Int) := hN
                have e6 : wrap64 (8 + wrap64 (rd l 6)) = 8 + (N : Int) := by
                  rw [hN']
                  have e : wrap64 (N : Int) = (N : Int) := by unfold wrap64; omega
                  rw [e]
                  unfold wrap64
                  omega
                by_cases h4 : 8 + (rd l 6).toNat ≤ l.length
                · have hd : decide ((l.length : Int) < wrap64 (8 + wrap64 (rd l 6))) = false := decide_eq_false (by rw [e6]; omega)
                  show seedcornref37_Read.j1 (k + 1) l (decide ((l.length : Int) < wrap64 (8 + wrap64 (rd l 6)))) = _
                  rw [hd]
                  exact rread_j1 l hok hll k (by omega) h8 h1 h2 h3 h4
                · have hd : decide ((l.length : Int) < wrap64 (8 + wrap64 (rd l 6))) = true := decide_eq_true (by rw [e6]; omega)
                  show seedcornref37_Read.j1 (k + 1) l (decide ((l.length : Int) < wrap64 (8 + wrap64 (rd l 6)))) = _
                  rw [hd, bad1, hG.2 (fun h => h4 h.2.2.2.2.1)]
                  rfl
              · rw [if_pos (by show rd l 6 > 20; omega), bad1, hG.2 (fun h => h3 h.2.2.2.1)]
                rfl
            · rw [if_pos (by show rd l 5 > 100000000; omega), bad1, hG.2 (fun h => h2 h.2.2.1)]
              rfl
          · rw [if_pos (by show rd l 0 > 6; omega), bad1, hG.2 (fun h => h1 h.2.1)]
            rfl
        · rw [if_pos (by show (l.length : Int) < 8; omega), bad1, hG.2 (fun h => h8 h.1)]
          rfl
      · have hw : seedcornref01_Words.f (k + 1) (s.extract 1 s.size) = some ([], 7) := by
          unfold seedcornref01_Words.f
          rw [if_pos (by omega), if_neg (by omega)]
        rw [hw, Option.bind_some, if_neg (by decide), bad1]
        unfold readS
        rw [if_pos (.inr (.inr hm))]
        rfl
    · have hb : (bt s 0 != 82) = true := by rw [bne_iff_ne]; exact fun e => hR ((head_82 s (by omega)).1 e)
      rw [hb, bad]
      unfold readS
      rw [if_pos (.inr (.inl hR))]
      rfl
theorem reads_law (m : Nat) (s : ByteArray) (hs : s.size ≤ 1000) (r : Rec) (e : Int) (ha : seedcornlaw37_awake.f (m + 1) = some true) (hr : recipe_Read.f s = some (tupR (r, e))) (hr' : seedcornref37_Read.f (m + 1) s = some (tupR (r, e)))
    (v : Bool) (hv : seedcornref37_Same.f (m + 1) r.tool r.i0 r.i1 r.i2 r.i3 r.ps r.ds r.fuel r.tool r.i0 r.i1 r.i2 r.i3 r.ps r.ds r.fuel = some v) (hvt : v = true) (hp : e = 0 → recipe_Put.f r.tool r.i0 r.i1 r.i2 r.i3 r.ps r.ds r.fuel = some (s, 0)) :
    seedcornlaw37_RecipeReads.f (m + 1) s = some true := by
  subst hvt
  have hj : seedcornlaw37_RecipeReads.j0 (m + 1) s e (!true) r.tool r.i0 r.i1 r.i2 r.i3 r.ps r.ds r.fuel = some true := by
    rw [seedcornlaw37_RecipeReads.j0, if_neg (by decide)]
    by_cases he : e = 0
    · rw [if_pos he, hp he, Option.bind_some, if_pos rfl, beq_self_eq_true]
    · rw [if_neg he]
  unfold seedcornlaw37_RecipeReads.f
  rw [ha, Option.bind_some, if_pos rfl, if_neg (by omega), hr, Option.bind_some, hr', Option.bind_some, if_pos rfl]
  show (seedcornref37_Same.f (m + 1) r.tool r.i0 r.i1 r.i2 r.i3 r.ps r.ds r.fuel r.tool r.i0 r.i1 r.i2 r.i3 r.ps r.ds r.fuel).bind _ = _
  rw [hv, Option.bind_some]
  exact hj
theorem pureRecipeReads (s : ByteArray) : ∃ k, seedcornlaw37_RecipeReads.f k s = some true := by
  obtain ⟨m, hm⟩ : ∃ m : Nat, m = 5000 := ⟨_, rfl⟩
  refine ⟨m + 1 + 1, ?_⟩
  by_cases hs : s.size ≤ 1000
  · have h1 : recipe_Read.f s = some (tupR (readS s)) := by
      unfold recipe_Read.f
      rw [if_pos (by omega)]
      rfl
    have h2 := rread_of s hs m (by omega)
    have hsm : (readS s).1.ps.length ≤ 20 ∧ (readS s).1.ds.length ≤ 20 := by
      by_cases h : (readS s).2 = 0
      · exact right_small _ (readS_back s h).1
      · rw [readS_err s h]
        exact ⟨Nat.zero_le _, Nat.zero_le _⟩
    have hput : (readS s).2 = 0 → recipe_Put.f (readS s).1.tool (readS s).1.i0 (readS s).1.i1 (readS s).1.i2 (readS s).1.i3 (readS s).1.ps (readS s).1.ds (readS s).1.fuel = some (s, 0) := fun h => by
      obtain ⟨a, b, c⟩ := readS_back s h
      have e : putS (readS s).1 = (recBytes (readS s).1, 0) := if_pos a
      rw [c] at e
      exact congrArg some e
    obtain ⟨v, hv, hv'⟩ := rsame_of (readS s).1 (readS s).1 (by omega) (by omega) (m + 1 + 1) (by omega)
    exact reads_law (m + 1) s hs (readS s).1 (readS s).2 (awake_at _ (by omega)) h1 h2 v hv (hv'.2 rfl) hput
  · unfold seedcornlaw37_RecipeReads.f
    rw [awake_at (m + 1 + 1) (by omega), Option.bind_some, if_pos rfl, if_pos (by omega)]
end Go.Proofs.YthimgiphlenjdaaDoor.PI
