/- Mix and Unmix as functions of eight words. -/
import Derived.Test.YthimgiphlenjdaaDoorHTurn
import Derived.Laws.BitsAllLaws
namespace Go.Proofs.YthimgiphlenjdaaDoor.HX
open Go.RowKit Go.Proofs.YthimgiphlenjdaaDoorW.PrintWords
/-- A state: eight words. -/
structure St where
  a : Int
  b : Int
  c : Int
  d : Int
  e : Int
  f : Int
  g : Int
  h : Int
def St.tup (s : St) : Int × Int × Int × Int × Int × Int × Int × Int := (s.a, s.b, s.c, s.d, s.e, s.f, s.g, s.h)
theorem St.of_tup {s : St} {a b c d e f g h : Int} (k : s.tup = (a, b, c, d, e, f, g, h)) : s = ⟨a, b, c, d, e, f, g, h⟩ := by
  simp only [St.tup, Prod.mk.injEq] at k
  obtain ⟨rfl, rfl, rfl, rfl, rfl, rfl, rfl, rfl⟩ := k
  rfl
def St.Ok (s : St) : Prop := InR s.a ∧ InR s.b ∧ InR s.c ∧ InR s.d ∧ InR s.e ∧ InR s.f ∧ InR s.g ∧ InR s.h
instance (x : Int) : Decidable (InR x) := by unfold InR; infer_instance
instance (s : St) : Decidable s.Ok := by unfold St.Ok; infer_instance
def add32 (x y : Int) : Int := (x + y) % 4294967296
def sub32 (x y : Int) : Int := (x - y) % 4294967296
def xor32 (x y : Int) : Int := bits .xor .u32 x y
/-- A round's number times the golden number. -/
def gold (r : Int) : Int := 2654435769 * r % 4294967296
/-- One round; r from 1 to 8. -/
def mixR (r : Int) (s : St) : St :=
  ⟨add32 s.d s.h, turn 128 33554432 (xor32 s.e (add32 (add32 s.a (gold r)) s.e)), turn 512 8388608 (xor32 s.f (add32 s.b s.f)), turn 8192 524288 (xor32 s.g (add32 s.c s.g)),
    turn 262144 16384 (xor32 s.h (add32 s.d s.h)), add32 (add32 s.a (gold r)) s.e, add32 s.b s.f, add32 s.c s.g⟩
/-- The round back: from ⟨d', e', f', g', h', a', b', c'⟩. -/
def unmixR (r : Int) (s : St) : St :=
  ⟨sub32 (sub32 s.f (xor32 (turn 33554432 128 s.b) s.f)) (gold r), sub32 s.g (xor32 (turn 8388608 512 s.c) s.g), sub32 s.h (xor32 (turn 524288 8192 s.d) s.h), sub32 s.a (xor32 (turn 16384 262144 s.e) s.a),
    xor32 (turn 33554432 128 s.b) s.f, xor32 (turn 8388608 512 s.c) s.g, xor32 (turn 524288 8192 s.d) s.h, xor32 (turn 16384 262144 s.e) s.a⟩
/-- k rounds from round n on. -/
def mixN : Nat → Nat → St → St
  | 0, _, s => s
  | k + 1, n, s => mixN k (n + 1) (mixR n s)
/-- k rounds back, from round k down. -/
def unmixN : Nat → St → St
  | 0, s => s
  | k + 1, s => unmixN k (unmixR ((k + 1 : Nat) : Int) s)
def mixS (s : St) : St := mixN 8 1 s
def unmixS (s : St) : St := unmixN 8 s
theorem add32_range (x y : Int) : InR (add32 x y) := by unfold InR add32; omega
theorem sub32_range (x y : Int) : InR (sub32 x y) := by unfold InR sub32; omega
theorem xor32_range (x y : Int) : InR (xor32 x y) := by
  have h : 0 ≤ IntKind.u32.wrap ((BitVec.ofInt 32 x ^^^ BitVec.ofInt 32 y).toNat : Int) ∧ IntKind.u32.wrap ((BitVec.ofInt 32 x ^^^ BitVec.ofInt 32 y).toNat : Int) < 4294967296 := by rw [IntKind.wrap_u32]; omega
  exact h
theorem mixR_ok (r : Int) (s : St) : (mixR r s).Ok :=
  ⟨add32_range _ _, turn_range_7 _ (xor32_range _ _), turn_range_9 _ (xor32_range _ _), turn_range_13 _ (xor32_range _ _), turn_range_18 _ (xor32_range _ _), add32_range _ _, add32_range _ _, add32_range _ _⟩
theorem unmixR_ok (r : Int) (s : St) : (unmixR r s).Ok :=
  ⟨sub32_range _ _, sub32_range _ _, sub32_range _ _, sub32_range _ _, xor32_range _ _, xor32_range _ _, xor32_range _ _, xor32_range _ _⟩
theorem mixN_ok : ∀ (k n : Nat) (s : St), s.Ok → (mixN k n s).Ok
  | 0, _, _, h => h
  | k + 1, n, _, _ => mixN_ok k (n + 1) _ (mixR_ok _ _)
theorem unmixN_ok : ∀ (k : Nat) (s : St), s.Ok → (unmixN k s).Ok
  | 0, _, h => h
  | k + 1, _, _ => unmixN_ok k _ (unmixR_ok _ _)
theorem add_sub (x y : Int) (h : InR x) : sub32 (add32 x y) y = x := by unfold InR at h; unfold sub32 add32; omega
theorem sub_add (x y : Int) (h : InR x) : add32 (sub32 x y) y = x := by unfold InR at h; unfold sub32 add32; omega
theorem xor_xor (x y : Int) (h : InR x) (hy : InR y) : xor32 (xor32 x y) y = x := by
  have h3 := xor32_range x y
  obtain ⟨h1, h2⟩ := h
  obtain ⟨h4, h5⟩ := hy
  unfold xor32 at *
  rw [u32_xor (bits .xor .u32 x y) y h3.1 h3.2 h4 h5, u32_xor x y h1 h2 h4 h5]
  rw [Int.toNat_natCast, Nat.xor_assoc, Nat.xor_self, Nat.xor_zero]
  omega
theorem unmix_mixR (r : Int) (s : St) (h : s.Ok) : unmixR r (mixR r s) = s := by
  obtain ⟨ha, hb, hc, hd, he, hf, hg, hh⟩ := h
  unfold unmixR mixR
  simp only
  rw [turn_back_7 _ (xor32_range _ _), turn_back_9 _ (xor32_range _ _), turn_back_13 _ (xor32_range _ _), turn_back_18 _ (xor32_range _ _), xor_xor _ _ he (add32_range _ _), xor_xor _ _ hf (add32_range _ _), xor_xor _ _ hg (add32_range _ _), xor_xor _ _ hh (add32_range _ _),
    add_sub _ _ (add32_range _ _), add_sub _ _ ha, add_sub _ _ hb, add_sub _ _ hc, add_sub _ _ hd]
theorem mix_unmixR (r : Int) (s : St) (h : s.Ok) : mixR r (unmixR r s) = s := by
  obtain ⟨ha, hb, hc, hd, he, hf, hg, hh⟩ := h
  unfold unmixR mixR
  simp only
  rw [sub_add _ _ (sub32_range _ _), sub_add _ _ hf, sub_add _ _ hg, sub_add _ _ hh, sub_add _ _ ha]
  rw [xor_xor _ _ (turn_range_m7 _ hb) hf, xor_xor _ _ (turn_range_m9 _ hc) hg, xor_xor _ _ (turn_range_m13 _ hd) hh, xor_xor _ _ (turn_range_m18 _ he) ha]
  rw [turn_forth_7 _ hb, turn_forth_9 _ hc, turn_forth_13 _ hd, turn_forth_18 _ he]
theorem mixN_last : ∀ (k n : Nat) (s : St), mixN (k + 1) n s = mixR ((n + k : Nat) : Int) (mixN k n s)
  | 0, _, _ => rfl
  | k + 1, n, s => by
    have h := mixN_last k (n + 1) (mixR n s)
    rw [show n + 1 + k = n + (k + 1) by omega] at h
    exact h
theorem unmix_mixN : ∀ (k : Nat) (s : St), s.Ok → unmixN k (mixN k 1 s) = s
  | 0, _, _ => rfl
  | k + 1, s, h => by
    rw [mixN_last, unmixN, show 1 + k = k + 1 by omega, unmix_mixR _ _ (mixN_ok _ _ _ h)]
    exact unmix_mixN k s h
theorem mix_unmixN : ∀ (k : Nat) (s : St), s.Ok → mixN k 1 (unmixN k s) = s
  | 0, _, _ => rfl
  | k + 1, s, h => by
    rw [mixN_last, unmixN, show 1 + k = k + 1 by omega, mix_unmixN k _ (unmixR_ok _ _)]
    exact mix_unmixR _ _ h
theorem unmix_mix (s : St) (h : s.Ok) : unmixS (mixS s) = s := unmix_mixN 8 s h
theorem mix_unmix (s : St) (h : s.Ok) : mixS (unmixS s) = s := mix_unmixN 8 s h
end Go.Proofs.YthimgiphlenjdaaDoor.HX
