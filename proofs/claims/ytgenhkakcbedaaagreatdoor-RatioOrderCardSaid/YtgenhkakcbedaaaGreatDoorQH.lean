/-
  Bounds and laws of fractions, plain.
-/
import Derived.Test.YtgenhkakcbedaaaGreatDoorQ1
import Derived.Test.YtgenhkakcbedaaaGreatDoorQD
import Derived.Test.YtgenhkakcbedaaaGreatDoorQE
namespace Rq

theorem bd_divInt {x d : Int} (hd : d ≠ 0) : (Rat.divInt x d).num.natAbs ≤ x.natAbs ∧ (Rat.divInt x d).den ≤ d.natAbs := by
  have h1 := num_of (p := x) hd
  have h2 := den_of (p := x) hd
  constructor
  · rw [← h1, Int.natAbs_tdiv]; exact Nat.div_le_self _ _
  · have : (Rat.divInt x d).den = (d.tdiv (gS x d)).natAbs := by rw [h2, Int.natAbs_natCast]
    rw [this, Int.natAbs_tdiv]; exact Nat.div_le_self _ _

/-- numerator and denominator are at most N and D -/
def Bd (r : Rat) (N D : Nat) : Prop := r.num.natAbs ≤ N ∧ r.den ≤ D

theorem bd_of {x d : Int} {N D : Nat} (hd : d ≠ 0) (h1 : x.natAbs ≤ N) (h2 : d.natAbs ≤ D) : Bd (Rat.divInt x d) N D :=
  ⟨Nat.le_trans (bd_divInt hd).1 h1, Nat.le_trans (bd_divInt hd).2 h2⟩

theorem mul_bd {x y : Int} {A B : Nat} (h1 : x.natAbs ≤ A) (h2 : y.natAbs ≤ B) : (x * y).natAbs ≤ A * B := by
  rw [Int.natAbs_mul]; exact Nat.mul_le_mul h1 h2

theorem dd_ne' (a b : Rat) : (a.den : Int) * (b.den : Int) ≠ 0 := Int.mul_ne_zero (den_ne a) (den_ne b)

theorem bd_dd {a b : Rat} {N M D E : Nat} (h1 : Bd a N D) (h2 : Bd b M E) : ((a.den : Int) * (b.den : Int)).natAbs ≤ D * E :=
  mul_bd (by rw [Int.natAbs_natCast]; exact h1.2) (by rw [Int.natAbs_natCast]; exact h2.2)

theorem bd_x {a b : Rat} {N M D E : Nat} (h1 : Bd a N D) (h2 : Bd b M E) : (a.num * (b.den : Int)).natAbs ≤ N * E :=
  mul_bd h1.1 (by rw [Int.natAbs_natCast]; exact h2.2)

theorem bd_add {a b : Rat} {N M D E : Nat} (h1 : Bd a N D) (h2 : Bd b M E) : Bd (a + b) (N * E + M * D) (D * E) := by
  rw [← add_eq]
  refine bd_of (dd_ne' a b) ?_ (bd_dd h1 h2)
  have := bd_x h1 h2
  have := bd_x h2 h1
  omega

theorem bd_sub {a b : Rat} {N M D E : Nat} (h1 : Bd a N D) (h2 : Bd b M E) : Bd (a - b) (N * E + M * D) (D * E) := by
  rw [← sub_eq]
  refine bd_of (dd_ne' a b) ?_ (bd_dd h1 h2)
  have := bd_x h1 h2
  have := bd_x h2 h1
  omega

theorem bd_mul {a b : Rat} {N M D E : Nat} (h1 : Bd a N D) (h2 : Bd b M E) : Bd (a * b) (N * M) (D * E) := by
  rw [← mul_eq]
  exact bd_of (dd_ne' a b) (mul_bd h1.1 h2.1) (bd_dd h1 h2)

theorem divInt_zero_iff {x d : Int} (hd : d ≠ 0) : Rat.divInt x d = 0 ↔ x = 0 := by
  have h := Rat.divInt_eq_divInt_iff (n₁ := x) (n₂ := 0) hd (show (1 : Int) ≠ 0 by decide)
  rw [Rat.zero_divInt] at h
  rw [h]; omega

theorem cmp_sub (a b : Rat) : cmpQ a b = (if (a - b).num = 0 then (0 : Int) else if (a - b).num < 0 then -1 else 1) := by
  unfold cmpQ
  have h0 : (a - b).num = 0 ↔ a = b := by
    rw [Rat.num_eq_zero]
    constructor
    · intro h
      have := congrArg (· + b) h
      simpa [Rat.sub_add_cancel, Rat.zero_add] using this
    · rintro rfl; exact Rat.sub_self
  have h1 : (a - b).num < 0 ↔ a < b := by
    have e : (a - b).num < 0 ↔ ¬ 0 ≤ (a - b).num := by omega
    rw [e, Rat.num_nonneg, ← Rat.le_iff_sub_nonneg, Rat.not_le]
  by_cases h : a < b
  · rw [if_pos h, if_neg (fun hh => Rat.ne_of_lt h (h0.1 hh)), if_pos (h1.2 h)]
  · rw [if_neg h]
    by_cases h' : b < a
    · rw [if_pos h', if_neg (fun hh => Rat.ne_of_lt h' (h0.1 hh).symm), if_neg (fun hh => h (h1.1 hh))]
    · have : a = b := Rat.le_antisymm (Rat.not_lt.1 h') (Rat.not_lt.1 h)
      rw [if_neg h', if_pos (h0.2 this)]

theorem cmp_trans (a b c : Rat) : 0 < cmpQ a b ∨ 0 < cmpQ b c ∨ (cmpQ a c ≤ 0 ∧ (cmpQ a c < 0 ∨ (cmpQ a b = 0 ∧ cmpQ b c = 0))) := by
  have le : ∀ x y : Rat, cmpQ x y ≤ 0 ↔ x ≤ y := by
    intro x y
    unfold cmpQ
    by_cases h : x < y
    · rw [if_pos h]; exact ⟨fun _ => Rat.le_of_lt h, fun _ => by decide⟩
    · rw [if_neg h]
      by_cases h' : y < x
      · rw [if_pos h']; exact ⟨fun hh => absurd hh (by decide), fun hh => absurd hh (Rat.not_le.2 h')⟩
      · rw [if_neg h']; exact ⟨fun _ => Rat.not_lt.1 h', fun _ => by decide⟩
  have lt : ∀ x y : Rat, cmpQ x y < 0 ↔ x < y := by
    intro x y
    unfold cmpQ
    by_cases h : x < y
    · rw [if_pos h]; exact ⟨fun _ => h, fun _ => by decide⟩
    · rw [if_neg h]
      by_cases h' : y < x
      · rw [if_pos h']; exact ⟨fun hh => absurd hh (by decide), fun hh => absurd hh h⟩
      · rw [if_neg h']; exact ⟨fun hh => absurd hh (by decide), fun hh => absurd hh h⟩
  by_cases h1 : 0 < cmpQ a b
  · exact .inl h1
  by_cases h2 : 0 < cmpQ b c
  · exact .inr (.inl h2)
  have a1 := (le a b).1 (by omega)
  have a2 := (le b c).1 (by omega)
  have a3 := Rat.le_trans a1 a2
  refine .inr (.inr ⟨(le a c).2 a3, ?_⟩)
  by_cases h3 : a < c
  · exact .inl ((lt a c).2 h3)
  · have e : a = c := Rat.le_antisymm a3 (Rat.not_lt.1 h3)
    subst e
    have e2 : a = b := Rat.le_antisymm a1 a2
    subst e2
    refine .inr ⟨?_, ?_⟩
    · have h5 : ¬ cmpQ a a < 0 := fun h => Rat.lt_irrefl ((lt a a).1 h)
      omega
    · have h5 : ¬ cmpQ a a < 0 := fun h => Rat.lt_irrefl ((lt a a).1 h)
      omega

end Rq

namespace Go.Proofs.YtgenhkakcbedaaaGreatDoor
open Go.RowKit

/-- a box of three cells -/
structure Box3 (w : World) (n : Nat) (x0 x1 x2 : Value) : Prop where
  c0 : w.cell? ⟨n, 0, none⟩ = some x0
  c1 : w.cell? ⟨n, 1, none⟩ = some x1
  c2 : w.cell? ⟨n, 2, none⟩ = some x2
  f0 : w.frozen? ⟨n, 0, none⟩ = false
  f1 : w.frozen? ⟨n, 1, none⟩ = false
  f2 : w.frozen? ⟨n, 2, none⟩ = false

theorem Box3.lt {w : World} {n : Nat} {x0 x1 x2 : Value} (h : Box3 w n x0 x1 x2) : n < w.heap.size := cell_lt h.c0

theorem Box3.mono {w w' : World} {n : Nat} {x0 x1 x2 : Value} (h : Box3 w n x0 x1 x2) (hb : Below w.heap.size w w') : Box3 w' n x0 x1 x2 :=
  ⟨(hb.cell (p := ⟨n, 0, none⟩) h.lt).trans h.c0, (hb.cell (p := ⟨n, 1, none⟩) h.lt).trans h.c1, (hb.cell (p := ⟨n, 2, none⟩) h.lt).trans h.c2,
    (hb.frozen (p := ⟨n, 0, none⟩) h.lt).trans h.f0, (hb.frozen (p := ⟨n, 1, none⟩) h.lt).trans h.f1, (hb.frozen (p := ⟨n, 2, none⟩) h.lt).trans h.f2⟩

theorem Box3.new (w : World) (x0 x1 x2 : Value) (t : TypeId) : Box3 (w.alloc (.cells #[x0, x1, x2] t)) w.heap.size x0 x1 x2 :=
  ⟨by simp [go_sem], by simp [go_sem], by simp [go_sem], by simp [go_sem], by simp [go_sem], by simp [go_sem]⟩

theorem boxes_33 (w : World) (a0 b0 c0 : Value) (t0 : TypeId) (d0 e0 f0 : Value) (t1 : TypeId) : ∃ wx, wx = ((w.alloc (.cells #[a0, b0, c0] t0)).alloc (.cells #[d0, e0, f0] t1)) ∧ wx.heap.size = w.heap.size + 1 + 1 ∧ Box3 wx w.heap.size a0 b0 c0 ∧ Box3 wx (w.heap.size + 1) d0 e0 f0 ∧ Below w.heap.size w wx := by
  refine ⟨_, rfl, by simp, ?_, ?_, ?_⟩
  · exact (Box3.new w a0 b0 c0 t0).mono (below_alloc _ (.cells #[d0, e0, f0] t1))
  · have := Box3.new (w.alloc (.cells #[a0, b0, c0] t0)) d0 e0 f0 t1
    simpa using this
  · exact (((Below.refl _ _).alloc (by simp) _).alloc (by simp) _)

theorem S33 {wx W : World} {n m : Nat} {x0 x1 x2 y0 y1 y2 : Value} (B1 : Box3 wx n x0 x1 x2) (B2 : Box3 wx m y0 y1 y2) (h : Below wx.heap.size wx W) :
    W.cell? ⟨n, 0, none⟩ = some x0 ∧ W.cell? ⟨n, 1, none⟩ = some x1 ∧ W.cell? ⟨n, 2, none⟩ = some x2 ∧ W.cell? ⟨m, 0, none⟩ = some y0 ∧ W.cell? ⟨m, 1, none⟩ = some y1 ∧ W.cell? ⟨m, 2, none⟩ = some y2 :=
  ⟨(B1.mono h).c0, (B1.mono h).c1, (B1.mono h).c2, (B2.mono h).c0, (B2.mono h).c1, (B2.mono h).c2⟩

theorem Slot4.boxR {W : World} {base : Nat} {st : Prop} {p : Value} {r : Rat} (h : Slot4 W base (fun W v => RatV W v r) st p) (hs : st) : BoxQ W base p r := by
  obtain ⟨g, n1, a1, l1, c1, n2, a2, l2, c2, e, hg, B, hr⟩ := h.at hs (fun _ h => ⟨r, h⟩)
  obtain ⟨m1, b1, k1, d1, m2, b2, k2, d2, e2, h1, h2⟩ := hr
  simp only [Value.agg.injEq, Array.mk.injEq, List.cons.injEq, Value.bool.injEq, Value.slice.injEq, and_true] at e2
  obtain ⟨rfl, ⟨rfl, rfl, rfl⟩, rfl, rfl, rfl, rfl⟩ := e2
  exact ⟨g, _, _, _, _, _, _, _, _, e, hg, B, Lib.hid h1, Lib.hid h2⟩

theorem small_eq (n d : Int) (r : Rat) (w : World) (hr : Hid (Rat.divInt n (d + 1) = r)) (hn1 : -32768 ≤ n) (hn2 : n ≤ 32767) (hd1 : 0 ≤ d) (hd2 : d ≤ 255) (hE : Env w) :
    Calls Tryz.prog 28 #[.int .i16 n, .int .u8 d] w fun e w' => GotR w' r e ∧ Below w.heap.size w w' := by
  rw [← hr.out]; exact small_ok n d w hn1 hn2 hd1 hd2 hE

theorem sm_le {z : Int} {K : Nat} (h : z.natAbs ≤ K) (hK : K ≤ 9223372036854775808) : Rq.Sm z := small_big (Nat.le_trans h hK)

open Rq in
theorem crS_of {a b : Rat} {N M D E : Nat} (h1 : Bd a N D) (h2 : Bd b M E) (k1 : N * E ≤ 9223372036854775808) (k2 : M * D ≤ 9223372036854775808) : CrS a b :=
  ⟨sm_le (bd_x h1 h2) k1, sm_le (bd_x h2 h1) k2⟩

open Rq in
theorem addS_of {a b : Rat} {N M D E : Nat} (h1 : Bd a N D) (h2 : Bd b M E) (k : N * E + M * D ≤ 9223372036854775808) (k3 : D * E ≤ 9223372036854775808) : AddS a b ∧ SubS a b := by
  have x1 := bd_x h1 h2
  have x2 := bd_x h2 h1
  exact ⟨⟨crS_of h1 h2 (by omega) (by omega), sm_le (K := N * E + M * D) (by omega) k, sm_le (bd_dd h1 h2) k3⟩, ⟨crS_of h1 h2 (by omega) (by omega), sm_le (K := N * E + M * D) (by omega) k, sm_le (bd_dd h1 h2) k3⟩⟩

open Rq in
theorem mulS_of {a b : Rat} {N M D E : Nat} (h1 : Bd a N D) (h2 : Bd b M E) (k : N * M ≤ 9223372036854775808) (k3 : D * E ≤ 9223372036854775808) : MulS a b :=
  ⟨sm_le (mul_bd h1.1 h2.1) k, sm_le (bd_dd h1 h2) k3⟩

open Rq in
theorem divS_of {a b : Rat} {N M D E : Nat} (h1 : Bd a N D) (h2 : Bd b M E) (k : N * E ≤ 9223372036854775808) (k3 : D * M ≤ 9223372036854775808) : DivS a b :=
  ⟨sm_le (bd_x h1 h2) k, sm_le (mul_bd (by rw [Int.natAbs_natCast]; exact h1.2) h2.1) k3⟩

theorem small_bd {n d : Int} {r : Rat} (h : Rat.divInt n (d + 1) = r) (hn1 : -32768 ≤ n) (hn2 : n ≤ 32767) (hd1 : 0 ≤ d) (hd2 : d ≤ 255) : Rq.Bd r 32768 256 := by
  rw [← h]; exact Rq.bd_of (by omega) (by omega) (by omega)

set_option maxRecDepth 100000 in
set_option maxHeartbeats 12800000 in
theorem order_lawQ (a0 a1 a2 b0 b1 b2 : Int) (w : World) (hl0 : -32768 ≤ a0) (hh0 : a0 ≤ 32767) (hm0 : 0 ≤ b0) (hk0 : b0 ≤ 255) (hl1 : -32768 ≤ a1) (hh1 : a1 ≤ 32767) (hm1 : 0 ≤ b1) (hk1 : b1 ≤ 255) (hl2 : -32768 ≤ a2) (hh2 : a2 ≤ 32767) (hm2 : 0 ≤ b2) (hk2 : b2 ≤ 255) (hE : Env w) (hM : MaxV w) :
    Calls Tryz.prog 7 #[.agg #[.int .i16 a0, .int .i16 a1, .int .i16 a2], .agg #[.int .u8 b0, .int .u8 b1, .int .u8 b2]] w fun e w' => e = .returned (.bool true) ∧ Below w.heap.size w w' := by
  obtain ⟨ra, ha⟩ : ∃ r, Rat.divInt a0 (b0 + 1) = r := ⟨_, rfl⟩
  obtain ⟨rb, hb⟩ : ∃ r, Rat.divInt a1 (b1 + 1) = r := ⟨_, rfl⟩
  obtain ⟨rc, hc⟩ : ∃ r, Rat.divInt a2 (b2 + 1) = r := ⟨_, rfl⟩
  have BA := small_bd ha hl0 hh0 hm0 hk0
  have BB := small_bd hb hl1 hh1 hm1 hk1
  have BC := small_bd hc hl2 hh2 hm2 hk2
  have HA := Lib.hid ha
  have HB := Lib.hid hb
  have HC := Lib.hid hc
  clear ha hb hc
  have hE0 := hE
  have hbw := Below.refl w.heap.size w
  go_enter Tryz.func7, Tryz.ntmps7
  go_upto_region 1 with fail
  obtain ⟨wx, hwx, hszx, X1, X2, hb⟩ := boxes_33 w (.int .i16 a0) (.int .i16 a1) (.int .i16 a2) 49 (.int .u8 b0) (.int .u8 b1) (.int .u8 b2) 50
  rw [← hwx]
  clear hwx
  obtain ⟨v1, rfl⟩ : ∃ v1 : World, v1 = wx := ⟨_, rfl⟩
  have hM := hM.mono hb
  have hE := hE.mono hb
  have hbw := Below.step hbw hb (Nat.le_refl _)
  clear hb
  go_wp2_with fail
  (with_reducible refine (awakeQ v1 hE hM).mono ?_)
  rintro e v2 ⟨rfl, hb⟩
  have hM := hM.mono hb
  have X1 := X1.mono hb
  have X2 := X2.mono hb
  have hE := hE.mono hb
  have hbw := Below.step hbw hb (Nat.le_refl _)
  clear hb
  go_upto_region 3 with fail
  obtain ⟨wy, rfl⟩ : ∃ wy : World, wy = v2 := ⟨_, rfl⟩
  go_cut [5, 6, 7] (fun s5 s6 s7 wc => BoxQ wc wy.heap.size s5 ra ∧ BoxQ wc wy.heap.size s6 rb ∧ BoxQ wc wy.heap.size s7 rc ∧ Below wy.heap.size wy wc)
  case first =>
    refine wp_region_flow (fun L T W => Below wy.heap.size wy W ∧ (L 0 → T 18 = .pointer (some ⟨w.heap.size, 0, none⟩)) ∧ (L 1 → T 19 = .int .i16 a0) ∧ (L 2 → T 20 = .pointer (some ⟨w.heap.size + 1, 0, none⟩)) ∧ (L 3 → T 21 = .int .u8 b0) ∧ (L 4 → (fun W v => RatV W v ra) W (T 22)) ∧ (L 5 → T 23 = .pointer (some ⟨w.heap.size, 1, none⟩)) ∧ (L 6 → T 24 = .int .i16 a1) ∧ (L 7 → T 25 = .pointer (some ⟨w.heap.size + 1, 1, none⟩)) ∧ (L 8 → T 26 = .int .u8 b1) ∧ (L 9 → (fun W v => RatV W v rb) W (T 27)) ∧ (L 10 → T 28 = .pointer (some ⟨w.heap.size, 2, none⟩)) ∧ (L 11 → T 29 = .int .i16 a2) ∧ (L 12 → T 30 = .pointer (some ⟨w.heap.size + 1, 2, none⟩)) ∧ (L 13 → T 31 = .int .u8 b2) ∧ (L 14 → (fun W v => RatV W v rc) W (T 32)) ∧ (L 15 → Slot4 W wy.heap.size (fun W v => RatV W v ra) (L 18) (T 5)) ∧ (L 16 → Slot4 W wy.heap.size (fun W v => RatV W v rb) (L 19) (T 6)) ∧ (L 17 → Slot4 W wy.heap.size (fun W v => RatV W v rc) (L 20) (T 7)) ∧ (L 15 → L 16 → T 5 ≠ T 6) ∧ (L 15 → L 17 → T 5 ≠ T 7) ∧ (L 16 → L 17 → T 6 ≠ T 7) ∧ (L 18 → L 15) ∧ (L 19 → L 16) ∧ (L 20 → L 17)) [18, 19, 20, 21, 22, 23, 24, 25, 26, 27, 28, 29, 30, 31, 32, 5, 6, 7] (by kernel_rfl) (by kernel_rfl) (by kernel_rfl) ?h0 ⟨?s0, ?s1, ?s2, ?s3, ?s4, ?s5, ?s6, ?s7, ?s8, ?s9, ?s10, ?s11, ?s12, ?s13, ?s14, ?s15, ?s16, ?s17, ?s18, ?s19, ?s20, trivial⟩ ?he ?hm
    case h0 => exact fun T => ⟨(Below.refl _ _).drew, fun h => h.elim, fun h => h.elim, fun h => h.elim, fun h => h.elim, fun h => h.elim, fun h => h.elim, fun h => h.elim, fun h => h.elim, fun h => h.elim, fun h => h.elim, fun h => h.elim, fun h => h.elim, fun h => h.elim, fun h => h.elim, fun h => h.elim, fun h => h.elim, fun h => h.elim, fun h => h.elim, fun h => h.elim, fun h => h.elim, fun h => h.elim, fun h => h.elim, fun h => h.elim, fun h => h.elim⟩
    case hm =>
      rintro L T W hL ⟨hb, f0, f1, f2, f3, f4, f5, f6, f7, f8, f9, f10, f11, f12, f13, f14, f15, f16, f17, n15_16, n15_17, n16_17, c15, c16, c17⟩
      exact ⟨hb, fun _ => f0 (hL _ (by decide)), fun _ => f1 (hL _ (by decide)), fun _ => f2 (hL _ (by decide)), fun _ => f3 (hL _ (by decide)), fun _ => f4 (hL _ (by decide)), fun _ => f5 (hL _ (by decide)), fun _ => f6 (hL _ (by decide)), fun _ => f7 (hL _ (by decide)), fun _ => f8 (hL _ (by decide)), fun _ => f9 (hL _ (by decide)), fun _ => f10 (hL _ (by decide)), fun _ => f11 (hL _ (by decide)), fun _ => f12 (hL _ (by decide)), fun _ => f13 (hL _ (by decide)), fun _ => f14 (hL _ (by decide)), fun _ => (f15 (hL _ (by decide))).congr ⟨fun _ => by decide, fun _ => hL _ (by decide)⟩, fun _ => (f16 (hL _ (by decide))).congr ⟨fun _ => by decide, fun _ => hL _ (by decide)⟩, fun _ => (f17 (hL _ (by decide))).congr ⟨fun _ => by decide, fun _ => hL _ (by decide)⟩, fun _ _ => n15_16 (hL _ (by decide)) (hL _ (by decide)), fun _ _ => n15_17 (hL _ (by decide)) (hL _ (by decide)), fun _ _ => n16_17 (hL _ (by decide)) (hL _ (by decide)), fun _ => by decide, fun _ => by decide, fun _ => by decide⟩
    case s0 =>
      rintro L T W hd hn hJ K hK
      have HJ := Lib.hid hJ
      clear hJ
      have hb := HJ.out.1
      simp only [ovr, Act.put, List.setIfInBounds_toArray, List.set_cons_zero, List.set_cons_succ] at hK ⊢
      have HK := Lib.hid hK
      clear hK
      refine wpOp_want rfl rfl ?_
      go_simp
      obtain ⟨hb, f0, f1, f2, f3, f4, f5, f6, f7, f8, f9, f10, f11, f12, f13, f14, f15, f16, f17, n15_16, n15_17, n16_17, c15, c16, c17⟩ := HJ.out
      exact HK.out _ _ ⟨hb, fun _ => rfl, fun h => f1 (h.resolve_left (by decide)), fun h => f2 (h.resolve_left (by decide)), fun h => f3 (h.resolve_left (by decide)), fun h => f4 (h.resolve_left (by decide)), fun h => f5 (h.resolve_left (by decide)), fun h => f6 (h.resolve_left (by decide)), fun h => f7 (h.resolve_left (by decide)), fun h => f8 (h.resolve_left (by decide)), fun h => f9 (h.resolve_left (by decide)), fun h => f10 (h.resolve_left (by decide)), fun h => f11 (h.resolve_left (by decide)), fun h => f12 (h.resolve_left (by decide)), fun h => f13 (h.resolve_left (by decide)), fun h => f14 (h.resolve_left (by decide)), fun h => ((f15 (h.resolve_left (by decide)))).congr ⟨fun h => .inr h, fun h => h.resolve_left (by decide)⟩, fun h => ((f16 (h.resolve_left (by decide)))).congr ⟨fun h => .inr h, fun h => h.resolve_left (by decide)⟩, fun h => ((f17 (h.resolve_left (by decide)))).congr ⟨fun h => .inr h, fun h => h.resolve_left (by decide)⟩, fun h1 h2 => n15_16 (h1.resolve_left (by decide)) (h2.resolve_left (by decide)), fun h1 h2 => n15_17 (h1.resolve_left (by decide)) (h2.resolve_left (by decide)), fun h1 h2 => n16_17 (h1.resolve_left (by decide)) (h2.resolve_left (by decide)), fun h => .inr (c15 (h.resolve_left (by decide))), fun h => .inr (c16 (h.resolve_left (by decide))), fun h => .inr (c17 (h.resolve_left (by decide)))⟩
    case s1 =>
      rintro L T W hd hn hJ K hK
      have HJ := Lib.hid hJ
      clear hJ
      have hb := HJ.out.1
      have e0 := HJ.out.2.1 hd.1
      simp only [ovr, Act.put, List.setIfInBounds_toArray, List.set_cons_zero, List.set_cons_succ, e0] at hK ⊢
      have HK := Lib.hid hK
      clear hK
      obtain ⟨c0, c1, c2, c3, c4, c5⟩ := (fun W => S33 (W := W) X1 X2) W hb
      refine wpOp_want rfl rfl ?_
      go_simp
      obtain ⟨hb, f0, f1, f2, f3, f4, f5, f6, f7, f8, f9, f10, f11, f12, f13, f14, f15, f16, f17, n15_16, n15_17, n16_17, c15, c16, c17⟩ := HJ.out
      exact HK.out _ _ ⟨hb, fun h => f0 (h.resolve_left (by decide)), fun _ => rfl, fun h => f2 (h.resolve_left (by decide)), fun h => f3 (h.resolve_left (by decide)), fun h => f4 (h.resolve_left (by decide)), fun h => f5 (h.resolve_left (by decide)), fun h => f6 (h.resolve_left (by decide)), fun h => f7 (h.resolve_left (by decide)), fun h => f8 (h.resolve_left (by decide)), fun h => f9 (h.resolve_left (by decide)), fun h => f10 (h.resolve_left (by decide)), fun h => f11 (h.resolve_left (by decide)), fun h => f12 (h.resolve_left (by decide)), fun h => f13 (h.resolve_left (by decide)), fun h => f14 (h.resolve_left (by decide)), fun h => ((f15 (h.resolve_left (by decide)))).congr ⟨fun h => .inr h, fun h => h.resolve_left (by decide)⟩, fun h => ((f16 (h.resolve_left (by decide)))).congr ⟨fun h => .inr h, fun h => h.resolve_left (by decide)⟩, fun h => ((f17 (h.resolve_left (by decide)))).congr ⟨fun h => .inr h, fun h => h.resolve_left (by decide)⟩, fun h1 h2 => n15_16 (h1.resolve_left (by decide)) (h2.resolve_left (by decide)), fun h1 h2 => n15_17 (h1.resolve_left (by decide)) (h2.resolve_left (by decide)), fun h1 h2 => n16_17 (h1.resolve_left (by decide)) (h2.resolve_left (by decide)), fun h => .inr (c15 (h.resolve_left (by decide))), fun h => .inr (c16 (h.resolve_left (by decide))), fun h => .inr (c17 (h.resolve_left (by decide)))⟩
    case s2 =>
      rintro L T W hd hn hJ K hK
      have HJ := Lib.hid hJ
      clear hJ
      have hb := HJ.out.1
      simp only [ovr, Act.put, List.setIfInBounds_toArray, List.set_cons_zero, List.set_cons_succ] at hK ⊢
      have HK := Lib.hid hK
      clear hK
      refine wpOp_want rfl rfl ?_
      go_simp
      obtain ⟨hb, f0, f1, f2, f3, f4, f5, f6, f7, f8, f9, f10, f11, f12, f13, f14, f15, f16, f17, n15_16, n15_17, n16_17, c15, c16, c17⟩ := HJ.out
      exact HK.out _ _ ⟨hb, fun h => f0 (h.resolve_left (by decide)), fun h => f1 (h.resolve_left (by decide)), fun _ => rfl, fun h => f3 (h.resolve_left (by decide)), fun h => f4 (h.resolve_left (by decide)), fun h => f5 (h.resolve_left (by decide)), fun h => f6 (h.resolve_left (by decide)), fun h => f7 (h.resolve_left (by decide)), fun h => f8 (h.resolve_left (by decide)), fun h => f9 (h.resolve_left (by decide)), fun h => f10 (h.resolve_left (by decide)), fun h => f11 (h.resolve_left (by decide)), fun h => f12 (h.resolve_left (by decide)), fun h => f13 (h.resolve_left (by decide)), fun h => f14 (h.resolve_left (by decide)), fun h => ((f15 (h.resolve_left (by decide)))).congr ⟨fun h => .inr h, fun h => h.resolve_left (by decide)⟩, fun h => ((f16 (h.resolve_left (by decide)))).congr ⟨fun h => .inr h, fun h => h.resolve_left (by decide)⟩, fun h => ((f17 (h.resolve_left (by decide)))).congr ⟨fun h => .inr h, fun h => h.resolve_left (by decide)⟩, fun h1 h2 => n15_16 (h1.resolve_left (by decide)) (h2.resolve_left (by decide)), fun h1 h2 => n15_17 (h1.resolve_left (by decide)) (h2.resolve_left (by decide)), fun h1 h2 => n16_17 (h1.resolve_left (by decide)) (h2.resolve_left (by decide)), fun h => .inr (c15 (h.resolve_left (by decide))), fun h => .inr (c16 (h.resolve_left (by decide))), fun h => .inr (c17 (h.resolve_left (by decide)))⟩
    case s3 =>
      rintro L T W hd hn hJ K hK
      have HJ := Lib.hid hJ
      clear hJ
      have hb := HJ.out.1
      have e2 := HJ.out.2.2.2.1 hd.1
      simp only [ovr, Act.put, List.setIfInBounds_toArray, List.set_cons_zero, List.set_cons_succ, e2] at hK ⊢
      have HK := Lib.hid hK
      clear hK
      obtain ⟨c0, c1, c2, c3, c4, c5⟩ := (fun W => S33 (W := W) X1 X2) W hb
      refine wpOp_want rfl rfl ?_
      go_simp
      obtain ⟨hb, f0, f1, f2, f3, f4, f5, f6, f7, f8, f9, f10, f11, f12, f13, f14, f15, f16, f17, n15_16, n15_17, n16_17, c15, c16, c17⟩ := HJ.out
      exact HK.out _ _ ⟨hb, fun h => f0 (h.resolve_left (by decide)), fun h => f1 (h.resolve_left (by decide)), fun h => f2 (h.resolve_left (by decide)), fun _ => rfl, fun h => f4 (h.resolve_left (by decide)), fun h => f5 (h.resolve_left (by decide)), fun h => f6 (h.resolve_left (by decide)), fun h => f7 (h.resolve_left (by decide)), fun h => f8 (h.resolve_left (by decide)), fun h => f9 (h.resolve_left (by decide)), fun h => f10 (h.resolve_left (by decide)), fun h => f11 (h.resolve_left (by decide)), fun h => f12 (h.resolve_left (by decide)), fun h => f13 (h.resolve_left (by decide)), fun h => f14 (h.resolve_left (by decide)), fun h => ((f15 (h.resolve_left (by decide)))).congr ⟨fun h => .inr h, fun h => h.resolve_left (by decide)⟩, fun h => ((f16 (h.resolve_left (by decide)))).congr ⟨fun h => .inr h, fun h => h.resolve_left (by decide)⟩, fun h => ((f17 (h.resolve_left (by decide)))).congr ⟨fun h => .inr h, fun h => h.resolve_left (by decide)⟩, fun h1 h2 => n15_16 (h1.resolve_left (by decide)) (h2.resolve_left (by decide)), fun h1 h2 => n15_17 (h1.resolve_left (by decide)) (h2.resolve_left (by decide)), fun h1 h2 => n16_17 (h1.resolve_left (by decide)) (h2.resolve_left (by decide)), fun h => .inr (c15 (h.resolve_left (by decide))), fun h => .inr (c16 (h.resolve_left (by decide))), fun h => .inr (c17 (h.resolve_left (by decide)))⟩
    case s4 =>
      rintro L T W hd hn hJ K hK
      have HJ := Lib.hid hJ
      clear hJ
      have hb := HJ.out.1
      have e1 := HJ.out.2.2.1 hd.1
      have e3 := HJ.out.2.2.2.2.1 hd.2.1
      simp only [ovr, Act.put, List.setIfInBounds_toArray, List.set_cons_zero, List.set_cons_succ, e1, e3] at hK ⊢
      have HK := Lib.hid hK
      clear hK
      refine wpOp_want rfl rfl ?_
      go_simp
      (with_reducible refine (small_eq a0 b0 ra _ HA hl0 hh0 hm0 hk0 (hE.mono hb)).mono ?_)
      rintro e w1 ⟨⟨nga, aoa, na, capa, ngb, aob, nb, capb, rfl, HVa, HVb⟩, hb1⟩
      have hr : RatV w1 (.agg #[.bool nga, .slice aoa na capa, .bool ngb, .slice aob nb capb]) ra := RatV.mk' HVa HVb
      dsimp only
      obtain ⟨hb, f0, f1, f2, f3, f4, f5, f6, f7, f8, f9, f10, f11, f12, f13, f14, f15, f16, f17, n15_16, n15_17, n16_17, c15, c16, c17⟩ := HJ.out
      exact HK.out _ _ ⟨Below.step hb hb1 (Nat.le_refl _), fun h => f0 (h.resolve_left (by decide)), fun h => f1 (h.resolve_left (by decide)), fun h => f2 (h.resolve_left (by decide)), fun h => f3 (h.resolve_left (by decide)), fun _ => hr, fun h => f5 (h.resolve_left (by decide)), fun h => f6 (h.resolve_left (by decide)), fun h => f7 (h.resolve_left (by decide)), fun h => f8 (h.resolve_left (by decide)), fun h => (stay4_rat rb).mono (f9 (h.resolve_left (by decide))) hb1, fun h => f10 (h.resolve_left (by decide)), fun h => f11 (h.resolve_left (by decide)), fun h => f12 (h.resolve_left (by decide)), fun h => f13 (h.resolve_left (by decide)), fun h => (stay4_rat rc).mono (f14 (h.resolve_left (by decide))) hb1, fun h => ((f15 (h.resolve_left (by decide))).mono (stay4_rat ra) hb1).congr ⟨fun h => .inr h, fun h => h.resolve_left (by decide)⟩, fun h => ((f16 (h.resolve_left (by decide))).mono (stay4_rat rb) hb1).congr ⟨fun h => .inr h, fun h => h.resolve_left (by decide)⟩, fun h => ((f17 (h.resolve_left (by decide))).mono (stay4_rat rc) hb1).congr ⟨fun h => .inr h, fun h => h.resolve_left (by decide)⟩, fun h1 h2 => n15_16 (h1.resolve_left (by decide)) (h2.resolve_left (by decide)), fun h1 h2 => n15_17 (h1.resolve_left (by decide)) (h2.resolve_left (by decide)), fun h1 h2 => n16_17 (h1.resolve_left (by decide)) (h2.resolve_left (by decide)), fun h => .inr (c15 (h.resolve_left (by decide))), fun h => .inr (c16 (h.resolve_left (by decide))), fun h => .inr (c17 (h.resolve_left (by decide)))⟩
    case s5 =>
      rintro L T W hd hn hJ K hK
      have HJ := Lib.hid hJ
      clear hJ
      have hb := HJ.out.1
      simp only [ovr, Act.put, List.setIfInBounds_toArray, List.set_cons_zero, List.set_cons_succ] at hK ⊢
      have HK := Lib.hid hK
      clear hK
      refine wpOp_want rfl rfl ?_
      go_simp
      obtain ⟨hb, f0, f1, f2, f3, f4, f5, f6, f7, f8, f9, f10, f11, f12, f13, f14, f15, f16, f17, n15_16, n15_17, n16_17, c15, c16, c17⟩ := HJ.out
      exact HK.out _ _ ⟨hb, fun h => f0 (h.resolve_left (by decide)), fun h => f1 (h.resolve_left (by decide)), fun h => f2 (h.resolve_left (by decide)), fun h => f3 (h.resolve_left (by decide)), fun h => f4 (h.resolve_left (by decide)), fun _ => rfl, fun h => f6 (h.resolve_left (by decide)), fun h => f7 (h.resolve_left (by decide)), fun h => f8 (h.resolve_left (by decide)), fun h => f9 (h.resolve_left (by decide)), fun h => f10 (h.resolve_left (by decide)), fun h => f11 (h.resolve_left (by decide)), fun h => f12 (h.resolve_left (by decide)), fun h => f13 (h.resolve_left (by decide)), fun h => f14 (h.resolve_left (by decide)), fun h => ((f15 (h.resolve_left (by decide)))).congr ⟨fun h => .inr h, fun h => h.resolve_left (by decide)⟩, fun h => ((f16 (h.resolve_left (by decide)))).congr ⟨fun h => .inr h, fun h => h.resolve_left (by decide)⟩, fun h => ((f17 (h.resolve_left (by decide)))).congr ⟨fun h => .inr h, fun h => h.resolve_left (by decide)⟩, fun h1 h2 => n15_16 (h1.resolve_left (by decide)) (h2.resolve_left (by decide)), fun h1 h2 => n15_17 (h1.resolve_left (by decide)) (h2.resolve_left (by decide)), fun h1 h2 => n16_17 (h1.resolve_left (by decide)) (h2.resolve_left (by decide)), fun h => .inr (c15 (h.resolve_left (by decide))), fun h => .inr (c16 (h.resolve_left (by decide))), fun h => .inr (c17 (h.resolve_left (by decide)))⟩
    case s6 =>
      rintro L T W hd hn hJ K hK
      have HJ := Lib.hid hJ
      clear hJ
      have hb := HJ.out.1
      have e5 := HJ.out.2.2.2.2.2.2.1 hd.1
      simp only [ovr, Act.put, List.setIfInBounds_toArray, List.set_cons_zero, List.set_cons_succ, e5] at hK ⊢
      have HK := Lib.hid hK
      clear hK
      obtain ⟨c0, c1, c2, c3, c4, c5⟩ := (fun W => S33 (W := W) X1 X2) W hb
      refine wpOp_want rfl rfl ?_
      go_simp
      obtain ⟨hb, f0, f1, f2, f3, f4, f5, f6, f7, f8, f9, f10, f11, f12, f13, f14, f15, f16, f17, n15_16, n15_17, n16_17, c15, c16, c17⟩ := HJ.out
      exact HK.out _ _ ⟨hb, fun h => f0 (h.resolve_left (by decide)), fun h => f1 (h.resolve_left (by decide)), fun h => f2 (h.resolve_left (by decide)), fun h => f3 (h.resolve_left (by decide)), fun h => f4 (h.resolve_left (by decide)), fun h => f5 (h.resolve_left (by decide)), fun _ => rfl, fun h => f7 (h.resolve_left (by decide)), fun h => f8 (h.resolve_left (by decide)), fun h => f9 (h.resolve_left (by decide)), fun h => f10 (h.resolve_left (by decide)), fun h => f11 (h.resolve_left (by decide)), fun h => f12 (h.resolve_left (by decide)), fun h => f13 (h.resolve_left (by decide)), fun h => f14 (h.resolve_left (by decide)), fun h => ((f15 (h.resolve_left (by decide)))).congr ⟨fun h => .inr h, fun h => h.resolve_left (by decide)⟩, fun h => ((f16 (h.resolve_left (by decide)))).congr ⟨fun h => .inr h, fun h => h.resolve_left (by decide)⟩, fun h => ((f17 (h.resolve_left (by decide)))).congr ⟨fun h => .inr h, fun h => h.resolve_left (by decide)⟩, fun h1 h2 => n15_16 (h1.resolve_left (by decide)) (h2.resolve_left (by decide)), fun h1 h2 => n15_17 (h1.resolve_left (by decide)) (h2.resolve_left (by decide)), fun h1 h2 => n16_17 (h1.resolve_left (by decide)) (h2.resolve_left (by decide)), fun h => .inr (c15 (h.resolve_left (by decide))), fun h => .inr (c16 (h.resolve_left (by decide))), fun h => .inr (c17 (h.resolve_left (by decide)))⟩
    case s7 =>
      rintro L T W hd hn hJ K hK
      have HJ := Lib.hid hJ
      clear hJ
      have hb := HJ.out.1
      simp only [ovr, Act.put, List.setIfInBounds_toArray, List.set_cons_zero, List.set_cons_succ] at hK ⊢
      have HK := Lib.hid hK
      clear hK
      refine wpOp_want rfl rfl ?_
      go_simp
      obtain ⟨hb, f0, f1, f2, f3, f4, f5, f6, f7, f8, f9, f10, f11, f12, f13, f14, f15, f16, f17, n15_16, n15_17, n16_17, c15, c16, c17⟩ := HJ.out
      exact HK.out _ _ ⟨hb, fun h => f0 (h.resolve_left (by decide)), fun h => f1 (h.resolve_left (by decide)), fun h => f2 (h.resolve_left (by decide)), fun h => f3 (h.resolve_left (by decide)), fun h => f4 (h.resolve_left (by decide)), fun h => f5 (h.resolve_left (by decide)), fun h => f6 (h.resolve_left (by decide)), fun _ => rfl, fun h => f8 (h.resolve_left (by decide)), fun h => f9 (h.resolve_left (by decide)), fun h => f10 (h.resolve_left (by decide)), fun h => f11 (h.resolve_left (by decide)), fun h => f12 (h.resolve_left (by decide)), fun h => f13 (h.resolve_left (by decide)), fun h => f14 (h.resolve_left (by decide)), fun h => ((f15 (h.resolve_left (by decide)))).congr ⟨fun h => .inr h, fun h => h.resolve_left (by decide)⟩, fun h => ((f16 (h.resolve_left (by decide)))).congr ⟨fun h => .inr h, fun h => h.resolve_left (by decide)⟩, fun h => ((f17 (h.resolve_left (by decide)))).congr ⟨fun h => .inr h, fun h => h.resolve_left (by decide)⟩, fun h1 h2 => n15_16 (h1.resolve_left (by decide)) (h2.resolve_left (by decide)), fun h1 h2 => n15_17 (h1.resolve_left (by decide)) (h2.resolve_left (by decide)), fun h1 h2 => n16_17 (h1.resolve_left (by decide)) (h2.resolve_left (by decide)), fun h => .inr (c15 (h.resolve_left (by decide))), fun h => .inr (c16 (h.resolve_left (by decide))), fun h => .inr (c17 (h.resolve_left (by decide)))⟩
    case s8 =>
      rintro L T W hd hn hJ K hK
      have HJ := Lib.hid hJ
      clear hJ
      have hb := HJ.out.1
      have e7 := HJ.out.2.2.2.2.2.2.2.2.1 hd.1
      simp only [ovr, Act.put, List.setIfInBounds_toArray, List.set_cons_zero, List.set_cons_succ, e7] at hK ⊢
      have HK := Lib.hid hK
      clear hK
      obtain ⟨c0, c1, c2, c3, c4, c5⟩ := (fun W => S33 (W := W) X1 X2) W hb
      refine wpOp_want rfl rfl ?_
      go_simp
      obtain ⟨hb, f0, f1, f2, f3, f4, f5, f6, f7, f8, f9, f10, f11, f12, f13, f14, f15, f16, f17, n15_16, n15_17, n16_17, c15, c16, c17⟩ := HJ.out
      exact HK.out _ _ ⟨hb, fun h => f0 (h.resolve_left (by decide)), fun h => f1 (h.resolve_left (by decide)), fun h => f2 (h.resolve_left (by decide)), fun h => f3 (h.resolve_left (by decide)), fun h => f4 (h.resolve_left (by decide)), fun h => f5 (h.resolve_left (by decide)), fun h => f6 (h.resolve_left (by decide)), fun h => f7 (h.resolve_left (by decide)), fun _ => rfl, fun h => f9 (h.resolve_left (by decide)), fun h => f10 (h.resolve_left (by decide)), fun h => f11 (h.resolve_left (by decide)), fun h => f12 (h.resolve_left (by decide)), fun h => f13 (h.resolve_left (by decide)), fun h => f14 (h.resolve_left (by decide)), fun h => ((f15 (h.resolve_left (by decide)))).congr ⟨fun h => .inr h, fun h => h.resolve_left (by decide)⟩, fun h => ((f16 (h.resolve_left (by decide)))).congr ⟨fun h => .inr h, fun h => h.resolve_left (by decide)⟩, fun h => ((f17 (h.resolve_left (by decide)))).congr ⟨fun h => .inr h, fun h => h.resolve_left (by decide)⟩, fun h1 h2 => n15_16 (h1.resolve_left (by decide)) (h2.resolve_left (by decide)), fun h1 h2 => n15_17 (h1.resolve_left (by decide)) (h2.resolve_left (by decide)), fun h1 h2 => n16_17 (h1.resolve_left (by decide)) (h2.resolve_left (by decide)), fun h => .inr (c15 (h.resolve_left (by decide))), fun h => .inr (c16 (h.resolve_left (by decide))), fun h => .inr (c17 (h.resolve_left (by decide)))⟩
    case s9 =>
      rintro L T W hd hn hJ K hK
      have HJ := Lib.hid hJ
      clear hJ
      have hb := HJ.out.1
      have e6 := HJ.out.2.2.2.2.2.2.2.1 hd.1
      have e8 := HJ.out.2.2.2.2.2.2.2.2.2.1 hd.2.1
      have r4 := HJ.out.2.2.2.2.2.1 hd.2.2.1
      simp only [ovr, Act.put, List.setIfInBounds_toArray, List.set_cons_zero, List.set_cons_succ, e6, e8] at hK ⊢
      have HK := Lib.hid hK
      clear hK
      refine wpOp_want rfl rfl ?_
      go_simp
      (with_reducible refine (small_eq a1 b1 rb _ HB hl1 hh1 hm1 hk1 (hE.mono hb)).mono ?_)
      rintro e w1 ⟨⟨nga, aoa, na, capa, ngb, aob, nb, capb, rfl, HVa, HVb⟩, hb1⟩
      have hr : RatV w1 (.agg #[.bool nga, .slice aoa na capa, .bool ngb, .slice aob nb capb]) rb := RatV.mk' HVa HVb
      dsimp only
      obtain ⟨hb, f0, f1, f2, f3, f4, f5, f6, f7, f8, f9, f10, f11, f12, f13, f14, f15, f16, f17, n15_16, n15_17, n16_17, c15, c16, c17⟩ := HJ.out
      exact HK.out _ _ ⟨Below.step hb hb1 (Nat.le_refl _), fun h => f0 (h.resolve_left (by decide)), fun h => f1 (h.resolve_left (by decide)), fun h => f2 (h.resolve_left (by decide)), fun h => f3 (h.resolve_left (by decide)), fun h => (stay4_rat ra).mono (f4 (h.resolve_left (by decide))) hb1, fun h => f5 (h.resolve_left (by decide)), fun h => f6 (h.resolve_left (by decide)), fun h => f7 (h.resolve_left (by decide)), fun h => f8 (h.resolve_left (by decide)), fun _ => hr, fun h => f10 (h.resolve_left (by decide)), fun h => f11 (h.resolve_left (by decide)), fun h => f12 (h.resolve_left (by decide)), fun h => f13 (h.resolve_left (by decide)), fun h => (stay4_rat rc).mono (f14 (h.resolve_left (by decide))) hb1, fun h => ((f15 (h.resolve_left (by decide))).mono (stay4_rat ra) hb1).congr ⟨fun h => .inr h, fun h => h.resolve_left (by decide)⟩, fun h => ((f16 (h.resolve_left (by decide))).mono (stay4_rat rb) hb1).congr ⟨fun h => .inr h, fun h => h.resolve_left (by decide)⟩, fun h => ((f17 (h.resolve_left (by decide))).mono (stay4_rat rc) hb1).congr ⟨fun h => .inr h, fun h => h.resolve_left (by decide)⟩, fun h1 h2 => n15_16 (h1.resolve_left (by decide)) (h2.resolve_left (by decide)), fun h1 h2 => n15_17 (h1.resolve_left (by decide)) (h2.resolve_left (by decide)), fun h1 h2 => n16_17 (h1.resolve_left (by decide)) (h2.resolve_left (by decide)), fun h => .inr (c15 (h.resolve_left (by decide))), fun h => .inr (c16 (h.resolve_left (by decide))), fun h => .inr (c17 (h.resolve_left (by decide)))⟩
    case s10 =>
      rintro L T W hd hn hJ K hK
      have HJ := Lib.hid hJ
      clear hJ
      have hb := HJ.out.1
      simp only [ovr, Act.put, List.setIfInBounds_toArray, List.set_cons_zero, List.set_cons_succ] at hK ⊢
      have HK := Lib.hid hK
      clear hK
      refine wpOp_want rfl rfl ?_
      go_simp
      obtain ⟨hb, f0, f1, f2, f3, f4, f5, f6, f7, f8, f9, f10, f11, f12, f13, f14, f15, f16, f17, n15_16, n15_17, n16_17, c15, c16, c17⟩ := HJ.out
      exact HK.out _ _ ⟨hb, fun h => f0 (h.resolve_left (by decide)), fun h => f1 (h.resolve_left (by decide)), fun h => f2 (h.resolve_left (by decide)), fun h => f3 (h.resolve_left (by decide)), fun h => f4 (h.resolve_left (by decide)), fun h => f5 (h.resolve_left (by decide)), fun h => f6 (h.resolve_left (by decide)), fun h => f7 (h.resolve_left (by decide)), fun h => f8 (h.resolve_left (by decide)), fun h => f9 (h.resolve_left (by decide)), fun _ => rfl, fun h => f11 (h.resolve_left (by decide)), fun h => f12 (h.resolve_left (by decide)), fun h => f13 (h.resolve_left (by decide)), fun h => f14 (h.resolve_left (by decide)), fun h => ((f15 (h.resolve_left (by decide)))).congr ⟨fun h => .inr h, fun h => h.resolve_left (by decide)⟩, fun h => ((f16 (h.resolve_left (by decide)))).congr ⟨fun h => .inr h, fun h => h.resolve_left (by decide)⟩, fun h => ((f17 (h.resolve_left (by decide)))).congr ⟨fun h => .inr h, fun h => h.resolve_left (by decide)⟩, fun h1 h2 => n15_16 (h1.resolve_left (by decide)) (h2.resolve_left (by decide)), fun h1 h2 => n15_17 (h1.resolve_left (by decide)) (h2.resolve_left (by decide)), fun h1 h2 => n16_17 (h1.resolve_left (by decide)) (h2.resolve_left (by decide)), fun h => .inr (c15 (h.resolve_left (by decide))), fun h => .inr (c16 (h.resolve_left (by decide))), fun h => .inr (c17 (h.resolve_left (by decide)))⟩
    case s11 =>
      rintro L T W hd hn hJ K hK
      have HJ := Lib.hid hJ
      clear hJ
      have hb := HJ.out.1
      have e10 := HJ.out.2.2.2.2.2.2.2.2.2.2.2.1 hd.1
      simp only [ovr, Act.put, List.setIfInBounds_toArray, List.set_cons_zero, List.set_cons_succ, e10] at hK ⊢
      have HK := Lib.hid hK
      clear hK
      obtain ⟨c0, c1, c2, c3, c4, c5⟩ := (fun W => S33 (W := W) X1 X2) W hb
      refine wpOp_want rfl rfl ?_
      go_simp
      obtain ⟨hb, f0, f1, f2, f3, f4, f5, f6, f7, f8, f9, f10, f11, f12, f13, f14, f15, f16, f17, n15_16, n15_17, n16_17, c15, c16, c17⟩ := HJ.out
      exact HK.out _ _ ⟨hb, fun h => f0 (h.resolve_left (by decide)), fun h => f1 (h.resolve_left (by decide)), fun h => f2 (h.resolve_left (by decide)), fun h => f3 (h.resolve_left (by decide)), fun h => f4 (h.resolve_left (by decide)), fun h => f5 (h.resolve_left (by decide)), fun h => f6 (h.resolve_left (by decide)), fun h => f7 (h.resolve_left (by decide)), fun h => f8 (h.resolve_left (by decide)), fun h => f9 (h.resolve_left (by decide)), fun h => f10 (h.resolve_left (by decide)), fun _ => rfl, fun h => f12 (h.resolve_left (by decide)), fun h => f13 (h.resolve_left (by decide)), fun h => f14 (h.resolve_left (by decide)), fun h => ((f15 (h.resolve_left (by decide)))).congr ⟨fun h => .inr h, fun h => h.resolve_left (by decide)⟩, fun h => ((f16 (h.resolve_left (by decide)))).congr ⟨fun h => .inr h, fun h => h.resolve_left (by decide)⟩, fun h => ((f17 (h.resolve_left (by decide)))).congr ⟨fun h => .inr h, fun h => h.resolve_left (by decide)⟩, fun h1 h2 => n15_16 (h1.resolve_left (by decide)) (h2.resolve_left (by decide)), fun h1 h2 => n15_17 (h1.resolve_left (by decide)) (h2.resolve_left (by decide)), fun h1 h2 => n16_17 (h1.resolve_left (by decide)) (h2.resolve_left (by decide)), fun h => .inr (c15 (h.resolve_left (by decide))), fun h => .inr (c16 (h.resolve_left (by decide))), fun h => .inr (c17 (h.resolve_left (by decide)))⟩
    case s12 =>
      rintro L T W hd hn hJ K hK
      have HJ := Lib.hid hJ
      clear hJ
      have hb := HJ.out.1
      simp only [ovr, Act.put, List.setIfInBounds_toArray, List.set_cons_zero, List.set_cons_succ] at hK ⊢
      have HK := Lib.hid hK
      clear hK
      refine wpOp_want rfl rfl ?_
      go_simp
      obtain ⟨hb, f0, f1, f2, f3, f4, f5, f6, f7, f8, f9, f10, f11, f12, f13, f14, f15, f16, f17, n15_16, n15_17, n16_17, c15, c16, c17⟩ := HJ.out
      exact HK.out _ _ ⟨hb, fun h => f0 (h.resolve_left (by decide)), fun h => f1 (h.resolve_left (by decide)), fun h => f2 (h.resolve_left (by decide)), fun h => f3 (h.resolve_left (by decide)), fun h => f4 (h.resolve_left (by decide)), fun h => f5 (h.resolve_left (by decide)), fun h => f6 (h.resolve_left (by decide)), fun h => f7 (h.resolve_left (by decide)), fun h => f8 (h.resolve_left (by decide)), fun h => f9 (h.resolve_left (by decide)), fun h => f10 (h.resolve_left (by decide)), fun h => f11 (h.resolve_left (by decide)), fun _ => rfl, fun h => f13 (h.resolve_left (by decide)), fun h => f14 (h.resolve_left (by decide)), fun h => ((f15 (h.resolve_left (by decide)))).congr ⟨fun h => .inr h, fun h => h.resolve_left (by decide)⟩, fun h => ((f16 (h.resolve_left (by decide)))).congr ⟨fun h => .inr h, fun h => h.resolve_left (by decide)⟩, fun h => ((f17 (h.resolve_left (by decide)))).congr ⟨fun h => .inr h, fun h => h.resolve_left (by decide)⟩, fun h1 h2 => n15_16 (h1.resolve_left (by decide)) (h2.resolve_left (by decide)), fun h1 h2 => n15_17 (h1.resolve_left (by decide)) (h2.resolve_left (by decide)), fun h1 h2 => n16_17 (h1.resolve_left (by decide)) (h2.resolve_left (by decide)), fun h => .inr (c15 (h.resolve_left (by decide))), fun h => .inr (c16 (h.resolve_left (by decide))), fun h => .inr (c17 (h.resolve_left (by decide)))⟩
    case s13 =>
      rintro L T W hd hn hJ K hK
      have HJ := Lib.hid hJ
      clear hJ
      have hb := HJ.out.1
      have e12 := HJ.out.2.2.2.2.2.2.2.2.2.2.2.2.2.1 hd.1
      simp only [ovr, Act.put, List.setIfInBounds_toArray, List.set_cons_zero, List.set_cons_succ, e12] at hK ⊢
      have HK := Lib.hid hK
      clear hK
      obtain ⟨c0, c1, c2, c3, c4, c5⟩ := (fun W => S33 (W := W) X1 X2) W hb
      refine wpOp_want rfl rfl ?_
      go_simp
      obtain ⟨hb, f0, f1, f2, f3, f4, f5, f6, f7, f8, f9, f10, f11, f12, f13, f14, f15, f16, f17, n15_16, n15_17, n16_17, c15, c16, c17⟩ := HJ.out
      exact HK.out _ _ ⟨hb, fun h => f0 (h.resolve_left (by decide)), fun h => f1 (h.resolve_left (by decide)), fun h => f2 (h.resolve_left (by decide)), fun h => f3 (h.resolve_left (by decide)), fun h => f4 (h.resolve_left (by decide)), fun h => f5 (h.resolve_left (by decide)), fun h => f6 (h.resolve_left (by decide)), fun h => f7 (h.resolve_left (by decide)), fun h => f8 (h.resolve_left (by decide)), fun h => f9 (h.resolve_left (by decide)), fun h => f10 (h.resolve_left (by decide)), fun h => f11 (h.resolve_left (by decide)), fun h => f12 (h.resolve_left (by decide)), fun _ => rfl, fun h => f14 (h.resolve_left (by decide)), fun h => ((f15 (h.resolve_left (by decide)))).congr ⟨fun h => .inr h, fun h => h.resolve_left (by decide)⟩, fun h => ((f16 (h.resolve_left (by decide)))).congr ⟨fun h => .inr h, fun h => h.resolve_left (by decide)⟩, fun h => ((f17 (h.resolve_left (by decide)))).congr ⟨fun h => .inr h, fun h => h.resolve_left (by decide)⟩, fun h1 h2 => n15_16 (h1.resolve_left (by decide)) (h2.resolve_left (by decide)), fun h1 h2 => n15_17 (h1.resolve_left (by decide)) (h2.resolve_left (by decide)), fun h1 h2 => n16_17 (h1.resolve_left (by decide)) (h2.resolve_left (by decide)), fun h => .inr (c15 (h.resolve_left (by decide))), fun h => .inr (c16 (h.resolve_left (by decide))), fun h => .inr (c17 (h.resolve_left (by decide)))⟩
    case s14 =>
      rintro L T W hd hn hJ K hK
      have HJ := Lib.hid hJ
      clear hJ
      have hb := HJ.out.1
      have e11 := HJ.out.2.2.2.2.2.2.2.2.2.2.2.2.1 hd.1
      have e13 := HJ.out.2.2.2.2.2.2.2.2.2.2.2.2.2.2.1 hd.2.1
      have r9 := HJ.out.2.2.2.2.2.2.2.2.2.2.1 hd.2.2.1
      simp only [ovr, Act.put, List.setIfInBounds_toArray, List.set_cons_zero, List.set_cons_succ, e11, e13] at hK ⊢
      have HK := Lib.hid hK
      clear hK
      refine wpOp_want rfl rfl ?_
      go_simp
      (with_reducible refine (small_eq a2 b2 rc _ HC hl2 hh2 hm2 hk2 (hE.mono hb)).mono ?_)
      rintro e w1 ⟨⟨nga, aoa, na, capa, ngb, aob, nb, capb, rfl, HVa, HVb⟩, hb1⟩
      have hr : RatV w1 (.agg #[.bool nga, .slice aoa na capa, .bool ngb, .slice aob nb capb]) rc := RatV.mk' HVa HVb
      dsimp only
      obtain ⟨hb, f0, f1, f2, f3, f4, f5, f6, f7, f8, f9, f10, f11, f12, f13, f14, f15, f16, f17, n15_16, n15_17, n16_17, c15, c16, c17⟩ := HJ.out
      exact HK.out _ _ ⟨Below.step hb hb1 (Nat.le_refl _), fun h => f0 (h.resolve_left (by decide)), fun h => f1 (h.resolve_left (by decide)), fun h => f2 (h.resolve_left (by decide)), fun h => f3 (h.resolve_left (by decide)), fun h => (stay4_rat ra).mono (f4 (h.resolve_left (by decide))) hb1, fun h => f5 (h.resolve_left (by decide)), fun h => f6 (h.resolve_left (by decide)), fun h => f7 (h.resolve_left (by decide)), fun h => f8 (h.resolve_left (by decide)), fun h => (stay4_rat rb).mono (f9 (h.resolve_left (by decide))) hb1, fun h => f10 (h.resolve_left (by decide)), fun h => f11 (h.resolve_left (by decide)), fun h => f12 (h.resolve_left (by decide)), fun h => f13 (h.resolve_left (by decide)), fun _ => hr, fun h => ((f15 (h.resolve_left (by decide))).mono (stay4_rat ra) hb1).congr ⟨fun h => .inr h, fun h => h.resolve_left (by decide)⟩, fun h => ((f16 (h.resolve_left (by decide))).mono (stay4_rat rb) hb1).congr ⟨fun h => .inr h, fun h => h.resolve_left (by decide)⟩, fun h => ((f17 (h.resolve_left (by decide))).mono (stay4_rat rc) hb1).congr ⟨fun h => .inr h, fun h => h.resolve_left (by decide)⟩, fun h1 h2 => n15_16 (h1.resolve_left (by decide)) (h2.resolve_left (by decide)), fun h1 h2 => n15_17 (h1.resolve_left (by decide)) (h2.resolve_left (by decide)), fun h1 h2 => n16_17 (h1.resolve_left (by decide)) (h2.resolve_left (by decide)), fun h => .inr (c15 (h.resolve_left (by decide))), fun h => .inr (c16 (h.resolve_left (by decide))), fun h => .inr (c17 (h.resolve_left (by decide)))⟩
    case s15 =>
      rintro L T W hd hn hJ K hK
      have HJ := Lib.hid hJ
      clear hJ
      have hb := HJ.out.1
      simp only [ovr, Act.put, List.setIfInBounds_toArray, List.set_cons_zero, List.set_cons_succ] at hK ⊢
      have HK := Lib.hid hK
      clear hK
      refine wpOp_want rfl rfl ?_
      go_simp
      have hb1 := below_alloc W (.cells #[.bool false, .slice none 0 0, .bool false, .slice none 0 0] 29)
      obtain ⟨hb, f0, f1, f2, f3, f4, f5, f6, f7, f8, f9, f10, f11, f12, f13, f14, f15, f16, f17, n15_16, n15_17, n16_17, c15, c16, c17⟩ := HJ.out
      exact HK.out _ _ ⟨Below.step hb hb1 (Nat.le_refl _), fun h => f0 (h.resolve_left (by decide)), fun h => f1 (h.resolve_left (by decide)), fun h => f2 (h.resolve_left (by decide)), fun h => f3 (h.resolve_left (by decide)), fun h => (stay4_rat ra).mono (f4 (h.resolve_left (by decide))) hb1, fun h => f5 (h.resolve_left (by decide)), fun h => f6 (h.resolve_left (by decide)), fun h => f7 (h.resolve_left (by decide)), fun h => f8 (h.resolve_left (by decide)), fun h => (stay4_rat rb).mono (f9 (h.resolve_left (by decide))) hb1, fun h => f10 (h.resolve_left (by decide)), fun h => f11 (h.resolve_left (by decide)), fun h => f12 (h.resolve_left (by decide)), fun h => f13 (h.resolve_left (by decide)), fun h => (stay4_rat rc).mono (f14 (h.resolve_left (by decide))) hb1, fun _ => Slot4.new W (fun h => hn (c15 (h.resolve_left (by decide)))) _ hb.size, fun h => ((f16 (h.resolve_left (by decide))).mono (stay4_rat rb) hb1).congr ⟨fun h => .inr h, fun h => h.resolve_left (by decide)⟩, fun h => ((f17 (h.resolve_left (by decide))).mono (stay4_rat rc) hb1).congr ⟨fun h => .inr h, fun h => h.resolve_left (by decide)⟩, fun _ h2 => (f16 (h2.resolve_left (by decide))).ne_new.symm, fun _ h2 => (f17 (h2.resolve_left (by decide))).ne_new.symm, fun h1 h2 => n16_17 (h1.resolve_left (by decide)) (h2.resolve_left (by decide)), fun _ => .inl (by decide), fun h => .inr (c16 (h.resolve_left (by decide))), fun h => .inr (c17 (h.resolve_left (by decide)))⟩
    case s16 =>
      rintro L T W hd hn hJ K hK
      have HJ := Lib.hid hJ
      clear hJ
      have hb := HJ.out.1
      simp only [ovr, Act.put, List.setIfInBounds_toArray, List.set_cons_zero, List.set_cons_succ] at hK ⊢
      have HK := Lib.hid hK
      clear hK
      refine wpOp_want rfl rfl ?_
      go_simp
      have hb1 := below_alloc W (.cells #[.bool false, .slice none 0 0, .bool false, .slice none 0 0] 29)
      obtain ⟨hb, f0, f1, f2, f3, f4, f5, f6, f7, f8, f9, f10, f11, f12, f13, f14, f15, f16, f17, n15_16, n15_17, n16_17, c15, c16, c17⟩ := HJ.out
      exact HK.out _ _ ⟨Below.step hb hb1 (Nat.le_refl _), fun h => f0 (h.resolve_left (by decide)), fun h => f1 (h.resolve_left (by decide)), fun h => f2 (h.resolve_left (by decide)), fun h => f3 (h.resolve_left (by decide)), fun h => (stay4_rat ra).mono (f4 (h.resolve_left (by decide))) hb1, fun h => f5 (h.resolve_left (by decide)), fun h => f6 (h.resolve_left (by decide)), fun h => f7 (h.resolve_left (by decide)), fun h => f8 (h.resolve_left (by decide)), fun h => (stay4_rat rb).mono (f9 (h.resolve_left (by decide))) hb1, fun h => f10 (h.resolve_left (by decide)), fun h => f11 (h.resolve_left (by decide)), fun h => f12 (h.resolve_left (by decide)), fun h => f13 (h.resolve_left (by decide)), fun h => (stay4_rat rc).mono (f14 (h.resolve_left (by decide))) hb1, fun h => ((f15 (h.resolve_left (by decide))).mono (stay4_rat ra) hb1).congr ⟨fun h => .inr h, fun h => h.resolve_left (by decide)⟩, fun _ => Slot4.new W (fun h => hn (c16 (h.resolve_left (by decide)))) _ hb.size, fun h => ((f17 (h.resolve_left (by decide))).mono (stay4_rat rc) hb1).congr ⟨fun h => .inr h, fun h => h.resolve_left (by decide)⟩, fun h1 _ => (f15 (h1.resolve_left (by decide))).ne_new, fun h1 h2 => n15_17 (h1.resolve_left (by decide)) (h2.resolve_left (by decide)), fun _ h2 => (f17 (h2.resolve_left (by decide))).ne_new.symm, fun h => .inr (c15 (h.resolve_left (by decide))), fun _ => .inl (by decide), fun h => .inr (c17 (h.resolve_left (by decide)))⟩
    case s17 =>
      rintro L T W hd hn hJ K hK
      have HJ := Lib.hid hJ
      clear hJ
      have hb := HJ.out.1
      simp only [ovr, Act.put, List.setIfInBounds_toArray, List.set_cons_zero, List.set_cons_succ] at hK ⊢
      have HK := Lib.hid hK
      clear hK
      refine wpOp_want rfl rfl ?_
      go_simp
      have hb1 := below_alloc W (.cells #[.bool false, .slice none 0 0, .bool false, .slice none 0 0] 29)
      obtain ⟨hb, f0, f1, f2, f3, f4, f5, f6, f7, f8, f9, f10, f11, f12, f13, f14, f15, f16, f17, n15_16, n15_17, n16_17, c15, c16, c17⟩ := HJ.out
      exact HK.out _ _ ⟨Below.step hb hb1 (Nat.le_refl _), fun h => f0 (h.resolve_left (by decide)), fun h => f1 (h.resolve_left (by decide)), fun h => f2 (h.resolve_left (by decide)), fun h => f3 (h.resolve_left (by decide)), fun h => (stay4_rat ra).mono (f4 (h.resolve_left (by decide))) hb1, fun h => f5 (h.resolve_left (by decide)), fun h => f6 (h.resolve_left (by decide)), fun h => f7 (h.resolve_left (by decide)), fun h => f8 (h.resolve_left (by decide)), fun h => (stay4_rat rb).mono (f9 (h.resolve_left (by decide))) hb1, fun h => f10 (h.resolve_left (by decide)), fun h => f11 (h.resolve_left (by decide)), fun h => f12 (h.resolve_left (by decide)), fun h => f13 (h.resolve_left (by decide)), fun h => (stay4_rat rc).mono (f14 (h.resolve_left (by decide))) hb1, fun h => ((f15 (h.resolve_left (by decide))).mono (stay4_rat ra) hb1).congr ⟨fun h => .inr h, fun h => h.resolve_left (by decide)⟩, fun h => ((f16 (h.resolve_left (by decide))).mono (stay4_rat rb) hb1).congr ⟨fun h => .inr h, fun h => h.resolve_left (by decide)⟩, fun _ => Slot4.new W (fun h => hn (c17 (h.resolve_left (by decide)))) _ hb.size, fun h1 h2 => n15_16 (h1.resolve_left (by decide)) (h2.resolve_left (by decide)), fun h1 _ => (f15 (h1.resolve_left (by decide))).ne_new, fun h1 _ => (f16 (h1.resolve_left (by decide))).ne_new, fun h => .inr (c15 (h.resolve_left (by decide))), fun h => .inr (c16 (h.resolve_left (by decide))), fun _ => .inl (by decide)⟩
    case s18 =>
      rintro L T W hd hn hJ K hK
      have HJ := Lib.hid hJ
      clear hJ
      have hb := HJ.out.1
      have r4 := HJ.out.2.2.2.2.2.1 hd.2.1
      have r14 := HJ.out.2.2.2.2.2.2.2.2.2.2.2.2.2.2.2.1 hd.2.2.1
      have e0 := HJ.out.2.1 hd.2.2.2.1
      have e1 := HJ.out.2.2.1 hd.2.2.2.2.1
      have e2 := HJ.out.2.2.2.1 hd.2.2.2.2.2.1
      have e3 := HJ.out.2.2.2.2.1 hd.2.2.2.2.2.2.1
      have da := hd.1
      have hr := r4
      obtain ⟨m, em, hm1, hm2, hB⟩ := (HJ.out.2.2.2.2.2.2.2.2.2.2.2.2.2.2.2.2.1 da).open hn
      obtain ⟨ng, ao, nn, cap, ng2, ao2, nn2, cap2, ev⟩ := RatV.parts hr
      rw [ev] at hr
      obtain ⟨b0, b1, b2, b3, b4, b5, b6, b7⟩ := id hB
      simp only [ovr, Act.put, List.setIfInBounds_toArray, List.set_cons_zero, List.set_cons_succ, e0, e1, e2, e3, em, ev] at hK ⊢
      have HK := Lib.hid hK
      clear hK
      refine wpOp_want rfl rfl ?_
      go_simp
      obtain ⟨hb, f0, f1, f2, f3, f4, f5, f6, f7, f8, f9, f10, f11, f12, f13, f14, f15, f16, f17, n15_16, n15_17, n16_17, c15, c16, c17⟩ := HJ.out
      exact HK.out undef _ ⟨Below.put4 hb hm1 _ _ _ _, fun h => f0 (h.resolve_left (by decide)), fun h => f1 (h.resolve_left (by decide)), fun h => f2 (h.resolve_left (by decide)), fun h => f3 (h.resolve_left (by decide)), fun h => (stay4_rat ra).put (f4 (h.resolve_left (by decide))) hB, fun h => f5 (h.resolve_left (by decide)), fun h => f6 (h.resolve_left (by decide)), fun h => f7 (h.resolve_left (by decide)), fun h => f8 (h.resolve_left (by decide)), fun h => (stay4_rat rb).put (f9 (h.resolve_left (by decide))) hB, fun h => f10 (h.resolve_left (by decide)), fun h => f11 (h.resolve_left (by decide)), fun h => f12 (h.resolve_left (by decide)), fun h => f13 (h.resolve_left (by decide)), fun h => (stay4_rat rc).put (f14 (h.resolve_left (by decide))) hB, fun h => by show Slot4 _ _ _ _ (T 5); rw [em]; exact Slot4.stored (stay4_rat ra) hm1 hB (.inl (by decide)) hr, fun h => ((f16 (h.resolve_left (by decide))).other (stay4_rat rb) (by rw [← em]; exact (n15_16 da (h.resolve_left (by decide))).symm) hB).congr ⟨fun h => .inr h, fun h => h.resolve_left (by decide)⟩, fun h => ((f17 (h.resolve_left (by decide))).other (stay4_rat rc) (by rw [← em]; exact (n15_17 da (h.resolve_left (by decide))).symm) hB).congr ⟨fun h => .inr h, fun h => h.resolve_left (by decide)⟩, fun h1 h2 => n15_16 (h1.resolve_left (by decide)) (h2.resolve_left (by decide)), fun h1 h2 => n15_17 (h1.resolve_left (by decide)) (h2.resolve_left (by decide)), fun h1 h2 => n16_17 (h1.resolve_left (by decide)) (h2.resolve_left (by decide)), fun _ => .inr da, fun h => .inr (c16 (h.resolve_left (by decide))), fun h => .inr (c17 (h.resolve_left (by decide)))⟩
    case s19 =>
      rintro L T W hd hn hJ K hK
      have HJ := Lib.hid hJ
      clear hJ
      have hb := HJ.out.1
      have r9 := HJ.out.2.2.2.2.2.2.2.2.2.2.1 hd.2.1
      have e0 := HJ.out.2.1 hd.2.2.2.1
      have e1 := HJ.out.2.2.1 hd.2.2.2.2.1
      have e2 := HJ.out.2.2.2.1 hd.2.2.2.2.2.1
      have e3 := HJ.out.2.2.2.2.1 hd.2.2.2.2.2.2.1
      have r4 := HJ.out.2.2.2.2.2.1 hd.2.2.2.2.2.2.2.1
      have e5 := HJ.out.2.2.2.2.2.2.1 hd.2.2.2.2.2.2.2.2.1
      have e6 := HJ.out.2.2.2.2.2.2.2.1 hd.2.2.2.2.2.2.2.2.2.1
      have e7 := HJ.out.2.2.2.2.2.2.2.2.1 hd.2.2.2.2.2.2.2.2.2.2.1
      have e8 := HJ.out.2.2.2.2.2.2.2.2.2.1 hd.2.2.2.2.2.2.2.2.2.2.2.1
      have da := hd.1
      have hr := r9
      obtain ⟨m, em, hm1, hm2, hB⟩ := (HJ.out.2.2.2.2.2.2.2.2.2.2.2.2.2.2.2.2.2.1 da).open hn
      obtain ⟨ng, ao, nn, cap, ng2, ao2, nn2, cap2, ev⟩ := RatV.parts hr
      rw [ev] at hr
      obtain ⟨b0, b1, b2, b3, b4, b5, b6, b7⟩ := id hB
      simp only [ovr, Act.put, List.setIfInBounds_toArray, List.set_cons_zero, List.set_cons_succ, e0, e1, e2, e3, e5, e6, e7, e8, em, ev] at hK ⊢
      have HK := Lib.hid hK
      clear hK
      refine wpOp_want rfl rfl ?_
      go_simp
      obtain ⟨hb, f0, f1, f2, f3, f4, f5, f6, f7, f8, f9, f10, f11, f12, f13, f14, f15, f16, f17, n15_16, n15_17, n16_17, c15, c16, c17⟩ := HJ.out
      exact HK.out undef _ ⟨Below.put4 hb hm1 _ _ _ _, fun h => f0 (h.resolve_left (by decide)), fun h => f1 (h.resolve_left (by decide)), fun h => f2 (h.resolve_left (by decide)), fun h => f3 (h.resolve_left (by decide)), fun h => (stay4_rat ra).put (f4 (h.resolve_left (by decide))) hB, fun h => f5 (h.resolve_left (by decide)), fun h => f6 (h.resolve_left (by decide)), fun h => f7 (h.resolve_left (by decide)), fun h => f8 (h.resolve_left (by decide)), fun h => (stay4_rat rb).put (f9 (h.resolve_left (by decide))) hB, fun h => f10 (h.resolve_left (by decide)), fun h => f11 (h.resolve_left (by decide)), fun h => f12 (h.resolve_left (by decide)), fun h => f13 (h.resolve_left (by decide)), fun h => (stay4_rat rc).put (f14 (h.resolve_left (by decide))) hB, fun h => ((f15 (h.resolve_left (by decide))).other (stay4_rat ra) (by rw [← em]; exact n15_16 (h.resolve_left (by decide)) da) hB).congr ⟨fun h => .inr h, fun h => h.resolve_left (by decide)⟩, fun h => by show Slot4 _ _ _ _ (T 6); rw [em]; exact Slot4.stored (stay4_rat rb) hm1 hB (.inl (by decide)) hr, fun h => ((f17 (h.resolve_left (by decide))).other (stay4_rat rc) (by rw [← em]; exact (n16_17 da (h.resolve_left (by decide))).symm) hB).congr ⟨fun h => .inr h, fun h => h.resolve_left (by decide)⟩, fun h1 h2 => n15_16 (h1.resolve_left (by decide)) (h2.resolve_left (by decide)), fun h1 h2 => n15_17 (h1.resolve_left (by decide)) (h2.resolve_left (by decide)), fun h1 h2 => n16_17 (h1.resolve_left (by decide)) (h2.resolve_left (by decide)), fun h => .inr (c15 (h.resolve_left (by decide))), fun _ => .inr da, fun h => .inr (c17 (h.resolve_left (by decide)))⟩
    case s20 =>
      rintro L T W hd hn hJ K hK
      have HJ := Lib.hid hJ
      clear hJ
      have hb := HJ.out.1
      have r14 := HJ.out.2.2.2.2.2.2.2.2.2.2.2.2.2.2.2.1 hd.2.1
      have e0 := HJ.out.2.1 hd.2.2.2.1
      have e1 := HJ.out.2.2.1 hd.2.2.2.2.1
      have e2 := HJ.out.2.2.2.1 hd.2.2.2.2.2.1
      have e3 := HJ.out.2.2.2.2.1 hd.2.2.2.2.2.2.1
      have r4 := HJ.out.2.2.2.2.2.1 hd.2.2.2.2.2.2.2.1
      have e5 := HJ.out.2.2.2.2.2.2.1 hd.2.2.2.2.2.2.2.2.1
      have e6 := HJ.out.2.2.2.2.2.2.2.1 hd.2.2.2.2.2.2.2.2.2.1
      have e7 := HJ.out.2.2.2.2.2.2.2.2.1 hd.2.2.2.2.2.2.2.2.2.2.1
      have e8 := HJ.out.2.2.2.2.2.2.2.2.2.1 hd.2.2.2.2.2.2.2.2.2.2.2.1
      have r9 := HJ.out.2.2.2.2.2.2.2.2.2.2.1 hd.2.2.2.2.2.2.2.2.2.2.2.2.1
      have e10 := HJ.out.2.2.2.2.2.2.2.2.2.2.2.1 hd.2.2.2.2.2.2.2.2.2.2.2.2.2.1
      have e11 := HJ.out.2.2.2.2.2.2.2.2.2.2.2.2.1 hd.2.2.2.2.2.2.2.2.2.2.2.2.2.2.1
      have e12 := HJ.out.2.2.2.2.2.2.2.2.2.2.2.2.2.1 hd.2.2.2.2.2.2.2.2.2.2.2.2.2.2.2.1
      have e13 := HJ.out.2.2.2.2.2.2.2.2.2.2.2.2.2.2.1 hd.2.2.2.2.2.2.2.2.2.2.2.2.2.2.2.2.1
      have da := hd.1
      have hr := r14
      obtain ⟨m, em, hm1, hm2, hB⟩ := (HJ.out.2.2.2.2.2.2.2.2.2.2.2.2.2.2.2.2.2.2.1 da).open hn
      obtain ⟨ng, ao, nn, cap, ng2, ao2, nn2, cap2, ev⟩ := RatV.parts hr
      rw [ev] at hr
      obtain ⟨b0, b1, b2, b3, b4, b5, b6, b7⟩ := id hB
      simp only [ovr, Act.put, List.setIfInBounds_toArray, List.set_cons_zero, List.set_cons_succ, e0, e1, e2, e3, e5, e6, e7, e8, e10, e11, e12, e13, em, ev] at hK ⊢
      have HK := Lib.hid hK
      clear hK
      refine wpOp_want rfl rfl ?_
      go_simp
      obtain ⟨hb, f0, f1, f2, f3, f4, f5, f6, f7, f8, f9, f10, f11, f12, f13, f14, f15, f16, f17, n15_16, n15_17, n16_17, c15, c16, c17⟩ := HJ.out
      exact HK.out undef _ ⟨Below.put4 hb hm1 _ _ _ _, fun h => f0 (h.resolve_left (by decide)), fun h => f1 (h.resolve_left (by decide)), fun h => f2 (h.resolve_left (by decide)), fun h => f3 (h.resolve_left (by decide)), fun h => (stay4_rat ra).put (f4 (h.resolve_left (by decide))) hB, fun h => f5 (h.resolve_left (by decide)), fun h => f6 (h.resolve_left (by decide)), fun h => f7 (h.resolve_left (by decide)), fun h => f8 (h.resolve_left (by decide)), fun h => (stay4_rat rb).put (f9 (h.resolve_left (by decide))) hB, fun h => f10 (h.resolve_left (by decide)), fun h => f11 (h.resolve_left (by decide)), fun h => f12 (h.resolve_left (by decide)), fun h => f13 (h.resolve_left (by decide)), fun h => (stay4_rat rc).put (f14 (h.resolve_left (by decide))) hB, fun h => ((f15 (h.resolve_left (by decide))).other (stay4_rat ra) (by rw [← em]; exact n15_17 (h.resolve_left (by decide)) da) hB).congr ⟨fun h => .inr h, fun h => h.resolve_left (by decide)⟩, fun h => ((f16 (h.resolve_left (by decide))).other (stay4_rat rb) (by rw [← em]; exact n16_17 (h.resolve_left (by decide)) da) hB).congr ⟨fun h => .inr h, fun h => h.resolve_left (by decide)⟩, fun h => by show Slot4 _ _ _ _ (T 7); rw [em]; exact Slot4.stored (stay4_rat rc) hm1 hB (.inl (by decide)) hr, fun h1 h2 => n15_16 (h1.resolve_left (by decide)) (h2.resolve_left (by decide)), fun h1 h2 => n15_17 (h1.resolve_left (by decide)) (h2.resolve_left (by decide)), fun h1 h2 => n16_17 (h1.resolve_left (by decide)) (h2.resolve_left (by decide)), fun h => .inr (c15 (h.resolve_left (by decide))), fun h => .inr (c16 (h.resolve_left (by decide))), fun _ => .inr da⟩
    case he =>
      rintro T W ⟨hb, f0, f1, f2, f3, f4, f5, f6, f7, f8, f9, f10, f11, f12, f13, f14, f15, f16, f17, n15_16, n15_17, n16_17, c15, c16, c17⟩
      simp only [ovr, List.setIfInBounds_toArray, List.set_cons_zero, List.set_cons_succ]
      have r1 := (f15 (by decide)).boxR (by decide)
      have r2 := (f16 (by decide)).boxR (by decide)
      have r3 := (f17 (by decide)).boxR (by decide)
      go_wp2_with fail
      go_meet
      exact ⟨r1, r2, r3, hb⟩
  case rest =>
    obtain ⟨⟨g5, nga, aoa, na, capa, ngb, aob, nb, capb, rfl, hg5, X5, HVa, HVb⟩, ⟨g6, ngc, aoc, nc, capc, ngd, aod, nd, capd, rfl, hg6, X6, HVc, HVd⟩, ⟨g7, nge, aoe, ne, cape, ngf, aof, nf, capf, rfl, hg7, X7, HVe, HVf⟩, hb⟩ := hcut
    have hM := hM.mono hb
    have X1 := X1.mono hb
    have X2 := X2.mono hb
    have hE := hE.mono hb
    have hbw := Below.step hbw hb (Nat.le_refl _)
    clear hb
    have C1 : Hid (CrS ra rb) := Lib.hid (crS_of BA BB (by decide) (by decide))
    have C2 : Hid (CrS rb rc) := Lib.hid (crS_of BB BC (by decide) (by decide))
    have C3 : Hid (CrS ra rc) := Lib.hid (crS_of BA BC (by decide) (by decide))
    have C4 : Hid (SubS ra rb) := Lib.hid (addS_of BA BB (by decide) (by decide)).2
    obtain ⟨cX5_0, cX5_1, cX5_2, cX5_3, _, _, _, _⟩ := id X5
    obtain ⟨cX6_0, cX6_1, cX6_2, cX6_3, _, _, _, _⟩ := id X6
    go_wp2_with fail
    (with_reducible refine (Cmp_q _ _ ra rb wc (RatV.mk' HVa HVb) (RatV.mk' HVc HVd) C1 hE).mono ?_)
    rintro e v3 ⟨rfl, hb⟩
    have hM := hM.mono hb
    have X1 := X1.mono hb
    have X2 := X2.mono hb
    have X5 := X5.mono hb
    have X6 := X6.mono hb
    have X7 := X7.mono hb
    have HVa := Lib.hid (HVa.out.mono hb)
    have HVb := Lib.hid (HVb.out.mono hb)
    have HVc := Lib.hid (HVc.out.mono hb)
    have HVd := Lib.hid (HVd.out.mono hb)
    have HVe := Lib.hid (HVe.out.mono hb)
    have HVf := Lib.hid (HVf.out.mono hb)
    have hE := hE.mono hb
    have hbw := Below.step hbw hb (Nat.le_refl _)
    clear hb
    clear cX5_0 cX5_1 cX5_2 cX5_3 cX6_0 cX6_1 cX6_2 cX6_3
    obtain ⟨cX6_0, cX6_1, cX6_2, cX6_3, _, _, _, _⟩ := id X6
    obtain ⟨cX7_0, cX7_1, cX7_2, cX7_3, _, _, _, _⟩ := id X7
    go_wp2_with fail
    (with_reducible refine (Cmp_q _ _ rb rc v3 (RatV.mk' HVc HVd) (RatV.mk' HVe HVf) C2 hE).mono ?_)
    rintro e v4 ⟨rfl, hb⟩
    have hM := hM.mono hb
    have X1 := X1.mono hb
    have X2 := X2.mono hb
    have X5 := X5.mono hb
    have X6 := X6.mono hb
    have X7 := X7.mono hb
    have HVa := Lib.hid (HVa.out.mono hb)
    have HVb := Lib.hid (HVb.out.mono hb)
    have HVc := Lib.hid (HVc.out.mono hb)
    have HVd := Lib.hid (HVd.out.mono hb)
    have HVe := Lib.hid (HVe.out.mono hb)
    have HVf := Lib.hid (HVf.out.mono hb)
    have hE := hE.mono hb
    have hbw := Below.step hbw hb (Nat.le_refl _)
    clear hb
    clear cX6_0 cX6_1 cX6_2 cX6_3 cX7_0 cX7_1 cX7_2 cX7_3
    obtain ⟨cX5_0, cX5_1, cX5_2, cX5_3, _, _, _, _⟩ := id X5
    obtain ⟨cX7_0, cX7_1, cX7_2, cX7_3, _, _, _, _⟩ := id X7
    go_wp2_with fail
    (with_reducible refine (Cmp_q _ _ ra rc v4 (RatV.mk' HVa HVb) (RatV.mk' HVe HVf) C3 hE).mono ?_)
    rintro e v5 ⟨rfl, hb⟩
    have hM := hM.mono hb
    have X1 := X1.mono hb
    have X2 := X2.mono hb
    have X5 := X5.mono hb
    have X6 := X6.mono hb
    have X7 := X7.mono hb
    have HVa := Lib.hid (HVa.out.mono hb)
    have HVb := Lib.hid (HVb.out.mono hb)
    have HVc := Lib.hid (HVc.out.mono hb)
    have HVd := Lib.hid (HVd.out.mono hb)
    have HVe := Lib.hid (HVe.out.mono hb)
    have HVf := Lib.hid (HVf.out.mono hb)
    have hE := hE.mono hb
    have hbw := Below.step hbw hb (Nat.le_refl _)
    clear hb
    clear cX5_0 cX5_1 cX5_2 cX5_3 cX7_0 cX7_1 cX7_2 cX7_3
    obtain ⟨cX5_0, cX5_1, cX5_2, cX5_3, _, _, _, _⟩ := id X5
    obtain ⟨cX6_0, cX6_1, cX6_2, cX6_3, _, _, _, _⟩ := id X6
    go_wp2_with fail
    (with_reducible refine (Sub_q _ _ ra rb v5 (RatV.mk' HVa HVb) (RatV.mk' HVc HVd) C4 hE).mono ?_)
    rintro e v6 ⟨⟨ng1, ao1, n1, cap1, ng2, ao2, n2, cap2, rfl, HV1, HV2⟩, hb⟩
    have hM := hM.mono hb
    have X1 := X1.mono hb
    have X2 := X2.mono hb
    have X5 := X5.mono hb
    have X6 := X6.mono hb
    have X7 := X7.mono hb
    have HVa := Lib.hid (HVa.out.mono hb)
    have HVb := Lib.hid (HVb.out.mono hb)
    have HVc := Lib.hid (HVc.out.mono hb)
    have HVd := Lib.hid (HVd.out.mono hb)
    have HVe := Lib.hid (HVe.out.mono hb)
    have HVf := Lib.hid (HVf.out.mono hb)
    have hE := hE.mono hb
    have hbw := Below.step hbw hb (Nat.le_refl _)
    clear hb
    clear cX5_0 cX5_1 cX5_2 cX5_3 cX6_0 cX6_1 cX6_2 cX6_3
    go_upto_region 8 with fail
    have lX14X1 := X1.lt
    have lX14X2 := X2.lt
    have lX14X5 := X5.lt
    have lX14X6 := X6.lt
    have lX14X7 := X7.lt
    have X14 := Box4.new v6 (.bool ng1) (.slice ao1 n1 cap1) (.bool ng2) (.slice ao2 n2 cap2) 29
    have hb := below_alloc v6 (.cells #[.bool ng1, .slice ao1 n1 cap1, .bool ng2, .slice ao2 n2 cap2] 29)
    generalize v6.alloc (.cells #[.bool ng1, .slice ao1 n1 cap1, .bool ng2, .slice ao2 n2 cap2] 29) = v7 at *
    have hM := hM.mono hb
    have X1 := X1.mono hb
    have X2 := X2.mono hb
    have X5 := X5.mono hb
    have X6 := X6.mono hb
    have X7 := X7.mono hb
    have HVa := Lib.hid (HVa.out.mono hb)
    have HVb := Lib.hid (HVb.out.mono hb)
    have HVc := Lib.hid (HVc.out.mono hb)
    have HVd := Lib.hid (HVd.out.mono hb)
    have HVe := Lib.hid (HVe.out.mono hb)
    have HVf := Lib.hid (HVf.out.mono hb)
    have HV1 := Lib.hid (HV1.out.mono hb)
    have HV2 := Lib.hid (HV2.out.mono hb)
    have hE := hE.mono hb
    have hbw := Below.step hbw hb (Nat.le_refl _)
    clear hb
    have HSG : Hid (sgnI (ra - rb).num = Rq.cmpQ ra rb) := Lib.hid (Rq.cmp_sub ra rb).symm
    have htr := Rq.cmp_trans ra rb rc
    obtain ⟨x, hx⟩ : ∃ x, Rq.cmpQ ra rb = x := ⟨_, rfl⟩
    obtain ⟨y, hy⟩ : ∃ y, Rq.cmpQ rb rc = y := ⟨_, rfl⟩
    obtain ⟨z, hz⟩ : ∃ z, Rq.cmpQ ra rc = z := ⟨_, rfl⟩
    rw [hx] at HSG
    rw [hx, hy, hz] at htr
    have hxx : (x != x) = false := by simp
    rw [hx, hy, hz]
    clear hx hy hz
    obtain ⟨cX14_0, cX14_1, cX14_2, cX14_3, _, _, _, _⟩ := id X14
    go_wp2_with fail
    (with_reducible refine (rSign_eq _ (ra - rb).num x v7 HSG HV1.out).mono ?_)
    rintro e v8 ⟨rfl, hb⟩
    have hM := hM.mono hb
    have X1 := X1.mono hb
    have X2 := X2.mono hb
    have X5 := X5.mono hb
    have X6 := X6.mono hb
    have X7 := X7.mono hb
    have HVa := Lib.hid (HVa.out.mono hb)
    have HVb := Lib.hid (HVb.out.mono hb)
    have HVc := Lib.hid (HVc.out.mono hb)
    have HVd := Lib.hid (HVd.out.mono hb)
    have HVe := Lib.hid (HVe.out.mono hb)
    have HVf := Lib.hid (HVf.out.mono hb)
    have HV1 := Lib.hid (HV1.out.mono hb)
    have HV2 := Lib.hid (HV2.out.mono hb)
    have X14 := X14.mono hb
    have hE := hE.mono hb
    have hbw := Below.step hbw hb (Nat.le_refl _)
    clear hb
    clear cX14_0 cX14_1 cX14_2 cX14_3
    have hw : (0 < x) ∨ (decide (0 < x) = false ∧ 0 < y) ∨ (decide (0 < x) = false ∧ decide (0 < y) = false ∧ z ≤ 0 ∧ z < 0) ∨ (decide (0 < x) = false ∧ decide (0 < y) = false ∧ z ≤ 0 ∧ decide (z < 0) = false ∧ (x == 0) = true ∧ (y == 0) = true) := by
      simp only [decide_eq_false_iff_not, beq_iff_eq]
      omega
    clear htr hxx HSG
    rcases hw with h1 | ⟨h1, h2⟩ | ⟨h1, h2, h3, h4⟩ | ⟨h1, h2, h3, h4, h5, h6⟩
    all_goals
      go_wp2
      go_ret
      exact ⟨rfl, hbw⟩

set_option maxRecDepth 100000 in
set_option maxHeartbeats 12800000 in
theorem laws_lawQ (a0 a1 a2 b0 b1 b2 : Int) (w : World) (hl0 : -32768 ≤ a0) (hh0 : a0 ≤ 32767) (hm0 : 0 ≤ b0) (hk0 : b0 ≤ 255) (hl1 : -32768 ≤ a1) (hh1 : a1 ≤ 32767) (hm1 : 0 ≤ b1) (hk1 : b1 ≤ 255) (hl2 : -32768 ≤ a2) (hh2 : a2 ≤ 32767) (hm2 : 0 ≤ b2) (hk2 : b2 ≤ 255) (hE : Env w) (hM : MaxV w) :
    Calls Tryz.prog 8 #[.agg #[.int .i16 a0, .int .i16 a1, .int .i16 a2], .agg #[.int .u8 b0, .int .u8 b1, .int .u8 b2]] w fun e w' => e = .returned (.bool true) ∧ Below w.heap.size w w' := by
  obtain ⟨ra, ha⟩ : ∃ r, Rat.divInt a0 (b0 + 1) = r := ⟨_, rfl⟩
  obtain ⟨rb, hb⟩ : ∃ r, Rat.divInt a1 (b1 + 1) = r := ⟨_, rfl⟩
  obtain ⟨rc, hc⟩ : ∃ r, Rat.divInt a2 (b2 + 1) = r := ⟨_, rfl⟩
  have BA := small_bd ha hl0 hh0 hm0 hk0
  have BB := small_bd hb hl1 hh1 hm1 hk1
  have BC := small_bd hc hl2 hh2 hm2 hk2
  have HA := Lib.hid ha
  have HB := Lib.hid hb
  have HC := Lib.hid hc
  clear ha hb hc
  have hE0 := hE
  have hbw := Below.refl w.heap.size w
  go_enter Tryz.func8, Tryz.ntmps8
  go_upto_region 1 with fail
  obtain ⟨wx, hwx, hszx, X1, X2, hb⟩ := boxes_33 w (.int .i16 a0) (.int .i16 a1) (.int .i16 a2) 49 (.int .u8 b0) (.int .u8 b1) (.int .u8 b2) 50
  rw [← hwx]
  clear hwx
  obtain ⟨v1, rfl⟩ : ∃ v1 : World, v1 = wx := ⟨_, rfl⟩
  have hM := hM.mono hb
  have hE := hE.mono hb
  have hbw := Below.step hbw hb (Nat.le_refl _)
  clear hb
  go_wp2_with fail
  (with_reducible refine (awakeQ v1 hE hM).mono ?_)
  rintro e v2 ⟨rfl, hb⟩
  have hM := hM.mono hb
  have X1 := X1.mono hb
  have X2 := X2.mono hb
  have hE := hE.mono hb
  have hbw := Below.step hbw hb (Nat.le_refl _)
  clear hb
  go_upto_region 3 with fail
  obtain ⟨wy, rfl⟩ : ∃ wy : World, wy = v2 := ⟨_, rfl⟩
  go_cut [5, 6, 7] (fun s5 s6 s7 wc => BoxQ wc wy.heap.size s5 ra ∧ BoxQ wc wy.heap.size s6 rb ∧ BoxQ wc wy.heap.size s7 rc ∧ Below wy.heap.size wy wc)
  case first =>
    refine wp_region_flow (fun L T W => Below wy.heap.size wy W ∧ (L 0 → T 26 = .pointer (some ⟨w.heap.size, 0, none⟩)) ∧ (L 1 → T 27 = .int .i16 a0) ∧ (L 2 → T 28 = .pointer (some ⟨w.heap.size + 1, 0, none⟩)) ∧ (L 3 → T 29 = .int .u8 b0) ∧ (L 4 → (fun W v => RatV W v ra) W (T 30)) ∧ (L 5 → T 31 = .pointer (some ⟨w.heap.size, 1, none⟩)) ∧ (L 6 → T 32 = .int .i16 a1) ∧ (L 7 → T 33 = .pointer (some ⟨w.heap.size + 1, 1, none⟩)) ∧ (L 8 → T 34 = .int .u8 b1) ∧ (L 9 → (fun W v => RatV W v rb) W (T 35)) ∧ (L 10 → T 36 = .pointer (some ⟨w.heap.size, 2, none⟩)) ∧ (L 11 → T 37 = .int .i16 a2) ∧ (L 12 → T 38 = .pointer (some ⟨w.heap.size + 1, 2, none⟩)) ∧ (L 13 → T 39 = .int .u8 b2) ∧ (L 14 → (fun W v => RatV W v rc) W (T 40)) ∧ (L 15 → Slot4 W wy.heap.size (fun W v => RatV W v ra) (L 18) (T 5)) ∧ (L 16 → Slot4 W wy.heap.size (fun W v => RatV W v rb) (L 19) (T 6)) ∧ (L 17 → Slot4 W wy.heap.size (fun W v => RatV W v rc) (L 20) (T 7)) ∧ (L 15 → L 16 → T 5 ≠ T 6) ∧ (L 15 → L 17 → T 5 ≠ T 7) ∧ (L 16 → L 17 → T 6 ≠ T 7) ∧ (L 18 → L 15) ∧ (L 19 → L 16) ∧ (L 20 → L 17)) [26, 27, 28, 29, 30, 31, 32, 33, 34, 35, 36, 37, 38, 39, 40, 5, 6, 7] (by kernel_rfl) (by kernel_rfl) (by kernel_rfl) ?h0 ⟨?s0, ?s1, ?s2, ?s3, ?s4, ?s5, ?s6, ?s7, ?s8, ?s9, ?s10, ?s11, ?s12, ?s13, ?s14, ?s15, ?s16, ?s17, ?s18, ?s19, ?s20, trivial⟩ ?he ?hm
    case h0 => exact fun T => ⟨(Below.refl _ _).drew, fun h => h.elim, fun h => h.elim, fun h => h.elim, fun h => h.elim, fun h => h.elim, fun h => h.elim, fun h => h.elim, fun h => h.elim, fun h => h.elim, fun h => h.elim, fun h => h.elim, fun h => h.elim, fun h => h.elim, fun h => h.elim, fun h => h.elim, fun h => h.elim, fun h => h.elim, fun h => h.elim, fun h => h.elim, fun h => h.elim, fun h => h.elim, fun h => h.elim, fun h => h.elim, fun h => h.elim⟩
    case hm =>
      rintro L T W hL ⟨hb, f0, f1, f2, f3, f4, f5, f6, f7, f8, f9, f10, f11, f12, f13, f14, f15, f16, f17, n15_16, n15_17, n16_17, c15, c16, c17⟩
      exact ⟨hb, fun _ => f0 (hL _ (by decide)), fun _ => f1 (hL _ (by decide)), fun _ => f2 (hL _ (by decide)), fun _ => f3 (hL _ (by decide)), fun _ => f4 (hL _ (by decide)), fun _ => f5 (hL _ (by decide)), fun _ => f6 (hL _ (by decide)), fun _ => f7 (hL _ (by decide)), fun _ => f8 (hL _ (by decide)), fun _ => f9 (hL _ (by decide)), fun _ => f10 (hL _ (by decide)), fun _ => f11 (hL _ (by decide)), fun _ => f12 (hL _ (by decide)), fun _ => f13 (hL _ (by decide)), fun _ => f14 (hL _ (by decide)), fun _ => (f15 (hL _ (by decide))).congr ⟨fun _ => by decide, fun _ => hL _ (by decide)⟩, fun _ => (f16 (hL _ (by decide))).congr ⟨fun _ => by decide, fun _ => hL _ (by decide)⟩, fun _ => (f17 (hL _ (by decide))).congr ⟨fun _ => by decide, fun _ => hL _ (by decide)⟩, fun _ _ => n15_16 (hL _ (by decide)) (hL _ (by decide)), fun _ _ => n15_17 (hL _ (by decide)) (hL _ (by decide)), fun _ _ => n16_17 (hL _ (by decide)) (hL _ (by decide)), fun _ => by decide, fun _ => by decide, fun _ => by decide⟩
    case s0 =>
      rintro L T W hd hn hJ K hK
      have HJ := Lib.hid hJ
      clear hJ
      have hb := HJ.out.1
      simp only [ovr, Act.put, List.setIfInBounds_toArray, List.set_cons_zero, List.set_cons_succ] at hK ⊢
      have HK := Lib.hid hK
      clear hK
      refine wpOp_want rfl rfl ?_
      go_simp
      obtain ⟨hb, f0, f1, f2, f3, f4, f5, f6, f7, f8, f9, f10, f11, f12, f13, f14, f15, f16, f17, n15_16, n15_17, n16_17, c15, c16, c17⟩ := HJ.out
      exact HK.out _ _ ⟨hb, fun _ => rfl, fun h => f1 (h.resolve_left (by decide)), fun h => f2 (h.resolve_left (by decide)), fun h => f3 (h.resolve_left (by decide)), fun h => f4 (h.resolve_left (by decide)), fun h => f5 (h.resolve_left (by decide)), fun h => f6 (h.resolve_left (by decide)), fun h => f7 (h.resolve_left (by decide)), fun h => f8 (h.resolve_left (by decide)), fun h => f9 (h.resolve_left (by decide)), fun h => f10 (h.resolve_left (by decide)), fun h => f11 (h.resolve_left (by decide)), fun h => f12 (h.resolve_left (by decide)), fun h => f13 (h.resolve_left (by decide)), fun h => f14 (h.resolve_left (by decide)), fun h => ((f15 (h.resolve_left (by decide)))).congr ⟨fun h => .inr h, fun h => h.resolve_left (by decide)⟩, fun h => ((f16 (h.resolve_left (by decide)))).congr ⟨fun h => .inr h, fun h => h.resolve_left (by decide)⟩, fun h => ((f17 (h.resolve_left (by decide)))).congr ⟨fun h => .inr h, fun h => h.resolve_left (by decide)⟩, fun h1 h2 => n15_16 (h1.resolve_left (by decide)) (h2.resolve_left (by decide)), fun h1 h2 => n15_17 (h1.resolve_left (by decide)) (h2.resolve_left (by decide)), fun h1 h2 => n16_17 (h1.resolve_left (by decide)) (h2.resolve_left (by decide)), fun h => .inr (c15 (h.resolve_left (by decide))), fun h => .inr (c16 (h.resolve_left (by decide))), fun h => .inr (c17 (h.resolve_left (by decide)))⟩
    case s1 =>
      rintro L T W hd hn hJ K hK
      have HJ := Lib.hid hJ
      clear hJ
      have hb := HJ.out.1
      have e0 := HJ.out.2.1 hd.1
      simp only [ovr, Act.put, List.setIfInBounds_toArray, List.set_cons_zero, List.set_cons_succ, e0] at hK ⊢
      have HK := Lib.hid hK
      clear hK
      obtain ⟨c0, c1, c2, c3, c4, c5⟩ := (fun W => S33 (W := W) X1 X2) W hb
      refine wpOp_want rfl rfl ?_
      go_simp
      obtain ⟨hb, f0, f1, f2, f3, f4, f5, f6, f7, f8, f9, f10, f11, f12, f13, f14, f15, f16, f17, n15_16, n15_17, n16_17, c15, c16, c17⟩ := HJ.out
      exact HK.out _ _ ⟨hb, fun h => f0 (h.resolve_left (by decide)), fun _ => rfl, fun h => f2 (h.resolve_left (by decide)), fun h => f3 (h.resolve_left (by decide)), fun h => f4 (h.resolve_left (by decide)), fun h => f5 (h.resolve_left (by decide)), fun h => f6 (h.resolve_left (by decide)), fun h => f7 (h.resolve_left (by decide)), fun h => f8 (h.resolve_left (by decide)), fun h => f9 (h.resolve_left (by decide)), fun h => f10 (h.resolve_left (by decide)), fun h => f11 (h.resolve_left (by decide)), fun h => f12 (h.resolve_left (by decide)), fun h => f13 (h.resolve_left (by decide)), fun h => f14 (h.resolve_left (by decide)), fun h => ((f15 (h.resolve_left (by decide)))).congr ⟨fun h => .inr h, fun h => h.resolve_left (by decide)⟩, fun h => ((f16 (h.resolve_left (by decide)))).congr ⟨fun h => .inr h, fun h => h.resolve_left (by decide)⟩, fun h => ((f17 (h.resolve_left (by decide)))).congr ⟨fun h => .inr h, fun h => h.resolve_left (by decide)⟩, fun h1 h2 => n15_16 (h1.resolve_left (by decide)) (h2.resolve_left (by decide)), fun h1 h2 => n15_17 (h1.resolve_left (by decide)) (h2.resolve_left (by decide)), fun h1 h2 => n16_17 (h1.resolve_left (by decide)) (h2.resolve_left (by decide)), fun h => .inr (c15 (h.resolve_left (by decide))), fun h => .inr (c16 (h.resolve_left (by decide))), fun h => .inr (c17 (h.resolve_left (by decide)))⟩
    case s2 =>
      rintro L T W hd hn hJ K hK
      have HJ := Lib.hid hJ
      clear hJ
      have hb := HJ.out.1
      simp only [ovr, Act.put, List.setIfInBounds_toArray, List.set_cons_zero, List.set_cons_succ] at hK ⊢
      have HK := Lib.hid hK
      clear hK
      refine wpOp_want rfl rfl ?_
      go_simp
      obtain ⟨hb, f0, f1, f2, f3, f4, f5, f6, f7, f8, f9, f10, f11, f12, f13, f14, f15, f16, f17, n15_16, n15_17, n16_17, c15, c16, c17⟩ := HJ.out
      exact HK.out _ _ ⟨hb, fun h => f0 (h.resolve_left (by decide)), fun h => f1 (h.resolve_left (by decide)), fun _ => rfl, fun h => f3 (h.resolve_left (by decide)), fun h => f4 (h.resolve_left (by decide)), fun h => f5 (h.resolve_left (by decide)), fun h => f6 (h.resolve_left (by decide)), fun h => f7 (h.resolve_left (by decide)), fun h => f8 (h.resolve_left (by decide)), fun h => f9 (h.resolve_left (by decide)), fun h => f10 (h.resolve_left (by decide)), fun h => f11 (h.resolve_left (by decide)), fun h => f12 (h.resolve_left (by decide)), fun h => f13 (h.resolve_left (by decide)), fun h => f14 (h.resolve_left (by decide)), fun h => ((f15 (h.resolve_left (by decide)))).congr ⟨fun h => .inr h, fun h => h.resolve_left (by decide)⟩, fun h => ((f16 (h.resolve_left (by decide)))).congr ⟨fun h => .inr h, fun h => h.resolve_left (by decide)⟩, fun h => ((f17 (h.resolve_left (by decide)))).congr ⟨fun h => .inr h, fun h => h.resolve_left (by decide)⟩, fun h1 h2 => n15_16 (h1.resolve_left (by decide)) (h2.resolve_left (by decide)), fun h1 h2 => n15_17 (h1.resolve_left (by decide)) (h2.resolve_left (by decide)), fun h1 h2 => n16_17 (h1.resolve_left (by decide)) (h2.resolve_left (by decide)), fun h => .inr (c15 (h.resolve_left (by decide))), fun h => .inr (c16 (h.resolve_left (by decide))), fun h => .inr (c17 (h.resolve_left (by decide)))⟩
    case s3 =>
      rintro L T W hd hn hJ K hK
      have HJ := Lib.hid hJ
      clear hJ
      have hb := HJ.out.1
      have e2 := HJ.out.2.2.2.1 hd.1
      simp only [ovr, Act.put, List.setIfInBounds_toArray, List.set_cons_zero, List.set_cons_succ, e2] at hK ⊢
      have HK := Lib.hid hK
      clear hK
      obtain ⟨c0, c1, c2, c3, c4, c5⟩ := (fun W => S33 (W := W) X1 X2) W hb
      refine wpOp_want rfl rfl ?_
      go_simp
      obtain ⟨hb, f0, f1, f2, f3, f4, f5, f6, f7, f8, f9, f10, f11, f12, f13, f14, f15, f16, f17, n15_16, n15_17, n16_17, c15, c16, c17⟩ := HJ.out
      exact HK.out _ _ ⟨hb, fun h => f0 (h.resolve_left (by decide)), fun h => f1 (h.resolve_left (by decide)), fun h => f2 (h.resolve_left (by decide)), fun _ => rfl, fun h => f4 (h.resolve_left (by decide)), fun h => f5 (h.resolve_left (by decide)), fun h => f6 (h.resolve_left (by decide)), fun h => f7 (h.resolve_left (by decide)), fun h => f8 (h.resolve_left (by decide)), fun h => f9 (h.resolve_left (by decide)), fun h => f10 (h.resolve_left (by decide)), fun h => f11 (h.resolve_left (by decide)), fun h => f12 (h.resolve_left (by decide)), fun h => f13 (h.resolve_left (by decide)), fun h => f14 (h.resolve_left (by decide)), fun h => ((f15 (h.resolve_left (by decide)))).congr ⟨fun h => .inr h, fun h => h.resolve_left (by decide)⟩, fun h => ((f16 (h.resolve_left (by decide)))).congr ⟨fun h => .inr h, fun h => h.resolve_left (by decide)⟩, fun h => ((f17 (h.resolve_left (by decide)))).congr ⟨fun h => .inr h, fun h => h.resolve_left (by decide)⟩, fun h1 h2 => n15_16 (h1.resolve_left (by decide)) (h2.resolve_left (by decide)), fun h1 h2 => n15_17 (h1.resolve_left (by decide)) (h2.resolve_left (by decide)), fun h1 h2 => n16_17 (h1.resolve_left (by decide)) (h2.resolve_left (by decide)), fun h => .inr (c15 (h.resolve_left (by decide))), fun h => .inr (c16 (h.resolve_left (by decide))), fun h => .inr (c17 (h.resolve_left (by decide)))⟩
    case s4 =>
      rintro L T W hd hn hJ K hK
      have HJ := Lib.hid hJ
      clear hJ
      have hb := HJ.out.1
      have e1 := HJ.out.2.2.1 hd.1
      have e3 := HJ.out.2.2.2.2.1 hd.2.1
      simp only [ovr, Act.put, List.setIfInBounds_toArray, List.set_cons_zero, List.set_cons_succ, e1, e3] at hK ⊢
      have HK := Lib.hid hK
      clear hK
      refine wpOp_want rfl rfl ?_
      go_simp
      (with_reducible refine (small_eq a0 b0 ra _ HA hl0 hh0 hm0 hk0 (hE.mono hb)).mono ?_)
      rintro e w1 ⟨⟨nga, aoa, na, capa, ngb, aob, nb, capb, rfl, HVa, HVb⟩, hb1⟩
      have hr : RatV w1 (.agg #[.bool nga, .slice aoa na capa, .bool ngb, .slice aob nb capb]) ra := RatV.mk' HVa HVb
      dsimp only
      obtain ⟨hb, f0, f1, f2, f3, f4, f5, f6, f7, f8, f9, f10, f11, f12, f13, f14, f15, f16, f17, n15_16, n15_17, n16_17, c15, c16, c17⟩ := HJ.out
      exact HK.out _ _ ⟨Below.step hb hb1 (Nat.le_refl _), fun h => f0 (h.resolve_left (by decide)), fun h => f1 (h.resolve_left (by decide)), fun h => f2 (h.resolve_left (by decide)), fun h => f3 (h.resolve_left (by decide)), fun _ => hr, fun h => f5 (h.resolve_left (by decide)), fun h => f6 (h.resolve_left (by decide)), fun h => f7 (h.resolve_left (by decide)), fun h => f8 (h.resolve_left (by decide)), fun h => (stay4_rat rb).mono (f9 (h.resolve_left (by decide))) hb1, fun h => f10 (h.resolve_left (by decide)), fun h => f11 (h.resolve_left (by decide)), fun h => f12 (h.resolve_left (by decide)), fun h => f13 (h.resolve_left (by decide)), fun h => (stay4_rat rc).mono (f14 (h.resolve_left (by decide))) hb1, fun h => ((f15 (h.resolve_left (by decide))).mono (stay4_rat ra) hb1).congr ⟨fun h => .inr h, fun h => h.resolve_left (by decide)⟩, fun h => ((f16 (h.resolve_left (by decide))).mono (stay4_rat rb) hb1).congr ⟨fun h => .inr h, fun h => h.resolve_left (by decide)⟩, fun h => ((f17 (h.resolve_left (by decide))).mono (stay4_rat rc) hb1).congr ⟨fun h => .inr h, fun h => h.resolve_left (by decide)⟩, fun h1 h2 => n15_16 (h1.resolve_left (by decide)) (h2.resolve_left (by decide)), fun h1 h2 => n15_17 (h1.resolve_left (by decide)) (h2.resolve_left (by decide)), fun h1 h2 => n16_17 (h1.resolve_left (by decide)) (h2.resolve_left (by decide)), fun h => .inr (c15 (h.resolve_left (by decide))), fun h => .inr (c16 (h.resolve_left (by decide))), fun h => .inr (c17 (h.resolve_left (by decide)))⟩
    case s5 =>
      rintro L T W hd hn hJ K hK
      have HJ := Lib.hid hJ
      clear hJ
      have hb := HJ.out.1
      simp only [ovr, Act.put, List.setIfInBounds_toArray, List.set_cons_zero, List.set_cons_succ] at hK ⊢
      have HK := Lib.hid hK
      clear hK
      refine wpOp_want rfl rfl ?_
      go_simp
      obtain ⟨hb, f0, f1, f2, f3, f4, f5, f6, f7, f8, f9, f10, f11, f12, f13, f14, f15, f16, f17, n15_16, n15_17, n16_17, c15, c16, c17⟩ := HJ.out
      exact HK.out _ _ ⟨hb, fun h => f0 (h.resolve_left (by decide)), fun h => f1 (h.resolve_left (by decide)), fun h => f2 (h.resolve_left (by decide)), fun h => f3 (h.resolve_left (by decide)), fun h => f4 (h.resolve_left (by decide)), fun _ => rfl, fun h => f6 (h.resolve_left (by decide)), fun h => f7 (h.resolve_left (by decide)), fun h => f8 (h.resolve_left (by decide)), fun h => f9 (h.resolve_left (by decide)), fun h => f10 (h.resolve_left (by decide)), fun h => f11 (h.resolve_left (by decide)), fun h => f12 (h.resolve_left (by decide)), fun h => f13 (h.resolve_left (by decide)), fun h => f14 (h.resolve_left (by decide)), fun h => ((f15 (h.resolve_left (by decide)))).congr ⟨fun h => .inr h, fun h => h.resolve_left (by decide)⟩, fun h => ((f16 (h.resolve_left (by decide)))).congr ⟨fun h => .inr h, fun h => h.resolve_left (by decide)⟩, fun h => ((f17 (h.resolve_left (by decide)))).congr ⟨fun h => .inr h, fun h => h.resolve_left (by decide)⟩, fun h1 h2 => n15_16 (h1.resolve_left (by decide)) (h2.resolve_left (by decide)), fun h1 h2 => n15_17 (h1.resolve_left (by decide)) (h2.resolve_left (by decide)), fun h1 h2 => n16_17 (h1.resolve_left (by decide)) (h2.resolve_left (by decide)), fun h => .inr (c15 (h.resolve_left (by decide))), fun h => .inr (c16 (h.resolve_left (by decide))), fun h => .inr (c17 (h.resolve_left (by decide)))⟩
    case s6 =>
      rintro L T W hd hn hJ K hK
      have HJ := Lib.hid hJ
      clear hJ
      have hb := HJ.out.1
      have e5 := HJ.out.2.2.2.2.2.2.1 hd.1
      simp only [ovr, Act.put, List.setIfInBounds_toArray, List.set_cons_zero, List.set_cons_succ, e5] at hK ⊢
      have HK := Lib.hid hK
      clear hK
      obtain ⟨c0, c1, c2, c3, c4, c5⟩ := (fun W => S33 (W := W) X1 X2) W hb
      refine wpOp_want rfl rfl ?_
      go_simp
      obtain ⟨hb, f0, f1, f2, f3, f4, f5, f6, f7, f8, f9, f10, f11, f12, f13, f14, f15, f16, f17, n15_16, n15_17, n16_17, c15, c16, c17⟩ := HJ.out
      exact HK.out _ _ ⟨hb, fun h => f0 (h.resolve_left (by decide)), fun h => f1 (h.resolve_left (by decide)), fun h => f2 (h.resolve_left (by decide)), fun h => f3 (h.resolve_left (by decide)), fun h => f4 (h.resolve_left (by decide)), fun h => f5 (h.resolve_left (by decide)), fun _ => rfl, fun h => f7 (h.resolve_left (by decide)), fun h => f8 (h.resolve_left (by decide)), fun h => f9 (h.resolve_left (by decide)), fun h => f10 (h.resolve_left (by decide)), fun h => f11 (h.resolve_left (by decide)), fun h => f12 (h.resolve_left (by decide)), fun h => f13 (h.resolve_left (by decide)), fun h => f14 (h.resolve_left (by decide)), fun h => ((f15 (h.resolve_left (by decide)))).congr ⟨fun h => .inr h, fun h => h.resolve_left (by decide)⟩, fun h => ((f16 (h.resolve_left (by decide)))).congr ⟨fun h => .inr h, fun h => h.resolve_left (by decide)⟩, fun h => ((f17 (h.resolve_left (by decide)))).congr ⟨fun h => .inr h, fun h => h.resolve_left (by decide)⟩, fun h1 h2 => n15_16 (h1.resolve_left (by decide)) (h2.resolve_left (by decide)), fun h1 h2 => n15_17 (h1.resolve_left (by decide)) (h2.resolve_left (by decide)), fun h1 h2 => n16_17 (h1.resolve_left (by decide)) (h2.resolve_left (by decide)), fun h => .inr (c15 (h.resolve_left (by decide))), fun h => .inr (c16 (h.resolve_left (by decide))), fun h => .inr (c17 (h.resolve_left (by decide)))⟩
    case s7 =>
      rintro L T W hd hn hJ K hK
      have HJ := Lib.hid hJ
      clear hJ
      have hb := HJ.out.1
      simp only [ovr, Act.put, List.setIfInBounds_toArray, List.set_cons_zero, List.set_cons_succ] at hK ⊢
      have HK := Lib.hid hK
      clear hK
      refine wpOp_want rfl rfl ?_
      go_simp
      obtain ⟨hb, f0, f1, f2, f3, f4, f5, f6, f7, f8, f9, f10, f11, f12, f13, f14, f15, f16, f17, n15_16, n15_17, n16_17, c15, c16, c17⟩ := HJ.out
      exact HK.out _ _ ⟨hb, fun h => f0 (h.resolve_left (by decide)), fun h => f1 (h.resolve_left (by decide)), fun h => f2 (h.resolve_left (by decide)), fun h => f3 (h.resolve_left (by decide)), fun h => f4 (h.resolve_left (by decide)), fun h => f5 (h.resolve_left (by decide)), fun h => f6 (h.resolve_left (by decide)), fun _ => rfl, fun h => f8 (h.resolve_left (by decide)), fun h => f9 (h.resolve_left (by decide)), fun h => f10 (h.resolve_left (by decide)), fun h => f11 (h.resolve_left (by decide)), fun h => f12 (h.resolve_left (by decide)), fun h => f13 (h.resolve_left (by decide)), fun h => f14 (h.resolve_left (by decide)), fun h => ((f15 (h.resolve_left (by decide)))).congr ⟨fun h => .inr h, fun h => h.resolve_left (by decide)⟩, fun h => ((f16 (h.resolve_left (by decide)))).congr ⟨fun h => .inr h, fun h => h.resolve_left (by decide)⟩, fun h => ((f17 (h.resolve_left (by decide)))).congr ⟨fun h => .inr h, fun h => h.resolve_left (by decide)⟩, fun h1 h2 => n15_16 (h1.resolve_left (by decide)) (h2.resolve_left (by decide)), fun h1 h2 => n15_17 (h1.resolve_left (by decide)) (h2.resolve_left (by decide)), fun h1 h2 => n16_17 (h1.resolve_left (by decide)) (h2.resolve_left (by decide)), fun h => .inr (c15 (h.resolve_left (by decide))), fun h => .inr (c16 (h.resolve_left (by decide))), fun h => .inr (c17 (h.resolve_left (by decide)))⟩
    case s8 =>
      rintro L T W hd hn hJ K hK
      have HJ := Lib.hid hJ
      clear hJ
      have hb := HJ.out.1
      have e7 := HJ.out.2.2.2.2.2.2.2.2.1 hd.1
      simp only [ovr, Act.put, List.setIfInBounds_toArray, List.set_cons_zero, List.set_cons_succ, e7] at hK ⊢
      have HK := Lib.hid hK
      clear hK
      obtain ⟨c0, c1, c2, c3, c4, c5⟩ := (fun W => S33 (W := W) X1 X2) W hb
      refine wpOp_want rfl rfl ?_
      go_simp
      obtain ⟨hb, f0, f1, f2, f3, f4, f5, f6, f7, f8, f9, f10, f11, f12, f13, f14, f15, f16, f17, n15_16, n15_17, n16_17, c15, c16, c17⟩ := HJ.out
      exact HK.out _ _ ⟨hb, fun h => f0 (h.resolve_left (by decide)), fun h => f1 (h.resolve_left (by decide)), fun h => f2 (h.resolve_left (by decide)), fun h => f3 (h.resolve_left (by decide)), fun h => f4 (h.resolve_left (by decide)), fun h => f5 (h.resolve_left (by decide)), fun h => f6 (h.resolve_left (by decide)), fun h => f7 (h.resolve_left (by decide)), fun _ => rfl, fun h => f9 (h.resolve_left (by decide)), fun h => f10 (h.resolve_left (by decide)), fun h => f11 (h.resolve_left (by decide)), fun h => f12 (h.resolve_left (by decide)), fun h => f13 (h.resolve_left (by decide)), fun h => f14 (h.resolve_left (by decide)), fun h => ((f15 (h.resolve_left (by decide)))).congr ⟨fun h => .inr h, fun h => h.resolve_left (by decide)⟩, fun h => ((f16 (h.resolve_left (by decide)))).congr ⟨fun h => .inr h, fun h => h.resolve_left (by decide)⟩, fun h => ((f17 (h.resolve_left (by decide)))).congr ⟨fun h => .inr h, fun h => h.resolve_left (by decide)⟩, fun h1 h2 => n15_16 (h1.resolve_left (by decide)) (h2.resolve_left (by decide)), fun h1 h2 => n15_17 (h1.resolve_left (by decide)) (h2.resolve_left (by decide)), fun h1 h2 => n16_17 (h1.resolve_left (by decide)) (h2.resolve_left (by decide)), fun h => .inr (c15 (h.resolve_left (by decide))), fun h => .inr (c16 (h.resolve_left (by decide))), fun h => .inr (c17 (h.resolve_left (by decide)))⟩
    case s9 =>
      rintro L T W hd hn hJ K hK
      have HJ := Lib.hid hJ
      clear hJ
      have hb := HJ.out.1
      have e6 := HJ.out.2.2.2.2.2.2.2.1 hd.1
      have e8 := HJ.out.2.2.2.2.2.2.2.2.2.1 hd.2.1
      have r4 := HJ.out.2.2.2.2.2.1 hd.2.2.1
      simp only [ovr, Act.put, List.setIfInBounds_toArray, List.set_cons_zero, List.set_cons_succ, e6, e8] at hK ⊢
      have HK := Lib.hid hK
      clear hK
      refine wpOp_want rfl rfl ?_
      go_simp
      (with_reducible refine (small_eq a1 b1 rb _ HB hl1 hh1 hm1 hk1 (hE.mono hb)).mono ?_)
      rintro e w1 ⟨⟨nga, aoa, na, capa, ngb, aob, nb, capb, rfl, HVa, HVb⟩, hb1⟩
      have hr : RatV w1 (.agg #[.bool nga, .slice aoa na capa, .bool ngb, .slice aob nb capb]) rb := RatV.mk' HVa HVb
      dsimp only
      obtain ⟨hb, f0, f1, f2, f3, f4, f5, f6, f7, f8, f9, f10, f11, f12, f13, f14, f15, f16, f17, n15_16, n15_17, n16_17, c15, c16, c17⟩ := HJ.out
      exact HK.out _ _ ⟨Below.step hb hb1 (Nat.le_refl _), fun h => f0 (h.resolve_left (by decide)), fun h => f1 (h.resolve_left (by decide)), fun h => f2 (h.resolve_left (by decide)), fun h => f3 (h.resolve_left (by decide)), fun h => (stay4_rat ra).mono (f4 (h.resolve_left (by decide))) hb1, fun h => f5 (h.resolve_left (by decide)), fun h => f6 (h.resolve_left (by decide)), fun h => f7 (h.resolve_left (by decide)), fun h => f8 (h.resolve_left (by decide)), fun _ => hr, fun h => f10 (h.resolve_left (by decide)), fun h => f11 (h.resolve_left (by decide)), fun h => f12 (h.resolve_left (by decide)), fun h => f13 (h.resolve_left (by decide)), fun h => (stay4_rat rc).mono (f14 (h.resolve_left (by decide))) hb1, fun h => ((f15 (h.resolve_left (by decide))).mono (stay4_rat ra) hb1).congr ⟨fun h => .inr h, fun h => h.resolve_left (by decide)⟩, fun h => ((f16 (h.resolve_left (by decide))).mono (stay4_rat rb) hb1).congr ⟨fun h => .inr h, fun h => h.resolve_left (by decide)⟩, fun h => ((f17 (h.resolve_left (by decide))).mono (stay4_rat rc) hb1).congr ⟨fun h => .inr h, fun h => h.resolve_left (by decide)⟩, fun h1 h2 => n15_16 (h1.resolve_left (by decide)) (h2.resolve_left (by decide)), fun h1 h2 => n15_17 (h1.resolve_left (by decide)) (h2.resolve_left (by decide)), fun h1 h2 => n16_17 (h1.resolve_left (by decide)) (h2.resolve_left (by decide)), fun h => .inr (c15 (h.resolve_left (by decide))), fun h => .inr (c16 (h.resolve_left (by decide))), fun h => .inr (c17 (h.resolve_left (by decide)))⟩
    case s10 =>
      rintro L T W hd hn hJ K hK
      have HJ := Lib.hid hJ
      clear hJ
      have hb := HJ.out.1
      simp only [ovr, Act.put, List.setIfInBounds_toArray, List.set_cons_zero, List.set_cons_succ] at hK ⊢
      have HK := Lib.hid hK
      clear hK
      refine wpOp_want rfl rfl ?_
      go_simp
      obtain ⟨hb, f0, f1, f2, f3, f4, f5, f6, f7, f8, f9, f10, f11, f12, f13, f14, f15, f16, f17, n15_16, n15_17, n16_17, c15, c16, c17⟩ := HJ.out
      exact HK.out _ _ ⟨hb, fun h => f0 (h.resolve_left (by decide)), fun h => f1 (h.resolve_left (by decide)), fun h => f2 (h.resolve_left (by decide)), fun h => f3 (h.resolve_left (by decide)), fun h => f4 (h.resolve_left (by decide)), fun h => f5 (h.resolve_left (by decide)), fun h => f6 (h.resolve_left (by decide)), fun h => f7 (h.resolve_left (by decide)), fun h => f8 (h.resolve_left (by decide)), fun h => f9 (h.resolve_left (by decide)), fun _ => rfl, fun h => f11 (h.resolve_left (by decide)), fun h => f12 (h.resolve_left (by decide)), fun h => f13 (h.resolve_left (by decide)), fun h => f14 (h.resolve_left (by decide)), fun h => ((f15 (h.resolve_left (by decide)))).congr ⟨fun h => .inr h, fun h => h.resolve_left (by decide)⟩, fun h => ((f16 (h.resolve_left (by decide)))).congr ⟨fun h => .inr h, fun h => h.resolve_left (by decide)⟩, fun h => ((f17 (h.resolve_left (by decide)))).congr ⟨fun h => .inr h, fun h => h.resolve_left (by decide)⟩, fun h1 h2 => n15_16 (h1.resolve_left (by decide)) (h2.resolve_left (by decide)), fun h1 h2 => n15_17 (h1.resolve_left (by decide)) (h2.resolve_left (by decide)), fun h1 h2 => n16_17 (h1.resolve_left (by decide)) (h2.resolve_left (by decide)), fun h => .inr (c15 (h.resolve_left (by decide))), fun h => .inr (c16 (h.resolve_left (by decide))), fun h => .inr (c17 (h.resolve_left (by decide)))⟩
    case s11 =>
      rintro L T W hd hn hJ K hK
      have HJ := Lib.hid hJ
      clear hJ
      have hb := HJ.out.1
      have e10 := HJ.out.2.2.2.2.2.2.2.2.2.2.2.1 hd.1
      simp only [ovr, Act.put, List.setIfInBounds_toArray, List.set_cons_zero, List.set_cons_succ, e10] at hK ⊢
      have HK := Lib.hid hK
      clear hK
      obtain ⟨c0, c1, c2, c3, c4, c5⟩ := (fun W => S33 (W := W) X1 X2) W hb
      refine wpOp_want rfl rfl ?_
      go_simp
      obtain ⟨hb, f0, f1, f2, f3, f4, f5, f6, f7, f8, f9, f10, f11, f12, f13, f14, f15, f16, f17, n15_16, n15_17, n16_17, c15, c16, c17⟩ := HJ.out
      exact HK.out _ _ ⟨hb, fun h => f0 (h.resolve_left (by decide)), fun h => f1 (h.resolve_left (by decide)), fun h => f2 (h.resolve_left (by decide)), fun h => f3 (h.resolve_left (by decide)), fun h => f4 (h.resolve_left (by decide)), fun h => f5 (h.resolve_left (by decide)), fun h => f6 (h.resolve_left (by decide)), fun h => f7 (h.resolve_left (by decide)), fun h => f8 (h.resolve_left (by decide)), fun h => f9 (h.resolve_left (by decide)), fun h => f10 (h.resolve_left (by decide)), fun _ => rfl, fun h => f12 (h.resolve_left (by decide)), fun h => f13 (h.resolve_left (by decide)), fun h => f14 (h.resolve_left (by decide)), fun h => ((f15 (h.resolve_left (by decide)))).congr ⟨fun h => .inr h, fun h => h.resolve_left (by decide)⟩, fun h => ((f16 (h.resolve_left (by decide)))).congr ⟨fun h => .inr h, fun h => h.resolve_left (by decide)⟩, fun h => ((f17 (h.resolve_left (by decide)))).congr ⟨fun h => .inr h, fun h => h.resolve_left (by decide)⟩, fun h1 h2 => n15_16 (h1.resolve_left (by decide)) (h2.resolve_left (by decide)), fun h1 h2 => n15_17 (h1.resolve_left (by decide)) (h2.resolve_left (by decide)), fun h1 h2 => n16_17 (h1.resolve_left (by decide)) (h2.resolve_left (by decide)), fun h => .inr (c15 (h.resolve_left (by decide))), fun h => .inr (c16 (h.resolve_left (by decide))), fun h => .inr (c17 (h.resolve_left (by decide)))⟩
    case s12 =>
      rintro L T W hd hn hJ K hK
      have HJ := Lib.hid hJ
      clear hJ
      have hb := HJ.out.1
      simp only [ovr, Act.put, List.setIfInBounds_toArray, List.set_cons_zero, List.set_cons_succ] at hK ⊢
      have HK := Lib.hid hK
      clear hK
      refine wpOp_want rfl rfl ?_
      go_simp
      obtain ⟨hb, f0, f1, f2, f3, f4, f5, f6, f7, f8, f9, f10, f11, f12, f13, f14, f15, f16, f17, n15_16, n15_17, n16_17, c15, c16, c17⟩ := HJ.out
      exact HK.out _ _ ⟨hb, fun h => f0 (h.resolve_left (by decide)), fun h => f1 (h.resolve_left (by decide)), fun h => f2 (h.resolve_left (by decide)), fun h => f3 (h.resolve_left (by decide)), fun h => f4 (h.resolve_left (by decide)), fun h => f5 (h.resolve_left (by decide)), fun h => f6 (h.resolve_left (by decide)), fun h => f7 (h.resolve_left (by decide)), fun h => f8 (h.resolve_left (by decide)), fun h => f9 (h.resolve_left (by decide)), fun h => f10 (h.resolve_left (by decide)), fun h => f11 (h.resolve_left (by decide)), fun _ => rfl, fun h => f13 (h.resolve_left (by decide)), fun h => f14 (h.resolve_left (by decide)), fun h => ((f15 (h.resolve_left (by decide)))).congr ⟨fun h => .inr h, fun h => h.resolve_left (by decide)⟩, fun h => ((f16 (h.resolve_left (by decide)))).congr ⟨fun h => .inr h, fun h => h.resolve_left (by decide)⟩, fun h => ((f17 (h.resolve_left (by decide)))).congr ⟨fun h => .inr h, fun h => h.resolve_left (by decide)⟩, fun h1 h2 => n15_16 (h1.resolve_left (by decide)) (h2.resolve_left (by decide)), fun h1 h2 => n15_17 (h1.resolve_left (by decide)) (h2.resolve_left (by decide)), fun h1 h2 => n16_17 (h1.resolve_left (by decide)) (h2.resolve_left (by decide)), fun h => .inr (c15 (h.resolve_left (by decide))), fun h => .inr (c16 (h.resolve_left (by decide))), fun h => .inr (c17 (h.resolve_left (by decide)))⟩
    case s13 =>
      rintro L T W hd hn hJ K hK
      have HJ := Lib.hid hJ
      clear hJ
      have hb := HJ.out.1
      have e12 := HJ.out.2.2.2.2.2.2.2.2.2.2.2.2.2.1 hd.1
      simp only [ovr, Act.put, List.setIfInBounds_toArray, List.set_cons_zero, List.set_cons_succ, e12] at hK ⊢
      have HK := Lib.hid hK
      clear hK
      obtain ⟨c0, c1, c2, c3, c4, c5⟩ := (fun W => S33 (W := W) X1 X2) W hb
      refine wpOp_want rfl rfl ?_
      go_simp
      obtain ⟨hb, f0, f1, f2, f3, f4, f5, f6, f7, f8, f9, f10, f11, f12, f13, f14, f15, f16, f17, n15_16, n15_17, n16_17, c15, c16, c17⟩ := HJ.out
      exact HK.out _ _ ⟨hb, fun h => f0 (h.resolve_left (by decide)), fun h => f1 (h.resolve_left (by decide)), fun h => f2 (h.resolve_left (by decide)), fun h => f3 (h.resolve_left (by decide)), fun h => f4 (h.resolve_left (by decide)), fun h => f5 (h.resolve_left (by decide)), fun h => f6 (h.resolve_left (by decide)), fun h => f7 (h.resolve_left (by decide)), fun h => f8 (h.resolve_left (by decide)), fun h => f9 (h.resolve_left (by decide)), fun h => f10 (h.resolve_left (by decide)), fun h => f11 (h.resolve_left (by decide)), fun h => f12 (h.resolve_left (by decide)), fun _ => rfl, fun h => f14 (h.resolve_left (by decide)), fun h => ((f15 (h.resolve_left (by decide)))).congr ⟨fun h => .inr h, fun h => h.resolve_left (by decide)⟩, fun h => ((f16 (h.resolve_left (by decide)))).congr ⟨fun h => .inr h, fun h => h.resolve_left (by decide)⟩, fun h => ((f17 (h.resolve_left (by decide)))).congr ⟨fun h => .inr h, fun h => h.resolve_left (by decide)⟩, fun h1 h2 => n15_16 (h1.resolve_left (by decide)) (h2.resolve_left (by decide)), fun h1 h2 => n15_17 (h1.resolve_left (by decide)) (h2.resolve_left (by decide)), fun h1 h2 => n16_17 (h1.resolve_left (by decide)) (h2.resolve_left (by decide)), fun h => .inr (c15 (h.resolve_left (by decide))), fun h => .inr (c16 (h.resolve_left (by decide))), fun h => .inr (c17 (h.resolve_left (by decide)))⟩
    case s14 =>
      rintro L T W hd hn hJ K hK
      have HJ := Lib.hid hJ
      clear hJ
      have hb := HJ.out.1
      have e11 := HJ.out.2.2.2.2.2.2.2.2.2.2.2.2.1 hd.1
      have e13 := HJ.out.2.2.2.2.2.2.2.2.2.2.2.2.2.2.1 hd.2.1
      have r9 := HJ.out.2.2.2.2.2.2.2.2.2.2.1 hd.2.2.1
      simp only [ovr, Act.put, List.setIfInBounds_toArray, List.set_cons_zero, List.set_cons_succ, e11, e13] at hK ⊢
      have HK := Lib.hid hK
      clear hK
      refine wpOp_want rfl rfl ?_
      go_simp
      (with_reducible refine (small_eq a2 b2 rc _ HC hl2 hh2 hm2 hk2 (hE.mono hb)).mono ?_)
      rintro e w1 ⟨⟨nga, aoa, na, capa, ngb, aob, nb, capb, rfl, HVa, HVb⟩, hb1⟩
      have hr : RatV w1 (.agg #[.bool nga, .slice aoa na capa, .bool ngb, .slice aob nb capb]) rc := RatV.mk' HVa HVb
      dsimp only
      obtain ⟨hb, f0, f1, f2, f3, f4, f5, f6, f7, f8, f9, f10, f11, f12, f13, f14, f15, f16, f17, n15_16, n15_17, n16_17, c15, c16, c17⟩ := HJ.out
      exact HK.out _ _ ⟨Below.step hb hb1 (Nat.le_refl _), fun h => f0 (h.resolve_left (by decide)), fun h => f1 (h.resolve_left (by decide)), fun h => f2 (h.resolve_left (by decide)), fun h => f3 (h.resolve_left (by decide)), fun h => (stay4_rat ra).mono (f4 (h.resolve_left (by decide))) hb1, fun h => f5 (h.resolve_left (by decide)), fun h => f6 (h.resolve_left (by decide)), fun h => f7 (h.resolve_left (by decide)), fun h => f8 (h.resolve_left (by decide)), fun h => (stay4_rat rb).mono (f9 (h.resolve_left (by decide))) hb1, fun h => f10 (h.resolve_left (by decide)), fun h => f11 (h.resolve_left (by decide)), fun h => f12 (h.resolve_left (by decide)), fun h => f13 (h.resolve_left (by decide)), fun _ => hr, fun h => ((f15 (h.resolve_left (by decide))).mono (stay4_rat ra) hb1).congr ⟨fun h => .inr h, fun h => h.resolve_left (by decide)⟩, fun h => ((f16 (h.resolve_left (by decide))).mono (stay4_rat rb) hb1).congr ⟨fun h => .inr h, fun h => h.resolve_left (by decide)⟩, fun h => ((f17 (h.resolve_left (by decide))).mono (stay4_rat rc) hb1).congr ⟨fun h => .inr h, fun h => h.resolve_left (by decide)⟩, fun h1 h2 => n15_16 (h1.resolve_left (by decide)) (h2.resolve_left (by decide)), fun h1 h2 => n15_17 (h1.resolve_left (by decide)) (h2.resolve_left (by decide)), fun h1 h2 => n16_17 (h1.resolve_left (by decide)) (h2.resolve_left (by decide)), fun h => .inr (c15 (h.resolve_left (by decide))), fun h => .inr (c16 (h.resolve_left (by decide))), fun h => .inr (c17 (h.resolve_left (by decide)))⟩
    case s15 =>
      rintro L T W hd hn hJ K hK
      have HJ := Lib.hid hJ
      clear hJ
      have hb := HJ.out.1
      simp only [ovr, Act.put, List.setIfInBounds_toArray, List.set_cons_zero, List.set_cons_succ] at hK ⊢
      have HK := Lib.hid hK
      clear hK
      refine wpOp_want rfl rfl ?_
      go_simp
      have hb1 := below_alloc W (.cells #[.bool false, .slice none 0 0, .bool false, .slice none 0 0] 29)
      obtain ⟨hb, f0, f1, f2, f3, f4, f5, f6, f7, f8, f9, f10, f11, f12, f13, f14, f15, f16, f17, n15_16, n15_17, n16_17, c15, c16, c17⟩ := HJ.out
      exact HK.out _ _ ⟨Below.step hb hb1 (Nat.le_refl _), fun h => f0 (h.resolve_left (by decide)), fun h => f1 (h.resolve_left (by decide)), fun h => f2 (h.resolve_left (by decide)), fun h => f3 (h.resolve_left (by decide)), fun h => (stay4_rat ra).mono (f4 (h.resolve_left (by decide))) hb1, fun h => f5 (h.resolve_left (by decide)), fun h => f6 (h.resolve_left (by decide)), fun h => f7 (h.resolve_left (by decide)), fun h => f8 (h.resolve_left (by decide)), fun h => (stay4_rat rb).mono (f9 (h.resolve_left (by decide))) hb1, fun h => f10 (h.resolve_left (by decide)), fun h => f11 (h.resolve_left (by decide)), fun h => f12 (h.resolve_left (by decide)), fun h => f13 (h.resolve_left (by decide)), fun h => (stay4_rat rc).mono (f14 (h.resolve_left (by decide))) hb1, fun _ => Slot4.new W (fun h => hn (c15 (h.resolve_left (by decide)))) _ hb.size, fun h => ((f16 (h.resolve_left (by decide))).mono (stay4_rat rb) hb1).congr ⟨fun h => .inr h, fun h => h.resolve_left (by decide)⟩, fun h => ((f17 (h.resolve_left (by decide))).mono (stay4_rat rc) hb1).congr ⟨fun h => .inr h, fun h => h.resolve_left (by decide)⟩, fun _ h2 => (f16 (h2.resolve_left (by decide))).ne_new.symm, fun _ h2 => (f17 (h2.resolve_left (by decide))).ne_new.symm, fun h1 h2 => n16_17 (h1.resolve_left (by decide)) (h2.resolve_left (by decide)), fun _ => .inl (by decide), fun h => .inr (c16 (h.resolve_left (by decide))), fun h => .inr (c17 (h.resolve_left (by decide)))⟩
    case s16 =>
      rintro L T W hd hn hJ K hK
      have HJ := Lib.hid hJ
      clear hJ
      have hb := HJ.out.1
      simp only [ovr, Act.put, List.setIfInBounds_toArray, List.set_cons_zero, List.set_cons_succ] at hK ⊢
      have HK := Lib.hid hK
      clear hK
      refine wpOp_want rfl rfl ?_
      go_simp
      have hb1 := below_alloc W (.cells #[.bool false, .slice none 0 0, .bool false, .slice none 0 0] 29)
      obtain ⟨hb, f0, f1, f2, f3, f4, f5, f6, f7, f8, f9, f10, f11, f12, f13, f14, f15, f16, f17, n15_16, n15_17, n16_17, c15, c16, c17⟩ := HJ.out
      exact HK.out _ _ ⟨Below.step hb hb1 (Nat.le_refl _), fun h => f0 (h.resolve_left (by decide)), fun h => f1 (h.resolve_left (by decide)), fun h => f2 (h.resolve_left (by decide)), fun h => f3 (h.resolve_left (by decide)), fun h => (stay4_rat ra).mono (f4 (h.resolve_left (by decide))) hb1, fun h => f5 (h.resolve_left (by decide)), fun h => f6 (h.resolve_left (by decide)), fun h => f7 (h.resolve_left (by decide)), fun h => f8 (h.resolve_left (by decide)), fun h => (stay4_rat rb).mono (f9 (h.resolve_left (by decide))) hb1, fun h => f10 (h.resolve_left (by decide)), fun h => f11 (h.resolve_left (by decide)), fun h => f12 (h.resolve_left (by decide)), fun h => f13 (h.resolve_left (by decide)), fun h => (stay4_rat rc).mono (f14 (h.resolve_left (by decide))) hb1, fun h => ((f15 (h.resolve_left (by decide))).mono (stay4_rat ra) hb1).congr ⟨fun h => .inr h, fun h => h.resolve_left (by decide)⟩, fun _ => Slot4.new W (fun h => hn (c16 (h.resolve_left (by decide)))) _ hb.size, fun h => ((f17 (h.resolve_left (by decide))).mono (stay4_rat rc) hb1).congr ⟨fun h => .inr h, fun h => h.resolve_left (by decide)⟩, fun h1 _ => (f15 (h1.resolve_left (by decide))).ne_new, fun h1 h2 => n15_17 (h1.resolve_left (by decide)) (h2.resolve_left (by decide)), fun _ h2 => (f17 (h2.resolve_left (by decide))).ne_new.symm, fun h => .inr (c15 (h.resolve_left (by decide))), fun _ => .inl (by decide), fun h => .inr (c17 (h.resolve_left (by decide)))⟩
    case s17 =>
      rintro L T W hd hn hJ K hK
      have HJ := Lib.hid hJ
      clear hJ
      have hb := HJ.out.1
      simp only [ovr, Act.put, List.setIfInBounds_toArray, List.set_cons_zero, List.set_cons_succ] at hK ⊢
      have HK := Lib.hid hK
      clear hK
      refine wpOp_want rfl rfl ?_
      go_simp
      have hb1 := below_alloc W (.cells #[.bool false, .slice none 0 0, .bool false, .slice none 0 0] 29)
      obtain ⟨hb, f0, f1, f2, f3, f4, f5, f6, f7, f8, f9, f10, f11, f12, f13, f14, f15, f16, f17, n15_16, n15_17, n16_17, c15, c16, c17⟩ := HJ.out
      exact HK.out _ _ ⟨Below.step hb hb1 (Nat.le_refl _), fun h => f0 (h.resolve_left (by decide)), fun h => f1 (h.resolve_left (by decide)), fun h => f2 (h.resolve_left (by decide)), fun h => f3 (h.resolve_left (by decide)), fun h => (stay4_rat ra).mono (f4 (h.resolve_left (by decide))) hb1, fun h => f5 (h.resolve_left (by decide)), fun h => f6 (h.resolve_left (by decide)), fun h => f7 (h.resolve_left (by decide)), fun h => f8 (h.resolve_left (by decide)), fun h => (stay4_rat rb).mono (f9 (h.resolve_left (by decide))) hb1, fun h => f10 (h.resolve_left (by decide)), fun h => f11 (h.resolve_left (by decide)), fun h => f12 (h.resolve_left (by decide)), fun h => f13 (h.resolve_left (by decide)), fun h => (stay4_rat rc).mono (f14 (h.resolve_left (by decide))) hb1, fun h => ((f15 (h.resolve_left (by decide))).mono (stay4_rat ra) hb1).congr ⟨fun h => .inr h, fun h => h.resolve_left (by decide)⟩, fun h => ((f16 (h.resolve_left (by decide))).mono (stay4_rat rb) hb1).congr ⟨fun h => .inr h, fun h => h.resolve_left (by decide)⟩, fun _ => Slot4.new W (fun h => hn (c17 (h.resolve_left (by decide)))) _ hb.size, fun h1 h2 => n15_16 (h1.resolve_left (by decide)) (h2.resolve_left (by decide)), fun h1 _ => (f15 (h1.resolve_left (by decide))).ne_new, fun h1 _ => (f16 (h1.resolve_left (by decide))).ne_new, fun h => .inr (c15 (h.resolve_left (by decide))), fun h => .inr (c16 (h.resolve_left (by decide))), fun _ => .inl (by decide)⟩
    case s18 =>
      rintro L T W hd hn hJ K hK
      have HJ := Lib.hid hJ
      clear hJ
      have hb := HJ.out.1
      have r4 := HJ.out.2.2.2.2.2.1 hd.2.1
      have r14 := HJ.out.2.2.2.2.2.2.2.2.2.2.2.2.2.2.2.1 hd.2.2.1
      have e0 := HJ.out.2.1 hd.2.2.2.1
      have e1 := HJ.out.2.2.1 hd.2.2.2.2.1
      have e2 := HJ.out.2.2.2.1 hd.2.2.2.2.2.1
      have e3 := HJ.out.2.2.2.2.1 hd.2.2.2.2.2.2.1
      have da := hd.1
      have hr := r4
      obtain ⟨m, em, hm1, hm2, hB⟩ := (HJ.out.2.2.2.2.2.2.2.2.2.2.2.2.2.2.2.2.1 da).open hn
      obtain ⟨ng, ao, nn, cap, ng2, ao2, nn2, cap2, ev⟩ := RatV.parts hr
      rw [ev] at hr
      obtain ⟨b0, b1, b2, b3, b4, b5, b6, b7⟩ := id hB
      simp only [ovr, Act.put, List.setIfInBounds_toArray, List.set_cons_zero, List.set_cons_succ, e0, e1, e2, e3, em, ev] at hK ⊢
      have HK := Lib.hid hK
      clear hK
      refine wpOp_want rfl rfl ?_
      go_simp
      obtain ⟨hb, f0, f1, f2, f3, f4, f5, f6, f7, f8, f9, f10, f11, f12, f13, f14, f15, f16, f17, n15_16, n15_17, n16_17, c15, c16, c17⟩ := HJ.out
      exact HK.out undef _ ⟨Below.put4 hb hm1 _ _ _ _, fun h => f0 (h.resolve_left (by decide)), fun h => f1 (h.resolve_left (by decide)), fun h => f2 (h.resolve_left (by decide)), fun h => f3 (h.resolve_left (by decide)), fun h => (stay4_rat ra).put (f4 (h.resolve_left (by decide))) hB, fun h => f5 (h.resolve_left (by decide)), fun h => f6 (h.resolve_left (by decide)), fun h => f7 (h.resolve_left (by decide)), fun h => f8 (h.resolve_left (by decide)), fun h => (stay4_rat rb).put (f9 (h.resolve_left (by decide))) hB, fun h => f10 (h.resolve_left (by decide)), fun h => f11 (h.resolve_left (by decide)), fun h => f12 (h.resolve_left (by decide)), fun h => f13 (h.resolve_left (by decide)), fun h => (stay4_rat rc).put (f14 (h.resolve_left (by decide))) hB, fun h => by show Slot4 _ _ _ _ (T 5); rw [em]; exact Slot4.stored (stay4_rat ra) hm1 hB (.inl (by decide)) hr, fun h => ((f16 (h.resolve_left (by decide))).other (stay4_rat rb) (by rw [← em]; exact (n15_16 da (h.resolve_left (by decide))).symm) hB).congr ⟨fun h => .inr h, fun h => h.resolve_left (by decide)⟩, fun h => ((f17 (h.resolve_left (by decide))).other (stay4_rat rc) (by rw [← em]; exact (n15_17 da (h.resolve_left (by decide))).symm) hB).congr ⟨fun h => .inr h, fun h => h.resolve_left (by decide)⟩, fun h1 h2 => n15_16 (h1.resolve_left (by decide)) (h2.resolve_left (by decide)), fun h1 h2 => n15_17 (h1.resolve_left (by decide)) (h2.resolve_left (by decide)), fun h1 h2 => n16_17 (h1.resolve_left (by decide)) (h2.resolve_left (by decide)), fun _ => .inr da, fun h => .inr (c16 (h.resolve_left (by decide))), fun h => .inr (c17 (h.resolve_left (by decide)))⟩
    case s19 =>
      rintro L T W hd hn hJ K hK
      have HJ := Lib.hid hJ
      clear hJ
      have hb := HJ.out.1
      have r9 := HJ.out.2.2.2.2.2.2.2.2.2.2.1 hd.2.1
      have e0 := HJ.out.2.1 hd.2.2.2.1
      have e1 := HJ.out.2.2.1 hd.2.2.2.2.1
      have e2 := HJ.out.2.2.2.1 hd.2.2.2.2.2.1
      have e3 := HJ.out.2.2.2.2.1 hd.2.2.2.2.2.2.1
      have r4 := HJ.out.2.2.2.2.2.1 hd.2.2.2.2.2.2.2.1
      have e5 := HJ.out.2.2.2.2.2.2.1 hd.2.2.2.2.2.2.2.2.1
      have e6 := HJ.out.2.2.2.2.2.2.2.1 hd.2.2.2.2.2.2.2.2.2.1
      have e7 := HJ.out.2.2.2.2.2.2.2.2.1 hd.2.2.2.2.2.2.2.2.2.2.1
      have e8 := HJ.out.2.2.2.2.2.2.2.2.2.1 hd.2.2.2.2.2.2.2.2.2.2.2.1
      have da := hd.1
      have hr := r9
      obtain ⟨m, em, hm1, hm2, hB⟩ := (HJ.out.2.2.2.2.2.2.2.2.2.2.2.2.2.2.2.2.2.1 da).open hn
      obtain ⟨ng, ao, nn, cap, ng2, ao2, nn2, cap2, ev⟩ := RatV.parts hr
      rw [ev] at hr
      obtain ⟨b0, b1, b2, b3, b4, b5, b6, b7⟩ := id hB
      simp only [ovr, Act.put, List.setIfInBounds_toArray, List.set_cons_zero, List.set_cons_succ, e0, e1, e2, e3, e5, e6, e7, e8, em, ev] at hK ⊢
      have HK := Lib.hid hK
      clear hK
      refine wpOp_want rfl rfl ?_
      go_simp
      obtain ⟨hb, f0, f1, f2, f3, f4, f5, f6, f7, f8, f9, f10, f11, f12, f13, f14, f15, f16, f17, n15_16, n15_17, n16_17, c15, c16, c17⟩ := HJ.out
      exact HK.out undef _ ⟨Below.put4 hb hm1 _ _ _ _, fun h => f0 (h.resolve_left (by decide)), fun h => f1 (h.resolve_left (by decide)), fun h => f2 (h.resolve_left (by decide)), fun h => f3 (h.resolve_left (by decide)), fun h => (stay4_rat ra).put (f4 (h.resolve_left (by decide))) hB, fun h => f5 (h.resolve_left (by decide)), fun h => f6 (h.resolve_left (by decide)), fun h => f7 (h.resolve_left (by decide)), fun h => f8 (h.resolve_left (by decide)), fun h => (stay4_rat rb).put (f9 (h.resolve_left (by decide))) hB, fun h => f10 (h.resolve_left (by decide)), fun h => f11 (h.resolve_left (by decide)), fun h => f12 (h.resolve_left (by decide)), fun h => f13 (h.resolve_left (by decide)), fun h => (stay4_rat rc).put (f14 (h.resolve_left (by decide))) hB, fun h => ((f15 (h.resolve_left (by decide))).other (stay4_rat ra) (by rw [← em]; exact n15_16 (h.resolve_left (by decide)) da) hB).congr ⟨fun h => .inr h, fun h => h.resolve_left (by decide)⟩, fun h => by show Slot4 _ _ _ _ (T 6); rw [em]; exact Slot4.stored (stay4_rat rb) hm1 hB (.inl (by decide)) hr, fun h => ((f17 (h.resolve_left (by decide))).other (stay4_rat rc) (by rw [← em]; exact (n16_17 da (h.resolve_left (by decide))).symm) hB).congr ⟨fun h => .inr h, fun h => h.resolve_left (by decide)⟩, fun h1 h2 => n15_16 (h1.resolve_left (by decide)) (h2.resolve_left (by decide)), fun h1 h2 => n15_17 (h1.resolve_left (by decide)) (h2.resolve_left (by decide)), fun h1 h2 => n16_17 (h1.resolve_left (by decide)) (h2.resolve_left (by decide)), fun h => .inr (c15 (h.resolve_left (by decide))), fun _ => .inr da, fun h => .inr (c17 (h.resolve_left (by decide)))⟩
    case s20 =>
      rintro L T W hd hn hJ K hK
      have HJ := Lib.hid hJ
      clear hJ
      have hb := HJ.out.1
      have r14 := HJ.out.2.2.2.2.2.2.2.2.2.2.2.2.2.2.2.1 hd.2.1
      have e0 := HJ.out.2.1 hd.2.2.2.1
      have e1 := HJ.out.2.2.1 hd.2.2.2.2.1
      have e2 := HJ.out.2.2.2.1 hd.2.2.2.2.2.1
      have e3 := HJ.out.2.2.2.2.1 hd.2.2.2.2.2.2.1
      have r4 := HJ.out.2.2.2.2.2.1 hd.2.2.2.2.2.2.2.1
      have e5 := HJ.out.2.2.2.2.2.2.1 hd.2.2.2.2.2.2.2.2.1
      have e6 := HJ.out.2.2.2.2.2.2.2.1 hd.2.2.2.2.2.2.2.2.2.1
      have e7 := HJ.out.2.2.2.2.2.2.2.2.1 hd.2.2.2.2.2.2.2.2.2.2.1
      have e8 := HJ.out.2.2.2.2.2.2.2.2.2.1 hd.2.2.2.2.2.2.2.2.2.2.2.1
      have r9 := HJ.out.2.2.2.2.2.2.2.2.2.2.1 hd.2.2.2.2.2.2.2.2.2.2.2.2.1
      have e10 := HJ.out.2.2.2.2.2.2.2.2.2.2.2.1 hd.2.2.2.2.2.2.2.2.2.2.2.2.2.1
      have e11 := HJ.out.2.2.2.2.2.2.2.2.2.2.2.2.1 hd.2.2.2.2.2.2.2.2.2.2.2.2.2.2.1
      have e12 := HJ.out.2.2.2.2.2.2.2.2.2.2.2.2.2.1 hd.2.2.2.2.2.2.2.2.2.2.2.2.2.2.2.1
      have e13 := HJ.out.2.2.2.2.2.2.2.2.2.2.2.2.2.2.1 hd.2.2.2.2.2.2.2.2.2.2.2.2.2.2.2.2.1
      have da := hd.1
      have hr := r14
      obtain ⟨m, em, hm1, hm2, hB⟩ := (HJ.out.2.2.2.2.2.2.2.2.2.2.2.2.2.2.2.2.2.2.1 da).open hn
      obtain ⟨ng, ao, nn, cap, ng2, ao2, nn2, cap2, ev⟩ := RatV.parts hr
      rw [ev] at hr
      obtain ⟨b0, b1, b2, b3, b4, b5, b6, b7⟩ := id hB
      simp only [ovr, Act.put, List.setIfInBounds_toArray, List.set_cons_zero, List.set_cons_succ, e0, e1, e2, e3, e5, e6, e7, e8, e10, e11, e12, e13, em, ev] at hK ⊢
      have HK := Lib.hid hK
      clear hK
      refine wpOp_want rfl rfl ?_
      go_simp
      obtain ⟨hb, f0, f1, f2, f3, f4, f5, f6, f7, f8, f9, f10, f11, f12, f13, f14, f15, f16, f17, n15_16, n15_17, n16_17, c15, c16, c17⟩ := HJ.out
      exact HK.out undef _ ⟨Below.put4 hb hm1 _ _ _ _, fun h => f0 (h.resolve_left (by decide)), fun h => f1 (h.resolve_left (by decide)), fun h => f2 (h.resolve_left (by decide)), fun h => f3 (h.resolve_left (by decide)), fun h => (stay4_rat ra).put (f4 (h.resolve_left (by decide))) hB, fun h => f5 (h.resolve_left (by decide)), fun h => f6 (h.resolve_left (by decide)), fun h => f7 (h.resolve_left (by decide)), fun h => f8 (h.resolve_left (by decide)), fun h => (stay4_rat rb).put (f9 (h.resolve_left (by decide))) hB, fun h => f10 (h.resolve_left (by decide)), fun h => f11 (h.resolve_left (by decide)), fun h => f12 (h.resolve_left (by decide)), fun h => f13 (h.resolve_left (by decide)), fun h => (stay4_rat rc).put (f14 (h.resolve_left (by decide))) hB, fun h => ((f15 (h.resolve_left (by decide))).other (stay4_rat ra) (by rw [← em]; exact n15_17 (h.resolve_left (by decide)) da) hB).congr ⟨fun h => .inr h, fun h => h.resolve_left (by decide)⟩, fun h => ((f16 (h.resolve_left (by decide))).other (stay4_rat rb) (by rw [← em]; exact n16_17 (h.resolve_left (by decide)) da) hB).congr ⟨fun h => .inr h, fun h => h.resolve_left (by decide)⟩, fun h => by show Slot4 _ _ _ _ (T 7); rw [em]; exact Slot4.stored (stay4_rat rc) hm1 hB (.inl (by decide)) hr, fun h1 h2 => n15_16 (h1.resolve_left (by decide)) (h2.resolve_left (by decide)), fun h1 h2 => n15_17 (h1.resolve_left (by decide)) (h2.resolve_left (by decide)), fun h1 h2 => n16_17 (h1.resolve_left (by decide)) (h2.resolve_left (by decide)), fun h => .inr (c15 (h.resolve_left (by decide))), fun h => .inr (c16 (h.resolve_left (by decide))), fun _ => .inr da⟩
    case he =>
      rintro T W ⟨hb, f0, f1, f2, f3, f4, f5, f6, f7, f8, f9, f10, f11, f12, f13, f14, f15, f16, f17, n15_16, n15_17, n16_17, c15, c16, c17⟩
      simp only [ovr, List.setIfInBounds_toArray, List.set_cons_zero, List.set_cons_succ]
      have r1 := (f15 (by decide)).boxR (by decide)
      have r2 := (f16 (by decide)).boxR (by decide)
      have r3 := (f17 (by decide)).boxR (by decide)
      go_wp2_with fail
      go_meet
      exact ⟨r1, r2, r3, hb⟩
  case rest =>
    obtain ⟨⟨g5, nga, aoa, na, capa, ngb, aob, nb, capb, rfl, hg5, X5, HVa, HVb⟩, ⟨g6, ngc, aoc, nc, capc, ngd, aod, nd, capd, rfl, hg6, X6, HVc, HVd⟩, ⟨g7, nge, aoe, ne, cape, ngf, aof, nf, capf, rfl, hg7, X7, HVe, HVf⟩, hb⟩ := hcut
    have hM := hM.mono hb
    have X1 := X1.mono hb
    have X2 := X2.mono hb
    have hE := hE.mono hb
    have hbw := Below.step hbw hb (Nat.le_refl _)
    clear hb
    have HS := Rq.bd_add BA BB
    have HP := Rq.bd_mul BA BC
    have HQ := Rq.bd_mul BB BC
    have S1 : Hid (AddS ra rb) := Lib.hid (addS_of BA BB (by decide) (by decide)).1
    have S2 : Hid (AddS rb ra) := Lib.hid (addS_of BB BA (by decide) (by decide)).1
    have S3 : Hid (SubS (ra + rb) rb) := Lib.hid (addS_of HS BB (by decide) (by decide)).2
    have S4 : Hid (MulS ra rc) := Lib.hid (mulS_of BA BC (by decide) (by decide))
    have S5 : Hid (MulS rb rc) := Lib.hid (mulS_of BB BC (by decide) (by decide))
    have S6 : Hid (AddS (ra * rc) (rb * rc)) := Lib.hid (addS_of HP HQ (by decide) (by decide)).1
    have S7 : Hid (MulS (ra + rb) rc) := Lib.hid (mulS_of HS BC (by decide) (by decide))
    have S8 : Hid (DivS (ra * rc) rc) := Lib.hid (divS_of HP BC (by decide) (by decide))
    have E1 : Hid ((ra + rb).num = (rb + ra).num ∧ ((ra + rb).den : Int) = ((rb + ra).den : Int)) := Lib.hid (by rw [Rat.add_comm]; exact ⟨rfl, rfl⟩)
    have E2 : Hid ((ra + rb - rb).num = ra.num ∧ ((ra + rb - rb).den : Int) = (ra.den : Int)) := Lib.hid (by rw [Rat.add_sub_cancel]; exact ⟨rfl, rfl⟩)
    have E3 : Hid ((ra * rc + rb * rc).num = ((ra + rb) * rc).num ∧ ((ra * rc + rb * rc).den : Int) = (((ra + rb) * rc).den : Int)) := Lib.hid (by rw [Rat.add_mul]; exact ⟨rfl, rfl⟩)
    have N2 : a2 = 0 ↔ rc.num = 0 := by
      rw [Rat.num_eq_zero, ← HC.out]
      exact (Rq.divInt_zero_iff (by omega)).symm
    have HN2 := Lib.hid N2
    clear N2 HS HP HQ BA BB BC
    obtain ⟨cX5_0, cX5_1, cX5_2, cX5_3, _, _, _, _⟩ := id X5
    obtain ⟨cX6_0, cX6_1, cX6_2, cX6_3, _, _, _, _⟩ := id X6
    go_wp2_with fail
    (with_reducible refine (Add_q _ _ ra rb wc (RatV.mk' HVa HVb) (RatV.mk' HVc HVd) S1 hE).mono ?_)
    rintro e v101 ⟨⟨ng1, ao1, n1, cap1, ng2, ao2, n2, cap2, rfl, HV1, HV2⟩, hb⟩
    have hM := hM.mono hb
    have X1 := X1.mono hb
    have X2 := X2.mono hb
    have X5 := X5.mono hb
    have X6 := X6.mono hb
    have X7 := X7.mono hb
    have HVa := Lib.hid (HVa.out.mono hb)
    have HVb := Lib.hid (HVb.out.mono hb)
    have HVc := Lib.hid (HVc.out.mono hb)
    have HVd := Lib.hid (HVd.out.mono hb)
    have HVe := Lib.hid (HVe.out.mono hb)
    have HVf := Lib.hid (HVf.out.mono hb)
    have hE := hE.mono hb
    have hbw := Below.step hbw hb (Nat.le_refl _)
    clear hb
    clear cX5_0 cX5_1 cX5_2 cX5_3 cX6_0 cX6_1 cX6_2 cX6_3
    go_upto_region 5 with fail
    have lX8X1 := X1.lt
    have lX8X2 := X2.lt
    have lX8X5 := X5.lt
    have lX8X6 := X6.lt
    have lX8X7 := X7.lt
    have X8 := Box4.new v101 (.bool ng1) (.slice ao1 n1 cap1) (.bool ng2) (.slice ao2 n2 cap2) 29
    have hb := below_alloc v101 (.cells #[.bool ng1, .slice ao1 n1 cap1, .bool ng2, .slice ao2 n2 cap2] 29)
    generalize v101.alloc (.cells #[.bool ng1, .slice ao1 n1 cap1, .bool ng2, .slice ao2 n2 cap2] 29) = v102 at *
    have hM := hM.mono hb
    have X1 := X1.mono hb
    have X2 := X2.mono hb
    have X5 := X5.mono hb
    have X6 := X6.mono hb
    have X7 := X7.mono hb
    have HVa := Lib.hid (HVa.out.mono hb)
    have HVb := Lib.hid (HVb.out.mono hb)
    have HVc := Lib.hid (HVc.out.mono hb)
    have HVd := Lib.hid (HVd.out.mono hb)
    have HVe := Lib.hid (HVe.out.mono hb)
    have HVf := Lib.hid (HVf.out.mono hb)
    have HV1 := Lib.hid (HV1.out.mono hb)
    have HV2 := Lib.hid (HV2.out.mono hb)
    have hE := hE.mono hb
    have hbw := Below.step hbw hb (Nat.le_refl _)
    clear hb
    obtain ⟨cX6_0, cX6_1, cX6_2, cX6_3, _, _, _, _⟩ := id X6
    obtain ⟨cX5_0, cX5_1, cX5_2, cX5_3, _, _, _, _⟩ := id X5
    go_wp2_with fail
    (with_reducible refine (Add_q _ _ rb ra v102 (RatV.mk' HVc HVd) (RatV.mk' HVa HVb) S2 hE).mono ?_)
    rintro e v103 ⟨⟨ng3, ao3, n3, cap3, ng4, ao4, n4, cap4, rfl, HV3, HV4⟩, hb⟩
    have hM := hM.mono hb
    have X1 := X1.mono hb
    have X2 := X2.mono hb
    have X5 := X5.mono hb
    have X6 := X6.mono hb
    have X7 := X7.mono hb
    have HVa := Lib.hid (HVa.out.mono hb)
    have HVb := Lib.hid (HVb.out.mono hb)
    have HVc := Lib.hid (HVc.out.mono hb)
    have HVd := Lib.hid (HVd.out.mono hb)
    have HVe := Lib.hid (HVe.out.mono hb)
    have HVf := Lib.hid (HVf.out.mono hb)
    have HV1 := Lib.hid (HV1.out.mono hb)
    have HV2 := Lib.hid (HV2.out.mono hb)
    have X8 := X8.mono hb
    have hE := hE.mono hb
    have hbw := Below.step hbw hb (Nat.le_refl _)
    clear hb
    clear cX6_0 cX6_1 cX6_2 cX6_3 cX5_0 cX5_1 cX5_2 cX5_3
    go_upto_region 6 with fail
    have lX10X1 := X1.lt
    have lX10X2 := X2.lt
    have lX10X5 := X5.lt
    have lX10X6 := X6.lt
    have lX10X7 := X7.lt
    have lX10X8 := X8.lt
    have X10 := Box4.new v103 (.bool ng3) (.slice ao3 n3 cap3) (.bool ng4) (.slice ao4 n4 cap4) 29
    have hb := below_alloc v103 (.cells #[.bool ng3, .slice ao3 n3 cap3, .bool ng4, .slice ao4 n4 cap4] 29)
    generalize v103.alloc (.cells #[.bool ng3, .slice ao3 n3 cap3, .bool ng4, .slice ao4 n4 cap4] 29) = v104 at *
    have hM := hM.mono hb
    have X1 := X1.mono hb
    have X2 := X2.mono hb
    have X5 := X5.mono hb
    have X6 := X6.mono hb
    have X7 := X7.mono hb
    have HVa := Lib.hid (HVa.out.mono hb)
    have HVb := Lib.hid (HVb.out.mono hb)
    have HVc := Lib.hid (HVc.out.mono hb)
    have HVd := Lib.hid (HVd.out.mono hb)
    have HVe := Lib.hid (HVe.out.mono hb)
    have HVf := Lib.hid (HVf.out.mono hb)
    have HV1 := Lib.hid (HV1.out.mono hb)
    have HV2 := Lib.hid (HV2.out.mono hb)
    have X8 := X8.mono hb
    have HV3 := Lib.hid (HV3.out.mono hb)
    have HV4 := Lib.hid (HV4.out.mono hb)
    have hE := hE.mono hb
    have hbw := Below.step hbw hb (Nat.le_refl _)
    clear hb
    obtain ⟨cX8_0, cX8_1, cX8_2, cX8_3, _, _, _, _⟩ := id X8
    obtain ⟨cX6_0, cX6_1, cX6_2, cX6_3, _, _, _, _⟩ := id X6
    go_wp2_with fail
    (with_reducible refine (Sub_q _ _ (ra + rb) rb v104 (RatV.mk' HV1 HV2) (RatV.mk' HVc HVd) S3 hE).mono ?_)
    rintro e v105 ⟨⟨ng5, ao5, n5, cap5, ng6, ao6, n6, cap6, rfl, HV5, HV6⟩, hb⟩
    have hM := hM.mono hb
    have X1 := X1.mono hb
    have X2 := X2.mono hb
    have X5 := X5.mono hb
    have X6 := X6.mono hb
    have X7 := X7.mono hb
    have HVa := Lib.hid (HVa.out.mono hb)
    have HVb := Lib.hid (HVb.out.mono hb)
    have HVc := Lib.hid (HVc.out.mono hb)
    have HVd := Lib.hid (HVd.out.mono hb)
    have HVe := Lib.hid (HVe.out.mono hb)
    have HVf := Lib.hid (HVf.out.mono hb)
    have HV1 := Lib.hid (HV1.out.mono hb)
    have HV2 := Lib.hid (HV2.out.mono hb)
    have X8 := X8.mono hb
    have HV3 := Lib.hid (HV3.out.mono hb)
    have HV4 := Lib.hid (HV4.out.mono hb)
    have X10 := X10.mono hb
    have hE := hE.mono hb
    have hbw := Below.step hbw hb (Nat.le_refl _)
    clear hb
    clear cX8_0 cX8_1 cX8_2 cX8_3 cX6_0 cX6_1 cX6_2 cX6_3
    go_upto_region 7 with fail
    have lX12X1 := X1.lt
    have lX12X2 := X2.lt
    have lX12X5 := X5.lt
    have lX12X6 := X6.lt
    have lX12X7 := X7.lt
    have lX12X8 := X8.lt
    have lX12X10 := X10.lt
    have X12 := Box4.new v105 (.bool ng5) (.slice ao5 n5 cap5) (.bool ng6) (.slice ao6 n6 cap6) 29
    have hb := below_alloc v105 (.cells #[.bool ng5, .slice ao5 n5 cap5, .bool ng6, .slice ao6 n6 cap6] 29)
    generalize v105.alloc (.cells #[.bool ng5, .slice ao5 n5 cap5, .bool ng6, .slice ao6 n6 cap6] 29) = v106 at *
    have hM := hM.mono hb
    have X1 := X1.mono hb
    have X2 := X2.mono hb
    have X5 := X5.mono hb
    have X6 := X6.mono hb
    have X7 := X7.mono hb
    have HVa := Lib.hid (HVa.out.mono hb)
    have HVb := Lib.hid (HVb.out.mono hb)
    have HVc := Lib.hid (HVc.out.mono hb)
    have HVd := Lib.hid (HVd.out.mono hb)
    have HVe := Lib.hid (HVe.out.mono hb)
    have HVf := Lib.hid (HVf.out.mono hb)
    have HV1 := Lib.hid (HV1.out.mono hb)
    have HV2 := Lib.hid (HV2.out.mono hb)
    have X8 := X8.mono hb
    have HV3 := Lib.hid (HV3.out.mono hb)
    have HV4 := Lib.hid (HV4.out.mono hb)
    have X10 := X10.mono hb
    have HV5 := Lib.hid (HV5.out.mono hb)
    have HV6 := Lib.hid (HV6.out.mono hb)
    have hE := hE.mono hb
    have hbw := Below.step hbw hb (Nat.le_refl _)
    clear hb
    obtain ⟨cX5_0, cX5_1, cX5_2, cX5_3, _, _, _, _⟩ := id X5
    obtain ⟨cX7_0, cX7_1, cX7_2, cX7_3, _, _, _, _⟩ := id X7
    go_wp2_with fail
    (with_reducible refine (Mul_q _ _ ra rc v106 (RatV.mk' HVa HVb) (RatV.mk' HVe HVf) S4 hE).mono ?_)
    rintro e v107 ⟨⟨ng7, ao7, n7, cap7, ng8, ao8, n8, cap8, rfl, HV7, HV8⟩, hb⟩
    have hM := hM.mono hb
    have X1 := X1.mono hb
    have X2 := X2.mono hb
    have X5 := X5.mono hb
    have X6 := X6.mono hb
    have X7 := X7.mono hb
    have HVa := Lib.hid (HVa.out.mono hb)
    have HVb := Lib.hid (HVb.out.mono hb)
    have HVc := Lib.hid (HVc.out.mono hb)
    have HVd := Lib.hid (HVd.out.mono hb)
    have HVe := Lib.hid (HVe.out.mono hb)
    have HVf := Lib.hid (HVf.out.mono hb)
    have HV1 := Lib.hid (HV1.out.mono hb)
    have HV2 := Lib.hid (HV2.out.mono hb)
    have X8 := X8.mono hb
    have HV3 := Lib.hid (HV3.out.mono hb)
    have HV4 := Lib.hid (HV4.out.mono hb)
    have X10 := X10.mono hb
    have HV5 := Lib.hid (HV5.out.mono hb)
    have HV6 := Lib.hid (HV6.out.mono hb)
    have X12 := X12.mono hb
    have hE := hE.mono hb
    have hbw := Below.step hbw hb (Nat.le_refl _)
    clear hb
    clear cX5_0 cX5_1 cX5_2 cX5_3 cX7_0 cX7_1 cX7_2 cX7_3
    go_upto_region 8 with fail
    have lX14X1 := X1.lt
    have lX14X2 := X2.lt
    have lX14X5 := X5.lt
    have lX14X6 := X6.lt
    have lX14X7 := X7.lt
    have lX14X8 := X8.lt
    have lX14X10 := X10.lt
    have lX14X12 := X12.lt
    have X14 := Box4.new v107 (.bool ng7) (.slice ao7 n7 cap7) (.bool ng8) (.slice ao8 n8 cap8) 29
    have hb := below_alloc v107 (.cells #[.bool ng7, .slice ao7 n7 cap7, .bool ng8, .slice ao8 n8 cap8] 29)
    generalize v107.alloc (.cells #[.bool ng7, .slice ao7 n7 cap7, .bool ng8, .slice ao8 n8 cap8] 29) = v108 at *
    have hM := hM.mono hb
    have X1 := X1.mono hb
    have X2 := X2.mono hb
    have X5 := X5.mono hb
    have X6 := X6.mono hb
    have X7 := X7.mono hb
    have HVa := Lib.hid (HVa.out.mono hb)
    have HVb := Lib.hid (HVb.out.mono hb)
    have HVc := Lib.hid (HVc.out.mono hb)
    have HVd := Lib.hid (HVd.out.mono hb)
    have HVe := Lib.hid (HVe.out.mono hb)
    have HVf := Lib.hid (HVf.out.mono hb)
    have HV1 := Lib.hid (HV1.out.mono hb)
    have HV2 := Lib.hid (HV2.out.mono hb)
    have X8 := X8.mono hb
    have HV3 := Lib.hid (HV3.out.mono hb)
    have HV4 := Lib.hid (HV4.out.mono hb)
    have X10 := X10.mono hb
    have HV5 := Lib.hid (HV5.out.mono hb)
    have HV6 := Lib.hid (HV6.out.mono hb)
    have X12 := X12.mono hb
    have HV7 := Lib.hid (HV7.out.mono hb)
    have HV8 := Lib.hid (HV8.out.mono hb)
    have hE := hE.mono hb
    have hbw := Below.step hbw hb (Nat.le_refl _)
    clear hb
    obtain ⟨cX6_0, cX6_1, cX6_2, cX6_3, _, _, _, _⟩ := id X6
    obtain ⟨cX7_0, cX7_1, cX7_2, cX7_3, _, _, _, _⟩ := id X7
    go_wp2_with fail
    (with_reducible refine (Mul_q _ _ rb rc v108 (RatV.mk' HVc HVd) (RatV.mk' HVe HVf) S5 hE).mono ?_)
    rintro e v109 ⟨⟨ng9, ao9, n9, cap9, ng10, ao10, n10, cap10, rfl, HV9, HV10⟩, hb⟩
    have hM := hM.mono hb
    have X1 := X1.mono hb
    have X2 := X2.mono hb
    have X5 := X5.mono hb
    have X6 := X6.mono hb
    have X7 := X7.mono hb
    have HVa := Lib.hid (HVa.out.mono hb)
    have HVb := Lib.hid (HVb.out.mono hb)
    have HVc := Lib.hid (HVc.out.mono hb)
    have HVd := Lib.hid (HVd.out.mono hb)
    have HVe := Lib.hid (HVe.out.mono hb)
    have HVf := Lib.hid (HVf.out.mono hb)
    have HV1 := Lib.hid (HV1.out.mono hb)
    have HV2 := Lib.hid (HV2.out.mono hb)
    have X8 := X8.mono hb
    have HV3 := Lib.hid (HV3.out.mono hb)
    have HV4 := Lib.hid (HV4.out.mono hb)
    have X10 := X10.mono hb
    have HV5 := Lib.hid (HV5.out.mono hb)
    have HV6 := Lib.hid (HV6.out.mono hb)
    have X12 := X12.mono hb
    have HV7 := Lib.hid (HV7.out.mono hb)
    have HV8 := Lib.hid (HV8.out.mono hb)
    have X14 := X14.mono hb
    have hE := hE.mono hb
    have hbw := Below.step hbw hb (Nat.le_refl _)
    clear hb
    clear cX6_0 cX6_1 cX6_2 cX6_3 cX7_0 cX7_1 cX7_2 cX7_3
    go_upto_region 9 with fail
    have lX16X1 := X1.lt
    have lX16X2 := X2.lt
    have lX16X5 := X5.lt
    have lX16X6 := X6.lt
    have lX16X7 := X7.lt
    have lX16X8 := X8.lt
    have lX16X10 := X10.lt
    have lX16X12 := X12.lt
    have lX16X14 := X14.lt
    have X16 := Box4.new v109 (.bool ng9) (.slice ao9 n9 cap9) (.bool ng10) (.slice ao10 n10 cap10) 29
    have hb := below_alloc v109 (.cells #[.bool ng9, .slice ao9 n9 cap9, .bool ng10, .slice ao10 n10 cap10] 29)
    generalize v109.alloc (.cells #[.bool ng9, .slice ao9 n9 cap9, .bool ng10, .slice ao10 n10 cap10] 29) = v110 at *
    have hM := hM.mono hb
    have X1 := X1.mono hb
    have X2 := X2.mono hb
    have X5 := X5.mono hb
    have X6 := X6.mono hb
    have X7 := X7.mono hb
    have HVa := Lib.hid (HVa.out.mono hb)
    have HVb := Lib.hid (HVb.out.mono hb)
    have HVc := Lib.hid (HVc.out.mono hb)
    have HVd := Lib.hid (HVd.out.mono hb)
    have HVe := Lib.hid (HVe.out.mono hb)
    have HVf := Lib.hid (HVf.out.mono hb)
    have HV1 := Lib.hid (HV1.out.mono hb)
    have HV2 := Lib.hid (HV2.out.mono hb)
    have X8 := X8.mono hb
    have HV3 := Lib.hid (HV3.out.mono hb)
    have HV4 := Lib.hid (HV4.out.mono hb)
    have X10 := X10.mono hb
    have HV5 := Lib.hid (HV5.out.mono hb)
    have HV6 := Lib.hid (HV6.out.mono hb)
    have X12 := X12.mono hb
    have HV7 := Lib.hid (HV7.out.mono hb)
    have HV8 := Lib.hid (HV8.out.mono hb)
    have X14 := X14.mono hb
    have HV9 := Lib.hid (HV9.out.mono hb)
    have HV10 := Lib.hid (HV10.out.mono hb)
    have hE := hE.mono hb
    have hbw := Below.step hbw hb (Nat.le_refl _)
    clear hb
    obtain ⟨cX14_0, cX14_1, cX14_2, cX14_3, _, _, _, _⟩ := id X14
    obtain ⟨cX16_0, cX16_1, cX16_2, cX16_3, _, _, _, _⟩ := id X16
    go_wp2_with fail
    (with_reducible refine (Add_q _ _ (ra * rc) (rb * rc) v110 (RatV.mk' HV7 HV8) (RatV.mk' HV9 HV10) S6 hE).mono ?_)
    rintro e v111 ⟨⟨ng11, ao11, n11, cap11, ng12, ao12, n12, cap12, rfl, HV11, HV12⟩, hb⟩
    have hM := hM.mono hb
    have X1 := X1.mono hb
    have X2 := X2.mono hb
    have X5 := X5.mono hb
    have X6 := X6.mono hb
    have X7 := X7.mono hb
    have HVa := Lib.hid (HVa.out.mono hb)
    have HVb := Lib.hid (HVb.out.mono hb)
    have HVc := Lib.hid (HVc.out.mono hb)
    have HVd := Lib.hid (HVd.out.mono hb)
    have HVe := Lib.hid (HVe.out.mono hb)
    have HVf := Lib.hid (HVf.out.mono hb)
    have HV1 := Lib.hid (HV1.out.mono hb)
    have HV2 := Lib.hid (HV2.out.mono hb)
    have X8 := X8.mono hb
    have HV3 := Lib.hid (HV3.out.mono hb)
    have HV4 := Lib.hid (HV4.out.mono hb)
    have X10 := X10.mono hb
    have HV5 := Lib.hid (HV5.out.mono hb)
    have HV6 := Lib.hid (HV6.out.mono hb)
    have X12 := X12.mono hb
    have HV7 := Lib.hid (HV7.out.mono hb)
    have HV8 := Lib.hid (HV8.out.mono hb)
    have X14 := X14.mono hb
    have HV9 := Lib.hid (HV9.out.mono hb)
    have HV10 := Lib.hid (HV10.out.mono hb)
    have X16 := X16.mono hb
    have hE := hE.mono hb
    have hbw := Below.step hbw hb (Nat.le_refl _)
    clear hb
    clear cX14_0 cX14_1 cX14_2 cX14_3 cX16_0 cX16_1 cX16_2 cX16_3
    go_upto_region 10 with fail
    have lX18X1 := X1.lt
    have lX18X2 := X2.lt
    have lX18X5 := X5.lt
    have lX18X6 := X6.lt
    have lX18X7 := X7.lt
    have lX18X8 := X8.lt
    have lX18X10 := X10.lt
    have lX18X12 := X12.lt
    have lX18X14 := X14.lt
    have lX18X16 := X16.lt
    have X18 := Box4.new v111 (.bool ng11) (.slice ao11 n11 cap11) (.bool ng12) (.slice ao12 n12 cap12) 29
    have hb := below_alloc v111 (.cells #[.bool ng11, .slice ao11 n11 cap11, .bool ng12, .slice ao12 n12 cap12] 29)
    generalize v111.alloc (.cells #[.bool ng11, .slice ao11 n11 cap11, .bool ng12, .slice ao12 n12 cap12] 29) = v112 at *
    have hM := hM.mono hb
    have X1 := X1.mono hb
    have X2 := X2.mono hb
    have X5 := X5.mono hb
    have X6 := X6.mono hb
    have X7 := X7.mono hb
    have HVa := Lib.hid (HVa.out.mono hb)
    have HVb := Lib.hid (HVb.out.mono hb)
    have HVc := Lib.hid (HVc.out.mono hb)
    have HVd := Lib.hid (HVd.out.mono hb)
    have HVe := Lib.hid (HVe.out.mono hb)
    have HVf := Lib.hid (HVf.out.mono hb)
    have HV1 := Lib.hid (HV1.out.mono hb)
    have HV2 := Lib.hid (HV2.out.mono hb)
    have X8 := X8.mono hb
    have HV3 := Lib.hid (HV3.out.mono hb)
    have HV4 := Lib.hid (HV4.out.mono hb)
    have X10 := X10.mono hb
    have HV5 := Lib.hid (HV5.out.mono hb)
    have HV6 := Lib.hid (HV6.out.mono hb)
    have X12 := X12.mono hb
    have HV7 := Lib.hid (HV7.out.mono hb)
    have HV8 := Lib.hid (HV8.out.mono hb)
    have X14 := X14.mono hb
    have HV9 := Lib.hid (HV9.out.mono hb)
    have HV10 := Lib.hid (HV10.out.mono hb)
    have X16 := X16.mono hb
    have HV11 := Lib.hid (HV11.out.mono hb)
    have HV12 := Lib.hid (HV12.out.mono hb)
    have hE := hE.mono hb
    have hbw := Below.step hbw hb (Nat.le_refl _)
    clear hb
    obtain ⟨cX8_0, cX8_1, cX8_2, cX8_3, _, _, _, _⟩ := id X8
    obtain ⟨cX7_0, cX7_1, cX7_2, cX7_3, _, _, _, _⟩ := id X7
    go_wp2_with fail
    (with_reducible refine (Mul_q _ _ (ra + rb) rc v112 (RatV.mk' HV1 HV2) (RatV.mk' HVe HVf) S7 hE).mono ?_)
    rintro e v113 ⟨⟨ng13, ao13, n13, cap13, ng14, ao14, n14, cap14, rfl, HV13, HV14⟩, hb⟩
    have hM := hM.mono hb
    have X1 := X1.mono hb
    have X2 := X2.mono hb
    have X5 := X5.mono hb
    have X6 := X6.mono hb
    have X7 := X7.mono hb
    have HVa := Lib.hid (HVa.out.mono hb)
    have HVb := Lib.hid (HVb.out.mono hb)
    have HVc := Lib.hid (HVc.out.mono hb)
    have HVd := Lib.hid (HVd.out.mono hb)
    have HVe := Lib.hid (HVe.out.mono hb)
    have HVf := Lib.hid (HVf.out.mono hb)
    have HV1 := Lib.hid (HV1.out.mono hb)
    have HV2 := Lib.hid (HV2.out.mono hb)
    have X8 := X8.mono hb
    have HV3 := Lib.hid (HV3.out.mono hb)
    have HV4 := Lib.hid (HV4.out.mono hb)
    have X10 := X10.mono hb
    have HV5 := Lib.hid (HV5.out.mono hb)
    have HV6 := Lib.hid (HV6.out.mono hb)
    have X12 := X12.mono hb
    have HV7 := Lib.hid (HV7.out.mono hb)
    have HV8 := Lib.hid (HV8.out.mono hb)
    have X14 := X14.mono hb
    have HV9 := Lib.hid (HV9.out.mono hb)
    have HV10 := Lib.hid (HV10.out.mono hb)
    have X16 := X16.mono hb
    have HV11 := Lib.hid (HV11.out.mono hb)
    have HV12 := Lib.hid (HV12.out.mono hb)
    have X18 := X18.mono hb
    have hE := hE.mono hb
    have hbw := Below.step hbw hb (Nat.le_refl _)
    clear hb
    clear cX8_0 cX8_1 cX8_2 cX8_3 cX7_0 cX7_1 cX7_2 cX7_3
    go_upto_region 11 with fail
    have lX20X1 := X1.lt
    have lX20X2 := X2.lt
    have lX20X5 := X5.lt
    have lX20X6 := X6.lt
    have lX20X7 := X7.lt
    have lX20X8 := X8.lt
    have lX20X10 := X10.lt
    have lX20X12 := X12.lt
    have lX20X14 := X14.lt
    have lX20X16 := X16.lt
    have lX20X18 := X18.lt
    have X20 := Box4.new v113 (.bool ng13) (.slice ao13 n13 cap13) (.bool ng14) (.slice ao14 n14 cap14) 29
    have hb := below_alloc v113 (.cells #[.bool ng13, .slice ao13 n13 cap13, .bool ng14, .slice ao14 n14 cap14] 29)
    generalize v113.alloc (.cells #[.bool ng13, .slice ao13 n13 cap13, .bool ng14, .slice ao14 n14 cap14] 29) = v114 at *
    have hM := hM.mono hb
    have X1 := X1.mono hb
    have X2 := X2.mono hb
    have X5 := X5.mono hb
    have X6 := X6.mono hb
    have X7 := X7.mono hb
    have HVa := Lib.hid (HVa.out.mono hb)
    have HVb := Lib.hid (HVb.out.mono hb)
    have HVc := Lib.hid (HVc.out.mono hb)
    have HVd := Lib.hid (HVd.out.mono hb)
    have HVe := Lib.hid (HVe.out.mono hb)
    have HVf := Lib.hid (HVf.out.mono hb)
    have HV1 := Lib.hid (HV1.out.mono hb)
    have HV2 := Lib.hid (HV2.out.mono hb)
    have X8 := X8.mono hb
    have HV3 := Lib.hid (HV3.out.mono hb)
    have HV4 := Lib.hid (HV4.out.mono hb)
    have X10 := X10.mono hb
    have HV5 := Lib.hid (HV5.out.mono hb)
    have HV6 := Lib.hid (HV6.out.mono hb)
    have X12 := X12.mono hb
    have HV7 := Lib.hid (HV7.out.mono hb)
    have HV8 := Lib.hid (HV8.out.mono hb)
    have X14 := X14.mono hb
    have HV9 := Lib.hid (HV9.out.mono hb)
    have HV10 := Lib.hid (HV10.out.mono hb)
    have X16 := X16.mono hb
    have HV11 := Lib.hid (HV11.out.mono hb)
    have HV12 := Lib.hid (HV12.out.mono hb)
    have X18 := X18.mono hb
    have HV13 := Lib.hid (HV13.out.mono hb)
    have HV14 := Lib.hid (HV14.out.mono hb)
    have hE := hE.mono hb
    have hbw := Below.step hbw hb (Nat.le_refl _)
    clear hb
    obtain ⟨cX8_0, cX8_1, cX8_2, cX8_3, _, _, _, _⟩ := id X8
    obtain ⟨cX10_0, cX10_1, cX10_2, cX10_3, _, _, _, _⟩ := id X10
    go_wp2_with fail
    (with_reducible refine (eqQ_same _ _ _ _ v114 E1 HV1.out HV2.out HV3.out HV4.out hE).mono ?_)
    rintro e v115 ⟨rfl, hb⟩
    have hM := hM.mono hb
    have X1 := X1.mono hb
    have X2 := X2.mono hb
    have X5 := X5.mono hb
    have X6 := X6.mono hb
    have X7 := X7.mono hb
    have HVa := Lib.hid (HVa.out.mono hb)
    have HVb := Lib.hid (HVb.out.mono hb)
    have HVc := Lib.hid (HVc.out.mono hb)
    have HVd := Lib.hid (HVd.out.mono hb)
    have HVe := Lib.hid (HVe.out.mono hb)
    have HVf := Lib.hid (HVf.out.mono hb)
    have HV1 := Lib.hid (HV1.out.mono hb)
    have HV2 := Lib.hid (HV2.out.mono hb)
    have X8 := X8.mono hb
    have HV3 := Lib.hid (HV3.out.mono hb)
    have HV4 := Lib.hid (HV4.out.mono hb)
    have X10 := X10.mono hb
    have HV5 := Lib.hid (HV5.out.mono hb)
    have HV6 := Lib.hid (HV6.out.mono hb)
    have X12 := X12.mono hb
    have HV7 := Lib.hid (HV7.out.mono hb)
    have HV8 := Lib.hid (HV8.out.mono hb)
    have X14 := X14.mono hb
    have HV9 := Lib.hid (HV9.out.mono hb)
    have HV10 := Lib.hid (HV10.out.mono hb)
    have X16 := X16.mono hb
    have HV11 := Lib.hid (HV11.out.mono hb)
    have HV12 := Lib.hid (HV12.out.mono hb)
    have X18 := X18.mono hb
    have HV13 := Lib.hid (HV13.out.mono hb)
    have HV14 := Lib.hid (HV14.out.mono hb)
    have X20 := X20.mono hb
    have hE := hE.mono hb
    have hbw := Below.step hbw hb (Nat.le_refl _)
    clear hb
    clear cX8_0 cX8_1 cX8_2 cX8_3 cX10_0 cX10_1 cX10_2 cX10_3
    obtain ⟨cX12_0, cX12_1, cX12_2, cX12_3, _, _, _, _⟩ := id X12
    obtain ⟨cX5_0, cX5_1, cX5_2, cX5_3, _, _, _, _⟩ := id X5
    go_wp2_with fail
    (with_reducible refine (eqQ_same _ _ _ _ v115 E2 HV5.out HV6.out HVa.out HVb.out hE).mono ?_)
    rintro e v116 ⟨rfl, hb⟩
    have hM := hM.mono hb
    have X1 := X1.mono hb
    have X2 := X2.mono hb
    have X5 := X5.mono hb
    have X6 := X6.mono hb
    have X7 := X7.mono hb
    have HVa := Lib.hid (HVa.out.mono hb)
    have HVb := Lib.hid (HVb.out.mono hb)
    have HVc := Lib.hid (HVc.out.mono hb)
    have HVd := Lib.hid (HVd.out.mono hb)
    have HVe := Lib.hid (HVe.out.mono hb)
    have HVf := Lib.hid (HVf.out.mono hb)
    have HV1 := Lib.hid (HV1.out.mono hb)
    have HV2 := Lib.hid (HV2.out.mono hb)
    have X8 := X8.mono hb
    have HV3 := Lib.hid (HV3.out.mono hb)
    have HV4 := Lib.hid (HV4.out.mono hb)
    have X10 := X10.mono hb
    have HV5 := Lib.hid (HV5.out.mono hb)
    have HV6 := Lib.hid (HV6.out.mono hb)
    have X12 := X12.mono hb
    have HV7 := Lib.hid (HV7.out.mono hb)
    have HV8 := Lib.hid (HV8.out.mono hb)
    have X14 := X14.mono hb
    have HV9 := Lib.hid (HV9.out.mono hb)
    have HV10 := Lib.hid (HV10.out.mono hb)
    have X16 := X16.mono hb
    have HV11 := Lib.hid (HV11.out.mono hb)
    have HV12 := Lib.hid (HV12.out.mono hb)
    have X18 := X18.mono hb
    have HV13 := Lib.hid (HV13.out.mono hb)
    have HV14 := Lib.hid (HV14.out.mono hb)
    have X20 := X20.mono hb
    have hE := hE.mono hb
    have hbw := Below.step hbw hb (Nat.le_refl _)
    clear hb
    clear cX12_0 cX12_1 cX12_2 cX12_3 cX5_0 cX5_1 cX5_2 cX5_3
    obtain ⟨cX18_0, cX18_1, cX18_2, cX18_3, _, _, _, _⟩ := id X18
    obtain ⟨cX20_0, cX20_1, cX20_2, cX20_3, _, _, _, _⟩ := id X20
    go_wp2_with fail
    (with_reducible refine (eqQ_same _ _ _ _ v116 E3 HV11.out HV12.out HV13.out HV14.out hE).mono ?_)
    rintro e v117 ⟨rfl, hb⟩
    have hM := hM.mono hb
    have X1 := X1.mono hb
    have X2 := X2.mono hb
    have X5 := X5.mono hb
    have X6 := X6.mono hb
    have X7 := X7.mono hb
    have HVa := Lib.hid (HVa.out.mono hb)
    have HVb := Lib.hid (HVb.out.mono hb)
    have HVc := Lib.hid (HVc.out.mono hb)
    have HVd := Lib.hid (HVd.out.mono hb)
    have HVe := Lib.hid (HVe.out.mono hb)
    have HVf := Lib.hid (HVf.out.mono hb)
    have HV1 := Lib.hid (HV1.out.mono hb)
    have HV2 := Lib.hid (HV2.out.mono hb)
    have X8 := X8.mono hb
    have HV3 := Lib.hid (HV3.out.mono hb)
    have HV4 := Lib.hid (HV4.out.mono hb)
    have X10 := X10.mono hb
    have HV5 := Lib.hid (HV5.out.mono hb)
    have HV6 := Lib.hid (HV6.out.mono hb)
    have X12 := X12.mono hb
    have HV7 := Lib.hid (HV7.out.mono hb)
    have HV8 := Lib.hid (HV8.out.mono hb)
    have X14 := X14.mono hb
    have HV9 := Lib.hid (HV9.out.mono hb)
    have HV10 := Lib.hid (HV10.out.mono hb)
    have X16 := X16.mono hb
    have HV11 := Lib.hid (HV11.out.mono hb)
    have HV12 := Lib.hid (HV12.out.mono hb)
    have X18 := X18.mono hb
    have HV13 := Lib.hid (HV13.out.mono hb)
    have HV14 := Lib.hid (HV14.out.mono hb)
    have X20 := X20.mono hb
    have hE := hE.mono hb
    have hbw := Below.step hbw hb (Nat.le_refl _)
    clear hb
    clear cX18_0 cX18_1 cX18_2 cX18_3 cX20_0 cX20_1 cX20_2 cX20_3
    by_cases h0 : a2 = 0
    · have HZ : Hid (rc.num = 0) := Lib.hid (HN2.out.1 h0)
      have hzb : (a2 == 0) = true := by simp [h0]
      clear h0
      obtain ⟨cX14_0, cX14_1, cX14_2, cX14_3, _, _, _, _⟩ := id X14
      obtain ⟨cX7_0, cX7_1, cX7_2, cX7_3, _, _, _, _⟩ := id X7
      go_wp2_with fail
      (with_reducible refine (Div_qzero _ _ (ra * rc) rc v117 (RatV.mk' HV7 HV8) (RatV.mk' HVe HVf) HZ hE).mono ?_)
      rintro e v118 ⟨rfl, hb⟩
      have hM := hM.mono hb
      have X1 := X1.mono hb
      have X2 := X2.mono hb
      have X5 := X5.mono hb
      have X6 := X6.mono hb
      have X7 := X7.mono hb
      have HVa := Lib.hid (HVa.out.mono hb)
      have HVb := Lib.hid (HVb.out.mono hb)
      have HVc := Lib.hid (HVc.out.mono hb)
      have HVd := Lib.hid (HVd.out.mono hb)
      have HVe := Lib.hid (HVe.out.mono hb)
      have HVf := Lib.hid (HVf.out.mono hb)
      have HV1 := Lib.hid (HV1.out.mono hb)
      have HV2 := Lib.hid (HV2.out.mono hb)
      have X8 := X8.mono hb
      have HV3 := Lib.hid (HV3.out.mono hb)
      have HV4 := Lib.hid (HV4.out.mono hb)
      have X10 := X10.mono hb
      have HV5 := Lib.hid (HV5.out.mono hb)
      have HV6 := Lib.hid (HV6.out.mono hb)
      have X12 := X12.mono hb
      have HV7 := Lib.hid (HV7.out.mono hb)
      have HV8 := Lib.hid (HV8.out.mono hb)
      have X14 := X14.mono hb
      have HV9 := Lib.hid (HV9.out.mono hb)
      have HV10 := Lib.hid (HV10.out.mono hb)
      have X16 := X16.mono hb
      have HV11 := Lib.hid (HV11.out.mono hb)
      have HV12 := Lib.hid (HV12.out.mono hb)
      have X18 := X18.mono hb
      have HV13 := Lib.hid (HV13.out.mono hb)
      have HV14 := Lib.hid (HV14.out.mono hb)
      have X20 := X20.mono hb
      have hE := hE.mono hb
      have hbw := Below.step hbw hb (Nat.le_refl _)
      clear hb
      clear cX14_0 cX14_1 cX14_2 cX14_3 cX7_0 cX7_1 cX7_2 cX7_3
      go_upto_region 14 with fail
      have lX22X1 := X1.lt
      have lX22X2 := X2.lt
      have lX22X5 := X5.lt
      have lX22X6 := X6.lt
      have lX22X7 := X7.lt
      have lX22X8 := X8.lt
      have lX22X10 := X10.lt
      have lX22X12 := X12.lt
      have lX22X14 := X14.lt
      have lX22X16 := X16.lt
      have lX22X18 := X18.lt
      have lX22X20 := X20.lt
      have X22 := Box4.new v118 (.bool false) (.slice none 0 0) (.bool false) (.slice none 0 0) 29
      have hb := below_alloc v118 (.cells #[.bool false, .slice none 0 0, .bool false, .slice none 0 0] 29)
      generalize v118.alloc (.cells #[.bool false, .slice none 0 0, .bool false, .slice none 0 0] 29) = v119 at *
      have hM := hM.mono hb
      have X1 := X1.mono hb
      have X2 := X2.mono hb
      have X5 := X5.mono hb
      have X6 := X6.mono hb
      have X7 := X7.mono hb
      have HVa := Lib.hid (HVa.out.mono hb)
      have HVb := Lib.hid (HVb.out.mono hb)
      have HVc := Lib.hid (HVc.out.mono hb)
      have HVd := Lib.hid (HVd.out.mono hb)
      have HVe := Lib.hid (HVe.out.mono hb)
      have HVf := Lib.hid (HVf.out.mono hb)
      have HV1 := Lib.hid (HV1.out.mono hb)
      have HV2 := Lib.hid (HV2.out.mono hb)
      have X8 := X8.mono hb
      have HV3 := Lib.hid (HV3.out.mono hb)
      have HV4 := Lib.hid (HV4.out.mono hb)
      have X10 := X10.mono hb
      have HV5 := Lib.hid (HV5.out.mono hb)
      have HV6 := Lib.hid (HV6.out.mono hb)
      have X12 := X12.mono hb
      have HV7 := Lib.hid (HV7.out.mono hb)
      have HV8 := Lib.hid (HV8.out.mono hb)
      have X14 := X14.mono hb
      have HV9 := Lib.hid (HV9.out.mono hb)
      have HV10 := Lib.hid (HV10.out.mono hb)
      have X16 := X16.mono hb
      have HV11 := Lib.hid (HV11.out.mono hb)
      have HV12 := Lib.hid (HV12.out.mono hb)
      have X18 := X18.mono hb
      have HV13 := Lib.hid (HV13.out.mono hb)
      have HV14 := Lib.hid (HV14.out.mono hb)
      have X20 := X20.mono hb
      have hE := hE.mono hb
      have hbw := Below.step hbw hb (Nat.le_refl _)
      clear hb
      obtain ⟨cX1_0, cX1_1, cX1_2, _, _, _⟩ := id X1
      go_wp2
      go_ret
      exact ⟨rfl, hbw⟩
    · have HZ : Hid (DivS (ra * rc) rc ∧ rc.num ≠ 0) := Lib.hid ⟨S8.out, fun h => h0 (HN2.out.2 h)⟩
      have hzb : (a2 == 0) = false := by simp [h0]
      have E4 : Hid ((ra * rc / rc).num = ra.num ∧ ((ra * rc / rc).den : Int) = (ra.den : Int)) := Lib.hid (by rw [Rat.mul_div_cancel (fun h => HZ.out.2 (by rw [h]; rfl))]; exact ⟨rfl, rfl⟩)
      clear h0
      obtain ⟨cX14_0, cX14_1, cX14_2, cX14_3, _, _, _, _⟩ := id X14
      obtain ⟨cX7_0, cX7_1, cX7_2, cX7_3, _, _, _, _⟩ := id X7
      go_wp2_with fail
      (with_reducible refine (Div_q _ _ (ra * rc) rc v117 (RatV.mk' HV7 HV8) (RatV.mk' HVe HVf) HZ hE).mono ?_)
      rintro e v118 ⟨⟨ng15, ao15, n15, cap15, ng16, ao16, n16, cap16, rfl, HV15, HV16⟩, hb⟩
      have hM := hM.mono hb
      have X1 := X1.mono hb
      have X2 := X2.mono hb
      have X5 := X5.mono hb
      have X6 := X6.mono hb
      have X7 := X7.mono hb
      have HVa := Lib.hid (HVa.out.mono hb)
      have HVb := Lib.hid (HVb.out.mono hb)
      have HVc := Lib.hid (HVc.out.mono hb)
      have HVd := Lib.hid (HVd.out.mono hb)
      have HVe := Lib.hid (HVe.out.mono hb)
      have HVf := Lib.hid (HVf.out.mono hb)
      have HV1 := Lib.hid (HV1.out.mono hb)
      have HV2 := Lib.hid (HV2.out.mono hb)
      have X8 := X8.mono hb
      have HV3 := Lib.hid (HV3.out.mono hb)
      have HV4 := Lib.hid (HV4.out.mono hb)
      have X10 := X10.mono hb
      have HV5 := Lib.hid (HV5.out.mono hb)
      have HV6 := Lib.hid (HV6.out.mono hb)
      have X12 := X12.mono hb
      have HV7 := Lib.hid (HV7.out.mono hb)
      have HV8 := Lib.hid (HV8.out.mono hb)
      have X14 := X14.mono hb
      have HV9 := Lib.hid (HV9.out.mono hb)
      have HV10 := Lib.hid (HV10.out.mono hb)
      have X16 := X16.mono hb
      have HV11 := Lib.hid (HV11.out.mono hb)
      have HV12 := Lib.hid (HV12.out.mono hb)
      have X18 := X18.mono hb
      have HV13 := Lib.hid (HV13.out.mono hb)
      have HV14 := Lib.hid (HV14.out.mono hb)
      have X20 := X20.mono hb
      have hE := hE.mono hb
      have hbw := Below.step hbw hb (Nat.le_refl _)
      clear hb
      clear cX14_0 cX14_1 cX14_2 cX14_3 cX7_0 cX7_1 cX7_2 cX7_3
      go_upto_region 14 with fail
      have lX22X1 := X1.lt
      have lX22X2 := X2.lt
      have lX22X5 := X5.lt
      have lX22X6 := X6.lt
      have lX22X7 := X7.lt
      have lX22X8 := X8.lt
      have lX22X10 := X10.lt
      have lX22X12 := X12.lt
      have lX22X14 := X14.lt
      have lX22X16 := X16.lt
      have lX22X18 := X18.lt
      have lX22X20 := X20.lt
      have X22 := Box4.new v118 (.bool ng15) (.slice ao15 n15 cap15) (.bool ng16) (.slice ao16 n16 cap16) 29
      have hb := below_alloc v118 (.cells #[.bool ng15, .slice ao15 n15 cap15, .bool ng16, .slice ao16 n16 cap16] 29)
      generalize v118.alloc (.cells #[.bool ng15, .slice ao15 n15 cap15, .bool ng16, .slice ao16 n16 cap16] 29) = v119 at *
      have hM := hM.mono hb
      have X1 := X1.mono hb
      have X2 := X2.mono hb
      have X5 := X5.mono hb
      have X6 := X6.mono hb
      have X7 := X7.mono hb
      have HVa := Lib.hid (HVa.out.mono hb)
      have HVb := Lib.hid (HVb.out.mono hb)
      have HVc := Lib.hid (HVc.out.mono hb)
      have HVd := Lib.hid (HVd.out.mono hb)
      have HVe := Lib.hid (HVe.out.mono hb)
      have HVf := Lib.hid (HVf.out.mono hb)
      have HV1 := Lib.hid (HV1.out.mono hb)
      have HV2 := Lib.hid (HV2.out.mono hb)
      have X8 := X8.mono hb
      have HV3 := Lib.hid (HV3.out.mono hb)
      have HV4 := Lib.hid (HV4.out.mono hb)
      have X10 := X10.mono hb
      have HV5 := Lib.hid (HV5.out.mono hb)
      have HV6 := Lib.hid (HV6.out.mono hb)
      have X12 := X12.mono hb
      have HV7 := Lib.hid (HV7.out.mono hb)
      have HV8 := Lib.hid (HV8.out.mono hb)
      have X14 := X14.mono hb
      have HV9 := Lib.hid (HV9.out.mono hb)
      have HV10 := Lib.hid (HV10.out.mono hb)
      have X16 := X16.mono hb
      have HV11 := Lib.hid (HV11.out.mono hb)
      have HV12 := Lib.hid (HV12.out.mono hb)
      have X18 := X18.mono hb
      have HV13 := Lib.hid (HV13.out.mono hb)
      have HV14 := Lib.hid (HV14.out.mono hb)
      have X20 := X20.mono hb
      have HV15 := Lib.hid (HV15.out.mono hb)
      have HV16 := Lib.hid (HV16.out.mono hb)
      have hE := hE.mono hb
      have hbw := Below.step hbw hb (Nat.le_refl _)
      clear hb
      obtain ⟨cX22_0, cX22_1, cX22_2, cX22_3, _, _, _, _⟩ := id X22
      obtain ⟨cX5_0, cX5_1, cX5_2, cX5_3, _, _, _, _⟩ := id X5
      obtain ⟨cX1_0, cX1_1, cX1_2, _, _, _⟩ := id X1
      go_wp2_with fail
      (with_reducible refine (eqQ_same _ _ _ _ v119 E4 HV15.out HV16.out HVa.out HVb.out hE).mono ?_)
      rintro e v120 ⟨rfl, hb⟩
      have hM := hM.mono hb
      have X1 := X1.mono hb
      have X2 := X2.mono hb
      have X5 := X5.mono hb
      have X6 := X6.mono hb
      have X7 := X7.mono hb
      have HVa := Lib.hid (HVa.out.mono hb)
      have HVb := Lib.hid (HVb.out.mono hb)
      have HVc := Lib.hid (HVc.out.mono hb)
      have HVd := Lib.hid (HVd.out.mono hb)
      have HVe := Lib.hid (HVe.out.mono hb)
      have HVf := Lib.hid (HVf.out.mono hb)
      have HV1 := Lib.hid (HV1.out.mono hb)
      have HV2 := Lib.hid (HV2.out.mono hb)
      have X8 := X8.mono hb
      have HV3 := Lib.hid (HV3.out.mono hb)
      have HV4 := Lib.hid (HV4.out.mono hb)
      have X10 := X10.mono hb
      have HV5 := Lib.hid (HV5.out.mono hb)
      have HV6 := Lib.hid (HV6.out.mono hb)
      have X12 := X12.mono hb
      have HV7 := Lib.hid (HV7.out.mono hb)
      have HV8 := Lib.hid (HV8.out.mono hb)
      have X14 := X14.mono hb
      have HV9 := Lib.hid (HV9.out.mono hb)
      have HV10 := Lib.hid (HV10.out.mono hb)
      have X16 := X16.mono hb
      have HV11 := Lib.hid (HV11.out.mono hb)
      have HV12 := Lib.hid (HV12.out.mono hb)
      have X18 := X18.mono hb
      have HV13 := Lib.hid (HV13.out.mono hb)
      have HV14 := Lib.hid (HV14.out.mono hb)
      have X20 := X20.mono hb
      have HV15 := Lib.hid (HV15.out.mono hb)
      have HV16 := Lib.hid (HV16.out.mono hb)
      have X22 := X22.mono hb
      have hE := hE.mono hb
      have hbw := Below.step hbw hb (Nat.le_refl _)
      clear hb
      clear cX22_0 cX22_1 cX22_2 cX22_3 cX5_0 cX5_1 cX5_2 cX5_3 cX1_0 cX1_1 cX1_2
      go_wp2
      go_ret
      exact ⟨rfl, hbw⟩

end Go.Proofs.YtgenhkakcbedaaaGreatDoor
