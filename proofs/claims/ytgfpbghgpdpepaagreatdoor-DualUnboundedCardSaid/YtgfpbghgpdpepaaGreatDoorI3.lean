import Derived.Test.YtgfpbghgpdpepaaGreatDoorI2
import Derived.Deep.RegionHeld3
import Derived.Deep.RegionHeldLaw
set_option maxRecDepth 100000
set_option maxHeartbeats 25600000
namespace Go.Proofs.YtgfpbghgpdpepaaGreatDoor
open Go.RowKit
def RawV (w : World) (v : Value) (x : Bool × List Nat) : Prop := ∃ ao cap, v = .agg #[.bool x.1, .slice ao x.2.length cap] ∧ U w ao x.2 ∧ x.2.length ≤ 1000000000
theorem RawV.mono {w w' : World} {v : Value} {x : Bool × List Nat} (h : RawV w v x) (hb : Below w.heap.size w w') : RawV w' v x := by
 obtain ⟨ao, cap, e, h1, h2⟩ := h;exact ⟨ao, cap, e, h1.mono hb, h2⟩
theorem check2 (w : World) (g : Nat) (hg : w.heap.size = g) (n1 n2 : Bool) (a1 a2 : Option Addr) (l1 l2 : List Nat) (c1 c2 : Nat) (h1 : U w a1 l1) (h2 : U w a2 l2) (m1 : l1.length ≤ 1000000000) (m2 : l2.length ≤ 1000000000) (hE : Env w) :
  Calls Tryz.prog 166 #[.slice (some ⟨g, 0, none⟩) 2 2] (w.alloc (.cells #[.bool n1, .slice a1 l1.length c1, .bool n2, .slice a2 l2.length c2] 32)) fun e w' =>
   (∃ r : Int, Hid (r = 0 ↔ validP n1 l1 ∧ validP n2 l2) ∧ Hid (r = 0 ∨ r = 1) ∧ e = .returned (.int .i64 r)) ∧ Below w.heap.size w w' := by
 subst hg;refine (check_any [(n1, l1), (n2, l2)] _ 2 _ (by simp) (Raws.two w n1 n2 a1 a2 l1 l2 c1 c2 32 h1 h2 m1 m2) (hE.mono (bA _ _))).mono ?_;rintro e w1 ⟨⟨r, HR, HR2, he⟩, hb1⟩;refine ⟨⟨r, hii ?_, HR2, he⟩, (bA w _).trans (hb1.mono (bA w _).size)⟩;rw [HR.out]; simp
theorem check1 (w : World) (g : Nat) (hg : w.heap.size = g) (n1 : Bool) (a1 : Option Addr) (l1 : List Nat) (c1 : Nat) (h1 : U w a1 l1) (m1 : l1.length ≤ 1000000000) (hE : Env w) :
  Calls Tryz.prog 166 #[.slice (some ⟨g, 0, none⟩) 1 1] (w.alloc (.cells #[.bool n1, .slice a1 l1.length c1] 32)) fun e w' =>
   (∃ r : Int, Hid (r = 0 ↔ validP n1 l1) ∧ Hid (r = 0 ∨ r = 1) ∧ e = .returned (.int .i64 r)) ∧ Below w.heap.size w w' := by
 subst hg;refine (check_any [(n1, l1)] _ 1 _ (by simp) (Raws.one w n1 a1 l1 c1 32 h1 m1) (hE.mono (bA _ _))).mono ?_;rintro e w1 ⟨⟨r, HR, HR2, he⟩, hb1⟩;refine ⟨⟨r, hii ?_, HR2, he⟩, (bA w _).trans (hb1.mono (bA w _).size)⟩;rw [HR.out]; simp
theorem Add_any (a b : Value) (x y : Int) (w : World) (ha : IntV w a x) (hb : IntV w b y) (hE : Env w) :
  Calls Tryz.prog 163 #[a, b] w fun e w' => ResZ w' (x + y) e ∧ Below w.heap.size w w' := by
 obtain ⟨n1, ao1, L1, c1, rfl, Hn1, HL1, HB1, hc1, hl1, hU1⟩ := ha;obtain ⟨n2, ao2, L2, c2, rfl, Hn2, HL2, HB2, hc2, hl2, hU2⟩ := hb;go_enter Tryz.func163, Tryz.ntmps163;go_wp2_with fail;obtain ⟨wx, hwx, hsz, B1, B2, B3, hbx⟩ := boxes3 w (.bool n1) (.slice ao1 L1.length c1) (.bool n2) (.slice ao2 L2.length c2) (.bool false) (.slice none 0 0) 32;rw [← hwx];clear hwx;(with_reducible refine (check2 wx _ hsz n1 n2 ao1 ao2 L1 L2 c1 c2 (hU1.mono hbx) (hU2.mono hbx) ?_ ?_ (hE.mono hbx)).mono ?_)
 ·omega
 ·omega
 rintro e w1 ⟨⟨r, HR, HR2, rfl⟩, hb1'⟩;obtain rfl : r = 0 := HR.out.2 ⟨validP_of x n1 L1 Hn1.out HL1.out HB1.out, validP_of y n2 L2 Hn2.out HL2.out HB2.out⟩;clear HR HR2;have B1 := B1.mono hb1';have B2 := B2.mono hb1';have B3 := B3.mono hb1';have hbw := Below.step hbx hb1' nl;have hV1 : IntV w1 (.agg #[.bool n1, .slice ao1 L1.length c1]) x := ⟨n1, ao1, L1, c1, rfl, Hn1, HL1, HB1, hc1, hl1, hU1.mono hbw⟩;have hV2 : IntV w1 (.agg #[.bool n2, .slice ao2 L2.length c2]) y := ⟨n2, ao2, L2, c2, rfl, Hn2, HL2, HB2, hc2, hl2, hU2.mono hbw⟩;have hE1 := hE.mono hbw;clear hU1 hU2 hE hsz;obtain ⟨a0, a1, _, _⟩ := B1;obtain ⟨b0, b1, _, _⟩ := B2;go_wp2_with fail;(with_reducible refine (add_any _ _ x y w1 hV1 hV2 hE1).mono ?_);rintro e w2 ⟨⟨ng, ao3, n3, cap3, k3, rfl, HR⟩, hb2⟩;obtain ⟨p0, p1, q0, q1⟩ := B3.mono hb2;go_wp2;refine bodyPost_ret (v := .tuple #[.agg #[.bool ng, .slice ao3 n3 cap3], .int .i64 k3]) (by simp [results, Tryz.results163, go_sem, p0, p1]) rfl ⟨⟨ng, ao3, n3, cap3, k3, rfl, hii (HR.out.put2 p0 p1 _ _)⟩, ?_⟩;exact Below.put2 (bu hbw hb2) (by omega) _ _
end Go.Proofs.YtgfpbghgpdpepaaGreatDoor
namespace Go.Proofs.YtgfpbghgpdpepaaGreatDoor
open Go.RowKit
theorem Sub_any (a b : Value) (x y : Int) (w : World) (ha : IntV w a x) (hb : IntV w b y) (hE : Env w) :
  Calls Tryz.prog 122 #[a, b] w fun e w' => ResZ w' (x - y) e ∧ Below w.heap.size w w' := by
 obtain ⟨n1, ao1, L1, c1, rfl, Hn1, HL1, HB1, hc1, hl1, hU1⟩ := ha;obtain ⟨n2, ao2, L2, c2, rfl, Hn2, HL2, HB2, hc2, hl2, hU2⟩ := hb;have hneg : ∃ n3 : Bool, Hid (n3 = decide (-y < 0)) ∧ ((L2 = [] ∧ n3 = false ∧ n2 = false) ∨ (L2 ≠ [] ∧ n3 = !n2)) := by
  refine ⟨decide (-y < 0), hii rfl, ?_⟩;have h1 := Hn2.out;have h2 := HL2.out
  by_cases h0 : L2 = []
  ·have : y = 0 := by rw [h0] at h2; have := Bi.limbs_eq_nil.1 h2.symm; omega
   exact .inl ⟨h0, by simp [this], by rw [h1, this]; rfl⟩
  ·have : y ≠ 0 := by rintro rfl; exact h0 (by rw [h2]; rfl)
   refine .inr ⟨h0, ?_⟩;rw [h1]
   by_cases h3 : y < 0
   ·have : ¬ (-y < 0) := by omega
    simp [h3]; omega
   ·have : -y < 0 := by omega
    simp [h3]; omega
 obtain ⟨n3, Hn3, hcase⟩ := hneg;have HC := hii hcase;clear hcase;go_enter Tryz.func122, Tryz.ntmps122;go_wp2_with fail;obtain ⟨wx, hwx, hsz, B1, B2, B3, hbx⟩ := boxes3 w (.bool n1) (.slice ao1 L1.length c1) (.bool n2) (.slice ao2 L2.length c2) (.bool false) (.slice none 0 0) 32;rw [← hwx];clear hwx;(with_reducible refine (check2 wx _ hsz n1 n2 ao1 ao2 L1 L2 c1 c2 (hU1.mono hbx) (hU2.mono hbx) ?_ ?_ (hE.mono hbx)).mono ?_)
 ·omega
 ·omega
 rintro e w1 ⟨⟨r, HR, HR2, rfl⟩, hb1'⟩;obtain rfl : r = 0 := HR.out.2 ⟨validP_of x n1 L1 Hn1.out HL1.out HB1.out, validP_of y n2 L2 Hn2.out HL2.out HB2.out⟩;clear HR HR2;have B1 := B1.mono hb1';have B2 := B2.mono hb1';have B3 := B3.mono hb1';have hbw := Below.step hbx hb1' nl;have hV1 : IntV w1 (.agg #[.bool n1, .slice ao1 L1.length c1]) x := ⟨n1, ao1, L1, c1, rfl, Hn1, HL1, HB1, hc1, hl1, hU1.mono hbw⟩;have hV2 : IntV w1 (.agg #[.bool n2, .slice ao2 L2.length c2]) y := ⟨n2, ao2, L2, c2, rfl, Hn2, HL2, HB2, hc2, hl2, hU2.mono hbw⟩;have hE1 := hE.mono hbw;have hV3 : IntV w1 (.agg #[.bool n3, .slice ao2 L2.length c2]) (-y) := ⟨n3, ao2, L2, c2, rfl, Hn3, hii (by rw [Int.natAbs_neg]; exact HL2.out), hii (by rw [Int.natAbs_neg]; exact HB2.out), hc2, hl2, hU2.mono hbw⟩;clear hU1 hU2 hE hsz;obtain ⟨a0, a1, _, _⟩ := B1;obtain ⟨b0, b1, _, _⟩ := B2;rcases HC.out with ⟨h0, rfl, rfl⟩ | ⟨h0, rfl⟩
 ·subst h0;simp only [List.length_nil] at hV3;go_wp2_with fail;(with_reducible refine (add_any _ _ x (-y) w1 hV1 hV3 hE1).mono ?_);rintro e w2 ⟨⟨ng, ao3, n3, cap3, k3, rfl, HR⟩, hb2⟩;rw [← Int.sub_eq_add_neg] at HR;obtain ⟨p0, p1, q0, q1⟩ := B3.mono hb2;go_wp2;refine bodyPost_ret (v := .tuple #[.agg #[.bool ng, .slice ao3 n3 cap3], .int .i64 k3]) (by simp [results, Tryz.results122, go_sem, p0, p1]) rfl ⟨⟨ng, ao3, n3, cap3, k3, rfl, hii (HR.out.put2 p0 p1 _ _)⟩, ?_⟩;exact Below.put2 (bu hbw hb2) (by omega) _ _
 ·have hL : 0 < L2.length := List.length_pos_iff.2 h0
  cases n2
  all_goals
   simp only [Bool.not_false, Bool.not_true] at hV3;go_wp2_with fail;(with_reducible refine (add_any _ _ x (-y) w1 hV1 hV3 hE1).mono ?_);rintro e w2 ⟨⟨ng, ao3, n3, cap3, k3, rfl, HR⟩, hb2⟩;rw [← Int.sub_eq_add_neg] at HR;obtain ⟨p0, p1, q0, q1⟩ := B3.mono hb2;go_wp2;refine bodyPost_ret (v := .tuple #[.agg #[.bool ng, .slice ao3 n3 cap3], .int .i64 k3]) (by simp [results, Tryz.results122, go_sem, p0, p1]) rfl ⟨⟨ng, ao3, n3, cap3, k3, rfl, hii (HR.out.put2 p0 p1 _ _)⟩, ?_⟩;exact Below.put2 (bu hbw hb2) (by omega) _ _
theorem Mul_any (a b : Value) (x y : Int) (w : World) (ha : IntV w a x) (hb : IntV w b y) (hE : Env w) :
  Calls Tryz.prog 164 #[a, b] w fun e w' => ResZ w' (x * y) e ∧ Below w.heap.size w w' := by
 obtain ⟨n1, ao1, L1, c1, rfl, Hn1, HL1, HB1, hc1, hl1, hU1⟩ := ha;obtain ⟨n2, ao2, L2, c2, rfl, Hn2, HL2, HB2, hc2, hl2, hU2⟩ := hb;go_enter Tryz.func164, Tryz.ntmps164;go_wp2_with fail;obtain ⟨wx, hwx, hsz, B1, B2, B3, hbx⟩ := boxes3 w (.bool n1) (.slice ao1 L1.length c1) (.bool n2) (.slice ao2 L2.length c2) (.bool false) (.slice none 0 0) 32;rw [← hwx];clear hwx;(with_reducible refine (check2 wx _ hsz n1 n2 ao1 ao2 L1 L2 c1 c2 (hU1.mono hbx) (hU2.mono hbx) ?_ ?_ (hE.mono hbx)).mono ?_)
 ·omega
 ·omega
 rintro e w1 ⟨⟨r, HR, HR2, rfl⟩, hb1'⟩;obtain rfl : r = 0 := HR.out.2 ⟨validP_of x n1 L1 Hn1.out HL1.out HB1.out, validP_of y n2 L2 Hn2.out HL2.out HB2.out⟩;clear HR HR2;have B1 := B1.mono hb1';have B2 := B2.mono hb1';have B3 := B3.mono hb1';have hbw := Below.step hbx hb1' nl;have hE1 := hE.mono hbw;have hbd := hbw.drew;have hX1 := hU1.mono hbd;have hX2 := hU2.mono hbd;have hEx := hE.mono hbd;have Ho1 : Hid (Bi.Ok L1) := hii (by rw [HL1.out]; exact Bi.limbs_ok _);have Ho2 : Hid (Bi.Ok L2) := hii (by rw [HL2.out]; exact Bi.limbs_ok _);have D1 := B1.mono ((Below.refl w1.heap.size w1).drew);have D2 := B2.mono ((Below.refl w1.heap.size w1).drew);have D3 := B3.mono ((Below.refl w1.heap.size w1).drew);clear hU1 hU2 hE hsz hE1;obtain ⟨a0, a1, _, _⟩ := B1;obtain ⟨b0, b1, _, _⟩ := B2;go_wp2_with fail;go_region_held3 (fun w' => w'.cell? ⟨w.heap.size, 0, none⟩ = some (.bool n1) ∧ w'.cell? ⟨w.heap.size + 1, 0, none⟩ = some (.bool n2) ∧ w'.cell? ⟨w.heap.size, 1, none⟩ = some (.slice ao1 L1.length c1) ∧ w'.cell? ⟨w.heap.size + 1, 1, none⟩ = some (.slice ao2 L2.length c2))
  (first | (with_reducible exact ⟨a0, b0, a1, b1⟩) | (with_reducible exact ⟨D1.c0, D2.c0, D1.c1, D2.c1⟩) | (with_reducible exact ⟨E1.c0, E2.c0, E1.c1, E2.c1⟩) | (with_reducible exact ⟨F1.c0, F2.c0, F1.c1, F2.c1⟩) | (simp [F1.c0, F2.c0, F1.c1, F2.c1, go_sem]; done))
  (first
   | (go_at_call 198; ((with_reducible refine (times_any L1 L2 _ _ _ _ _ ?_ ?_ Ho1.out Ho2.out hX1 hX2).mono ?_); (omega); (omega)); rintro e w2 ⟨ao, L, cap, hL, rfl, hcap, hUL, hb2⟩; have HL := hii hL; clear hL; have E1 := D1.mono hb2; have E2 := D2.mono hb2; have E3 := D3.mono hb2)
   | (go_at_call 170; ((with_reducible refine (result_any (!(n1 == n2)) _ _ _ _ ?_ hcap hUL (hii ?_) (hEx.mono hb2)).mono ?_); (rw [HL.out]; exact Nat.le_trans (Bi.limbs_length_le (Bi.val_mul_lt Ho1.out Ho2.out)) (by omega)); (rw [HL.out]; exact Bi.limbs_ok _)); rintro e w3 ⟨⟨ng, ao3, n3, cap3, k3, rfl, HR⟩, hb3⟩; have F1 := E1.mono hb3; have F2 := E2.mono hb3; obtain ⟨p0, p1, q0, q1⟩ := E3.mono hb3))
 go_wp2;refine bodyPost_ret (v := .tuple #[.agg #[.bool ng, .slice ao3 n3 cap3], .int .i64 k3]) (by simp [results, Tryz.results164, go_sem, p0, p1]) rfl ⟨⟨ng, ao3, n3, cap3, k3, rfl, hii ?_⟩, ?_⟩
 ·have := HR.out.put2 p0 p1 (.bool ng) (.slice ao3 n3 cap3);rw [HL.out, Bi.val_limbs, HL1.out, HL2.out, Bi.val_limbs, Bi.val_limbs] at this;have h4 : sgn (!(n1 == n2)) (x.natAbs * y.natAbs) = x * y := by
   have e1 := sgn_of x n1 Hn1.out;have e2 := sgn_of y n2 Hn2.out;rw [← e1, ← e2, sgn_natAbs, sgn_natAbs];unfold sgn
   cases n1 <;> cases n2 <;> simp [Int.mul_neg, Int.neg_mul]
  rw [h4] at this;exact this
 ·exact Below.put2 (Below.step (bu hbd hb2) hb3 nl) (by omega) _ _
end Go.Proofs.YtgfpbghgpdpepaaGreatDoor
namespace Go.Proofs.YtgfpbghgpdpepaaGreatDoor
open Go.RowKit
theorem boxes2 (w : World) (a b c d : Value) (t : TypeId) : ∃ wx, wx = (w.alloc (.cells #[a, b] t)).alloc (.cells #[c, d] t) ∧ wx.heap.size = w.heap.size + 1 + 1 ∧
  Box wx w.heap.size a b ∧ Box wx (w.heap.size + 1) c d ∧ Below w.heap.size w wx := by
 refine ⟨_, rfl, by simp, ?_, ?_, ?_⟩
 ·exact (Box.new w a b t).mono (bA _ _)
 ·have := Box.new (w.alloc (.cells #[a, b] t)) c d t
  simpa using this
 ·exact (br.alloc nl _).alloc (by simp) _
def sgnI (z : Int) : Int := if z = 0 then 0 else if z < 0 then -1 else 1
theorem sign_any (a : Value) (x : Int) (w : World) (ha : IntV w a x) :
  Calls Tryz.prog 161 #[a] w fun e w' => e = .returned (.int .i64 (sgnI x)) ∧ Below w.heap.size w w' := by
 obtain ⟨n1, ao1, L1, c1, rfl, Hn1, HL1, HB1, hc1, hl1, hU1⟩ := ha;clear hU1
 by_cases h0 : L1 = []
 ·have hx : Hid (sgnI x = 0) := hii (by
   have h := HL1.out; rw [h0] at h; have := Bi.limbs_eq_nil.1 h.symm; unfold sgnI; rw [if_pos (by omega)])
  subst h0;clear hc1;go_enter Tryz.func161, Tryz.ntmps161;go_wp2;go_ret;exact ⟨ret_int hx.out.symm, br.alloc nl _⟩
 ·have hL : 0 < L1.length := List.length_pos_iff.2 h0;have hx0 : x ≠ 0 := by rintro rfl; exact h0 (by rw [HL1.out]; rfl)
  have hLz : ((L1.length : Int) == 0) = false := by rw [beq_eq_false_iff_ne]; omega
  have hx : Hid (sgnI x = if n1 then -1 else 1) := hii (by unfold sgnI; rw [if_neg hx0, Hn1.out]; by_cases h : x < 0 <;> simp [h])
  cases n1
  all_goals
   go_enter Tryz.func161, Tryz.ntmps161;go_wp2;go_ret;exact ⟨ret_int hx.out.symm, br.alloc nl _⟩
theorem rSign_any (a : Value) (x : Int) (w : World) (ha : IntV w a x) :
  Calls Tryz.prog 78 #[a] w fun e w' => e = .returned (.int .i64 (sgnI x)) ∧ Below w.heap.size w w' := by
 obtain ⟨n1, ao1, L1, c1, rfl, Hn1, HL1, HB1, hc1, hl1, hU1⟩ := ha;clear hU1
 by_cases h0 : L1 = []
 ·have hx : Hid (sgnI x = 0) := hii (by
   have h := HL1.out; rw [h0] at h; have := Bi.limbs_eq_nil.1 h.symm; unfold sgnI; rw [if_pos (by omega)])
  subst h0;clear hc1;go_enter Tryz.func78, Tryz.ntmps78;go_wp2;go_ret;exact ⟨ret_int hx.out.symm, br.alloc nl _⟩
 ·have hL : 0 < L1.length := List.length_pos_iff.2 h0;have hx0 : x ≠ 0 := by rintro rfl; exact h0 (by rw [HL1.out]; rfl)
  have hLz : ((L1.length : Int) == 0) = false := by rw [beq_eq_false_iff_ne]; omega
  have hx : Hid (sgnI x = if n1 then -1 else 1) := hii (by unfold sgnI; rw [if_neg hx0, Hn1.out]; by_cases h : x < 0 <;> simp [h])
  cases n1
  all_goals
   go_enter Tryz.func78, Tryz.ntmps78;go_wp2;go_ret;exact ⟨ret_int hx.out.symm, br.alloc nl _⟩
theorem few_any (neg : Bool) (l : List Nat) (n : Int) (ao : Option Addr) (cap : Nat) (w : World) :
  Calls Tryz.prog 72 #[.agg #[.bool neg, .slice ao l.length cap], .int .i64 n] w fun e w' => e = .returned (.bool (decide ((l.length : Int) ≤ n))) ∧ Below w.heap.size w w' := by
 go_enter Tryz.func72, Tryz.ntmps72;go_wp2;go_ret;exact ⟨rfl, br.alloc nl _⟩
theorem equal_any (n1 n2 : Bool) (l1 l2 : List Nat) (a1 a2 : Option Addr) (c1 c2 : Nat) (w : World) (_m1 : l1.length ≤ 1000000000) (m2 : l2.length ≤ 1000000000) (h1 : U w a1 l1) (h2 : U w a2 l2) :
  Calls Tryz.prog 66 #[.agg #[.bool n1, .slice a1 l1.length c1], .agg #[.bool n2, .slice a2 l2.length c2]] w fun e w' => (∃ r : Bool, Hid (r = true ↔ n1 = n2 ∧ l1 = l2) ∧ e = .returned (.bool r)) ∧ Below w.heap.size w w' := by
 by_cases hn : n1 = n2
 ·subst hn;have hnn : (n1 == n1) = true := by simp
  by_cases hl : l1.length = l2.length
  ·have hll : ((l1.length : Int) != l2.length) = false := by rw [bne_eq_false_iff_eq]; omega
   have HL := hii hl;have hle : l1.length ≤ l2.length := Nat.le_of_eq hl;clear hl;go_enter Tryz.func66, Tryz.ntmps66;go_wp2;obtain ⟨wx, hwx, _, B1, B2, hbx⟩ := boxes2 w (.bool n1) (.slice a1 l1.length c1) (.bool n1) (.slice a2 l2.length c2) 32;rw [← hwx];have hU1 := h1.mono hbx;have hU2 := h2.mono hbx;clear hwx h1 h2;go_loopw [5] (fun s wr => ∃ k : Nat, k ≤ l1.length ∧ s = .int .i64 k ∧ Hid (∀ j, j < k → l1[j]? = l2[j]?) ∧ Below wx.heap.size wx wr) (fun s _ => l1.length - (intOf s).toNat)
   case atStart => exact ⟨0, Nat.zero_le _, rfl, hii (by intro j h; omega), br⟩
   case round =>
    obtain ⟨k, hk, rfl, HK, hbr⟩ := hrel;obtain ⟨p0, p1, _, _⟩ := B1.mono hbr;obtain ⟨q0, q1, _, _⟩ := B2.mono hbr
    by_cases hlt : k < l1.length
    ·obtain ⟨x, hx⟩ := get_some hlt;obtain ⟨y, hy⟩ := get_some (l := l2) (k := k) (by omega);obtain ⟨b1, o1, rfl, hcx⟩ := (hU1.mono hbr).at' hx;obtain ⟨b2, o2, rfl, hcy⟩ := (hU2.mono hbr).at' hy;have HX := hii hx;have HY := hii hy;clear hx hy hU1 hU2
     by_cases hxy : x = y
     ·subst hxy;have hb : ((x : Int) != (x : Int)) = false := by simp
      have hlt2 : k < l2.length := by omega
      go_wp2;go_quiet (fail);go_wp2;go_roundw
      case rel =>
       refine ⟨k + 1, by omega, by go_num, hii fun j hj => ?_, below_drewN hbr _⟩
       by_cases hjk : j = k
       ·subst hjk; rw [HX.out, HY.out]
       ·exact HK.out j (by omega)
      case measure => simp [intOf]; omega
     ·have hb : ((x : Int) != (y : Int)) = true := by rw [bne_iff_ne]; omega
      have hlt2 : k < l2.length := by omega
      have HXY := hii hxy;clear hxy;go_wp2;go_quiet (fail);go_wp2;go_ret;refine ⟨⟨false, hii ?_, rfl⟩, hbx.trans ((below_drewN hbr _).mono hbx.size)⟩;simp only [Bool.false_eq_true, false_iff];rintro ⟨_, rfl⟩;exact HXY.out (Option.some.inj (HX.out.symm.trans HY.out))
    ·obtain rfl : k = l1.length := by omega
     clear hU1 hU2;go_wp2;go_ret;refine ⟨⟨true, hii ?_, rfl⟩, hbx.trans (hbr.mono hbx.size)⟩;simp only [true_iff, true_and];refine List.ext_getElem? fun j => ?_
     by_cases hj : j < l1.length
     ·exact HK.out j hj
     ·rw [List.getElem?_eq_none (by omega), List.getElem?_eq_none (by have := HL.out; omega)]
  ·have hll : ((l1.length : Int) != l2.length) = true := by rw [bne_iff_ne]; omega
   have HL := hii hl;clear h1 h2 hl;go_enter Tryz.func66, Tryz.ntmps66;go_wp2;go_ret;exact ⟨⟨false, hii (by simp; rintro rfl; exact HL.out rfl), rfl⟩, (br.alloc nl _).alloc (by simp) _⟩
 ·have hnn : (n1 == n2) = false := by simpa using hn
  have HN := hii hn;clear h1 h2 hn;go_enter Tryz.func66, Tryz.ntmps66;go_wp2;go_ret;exact ⟨⟨false, hii (by simp [HN.out]), rfl⟩, (br.alloc nl _).alloc (by simp) _⟩
end Go.Proofs.YtgfpbghgpdpepaaGreatDoor
namespace Go.Proofs.YtgfpbghgpdpepaaGreatDoor
open Go.RowKit
theorem U.lit3 (w : World) (Y0 Y1 Y2 : Int) (y0 y1 y2 : Nat) (t : TypeId) (h0 : Y0 = (y0 : Int)) (h1 : Y1 = (y1 : Int)) (h2 : Y2 = (y2 : Int)) :
  U (w.alloc (.cells #[.int .u32 Y0, .int .u32 Y1, .int .u32 Y2] t)) (some ⟨w.heap.size, 0, none⟩) [y0, y1, y2] := by
 subst h0; subst h1; subst h2;intro i h
 match i, h with
 | 0, _ => exact ⟨w.heap.size, 0, rfl, by simp [go_sem]⟩
 | 1, _ => exact ⟨w.heap.size, 0, rfl, by simp [go_sem]⟩
 | 2, _ => exact ⟨w.heap.size, 0, rfl, by simp [go_sem]⟩
 | i + 3, h => simp at h; omega
theorem val3 (k : Nat) : Bi.val [k % 1000000000, k / 1000000000 % 1000000000, k / 1000000000 / 1000000000] = k := by
 simp only [Bi.val]; omega
theorem ok3 {k : Nat} (h : k / 1000000000 / 1000000000 < 1000000000) : Bi.Ok [k % 1000000000, k / 1000000000 % 1000000000, k / 1000000000 / 1000000000] := by
 intro x hx;simp at hx;rcases hx with rfl | rfl | rfl <;> omega
theorem small_big {k : Nat} (h : k ≤ 9223372036854775808) : k < Bi.Big := by
 have : 9223372036854775808 < Bi.Big := by unfold Bi.Big; decide +kernel
 omega
theorem result3 (g : Nat) (neg : Bool) (Y0 Y1 Y2 : Int) (k : Nat) (w : World) (hg : w.heap.size = g) (h0 : Y0 = ((k % 1000000000 : Nat) : Int)) (h1 : Y1 = ((k / 1000000000 % 1000000000 : Nat) : Int)) (h2 : Y2 = ((k / 1000000000 / 1000000000 : Nat) : Int))
  (hk : k ≤ 9223372036854775808) (hE : Env w) :
  Calls Tryz.prog 170 #[.bool neg, .slice (some ⟨g, 0, none⟩) 3 3] (w.alloc (.cells #[.int .u32 Y0, .int .u32 Y1, .int .u32 Y2] 133)) fun e w' =>
   (∃ (ng : Bool) (ao : Option Addr) (n cap : Nat), e = .returned (.tuple #[.agg #[.bool ng, .slice ao n cap], .int .i64 0]) ∧ Hid (IntV w' (.agg #[.bool ng, .slice ao n cap]) (sgn neg k))) ∧ Below w.heap.size w w' := by
 subst hg;have hU := U.lit3 w Y0 Y1 Y2 _ _ _ 133 h0 h1 h2;refine (result_any neg [k % 1000000000, k / 1000000000 % 1000000000, k / 1000000000 / 1000000000] _ 3 _ (by simp) (by simp) hU (hii (ok3 (by omega))) (hE.mono (bA _ _))).mono ?_;rintro e w1 ⟨⟨ng, ao, n, cap, k3, rfl, HR⟩, hb⟩;rcases HR.out with ⟨_, rfl, hV⟩ | ⟨h, _⟩
 ·rw [val3] at hV;exact ⟨⟨ng, ao, n, cap, rfl, hii hV⟩, (bA w _).trans (hb.mono (bA w _).size)⟩
 ·rw [sgn_natAbs, val3] at h;exact absurd (small_big hk) h
theorem rmake3 (g : Nat) (neg : Bool) (Y0 Y1 Y2 : Int) (k : Nat) (w : World) (hg : w.heap.size = g) (h0 : Y0 = ((k % 1000000000 : Nat) : Int)) (h1 : Y1 = ((k / 1000000000 % 1000000000 : Nat) : Int)) (h2 : Y2 = ((k / 1000000000 / 1000000000 : Nat) : Int))
  (hk : k ≤ 9223372036854775808) (_hE : Env w) :
  Calls Tryz.prog 125 #[.bool neg, .slice (some ⟨g, 0, none⟩) 3 3] (w.alloc (.cells #[.int .u32 Y0, .int .u32 Y1, .int .u32 Y2] 133)) fun e w' =>
   (∃ (ng : Bool) (ao : Option Addr) (n cap : Nat), e = .returned (.tuple #[.agg #[.bool ng, .slice ao n cap], .int .i64 0]) ∧ Hid (IntV w' (.agg #[.bool ng, .slice ao n cap]) (sgn neg k))) ∧ Below w.heap.size w w' := by
 subst hg;have hU := U.lit3 w Y0 Y1 Y2 _ _ _ 133 h0 h1 h2;refine (rmake_any neg [k % 1000000000, k / 1000000000 % 1000000000, k / 1000000000 / 1000000000] _ 3 _ (by simp) hU (hii (ok3 (by omega)))).mono ?_;rintro e w1 ⟨⟨ng, ao, n, cap, k3, rfl, HR⟩, hb⟩;rcases HR.out with ⟨_, rfl, hV⟩ | ⟨h, _⟩
 ·rw [val3] at hV;exact ⟨⟨ng, ao, n, cap, rfl, hii hV⟩, (bA w _).trans (hb.mono (bA w _).size)⟩
 ·rw [sgn_natAbs, val3] at h;exact absurd (small_big hk) h
theorem wrap_neg (k : Nat) (h1 : 1 ≤ k) (h2 : k ≤ 9223372036854775808) : ∃ m : Nat, IntKind.u64.wrap (-(k : Int)) = (m : Int) ∧ IntKind.u64.wrap (-(m : Int)) = (k : Int) := by
 refine ⟨18446744073709551616 - k, ?_, ?_⟩ <;> (simp only [IntKind.wrap, IntKind.bits, IntKind.signed]; simp; omega)
theorem of_any_pos (k : Nat) (hk : k ≤ 9223372036854775807) (w : World) (hE : Env w) :
  Calls Tryz.prog 124 #[.int .i64 (k : Int)] w fun e w' => (∃ (ng : Bool) (ao : Option Addr) (n cap : Nat), e = .returned (.agg #[.bool ng, .slice ao n cap]) ∧ Hid (IntV w' (.agg #[.bool ng, .slice ao n cap]) (k : Int))) ∧ Below w.heap.size w w' := by
 have hd : decide ((k : Int) < 0) = false := by simp
 go_enter Tryz.func124, Tryz.ntmps124;go_wp2_with fail;(with_reducible refine (result3 _ false _ _ _ k (w.alloc _) ?_ ?_ ?_ ?_ ?_ (hE.mono (bA _ _))).mono ?_)
 ·simp
 ·omega
 ·omega
 ·omega
 ·omega
 rintro e w1 ⟨⟨ng, ao, n, cap, rfl, HV⟩, hb1⟩;have hB := (Box.new w (.bool false) (.slice none 0 0) 32).mono hb1;have hsz := hB.lt;obtain ⟨p0, p1, q0, q1⟩ := hB;go_wp2;refine bodyPost_ret (v := .agg #[.bool ng, .slice ao n cap]) (by simp [results, Tryz.results124, go_sem, p0, p1, hsz]) rfl ⟨⟨ng, ao, n, cap, rfl, hii ((HV.out.put2 p0 p1 _ _).mono (bA _ _))⟩, ?_⟩;refine (Below.put2 (((bA w _).trans (hb1.mono (by simp)))) nl _ _).alloc ?_ _;have := hb1.size; simp at this; simp [World.setCell]; omega
theorem of_any_neg (k : Nat) (hk1 : 1 ≤ k) (hk : k ≤ 9223372036854775808) (w : World) (hE : Env w) :
  Calls Tryz.prog 124 #[.int .i64 (-(k : Int))] w fun e w' => (∃ (ng : Bool) (ao : Option Addr) (n cap : Nat), e = .returned (.agg #[.bool ng, .slice ao n cap]) ∧ Hid (IntV w' (.agg #[.bool ng, .slice ao n cap]) (-(k : Int)))) ∧ Below w.heap.size w w' := by
 obtain ⟨m, hm1, hm2⟩ := wrap_neg k hk1 hk;have hd : decide (-(k : Int) < 0) = true := by simp; omega
 have hk2 : (k : Int) / 1000000000 ≤ 9223372037 := by omega
 have hK := hii hk; clear hk;go_enter Tryz.func124, Tryz.ntmps124;go_wp2_with fail;(with_reducible refine (result3 _ true _ _ _ k (w.alloc _) ?_ ?_ ?_ ?_ ?_ (hE.mono (bA _ _))).mono ?_)
 ·simp
 ·omega
 ·omega
 ·omega
 ·exact hK.out
 rintro e w1 ⟨⟨ng, ao, n, cap, rfl, HV⟩, hb1⟩;have hB := (Box.new w (.bool false) (.slice none 0 0) 32).mono hb1;have hsz := hB.lt;obtain ⟨p0, p1, q0, q1⟩ := hB;go_wp2;refine bodyPost_ret (v := .agg #[.bool ng, .slice ao n cap]) (by simp [results, Tryz.results124, go_sem, p0, p1, hsz]) rfl ⟨⟨ng, ao, n, cap, rfl, hii ((HV.out.put2 p0 p1 _ _).mono (bA _ _))⟩, ?_⟩;refine (Below.put2 (((bA w _).trans (hb1.mono (by simp)))) nl _ _).alloc ?_ _;have := hb1.size; simp at this; simp [World.setCell]; omega
theorem of_any (z : Int) (h0 : -9223372036854775808 ≤ z) (h1 : z ≤ 9223372036854775807) (w : World) (hE : Env w) :
  Calls Tryz.prog 124 #[.int .i64 z] w fun e w' => (∃ (ng : Bool) (ao : Option Addr) (n cap : Nat), e = .returned (.agg #[.bool ng, .slice ao n cap]) ∧ Hid (IntV w' (.agg #[.bool ng, .slice ao n cap]) z)) ∧ Below w.heap.size w w' := by
 by_cases hz : z < 0
 ·obtain ⟨k, rfl⟩ : ∃ k : Nat, z = -(k : Int) := ⟨z.natAbs, by omega⟩;exact of_any_neg k (by omega) (by omega) w hE
 ·obtain ⟨k, rfl⟩ : ∃ k : Nat, z = (k : Int) := ⟨z.natAbs, by omega⟩;exact of_any_pos k (by omega) w hE
theorem rof_any_pos (k : Nat) (hk : k ≤ 9223372036854775807) (w : World) (hE : Env w) :
  Calls Tryz.prog 67 #[.int .i64 (k : Int)] w fun e w' => (∃ (ng : Bool) (ao : Option Addr) (n cap : Nat), e = .returned (.agg #[.bool ng, .slice ao n cap]) ∧ Hid (IntV w' (.agg #[.bool ng, .slice ao n cap]) (k : Int))) ∧ Below w.heap.size w w' := by
 have hd : decide ((k : Int) < 0) = false := by simp
 go_enter Tryz.func67, Tryz.ntmps67;go_wp2_with fail;(with_reducible refine (rmake3 _ false _ _ _ k (w.alloc _) ?_ ?_ ?_ ?_ ?_ (hE.mono (bA _ _))).mono ?_)
 ·simp
 ·omega
 ·omega
 ·omega
 ·omega
 rintro e w1 ⟨⟨ng, ao, n, cap, rfl, HV⟩, hb1⟩;have hB := (Box.new w (.bool false) (.slice none 0 0) 32).mono hb1;have hsz := hB.lt;obtain ⟨p0, p1, q0, q1⟩ := hB;go_wp2;refine bodyPost_ret (v := .agg #[.bool ng, .slice ao n cap]) (by simp [results, Tryz.results67, go_sem, p0, p1, hsz]) rfl ⟨⟨ng, ao, n, cap, rfl, hii ((HV.out.put2 p0 p1 _ _).mono (bA _ _))⟩, ?_⟩;refine (Below.put2 (((bA w _).trans (hb1.mono (by simp)))) nl _ _).alloc ?_ _;have := hb1.size; simp at this; simp [World.setCell]; omega
theorem rof_any_neg (k : Nat) (hk1 : 1 ≤ k) (hk : k ≤ 9223372036854775808) (w : World) (hE : Env w) :
  Calls Tryz.prog 67 #[.int .i64 (-(k : Int))] w fun e w' => (∃ (ng : Bool) (ao : Option Addr) (n cap : Nat), e = .returned (.agg #[.bool ng, .slice ao n cap]) ∧ Hid (IntV w' (.agg #[.bool ng, .slice ao n cap]) (-(k : Int)))) ∧ Below w.heap.size w w' := by
 obtain ⟨m, hm1, hm2⟩ := wrap_neg k hk1 hk;have hd : decide (-(k : Int) < 0) = true := by simp; omega
 have hk2 : (k : Int) / 1000000000 ≤ 9223372037 := by omega
 have hK := hii hk; clear hk;go_enter Tryz.func67, Tryz.ntmps67;go_wp2_with fail;(with_reducible refine (rmake3 _ true _ _ _ k (w.alloc _) ?_ ?_ ?_ ?_ ?_ (hE.mono (bA _ _))).mono ?_)
 ·simp
 ·omega
 ·omega
 ·omega
 ·exact hK.out
 rintro e w1 ⟨⟨ng, ao, n, cap, rfl, HV⟩, hb1⟩;have hB := (Box.new w (.bool false) (.slice none 0 0) 32).mono hb1;have hsz := hB.lt;obtain ⟨p0, p1, q0, q1⟩ := hB;go_wp2;refine bodyPost_ret (v := .agg #[.bool ng, .slice ao n cap]) (by simp [results, Tryz.results67, go_sem, p0, p1, hsz]) rfl ⟨⟨ng, ao, n, cap, rfl, hii ((HV.out.put2 p0 p1 _ _).mono (bA _ _))⟩, ?_⟩;refine (Below.put2 (((bA w _).trans (hb1.mono (by simp)))) nl _ _).alloc ?_ _;have := hb1.size; simp at this; simp [World.setCell]; omega
theorem rof_any (z : Int) (h0 : -9223372036854775808 ≤ z) (h1 : z ≤ 9223372036854775807) (w : World) (hE : Env w) :
  Calls Tryz.prog 67 #[.int .i64 z] w fun e w' => (∃ (ng : Bool) (ao : Option Addr) (n cap : Nat), e = .returned (.agg #[.bool ng, .slice ao n cap]) ∧ Hid (IntV w' (.agg #[.bool ng, .slice ao n cap]) z)) ∧ Below w.heap.size w w' := by
 by_cases hz : z < 0
 ·obtain ⟨k, rfl⟩ : ∃ k : Nat, z = -(k : Int) := ⟨z.natAbs, by omega⟩;exact rof_any_neg k (by omega) (by omega) w hE
 ·obtain ⟨k, rfl⟩ : ∃ k : Nat, z = (k : Int) := ⟨z.natAbs, by omega⟩;exact rof_any_pos k (by omega) w hE
end Go.Proofs.YtgfpbghgpdpepaaGreatDoor
namespace Go.Proofs.YtgfpbghgpdpepaaGreatDoor
open Go.RowKit
theorem U.put2 {w : World} {n c d : Nat} {b : Bool} {s ao : Option Addr} {l : List Nat} (p0 : w.cell? ⟨n, 0, none⟩ = some (.bool b)) (p1 : w.cell? ⟨n, 1, none⟩ = some (.slice s c d)) (h : U w ao l) (x y : Value) :
  U ((w.setCell ⟨n, 0, none⟩ x).setCell ⟨n, 1, none⟩ y) ao l :=
 U.put (x := .slice s c d) (by rw [World.cell?_setCell_other _ _ _ _ (by simp)]; exact p1) (by simp) (U.put p0 (by simp) h)
section
variable {ops : Array Oper} {o : Oper} {a : Act} {Q : Exit → Act → World → Prop} {K : Act → World → Prop} {E : Prop}
end
theorem neg_any (a : Value) (x : Int) (w : World) (ha : IntV w a x) :
  Calls Tryz.prog 153 #[a] w fun e w' => (∃ (ng : Bool) (ao : Option Addr) (n cap : Nat), e = .returned (.agg #[.bool ng, .slice ao n cap]) ∧ Hid (IntV w' (.agg #[.bool ng, .slice ao n cap]) (-x))) ∧ Below w.heap.size w w' := by
 obtain ⟨n1, ao1, L1, c1, rfl, Hn1, HL1, HB1, hc1, hl1, hU1⟩ := ha;go_enter Tryz.func153, Tryz.ntmps153;go_wp2_with fail;obtain ⟨wx, hwx, hsz, B1, B2, hbx⟩ := boxes2 w (.bool n1) (.slice ao1 L1.length c1) (.bool false) (.slice none 0 0) 32;rw [← hwx];clear hwx;(with_reducible refine (rmake_any (!n1) L1 ao1 c1 wx ?_ (hU1.mono hbx) (hii ?_)).mono ?_)
 ·omega
 ·rw [HL1.out]; exact Bi.limbs_ok _
 rintro e w3 ⟨⟨ng, a3, n3, c3, k3, rfl, HR⟩, hb3⟩;have hB := B2.mono hb3;have hlt := hB.lt;obtain ⟨p0, p1, q0, q1⟩ := hB;clear hU1;go_wp2;have hV : Hid (IntV w3 (.agg #[.bool ng, .slice a3 n3 c3]) (-x)) := hii (by
  have e1 := sgn_of x n1 Hn1.out;have e2 : sgn (!n1) (Bi.val L1) = -x := by
   rw [HL1.out, Bi.val_limbs, ← e1]; rw [sgn_natAbs]; unfold sgn; cases n1 <;> simp
  rw [e2] at HR;rcases HR.out with ⟨_, _, h⟩ | ⟨h, _⟩
  ·exact h
  ·rw [Int.natAbs_neg] at h; exact absurd HB1.out h)
 refine bodyPost_ret (v := .agg #[.bool ng, .slice a3 n3 c3]) (by simp [results, Tryz.results153, go_sem, p0, p1, hlt]) rfl ⟨⟨ng, a3, n3, c3, rfl, hii ((hV.out.put2 p0 p1 _ _).mono (bA _ _))⟩, ?_⟩;refine (Below.put2 (bu hbx hb3) (by omega) _ _).alloc ?_ _;have := hb3.size; have := hbx.size; simp [World.setCell]; omega
theorem abs_any (a : Value) (x : Int) (w : World) (ha : IntV w a x) :
  Calls Tryz.prog 173 #[a] w fun e w' => (∃ (ng : Bool) (ao : Option Addr) (n cap : Nat), e = .returned (.agg #[.bool ng, .slice ao n cap]) ∧ Hid (IntV w' (.agg #[.bool ng, .slice ao n cap]) (x.natAbs : Int))) ∧ Below w.heap.size w w' := by
 obtain ⟨n1, ao1, L1, c1, rfl, Hn1, HL1, HB1, hc1, hl1, hU1⟩ := ha;go_enter Tryz.func173, Tryz.ntmps173;go_wp2_with fail;obtain ⟨wx, hwx, hsz, B1, B2, hbx⟩ := boxes2 w (.bool n1) (.slice ao1 L1.length c1) (.bool false) (.slice none 0 0) 32;rw [← hwx];clear hwx;(with_reducible refine (rmake_any false L1 ao1 c1 wx ?_ (hU1.mono hbx) (hii ?_)).mono ?_)
 ·omega
 ·rw [HL1.out]; exact Bi.limbs_ok _
 rintro e w3 ⟨⟨ng, a3, n3, c3, k3, rfl, HR⟩, hb3⟩;have hB := B2.mono hb3;have hlt := hB.lt;obtain ⟨p0, p1, q0, q1⟩ := hB;clear hU1;go_wp2;have hV : Hid (IntV w3 (.agg #[.bool ng, .slice a3 n3 c3]) (x.natAbs : Int)) := hii (by
  have e2 : sgn false (Bi.val L1) = (x.natAbs : Int) := by rw [HL1.out, Bi.val_limbs]; simp [sgn]
  rw [e2] at HR;rcases HR.out with ⟨_, _, h⟩ | ⟨h, _⟩
  ·exact h
  ·rw [Int.natAbs_natCast] at h; exact absurd HB1.out h)
 refine bodyPost_ret (v := .agg #[.bool ng, .slice a3 n3 c3]) (by simp [results, Tryz.results173, go_sem, p0, p1, hlt]) rfl ⟨⟨ng, a3, n3, c3, rfl, hii ((hV.out.put2 p0 p1 _ _).mono (bA _ _))⟩, ?_⟩;refine (Below.put2 (bu hbx hb3) (by omega) _ _).alloc ?_ _;have := hb3.size; have := hbx.size; simp [World.setCell]; omega
end Go.Proofs.YtgfpbghgpdpepaaGreatDoor
namespace Go.Proofs.YtgfpbghgpdpepaaGreatDoor
open Go.RowKit
theorem short_any (u : List Nat) (v : Nat) (ao : Option Addr) (cap : Nat) (w : World) (hm : u.length ≤ 1000000000) (hv0 : 0 < v) (hv : v < 1000000000) (ho : Bi.Ok u) (hU : U w ao u) :
  Calls Tryz.prog 224 #[.slice ao u.length cap, .int .u32 v] w fun e w' => (∃ (ao' : Option Addr) (L : List Nat) (cap' r : Nat), Hid (L = Bi.limbs (Bi.val u / v)) ∧ Hid (r = Bi.val u % v) ∧ r < 1000000000 ∧ L.length ≤ u.length ∧ L.length ≤ cap' ∧
   e = .returned (.tuple #[.slice ao' L.length cap', .int .u32 r]) ∧ Hid (U w' ao' L)) ∧ Below w.heap.size w w' := by
 go_enter Tryz.func224, Tryz.ntmps224;go_wp2_with (at_make; refine make_u32_full _ rfl _ _ rfl w w.heap.size _ _ u.length rfl rfl rfl rfl (by omega) nl br ?_; intro w0 hown0 hb0);go_loopw [7, 8] (fun s7 s8 wr => ∃ (i : Int) (rest : Nat) (q : List Nat), -1 ≤ i ∧ i < u.length ∧ s8 = .int .i64 i ∧ s7 = .int .u64 rest ∧ rest < v ∧ OwnU wr w.heap.size (.slice (some ⟨w.heap.size, 0, none⟩) u.length u.length) q ∧ Bi.Ok q ∧
   Hid (Bi.val (q.drop (i + 1).toNat) * v + rest = Bi.val (u.drop (i + 1).toNat)) ∧ Below w.heap.size w wr) (fun _ s8 _ => (intOf s8 + 1).toNat)
 case atStart =>
  refine ⟨_, 0, _, by omega, by omega, rfl, rfl, hv0, hown0, Bi.Ok.replicate _, hii ?_, hb0⟩;rw [List.drop_eq_nil_of_le (by simp), List.drop_eq_nil_of_le (by omega)];simp [Bi.val]
 case round =>
  obtain ⟨i, rest, q, hi1, hi2, rfl, rfl, hrest, hown, hoq, HI, hbr⟩ := hrel;have HQ := hii hown.len.1.symm
  by_cases hi : i < 0
  ·obtain rfl : i = -1 := by omega
   clear hU;obtain ⟨ao', cap', e1, hcap, hUq⟩ := hown.read;rw [HQ.out] at e1 hcap;simp only [Value.slice.injEq, true_and] at e1;obtain ⟨rfl, rfl⟩ := e1;have hql : q.length ≤ u.length := Nat.le_of_eq HQ.out;go_wp2_with fail;rw [← HQ.out];(with_reducible refine (trim_any q _ _ _ ?_ ?_ hUq).mono ?_)
   ·omega
   ·exact nl
   rintro e w1 ⟨L, hL, hLl, rfl, hU', rfl⟩;have HL := hii hL; clear hL;go_wp2;go_ret2;have h1 := HI.out;simp only [Int.reduceNeg, Int.reduceAdd, Int.toNat_zero, List.drop_zero] at h1;have h2 := Bi.short_end hrest h1;refine ⟨⟨_, L, _, rest, hii ?_, hii h2.2, by omega, by omega, hLl, rfl, hii hU'⟩, hbr⟩;rw [HL.out, Bi.trim_eq_limbs hoq, h2.1]
  ·obtain ⟨j, rfl⟩ : ∃ j : Nat, i = (j : Int) := ⟨i.toNat, by omega⟩;have hj : j < u.length := by omega
   obtain ⟨x, hx⟩ := get_some hj;have bx := ho.at' hx;obtain ⟨b1, o1, rfl, hcx⟩ := (hU.mono hbr).at' hx;have HX := hii (Bi.getD_of hx);obtain ⟨z, hz⟩ := get_some (l := q) (k := j) (by rw [HQ.out]; exact hj);have hcz := hown.at' hz;have hfz := hown.free j;clear hx hU hz;have hd := Bi.short_digit hrest hv bx;have hmod : (rest * 1000000000 + x) % v < v := Nat.mod_lt _ hv0;have hR : (((rest : Int) * 1000000000 + x) / v) = (((rest * 1000000000 + x) / v : Nat) : Int) := by simp
   have hM : (((rest : Int) * 1000000000 + x) % v) = (((rest * 1000000000 + x) % v : Nat) : Int) := by simp
   have HS := hii (Bi.short_step hv0 hj HQ.out HX.out (by have := HI.out; rwa [show ((j : Int) + 1).toNat = j + 1 by omega] at this));generalize (rest * 1000000000 + x) / v = d at hd hR HS;generalize (rest * 1000000000 + x) % v = m at hmod hM HS;go_wp2;have hown' := hown.set j (d : Int) d rfl;have hb' := hbr.setCell (p := ⟨w.heap.size, j, none⟩) nl (.int .u32 (d : Int));go_roundw
   case rel => exact ⟨(j : Int) - 1, m, q.set j d, by omega, by omega, rfl, by first | rfl | exact congrArg _ hM, hmod, hown', hoq.set _ hd, hii (by rw [show ((j : Int) - 1 + 1).toNat = j by omega]; exact HS.out), hb'⟩
   case measure => (simp [intOf]; try omega)
theorem scaled_any (u : List Nat) (d n : Nat) (ao : Option Addr) (cap : Nat) (w : World) (_hm : u.length ≤ 1000000000) (hn : n ≤ 1000000000) (hd : d ≤ 1000000000) (ho : Bi.Ok u) (hU : U w ao u) (hfit : Hid (Bi.val u * d < 1000000000 ^ n)) (hun : u.length ≤ n) :
  Calls Tryz.prog 225 #[.slice ao u.length cap, .int .u64 d, .int .i64 n] w fun e w' => (∃ (L : List Nat), L.length = n ∧ Hid (Bi.val L = Bi.val u * d) ∧ Bi.Ok L ∧
   e = .returned (.slice (some ⟨w.heap.size, 0, none⟩) n n) ∧ OwnU w' w.heap.size (.slice (some ⟨w.heap.size, 0, none⟩) n n) L) ∧ Below w.heap.size w w' := by
 go_enter Tryz.func225, Tryz.ntmps225;go_wp2_with (at_make; refine make_u32_full _ rfl _ _ rfl w w.heap.size _ _ n rfl rfl rfl rfl (by omega) nl br ?_; intro w0 hown0 hb0);go_loopw [8, 14] (fun s8 s14 wr => ∃ (k c : Nat) (q : List Nat), k ≤ n ∧ s14 = .int .i64 k ∧ s8 = .int .u64 c ∧ c ≤ 1000000000 ∧ OwnU wr w.heap.size (.slice (some ⟨w.heap.size, 0, none⟩) n n) q ∧ Bi.Ok q ∧
   Hid (Bi.val (q.take k) + 1000000000 ^ k * c = Bi.val (u.take k) * d) ∧ Below w.heap.size w wr) (fun _ s14 _ => n - (intOf s14).toNat)
 case atStart => exact ⟨0, 0, _, Nat.zero_le _, rfl, rfl, by omega, hown0, Bi.Ok.replicate _, hii (by simp [Bi.val]), hb0⟩
 case round =>
  obtain ⟨k, c, q, hk, rfl, rfl, hc, hown, hoq, HI, hbr⟩ := hrel;have HQ := hii hown.len.1.symm
  by_cases hlt : k < n
  ·obtain ⟨z, hz⟩ := get_some (l := q) (k := k) (by rw [HQ.out]; exact hlt);have hcz := hown.at' hz;have hfz := hown.free k;clear hz
   by_cases hku : k < u.length
   ·obtain ⟨x, hx⟩ := get_some hku;have bx := ho.at' hx;obtain ⟨b1, o1, rfl, hcx⟩ := (hU.mono hbr).at' hx;have HX := hii (Bi.getD_of hx);clear hx hU;obtain ⟨m, hm'⟩ : ∃ m : Nat, m = x * d := ⟨_, rfl⟩;have hm2 : m ≤ 999999999000000000 := by rw [hm']; exact Nat.le_trans (Nat.mul_le_mul (show x ≤ 999999999 by omega) hd) (by decide)
    have hm3 : (x : Int) * (d : Int) = (m : Int) := by rw [hm']; simp
    have HM := hii hm'; clear hm';go_wp2;have hown' := hown.set k (((c : Int) + m) % 1000000000) ((c + m) % 1000000000) (by omega);have hb' := hbr.setCell (p := ⟨w.heap.size, k, none⟩) nl (.int .u32 (((c : Int) + m) % 1000000000));go_roundw
    case rel => exact ⟨k + 1, (c + m) / 1000000000, q.set k ((c + m) % 1000000000), by omega, by go_num, by go_num, by omega, hown', hoq.set _ (by omega), hii (Bi.scaled_step (by rw [HQ.out]; exact hlt) (by rw [HX.out, HM.out]) HI.out), hb'⟩
    case measure => simp [intOf]; omega
   ·have HX := hii (Bi.getD_out (l := u) (k := k) (by omega));clear hU;go_wp2;have hown' := hown.set k ((c : Int) % 1000000000) (c % 1000000000) (by omega);have hb' := hbr.setCell (p := ⟨w.heap.size, k, none⟩) nl (.int .u32 ((c : Int) % 1000000000));go_roundw
    case rel => exact ⟨k + 1, c / 1000000000, q.set k (c % 1000000000), by omega, by go_num, by go_num, by omega, hown', hoq.set _ (by omega), hii (Bi.scaled_step (by rw [HQ.out]; exact hlt) (by rw [HX.out]; simp) HI.out), hb'⟩
    case measure => simp [intOf]; omega
  ·obtain rfl : k = n := by omega
   clear hU;go_wp2;go_ret;refine ⟨⟨q, HQ.out, hii ?_, hoq, rfl, hown⟩, hbr⟩;have h1 := HI.out;rw [List.take_of_length_le (by rw [HQ.out]; exact nl), Bi.val_take_all hun] at h1;have h2 := hfit.out;rcases Nat.eq_zero_or_pos c with h0 | h0
   ·subst h0; simpa using h1
   ·have : 1000000000 ^ k * 1 ≤ 1000000000 ^ k * c := Nat.mul_le_mul_left _ h0;omega
end Go.Proofs.YtgfpbghgpdpepaaGreatDoor
