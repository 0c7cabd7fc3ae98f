import Derived.Test.YtgfpbghgpdpepaaGreatDoorI3
import Derived.Test.YtgfpbghgpdpepaaGreatDoorI5
import Derived.RegionTactic
import Derived.BigRegion
set_option maxRecDepth 100000
set_option maxHeartbeats 25600000
namespace Go.Proofs.YtgfpbghgpdpepaaGreatDoor
open Go.RowKit
theorem boxes4 (w : World) (a b c d x y z u : Value) (t : TypeId) : ∃ wx, wx = (((w.alloc (.cells #[a, b] t)).alloc (.cells #[c, d] t)).alloc (.cells #[x, y] t)).alloc (.cells #[z, u] t) ∧ wx.heap.size = w.heap.size + 1 + 1 + 1 + 1 ∧
  Box wx w.heap.size a b ∧ Box wx (w.heap.size + 1) c d ∧ Box wx (w.heap.size + 1 + 1) x y ∧ Box wx (w.heap.size + 1 + 1 + 1) z u ∧ Below w.heap.size w wx := by
 obtain ⟨wy, hwy, hsz, B1, B2, B3, hb⟩ := boxes3 w a b c d x y t;refine ⟨_, rfl, by simp, ?_⟩;rw [← hwy];refine ⟨B1.mono (bA _ _), B2.mono (bA _ _), B3.mono (bA _ _), ?_, hb.alloc hb.size _⟩;have := Box.new wy z u t
 rwa [hsz] at this
theorem Box.put2 {w : World} {n m : Nat} {x y : Value} (h : Box w n x y) (hne : n ≠ m) (u v : Value) : Box ((w.setCell ⟨m, 0, none⟩ u).setCell ⟨m, 1, none⟩ v) n x y := by
 have ne (i j : Nat) : (⟨m, j, none⟩ : Addr) ≠ ⟨n, i, none⟩ := fun h => hne (congrArg Addr.block h).symm
 refine ⟨?_, ?_, ?_, ?_⟩
 ·rw [World.cell?_setCell_other _ _ _ _ (ne 0 1), World.cell?_setCell_other _ _ _ _ (ne 0 0)]; exact h.c0
 ·rw [World.cell?_setCell_other _ _ _ _ (ne 1 1), World.cell?_setCell_other _ _ _ _ (ne 1 0)]; exact h.c1
 ·simpa [go_sem] using h.f0
 ·simpa [go_sem] using h.f1
theorem Sign_any (a : Value) (x : Int) (w : World) (ha : IntV w a x) (hE : Env w) :
  Calls Tryz.prog 117 #[a] w fun e w' => e = .returned (.int .i64 (sgnI x)) ∧ Below w.heap.size w w' := by
 obtain ⟨n1, ao1, L1, c1, rfl, Hn1, HL1, HB1, hc1, hl1, hU1⟩ := ha;go_enter Tryz.func117, Tryz.ntmps117;go_wp2_with fail;have B1 := Box.new w (.bool n1) (.slice ao1 L1.length c1) 32;have hbx := bA w (.cells #[.bool n1, .slice ao1 L1.length c1] 32);have hUx := hU1.mono hbx;have hEx := hE.mono hbx;clear hU1 hE;generalize w.alloc (.cells #[.bool n1, .slice ao1 L1.length c1] 32) = wx at *;(with_reducible refine (valid_any n1 L1 ao1 c1 wx ?_ hUx hEx).mono ?_)
 ·omega
 rintro e w1 ⟨⟨q, HQ, rfl⟩, hb1⟩;obtain rfl : q = true := HQ.out.2 (validP_of x n1 L1 Hn1.out HL1.out HB1.out);clear HQ;have hV : IntV w1 (.agg #[.bool n1, .slice ao1 L1.length c1]) x := ⟨n1, ao1, L1, c1, rfl, Hn1, HL1, HB1, hc1, hl1, hUx.mono hb1⟩;obtain ⟨p0, p1, _, _⟩ := B1.mono hb1;have hbw := bu hbx hb1;clear hUx hEx;go_wp2_with fail;(with_reducible refine (sign_any _ x w1 hV).mono ?_);rintro e w2 ⟨rfl, hb2⟩;go_wp2;go_ret;exact ⟨rfl, bu hbw hb2⟩
end Go.Proofs.YtgfpbghgpdpepaaGreatDoor
namespace Go.Proofs.YtgfpbghgpdpepaaGreatDoor
open Go.RowKit
def cmpZ (x y : Int) : Int := if x < y then -1 else if y < x then 1 else 0
theorem gcd_step (X Y : Nat) : Nat.gcd Y (X % Y) = Nat.gcd X Y := by rw [Nat.gcd_comm X Y, Nat.gcd_rec Y X, Nat.gcd_comm]
theorem gcd_big {X Y : Nat} (h1 : X < Bi.Big) (h2 : Y < Bi.Big) : Nat.gcd X Y < Bi.Big := by
 rcases Nat.eq_zero_or_pos X with h | h
 ·subst h; simpa using h2
 ·exact Nat.lt_of_le_of_lt (Nat.gcd_le_left _ h) h1
theorem Gcd_any (a b : Value) (x y : Int) (w : World) (ha : IntV w a x) (hb : IntV w b y) (hE : Env w) :
  Calls Tryz.prog 156 #[a, b] w fun e w' => ResZ w' ((Int.gcd x y : Nat) : Int) e ∧ Below w.heap.size w w' := by
 obtain ⟨n1, ao1, L1, c1, rfl, Hn1, HL1, HB1, hc1, hl1, hU1⟩ := ha;obtain ⟨n2, ao2, L2, c2, rfl, Hn2, HL2, HB2, hc2, hl2, hU2⟩ := hb;go_enter Tryz.func156, Tryz.ntmps156;go_wp2_with fail;obtain ⟨wx, hwx, hsz, B1, B2, B3, hbx⟩ := boxes3 w (.bool n1) (.slice ao1 L1.length c1) (.bool n2) (.slice ao2 L2.length c2) (.bool false) (.slice none 0 0) 32;rw [← hwx];clear hwx;(with_reducible refine (check2 wx _ hsz n1 n2 ao1 ao2 L1 L2 c1 c2 (hU1.mono hbx) (hU2.mono hbx) ?_ ?_ (hE.mono hbx)).mono ?_)
 ·omega
 ·omega
 rintro e w1 ⟨⟨r, HR, HR2, rfl⟩, hb1'⟩;obtain rfl : r = 0 := HR.out.2 ⟨validP_of x n1 L1 Hn1.out HL1.out HB1.out, validP_of y n2 L2 Hn2.out HL2.out HB2.out⟩;clear HR HR2;have B1 := B1.mono hb1';have B2 := B2.mono hb1';have B3 := B3.mono hb1';have hbw := Below.step hbx hb1' nl;have hbd := hbw.drew;have hX1 := hU1.mono hbd;have hX2 := hU2.mono hbd;have hEx := hE.mono hbd;have D1 := B1.mono ((Below.refl w1.heap.size w1).drew);have D2 := B2.mono ((Below.refl w1.heap.size w1).drew);have D3 := B3.mono ((Below.refl w1.heap.size w1).drew);clear hU1 hU2 hE hsz;obtain ⟨a0, a1, _, _⟩ := B1;obtain ⟨b0, b1, _, _⟩ := B2;go_wp2_with fail;go_region_held3 (fun w' => w'.cell? ⟨w.heap.size, 1, none⟩ = some (.slice ao1 L1.length c1) ∧ w'.cell? ⟨w.heap.size + 1, 1, none⟩ = some (.slice ao2 L2.length c2))
  (first | (with_reducible exact ⟨a1, b1⟩) | (with_reducible exact ⟨D1.c1, D2.c1⟩) | (with_reducible exact ⟨E1.c1, E2.c1⟩) | (with_reducible exact ⟨F1.c1, F2.c1⟩) | (simp [F1.c1, F2.c1, go_sem]; done))
  (first
   | (go_at_call 195; ((with_reducible refine (clone_any L1 ao1 c1 _ ?_ hX1).mono ?_); (omega)); rintro e w2 ⟨⟨a3, c3, rfl, hc3, HU3⟩, hb2⟩; have E1 := D1.mono hb2; have E2 := D2.mono hb2; have E3 := D3.mono hb2; have hY2 := hX2.mono hb2)
   | (go_at_call 195; ((with_reducible refine (clone_any L2 ao2 c2 _ ?_ hY2).mono ?_); (omega)); rintro e w3 ⟨⟨a4, c4, rfl, hc4, HU4⟩, hb3⟩; have F1 := E1.mono hb3; have F2 := E2.mono hb3; have F3 := E3.mono hb3))
 go_wp2_with fail;have hbw3 : Below w.heap.size w w3 := Below.step (bu hbd hb2) hb3 nl;have hU3 := HU3.out.mono hb3;have hU4 := HU4.out;have hE3 := (hEx.mono hb2).mono hb3;clear a0 a1 b0 b1 hX1 hX2 hEx hY2 D1 D2 D3 E1 E2 E3 F1 F2;go_loopg [7, 8] (y.natAbs) (fun gk s7 s8 wr => ∃ (X Y : Nat) (L M : List Nat) (a5 a6 : Option Addr) (c5 c6 : Nat), Y ≤ gk ∧ s7 = .slice a5 L.length c5 ∧ s8 = .slice a6 M.length c6 ∧ Hid (L = Bi.limbs X) ∧ Hid (M = Bi.limbs Y) ∧ Hid (Nat.gcd X Y = Int.gcd x y) ∧
   Hid (X < Bi.Big ∧ Y < Bi.Big) ∧ L.length ≤ c5 ∧ M.length ≤ c6 ∧ U wr a5 L ∧ U wr a6 M ∧ Below w3.heap.size w3 wr)
 case atStart => exact ⟨x.natAbs, y.natAbs, L1, L2, a3, a4, c3, c4, nl, rfl, rfl, HL1, HL2, hii rfl, hii ⟨HB1.out, HB2.out⟩, hc3, hc4, hU3, hU4, br⟩
 case round =>
  clear hU3 hU4;obtain ⟨X, Y, L, M, a5, a6, c5, c6, hY, rfl, rfl, HL, HM, HG, HXY, hc5, hc6, hUL, hUM, hbr⟩ := hrel;have hl5 : L.length ≤ 34 := by rw [HL.out]; exact limbs_len34 HXY.out.1
  have hl6 : M.length ≤ 34 := by rw [HM.out]; exact limbs_len34 HXY.out.2
  by_cases hM0 : M = []
  ·have hY0 : Y = 0 := Bi.limbs_eq_nil.1 (by rw [← HM.out]; exact hM0);subst hM0;subst hY0;have hEr := hE3.mono hbr;have hbr0 := bu hbw3 hbr;have F4 := F3.mono hbr;clear hUM hc6 hl6 hE3;go_wp2_with fail;(with_reducible refine (result_any false L a5 c5 wr ?_ hc5 hUL (hii ?_) hEr).mono ?_)
   ·omega
   ·rw [HL.out]; exact Bi.limbs_ok _
   rintro e w5 ⟨⟨ng, ao3, n3, cap3, k3, rfl, HR⟩, hb5⟩;obtain ⟨p0, p1, q0, q1⟩ := F4.mono hb5;go_wp2;refine bodyPost_ret (v := .tuple #[.agg #[.bool ng, .slice ao3 n3 cap3], .int .i64 k3]) (by simp [results, Tryz.results156, go_sem, p0, p1]) rfl ⟨⟨ng, ao3, n3, cap3, k3, rfl, hii ?_⟩, ?_⟩
   ·have := HR.out.put2 p0 p1 (.bool ng) (.slice ao3 n3 cap3);rw [HL.out, Bi.val_limbs] at this;have e1 : sgn false X = ((Int.gcd x y : Nat) : Int) := by rw [← HG.out]; simp [sgn]
    rw [e1] at this;exact this
   ·exact Below.put2 (bu hbr0 hb5) (by omega) _ _
  ·have hM1 : 0 < M.length := List.length_pos_iff.2 hM0;have hY1 : 0 < Y := by
    rcases Nat.eq_zero_or_pos Y with h | h
    ·exact absurd (by rw [HM.out, h]; rfl) hM0
    ·exact h
   clear hM0;go_wp2_with fail;(with_reducible refine (divide_any X Y L M HL HM a5 a6 c5 c6 wr ?_ ?_ hY1 hUL hUM).mono ?_)
   ·omega
   ·omega
   rintro e w5 ⟨⟨a7, a8, Q, R, c7, c8, HQ, HR, hc7, hc8, rfl, HU7, HU8⟩, hb5⟩;have hUM5 := hUM.mono hb5;have hUR := HU8.out;have hlt := Nat.mod_lt X hY1;clear hUL hUM;go_wp2;go_roundg (X % Y)
   case measure => omega
   case rel => exact ⟨Y, X % Y, M, R, a6, a8, c6, c8, nl, rfl, rfl, HM, HR, hii (by rw [← HG.out]; exact gcd_step X Y), hii ⟨HXY.out.2, Nat.lt_trans hlt HXY.out.2⟩, hc6, hc8, hUM5, hUR, bu hbr hb5⟩
def DivZ (w' : World) (z1 z2 : Int) (e : Ending) : Prop :=
 ∃ (n1 : Bool) (a1 : Option Addr) (m1 c1 : Nat) (n2 : Bool) (a2 : Option Addr) (m2 c2 : Nat), e = .returned (.tuple #[.agg #[.bool n1, .slice a1 m1 c1], .agg #[.bool n2, .slice a2 m2 c2], .int .i64 0]) ∧
  Hid (IntV w' (.agg #[.bool n1, .slice a1 m1 c1]) z1) ∧ Hid (IntV w' (.agg #[.bool n2, .slice a2 m2 c2]) z2)
theorem sgn_tdiv (x y : Int) (n1 n2 : Bool) (h1 : n1 = decide (x < 0)) (h2 : n2 = decide (y < 0)) : sgn (!(n1 == n2)) (x.natAbs / y.natAbs) = x.tdiv y := by
 have e1 := sgn_of x n1 h1;have e2 := sgn_of y n2 h2;rw [← e1, ← e2, sgn_natAbs, sgn_natAbs];unfold sgn
 cases n1 <;> cases n2 <;> simp [Int.tdiv_neg, Int.neg_tdiv]
theorem sgn_tmod (x y : Int) (n1 : Bool) (h1 : n1 = decide (x < 0)) : sgn n1 (x.natAbs % y.natAbs) = x.tmod y := by
 have e1 := sgn_of x n1 h1;rw [← e1, sgn_natAbs];unfold sgn;rcases Int.natAbs_eq y with h | h
 all_goals
  rw [h]
  cases n1 <;> simp [Int.neg_tmod, Int.tmod_neg, ← Int.ofNat_tmod]
end Go.Proofs.YtgfpbghgpdpepaaGreatDoor
namespace Go.Proofs.YtgfpbghgpdpepaaGreatDoor
open Go.RowKit
theorem Div_any (a b : Value) (x y : Int) (w : World) (ha : IntV w a x) (hb : IntV w b y) (hy0 : Hid (y ≠ 0)) (hE : Env w) :
  Calls Tryz.prog 199 #[a, b] w fun e w' => DivZ w' (x.tdiv y) (x.tmod y) e ∧ Below w.heap.size w w' := by
 obtain ⟨n1, ao1, L1, c1, rfl, Hn1, HL1, HB1, hc1, hl1, hU1⟩ := ha;obtain ⟨n2, ao2, L2, c2, rfl, Hn2, HL2, HB2, hc2, hl2, hU2⟩ := hb;have hL2 : 0 < L2.length := by
  rcases Nat.eq_zero_or_pos L2.length with h | h
  ·have h2 := HL2.out;rw [List.length_eq_zero_iff.1 h] at h2;have := Bi.limbs_eq_nil.1 h2.symm;have := hy0.out;omega
  ·exact h
 have hLz : ((L2.length : Int) == 0) = false := by rw [beq_eq_false_iff_ne]; omega
 go_enter Tryz.func199, Tryz.ntmps199;go_wp2_with fail;obtain ⟨wx, hwx, hsz, B1, B2, B3, B4, hbx⟩ := boxes4 w (.bool n1) (.slice ao1 L1.length c1) (.bool n2) (.slice ao2 L2.length c2) (.bool false) (.slice none 0 0) (.bool false) (.slice none 0 0) 32;rw [← hwx];clear hwx;(with_reducible refine (check2 wx _ hsz n1 n2 ao1 ao2 L1 L2 c1 c2 (hU1.mono hbx) (hU2.mono hbx) ?_ ?_ (hE.mono hbx)).mono ?_)
 ·omega
 ·omega
 rintro e w1 ⟨⟨r, HR, HR2, rfl⟩, hb1'⟩;obtain rfl : r = 0 := HR.out.2 ⟨validP_of x n1 L1 Hn1.out HL1.out HB1.out, validP_of y n2 L2 Hn2.out HL2.out HB2.out⟩;clear HR HR2;have B1 := B1.mono hb1';have B2 := B2.mono hb1';have B3 := B3.mono hb1';have B4 := B4.mono hb1';have hbw := Below.step hbx hb1' nl;have hE1 := hE.mono hbw;have hX1 := hU1.mono hbw;have hX2 := hU2.mono hbw;have hlt4 := B4.lt;clear hU1 hU2 hE hsz;obtain ⟨a0, a1, _, _⟩ := B1;obtain ⟨b0, b1, _, _⟩ := B2;go_wp2_with fail;(with_reducible refine (divide_any x.natAbs y.natAbs L1 L2 HL1 HL2 ao1 ao2 c1 c2 w1 ?_ ?_ ?_ hX1 hX2).mono ?_)
 ·omega
 ·omega
 ·have := hy0.out; omega
 rintro e w2 ⟨⟨a3, a4, Q, R, c3, c4, HQ, HR, hc3, hc4, rfl, HU3, HU4⟩, hb2⟩;have hq34 : Q.length ≤ 34 := by rw [HQ.out]; exact limbs_len34 (Nat.lt_of_le_of_lt (Nat.div_le_self _ _) HB1.out)
 have hr34 : R.length ≤ 34 := by rw [HR.out]; exact limbs_len34 (Nat.lt_of_le_of_lt (Nat.mod_le _ _) HB1.out)
 have a0 : w2.cell? ⟨w.heap.size, 0, none⟩ = some (.bool n1) := (hb2.cell (p := ⟨w.heap.size, 0, none⟩) (by simp only; omega)).trans a0;have b0 : w2.cell? ⟨w.heap.size + 1, 0, none⟩ = some (.bool n2) := (hb2.cell (p := ⟨w.heap.size + 1, 0, none⟩) (by simp only; omega)).trans b0;have B3 := B3.mono hb2;have B4 := B4.mono hb2;have hbw2 := bu hbw hb2;have hE2 := hE1.mono hb2;have hlt4 := B4.lt;clear a1 b1 hX1 hX2 hE1;go_wp2_with fail;(with_reducible refine (result_any (!(n1 == n2)) Q a3 c3 w2 ?_ hc3 HU3.out (hii ?_) hE2).mono ?_)
 ·omega
 ·rw [HQ.out]; exact Bi.limbs_ok _
 rintro e w3 ⟨⟨ng, ao3, n3, cap3, k3, rfl, HR3⟩, hb3⟩;have HV3 : Hid (IntV w3 (.agg #[.bool ng, .slice ao3 n3 cap3]) (x.tdiv y)) := hii (by
  have h := HR3.out;have h1 : Bi.val Q = x.natAbs / y.natAbs := by rw [HQ.out, Bi.val_limbs]
  rw [h1, sgn_tdiv x y n1 n2 Hn1.out Hn2.out] at h;rcases h with ⟨_, _, h⟩ | ⟨h, _⟩
  ·exact h
  ·exact absurd (by rw [Int.natAbs_tdiv]; exact Nat.lt_of_le_of_lt (Nat.div_le_self _ _) HB1.out) h)
 have a0 : w3.cell? ⟨w.heap.size, 0, none⟩ = some (.bool n1) := (hb3.cell (p := ⟨w.heap.size, 0, none⟩) (by simp only; omega)).trans a0;have B3 := B3.mono hb3;have B4 := B4.mono hb3;have hbw3 := bu hbw2 hb3;have hE3 := hE2.mono hb3;have hlt4 := B4.lt;have hU4 := HU4.out.mono hb3;clear b0 hE2 HR3;have hlt0 : w.heap.size < w3.heap.size := by omega
 go_wp2_with fail;have X1 := Box.new w3 (.bool ng) (.slice ao3 n3 cap3) 32;have hba := bA w3 (.cells #[.bool ng, .slice ao3 n3 cap3] 32);have hsza : (w3.alloc (.cells #[.bool ng, .slice ao3 n3 cap3] 32)).heap.size = w3.heap.size + 1 := by simp
 generalize w3.alloc (.cells #[.bool ng, .slice ao3 n3 cap3] 32) = w4 at *;have B3 := B3.mono hba;have B4 := B4.mono hba;have hbw4 := bu hbw3 hba;have hE4 := hE3.mono hba;have hU4 := hU4.mono hba;have HV4 := hii (HV3.out.mono hba);(with_reducible refine (result_any n1 R a4 c4 w4 ?_ hc4 hU4 (hii ?_) hE4).mono ?_)
 ·omega
 ·rw [HR.out]; exact Bi.limbs_ok _
 rintro e w5 ⟨⟨ng5, ao5, n5, cap5, k5, rfl, HR5⟩, hb5⟩;have HW5 : Hid (IntV w5 (.agg #[.bool ng5, .slice ao5 n5 cap5]) (x.tmod y)) := hii (by
  have h := HR5.out;have h1 : Bi.val R = x.natAbs % y.natAbs := by rw [HR.out, Bi.val_limbs]
  rw [h1, sgn_tmod x y n1 Hn1.out] at h;rcases h with ⟨_, _, h⟩ | ⟨h, _⟩
  ·exact h
  ·exact absurd (by rw [Int.natAbs_tmod]; exact Nat.lt_of_le_of_lt (Nat.mod_le _ _) HB1.out) h)
 have B3 := B3.mono hb5;have B4 := B4.mono hb5;have X1 := X1.mono hb5;have hbw5 := bu hbw4 hb5;have HV5 := hii (HV4.out.mono hb5);have hlt5 : w3.heap.size < w5.heap.size := by have := hb5.size; omega
 clear a0 hE3 hE4 HR5 hU4 hlt0;go_upto_region 9 with fail;have X2 := Box.new w5 (.bool ng5) (.slice ao5 n5 cap5) 32;have hba5 := bA w5 (.cells #[.bool ng5, .slice ao5 n5 cap5] 32);have hszb : (w5.alloc (.cells #[.bool ng5, .slice ao5 n5 cap5] 32)).heap.size = w5.heap.size + 1 := by simp
 generalize w5.alloc (.cells #[.bool ng5, .slice ao5 n5 cap5] 32) = w6 at *;have B3 := B3.mono hba5;have B4 := B4.mono hba5;have X1 := X1.mono hba5;have hbw6 := bu hbw5 hba5;have HV6 := hii (HV5.out.mono hba5);have HW6 := hii (HW5.out.mono hba5);have hlt3 := B4.lt;obtain ⟨p0, p1, q0, q1⟩ := B3;obtain ⟨r0, r1, s0, s1⟩ := B4;obtain ⟨x0, x1, _, _⟩ := X1;obtain ⟨y0, y1, _, _⟩ := X2;have hne1 : w.heap.size + 1 + 1 < w3.heap.size := by omega
 have hne2 : w.heap.size + 1 + 1 + 1 < w3.heap.size := by omega
 clear hsza hszb hbw3 hbw4 hbw5 hba hba5;go_region;go_wp2;have r0' : ∀ u v, ((w6.setCell ⟨w.heap.size + 1 + 1, 0, none⟩ u).setCell ⟨w.heap.size + 1 + 1, 1, none⟩ v).cell? ⟨w.heap.size + 1 + 1 + 1, 0, none⟩ = some (.bool false) := fun u v => by
  rw [World.cell?_setCell_other _ _ _ _ (by simp), World.cell?_setCell_other _ _ _ _ (by simp)]; exact r0
 have r1' : ∀ u v, ((w6.setCell ⟨w.heap.size + 1 + 1, 0, none⟩ u).setCell ⟨w.heap.size + 1 + 1, 1, none⟩ v).cell? ⟨w.heap.size + 1 + 1 + 1, 1, none⟩ = some (.slice none 0 0) := fun u v => by
  rw [World.cell?_setCell_other _ _ _ _ (by simp), World.cell?_setCell_other _ _ _ _ (by simp)]; exact r1
 have R0 := hii r0';have R1 := hii r1';clear r0' r1';refine bodyPost_ret (v := .tuple #[.agg #[.bool ng, .slice ao3 n3 cap3], .agg #[.bool ng5, .slice ao5 n5 cap5], .int .i64 0]) (by simp [results, Tryz.results199, go_sem, p0, p1, r0, r1]) rfl ⟨⟨ng, ao3, n3, cap3, ng5, ao5, n5, cap5, rfl, hii ?_, hii ?_⟩, ?_⟩
 ·exact ((HV6.out.put2 p0 p1 _ _).put2 (R0.out _ _) (R1.out _ _) _ _).mono (br.drew)
 ·exact ((HW6.out.put2 p0 p1 _ _).put2 (R0.out _ _) (R1.out _ _) _ _).mono (br.drew)
 ·exact (Below.put2 (Below.put2 hbw6 (by omega) _ _) (by omega) _ _).drew
end Go.Proofs.YtgfpbghgpdpepaaGreatDoor
