import Derived.Test.YtgfpbghgpdpepaaGreatDoorI7
import Derived.RegionTactic
import Derived.BigRegion
import Derived.Test.YtgfpbghgpdpepaaGreatDoorI2
import Derived.Lib.Atoi
import Derived.Lib.SlTrimSet
import Derived.Lib.Strings
import Derived.Shelf.Strings.SlTrimAscii
set_option maxRecDepth 100000
set_option maxHeartbeats 25600000
namespace Go.Proofs.YtgfpbghgpdpepaaGreatDoor
open Go.RowKit
theorem rAdd_same (n : Bool) (m1 m2 : Nat) (ao1 ao2 : Option Addr) (L1 L2 : List Nat) (c1 c2 : Nat) (w : World) (HL1 : Hid (L1 = Bi.limbs m1)) (HL2 : Hid (L2 = Bi.limbs m2)) (hl1 : L1.length ≤ 34) (hl2 : L2.length ≤ 34)
  (hU1 : U w ao1 L1) (hU2 : U w ao2 L2) :
  Calls Tryz.prog 154 #[.agg #[.bool n, .slice ao1 L1.length c1], .agg #[.bool n, .slice ao2 L2.length c2]] w fun e w' => ResZ w' (sgn n m1 + sgn n m2) e ∧ Below w.heap.size w w' := by
 have hnn : (n == n) = true := by simp
 have Ho1 : Hid (Bi.Ok L1) := hii (by rw [HL1.out]; exact Bi.limbs_ok _);have Ho2 : Hid (Bi.Ok L2) := hii (by rw [HL2.out]; exact Bi.limbs_ok _);have hvl : Hid (Bi.val L1 = m1 ∧ Bi.val L2 = m2) := hii (by rw [HL1.out, HL2.out, Bi.val_limbs, Bi.val_limbs]; exact ⟨rfl, rfl⟩);go_enter Tryz.func154, Tryz.ntmps154;go_wp2_with fail;obtain ⟨wx, hwx, hsz, B1, B2, B3, hbx⟩ := boxes3 w (.bool n) (.slice ao1 L1.length c1) (.bool n) (.slice ao2 L2.length c2) (.bool false) (.slice none 0 0) 32;rw [← hwx];clear hwx;obtain ⟨w0, rfl⟩ := exi wx;have hb0' := hbx;have hbd : Below w.heap.size w w0.drew := hb0'.drew;have hX1 := hU1.mono hbd;have hX2 := hU2.mono hbd;have D1 := B1.mono ((Below.refl w0.heap.size w0).drew);have D2 := B2.mono ((Below.refl w0.heap.size w0).drew);have D3 := B3.mono ((Below.refl w0.heap.size w0).drew);obtain ⟨z0, z1, _, _⟩ := B1;obtain ⟨y0, y1, _, _⟩ := B2;clear hU1 hU2;go_wp2_with fail;go_region_held3 (fun w' => w'.cell? ⟨w.heap.size, 0, none⟩ = some (.bool n) ∧ w'.cell? ⟨w.heap.size, 1, none⟩ = some (.slice ao1 L1.length c1) ∧ w'.cell? ⟨w.heap.size + 1, 1, none⟩ = some (.slice ao2 L2.length c2))
  (first | (with_reducible exact ⟨z0, z1, y1⟩) | (with_reducible exact ⟨D1.c0, D1.c1, D2.c1⟩) | (with_reducible exact ⟨E1.c0, E1.c1, E2.c1⟩) | (with_reducible exact ⟨F1.c0, F1.c1, F2.c1⟩) | (simp [F1.c0, F1.c1, F2.c1, go_sem]; done))
  (first
   | (go_at_call 189; ((with_reducible refine (radd_any L1 L2 _ _ _ _ _ ?_ ?_ Ho1.out Ho2.out hX1 hX2).mono ?_); (omega); (omega)); rintro e w1 ⟨ao, L, cap, hL, rfl, hcap, hlL, hUL, hb1⟩; have HL := hii hL; clear hL; have E1 := D1.mono hb1; have E2 := D2.mono hb1; have E3 := D3.mono hb1)
   | (go_at_call 125; ((with_reducible refine (rmake_any n _ _ _ _ ?_ hUL (hii ?_)).mono ?_); (omega); (rw [HL.out]; exact Bi.limbs_ok _)); rintro e w2 ⟨⟨ng, ao3, n3, cap3, k3, rfl, HR⟩, hb2⟩; have F1 := E1.mono hb2; have F2 := E2.mono hb2; obtain ⟨p0, p1, q0, q1⟩ := E3.mono hb2))
 go_wp2;refine bodyPost_ret (v := .tuple #[.agg #[.bool ng, .slice ao3 n3 cap3], .int .i64 k3]) (by simp [results, Tryz.results154, go_sem, p0, p1]) rfl ⟨⟨ng, ao3, n3, cap3, k3, rfl, hii ?_⟩, ?_⟩
 ·have := HR.out.put2 p0 p1 (.bool ng) (.slice ao3 n3 cap3);rw [HL.out, Bi.val_limbs, hvl.out.1, hvl.out.2] at this;rw [sgn_add] at this;exact this
 ·exact Below.put2 (Below.step (bu hbd hb1) hb2 nl) (by omega) _ _
theorem rAdd_ge (n1 n2 : Bool) (hnn : (n1 == n2) = false) (m1 m2 : Nat) (hle : Hid (m2 ≤ m1)) (ao1 ao2 : Option Addr) (L1 L2 : List Nat) (c1 c2 : Nat) (w : World) (HL1 : Hid (L1 = Bi.limbs m1)) (HL2 : Hid (L2 = Bi.limbs m2)) (hl1 : L1.length ≤ 34) (hl2 : L2.length ≤ 34)
  (hU1 : U w ao1 L1) (hU2 : U w ao2 L2) :
  Calls Tryz.prog 154 #[.agg #[.bool n1, .slice ao1 L1.length c1], .agg #[.bool n2, .slice ao2 L2.length c2]] w fun e w' => ResZ w' (sgn n1 m1 + sgn n2 m2) e ∧ Below w.heap.size w w' := by
 have hll : L2.length ≤ L1.length := by rw [HL1.out, HL2.out]; exact Bi.len_mono hle.out
 have Ho1 : Hid (Bi.Ok L1) := hii (by rw [HL1.out]; exact Bi.limbs_ok _);have Ho2 : Hid (Bi.Ok L2) := hii (by rw [HL2.out]; exact Bi.limbs_ok _);have hvl : Hid (Bi.val L1 = m1 ∧ Bi.val L2 = m2) := hii (by rw [HL1.out, HL2.out, Bi.val_limbs, Bi.val_limbs]; exact ⟨rfl, rfl⟩);go_enter Tryz.func154, Tryz.ntmps154;go_wp2_with fail;obtain ⟨wx, hwx, hsz, B1, B2, B3, hbx⟩ := boxes3 w (.bool n1) (.slice ao1 L1.length c1) (.bool n2) (.slice ao2 L2.length c2) (.bool false) (.slice none 0 0) 32;rw [← hwx];clear hwx;(with_reducible refine (rcmp_any m1 m2 L1 L2 HL1 HL2 ao1 ao2 c1 c2 wx ?_ ?_ (hU1.mono hbx) (hU2.mono hbx)).mono ?_)
 ·omega
 ·omega
 rintro e w0 ⟨rfl, hb0⟩;have hcmp : 0 ≤ cmpN m1 m2 := by have := hle.out; unfold cmpN; rw [if_neg (by omega)]; split <;> omega
 have hb0' := bu hbx hb0;have B1 := B1.mono hb0;have B2 := B2.mono hb0;have B3 := B3.mono hb0;have hbd : Below w.heap.size w w0.drew := hb0'.drew;have hX1 := hU1.mono hbd;have hX2 := hU2.mono hbd;have D1 := B1.mono ((Below.refl w0.heap.size w0).drew);have D2 := B2.mono ((Below.refl w0.heap.size w0).drew);have D3 := B3.mono ((Below.refl w0.heap.size w0).drew);obtain ⟨z0, z1, _, _⟩ := B1;obtain ⟨y0, y1, _, _⟩ := B2;clear hU1 hU2;go_wp2_with fail;go_region_held3 (fun w' => w'.cell? ⟨w.heap.size, 0, none⟩ = some (.bool n1) ∧ w'.cell? ⟨w.heap.size, 1, none⟩ = some (.slice ao1 L1.length c1) ∧ w'.cell? ⟨w.heap.size + 1, 1, none⟩ = some (.slice ao2 L2.length c2))
  (first | (with_reducible exact ⟨z0, z1, y1⟩) | (with_reducible exact ⟨D1.c0, D1.c1, D2.c1⟩) | (with_reducible exact ⟨E1.c0, E1.c1, E2.c1⟩) | (with_reducible exact ⟨F1.c0, F1.c1, F2.c1⟩) | (simp [F1.c0, F1.c1, F2.c1, go_sem]; done))
  (first
   | (go_at_call 191; ((with_reducible refine (rsub_any L1 L2 _ _ _ _ _ ?_ hll (hii ?_) Ho1.out Ho2.out hX1 hX2).mono ?_); (omega); (rw [hvl.out.1, hvl.out.2]; have := hle.out; omega)); rintro e w1 ⟨ao, L, cap, hL, rfl, hcap, hlL, hUL, hb1⟩; have HL := hii hL; clear hL; have E1 := D1.mono hb1; have E2 := D2.mono hb1; have E3 := D3.mono hb1)
   | (go_at_call 125; ((with_reducible refine (rmake_any n1 _ _ _ _ ?_ hUL (hii ?_)).mono ?_); (omega); (rw [HL.out]; exact Bi.limbs_ok _)); rintro e w2 ⟨⟨ng, ao3, n3, cap3, k3, rfl, HR⟩, hb2⟩; have F1 := E1.mono hb2; have F2 := E2.mono hb2; obtain ⟨p0, p1, q0, q1⟩ := E3.mono hb2))
 go_wp2;refine bodyPost_ret (v := .tuple #[.agg #[.bool ng, .slice ao3 n3 cap3], .int .i64 k3]) (by simp [results, Tryz.results154, go_sem, p0, p1]) rfl ⟨⟨ng, ao3, n3, cap3, k3, rfl, hii ?_⟩, ?_⟩
 ·have := HR.out.put2 p0 p1 (.bool ng) (.slice ao3 n3 cap3);rw [HL.out, Bi.val_limbs, hvl.out.1, hvl.out.2] at this;rw [minus_val n1 n2 m1 m2 (by rintro rfl; simp at hnn) hle.out] at this;exact this
 ·exact Below.put2 (Below.step (bu hbd hb1) hb2 nl) (by omega) _ _
theorem rAdd_lt (n1 n2 : Bool) (hnn : (n1 == n2) = false) (m1 m2 : Nat) (hle : Hid (m1 < m2)) (ao1 ao2 : Option Addr) (L1 L2 : List Nat) (c1 c2 : Nat) (w : World) (HL1 : Hid (L1 = Bi.limbs m1)) (HL2 : Hid (L2 = Bi.limbs m2)) (hl1 : L1.length ≤ 34) (hl2 : L2.length ≤ 34)
  (hU1 : U w ao1 L1) (hU2 : U w ao2 L2) :
  Calls Tryz.prog 154 #[.agg #[.bool n1, .slice ao1 L1.length c1], .agg #[.bool n2, .slice ao2 L2.length c2]] w fun e w' => ResZ w' (sgn n1 m1 + sgn n2 m2) e ∧ Below w.heap.size w w' := by
 have hll : L1.length ≤ L2.length := by rw [HL1.out, HL2.out]; exact Bi.len_mono (Nat.le_of_lt hle.out)
 have Ho1 : Hid (Bi.Ok L1) := hii (by rw [HL1.out]; exact Bi.limbs_ok _);have Ho2 : Hid (Bi.Ok L2) := hii (by rw [HL2.out]; exact Bi.limbs_ok _);have hvl : Hid (Bi.val L1 = m1 ∧ Bi.val L2 = m2) := hii (by rw [HL1.out, HL2.out, Bi.val_limbs, Bi.val_limbs]; exact ⟨rfl, rfl⟩);go_enter Tryz.func154, Tryz.ntmps154;go_wp2_with fail;obtain ⟨wx, hwx, hsz, B1, B2, B3, hbx⟩ := boxes3 w (.bool n1) (.slice ao1 L1.length c1) (.bool n2) (.slice ao2 L2.length c2) (.bool false) (.slice none 0 0) 32;rw [← hwx];clear hwx;(with_reducible refine (rcmp_any m1 m2 L1 L2 HL1 HL2 ao1 ao2 c1 c2 wx ?_ ?_ (hU1.mono hbx) (hU2.mono hbx)).mono ?_)
 ·omega
 ·omega
 rintro e w0 ⟨rfl, hb0⟩;have hcmp : cmpN m1 m2 < 0 := by have := hle.out; unfold cmpN; rw [if_pos this]; decide
 have hb0' := bu hbx hb0;have B1 := B1.mono hb0;have B2 := B2.mono hb0;have B3 := B3.mono hb0;have hbd : Below w.heap.size w w0.drew := hb0'.drew;have hX1 := hU1.mono hbd;have hX2 := hU2.mono hbd;have D1 := B1.mono ((Below.refl w0.heap.size w0).drew);have D2 := B2.mono ((Below.refl w0.heap.size w0).drew);have D3 := B3.mono ((Below.refl w0.heap.size w0).drew);obtain ⟨z0, z1, _, _⟩ := B1;obtain ⟨y0, y1, _, _⟩ := B2;clear hU1 hU2;go_wp2_with fail;go_region_held3 (fun w' => w'.cell? ⟨w.heap.size + 1, 0, none⟩ = some (.bool n2) ∧ w'.cell? ⟨w.heap.size + 1, 1, none⟩ = some (.slice ao2 L2.length c2) ∧ w'.cell? ⟨w.heap.size, 1, none⟩ = some (.slice ao1 L1.length c1))
  (first | (with_reducible exact ⟨y0, y1, z1⟩) | (with_reducible exact ⟨D2.c0, D2.c1, D1.c1⟩) | (with_reducible exact ⟨E2.c0, E2.c1, E1.c1⟩) | (with_reducible exact ⟨F2.c0, F2.c1, F1.c1⟩) | (simp [F2.c0, F2.c1, F1.c1, go_sem]; done))
  (first
   | (go_at_call 191; ((with_reducible refine (rsub_any L2 L1 _ _ _ _ _ ?_ hll (hii ?_) Ho2.out Ho1.out hX2 hX1).mono ?_); (omega); (rw [hvl.out.1, hvl.out.2]; have := hle.out; omega)); rintro e w1 ⟨ao, L, cap, hL, rfl, hcap, hlL, hUL, hb1⟩; have HL := hii hL; clear hL; have E1 := D1.mono hb1; have E2 := D2.mono hb1; have E3 := D3.mono hb1)
   | (go_at_call 125; ((with_reducible refine (rmake_any n2 _ _ _ _ ?_ hUL (hii ?_)).mono ?_); (omega); (rw [HL.out]; exact Bi.limbs_ok _)); rintro e w2 ⟨⟨ng, ao3, n3, cap3, k3, rfl, HR⟩, hb2⟩; have F1 := E1.mono hb2; have F2 := E2.mono hb2; obtain ⟨p0, p1, q0, q1⟩ := E3.mono hb2))
 go_wp2;refine bodyPost_ret (v := .tuple #[.agg #[.bool ng, .slice ao3 n3 cap3], .int .i64 k3]) (by simp [results, Tryz.results154, go_sem, p0, p1]) rfl ⟨⟨ng, ao3, n3, cap3, k3, rfl, hii ?_⟩, ?_⟩
 ·have := HR.out.put2 p0 p1 (.bool ng) (.slice ao3 n3 cap3);rw [HL.out, Bi.val_limbs, hvl.out.1, hvl.out.2] at this;rw [show sgn n2 (m2 - m1) = sgn n1 m1 + sgn n2 m2 by rw [Int.add_comm]; exact minus_val n2 n1 m2 m1 (by rintro rfl; simp at hnn) (Nat.le_of_lt hle.out)] at this;exact this
 ·exact Below.put2 (Below.step (bu hbd hb1) hb2 nl) (by omega) _ _
theorem rAdd_any (a b : Value) (x y : Int) (w : World) (ha : IntV w a x) (hb : IntV w b y) :
  Calls Tryz.prog 154 #[a, b] w fun e w' => ResZ w' (x + y) e ∧ Below w.heap.size w w' := by
 obtain ⟨n1, ao1, L1, c1, rfl, Hn1, HL1, HB1, hc1, hl1, hU1⟩ := ha;obtain ⟨n2, ao2, L2, c2, rfl, Hn2, HL2, HB2, hc2, hl2, hU2⟩ := hb;have e1 := sgn_of x n1 Hn1.out;have e2 := sgn_of y n2 Hn2.out
 by_cases hn : n1 = n2
 ·subst hn;have := rAdd_same n1 x.natAbs y.natAbs ao1 ao2 L1 L2 c1 c2 w HL1 HL2 hl1 hl2 hU1 hU2
  rwa [e1, e2] at this
 ·have hnn : (n1 == n2) = false := by simpa using hn
  rcases Nat.lt_or_ge x.natAbs y.natAbs with h | h
  ·have := rAdd_lt n1 n2 hnn x.natAbs y.natAbs (hii h) ao1 ao2 L1 L2 c1 c2 w HL1 HL2 hl1 hl2 hU1 hU2
   rwa [e1, e2] at this
  ·have := rAdd_ge n1 n2 hnn x.natAbs y.natAbs (hii h) ao1 ao2 L1 L2 c1 c2 w HL1 HL2 hl1 hl2 hU1 hU2
   rwa [e1, e2] at this
end Go.Proofs.YtgfpbghgpdpepaaGreatDoor
namespace Go.Proofs.YtgfpbghgpdpepaaGreatDoor
open Go.RowKit
theorem rMul_any (a b : Value) (x y : Int) (w : World) (ha : IntV w a x) (hb : IntV w b y) :
  Calls Tryz.prog 151 #[a, b] w fun e w' => ResZ w' (x * y) e ∧ Below w.heap.size w w' := by
 obtain ⟨n1, ao1, L1, c1, rfl, Hn1, HL1, HB1, hc1, hl1, hU1⟩ := ha;obtain ⟨n2, ao2, L2, c2, rfl, Hn2, HL2, HB2, hc2, hl2, hU2⟩ := hb;have Ho1 : Hid (Bi.Ok L1) := hii (by rw [HL1.out]; exact Bi.limbs_ok _);have Ho2 : Hid (Bi.Ok L2) := hii (by rw [HL2.out]; exact Bi.limbs_ok _);go_enter Tryz.func151, Tryz.ntmps151;go_wp2_with fail;obtain ⟨wx, hwx, hsz, B1, B2, B3, hbx⟩ := boxes3 w (.bool n1) (.slice ao1 L1.length c1) (.bool n2) (.slice ao2 L2.length c2) (.bool false) (.slice none 0 0) 32;rw [← hwx];clear hwx;have hbd := hbx.drew;have D1 := B1.mono ((Below.refl wx.heap.size wx).drew);have D2 := B2.mono ((Below.refl wx.heap.size wx).drew);have D3 := B3.mono ((Below.refl wx.heap.size wx).drew);have hX1 := hU1.mono hbd;have hX2 := hU2.mono hbd;clear hU1 hU2;go_region_held3 (fun w' => w'.cell? ⟨w.heap.size, 0, none⟩ = some (.bool n1) ∧ w'.cell? ⟨w.heap.size + 1, 0, none⟩ = some (.bool n2) ∧ w'.cell? ⟨w.heap.size, 1, none⟩ = some (.slice ao1 L1.length c1) ∧ w'.cell? ⟨w.heap.size + 1, 1, none⟩ = some (.slice ao2 L2.length c2))
  (first | (with_reducible exact ⟨B1.c0, B2.c0, B1.c1, B2.c1⟩) | (with_reducible exact ⟨D1.c0, D2.c0, D1.c1, D2.c1⟩) | (with_reducible exact ⟨E1.c0, E2.c0, E1.c1, E2.c1⟩) | (with_reducible exact ⟨F1.c0, F2.c0, F1.c1, F2.c1⟩) | (simp [F1.c0, F2.c0, F1.c1, F2.c1, go_sem]; done))
  (first
   | (go_at_call 188; ((with_reducible refine (rmul_any L1 L2 _ _ _ _ _ ?_ ?_ Ho1.out Ho2.out hX1 hX2).mono ?_); (omega); (omega)); rintro e w2 ⟨ao, L, cap, hL, rfl, hcap, hUL, hb2⟩; have HL := hii hL; clear hL; have E1 := D1.mono hb2; have E2 := D2.mono hb2; have E3 := D3.mono hb2)
   | (go_at_call 125; ((with_reducible refine (rmake_any (!(n1 == n2)) _ _ _ _ ?_ hUL (hii ?_)).mono ?_); (rw [HL.out]; exact Nat.le_trans (Bi.limbs_length_le (Bi.val_mul_lt Ho1.out Ho2.out)) (by omega)); (rw [HL.out]; exact Bi.limbs_ok _)); rintro e w3 ⟨⟨ng, ao3, n3, cap3, k3, rfl, HR⟩, hb3⟩; have F1 := E1.mono hb3; have F2 := E2.mono hb3; obtain ⟨p0, p1, q0, q1⟩ := E3.mono hb3))
 go_wp2;refine bodyPost_ret (v := .tuple #[.agg #[.bool ng, .slice ao3 n3 cap3], .int .i64 k3]) (by simp [results, Tryz.results151, go_sem, p0, p1]) rfl ⟨⟨ng, ao3, n3, cap3, k3, rfl, hii ?_⟩, ?_⟩
 ·have := HR.out.put2 p0 p1 (.bool ng) (.slice ao3 n3 cap3);rw [HL.out, Bi.val_limbs, HL1.out, HL2.out, Bi.val_limbs, Bi.val_limbs] at this;have h4 : sgn (!(n1 == n2)) (x.natAbs * y.natAbs) = x * y := by
   have e1 := sgn_of x n1 Hn1.out;have e2 := sgn_of y n2 Hn2.out;rw [← e1, ← e2, sgn_natAbs, sgn_natAbs];unfold sgn
   cases n1 <;> cases n2 <;> simp [Int.mul_neg, Int.neg_mul]
  rw [h4] at this;exact this
 ·exact Below.put2 (Below.step (bu hbd hb2) hb3 nl) (by omega) _ _
theorem rDiv_any (a b : Value) (x y : Int) (w : World) (ha : IntV w a x) (hb : IntV w b y) (hy0 : Hid (y ≠ 0)) :
  Calls Tryz.prog 187 #[a, b] w fun e w' => DivZ w' (x.tdiv y) (x.tmod y) e ∧ Below w.heap.size w w' := by
 obtain ⟨n1, ao1, L1, c1, rfl, Hn1, HL1, HB1, hc1, hl1, hU1⟩ := ha;obtain ⟨n2, ao2, L2, c2, rfl, Hn2, HL2, HB2, hc2, hl2, hU2⟩ := hb;have hL2 : 0 < L2.length := by
  rcases Nat.eq_zero_or_pos L2.length with h | h
  ·have h2 := HL2.out;rw [List.length_eq_zero_iff.1 h] at h2;have := Bi.limbs_eq_nil.1 h2.symm;have := hy0.out;omega
  ·exact h
 have hLz : ((L2.length : Int) == 0) = false := by rw [beq_eq_false_iff_ne]; omega
 go_enter Tryz.func187, Tryz.ntmps187;go_wp2_with fail;obtain ⟨wx, hwx, hsz, B1, B2, B3, B4, hbx⟩ := boxes4 w (.bool n1) (.slice ao1 L1.length c1) (.bool n2) (.slice ao2 L2.length c2) (.bool false) (.slice none 0 0) (.bool false) (.slice none 0 0) 32;rw [← hwx];clear hwx;obtain ⟨w1, rfl⟩ := exi wx;have hbw := hbx;have hX1 := hU1.mono hbw;have hX2 := hU2.mono hbw;have hlt4 := B4.lt;clear hU1 hU2 hsz;obtain ⟨a0, a1, _, _⟩ := B1;obtain ⟨b0, b1, _, _⟩ := B2;go_wp2_with fail;(with_reducible refine (rdiv_any x.natAbs y.natAbs L1 L2 HL1 HL2 ao1 ao2 c1 c2 w1 ?_ ?_ ?_ hX1 hX2).mono ?_)
 ·omega
 ·omega
 ·have := hy0.out; omega
 rintro e w2 ⟨⟨a3, a4, Q, R, c3, c4, HQ, HR, hc3, hc4, rfl, HU3, HU4⟩, hb2⟩;have hq34 : Q.length ≤ 34 := by rw [HQ.out]; exact limbs_len34 (Nat.lt_of_le_of_lt (Nat.div_le_self _ _) HB1.out)
 have hr34 : R.length ≤ 34 := by rw [HR.out]; exact limbs_len34 (Nat.lt_of_le_of_lt (Nat.mod_le _ _) HB1.out)
 have a0 : w2.cell? ⟨w.heap.size, 0, none⟩ = some (.bool n1) := (hb2.cell (p := ⟨w.heap.size, 0, none⟩) (by simp only; omega)).trans a0;have b0 : w2.cell? ⟨w.heap.size + 1, 0, none⟩ = some (.bool n2) := (hb2.cell (p := ⟨w.heap.size + 1, 0, none⟩) (by simp only; omega)).trans b0;have B3 := B3.mono hb2;have B4 := B4.mono hb2;have hbw2 := bu hbw hb2;have hlt4 := B4.lt;clear a1 b1 hX1 hX2;go_wp2_with fail;(with_reducible refine (rmake_any (!(n1 == n2)) Q a3 c3 w2 ?_ HU3.out (hii ?_)).mono ?_)
 ·omega
 ·rw [HQ.out]; exact Bi.limbs_ok _
 rintro e w3 ⟨⟨ng, ao3, n3, cap3, k3, rfl, HR3⟩, hb3⟩;have HV3 : Hid (IntV w3 (.agg #[.bool ng, .slice ao3 n3 cap3]) (x.tdiv y)) := hii (by
  have h := HR3.out;have h1 : Bi.val Q = x.natAbs / y.natAbs := by rw [HQ.out, Bi.val_limbs]
  rw [h1, sgn_tdiv x y n1 n2 Hn1.out Hn2.out] at h;rcases h with ⟨_, _, h⟩ | ⟨h, _⟩
  ·exact h
  ·exact absurd (by rw [Int.natAbs_tdiv]; exact Nat.lt_of_le_of_lt (Nat.div_le_self _ _) HB1.out) h)
 have a0 : w3.cell? ⟨w.heap.size, 0, none⟩ = some (.bool n1) := (hb3.cell (p := ⟨w.heap.size, 0, none⟩) (by simp only; omega)).trans a0;have B3 := B3.mono hb3;have B4 := B4.mono hb3;have hbw3 := bu hbw2 hb3;have hlt4 := B4.lt;have hU4 := HU4.out.mono hb3;clear b0 HR3;have hlt0 : w.heap.size < w3.heap.size := by omega
 go_wp2_with fail;have X1 := Box.new w3 (.bool ng) (.slice ao3 n3 cap3) 32;have hba := bA w3 (.cells #[.bool ng, .slice ao3 n3 cap3] 32);have hsza : (w3.alloc (.cells #[.bool ng, .slice ao3 n3 cap3] 32)).heap.size = w3.heap.size + 1 := by simp
 generalize w3.alloc (.cells #[.bool ng, .slice ao3 n3 cap3] 32) = w4 at *;have B3 := B3.mono hba;have B4 := B4.mono hba;have hbw4 := bu hbw3 hba;have hU4 := hU4.mono hba;have HV4 := hii (HV3.out.mono hba);(with_reducible refine (rmake_any n1 R a4 c4 w4 ?_ hU4 (hii ?_)).mono ?_)
 ·omega
 ·rw [HR.out]; exact Bi.limbs_ok _
 rintro e w5 ⟨⟨ng5, ao5, n5, cap5, k5, rfl, HR5⟩, hb5⟩;have HW5 : Hid (IntV w5 (.agg #[.bool ng5, .slice ao5 n5 cap5]) (x.tmod y)) := hii (by
  have h := HR5.out;have h1 : Bi.val R = x.natAbs % y.natAbs := by rw [HR.out, Bi.val_limbs]
  rw [h1, sgn_tmod x y n1 Hn1.out] at h;rcases h with ⟨_, _, h⟩ | ⟨h, _⟩
  ·exact h
  ·exact absurd (by rw [Int.natAbs_tmod]; exact Nat.lt_of_le_of_lt (Nat.mod_le _ _) HB1.out) h)
 have B3 := B3.mono hb5;have B4 := B4.mono hb5;have X1 := X1.mono hb5;have hbw5 := bu hbw4 hb5;have HV5 := hii (HV4.out.mono hb5);have hlt5 : w3.heap.size < w5.heap.size := by have := hb5.size; omega
 clear a0 HR5 hU4 hlt0;go_upto_region 6 with fail;have X2 := Box.new w5 (.bool ng5) (.slice ao5 n5 cap5) 32;have hba5 := bA w5 (.cells #[.bool ng5, .slice ao5 n5 cap5] 32);have hszb : (w5.alloc (.cells #[.bool ng5, .slice ao5 n5 cap5] 32)).heap.size = w5.heap.size + 1 := by simp
 generalize w5.alloc (.cells #[.bool ng5, .slice ao5 n5 cap5] 32) = w6 at *;have B3 := B3.mono hba5;have B4 := B4.mono hba5;have X1 := X1.mono hba5;have hbw6 := bu hbw5 hba5;have HV6 := hii (HV5.out.mono hba5);have HW6 := hii (HW5.out.mono hba5);have hlt3 := B4.lt;obtain ⟨p0, p1, q0, q1⟩ := B3;obtain ⟨r0, r1, s0, s1⟩ := B4;obtain ⟨x0, x1, _, _⟩ := X1;obtain ⟨y0, y1, _, _⟩ := X2;have hne1 : w.heap.size + 1 + 1 < w3.heap.size := by omega
 have hne2 : w.heap.size + 1 + 1 + 1 < w3.heap.size := by omega
 clear hsza hszb hbw3 hbw4 hbw5 hba hba5;go_region;go_wp2;have r0' : ∀ u v, ((w6.setCell ⟨w.heap.size + 1 + 1, 0, none⟩ u).setCell ⟨w.heap.size + 1 + 1, 1, none⟩ v).cell? ⟨w.heap.size + 1 + 1 + 1, 0, none⟩ = some (.bool false) := fun u v => by
  rw [World.cell?_setCell_other _ _ _ _ (by simp), World.cell?_setCell_other _ _ _ _ (by simp)]; exact r0
 have r1' : ∀ u v, ((w6.setCell ⟨w.heap.size + 1 + 1, 0, none⟩ u).setCell ⟨w.heap.size + 1 + 1, 1, none⟩ v).cell? ⟨w.heap.size + 1 + 1 + 1, 1, none⟩ = some (.slice none 0 0) := fun u v => by
  rw [World.cell?_setCell_other _ _ _ _ (by simp), World.cell?_setCell_other _ _ _ _ (by simp)]; exact r1
 have R0 := hii r0';have R1 := hii r1';clear r0' r1';refine bodyPost_ret (v := .tuple #[.agg #[.bool ng, .slice ao3 n3 cap3], .agg #[.bool ng5, .slice ao5 n5 cap5], .int .i64 0]) (by simp [results, Tryz.results187, go_sem, p0, p1, r0, r1]) rfl ⟨⟨ng, ao3, n3, cap3, ng5, ao5, n5, cap5, rfl, hii ?_, hii ?_⟩, ?_⟩
 ·exact ((HV6.out.put2 p0 p1 _ _).put2 (R0.out _ _) (R1.out _ _) _ _).mono (br.drew)
 ·exact ((HW6.out.put2 p0 p1 _ _).put2 (R0.out _ _) (R1.out _ _) _ _).mono (br.drew)
 ·exact (Below.put2 (Below.put2 hbw6 (by omega) _ _) (by omega) _ _).drew
end Go.Proofs.YtgfpbghgpdpepaaGreatDoor
namespace Go.Proofs.YtgfpbghgpdpepaaGreatDoor
open Go.RowKit
theorem rGcd_any (a b : Value) (x y : Int) (w : World) (ha : IntV w a x) (hb : IntV w b y) :
  Calls Tryz.prog 115 #[a, b] w fun e w' => (∃ (ng : Bool) (ao : Option Addr) (n cap : Nat), e = .returned (.agg #[.bool ng, .slice ao n cap]) ∧ Hid (IntV w' (.agg #[.bool ng, .slice ao n cap]) ((Int.gcd x y : Nat) : Int))) ∧ Below w.heap.size w w' := by
 obtain ⟨n1, ao1, L1, c1, rfl, Hn1, HL1, HB1, hc1, hl1, hU1⟩ := ha;obtain ⟨n2, ao2, L2, c2, rfl, Hn2, HL2, HB2, hc2, hl2, hU2⟩ := hb;go_enter Tryz.func115, Tryz.ntmps115;go_wp2_with fail;obtain ⟨wx, hwx, hsz, B1, B2, B3, hbx⟩ := boxes3 w (.bool n1) (.slice ao1 L1.length c1) (.bool n2) (.slice ao2 L2.length c2) (.bool false) (.slice none 0 0) 32;rw [← hwx];clear hwx;obtain ⟨a0, a1, _, _⟩ := B1;obtain ⟨b0, b1, _, _⟩ := B2;go_quiet (fail);have hbq := below_drewN (Below.refl wx.heap.size wx) nq;have B3 := B3.mono hbq;have hbw3 := below_drewN hbx nq;have hU3 := hU1.mono hbw3;have hU4 := hU2.mono hbw3;clear a0 a1 b0 b1 hU1 hU2 hsz hbq;generalize wx.drewN nq = w3 at *;go_wp2_with fail;go_loopg [5, 6] (y.natAbs) (fun gk s7 s8 wr => ∃ (X Y : Nat) (L M : List Nat) (a5 a6 : Option Addr) (c5 c6 : Nat), Y ≤ gk ∧ s7 = .slice a5 L.length c5 ∧ s8 = .slice a6 M.length c6 ∧ Hid (L = Bi.limbs X) ∧ Hid (M = Bi.limbs Y) ∧ Hid (Nat.gcd X Y = Int.gcd x y) ∧
   Hid (X < Bi.Big ∧ Y < Bi.Big) ∧ U wr a5 L ∧ U wr a6 M ∧ Below w3.heap.size w3 wr)
 case atStart => exact ⟨x.natAbs, y.natAbs, L1, L2, ao1, ao2, c1, c2, nl, rfl, rfl, HL1, HL2, hii rfl, hii ⟨HB1.out, HB2.out⟩, hU3, hU4, br⟩
 case round =>
  clear hU3 hU4;obtain ⟨X, Y, L, M, a5, a6, c5, c6, hY, rfl, rfl, HL, HM, HG, HXY, hUL, hUM, hbr⟩ := hrel;have hl5 : L.length ≤ 34 := by rw [HL.out]; exact limbs_len34 HXY.out.1
  have hl6 : M.length ≤ 34 := by rw [HM.out]; exact limbs_len34 HXY.out.2
  by_cases hM0 : M = []
  ·have hY0 : Y = 0 := Bi.limbs_eq_nil.1 (by rw [← HM.out]; exact hM0);subst hM0;subst hY0;have hbr0 := bu hbw3 hbr;have F4 := B3.mono hbr;clear hUM hl6;go_wp2_with fail;(with_reducible refine (rmake_any false L a5 c5 wr ?_ hUL (hii ?_)).mono ?_)
   ·omega
   ·rw [HL.out]; exact Bi.limbs_ok _
   rintro e w5 ⟨⟨ng, ao3, n3, cap3, k3, rfl, HR⟩, hb5⟩;have hB := F4.mono hb5;have hlt := hB.lt;obtain ⟨p0, p1, q0, q1⟩ := hB;have hV : Hid (IntV w5 (.agg #[.bool ng, .slice ao3 n3 cap3]) ((Int.gcd x y : Nat) : Int)) := hii (by
    have e1 : sgn false (Bi.val L) = ((Int.gcd x y : Nat) : Int) := by rw [HL.out, Bi.val_limbs, ← HG.out]; simp [sgn]
    rw [e1] at HR;rcases HR.out with ⟨_, _, h⟩ | ⟨h, _⟩
    ·exact h
    ·refine absurd ?_ h;rw [Int.natAbs_natCast, ← HG.out];exact gcd_big HXY.out.1 HXY.out.2)
   go_wp2;refine bodyPost_ret (v := .agg #[.bool ng, .slice ao3 n3 cap3]) (by simp [results, Tryz.results115, go_sem, p0, p1, hlt]) rfl ⟨⟨ng, ao3, n3, cap3, rfl, hii ((hV.out.put2 p0 p1 _ _).mono (bA _ _))⟩, ?_⟩;refine (Below.put2 (bu hbr0 hb5) (by omega) _ _).alloc ?_ _;have := hb5.size; have := hbr.size; have := hbw3.size; simp [World.setCell]; omega
  ·have hM1 : 0 < M.length := List.length_pos_iff.2 hM0;have hY1 : 0 < Y := by
    rcases Nat.eq_zero_or_pos Y with h | h
    ·exact absurd (by rw [HM.out, h]; rfl) hM0
    ·exact h
   clear hM0;go_wp2_with fail;(with_reducible refine (rdiv_any X Y L M HL HM a5 a6 c5 c6 wr ?_ ?_ hY1 hUL hUM).mono ?_)
   ·omega
   ·omega
   rintro e w5 ⟨⟨a7, a8, Q, R, c7, c8, HQ, HR, hc7, hc8, rfl, HU7, HU8⟩, hb5⟩;have hUM5 := hUM.mono hb5;have hUR := HU8.out;have hlt := Nat.mod_lt X hY1;clear hUL hUM;go_wp2;go_roundg (X % Y)
   case measure => omega
   case rel => exact ⟨Y, X % Y, M, R, a6, a8, c6, c8, nl, rfl, rfl, HM, HR, hii (by rw [← HG.out]; exact gcd_step X Y), hii ⟨HXY.out.2, Nat.lt_trans hlt HXY.out.2⟩, hUM5, hUR, bu hbr hb5⟩
def BoolP (P : Prop) (e : Ending) : Prop := ∃ r : Bool, Hid (r = true ↔ P) ∧ e = .returned (.bool r)
theorem last_split {l : List Nat} {x : Nat} (hx : l[l.length - 1]? = some x) : ∃ r, l = r ++ [x] := by
 rcases List.eq_nil_or_concat l with h | ⟨r, y, h⟩
 ·subst h; simp at hx
 ·rw [List.concat_eq_append] at h;subst h;simp at hx;exact ⟨r, by rw [hx]⟩
theorem rValid_any (neg : Bool) (l : List Nat) (ao : Option Addr) (cap : Nat) (w : World) (hm : l.length ≤ 1000000000) (hU : U w ao l) :
  Calls Tryz.prog 114 #[.agg #[.bool neg, .slice ao l.length cap]] w fun e w' => BoolP (validP neg l) e ∧ Below w.heap.size w w' := by
 go_enter Tryz.func114, Tryz.ntmps114;go_wp2_with fail;have hbx := bA w (.cells #[.bool neg, .slice ao l.length cap] 32);have B1 := Box.new w (.bool neg) (.slice ao l.length cap) 32;have hUx := hU.mono hbx;clear hU;generalize w.alloc (.cells #[.bool neg, .slice ao l.length cap] 32) = wx at *;obtain ⟨a0, a1, _, _⟩ := B1;go_loop [3] (fun s => ∃ k : Nat, k ≤ l.length ∧ s = .int .i64 k ∧ Hid (Bi.Ok (l.take k))) (fun s => l.length - (intOf s).toNat)
 case atStart => exact ⟨0, Nat.zero_le _, rfl, hii (by simp [Bi.Ok])⟩
 case round =>
  obtain ⟨k, hk, rfl, HK⟩ := hrel
  by_cases hlt : k < l.length
  ·obtain ⟨x, hx⟩ := get_some hlt;obtain ⟨b, off, rfl, hc⟩ := hUx.at' hx;have HX := hii hx;clear hx hUx
   by_cases hs : (1000000000 : Int) ≤ (x : Int)
   ·have hno : ¬ validP neg l := by
     intro h;unfold validP at h;rw [if_neg (by rintro rfl; simp at hlt)] at h;have := h.1.at' HX.out;omega
    have HNO := hii hno;clear hno;go_wp2;go_ret;exact ⟨⟨false, hii (by simp [HNO.out]), rfl⟩, hbx⟩
   ·go_wp2;go_round
    case rel =>
     refine ⟨k + 1, by omega, by go_num, hii ?_⟩;have h1 : l[k]'hlt = x := (List.getElem?_eq_some_iff.1 HX.out).2;rw [List.take_succ_eq_append_getElem hlt, h1];exact HK.out.snoc (by omega)
    case measure => simp [intOf]; omega
  ·obtain rfl : k = l.length := by omega
   have HO : Hid (Bi.Ok l) := hii (by have := HK.out; rwa [List.take_length] at this);clear HK
   by_cases hl0 : l = []
   ·subst hl0;clear hUx;go_wp2;go_ret;exact ⟨⟨_, hii (by simp [validP]), rfl⟩, hbx⟩
   ·have hl1 : 0 < l.length := List.length_pos_iff.2 hl0;have hlz : ((l.length : Int) == 0) = false := by rw [beq_eq_false_iff_ne]; omega
    obtain ⟨x, hx⟩ := get_some (l := l) (k := l.length - 1) (by omega);obtain ⟨b, off, rfl, hc⟩ := hUx.at' hx;have HV : Hid (validP neg l ↔ Bi.Ok l ∧ x ≠ 0 ∧ Bi.val l < Bi.Big) := hii (by
     obtain ⟨r, rfl⟩ := last_split hx;exact valid_last)
    have HS := hii (last_split hx);clear hx hl0
    by_cases hx0 : x = 0
    ·subst hx0;clear hUx;go_wp2;go_ret;exact ⟨⟨false, hii (by rw [HV.out]; simp), rfl⟩, hbx⟩
    ·have hxb : ((x : Int) != 0) = true := by rw [bne_iff_ne]; omega
     have HL : Hid (l = Bi.limbs (Bi.val l)) := hii (by
      obtain ⟨r, hr⟩ := HS.out;have ho := HO.out;rw [hr] at ho ⊢;exact canon_snoc ho hx0)
     go_wp2_with fail;(with_reducible refine (rdigits_any _ l HL _ _ _ ?_ hUx).mono ?_)
     ·omega
     rintro e w2 ⟨⟨d, HD, hd, rfl⟩, rfl⟩;clear hUx;go_wp2;go_ret;refine ⟨⟨_, hii ?_, rfl⟩, hbx⟩;rw [HV.out, ← Bi.dlen_le, ← HD.out];simp [HO.out, hx0];omega
end Go.Proofs.YtgfpbghgpdpepaaGreatDoor
/-! texts of integers, plain -/
namespace Bi
open Go
def isDig (b : UInt8) : Prop := 48 ≤ b.toNat ∧ b.toNat ≤ 57
def decVal : List UInt8 → Nat
 | [] => 0
 | b :: r => (b.toNat - 48) * 10 ^ r.length + decVal r
theorem decVal_lt : ∀ (l : List UInt8), (∀ b ∈ l, isDig b) → decVal l < 10 ^ l.length
 | [], _ => by simp [decVal]
 | b :: r, h => by
  have hb : isDig b := h b (by simp);have hr := decVal_lt r (fun x hx => h x (by simp [hx]));unfold isDig at hb;rw [decVal, List.length_cons, Nat.pow_succ];have : (b.toNat - 48) * 10 ^ r.length ≤ 9 * 10 ^ r.length := Nat.mul_le_mul_right _ (by omega);omega
theorem decVal_append : ∀ (a b : List UInt8), decVal (a ++ b) = decVal a * 10 ^ b.length + decVal b
 | [], b => by simp [decVal]
 | x :: a, b => by
  simp only [List.cons_append, decVal, decVal_append a b, List.length_append, Nat.pow_add, Nat.add_mul, Nat.mul_assoc];omega
def textP (neg : Bool) (t : List UInt8) : Prop := t ≠ [] ∧ t.length ≤ 300 ∧ (∀ b ∈ t, isDig b) ∧ ¬ (t.head? = some 48 ∧ (1 < t.length ∨ neg = true))
end Bi
namespace Go.Proofs.YtgfpbghgpdpepaaGreatDoor
open Go.RowKit
end Go.Proofs.YtgfpbghgpdpepaaGreatDoor
namespace Go.Proofs.YtgfpbghgpdpepaaGreatDoor
open Go.RowKit
theorem eqV_any (a b : Value) (x y : Int) (w : World) (ha : IntV w a x) (hb : IntV w b y) :
  Calls Tryz.prog 66 #[a, b] w fun e w' => e = .returned (.bool (decide (x = y))) ∧ Below w.heap.size w w' := by
 obtain ⟨n1, ao1, L1, c1, rfl, Hn1, HL1, HB1, hc1, hl1, hU1⟩ := ha;obtain ⟨n2, ao2, L2, c2, rfl, Hn2, HL2, HB2, hc2, hl2, hU2⟩ := hb;refine (equal_any n1 n2 L1 L2 ao1 ao2 c1 c2 w (by omega) (by omega) hU1 hU2).mono ?_;rintro e w' ⟨⟨r, HR, rfl⟩, hb⟩;refine ⟨ret_bool ?_, hb⟩;have h := HR.out;have e1 := sgn_of x n1 Hn1.out;have e2 := sgn_of y n2 Hn2.out
 by_cases hxy : x = y
 ·subst hxy;rw [h.2 ⟨by rw [Hn1.out, Hn2.out], by rw [HL1.out, HL2.out]⟩]; simp
 ·cases r with
  | false => simp [hxy]
  | true =>
   obtain ⟨h1, h2⟩ := h.1 rfl;rw [HL1.out, HL2.out] at h2;have := Bi.limbs_inj h2;rw [← e1, ← e2, h1, this] at hxy;exact absurd rfl hxy
theorem big_small {k : Nat} (h : k ≤ 9223372036854775808) : k < Bi.Big := small_big h
end Go.Proofs.YtgfpbghgpdpepaaGreatDoor
