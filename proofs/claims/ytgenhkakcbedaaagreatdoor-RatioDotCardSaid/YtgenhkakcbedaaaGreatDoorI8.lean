import Derived.Test.YtgenhkakcbedaaaGreatDoorI7
import Derived.RegionTactic
import Derived.BigRegion
import Derived.Test.YtgenhkakcbedaaaGreatDoorI2
import Derived.Lib.Atoi
import Derived.Lib.SlTrimSet
import Derived.Lib.Strings
import Derived.Shelf.Strings.SlTrimAscii
namespace Go.Proofs.YtgenhkakcbedaaaGreatDoor
open Go.RowKit

set_option maxHeartbeats 1600000 in
theorem rAdd_same (n : Bool) (m1 m2 : Nat) (ao1 ao2 : Option Addr) (L1 L2 : List Nat) (c1 c2 : Nat) (w : World) (HL1 : Hid (L1 = Bi.limbs m1)) (HL2 : Hid (L2 = Bi.limbs m2)) (hl1 : L1.length ≤ 34) (hl2 : L2.length ≤ 34)
    (hU1 : U w ao1 L1) (hU2 : U w ao2 L2) :
    Calls Tryz.prog 109 #[.agg #[.bool n, .slice ao1 L1.length c1], .agg #[.bool n, .slice ao2 L2.length c2]] w fun e w' => ResZ w' (sgn n m1 + sgn n m2) e ∧ Below w.heap.size w w' := by
  have hnn : (n == n) = true := by simp
  have Ho1 : Hid (Bi.Ok L1) := Lib.hid (by rw [HL1.out]; exact Bi.limbs_ok _)
  have Ho2 : Hid (Bi.Ok L2) := Lib.hid (by rw [HL2.out]; exact Bi.limbs_ok _)
  have hvl : Hid (Bi.val L1 = m1 ∧ Bi.val L2 = m2) := Lib.hid (by rw [HL1.out, HL2.out, Bi.val_limbs, Bi.val_limbs]; exact ⟨rfl, rfl⟩)
  go_enter Tryz.func109, Tryz.ntmps109
  go_wp2_with fail
  obtain ⟨wx, hwx, hsz, B1, B2, B3, hbx⟩ := boxes3 w (.bool n) (.slice ao1 L1.length c1) (.bool n) (.slice ao2 L2.length c2) (.bool false) (.slice none 0 0) 24
  rw [← hwx]
  clear hwx
  obtain ⟨w0, rfl⟩ : ∃ w0 : World, w0 = wx := ⟨_, rfl⟩
  have hb0' := hbx
  have hbd : Below w.heap.size w w0.drew := hb0'.drew
  have hX1 := hU1.mono hbd
  have hX2 := hU2.mono hbd
  have D1 := B1.mono ((Below.refl w0.heap.size w0).drew)
  have D2 := B2.mono ((Below.refl w0.heap.size w0).drew)
  have D3 := B3.mono ((Below.refl w0.heap.size w0).drew)
  obtain ⟨z0, z1, _, _⟩ := B1
  obtain ⟨y0, y1, _, _⟩ := B2
  clear hU1 hU2
  go_wp2_with fail
  go_region_held3 (fun w' => w'.cell? ⟨w.heap.size, 0, none⟩ = some (.bool n) ∧ w'.cell? ⟨w.heap.size, 1, none⟩ = some (.slice ao1 L1.length c1) ∧ w'.cell? ⟨w.heap.size + 1, 1, none⟩ = some (.slice ao2 L2.length c2))
    (first | (with_reducible exact ⟨z0, z1, y1⟩) | (with_reducible exact ⟨D1.c0, D1.c1, D2.c1⟩) | (with_reducible exact ⟨E1.c0, E1.c1, E2.c1⟩) | (with_reducible exact ⟨F1.c0, F1.c1, F2.c1⟩) | (simp [F1.c0, F1.c1, F2.c1, go_sem]; done))
    (first
      | (go_at_call 138; ((with_reducible refine (radd_any L1 L2 _ _ _ _ _ ?_ ?_ Ho1.out Ho2.out hX1 hX2).mono ?_); (omega); (omega)); rintro e w1 ⟨ao, L, cap, hL, rfl, hcap, hlL, hUL, hb1⟩; have HL := Lib.hid hL; clear hL; have E1 := D1.mono hb1; have E2 := D2.mono hb1; have E3 := D3.mono hb1)
      | (go_at_call 97; ((with_reducible refine (rmake_any n _ _ _ _ ?_ hUL (Lib.hid ?_)).mono ?_); (omega); (rw [HL.out]; exact Bi.limbs_ok _)); rintro e w2 ⟨⟨ng, ao3, n3, cap3, k3, rfl, HR⟩, hb2⟩; have F1 := E1.mono hb2; have F2 := E2.mono hb2; obtain ⟨p0, p1, q0, q1⟩ := E3.mono hb2))
  go_wp2
  refine bodyPost_ret (v := .tuple #[.agg #[.bool ng, .slice ao3 n3 cap3], .int .i64 k3]) (by simp [results, Tryz.results109, go_sem, p0, p1]) rfl ⟨⟨ng, ao3, n3, cap3, k3, rfl, Lib.hid ?_⟩, ?_⟩
  · have := HR.out.put2 p0 p1 (.bool ng) (.slice ao3 n3 cap3)
    rw [HL.out, Bi.val_limbs, hvl.out.1, hvl.out.2] at this
    rw [sgn_add] at this
    exact this
  · exact Below.put2 (Below.step (Below.step hbd hb1 (Nat.le_refl _)) hb2 (Nat.le_refl _)) (by omega) _ _

set_option maxHeartbeats 1600000 in
theorem rAdd_ge (n1 n2 : Bool) (hnn : (n1 == n2) = false) (m1 m2 : Nat) (hle : Hid (m2 ≤ m1)) (ao1 ao2 : Option Addr) (L1 L2 : List Nat) (c1 c2 : Nat) (w : World) (HL1 : Hid (L1 = Bi.limbs m1)) (HL2 : Hid (L2 = Bi.limbs m2)) (hl1 : L1.length ≤ 34) (hl2 : L2.length ≤ 34)
    (hU1 : U w ao1 L1) (hU2 : U w ao2 L2) :
    Calls Tryz.prog 109 #[.agg #[.bool n1, .slice ao1 L1.length c1], .agg #[.bool n2, .slice ao2 L2.length c2]] w fun e w' => ResZ w' (sgn n1 m1 + sgn n2 m2) e ∧ Below w.heap.size w w' := by
  have hll : L2.length ≤ L1.length := by rw [HL1.out, HL2.out]; exact Bi.len_mono hle.out
  have Ho1 : Hid (Bi.Ok L1) := Lib.hid (by rw [HL1.out]; exact Bi.limbs_ok _)
  have Ho2 : Hid (Bi.Ok L2) := Lib.hid (by rw [HL2.out]; exact Bi.limbs_ok _)
  have hvl : Hid (Bi.val L1 = m1 ∧ Bi.val L2 = m2) := Lib.hid (by rw [HL1.out, HL2.out, Bi.val_limbs, Bi.val_limbs]; exact ⟨rfl, rfl⟩)
  go_enter Tryz.func109, Tryz.ntmps109
  go_wp2_with fail
  obtain ⟨wx, hwx, hsz, B1, B2, B3, hbx⟩ := boxes3 w (.bool n1) (.slice ao1 L1.length c1) (.bool n2) (.slice ao2 L2.length c2) (.bool false) (.slice none 0 0) 24
  rw [← hwx]
  clear hwx
  (with_reducible refine (rcmp_any m1 m2 L1 L2 HL1 HL2 ao1 ao2 c1 c2 wx ?_ ?_ (hU1.mono hbx) (hU2.mono hbx)).mono ?_)
  · omega
  · omega
  rintro e w0 ⟨rfl, hb0⟩
  have hcmp : 0 ≤ cmpN m1 m2 := by have := hle.out; unfold cmpN; rw [if_neg (by omega)]; split <;> omega
  have hb0' := Below.step hbx hb0 (Nat.le_refl _)
  have B1 := B1.mono hb0
  have B2 := B2.mono hb0
  have B3 := B3.mono hb0
  have hbd : Below w.heap.size w w0.drew := hb0'.drew
  have hX1 := hU1.mono hbd
  have hX2 := hU2.mono hbd
  have D1 := B1.mono ((Below.refl w0.heap.size w0).drew)
  have D2 := B2.mono ((Below.refl w0.heap.size w0).drew)
  have D3 := B3.mono ((Below.refl w0.heap.size w0).drew)
  obtain ⟨z0, z1, _, _⟩ := B1
  obtain ⟨y0, y1, _, _⟩ := B2
  clear hU1 hU2
  go_wp2_with fail
  go_region_held3 (fun w' => w'.cell? ⟨w.heap.size, 0, none⟩ = some (.bool n1) ∧ w'.cell? ⟨w.heap.size, 1, none⟩ = some (.slice ao1 L1.length c1) ∧ w'.cell? ⟨w.heap.size + 1, 1, none⟩ = some (.slice ao2 L2.length c2))
    (first | (with_reducible exact ⟨z0, z1, y1⟩) | (with_reducible exact ⟨D1.c0, D1.c1, D2.c1⟩) | (with_reducible exact ⟨E1.c0, E1.c1, E2.c1⟩) | (with_reducible exact ⟨F1.c0, F1.c1, F2.c1⟩) | (simp [F1.c0, F1.c1, F2.c1, go_sem]; done))
    (first
      | (go_at_call 123; ((with_reducible refine (rsub_any L1 L2 _ _ _ _ _ ?_ hll (Lib.hid ?_) Ho1.out Ho2.out hX1 hX2).mono ?_); (omega); (rw [hvl.out.1, hvl.out.2]; have := hle.out; omega)); rintro e w1 ⟨ao, L, cap, hL, rfl, hcap, hlL, hUL, hb1⟩; have HL := Lib.hid hL; clear hL; have E1 := D1.mono hb1; have E2 := D2.mono hb1; have E3 := D3.mono hb1)
      | (go_at_call 97; ((with_reducible refine (rmake_any n1 _ _ _ _ ?_ hUL (Lib.hid ?_)).mono ?_); (omega); (rw [HL.out]; exact Bi.limbs_ok _)); rintro e w2 ⟨⟨ng, ao3, n3, cap3, k3, rfl, HR⟩, hb2⟩; have F1 := E1.mono hb2; have F2 := E2.mono hb2; obtain ⟨p0, p1, q0, q1⟩ := E3.mono hb2))
  go_wp2
  refine bodyPost_ret (v := .tuple #[.agg #[.bool ng, .slice ao3 n3 cap3], .int .i64 k3]) (by simp [results, Tryz.results109, go_sem, p0, p1]) rfl ⟨⟨ng, ao3, n3, cap3, k3, rfl, Lib.hid ?_⟩, ?_⟩
  · have := HR.out.put2 p0 p1 (.bool ng) (.slice ao3 n3 cap3)
    rw [HL.out, Bi.val_limbs, hvl.out.1, hvl.out.2] at this
    rw [minus_val n1 n2 m1 m2 (by rintro rfl; simp at hnn) hle.out] at this
    exact this
  · exact Below.put2 (Below.step (Below.step hbd hb1 (Nat.le_refl _)) hb2 (Nat.le_refl _)) (by omega) _ _

set_option maxHeartbeats 1600000 in
theorem rAdd_lt (n1 n2 : Bool) (hnn : (n1 == n2) = false) (m1 m2 : Nat) (hle : Hid (m1 < m2)) (ao1 ao2 : Option Addr) (L1 L2 : List Nat) (c1 c2 : Nat) (w : World) (HL1 : Hid (L1 = Bi.limbs m1)) (HL2 : Hid (L2 = Bi.limbs m2)) (hl1 : L1.length ≤ 34) (hl2 : L2.length ≤ 34)
    (hU1 : U w ao1 L1) (hU2 : U w ao2 L2) :
    Calls Tryz.prog 109 #[.agg #[.bool n1, .slice ao1 L1.length c1], .agg #[.bool n2, .slice ao2 L2.length c2]] w fun e w' => ResZ w' (sgn n1 m1 + sgn n2 m2) e ∧ Below w.heap.size w w' := by
  have hll : L1.length ≤ L2.length := by rw [HL1.out, HL2.out]; exact Bi.len_mono (Nat.le_of_lt hle.out)
  have Ho1 : Hid (Bi.Ok L1) := Lib.hid (by rw [HL1.out]; exact Bi.limbs_ok _)
  have Ho2 : Hid (Bi.Ok L2) := Lib.hid (by rw [HL2.out]; exact Bi.limbs_ok _)
  have hvl : Hid (Bi.val L1 = m1 ∧ Bi.val L2 = m2) := Lib.hid (by rw [HL1.out, HL2.out, Bi.val_limbs, Bi.val_limbs]; exact ⟨rfl, rfl⟩)
  go_enter Tryz.func109, Tryz.ntmps109
  go_wp2_with fail
  obtain ⟨wx, hwx, hsz, B1, B2, B3, hbx⟩ := boxes3 w (.bool n1) (.slice ao1 L1.length c1) (.bool n2) (.slice ao2 L2.length c2) (.bool false) (.slice none 0 0) 24
  rw [← hwx]
  clear hwx
  (with_reducible refine (rcmp_any m1 m2 L1 L2 HL1 HL2 ao1 ao2 c1 c2 wx ?_ ?_ (hU1.mono hbx) (hU2.mono hbx)).mono ?_)
  · omega
  · omega
  rintro e w0 ⟨rfl, hb0⟩
  have hcmp : cmpN m1 m2 < 0 := by have := hle.out; unfold cmpN; rw [if_pos this]; decide
  have hb0' := Below.step hbx hb0 (Nat.le_refl _)
  have B1 := B1.mono hb0
  have B2 := B2.mono hb0
  have B3 := B3.mono hb0
  have hbd : Below w.heap.size w w0.drew := hb0'.drew
  have hX1 := hU1.mono hbd
  have hX2 := hU2.mono hbd
  have D1 := B1.mono ((Below.refl w0.heap.size w0).drew)
  have D2 := B2.mono ((Below.refl w0.heap.size w0).drew)
  have D3 := B3.mono ((Below.refl w0.heap.size w0).drew)
  obtain ⟨z0, z1, _, _⟩ := B1
  obtain ⟨y0, y1, _, _⟩ := B2
  clear hU1 hU2
  go_wp2_with fail
  go_region_held3 (fun w' => w'.cell? ⟨w.heap.size + 1, 0, none⟩ = some (.bool n2) ∧ w'.cell? ⟨w.heap.size + 1, 1, none⟩ = some (.slice ao2 L2.length c2) ∧ w'.cell? ⟨w.heap.size, 1, none⟩ = some (.slice ao1 L1.length c1))
    (first | (with_reducible exact ⟨y0, y1, z1⟩) | (with_reducible exact ⟨D2.c0, D2.c1, D1.c1⟩) | (with_reducible exact ⟨E2.c0, E2.c1, E1.c1⟩) | (with_reducible exact ⟨F2.c0, F2.c1, F1.c1⟩) | (simp [F2.c0, F2.c1, F1.c1, go_sem]; done))
    (first
      | (go_at_call 123; ((with_reducible refine (rsub_any L2 L1 _ _ _ _ _ ?_ hll (Lib.hid ?_) Ho2.out Ho1.out hX2 hX1).mono ?_); (omega); (rw [hvl.out.1, hvl.out.2]; have := hle.out; omega)); rintro e w1 ⟨ao, L, cap, hL, rfl, hcap, hlL, hUL, hb1⟩; have HL := Lib.hid hL; clear hL; have E1 := D1.mono hb1; have E2 := D2.mono hb1; have E3 := D3.mono hb1)
      | (go_at_call 97; ((with_reducible refine (rmake_any n2 _ _ _ _ ?_ hUL (Lib.hid ?_)).mono ?_); (omega); (rw [HL.out]; exact Bi.limbs_ok _)); rintro e w2 ⟨⟨ng, ao3, n3, cap3, k3, rfl, HR⟩, hb2⟩; have F1 := E1.mono hb2; have F2 := E2.mono hb2; obtain ⟨p0, p1, q0, q1⟩ := E3.mono hb2))
  go_wp2
  refine bodyPost_ret (v := .tuple #[.agg #[.bool ng, .slice ao3 n3 cap3], .int .i64 k3]) (by simp [results, Tryz.results109, go_sem, p0, p1]) rfl ⟨⟨ng, ao3, n3, cap3, k3, rfl, Lib.hid ?_⟩, ?_⟩
  · have := HR.out.put2 p0 p1 (.bool ng) (.slice ao3 n3 cap3)
    rw [HL.out, Bi.val_limbs, hvl.out.1, hvl.out.2] at this
    rw [show sgn n2 (m2 - m1) = sgn n1 m1 + sgn n2 m2 by rw [Int.add_comm]; exact minus_val n2 n1 m2 m1 (by rintro rfl; simp at hnn) (Nat.le_of_lt hle.out)] at this
    exact this
  · exact Below.put2 (Below.step (Below.step hbd hb1 (Nat.le_refl _)) hb2 (Nat.le_refl _)) (by omega) _ _

theorem rAdd_any (a b : Value) (x y : Int) (w : World) (ha : IntV w a x) (hb : IntV w b y) :
    Calls Tryz.prog 109 #[a, b] w fun e w' => ResZ w' (x + y) e ∧ Below w.heap.size w w' := by
  obtain ⟨n1, ao1, L1, c1, rfl, Hn1, HL1, HB1, hc1, hl1, hU1⟩ := ha
  obtain ⟨n2, ao2, L2, c2, rfl, Hn2, HL2, HB2, hc2, hl2, hU2⟩ := hb
  have e1 := sgn_of x n1 Hn1.out
  have e2 := sgn_of y n2 Hn2.out
  by_cases hn : n1 = n2
  · subst hn
    have := rAdd_same n1 x.natAbs y.natAbs ao1 ao2 L1 L2 c1 c2 w HL1 HL2 hl1 hl2 hU1 hU2
    rwa [e1, e2] at this
  · have hnn : (n1 == n2) = false := by simpa using hn
    rcases Nat.lt_or_ge x.natAbs y.natAbs with h | h
    · have := rAdd_lt n1 n2 hnn x.natAbs y.natAbs (Lib.hid h) ao1 ao2 L1 L2 c1 c2 w HL1 HL2 hl1 hl2 hU1 hU2
      rwa [e1, e2] at this
    · have := rAdd_ge n1 n2 hnn x.natAbs y.natAbs (Lib.hid h) ao1 ao2 L1 L2 c1 c2 w HL1 HL2 hl1 hl2 hU1 hU2
      rwa [e1, e2] at this

end Go.Proofs.YtgenhkakcbedaaaGreatDoor

namespace Go.Proofs.YtgenhkakcbedaaaGreatDoor
open Go.RowKit

set_option maxHeartbeats 1600000 in
theorem rMul_any (a b : Value) (x y : Int) (w : World) (ha : IntV w a x) (hb : IntV w b y) :
    Calls Tryz.prog 74 #[a, b] w fun e w' => ResZ w' (x * y) e ∧ Below w.heap.size w w' := by
  obtain ⟨n1, ao1, L1, c1, rfl, Hn1, HL1, HB1, hc1, hl1, hU1⟩ := ha
  obtain ⟨n2, ao2, L2, c2, rfl, Hn2, HL2, HB2, hc2, hl2, hU2⟩ := hb
  have Ho1 : Hid (Bi.Ok L1) := Lib.hid (by rw [HL1.out]; exact Bi.limbs_ok _)
  have Ho2 : Hid (Bi.Ok L2) := Lib.hid (by rw [HL2.out]; exact Bi.limbs_ok _)
  go_enter Tryz.func74, Tryz.ntmps74
  go_wp2_with fail
  obtain ⟨wx, hwx, hsz, B1, B2, B3, hbx⟩ := boxes3 w (.bool n1) (.slice ao1 L1.length c1) (.bool n2) (.slice ao2 L2.length c2) (.bool false) (.slice none 0 0) 24
  rw [← hwx]
  clear hwx
  have hbd := hbx.drew
  have D1 := B1.mono ((Below.refl wx.heap.size wx).drew)
  have D2 := B2.mono ((Below.refl wx.heap.size wx).drew)
  have D3 := B3.mono ((Below.refl wx.heap.size wx).drew)
  have hX1 := hU1.mono hbd
  have hX2 := hU2.mono hbd
  clear hU1 hU2
  go_region_held3 (fun w' => w'.cell? ⟨w.heap.size, 0, none⟩ = some (.bool n1) ∧ w'.cell? ⟨w.heap.size + 1, 0, none⟩ = some (.bool n2) ∧ w'.cell? ⟨w.heap.size, 1, none⟩ = some (.slice ao1 L1.length c1) ∧ w'.cell? ⟨w.heap.size + 1, 1, none⟩ = some (.slice ao2 L2.length c2))
    (first | (with_reducible exact ⟨B1.c0, B2.c0, B1.c1, B2.c1⟩) | (with_reducible exact ⟨D1.c0, D2.c0, D1.c1, D2.c1⟩) | (with_reducible exact ⟨E1.c0, E2.c0, E1.c1, E2.c1⟩) | (with_reducible exact ⟨F1.c0, F2.c0, F1.c1, F2.c1⟩) | (simp [F1.c0, F2.c0, F1.c1, F2.c1, go_sem]; done))
    (first
      | (go_at_call 108; ((with_reducible refine (rmul_any L1 L2 _ _ _ _ _ ?_ ?_ Ho1.out Ho2.out hX1 hX2).mono ?_); (omega); (omega)); rintro e w2 ⟨ao, L, cap, hL, rfl, hcap, hUL, hb2⟩; have HL := Lib.hid hL; clear hL; have E1 := D1.mono hb2; have E2 := D2.mono hb2; have E3 := D3.mono hb2)
      | (go_at_call 97; ((with_reducible refine (rmake_any (!(n1 == n2)) _ _ _ _ ?_ hUL (Lib.hid ?_)).mono ?_); (rw [HL.out]; exact Nat.le_trans (Bi.limbs_length_le (Bi.val_mul_lt Ho1.out Ho2.out)) (by omega)); (rw [HL.out]; exact Bi.limbs_ok _)); rintro e w3 ⟨⟨ng, ao3, n3, cap3, k3, rfl, HR⟩, hb3⟩; have F1 := E1.mono hb3; have F2 := E2.mono hb3; obtain ⟨p0, p1, q0, q1⟩ := E3.mono hb3))
  go_wp2
  refine bodyPost_ret (v := .tuple #[.agg #[.bool ng, .slice ao3 n3 cap3], .int .i64 k3]) (by simp [results, Tryz.results74, go_sem, p0, p1]) rfl ⟨⟨ng, ao3, n3, cap3, k3, rfl, Lib.hid ?_⟩, ?_⟩
  · have := HR.out.put2 p0 p1 (.bool ng) (.slice ao3 n3 cap3)
    rw [HL.out, Bi.val_limbs, HL1.out, HL2.out, Bi.val_limbs, Bi.val_limbs] at this
    have h4 : sgn (!(n1 == n2)) (x.natAbs * y.natAbs) = x * y := by
      have e1 := sgn_of x n1 Hn1.out
      have e2 := sgn_of y n2 Hn2.out
      rw [← e1, ← e2, sgn_natAbs, sgn_natAbs]
      unfold sgn
      cases n1 <;> cases n2 <;> simp [Int.mul_neg, Int.neg_mul]
    rw [h4] at this
    exact this
  · exact Below.put2 (Below.step (Below.step hbd hb2 (Nat.le_refl _)) hb3 (Nat.le_refl _)) (by omega) _ _

set_option maxHeartbeats 1600000 in
theorem rDiv_any (a b : Value) (x y : Int) (w : World) (ha : IntV w a x) (hb : IntV w b y) (hy0 : Hid (y ≠ 0)) :
    Calls Tryz.prog 61 #[a, b] w fun e w' => DivZ w' (x.tdiv y) (x.tmod y) e ∧ Below w.heap.size w w' := by
  obtain ⟨n1, ao1, L1, c1, rfl, Hn1, HL1, HB1, hc1, hl1, hU1⟩ := ha
  obtain ⟨n2, ao2, L2, c2, rfl, Hn2, HL2, HB2, hc2, hl2, hU2⟩ := hb
  have hL2 : 0 < L2.length := by
    rcases Nat.eq_zero_or_pos L2.length with h | h
    · have h2 := HL2.out
      rw [List.length_eq_zero_iff.1 h] at h2
      have := Bi.limbs_eq_nil.1 h2.symm
      have := hy0.out
      omega
    · exact h
  have hLz : ((L2.length : Int) == 0) = false := by rw [beq_eq_false_iff_ne]; omega
  go_enter Tryz.func61, Tryz.ntmps61
  go_wp2_with fail
  obtain ⟨wx, hwx, hsz, B1, B2, B3, B4, hbx⟩ := boxes4 w (.bool n1) (.slice ao1 L1.length c1) (.bool n2) (.slice ao2 L2.length c2) (.bool false) (.slice none 0 0) (.bool false) (.slice none 0 0) 24
  rw [← hwx]
  clear hwx
  obtain ⟨w1, rfl⟩ : ∃ w1 : World, w1 = wx := ⟨_, rfl⟩
  have hbw := hbx
  have hX1 := hU1.mono hbw
  have hX2 := hU2.mono hbw
  have hlt4 := B4.lt
  clear hU1 hU2 hsz
  obtain ⟨a0, a1, _, _⟩ := B1
  obtain ⟨b0, b1, _, _⟩ := B2
  go_wp2_with fail
  (with_reducible refine (rdiv_any x.natAbs y.natAbs L1 L2 HL1 HL2 ao1 ao2 c1 c2 w1 ?_ ?_ ?_ hX1 hX2).mono ?_)
  · omega
  · omega
  · have := hy0.out; omega
  rintro e w2 ⟨⟨a3, a4, Q, R, c3, c4, HQ, HR, hc3, hc4, rfl, HU3, HU4⟩, hb2⟩
  have hq34 : Q.length ≤ 34 := by rw [HQ.out]; exact limbs_len34 (Nat.lt_of_le_of_lt (Nat.div_le_self _ _) HB1.out)
  have hr34 : R.length ≤ 34 := by rw [HR.out]; exact limbs_len34 (Nat.lt_of_le_of_lt (Nat.mod_le _ _) HB1.out)
  have a0 : w2.cell? ⟨w.heap.size, 0, none⟩ = some (.bool n1) := (hb2.cell (p := ⟨w.heap.size, 0, none⟩) (by simp only; omega)).trans a0
  have b0 : w2.cell? ⟨w.heap.size + 1, 0, none⟩ = some (.bool n2) := (hb2.cell (p := ⟨w.heap.size + 1, 0, none⟩) (by simp only; omega)).trans b0
  have B3 := B3.mono hb2
  have B4 := B4.mono hb2
  have hbw2 := Below.step hbw hb2 (Nat.le_refl _)
  have hlt4 := B4.lt
  clear a1 b1 hX1 hX2
  go_wp2_with fail
  (with_reducible refine (rmake_any (!(n1 == n2)) Q a3 c3 w2 ?_ HU3.out (Lib.hid ?_)).mono ?_)
  · omega
  · rw [HQ.out]; exact Bi.limbs_ok _
  rintro e w3 ⟨⟨ng, ao3, n3, cap3, k3, rfl, HR3⟩, hb3⟩
  have HV3 : Hid (IntV w3 (.agg #[.bool ng, .slice ao3 n3 cap3]) (x.tdiv y)) := Lib.hid (by
    have h := HR3.out
    have h1 : Bi.val Q = x.natAbs / y.natAbs := by rw [HQ.out, Bi.val_limbs]
    rw [h1, sgn_tdiv x y n1 n2 Hn1.out Hn2.out] at h
    rcases h with ⟨_, _, h⟩ | ⟨h, _⟩
    · exact h
    · exact absurd (by rw [Int.natAbs_tdiv]; exact Nat.lt_of_le_of_lt (Nat.div_le_self _ _) HB1.out) h)
  have a0 : w3.cell? ⟨w.heap.size, 0, none⟩ = some (.bool n1) := (hb3.cell (p := ⟨w.heap.size, 0, none⟩) (by simp only; omega)).trans a0
  have B3 := B3.mono hb3
  have B4 := B4.mono hb3
  have hbw3 := Below.step hbw2 hb3 (Nat.le_refl _)
  have hlt4 := B4.lt
  have hU4 := HU4.out.mono hb3
  clear b0 HR3
  have hlt0 : w.heap.size < w3.heap.size := by omega
  go_wp2_with fail
  have X1 := Box.new w3 (.bool ng) (.slice ao3 n3 cap3) 24
  have hba := below_alloc w3 (.cells #[.bool ng, .slice ao3 n3 cap3] 24)
  have hsza : (w3.alloc (.cells #[.bool ng, .slice ao3 n3 cap3] 24)).heap.size = w3.heap.size + 1 := by simp
  generalize w3.alloc (.cells #[.bool ng, .slice ao3 n3 cap3] 24) = w4 at *
  have B3 := B3.mono hba
  have B4 := B4.mono hba
  have hbw4 := Below.step hbw3 hba (Nat.le_refl _)
  have hU4 := hU4.mono hba
  have HV4 := Lib.hid (HV3.out.mono hba)
  (with_reducible refine (rmake_any n1 R a4 c4 w4 ?_ hU4 (Lib.hid ?_)).mono ?_)
  · omega
  · rw [HR.out]; exact Bi.limbs_ok _
  rintro e w5 ⟨⟨ng5, ao5, n5, cap5, k5, rfl, HR5⟩, hb5⟩
  have HW5 : Hid (IntV w5 (.agg #[.bool ng5, .slice ao5 n5 cap5]) (x.tmod y)) := Lib.hid (by
    have h := HR5.out
    have h1 : Bi.val R = x.natAbs % y.natAbs := by rw [HR.out, Bi.val_limbs]
    rw [h1, sgn_tmod x y n1 Hn1.out] at h
    rcases h with ⟨_, _, h⟩ | ⟨h, _⟩
    · exact h
    · exact absurd (by rw [Int.natAbs_tmod]; exact Nat.lt_of_le_of_lt (Nat.mod_le _ _) HB1.out) h)
  have B3 := B3.mono hb5
  have B4 := B4.mono hb5
  have X1 := X1.mono hb5
  have hbw5 := Below.step hbw4 hb5 (Nat.le_refl _)
  have HV5 := Lib.hid (HV4.out.mono hb5)
  have hlt5 : w3.heap.size < w5.heap.size := by have := hb5.size; omega
  clear a0 HR5 hU4 hlt0
  go_upto_region 6 with fail
  have X2 := Box.new w5 (.bool ng5) (.slice ao5 n5 cap5) 24
  have hba5 := below_alloc w5 (.cells #[.bool ng5, .slice ao5 n5 cap5] 24)
  have hszb : (w5.alloc (.cells #[.bool ng5, .slice ao5 n5 cap5] 24)).heap.size = w5.heap.size + 1 := by simp
  generalize w5.alloc (.cells #[.bool ng5, .slice ao5 n5 cap5] 24) = w6 at *
  have B3 := B3.mono hba5
  have B4 := B4.mono hba5
  have X1 := X1.mono hba5
  have hbw6 := Below.step hbw5 hba5 (Nat.le_refl _)
  have HV6 := Lib.hid (HV5.out.mono hba5)
  have HW6 := Lib.hid (HW5.out.mono hba5)
  have hlt3 := B4.lt
  obtain ⟨p0, p1, q0, q1⟩ := B3
  obtain ⟨r0, r1, s0, s1⟩ := B4
  obtain ⟨x0, x1, _, _⟩ := X1
  obtain ⟨y0, y1, _, _⟩ := X2
  have hne1 : w.heap.size + 1 + 1 < w3.heap.size := by omega
  have hne2 : w.heap.size + 1 + 1 + 1 < w3.heap.size := by omega
  clear hsza hszb hbw3 hbw4 hbw5 hba hba5
  go_region
  go_wp2
  have r0' : ∀ u v, ((w6.setCell ⟨w.heap.size + 1 + 1, 0, none⟩ u).setCell ⟨w.heap.size + 1 + 1, 1, none⟩ v).cell? ⟨w.heap.size + 1 + 1 + 1, 0, none⟩ = some (.bool false) := fun u v => by
    rw [World.cell?_setCell_other _ _ _ _ (by simp), World.cell?_setCell_other _ _ _ _ (by simp)]; exact r0
  have r1' : ∀ u v, ((w6.setCell ⟨w.heap.size + 1 + 1, 0, none⟩ u).setCell ⟨w.heap.size + 1 + 1, 1, none⟩ v).cell? ⟨w.heap.size + 1 + 1 + 1, 1, none⟩ = some (.slice none 0 0) := fun u v => by
    rw [World.cell?_setCell_other _ _ _ _ (by simp), World.cell?_setCell_other _ _ _ _ (by simp)]; exact r1
  have R0 := Lib.hid r0'
  have R1 := Lib.hid r1'
  clear r0' r1'
  refine bodyPost_ret (v := .tuple #[.agg #[.bool ng, .slice ao3 n3 cap3], .agg #[.bool ng5, .slice ao5 n5 cap5], .int .i64 0]) (by simp [results, Tryz.results61, go_sem, p0, p1, r0, r1]) rfl ⟨⟨ng, ao3, n3, cap3, ng5, ao5, n5, cap5, rfl, Lib.hid ?_, Lib.hid ?_⟩, ?_⟩
  · exact ((HV6.out.put2 p0 p1 _ _).put2 (R0.out _ _) (R1.out _ _) _ _).mono ((Below.refl _ _).drew)
  · exact ((HW6.out.put2 p0 p1 _ _).put2 (R0.out _ _) (R1.out _ _) _ _).mono ((Below.refl _ _).drew)
  · exact (Below.put2 (Below.put2 hbw6 (by omega) _ _) (by omega) _ _).drew

end Go.Proofs.YtgenhkakcbedaaaGreatDoor

namespace Go.Proofs.YtgenhkakcbedaaaGreatDoor
open Go.RowKit

set_option maxHeartbeats 1600000 in
theorem rGcd_any (a b : Value) (x y : Int) (w : World) (ha : IntV w a x) (hb : IntV w b y) :
    Calls Tryz.prog 60 #[a, b] w fun e w' => (∃ (ng : Bool) (ao : Option Addr) (n cap : Nat), e = .returned (.agg #[.bool ng, .slice ao n cap]) ∧ Hid (IntV w' (.agg #[.bool ng, .slice ao n cap]) ((Int.gcd x y : Nat) : Int))) ∧ Below w.heap.size w w' := by
  obtain ⟨n1, ao1, L1, c1, rfl, Hn1, HL1, HB1, hc1, hl1, hU1⟩ := ha
  obtain ⟨n2, ao2, L2, c2, rfl, Hn2, HL2, HB2, hc2, hl2, hU2⟩ := hb
  go_enter Tryz.func60, Tryz.ntmps60
  go_wp2_with fail
  obtain ⟨wx, hwx, hsz, B1, B2, B3, hbx⟩ := boxes3 w (.bool n1) (.slice ao1 L1.length c1) (.bool n2) (.slice ao2 L2.length c2) (.bool false) (.slice none 0 0) 24
  rw [← hwx]
  clear hwx
  obtain ⟨a0, a1, _, _⟩ := B1
  obtain ⟨b0, b1, _, _⟩ := B2
  go_quiet (fail)
  have hbq := below_drewN (Below.refl wx.heap.size wx) nq
  have B3 := B3.mono hbq
  have hbw3 := below_drewN hbx nq
  have hU3 := hU1.mono hbw3
  have hU4 := hU2.mono hbw3
  clear a0 a1 b0 b1 hU1 hU2 hsz hbq
  generalize wx.drewN nq = w3 at *
  go_wp2_with fail
  go_loopg [5, 6] (y.natAbs) (fun gk s7 s8 wr => ∃ (X Y : Nat) (L M : List Nat) (a5 a6 : Option Addr) (c5 c6 : Nat), Y ≤ gk ∧ s7 = .slice a5 L.length c5 ∧ s8 = .slice a6 M.length c6 ∧ Hid (L = Bi.limbs X) ∧ Hid (M = Bi.limbs Y) ∧ Hid (Nat.gcd X Y = Int.gcd x y) ∧
      Hid (X < Bi.Big ∧ Y < Bi.Big) ∧ U wr a5 L ∧ U wr a6 M ∧ Below w3.heap.size w3 wr)
  case atStart => exact ⟨x.natAbs, y.natAbs, L1, L2, ao1, ao2, c1, c2, Nat.le_refl _, rfl, rfl, HL1, HL2, Lib.hid rfl, Lib.hid ⟨HB1.out, HB2.out⟩, hU3, hU4, Below.refl _ _⟩
  case round =>
    clear hU3 hU4
    obtain ⟨X, Y, L, M, a5, a6, c5, c6, hY, rfl, rfl, HL, HM, HG, HXY, hUL, hUM, hbr⟩ := hrel
    have hl5 : L.length ≤ 34 := by rw [HL.out]; exact limbs_len34 HXY.out.1
    have hl6 : M.length ≤ 34 := by rw [HM.out]; exact limbs_len34 HXY.out.2
    by_cases hM0 : M = []
    · have hY0 : Y = 0 := Bi.limbs_eq_nil.1 (by rw [← HM.out]; exact hM0)
      subst hM0
      subst hY0
      have hbr0 := Below.step hbw3 hbr (Nat.le_refl _)
      have F4 := B3.mono hbr
      clear hUM hl6
      go_wp2_with fail
      (with_reducible refine (rmake_any false L a5 c5 wr ?_ hUL (Lib.hid ?_)).mono ?_)
      · omega
      · rw [HL.out]; exact Bi.limbs_ok _
      rintro e w5 ⟨⟨ng, ao3, n3, cap3, k3, rfl, HR⟩, hb5⟩
      have hB := F4.mono hb5
      have hlt := hB.lt
      obtain ⟨p0, p1, q0, q1⟩ := hB
      have hV : Hid (IntV w5 (.agg #[.bool ng, .slice ao3 n3 cap3]) ((Int.gcd x y : Nat) : Int)) := Lib.hid (by
        have e1 : sgn false (Bi.val L) = ((Int.gcd x y : Nat) : Int) := by rw [HL.out, Bi.val_limbs, ← HG.out]; simp [sgn]
        rw [e1] at HR
        rcases HR.out with ⟨_, _, h⟩ | ⟨h, _⟩
        · exact h
        · refine absurd ?_ h
          rw [Int.natAbs_natCast, ← HG.out]
          exact gcd_big HXY.out.1 HXY.out.2)
      go_wp2
      refine bodyPost_ret (v := .agg #[.bool ng, .slice ao3 n3 cap3]) (by simp [results, Tryz.results60, go_sem, p0, p1, hlt]) rfl ⟨⟨ng, ao3, n3, cap3, rfl, Lib.hid ((hV.out.put2 p0 p1 _ _).mono (below_alloc _ _))⟩, ?_⟩
      refine (Below.put2 (Below.step hbr0 hb5 (Nat.le_refl _)) (by omega) _ _).alloc ?_ _
      have := hb5.size; have := hbr.size; have := hbw3.size; simp [World.setCell]; omega
    · have hM1 : 0 < M.length := List.length_pos_iff.2 hM0
      have hY1 : 0 < Y := by
        rcases Nat.eq_zero_or_pos Y with h | h
        · exact absurd (by rw [HM.out, h]; rfl) hM0
        · exact h
      clear hM0
      go_wp2_with fail
      (with_reducible refine (rdiv_any X Y L M HL HM a5 a6 c5 c6 wr ?_ ?_ hY1 hUL hUM).mono ?_)
      · omega
      · omega
      rintro e w5 ⟨⟨a7, a8, Q, R, c7, c8, HQ, HR, hc7, hc8, rfl, HU7, HU8⟩, hb5⟩
      have hUM5 := hUM.mono hb5
      have hUR := HU8.out
      have hlt := Nat.mod_lt X hY1
      clear hUL hUM
      go_wp2
      go_roundg (X % Y)
      case measure => omega
      case rel => exact ⟨Y, X % Y, M, R, a6, a8, c6, c8, Nat.le_refl _, rfl, rfl, HM, HR, Lib.hid (by rw [← HG.out]; exact gcd_step X Y), Lib.hid ⟨HXY.out.2, Nat.lt_trans hlt HXY.out.2⟩, hUM5, hUR, Below.step hbr hb5 (Nat.le_refl _)⟩

/-- a Boolean answer -/
def BoolP (P : Prop) (e : Ending) : Prop := ∃ r : Bool, Hid (r = true ↔ P) ∧ e = .returned (.bool r)

theorem last_split {l : List Nat} {x : Nat} (hx : l[l.length - 1]? = some x) : ∃ r, l = r ++ [x] := by
  rcases List.eq_nil_or_concat l with h | ⟨r, y, h⟩
  · subst h; simp at hx
  · rw [List.concat_eq_append] at h
    subst h
    simp at hx
    exact ⟨r, by rw [hx]⟩

set_option maxHeartbeats 1600000 in
theorem rValid_any (neg : Bool) (l : List Nat) (ao : Option Addr) (cap : Nat) (w : World) (hm : l.length ≤ 1000000000) (hU : U w ao l) :
    Calls Tryz.prog 45 #[.agg #[.bool neg, .slice ao l.length cap]] w fun e w' => BoolP (validP neg l) e ∧ Below w.heap.size w w' := by
  go_enter Tryz.func45, Tryz.ntmps45
  go_wp2_with fail
  have hbx := below_alloc w (.cells #[.bool neg, .slice ao l.length cap] 24)
  have B1 := Box.new w (.bool neg) (.slice ao l.length cap) 24
  have hUx := hU.mono hbx
  clear hU
  generalize w.alloc (.cells #[.bool neg, .slice ao l.length cap] 24) = wx at *
  obtain ⟨a0, a1, _, _⟩ := B1
  go_loop [3] (fun s => ∃ k : Nat, k ≤ l.length ∧ s = .int .i64 k ∧ Hid (Bi.Ok (l.take k))) (fun s => l.length - (intOf s).toNat)
  case atStart => exact ⟨0, Nat.zero_le _, rfl, Lib.hid (by simp [Bi.Ok])⟩
  case round =>
    obtain ⟨k, hk, rfl, HK⟩ := hrel
    by_cases hlt : k < l.length
    · obtain ⟨x, hx⟩ := get_some hlt
      obtain ⟨b, off, rfl, hc⟩ := hUx.at' hx
      have HX := Lib.hid hx
      clear hx hUx
      by_cases hs : (1000000000 : Int) ≤ (x : Int)
      · have hno : ¬ validP neg l := by
          intro h
          unfold validP at h
          rw [if_neg (by rintro rfl; simp at hlt)] at h
          have := h.1.at' HX.out
          omega
        have HNO := Lib.hid hno
        clear hno
        go_wp2
        go_ret
        exact ⟨⟨false, Lib.hid (by simp [HNO.out]), rfl⟩, hbx⟩
      · go_wp2
        go_round
        case rel =>
          refine ⟨k + 1, by omega, by go_num, Lib.hid ?_⟩
          have h1 : l[k]'hlt = x := (List.getElem?_eq_some_iff.1 HX.out).2
          rw [List.take_succ_eq_append_getElem hlt, h1]
          exact HK.out.snoc (by omega)
        case measure => simp [intOf]; omega
    · obtain rfl : k = l.length := by omega
      have HO : Hid (Bi.Ok l) := Lib.hid (by have := HK.out; rwa [List.take_length] at this)
      clear HK
      by_cases hl0 : l = []
      · subst hl0
        clear hUx
        go_wp2
        go_ret
        exact ⟨⟨_, Lib.hid (by simp [validP]), rfl⟩, hbx⟩
      · have hl1 : 0 < l.length := List.length_pos_iff.2 hl0
        have hlz : ((l.length : Int) == 0) = false := by rw [beq_eq_false_iff_ne]; omega
        obtain ⟨x, hx⟩ := get_some (l := l) (k := l.length - 1) (by omega)
        obtain ⟨b, off, rfl, hc⟩ := hUx.at' hx
        have HV : Hid (validP neg l ↔ Bi.Ok l ∧ x ≠ 0 ∧ Bi.val l < Bi.Big) := Lib.hid (by
          obtain ⟨r, rfl⟩ := last_split hx
          exact valid_last)
        have HS := Lib.hid (last_split hx)
        clear hx hl0
        by_cases hx0 : x = 0
        · subst hx0
          clear hUx
          go_wp2
          go_ret
          exact ⟨⟨false, Lib.hid (by rw [HV.out]; simp), rfl⟩, hbx⟩
        · have hxb : ((x : Int) != 0) = true := by rw [bne_iff_ne]; omega
          have HL : Hid (l = Bi.limbs (Bi.val l)) := Lib.hid (by
            obtain ⟨r, hr⟩ := HS.out
            have ho := HO.out
            rw [hr] at ho ⊢
            exact canon_snoc ho hx0)
          go_wp2_with fail
          (with_reducible refine (rdigits_any _ l HL _ _ _ ?_ hUx).mono ?_)
          · omega
          rintro e w2 ⟨⟨d, HD, hd, rfl⟩, rfl⟩
          clear hUx
          go_wp2
          go_ret
          refine ⟨⟨_, Lib.hid ?_, rfl⟩, hbx⟩
          rw [HV.out, ← Bi.dlen_le, ← HD.out]
          simp [HO.out, hx0]
          omega

end Go.Proofs.YtgenhkakcbedaaaGreatDoor

/-! texts of integers, plain -/
namespace Bi
open Go

/-- the digits -/
def digs : List UInt8 := [48, 49, 50, 51, 52, 53, 54, 55, 56, 57]

def isDig (b : UInt8) : Prop := 48 ≤ b.toNat ∧ b.toNat ≤ 57

theorem digs_iff (b : UInt8) : digs.contains b = true ↔ isDig b := by
  unfold isDig digs
  simp only [List.contains_eq_mem, List.mem_cons, List.not_mem_nil, or_false, decide_eq_true_eq]
  constructor
  · rintro (h | h | h | h | h | h | h | h | h | h) <;> subst h <;> decide
  · rintro ⟨h1, h2⟩
    have : b = UInt8.ofNat b.toNat := by simp
    have h3 : b.toNat = 48 ∨ b.toNat = 49 ∨ b.toNat = 50 ∨ b.toNat = 51 ∨ b.toNat = 52 ∨ b.toNat = 53 ∨ b.toNat = 54 ∨ b.toNat = 55 ∨ b.toNat = 56 ∨ b.toNat = 57 := by omega
    rcases h3 with h | h | h | h | h | h | h | h | h | h <;> rw [h] at this <;> subst this <;> decide

theorem dropWhile_nil {α : Type} (p : α → Bool) (l : List α) : l.dropWhile p = [] ↔ ∀ x ∈ l, p x = true := by
  induction l with
  | nil => simp
  | cons a r ih =>
    rw [List.dropWhile_cons]
    by_cases h : p a = true
    · simp [h, ih]
    · simp [h]

theorem trim_digs (l : List UInt8) : Lib.trimS l digs = [] ↔ ∀ b ∈ l, isDig b := by
  unfold Lib.trimS Lib.trimLeftS Lib.trimRightS
  rw [dropWhile_nil]
  constructor
  · intro h b hb
    by_cases h0 : (l.reverse.dropWhile (digs.contains ·)) = []
    · rw [dropWhile_nil] at h0
      exact (digs_iff b).1 (h0 b (by simpa using hb))
    · have h1 := List.head_dropWhile_not (p := (digs.contains ·)) (l := l.reverse) h0
      have h2 := h _ (List.mem_reverse.2 (List.head_mem h0))
      rw [h2] at h1
      exact absurd h1 (by simp)
  · intro h b hb
    refine (digs_iff b).2 (h b ?_)
    have := (List.dropWhile_sublist (digs.contains ·) (l := l.reverse)).subset (List.mem_reverse.1 hb)
    simpa using this

/-- the value of decimal digits -/
def decVal : List UInt8 → Nat
  | [] => 0
  | b :: r => (b.toNat - 48) * 10 ^ r.length + decVal r

theorem decFrom_all : ∀ (l : List UInt8) (acc : Nat), (∀ b ∈ l, isDig b) → Lib.decFrom acc l = some (acc * 10 ^ l.length + decVal l)
  | [], acc, _ => by simp [Lib.decFrom, decVal]
  | b :: r, acc, h => by
    have hb : isDig b := h b (by simp)
    have hr := decFrom_all r (acc * 10 + (b.toNat - 48)) (fun x hx => h x (by simp [hx]))
    unfold isDig at hb
    simp only [Lib.decFrom, Lib.digitVal, hb, and_self, if_true, hr, decVal, List.length_cons, Nat.pow_succ]
    congr 1
    rw [Nat.add_mul, Nat.mul_assoc, Nat.mul_comm 10]
    omega

theorem atoi_digs {l : List UInt8} (h0 : l ≠ []) (h : ∀ b ∈ l, isDig b) : Lib.atoi l = some ((decVal l : Nat) : Int) := by
  cases l with
  | nil => exact absurd rfl h0
  | cons b r =>
    have hb : isDig b := h b (by simp)
    unfold isDig at hb
    have h1 : (b == 45) = false := by
      rw [beq_eq_false_iff_ne]; rintro rfl; simp at hb
    have h2 : (b == 43) = false := by
      rw [beq_eq_false_iff_ne]; rintro rfl; simp at hb
    have h3 : Lib.decNat (b :: r) = some (decVal (b :: r)) := by
      unfold Lib.decNat
      rw [if_neg (by simp), decFrom_all _ _ h]; simp
    simp only [Lib.atoi, h1, h2, h3, Bool.false_eq_true, if_false, Option.map_some]

theorem decVal_lt : ∀ (l : List UInt8), (∀ b ∈ l, isDig b) → decVal l < 10 ^ l.length
  | [], _ => by simp [decVal]
  | b :: r, h => by
    have hb : isDig b := h b (by simp)
    have hr := decVal_lt r (fun x hx => h x (by simp [hx]))
    unfold isDig at hb
    rw [decVal, List.length_cons, Nat.pow_succ]
    have : (b.toNat - 48) * 10 ^ r.length ≤ 9 * 10 ^ r.length := Nat.mul_le_mul_right _ (by omega)
    omega

theorem decVal_append : ∀ (a b : List UInt8), decVal (a ++ b) = decVal a * 10 ^ b.length + decVal b
  | [], b => by simp [decVal]
  | x :: a, b => by
    simp only [List.cons_append, decVal, decVal_append a b, List.length_append, Nat.pow_add, Nat.add_mul, Nat.mul_assoc]
    omega

/-- is it the text of a valid integer? t: the text behind the sign -/
def textP (neg : Bool) (t : List UInt8) : Prop := t ≠ [] ∧ t.length ≤ 300 ∧ (∀ b ∈ t, isDig b) ∧ ¬ (t.head? = some 48 ∧ (1 < t.length ∨ neg = true))

end Bi

namespace Go.Proofs.YtgenhkakcbedaaaGreatDoor
open Go.RowKit

theorem trim_digs_any (L : List UInt8) (w : World) (hs : L.length ≤ 1000000000) :
    Calls Tryz.prog 101 #[.string ⟨L.toArray⟩, .string ⟨#[48, 49, 50, 51, 52, 53, 54, 55, 56, 57]⟩] w fun e w' => e = .returned (.string ⟨(Lib.trimS L Bi.digs).toArray⟩) ∧ Below w.heap.size w w' := by
  have := Any.strings_Trim_laid Tryz.lays160 (by kernel_rfl) ⟨L.toArray⟩ ⟨#[48, 49, 50, 51, 52, 53, 54, 55, 56, 57]⟩ w (by simp [ByteArray.size]; omega) (by decide) (ascii_of_all (by decide))
  exact this

set_option maxRecDepth 100000 in
set_option maxHeartbeats 1600000 in
theorem Parse_bad (s : List UInt8) (w : World) (_hs : s.length ≤ 1000000000) (hbad : Hid (¬ Bi.textP (Lib.hasPrefix s [45]) (Lib.trimPrefix s [45]))) :
    Calls Tryz.prog 70 #[.string ⟨s.toArray⟩] w fun e w' => e = .returned (.tuple #[.agg #[.bool false, .slice none 0 0], .int .i64 2]) ∧ Below w.heap.size w w' := by
  have hl : (Lib.trimPrefix s [45]).length ≤ s.length := by unfold Lib.trimPrefix; split <;> simp
  go_enter Tryz.func70, Tryz.ntmps70
  go_wp2_with fail
  (with_reducible refine (Tryz.strings_CutPrefix _ _ _).mono ?_)
  rintro e w1 ⟨rfl, rfl⟩
  generalize Lib.trimPrefix s [45] = t at *
  generalize Lib.hasPrefix s [45] = neg at *
  have B := Box.new w (.bool false) (.slice none 0 0) 24
  have hbx := below_alloc w (.cells #[.bool false, .slice none 0 0] 24)
  by_cases ht0 : t = []
  · subst ht0
    clear hl
    go_wp2_with fail
    generalize w.alloc (.cells #[.bool false, .slice none 0 0] 24) = wx at *
    obtain ⟨p0, p1, q0, q1⟩ := B
    refine bodyPost_ret (v := .tuple #[.agg #[.bool false, .slice none 0 0], .int .i64 2]) (by simp [results, Tryz.results70, go_sem, p0, p1]) rfl ⟨rfl, hbx⟩
  have he : t.isEmpty = false := by simpa using ht0
  by_cases h300 : (300 : Int) < (t.length : Int)
  · clear ht0
    go_wp2_with fail
    generalize w.alloc (.cells #[.bool false, .slice none 0 0] 24) = wx at *
    obtain ⟨p0, p1, q0, q1⟩ := B
    refine bodyPost_ret (v := .tuple #[.agg #[.bool false, .slice none 0 0], .int .i64 2]) (by simp [results, Tryz.results70, go_sem, p0, p1]) rfl ⟨rfl, hbx⟩
  · have hb3 : decide ((300 : Int) < (t.length : Int)) = false := by simpa using h300
    go_wp2_with fail
    generalize w.alloc (.cells #[.bool false, .slice none 0 0] 24) = wx at *
    (with_reducible refine (trim_digs_any t wx ?_).mono ?_)
    · omega
    rintro e w1 ⟨rfl, hb1⟩
    have HZ := Lib.hid (Bi.trim_digs t)
    generalize Lib.trimS t Bi.digs = z at *
    obtain ⟨p0, p1, q0, q1⟩ := B.mono hb1
    have hbw := Below.step hbx hb1 (Nat.le_refl _)
    clear B
    by_cases hz : z = []
    · have HD : Hid (∀ b ∈ t, Bi.isDig b) := Lib.hid (HZ.out.1 hz)
      subst hz
      obtain ⟨c, r, rfl⟩ : ∃ c r, t = c :: r := by
        cases t with
        | nil => simp at he
        | cons c r => exact ⟨c, r, rfl⟩
      have hcr : c = 48 ∧ (0 < r.length ∨ neg = true) := by
        have h := hbad.out
        unfold Bi.textP at h
        simp only [ne_eq, reduceCtorEq, not_false_eq_true, true_and, List.head?_cons, Option.some.injEq, List.length_cons] at h
        apply Classical.byContradiction
        intro hno
        refine h ⟨by simp at h300; omega, HD.out, ?_⟩
        rintro ⟨h1, h2⟩
        exact hno ⟨h1, by rcases h2 with h2 | h2; exact .inl (by omega); exact .inr h2⟩
      obtain ⟨rfl, hr⟩ := hcr
      have hr3 : (r.length : Int) + 1 ≤ 300 := by simp at h300; omega
      have hr4 : (0 : Int) < r.length ∨ (¬ (0 : Int) < r.length ∧ neg = true) := by
        rcases hr with h | h
        · exact .inl (by omega)
        · by_cases h0 : (0 : Int) < r.length
          · exact .inl h0
          · exact .inr ⟨h0, h⟩
      clear hr hl ht0 he hb3 h300 HZ HD hbad
      rcases hr4 with h | ⟨h, rfl⟩
      all_goals
        go_wp2
        refine bodyPost_ret (v := .tuple #[.agg #[.bool false, .slice none 0 0], .int .i64 2]) (by simp [results, Tryz.results70, go_sem, p0, p1]) rfl ⟨rfl, Below.put2 hbw (Nat.le_refl _) _ _⟩
    · have hze : z.isEmpty = false := by simpa using hz
      clear hz
      go_wp2
      refine bodyPost_ret (v := .tuple #[.agg #[.bool false, .slice none 0 0], .int .i64 2]) (by simp [results, Tryz.results70, go_sem, p0, p1]) rfl ⟨rfl, Below.put2 hbw (Nat.le_refl _) _ _⟩

end Go.Proofs.YtgenhkakcbedaaaGreatDoor

namespace Go.Proofs.YtgenhkakcbedaaaGreatDoor
open Go.RowKit

/-- two integers with a value each are equal where the values are -/
theorem eqV_any (a b : Value) (x y : Int) (w : World) (ha : IntV w a x) (hb : IntV w b y) :
    Calls Tryz.prog 52 #[a, b] w fun e w' => e = .returned (.bool (decide (x = y))) ∧ Below w.heap.size w w' := by
  obtain ⟨n1, ao1, L1, c1, rfl, Hn1, HL1, HB1, hc1, hl1, hU1⟩ := ha
  obtain ⟨n2, ao2, L2, c2, rfl, Hn2, HL2, HB2, hc2, hl2, hU2⟩ := hb
  refine (equal_any n1 n2 L1 L2 ao1 ao2 c1 c2 w (by omega) (by omega) hU1 hU2).mono ?_
  rintro e w' ⟨⟨r, HR, rfl⟩, hb⟩
  refine ⟨ret_bool ?_, hb⟩
  have h := HR.out
  have e1 := sgn_of x n1 Hn1.out
  have e2 := sgn_of y n2 Hn2.out
  by_cases hxy : x = y
  · subst hxy
    rw [h.2 ⟨by rw [Hn1.out, Hn2.out], by rw [HL1.out, HL2.out]⟩]; simp
  · cases r with
    | false => simp [hxy]
    | true =>
      obtain ⟨h1, h2⟩ := h.1 rfl
      rw [HL1.out, HL2.out] at h2
      have := Bi.limbs_inj h2
      rw [← e1, ← e2, h1, this] at hxy
      exact absurd rfl hxy

theorem eqV_same (x : Int) (a b : Value) (w : World) (ha : IntV w a x) (hb : IntV w b x) :
    Calls Tryz.prog 52 #[a, b] w fun e w' => e = .returned (.bool true) ∧ Below w.heap.size w w' := by
  have := eqV_any a b x x w ha hb
  simpa using this

theorem U.lit2 (w : World) (Y0 Y1 : Int) (y0 y1 : Nat) (t : TypeId) (h0 : Y0 = (y0 : Int)) (h1 : Y1 = (y1 : Int)) : U (w.alloc (.cells #[.int .u32 Y0, .int .u32 Y1] t)) (some ⟨w.heap.size, 0, none⟩) [y0, y1] := by
  subst h0 h1
  intro i h
  match i, h with
  | 0, _ => exact ⟨w.heap.size, 0, rfl, by simp [go_sem]⟩
  | 1, _ => exact ⟨w.heap.size, 0, rfl, by simp [go_sem]⟩
  | i + 2, h => simp at h; omega

theorem big_small {k : Nat} (h : k ≤ 9223372036854775808) : k < Bi.Big := small_big h

theorem Parse_minus0 (w : World) : Calls Tryz.prog 70 #[.string ⟨#[45, 48]⟩] w fun e w' => e = .returned (.tuple #[.agg #[.bool false, .slice none 0 0], .int .i64 2]) ∧ Below w.heap.size w w' :=
  Parse_bad [45, 48] w (by simp) (Lib.hid (by
    have h1 : Lib.hasPrefix [45, 48] [45] = true := by decide
    have h2 : Lib.trimPrefix [45, 48] [45] = [48] := by decide
    rw [h1, h2]; unfold Bi.textP; simp))

theorem Parse_007 (w : World) : Calls Tryz.prog 70 #[.string ⟨#[48, 48, 55]⟩] w fun e w' => e = .returned (.tuple #[.agg #[.bool false, .slice none 0 0], .int .i64 2]) ∧ Below w.heap.size w w' :=
  Parse_bad [48, 48, 55] w (by simp) (Lib.hid (by
    have h1 : Lib.hasPrefix [48, 48, 55] [45] = false := by decide
    have h2 : Lib.trimPrefix [48, 48, 55] [45] = [48, 48, 55] := by decide
    rw [h1, h2]; unfold Bi.textP; simp))

set_option maxRecDepth 100000 in
set_option maxHeartbeats 3200000 in
theorem awake_any (w : World) (hE : Env w) : Calls Tryz.prog 44 #[] w fun e w' => e = .returned (.bool true) ∧ Below w.heap.size w w' := by
  have hbw := Below.refl w.heap.size w
  go_enter Tryz.func44, Tryz.ntmps44
  go_wp2_with fail
  (with_reducible refine (of_any (-1000000007) (by decide) (by decide) w hE).mono ?_)
  rintro e w1 ⟨⟨ng1, ao1, n1, cap1, rfl, HV1⟩, hb⟩
  have hE := hE.mono hb
  have hbw := Below.step hbw hb (Nat.le_refl _)
  clear hb
  go_wp2_with fail
  have X1 := Box.new w1 (.bool ng1) (.slice ao1 n1 cap1) 24
  have hb := below_alloc w1 (.cells #[.bool ng1, .slice ao1 n1 cap1] 24)
  generalize w1.alloc (.cells #[.bool ng1, .slice ao1 n1 cap1] 24) = w2 at *
  have HV1 := Lib.hid (HV1.out.mono hb)
  have hE := hE.mono hb
  have hbw := Below.step hbw hb (Nat.le_refl _)
  clear hb
  go_wp2_with fail
  (with_reducible refine (of_any (-7) (by decide) (by decide) w2 hE).mono ?_)
  rintro e w3 ⟨⟨ng2, ao2, n2, cap2, rfl, HV2⟩, hb⟩
  have HV1 := Lib.hid (HV1.out.mono hb)
  have X1 := X1.mono hb
  have hE := hE.mono hb
  have hbw := Below.step hbw hb (Nat.le_refl _)
  clear hb
  go_wp2_with fail
  (with_reducible refine (of_any (2) (by decide) (by decide) w3 hE).mono ?_)
  rintro e w4 ⟨⟨ng3, ao3, n3, cap3, rfl, HV3⟩, hb⟩
  have HV1 := Lib.hid (HV1.out.mono hb)
  have HV2 := Lib.hid (HV2.out.mono hb)
  have X1 := X1.mono hb
  have hE := hE.mono hb
  have hbw := Below.step hbw hb (Nat.le_refl _)
  clear hb
  go_wp2_with fail
  (with_reducible refine (Div_any _ _ (-7) 2 w4 HV2.out HV3.out (Lib.hid (by decide)) hE).mono ?_)
  rintro e w5 ⟨⟨ng4, ao4, n4, cap4, ng5, ao5, n5, cap5, rfl, HV4, HV5⟩, hb⟩
  have HV1 := Lib.hid (HV1.out.mono hb)
  have HV2 := Lib.hid (HV2.out.mono hb)
  have HV3 := Lib.hid (HV3.out.mono hb)
  have X1 := X1.mono hb
  have hE := hE.mono hb
  have hbw := Below.step hbw hb (Nat.le_refl _)
  clear hb
  clear HV2 HV3
  go_wp2_with fail
  obtain ⟨wx, hwx, hszx, X4, X5, hb⟩ := boxes2 w5 (.bool ng4) (.slice ao4 n4 cap4) (.bool ng5) (.slice ao5 n5 cap5) 24
  rw [← hwx]
  clear hwx hszx
  obtain ⟨w6, rfl⟩ : ∃ w6 : World, w6 = wx := ⟨_, rfl⟩
  have HV1 := Lib.hid (HV1.out.mono hb)
  have HV4 := Lib.hid (HV4.out.mono hb)
  have HV5 := Lib.hid (HV5.out.mono hb)
  have X1 := X1.mono hb
  have hE := hE.mono hb
  have hbw := Below.step hbw hb (Nat.le_refl _)
  clear hb
  go_wp2_with fail
  (with_reducible refine (of_any (-12) (by decide) (by decide) w6 hE).mono ?_)
  rintro e w7 ⟨⟨ng6, ao6, n6, cap6, rfl, HV6⟩, hb⟩
  have HV1 := Lib.hid (HV1.out.mono hb)
  have HV4 := Lib.hid (HV4.out.mono hb)
  have HV5 := Lib.hid (HV5.out.mono hb)
  have X1 := X1.mono hb
  have X4 := X4.mono hb
  have X5 := X5.mono hb
  have hE := hE.mono hb
  have hbw := Below.step hbw hb (Nat.le_refl _)
  clear hb
  go_wp2_with fail
  (with_reducible refine (of_any (18) (by decide) (by decide) w7 hE).mono ?_)
  rintro e w8 ⟨⟨ng7, ao7, n7, cap7, rfl, HV7⟩, hb⟩
  have HV1 := Lib.hid (HV1.out.mono hb)
  have HV4 := Lib.hid (HV4.out.mono hb)
  have HV5 := Lib.hid (HV5.out.mono hb)
  have HV6 := Lib.hid (HV6.out.mono hb)
  have X1 := X1.mono hb
  have X4 := X4.mono hb
  have X5 := X5.mono hb
  have hE := hE.mono hb
  have hbw := Below.step hbw hb (Nat.le_refl _)
  clear hb
  go_wp2_with fail
  (with_reducible refine (Gcd_any _ _ (-12) 18 w8 HV6.out HV7.out hE).mono ?_)
  rintro e w9 ⟨⟨ng8, ao8, n8, cap8, k8, rfl, HR8⟩, hb⟩
  have HV1 := Lib.hid (HV1.out.mono hb)
  have HV4 := Lib.hid (HV4.out.mono hb)
  have HV5 := Lib.hid (HV5.out.mono hb)
  have HV6 := Lib.hid (HV6.out.mono hb)
  have HV7 := Lib.hid (HV7.out.mono hb)
  have X1 := X1.mono hb
  have X4 := X4.mono hb
  have X5 := X5.mono hb
  have hE := hE.mono hb
  have hbw := Below.step hbw hb (Nat.le_refl _)
  clear hb
  clear HV6 HV7
  have HK8 : Hid (k8 = 0 ∧ IntV w9 (.agg #[.bool ng8, .slice ao8 n8 cap8]) 6) := Lib.hid (by
    rcases HR8.out with ⟨_, h1, h2⟩ | ⟨h, _⟩
    · exact ⟨h1, h2⟩
    · exact absurd (big_small (by decide)) h)
  obtain rfl := HK8.out.1
  have HV8 := Lib.hid HK8.out.2
  clear HR8 HK8
  go_wp2_with fail
  have X8 := Box.new w9 (.bool ng8) (.slice ao8 n8 cap8) 24
  have hb := below_alloc w9 (.cells #[.bool ng8, .slice ao8 n8 cap8] 24)
  generalize w9.alloc (.cells #[.bool ng8, .slice ao8 n8 cap8] 24) = w10 at *
  have HV1 := Lib.hid (HV1.out.mono hb)
  have HV4 := Lib.hid (HV4.out.mono hb)
  have HV5 := Lib.hid (HV5.out.mono hb)
  have HV8 := Lib.hid (HV8.out.mono hb)
  have X1 := X1.mono hb
  have X4 := X4.mono hb
  have X5 := X5.mono hb
  have hE := hE.mono hb
  have hbw := Below.step hbw hb (Nat.le_refl _)
  clear hb
  go_wp2_with fail
  (with_reducible refine (Parse_minus0 w10).mono ?_)
  rintro e w11 ⟨rfl, hb⟩
  have HV1 := Lib.hid (HV1.out.mono hb)
  have HV4 := Lib.hid (HV4.out.mono hb)
  have HV5 := Lib.hid (HV5.out.mono hb)
  have HV8 := Lib.hid (HV8.out.mono hb)
  have X1 := X1.mono hb
  have X4 := X4.mono hb
  have X5 := X5.mono hb
  have X8 := X8.mono hb
  have hE := hE.mono hb
  have hbw := Below.step hbw hb (Nat.le_refl _)
  clear hb
  go_wp2_with fail
  have hb := below_alloc w11 (.cells #[.bool false, .slice none 0 0] 24)
  generalize w11.alloc (.cells #[.bool false, .slice none 0 0] 24) = w12 at *
  have HV1 := Lib.hid (HV1.out.mono hb)
  have HV4 := Lib.hid (HV4.out.mono hb)
  have HV5 := Lib.hid (HV5.out.mono hb)
  have HV8 := Lib.hid (HV8.out.mono hb)
  have X1 := X1.mono hb
  have X4 := X4.mono hb
  have X5 := X5.mono hb
  have X8 := X8.mono hb
  have hE := hE.mono hb
  have hbw := Below.step hbw hb (Nat.le_refl _)
  clear hb
  go_wp2_with fail
  (with_reducible refine (Parse_007 w12).mono ?_)
  rintro e w13 ⟨rfl, hb⟩
  have HV1 := Lib.hid (HV1.out.mono hb)
  have HV4 := Lib.hid (HV4.out.mono hb)
  have HV5 := Lib.hid (HV5.out.mono hb)
  have HV8 := Lib.hid (HV8.out.mono hb)
  have X1 := X1.mono hb
  have X4 := X4.mono hb
  have X5 := X5.mono hb
  have X8 := X8.mono hb
  have hE := hE.mono hb
  have hbw := Below.step hbw hb (Nat.le_refl _)
  clear hb
  go_wp2_with fail
  have hb := below_alloc w13 (.cells #[.bool false, .slice none 0 0] 24)
  generalize w13.alloc (.cells #[.bool false, .slice none 0 0] 24) = w14 at *
  have HV1 := Lib.hid (HV1.out.mono hb)
  have HV4 := Lib.hid (HV4.out.mono hb)
  have HV5 := Lib.hid (HV5.out.mono hb)
  have HV8 := Lib.hid (HV8.out.mono hb)
  have X1 := X1.mono hb
  have X4 := X4.mono hb
  have X5 := X5.mono hb
  have X8 := X8.mono hb
  have hE := hE.mono hb
  have hbw := Below.step hbw hb (Nat.le_refl _)
  clear hb
  go_wp2_with fail
  have hLB := (below_alloc w14 (.cells #[.int .u32 7, .int .u32 1] 96)).drew
  have HL : Hid (IntV (w14.alloc (.cells #[.int .u32 7, .int .u32 1] 96)).drew (.agg #[.bool true, .slice (some ⟨w14.heap.size, 0, none⟩) 2 2]) (-1000000007)) := Lib.hid ⟨true, _, [7, 1], 2, rfl, Lib.hid (by decide), Lib.hid (by rw [show ((-1000000007 : Int)).natAbs = 7 + 1000000000 * 1 by decide, Bi.limbs_cons (by decide) (by decide)]; rfl), Lib.hid (big_small (by decide)), by simp, by simp, (U.lit2 w14 7 1 7 1 96 rfl rfl).mono ((Below.refl _ _).drew)⟩
  have HV1 := Lib.hid (HV1.out.mono hLB)
  have HV4 := Lib.hid (HV4.out.mono hLB)
  have HV5 := Lib.hid (HV5.out.mono hLB)
  have HV8 := Lib.hid (HV8.out.mono hLB)
  have Z1 := X1.mono ((Below.refl w14.heap.size w14).drew)
  have Z4 := X4.mono ((Below.refl w14.heap.size w14).drew)
  have Z5 := X5.mono ((Below.refl w14.heap.size w14).drew)
  have Z8 := X8.mono ((Below.refl w14.heap.size w14).drew)
  have Y1 := X1.mono hLB
  have Y4 := X4.mono hLB
  have Y5 := X5.mono hLB
  have Y8 := X8.mono hLB
  have hE := hE.mono hLB
  have hbw := Below.step hbw hLB (Nat.le_refl _)
  have hE0 := hE
  have hbw0 := hbw
  go_region_held3 (fun w' => w'.cell? ⟨w1.heap.size, 0, none⟩ = some (.bool ng1) ∧ w'.cell? ⟨w1.heap.size, 1, none⟩ = some (.slice ao1 n1 cap1) ∧ w'.cell? ⟨w5.heap.size, 0, none⟩ = some (.bool ng4) ∧ w'.cell? ⟨w5.heap.size, 1, none⟩ = some (.slice ao4 n4 cap4) ∧ w'.cell? ⟨w5.heap.size + 1, 0, none⟩ = some (.bool ng5) ∧ w'.cell? ⟨w5.heap.size + 1, 1, none⟩ = some (.slice ao5 n5 cap5) ∧ w'.cell? ⟨w9.heap.size, 0, none⟩ = some (.bool ng8) ∧ w'.cell? ⟨w9.heap.size, 1, none⟩ = some (.slice ao8 n8 cap8))
    (first | (with_reducible exact ⟨X1.c0, X1.c1, X4.c0, X4.c1, X5.c0, X5.c1, X8.c0, X8.c1⟩) | (with_reducible exact ⟨Z1.c0, Z1.c1, Z4.c0, Z4.c1, Z5.c0, Z5.c1, Z8.c0, Z8.c1⟩) | (with_reducible exact ⟨Y1.c0, Y1.c1, Y4.c0, Y4.c1, Y5.c0, Y5.c1, Y8.c0, Y8.c1⟩) | (with_reducible exact ⟨C1x1.c0, C1x1.c1, C1x4.c0, C1x4.c1, C1x5.c0, C1x5.c1, C1x8.c0, C1x8.c1⟩) | (with_reducible exact ⟨C2x1.c0, C2x1.c1, C2x4.c0, C2x4.c1, C2x5.c0, C2x5.c1, C2x8.c0, C2x8.c1⟩) | (with_reducible exact ⟨C3x1.c0, C3x1.c1, C3x4.c0, C3x4.c1, C3x5.c0, C3x5.c1, C3x8.c0, C3x8.c1⟩) | (with_reducible exact ⟨C4x1.c0, C4x1.c1, C4x4.c0, C4x4.c1, C4x5.c0, C4x5.c1, C4x8.c0, C4x8.c1⟩) | (with_reducible exact ⟨C5x1.c0, C5x1.c1, C5x4.c0, C5x4.c1, C5x5.c0, C5x5.c1, C5x8.c0, C5x8.c1⟩) | (with_reducible exact ⟨C6x1.c0, C6x1.c1, C6x4.c0, C6x4.c1, C6x5.c0, C6x5.c1, C6x8.c0, C6x8.c1⟩) | (with_reducible exact ⟨C7x1.c0, C7x1.c1, C7x4.c0, C7x4.c1, C7x5.c0, C7x5.c1, C7x8.c0, C7x8.c1⟩) | (simp [*, go_sem]; done))
    (first
      | (go_at_call 52; (with_reducible refine (eqV_same (-1000000007) _ _ _ HV1.out HL.out).mono ?_); rintro e u1 ⟨rfl, hb1⟩; have C1x1 := Y1.mono hb1; have C1x4 := Y4.mono hb1; have C1x5 := Y5.mono hb1; have C1x8 := Y8.mono hb1; have hE1 := hE0.mono hb1; have hbw1 := Below.step hbw0 hb1 (Nat.le_refl _); have HV4a := Lib.hid (HV4.out.mono hb1); have HV5a := Lib.hid (HV5.out.mono hb1); have HV8a := Lib.hid (HV8.out.mono hb1))
      | (go_at_call 63; (with_reducible refine (rof_any (-3) (by decide) (by decide) _ hE1).mono ?_); rintro e u2 ⟨⟨nga, aoa, na, capa, rfl, HVa⟩, hb2⟩; have C2x1 := C1x1.mono hb2; have C2x4 := C1x4.mono hb2; have C2x5 := C1x5.mono hb2; have C2x8 := C1x8.mono hb2; have hE2 := hE1.mono hb2; have hbw2 := Below.step hbw1 hb2 (Nat.le_refl _); have HV4b := Lib.hid (HV4a.out.mono hb2); have HV5b := Lib.hid (HV5a.out.mono hb2); have HV8b := Lib.hid (HV8a.out.mono hb2))
      | (go_at_call 52; (with_reducible refine (eqV_same (-3) _ _ _ HV4b.out HVa.out).mono ?_); rintro e u3 ⟨rfl, hb3⟩; have C3x1 := C2x1.mono hb3; have C3x4 := C2x4.mono hb3; have C3x5 := C2x5.mono hb3; have C3x8 := C2x8.mono hb3; have hE3 := hE2.mono hb3; have hbw3 := Below.step hbw2 hb3 (Nat.le_refl _); have HV5c := Lib.hid (HV5b.out.mono hb3); have HV8c := Lib.hid (HV8b.out.mono hb3))
      | (go_at_call 63; (with_reducible refine (rof_any (-1) (by decide) (by decide) _ hE3).mono ?_); rintro e u4 ⟨⟨ngb, aob, nb, capb, rfl, HVb⟩, hb4⟩; have C4x1 := C3x1.mono hb4; have C4x4 := C3x4.mono hb4; have C4x5 := C3x5.mono hb4; have C4x8 := C3x8.mono hb4; have hE4 := hE3.mono hb4; have hbw4 := Below.step hbw3 hb4 (Nat.le_refl _); have HV5d := Lib.hid (HV5c.out.mono hb4); have HV8d := Lib.hid (HV8c.out.mono hb4))
      | (go_at_call 52; (with_reducible refine (eqV_same (-1) _ _ _ HV5d.out HVb.out).mono ?_); rintro e u5 ⟨rfl, hb5⟩; have C5x1 := C4x1.mono hb5; have C5x4 := C4x4.mono hb5; have C5x5 := C4x5.mono hb5; have C5x8 := C4x8.mono hb5; have hE5 := hE4.mono hb5; have hbw5 := Below.step hbw4 hb5 (Nat.le_refl _); have HV8e := Lib.hid (HV8d.out.mono hb5))
      | (go_at_call 63; (with_reducible refine (rof_any 6 (by decide) (by decide) _ hE5).mono ?_); rintro e u6 ⟨⟨ngc, aoc, nc, capc, rfl, HVc⟩, hb6⟩; have C6x1 := C5x1.mono hb6; have C6x4 := C5x4.mono hb6; have C6x5 := C5x5.mono hb6; have C6x8 := C5x8.mono hb6; have hE6 := hE5.mono hb6; have hbw6 := Below.step hbw5 hb6 (Nat.le_refl _); have HV8f := Lib.hid (HV8e.out.mono hb6))
      | (go_at_call 52; (with_reducible refine (eqV_same 6 _ _ _ HV8f.out HVc.out).mono ?_); rintro e u7 ⟨rfl, hb7⟩; have C7x1 := C6x1.mono hb7; have C7x4 := C6x4.mono hb7; have C7x5 := C6x5.mono hb7; have C7x8 := C6x8.mono hb7; have hE7 := hE6.mono hb7; have hbw7 := Below.step hbw6 hb7 (Nat.le_refl _)))
  go_wp2
  go_ret
  exact ⟨rfl, hbw7⟩

end Go.Proofs.YtgenhkakcbedaaaGreatDoor
