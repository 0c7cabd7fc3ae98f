import Derived.Test.YtijjagofingpdaaDoorRefA
namespace Go.Proofs.YtijjagofingpdaaDoor
open Go.RowKit

set_option maxHeartbeats 1600000 in
theorem rAdd_same (n : Bool) (m1 m2 : Nat) (ao1 ao2 : Option Addr) (L1 L2 : List Nat) (c1 c2 : Nat) (w : World) (HL1 : Hid (L1 = Bi.limbs m1)) (HL2 : Hid (L2 = Bi.limbs m2)) (hl1 : L1.length ≤ 34) (hl2 : L2.length ≤ 34)
    (hU1 : U w ao1 L1) (hU2 : U w ao2 L2) :
    Calls Tryd.prog 30 #[.agg #[.bool n, .slice ao1 L1.length c1], .agg #[.bool n, .slice ao2 L2.length c2]] w fun e w' => ResZ w' (sgn n m1 + sgn n m2) e ∧ Below w.heap.size w w' := by
  have hnn : (n == n) = true := by simp
  have Ho1 : Hid (Bi.Ok L1) := Lib.hid (by rw [HL1.out]; exact Bi.limbs_ok _)
  have Ho2 : Hid (Bi.Ok L2) := Lib.hid (by rw [HL2.out]; exact Bi.limbs_ok _)
  have hvl : Hid (Bi.val L1 = m1 ∧ Bi.val L2 = m2) := Lib.hid (by rw [HL1.out, HL2.out, Bi.val_limbs, Bi.val_limbs]; exact ⟨rfl, rfl⟩)
  go_enter Tryd.func30, Tryd.ntmps30
  go_wp2_with fail
  obtain ⟨wx, hwx, hsz, B1, B2, B3, hbx⟩ := boxes3 w (.bool n) (.slice ao1 L1.length c1) (.bool n) (.slice ao2 L2.length c2) (.bool false) (.slice none 0 0) 25
  rw [← hwx]
  clear hwx
  obtain ⟨w0, rfl⟩ : ∃ w0 : World, w0 = wx := ⟨_, rfl⟩
  have hb0' := hbx
  have hbd : Below w.heap.size w w0.drew := hb0'.drew
  have hX1 := hU1.mono hbd
  have hX2 := hU2.mono hbd
  have D1 := B1.mono ((Below.refl w0.heap.size w0).drew)
  have D2 := B2.mono ((Below.refl w0.heap.size w0).drew)
  have D3 := B3.mono ((Below.refl w0.heap.size w0).drew)
  obtain ⟨z0, z1, _, _⟩ := B1
  obtain ⟨y0, y1, _, _⟩ := B2
  clear hU1 hU2
  go_wp2_with fail
  go_region_held3 (fun w' => w'.cell? ⟨w.heap.size, 0, none⟩ = some (.bool n) ∧ w'.cell? ⟨w.heap.size, 1, none⟩ = some (.slice ao1 L1.length c1) ∧ w'.cell? ⟨w.heap.size + 1, 1, none⟩ = some (.slice ao2 L2.length c2))
    (first | (with_reducible exact ⟨z0, z1, y1⟩) | (with_reducible exact ⟨D1.c0, D1.c1, D2.c1⟩) | (with_reducible exact ⟨E1.c0, E1.c1, E2.c1⟩) | (with_reducible exact ⟨F1.c0, F1.c1, F2.c1⟩) | (simp [F1.c0, F1.c1, F2.c1, go_sem]; done))
    (first
      | (go_at_call 54; ((with_reducible refine (radd_any L1 L2 _ _ _ _ _ ?_ ?_ Ho1.out Ho2.out hX1 hX2).mono ?_); (omega); (omega)); rintro e w1 ⟨ao, L, cap, hL, rfl, hcap, hlL, hUL, hb1⟩; have HL := Lib.hid hL; clear hL; have E1 := D1.mono hb1; have E2 := D2.mono hb1; have E3 := D3.mono hb1)
      | (go_at_call 39; ((with_reducible refine (rmake_any n _ _ _ _ ?_ hUL (Lib.hid ?_)).mono ?_); (omega); (rw [HL.out]; exact Bi.limbs_ok _)); rintro e w2 ⟨⟨ng, ao3, n3, cap3, k3, rfl, HR⟩, hb2⟩; have F1 := E1.mono hb2; have F2 := E2.mono hb2; obtain ⟨p0, p1, q0, q1⟩ := E3.mono hb2))
  go_wp2
  refine bodyPost_ret (v := .tuple #[.agg #[.bool ng, .slice ao3 n3 cap3], .int .i64 k3]) (by simp [results, Tryd.results30, go_sem, p0, p1]) rfl ⟨⟨ng, ao3, n3, cap3, k3, rfl, Lib.hid ?_⟩, ?_⟩
  · have := HR.out.put2 p0 p1 (.bool ng) (.slice ao3 n3 cap3)
    rw [HL.out, Bi.val_limbs, hvl.out.1, hvl.out.2] at this
    rw [sgn_add] at this
    exact this
  · exact Below.put2 (Below.step (Below.step hbd hb1 (Nat.le_refl _)) hb2 (Nat.le_refl _)) (by omega) _ _

set_option maxHeartbeats 1600000 in
theorem rAdd_ge (n1 n2 : Bool) (hnn : (n1 == n2) = false) (m1 m2 : Nat) (hle : Hid (m2 ≤ m1)) (ao1 ao2 : Option Addr) (L1 L2 : List Nat) (c1 c2 : Nat) (w : World) (HL1 : Hid (L1 = Bi.limbs m1)) (HL2 : Hid (L2 = Bi.limbs m2)) (hl1 : L1.length ≤ 34) (hl2 : L2.length ≤ 34)
    (hU1 : U w ao1 L1) (hU2 : U w ao2 L2) :
    Calls Tryd.prog 30 #[.agg #[.bool n1, .slice ao1 L1.length c1], .agg #[.bool n2, .slice ao2 L2.length c2]] w fun e w' => ResZ w' (sgn n1 m1 + sgn n2 m2) e ∧ Below w.heap.size w w' := by
  have hll : L2.length ≤ L1.length := by rw [HL1.out, HL2.out]; exact Bi.len_mono hle.out
  have Ho1 : Hid (Bi.Ok L1) := Lib.hid (by rw [HL1.out]; exact Bi.limbs_ok _)
  have Ho2 : Hid (Bi.Ok L2) := Lib.hid (by rw [HL2.out]; exact Bi.limbs_ok _)
  have hvl : Hid (Bi.val L1 = m1 ∧ Bi.val L2 = m2) := Lib.hid (by rw [HL1.out, HL2.out, Bi.val_limbs, Bi.val_limbs]; exact ⟨rfl, rfl⟩)
  go_enter Tryd.func30, Tryd.ntmps30
  go_wp2_with fail
  obtain ⟨wx, hwx, hsz, B1, B2, B3, hbx⟩ := boxes3 w (.bool n1) (.slice ao1 L1.length c1) (.bool n2) (.slice ao2 L2.length c2) (.bool false) (.slice none 0 0) 25
  rw [← hwx]
  clear hwx
  (with_reducible refine (rcmp_any m1 m2 L1 L2 HL1 HL2 ao1 ao2 c1 c2 wx ?_ ?_ (hU1.mono hbx) (hU2.mono hbx)).mono ?_)
  · omega
  · omega
  rintro e w0 ⟨rfl, hb0⟩
  have hcmp : 0 ≤ cmpN m1 m2 := by have := hle.out; unfold cmpN; rw [if_neg (by omega)]; split <;> omega
  have hb0' := Below.step hbx hb0 (Nat.le_refl _)
  have B1 := B1.mono hb0
  have B2 := B2.mono hb0
  have B3 := B3.mono hb0
  have hbd : Below w.heap.size w w0.drew := hb0'.drew
  have hX1 := hU1.mono hbd
  have hX2 := hU2.mono hbd
  have D1 := B1.mono ((Below.refl w0.heap.size w0).drew)
  have D2 := B2.mono ((Below.refl w0.heap.size w0).drew)
  have D3 := B3.mono ((Below.refl w0.heap.size w0).drew)
  obtain ⟨z0, z1, _, _⟩ := B1
  obtain ⟨y0, y1, _, _⟩ := B2
  clear hU1 hU2
  go_wp2_with fail
  go_region_held3 (fun w' => w'.cell? ⟨w.heap.size, 0, none⟩ = some (.bool n1) ∧ w'.cell? ⟨w.heap.size, 1, none⟩ = some (.slice ao1 L1.length c1) ∧ w'.cell? ⟨w.heap.size + 1, 1, none⟩ = some (.slice ao2 L2.length c2))
    (first | (with_reducible exact ⟨z0, z1, y1⟩) | (with_reducible exact ⟨D1.c0, D1.c1, D2.c1⟩) | (with_reducible exact ⟨E1.c0, E1.c1, E2.c1⟩) | (with_reducible exact ⟨F1.c0, F1.c1, F2.c1⟩) | (simp [F1.c0, F1.c1, F2.c1, go_sem]; done))
    (first
      | (go_at_call 56; ((with_reducible refine (rsub_any L1 L2 _ _ _ _ _ ?_ hll (Lib.hid ?_) Ho1.out Ho2.out hX1 hX2).mono ?_); (omega); (rw [hvl.out.1, hvl.out.2]; have := hle.out; omega)); rintro e w1 ⟨ao, L, cap, hL, rfl, hcap, hlL, hUL, hb1⟩; have HL := Lib.hid hL; clear hL; have E1 := D1.mono hb1; have E2 := D2.mono hb1; have E3 := D3.mono hb1)
      | (go_at_call 39; ((with_reducible refine (rmake_any n1 _ _ _ _ ?_ hUL (Lib.hid ?_)).mono ?_); (omega); (rw [HL.out]; exact Bi.limbs_ok _)); rintro e w2 ⟨⟨ng, ao3, n3, cap3, k3, rfl, HR⟩, hb2⟩; have F1 := E1.mono hb2; have F2 := E2.mono hb2; obtain ⟨p0, p1, q0, q1⟩ := E3.mono hb2))
  go_wp2
  refine bodyPost_ret (v := .tuple #[.agg #[.bool ng, .slice ao3 n3 cap3], .int .i64 k3]) (by simp [results, Tryd.results30, go_sem, p0, p1]) rfl ⟨⟨ng, ao3, n3, cap3, k3, rfl, Lib.hid ?_⟩, ?_⟩
  · have := HR.out.put2 p0 p1 (.bool ng) (.slice ao3 n3 cap3)
    rw [HL.out, Bi.val_limbs, hvl.out.1, hvl.out.2] at this
    rw [minus_val n1 n2 m1 m2 (by rintro rfl; simp at hnn) hle.out] at this
    exact this
  · exact Below.put2 (Below.step (Below.step hbd hb1 (Nat.le_refl _)) hb2 (Nat.le_refl _)) (by omega) _ _

set_option maxHeartbeats 1600000 in
theorem rAdd_lt (n1 n2 : Bool) (hnn : (n1 == n2) = false) (m1 m2 : Nat) (hle : Hid (m1 < m2)) (ao1 ao2 : Option Addr) (L1 L2 : List Nat) (c1 c2 : Nat) (w : World) (HL1 : Hid (L1 = Bi.limbs m1)) (HL2 : Hid (L2 = Bi.limbs m2)) (hl1 : L1.length ≤ 34) (hl2 : L2.length ≤ 34)
    (hU1 : U w ao1 L1) (hU2 : U w ao2 L2) :
    Calls Tryd.prog 30 #[.agg #[.bool n1, .slice ao1 L1.length c1], .agg #[.bool n2, .slice ao2 L2.length c2]] w fun e w' => ResZ w' (sgn n1 m1 + sgn n2 m2) e ∧ Below w.heap.size w w' := by
  have hll : L1.length ≤ L2.length := by rw [HL1.out, HL2.out]; exact Bi.len_mono (Nat.le_of_lt hle.out)
  have Ho1 : Hid (Bi.Ok L1) := Lib.hid (by rw [HL1.out]; exact Bi.limbs_ok _)
  have Ho2 : Hid (Bi.Ok L2) := Lib.hid (by rw [HL2.out]; exact Bi.limbs_ok _)
  have hvl : Hid (Bi.val L1 = m1 ∧ Bi.val L2 = m2) := Lib.hid (by rw [HL1.out, HL2.out, Bi.val_limbs, Bi.val_limbs]; exact ⟨rfl, rfl⟩)
  go_enter Tryd.func30, Tryd.ntmps30
  go_wp2_with fail
  obtain ⟨wx, hwx, hsz, B1, B2, B3, hbx⟩ := boxes3 w (.bool n1) (.slice ao1 L1.length c1) (.bool n2) (.slice ao2 L2.length c2) (.bool false) (.slice none 0 0) 25
  rw [← hwx]
  clear hwx
  (with_reducible refine (rcmp_any m1 m2 L1 L2 HL1 HL2 ao1 ao2 c1 c2 wx ?_ ?_ (hU1.mono hbx) (hU2.mono hbx)).mono ?_)
  · omega
  · omega
  rintro e w0 ⟨rfl, hb0⟩
  have hcmp : cmpN m1 m2 < 0 := by have := hle.out; unfold cmpN; rw [if_pos this]; decide
  have hb0' := Below.step hbx hb0 (Nat.le_refl _)
  have B1 := B1.mono hb0
  have B2 := B2.mono hb0
  have B3 := B3.mono hb0
  have hbd : Below w.heap.size w w0.drew := hb0'.drew
  have hX1 := hU1.mono hbd
  have hX2 := hU2.mono hbd
  have D1 := B1.mono ((Below.refl w0.heap.size w0).drew)
  have D2 := B2.mono ((Below.refl w0.heap.size w0).drew)
  have D3 := B3.mono ((Below.refl w0.heap.size w0).drew)
  obtain ⟨z0, z1, _, _⟩ := B1
  obtain ⟨y0, y1, _, _⟩ := B2
  clear hU1 hU2
  go_wp2_with fail
  go_region_held3 (fun w' => w'.cell? ⟨w.heap.size + 1, 0, none⟩ = some (.bool n2) ∧ w'.cell? ⟨w.heap.size + 1, 1, none⟩ = some (.slice ao2 L2.length c2) ∧ w'.cell? ⟨w.heap.size, 1, none⟩ = some (.slice ao1 L1.length c1))
    (first | (with_reducible exact ⟨y0, y1, z1⟩) | (with_reducible exact ⟨D2.c0, D2.c1, D1.c1⟩) | (with_reducible exact ⟨E2.c0, E2.c1, E1.c1⟩) | (with_reducible exact ⟨F2.c0, F2.c1, F1.c1⟩) | (simp [F2.c0, F2.c1, F1.c1, go_sem]; done))
    (first
      | (go_at_call 56; ((with_reducible refine (rsub_any L2 L1 _ _ _ _ _ ?_ hll (Lib.hid ?_) Ho2.out Ho1.out hX2 hX1).mono ?_); (omega); (rw [hvl.out.1, hvl.out.2]; have := hle.out; omega)); rintro e w1 ⟨ao, L, cap, hL, rfl, hcap, hlL, hUL, hb1⟩; have HL := Lib.hid hL; clear hL; have E1 := D1.mono hb1; have E2 := D2.mono hb1; have E3 := D3.mono hb1)
      | (go_at_call 39; ((with_reducible refine (rmake_any n2 _ _ _ _ ?_ hUL (Lib.hid ?_)).mono ?_); (omega); (rw [HL.out]; exact Bi.limbs_ok _)); rintro e w2 ⟨⟨ng, ao3, n3, cap3, k3, rfl, HR⟩, hb2⟩; have F1 := E1.mono hb2; have F2 := E2.mono hb2; obtain ⟨p0, p1, q0, q1⟩ := E3.mono hb2))
  go_wp2
  refine bodyPost_ret (v := .tuple #[.agg #[.bool ng, .slice ao3 n3 cap3], .int .i64 k3]) (by simp [results, Tryd.results30, go_sem, p0, p1]) rfl ⟨⟨ng, ao3, n3, cap3, k3, rfl, Lib.hid ?_⟩, ?_⟩
  · have := HR.out.put2 p0 p1 (.bool ng) (.slice ao3 n3 cap3)
    rw [HL.out, Bi.val_limbs, hvl.out.1, hvl.out.2] at this
    rw [show sgn n2 (m2 - m1) = sgn n1 m1 + sgn n2 m2 by rw [Int.add_comm]; exact minus_val n2 n1 m2 m1 (by rintro rfl; simp at hnn) (Nat.le_of_lt hle.out)] at this
    exact this
  · exact Below.put2 (Below.step (Below.step hbd hb1 (Nat.le_refl _)) hb2 (Nat.le_refl _)) (by omega) _ _

theorem rAdd_any (a b : Value) (x y : Int) (w : World) (ha : IntV w a x) (hb : IntV w b y) :
    Calls Tryd.prog 30 #[a, b] w fun e w' => ResZ w' (x + y) e ∧ Below w.heap.size w w' := by
  obtain ⟨n1, ao1, L1, c1, rfl, Hn1, HL1, HB1, hc1, hl1, hU1⟩ := ha
  obtain ⟨n2, ao2, L2, c2, rfl, Hn2, HL2, HB2, hc2, hl2, hU2⟩ := hb
  have e1 := sgn_of x n1 Hn1.out
  have e2 := sgn_of y n2 Hn2.out
  by_cases hn : n1 = n2
  · subst hn
    have := rAdd_same n1 x.natAbs y.natAbs ao1 ao2 L1 L2 c1 c2 w HL1 HL2 hl1 hl2 hU1 hU2
    rwa [e1, e2] at this
  · have hnn : (n1 == n2) = false := by simpa using hn
    rcases Nat.lt_or_ge x.natAbs y.natAbs with h | h
    · have := rAdd_lt n1 n2 hnn x.natAbs y.natAbs (Lib.hid h) ao1 ao2 L1 L2 c1 c2 w HL1 HL2 hl1 hl2 hU1 hU2
      rwa [e1, e2] at this
    · have := rAdd_ge n1 n2 hnn x.natAbs y.natAbs (Lib.hid h) ao1 ao2 L1 L2 c1 c2 w HL1 HL2 hl1 hl2 hU1 hU2
      rwa [e1, e2] at this

end Go.Proofs.YtijjagofingpdaaDoor
