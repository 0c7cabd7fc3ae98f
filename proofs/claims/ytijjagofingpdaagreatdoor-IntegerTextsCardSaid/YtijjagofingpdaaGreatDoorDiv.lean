import Derived.Test.YtijjagofingpdaaGreatDoorGcd
import Derived.RegionTactic
import Derived.BigRegion
namespace Go.Proofs.YtijjagofingpdaaGreatDoor
open Go.RowKit

set_option maxHeartbeats 1600000 in
theorem Div_any (a b : Value) (x y : Int) (w : World) (ha : IntV w a x) (hb : IntV w b y) (hy0 : Hid (y ≠ 0)) (hE : Env w) :
    Calls Tryz.prog 19 #[a, b] w fun e w' => DivZ w' (x.tdiv y) (x.tmod y) e ∧ Below w.heap.size w w' := by
  obtain ⟨n1, ao1, L1, c1, rfl, Hn1, HL1, HB1, hc1, hl1, hU1⟩ := ha
  obtain ⟨n2, ao2, L2, c2, rfl, Hn2, HL2, HB2, hc2, hl2, hU2⟩ := hb
  have hL2 : 0 < L2.length := by
    rcases Nat.eq_zero_or_pos L2.length with h | h
    · have h2 := HL2.out
      rw [List.length_eq_zero_iff.1 h] at h2
      have := Bi.limbs_eq_nil.1 h2.symm
      have := hy0.out
      omega
    · exact h
  have hLz : ((L2.length : Int) == 0) = false := by rw [beq_eq_false_iff_ne]; omega
  go_enter Tryz.func19, Tryz.ntmps19
  go_wp2_with fail
  obtain ⟨wx, hwx, hsz, B1, B2, B3, B4, hbx⟩ := boxes4 w (.bool n1) (.slice ao1 L1.length c1) (.bool n2) (.slice ao2 L2.length c2) (.bool false) (.slice none 0 0) (.bool false) (.slice none 0 0) 25
  rw [← hwx]
  clear hwx
  (with_reducible refine (check2 wx _ hsz n1 n2 ao1 ao2 L1 L2 c1 c2 (hU1.mono hbx) (hU2.mono hbx) ?_ ?_ (hE.mono hbx)).mono ?_)
  · omega
  · omega
  rintro e w1 ⟨⟨r, HR, HR2, rfl⟩, hb1'⟩
  obtain rfl : r = 0 := HR.out.2 ⟨validP_of x n1 L1 Hn1.out HL1.out HB1.out, validP_of y n2 L2 Hn2.out HL2.out HB2.out⟩
  clear HR HR2
  have B1 := B1.mono hb1'
  have B2 := B2.mono hb1'
  have B3 := B3.mono hb1'
  have B4 := B4.mono hb1'
  have hbw := Below.step hbx hb1' (Nat.le_refl _)
  have hE1 := hE.mono hbw
  have hX1 := hU1.mono hbw
  have hX2 := hU2.mono hbw
  have hlt4 := B4.lt
  clear hU1 hU2 hE hsz
  obtain ⟨a0, a1, _, _⟩ := B1
  obtain ⟨b0, b1, _, _⟩ := B2
  go_wp2_with fail
  (with_reducible refine (divide_any x.natAbs y.natAbs L1 L2 HL1 HL2 ao1 ao2 c1 c2 w1 ?_ ?_ ?_ hX1 hX2).mono ?_)
  · omega
  · omega
  · have := hy0.out; omega
  rintro e w2 ⟨⟨a3, a4, Q, R, c3, c4, HQ, HR, hc3, hc4, rfl, HU3, HU4⟩, hb2⟩
  have hq34 : Q.length ≤ 34 := by rw [HQ.out]; exact limbs_len34 (Nat.lt_of_le_of_lt (Nat.div_le_self _ _) HB1.out)
  have hr34 : R.length ≤ 34 := by rw [HR.out]; exact limbs_len34 (Nat.lt_of_le_of_lt (Nat.mod_le _ _) HB1.out)
  have a0 : w2.cell? ⟨w.heap.size, 0, none⟩ = some (.bool n1) := (hb2.cell (p := ⟨w.heap.size, 0, none⟩) (by simp only; omega)).trans a0
  have b0 : w2.cell? ⟨w.heap.size + 1, 0, none⟩ = some (.bool n2) := (hb2.cell (p := ⟨w.heap.size + 1, 0, none⟩) (by simp only; omega)).trans b0
  have B3 := B3.mono hb2
  have B4 := B4.mono hb2
  have hbw2 := Below.step hbw hb2 (Nat.le_refl _)
  have hE2 := hE1.mono hb2
  have hlt4 := B4.lt
  clear a1 b1 hX1 hX2 hE1
  go_wp2_with fail
  (with_reducible refine (result_any (!(n1 == n2)) Q a3 c3 w2 ?_ hc3 HU3.out (Lib.hid ?_) hE2).mono ?_)
  · omega
  · rw [HQ.out]; exact Bi.limbs_ok _
  rintro e w3 ⟨⟨ng, ao3, n3, cap3, k3, rfl, HR3⟩, hb3⟩
  have HV3 : Hid (IntV w3 (.agg #[.bool ng, .slice ao3 n3 cap3]) (x.tdiv y)) := Lib.hid (by
    have h := HR3.out
    have h1 : Bi.val Q = x.natAbs / y.natAbs := by rw [HQ.out, Bi.val_limbs]
    rw [h1, sgn_tdiv x y n1 n2 Hn1.out Hn2.out] at h
    rcases h with ⟨_, _, h⟩ | ⟨h, _⟩
    · exact h
    · exact absurd (by rw [Int.natAbs_tdiv]; exact Nat.lt_of_le_of_lt (Nat.div_le_self _ _) HB1.out) h)
  have a0 : w3.cell? ⟨w.heap.size, 0, none⟩ = some (.bool n1) := (hb3.cell (p := ⟨w.heap.size, 0, none⟩) (by simp only; omega)).trans a0
  have B3 := B3.mono hb3
  have B4 := B4.mono hb3
  have hbw3 := Below.step hbw2 hb3 (Nat.le_refl _)
  have hE3 := hE2.mono hb3
  have hlt4 := B4.lt
  have hU4 := HU4.out.mono hb3
  clear b0 hE2 HR3
  have hlt0 : w.heap.size < w3.heap.size := by omega
  go_wp2_with fail
  have X1 := Box.new w3 (.bool ng) (.slice ao3 n3 cap3) 25
  have hba := below_alloc w3 (.cells #[.bool ng, .slice ao3 n3 cap3] 25)
  have hsza : (w3.alloc (.cells #[.bool ng, .slice ao3 n3 cap3] 25)).heap.size = w3.heap.size + 1 := by simp
  generalize w3.alloc (.cells #[.bool ng, .slice ao3 n3 cap3] 25) = w4 at *
  have B3 := B3.mono hba
  have B4 := B4.mono hba
  have hbw4 := Below.step hbw3 hba (Nat.le_refl _)
  have hE4 := hE3.mono hba
  have hU4 := hU4.mono hba
  have HV4 := Lib.hid (HV3.out.mono hba)
  (with_reducible refine (result_any n1 R a4 c4 w4 ?_ hc4 hU4 (Lib.hid ?_) hE4).mono ?_)
  · omega
  · rw [HR.out]; exact Bi.limbs_ok _
  rintro e w5 ⟨⟨ng5, ao5, n5, cap5, k5, rfl, HR5⟩, hb5⟩
  have HW5 : Hid (IntV w5 (.agg #[.bool ng5, .slice ao5 n5 cap5]) (x.tmod y)) := Lib.hid (by
    have h := HR5.out
    have h1 : Bi.val R = x.natAbs % y.natAbs := by rw [HR.out, Bi.val_limbs]
    rw [h1, sgn_tmod x y n1 Hn1.out] at h
    rcases h with ⟨_, _, h⟩ | ⟨h, _⟩
    · exact h
    · exact absurd (by rw [Int.natAbs_tmod]; exact Nat.lt_of_le_of_lt (Nat.mod_le _ _) HB1.out) h)
  have B3 := B3.mono hb5
  have B4 := B4.mono hb5
  have X1 := X1.mono hb5
  have hbw5 := Below.step hbw4 hb5 (Nat.le_refl _)
  have HV5 := Lib.hid (HV4.out.mono hb5)
  have hlt5 : w3.heap.size < w5.heap.size := by have := hb5.size; omega
  clear a0 hE3 hE4 HR5 hU4 hlt0
  go_upto_region 9 with fail
  have X2 := Box.new w5 (.bool ng5) (.slice ao5 n5 cap5) 25
  have hba5 := below_alloc w5 (.cells #[.bool ng5, .slice ao5 n5 cap5] 25)
  have hszb : (w5.alloc (.cells #[.bool ng5, .slice ao5 n5 cap5] 25)).heap.size = w5.heap.size + 1 := by simp
  generalize w5.alloc (.cells #[.bool ng5, .slice ao5 n5 cap5] 25) = w6 at *
  have B3 := B3.mono hba5
  have B4 := B4.mono hba5
  have X1 := X1.mono hba5
  have hbw6 := Below.step hbw5 hba5 (Nat.le_refl _)
  have HV6 := Lib.hid (HV5.out.mono hba5)
  have HW6 := Lib.hid (HW5.out.mono hba5)
  have hlt3 := B4.lt
  obtain ⟨p0, p1, q0, q1⟩ := B3
  obtain ⟨r0, r1, s0, s1⟩ := B4
  obtain ⟨x0, x1, _, _⟩ := X1
  obtain ⟨y0, y1, _, _⟩ := X2
  have hne1 : w.heap.size + 1 + 1 < w3.heap.size := by omega
  have hne2 : w.heap.size + 1 + 1 + 1 < w3.heap.size := by omega
  clear hsza hszb hbw3 hbw4 hbw5 hba hba5
  go_region
  go_wp2
  have r0' : ∀ u v, ((w6.setCell ⟨w.heap.size + 1 + 1, 0, none⟩ u).setCell ⟨w.heap.size + 1 + 1, 1, none⟩ v).cell? ⟨w.heap.size + 1 + 1 + 1, 0, none⟩ = some (.bool false) := fun u v => by
    rw [World.cell?_setCell_other _ _ _ _ (by simp), World.cell?_setCell_other _ _ _ _ (by simp)]; exact r0
  have r1' : ∀ u v, ((w6.setCell ⟨w.heap.size + 1 + 1, 0, none⟩ u).setCell ⟨w.heap.size + 1 + 1, 1, none⟩ v).cell? ⟨w.heap.size + 1 + 1 + 1, 1, none⟩ = some (.slice none 0 0) := fun u v => by
    rw [World.cell?_setCell_other _ _ _ _ (by simp), World.cell?_setCell_other _ _ _ _ (by simp)]; exact r1
  have R0 := Lib.hid r0'
  have R1 := Lib.hid r1'
  clear r0' r1'
  refine bodyPost_ret (v := .tuple #[.agg #[.bool ng, .slice ao3 n3 cap3], .agg #[.bool ng5, .slice ao5 n5 cap5], .int .i64 0]) (by simp [results, Tryz.results19, go_sem, p0, p1, r0, r1]) rfl ⟨⟨ng, ao3, n3, cap3, ng5, ao5, n5, cap5, rfl, Lib.hid ?_, Lib.hid ?_⟩, ?_⟩
  · exact ((HV6.out.put2 p0 p1 _ _).put2 (R0.out _ _) (R1.out _ _) _ _).mono ((Below.refl _ _).drew)
  · exact ((HW6.out.put2 p0 p1 _ _).put2 (R0.out _ _) (R1.out _ _) _ _).mono ((Below.refl _ _).drew)
  · exact (Below.put2 (Below.put2 hbw6 (by omega) _ _) (by omega) _ _).drew

set_option maxHeartbeats 800000 in
/-- division by zero -/
theorem Div_zero (a b : Value) (x : Int) (w : World) (ha : IntV w a x) (hb : IntV w b 0) (hE : Env w) :
    Calls Tryz.prog 19 #[a, b] w fun e w' => e = .returned (.tuple #[.agg #[.bool false, .slice none 0 0], .agg #[.bool false, .slice none 0 0], .int .i64 8]) ∧ Below w.heap.size w w' := by
  obtain ⟨n1, ao1, L1, c1, rfl, Hn1, HL1, HB1, hc1, hl1, hU1⟩ := ha
  obtain ⟨n2, ao2, L2, c2, rfl, Hn2, HL2, HB2, hc2, hl2, hU2⟩ := hb
  obtain rfl : L2 = [] := HL2.out
  have hB0 := validP_of 0 n2 [] Hn2.out HL2.out HB2.out
  have HB0 := Lib.hid hB0
  clear hB0
  go_enter Tryz.func19, Tryz.ntmps19
  go_wp2_with fail
  obtain ⟨wx, hwx, hsz, B1, B2, B3, B4, hbx⟩ := boxes4 w (.bool n1) (.slice ao1 L1.length c1) (.bool n2) (.slice ao2 0 c2) (.bool false) (.slice none 0 0) (.bool false) (.slice none 0 0) 25
  rw [← hwx]
  clear hwx
  have hc := check2 wx _ hsz n1 n2 ao1 ao2 L1 [] c1 c2 (hU1.mono hbx) (U.nil _ _) (by omega) (by simp) (hE.mono hbx)
  rw [List.length_nil] at hc
  (with_reducible refine hc.mono ?_)
  clear hc
  rintro e w1 ⟨⟨r, HR, HR2, rfl⟩, hb1'⟩
  obtain rfl : r = 0 := HR.out.2 ⟨validP_of x n1 L1 Hn1.out HL1.out HB1.out, HB0.out⟩
  clear HR HR2
  have B2 := B2.mono hb1'
  have B3 := B3.mono hb1'
  have B4 := B4.mono hb1'
  have hbw := Below.step hbx hb1' (Nat.le_refl _)
  clear hU1 hU2 hE hsz
  obtain ⟨b0, b1, _, _⟩ := B2
  obtain ⟨p0, p1, q0, q1⟩ := B3
  obtain ⟨x0, x1, y0, y1⟩ := B4
  go_wp2
  refine bodyPost_ret (v := .tuple #[.agg #[.bool false, .slice none 0 0], .agg #[.bool false, .slice none 0 0], .int .i64 8]) (by simp [results, Tryz.results19, go_sem, p0, p1, x0, x1]) rfl ⟨rfl, Below.put2 (Below.put2 hbw (by omega) _ _) (by omega) _ _⟩

end Go.Proofs.YtijjagofingpdaaGreatDoor
