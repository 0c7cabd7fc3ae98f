import Derived.Test.YtijjagofingpdaaGreatDoorApi
import Derived.Deep.RegionHeld3
namespace Go.Proofs.YtijjagofingpdaaGreatDoor
open Go.RowKit

set_option maxHeartbeats 800000 in
theorem Sub_any (a b : Value) (x y : Int) (w : World) (ha : IntV w a x) (hb : IntV w b y) (hE : Env w) :
    Calls Tryz.prog 17 #[a, b] w fun e w' => ResZ w' (x - y) e ∧ Below w.heap.size w w' := by
  obtain ⟨n1, ao1, L1, c1, rfl, Hn1, HL1, HB1, hc1, hl1, hU1⟩ := ha
  obtain ⟨n2, ao2, L2, c2, rfl, Hn2, HL2, HB2, hc2, hl2, hU2⟩ := hb
  have hneg : ∃ n3 : Bool, Hid (n3 = decide (-y < 0)) ∧ ((L2 = [] ∧ n3 = false ∧ n2 = false) ∨ (L2 ≠ [] ∧ n3 = !n2)) := by
    refine ⟨decide (-y < 0), Lib.hid rfl, ?_⟩
    have h1 := Hn2.out
    have h2 := HL2.out
    by_cases h0 : L2 = []
    · have : y = 0 := by rw [h0] at h2; have := Bi.limbs_eq_nil.1 h2.symm; omega
      exact .inl ⟨h0, by simp [this], by rw [h1, this]; rfl⟩
    · have : y ≠ 0 := by rintro rfl; exact h0 (by rw [h2]; rfl)
      refine .inr ⟨h0, ?_⟩
      rw [h1]
      by_cases h3 : y < 0
      · have : ¬ (-y < 0) := by omega
        simp [h3]; omega
      · have : -y < 0 := by omega
        simp [h3]; omega
  obtain ⟨n3, Hn3, hcase⟩ := hneg
  have HC := Lib.hid hcase
  clear hcase
  go_enter Tryz.func17, Tryz.ntmps17
  go_wp2_with fail
  obtain ⟨wx, hwx, hsz, B1, B2, B3, hbx⟩ := boxes3 w (.bool n1) (.slice ao1 L1.length c1) (.bool n2) (.slice ao2 L2.length c2) (.bool false) (.slice none 0 0) 25
  rw [← hwx]
  clear hwx
  (with_reducible refine (check2 wx _ hsz n1 n2 ao1 ao2 L1 L2 c1 c2 (hU1.mono hbx) (hU2.mono hbx) ?_ ?_ (hE.mono hbx)).mono ?_)
  · omega
  · omega
  rintro e w1 ⟨⟨r, HR, HR2, rfl⟩, hb1'⟩
  obtain rfl : r = 0 := HR.out.2 ⟨validP_of x n1 L1 Hn1.out HL1.out HB1.out, validP_of y n2 L2 Hn2.out HL2.out HB2.out⟩
  clear HR HR2
  have B1 := B1.mono hb1'
  have B2 := B2.mono hb1'
  have B3 := B3.mono hb1'
  have hbw := Below.step hbx hb1' (Nat.le_refl _)
  have hV1 : IntV w1 (.agg #[.bool n1, .slice ao1 L1.length c1]) x := ⟨n1, ao1, L1, c1, rfl, Hn1, HL1, HB1, hc1, hl1, hU1.mono hbw⟩
  have hV2 : IntV w1 (.agg #[.bool n2, .slice ao2 L2.length c2]) y := ⟨n2, ao2, L2, c2, rfl, Hn2, HL2, HB2, hc2, hl2, hU2.mono hbw⟩
  have hE1 := hE.mono hbw
  have hV3 : IntV w1 (.agg #[.bool n3, .slice ao2 L2.length c2]) (-y) := ⟨n3, ao2, L2, c2, rfl, Hn3, Lib.hid (by rw [Int.natAbs_neg]; exact HL2.out), Lib.hid (by rw [Int.natAbs_neg]; exact HB2.out), hc2, hl2, hU2.mono hbw⟩
  clear hU1 hU2 hE hsz
  obtain ⟨a0, a1, _, _⟩ := B1
  obtain ⟨b0, b1, _, _⟩ := B2
  rcases HC.out with ⟨h0, rfl, rfl⟩ | ⟨h0, rfl⟩
  · subst h0
    simp only [List.length_nil] at hV3
    go_wp2_with fail
    (with_reducible refine (add_any _ _ x (-y) w1 hV1 hV3 hE1).mono ?_)
    rintro e w2 ⟨⟨ng, ao3, n3, cap3, k3, rfl, HR⟩, hb2⟩
    rw [← Int.sub_eq_add_neg] at HR
    obtain ⟨p0, p1, q0, q1⟩ := B3.mono hb2
    go_wp2
    refine bodyPost_ret (v := .tuple #[.agg #[.bool ng, .slice ao3 n3 cap3], .int .i64 k3]) (by simp [results, Tryz.results17, go_sem, p0, p1]) rfl ⟨⟨ng, ao3, n3, cap3, k3, rfl, Lib.hid (HR.out.put2 p0 p1 _ _)⟩, ?_⟩
    exact Below.put2 (Below.step hbw hb2 (Nat.le_refl _)) (by omega) _ _
  · have hL : 0 < L2.length := List.length_pos_iff.2 h0
    cases n2
    all_goals
      simp only [Bool.not_false, Bool.not_true] at hV3
      go_wp2_with fail
      (with_reducible refine (add_any _ _ x (-y) w1 hV1 hV3 hE1).mono ?_)
      rintro e w2 ⟨⟨ng, ao3, n3, cap3, k3, rfl, HR⟩, hb2⟩
      rw [← Int.sub_eq_add_neg] at HR
      obtain ⟨p0, p1, q0, q1⟩ := B3.mono hb2
      go_wp2
      refine bodyPost_ret (v := .tuple #[.agg #[.bool ng, .slice ao3 n3 cap3], .int .i64 k3]) (by simp [results, Tryz.results17, go_sem, p0, p1]) rfl ⟨⟨ng, ao3, n3, cap3, k3, rfl, Lib.hid (HR.out.put2 p0 p1 _ _)⟩, ?_⟩
      exact Below.put2 (Below.step hbw hb2 (Nat.le_refl _)) (by omega) _ _

set_option maxHeartbeats 800000 in
theorem Mul_any (a b : Value) (x y : Int) (w : World) (ha : IntV w a x) (hb : IntV w b y) (hE : Env w) :
    Calls Tryz.prog 18 #[a, b] w fun e w' => ResZ w' (x * y) e ∧ Below w.heap.size w w' := by
  obtain ⟨n1, ao1, L1, c1, rfl, Hn1, HL1, HB1, hc1, hl1, hU1⟩ := ha
  obtain ⟨n2, ao2, L2, c2, rfl, Hn2, HL2, HB2, hc2, hl2, hU2⟩ := hb
  go_enter Tryz.func18, Tryz.ntmps18
  go_wp2_with fail
  obtain ⟨wx, hwx, hsz, B1, B2, B3, hbx⟩ := boxes3 w (.bool n1) (.slice ao1 L1.length c1) (.bool n2) (.slice ao2 L2.length c2) (.bool false) (.slice none 0 0) 25
  rw [← hwx]
  clear hwx
  (with_reducible refine (check2 wx _ hsz n1 n2 ao1 ao2 L1 L2 c1 c2 (hU1.mono hbx) (hU2.mono hbx) ?_ ?_ (hE.mono hbx)).mono ?_)
  · omega
  · omega
  rintro e w1 ⟨⟨r, HR, HR2, rfl⟩, hb1'⟩
  obtain rfl : r = 0 := HR.out.2 ⟨validP_of x n1 L1 Hn1.out HL1.out HB1.out, validP_of y n2 L2 Hn2.out HL2.out HB2.out⟩
  clear HR HR2
  have B1 := B1.mono hb1'
  have B2 := B2.mono hb1'
  have B3 := B3.mono hb1'
  have hbw := Below.step hbx hb1' (Nat.le_refl _)
  have hE1 := hE.mono hbw
  have hbd := hbw.drew
  have hX1 := hU1.mono hbd
  have hX2 := hU2.mono hbd
  have hEx := hE.mono hbd
  have Ho1 : Hid (Bi.Ok L1) := Lib.hid (by rw [HL1.out]; exact Bi.limbs_ok _)
  have Ho2 : Hid (Bi.Ok L2) := Lib.hid (by rw [HL2.out]; exact Bi.limbs_ok _)
  have D1 := B1.mono ((Below.refl w1.heap.size w1).drew)
  have D2 := B2.mono ((Below.refl w1.heap.size w1).drew)
  have D3 := B3.mono ((Below.refl w1.heap.size w1).drew)
  clear hU1 hU2 hE hsz hE1
  obtain ⟨a0, a1, _, _⟩ := B1
  obtain ⟨b0, b1, _, _⟩ := B2
  go_wp2_with fail
  go_region_held3 (fun w' => w'.cell? ⟨w.heap.size, 0, none⟩ = some (.bool n1) ∧ w'.cell? ⟨w.heap.size + 1, 0, none⟩ = some (.bool n2) ∧ w'.cell? ⟨w.heap.size, 1, none⟩ = some (.slice ao1 L1.length c1) ∧ w'.cell? ⟨w.heap.size + 1, 1, none⟩ = some (.slice ao2 L2.length c2))
    (first | (with_reducible exact ⟨a0, b0, a1, b1⟩) | (with_reducible exact ⟨D1.c0, D2.c0, D1.c1, D2.c1⟩) | (with_reducible exact ⟨E1.c0, E2.c0, E1.c1, E2.c1⟩) | (with_reducible exact ⟨F1.c0, F2.c0, F1.c1, F2.c1⟩) | (simp [F1.c0, F2.c0, F1.c1, F2.c1, go_sem]; done))
    (first
      | (go_at_call 39; ((with_reducible refine (times_any L1 L2 _ _ _ _ _ ?_ ?_ Ho1.out Ho2.out hX1 hX2).mono ?_); (omega); (omega)); rintro e w2 ⟨ao, L, cap, hL, rfl, hcap, hUL, hb2⟩; have HL := Lib.hid hL; clear hL; have E1 := D1.mono hb2; have E2 := D2.mono hb2; have E3 := D3.mono hb2)
      | (go_at_call 33; ((with_reducible refine (result_any (!(n1 == n2)) _ _ _ _ ?_ hcap hUL (Lib.hid ?_) (hEx.mono hb2)).mono ?_); (rw [HL.out]; exact Nat.le_trans (Bi.limbs_length_le (Bi.val_mul_lt Ho1.out Ho2.out)) (by omega)); (rw [HL.out]; exact Bi.limbs_ok _)); rintro e w3 ⟨⟨ng, ao3, n3, cap3, k3, rfl, HR⟩, hb3⟩; have F1 := E1.mono hb3; have F2 := E2.mono hb3; obtain ⟨p0, p1, q0, q1⟩ := E3.mono hb3))
  go_wp2
  refine bodyPost_ret (v := .tuple #[.agg #[.bool ng, .slice ao3 n3 cap3], .int .i64 k3]) (by simp [results, Tryz.results18, go_sem, p0, p1]) rfl ⟨⟨ng, ao3, n3, cap3, k3, rfl, Lib.hid ?_⟩, ?_⟩
  · have := HR.out.put2 p0 p1 (.bool ng) (.slice ao3 n3 cap3)
    rw [HL.out, Bi.val_limbs, HL1.out, HL2.out, Bi.val_limbs, Bi.val_limbs] at this
    have h4 : sgn (!(n1 == n2)) (x.natAbs * y.natAbs) = x * y := by
      have e1 := sgn_of x n1 Hn1.out
      have e2 := sgn_of y n2 Hn2.out
      rw [← e1, ← e2, sgn_natAbs, sgn_natAbs]
      unfold sgn
      cases n1 <;> cases n2 <;> simp [Int.mul_neg, Int.neg_mul]
    rw [h4] at this
    exact this
  · exact Below.put2 (Below.step (Below.step hbd hb2 (Nat.le_refl _)) hb3 (Nat.le_refl _)) (by omega) _ _

end Go.Proofs.YtijjagofingpdaaGreatDoor
