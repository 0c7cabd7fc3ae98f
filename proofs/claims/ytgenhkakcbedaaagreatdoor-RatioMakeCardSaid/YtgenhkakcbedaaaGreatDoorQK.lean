import Derived.Test.YtgenhkakcbedaaaGreatDoorQF
namespace Go.Proofs.YtgenhkakcbedaaaGreatDoor
open Go.RowKit

/-- an integer as it came in -/
def RawC (w : World) (v : Value) : Prop :=
  ∃ (neg : Bool) (ao : Option Addr) (l : List Nat) (cap : Nat), v = .agg #[.bool neg, .slice ao l.length cap] ∧ l.length ≤ cap ∧ U w ao l

/-- 'Make' of both comes to the same -/
theorem make_two (x1 x2 : Bool) (l1 l2 : List Nat) (a1 a2 : Option Addr) (c1 c2 : Nat) (m1 : l1.length ≤ 1000000000) (m2 : l2.length ≤ 1000000000) (k1 : l1.length ≤ c1) (k2 : l2.length ≤ c2) : ∃ k p d : Int,
    (k = 0 → ∃ r : Rat, p = r.num ∧ d = (r.den : Int)) ∧
    (∀ w : World, U w a1 l1 → U w a2 l2 → Env w → Calls Tryz.prog 15 #[.agg #[.bool x1, .slice a1 l1.length c1], .agg #[.bool x2, .slice a2 l2.length c2]] w fun e w' => ResP w' k p d e ∧ Below w.heap.size w w') ∧
    (∀ w : World, U w a1 l1 → U w a2 l2 → Env w → Calls Tryz.prog 16 #[.agg #[.bool x1, .slice a1 l1.length c1], .agg #[.bool x2, .slice a2 l2.length c2]] w fun e w' => ResP w' k p d e ∧ Below w.heap.size w w') := by
  by_cases v1 : validP x1 l1
  · by_cases v2 : validP x2 l2
    · obtain ⟨z, z1, z2, z3, z4⟩ := valid_parts v1
      obtain ⟨q, q1, q2, q3, q4⟩ := valid_parts v2
      have i1 : ∀ w : World, U w a1 l1 → IntV w (.agg #[.bool x1, .slice a1 l1.length c1]) z := fun w h => IntV.mk' (Lib.hid z1) (Lib.hid z2) (Lib.hid z3) k1 z4 h
      have i2 : ∀ w : World, U w a2 l2 → IntV w (.agg #[.bool x2, .slice a2 l2.length c2]) q := fun w h => IntV.mk' (Lib.hid q1) (Lib.hid q2) (Lib.hid q3) k2 q4 h
      by_cases hq : q = 0
      · exact ⟨8, 0, 0, fun h => absurd h (by decide), fun w u1 u2 hE => (Make_zero _ _ z q w (i1 w u1) (i2 w u2) (Lib.hid hq) hE).mono fun _ _ ⟨h, hb⟩ => ⟨h.p, hb⟩, fun w u1 u2 hE => (rMake_zero _ _ z q w (i1 w u1) (i2 w u2) (Lib.hid hq) hE).mono fun _ _ ⟨h, hb⟩ => ⟨h.p, hb⟩⟩
      · exact ⟨0, _, _, fun _ => ⟨_, rfl, rfl⟩, fun w u1 u2 hE => Make_ok _ _ z q w (i1 w u1) (i2 w u2) (Lib.hid hq) hE, fun w u1 u2 hE => rMake_ok _ _ z q w (i1 w u1) (i2 w u2) (Lib.hid hq) hE⟩
    · exact ⟨1, 0, 0, fun h => absurd h (by decide), fun w u1 u2 hE => (Make_inv2 x1 x2 l1 l2 a1 a2 c1 c2 w m1 m2 u1 u2 (Lib.hid ⟨Lib.hid v1, Lib.hid v2⟩) hE).mono fun _ _ ⟨h, hb⟩ => ⟨h.p, hb⟩,
        fun w u1 u2 hE => (rMake_inv2 x1 x2 l1 l2 a1 a2 c1 c2 w m1 m2 u1 u2 (Lib.hid ⟨Lib.hid v1, Lib.hid v2⟩) hE).mono fun _ _ ⟨h, hb⟩ => ⟨h.p, hb⟩⟩
  · exact ⟨1, 0, 0, fun h => absurd h (by decide), fun w u1 u2 hE => (Make_inv1 x1 x2 l1 l2 a1 a2 c1 c2 w m1 m2 u1 u2 (Lib.hid v1) hE).mono fun _ _ ⟨h, hb⟩ => ⟨h.p, hb⟩,
      fun w u1 u2 hE => (rMake_inv1 x1 x2 l1 l2 a1 a2 c1 c2 w m1 m2 u1 u2 (Lib.hid v1) hE).mono fun _ _ ⟨h, hb⟩ => ⟨h.p, hb⟩⟩

theorem of_two (n d : Int) (hn1 : -9223372036854775808 ≤ n) (hn2 : n ≤ 9223372036854775807) (hd1 : -9223372036854775808 ≤ d) (hd2 : d ≤ 9223372036854775807) : ∃ k p q : Int,
    (∀ w : World, Env w → Calls Tryz.prog 17 #[.int .i64 n, .int .i64 d] w fun e w' => ResP w' k p q e ∧ Below w.heap.size w w') ∧
    (∀ w : World, Env w → Calls Tryz.prog 18 #[.int .i64 n, .int .i64 d] w fun e w' => ResP w' k p q e ∧ Below w.heap.size w w') := by
  by_cases h : d = 0
  · exact ⟨8, 0, 0, fun w hE => (Of_zero n d w hn1 hn2 hd1 hd2 (Lib.hid h) hE).mono fun _ _ ⟨h, hb⟩ => ⟨h.p, hb⟩, fun w hE => (rOf_zero n d w hn1 hn2 hd1 hd2 (Lib.hid h) hE).mono fun _ _ ⟨h, hb⟩ => ⟨h.p, hb⟩⟩
  · exact ⟨0, _, _, fun w hE => Of_ok n d w hn1 hn2 hd1 hd2 (Lib.hid h) hE, fun w hE => rOf_ok n d w hn1 hn2 hd1 hd2 (Lib.hid h) hE⟩

set_option maxRecDepth 100000 in
set_option maxHeartbeats 6400000 in
theorem make_lawQ (x y : Value) (n d : Int) (w : World) (hx : RawC w x) (hy : RawC w y) (hn1 : -9223372036854775808 ≤ n) (hn2 : n ≤ 9223372036854775807) (hd1 : -9223372036854775808 ≤ d) (hd2 : d ≤ 9223372036854775807) (hE : Env w) (hM : MaxV w) :
    Calls Tryz.prog 3 #[x, y, .agg #[.int .i64 n, .int .i64 d]] w fun e w' => e = .returned (.bool true) ∧ Below w.heap.size w w' := by
  obtain ⟨x1, a1, l1, c1, rfl, k1, u1⟩ := hx
  obtain ⟨x2, a2, l2, c2, rfl, k2, u2⟩ := hy
  have hE0 := hE
  have hbw := Below.refl w.heap.size w
  go_enter Tryz.func3, Tryz.ntmps3
  go_upto_region 1 with fail
  obtain ⟨wx, hwx, hszx, X1, X2, X3, hb⟩ := boxes_222 w (.bool x1) (.slice a1 l1.length c1) 24 (.bool x2) (.slice a2 l2.length c2) 24 (.int .i64 n) (.int .i64 d) 25
  rw [← hwx]
  clear hwx
  obtain ⟨v1, rfl⟩ : ∃ v1 : World, v1 = wx := ⟨_, rfl⟩
  have u1 := u1.mono hb
  have u2 := u2.mono hb
  have hM := hM.mono hb
  have hE := hE.mono hb
  have hbw := Below.step hbw hb (Nat.le_refl _)
  clear hb
  go_wp2_with fail
  (with_reducible refine (awakeQ v1 hE hM).mono ?_)
  rintro e v2 ⟨rfl, hb⟩
  have u1 := u1.mono hb
  have u2 := u2.mono hb
  have hM := hM.mono hb
  have X1 := X1.mono hb
  have X2 := X2.mono hb
  have X3 := X3.mono hb
  have hE := hE.mono hb
  have hbw := Below.step hbw hb (Nat.le_refl _)
  clear hb
  obtain ⟨cX1_0, cX1_1, _, _⟩ := id X1
  go_wp2_with fail
  (with_reducible refine (few_any x1 l1 36 a1 c1 v2).mono ?_)
  rintro e v3 ⟨rfl, hb⟩
  have u1 := u1.mono hb
  have u2 := u2.mono hb
  have hM := hM.mono hb
  have X1 := X1.mono hb
  have X2 := X2.mono hb
  have X3 := X3.mono hb
  have hE := hE.mono hb
  have hbw := Below.step hbw hb (Nat.le_refl _)
  clear hb
  clear cX1_0 cX1_1
  by_cases h1 : (l1.length : Int) ≤ 36
  · have h1b : decide ((l1.length : Int) ≤ 36) = true := by simpa using h1
    obtain ⟨cX2_0, cX2_1, _, _⟩ := id X2
    go_wp2_with fail
    (with_reducible refine (few_any x2 l2 36 a2 c2 v3).mono ?_)
    rintro e v4 ⟨rfl, hb⟩
    have u1 := u1.mono hb
    have u2 := u2.mono hb
    have hM := hM.mono hb
    have X1 := X1.mono hb
    have X2 := X2.mono hb
    have X3 := X3.mono hb
    have hE := hE.mono hb
    have hbw := Below.step hbw hb (Nat.le_refl _)
    clear hb
    clear cX2_0 cX2_1
    by_cases h2 : (l2.length : Int) ≤ 36
    · have h2b : decide ((l2.length : Int) ≤ 36) = true := by simpa using h2
      obtain ⟨kk, pp, dd, hr, hA, hB⟩ := make_two x1 x2 l1 l2 a1 a2 c1 c2 (by omega) (by omega) k1 k2
      obtain ⟨k', p', q', hC, hD⟩ := of_two n d hn1 hn2 hd1 hd2
      have HR := Lib.hid hr
      have HA := Lib.hid hA
      have HB := Lib.hid hB
      have HC := Lib.hid hC
      have HD := Lib.hid hD
      clear hr hA hB hC hD
      have hkk : (kk == kk) = true := by simp
      have hkk' : (k' == k') = true := by simp
      obtain ⟨cX1_0, cX1_1, _, _⟩ := id X1
      obtain ⟨cX2_0, cX2_1, _, _⟩ := id X2
      go_wp2_with fail
      (with_reducible refine (HA.out v4 u1 u2 hE).mono ?_)
      rintro e v5 ⟨⟨ng1, ao1, n1, cap1, ng2, ao2, n2, cap2, rfl, HV1, HV2⟩, hb⟩
      have u1 := u1.mono hb
      have u2 := u2.mono hb
      have hM := hM.mono hb
      have X1 := X1.mono hb
      have X2 := X2.mono hb
      have X3 := X3.mono hb
      have hE := hE.mono hb
      have hbw := Below.step hbw hb (Nat.le_refl _)
      clear hb
      clear cX1_0 cX1_1 cX2_0 cX2_1
      go_upto_region 4 with fail
      have lY1X1 := X1.lt
      have lY1X2 := X2.lt
      have lY1X3 := X3.lt
      have Y1 := Box4.new v5 (.bool ng1) (.slice ao1 n1 cap1) (.bool ng2) (.slice ao2 n2 cap2) 29
      have hb := below_alloc v5 (.cells #[.bool ng1, .slice ao1 n1 cap1, .bool ng2, .slice ao2 n2 cap2] 29)
      generalize v5.alloc (.cells #[.bool ng1, .slice ao1 n1 cap1, .bool ng2, .slice ao2 n2 cap2] 29) = v6 at *
      have u1 := u1.mono hb
      have u2 := u2.mono hb
      have hM := hM.mono hb
      have X1 := X1.mono hb
      have X2 := X2.mono hb
      have X3 := X3.mono hb
      have HV1 := Lib.hid (HV1.out.mono hb)
      have HV2 := Lib.hid (HV2.out.mono hb)
      have hE := hE.mono hb
      have hbw := Below.step hbw hb (Nat.le_refl _)
      clear hb
      obtain ⟨cX1_0, cX1_1, _, _⟩ := id X1
      obtain ⟨cX2_0, cX2_1, _, _⟩ := id X2
      go_wp2_with fail
      (with_reducible refine (HB.out v6 u1 u2 hE).mono ?_)
      rintro e v7 ⟨⟨ng3, ao3, n3, cap3, ng4, ao4, n4, cap4, rfl, HV3, HV4⟩, hb⟩
      have u1 := u1.mono hb
      have u2 := u2.mono hb
      have hM := hM.mono hb
      have X1 := X1.mono hb
      have X2 := X2.mono hb
      have X3 := X3.mono hb
      have HV1 := Lib.hid (HV1.out.mono hb)
      have HV2 := Lib.hid (HV2.out.mono hb)
      have Y1 := Y1.mono hb
      have hE := hE.mono hb
      have hbw := Below.step hbw hb (Nat.le_refl _)
      clear hb
      clear cX1_0 cX1_1 cX2_0 cX2_1
      go_upto_region 5 with fail
      have lY2X1 := X1.lt
      have lY2X2 := X2.lt
      have lY2X3 := X3.lt
      have lY2Y1 := Y1.lt
      have Y2 := Box4.new v7 (.bool ng3) (.slice ao3 n3 cap3) (.bool ng4) (.slice ao4 n4 cap4) 29
      have hb := below_alloc v7 (.cells #[.bool ng3, .slice ao3 n3 cap3, .bool ng4, .slice ao4 n4 cap4] 29)
      generalize v7.alloc (.cells #[.bool ng3, .slice ao3 n3 cap3, .bool ng4, .slice ao4 n4 cap4] 29) = v8 at *
      have u1 := u1.mono hb
      have u2 := u2.mono hb
      have hM := hM.mono hb
      have X1 := X1.mono hb
      have X2 := X2.mono hb
      have X3 := X3.mono hb
      have HV1 := Lib.hid (HV1.out.mono hb)
      have HV2 := Lib.hid (HV2.out.mono hb)
      have Y1 := Y1.mono hb
      have HV3 := Lib.hid (HV3.out.mono hb)
      have HV4 := Lib.hid (HV4.out.mono hb)
      have hE := hE.mono hb
      have hbw := Below.step hbw hb (Nat.le_refl _)
      clear hb
      obtain ⟨cX3_0, cX3_1, _, _⟩ := id X3
      go_wp2_with fail
      (with_reducible refine (HC.out v8 hE).mono ?_)
      rintro e v9 ⟨⟨ng5, ao5, n5, cap5, ng6, ao6, n6, cap6, rfl, HV5, HV6⟩, hb⟩
      have u1 := u1.mono hb
      have u2 := u2.mono hb
      have hM := hM.mono hb
      have X1 := X1.mono hb
      have X2 := X2.mono hb
      have X3 := X3.mono hb
      have HV1 := Lib.hid (HV1.out.mono hb)
      have HV2 := Lib.hid (HV2.out.mono hb)
      have Y1 := Y1.mono hb
      have HV3 := Lib.hid (HV3.out.mono hb)
      have HV4 := Lib.hid (HV4.out.mono hb)
      have Y2 := Y2.mono hb
      have hE := hE.mono hb
      have hbw := Below.step hbw hb (Nat.le_refl _)
      clear hb
      clear cX3_0 cX3_1
      go_upto_region 6 with fail
      have lY3X1 := X1.lt
      have lY3X2 := X2.lt
      have lY3X3 := X3.lt
      have lY3Y1 := Y1.lt
      have lY3Y2 := Y2.lt
      have Y3 := Box4.new v9 (.bool ng5) (.slice ao5 n5 cap5) (.bool ng6) (.slice ao6 n6 cap6) 29
      have hb := below_alloc v9 (.cells #[.bool ng5, .slice ao5 n5 cap5, .bool ng6, .slice ao6 n6 cap6] 29)
      generalize v9.alloc (.cells #[.bool ng5, .slice ao5 n5 cap5, .bool ng6, .slice ao6 n6 cap6] 29) = v10 at *
      have u1 := u1.mono hb
      have u2 := u2.mono hb
      have hM := hM.mono hb
      have X1 := X1.mono hb
      have X2 := X2.mono hb
      have X3 := X3.mono hb
      have HV1 := Lib.hid (HV1.out.mono hb)
      have HV2 := Lib.hid (HV2.out.mono hb)
      have Y1 := Y1.mono hb
      have HV3 := Lib.hid (HV3.out.mono hb)
      have HV4 := Lib.hid (HV4.out.mono hb)
      have Y2 := Y2.mono hb
      have HV5 := Lib.hid (HV5.out.mono hb)
      have HV6 := Lib.hid (HV6.out.mono hb)
      have hE := hE.mono hb
      have hbw := Below.step hbw hb (Nat.le_refl _)
      clear hb
      obtain ⟨cX3_0, cX3_1, _, _⟩ := id X3
      go_wp2_with fail
      (with_reducible refine (HD.out v10 hE).mono ?_)
      rintro e v11 ⟨⟨ng7, ao7, n7, cap7, ng8, ao8, n8, cap8, rfl, HV7, HV8⟩, hb⟩
      have u1 := u1.mono hb
      have u2 := u2.mono hb
      have hM := hM.mono hb
      have X1 := X1.mono hb
      have X2 := X2.mono hb
      have X3 := X3.mono hb
      have HV1 := Lib.hid (HV1.out.mono hb)
      have HV2 := Lib.hid (HV2.out.mono hb)
      have Y1 := Y1.mono hb
      have HV3 := Lib.hid (HV3.out.mono hb)
      have HV4 := Lib.hid (HV4.out.mono hb)
      have Y2 := Y2.mono hb
      have HV5 := Lib.hid (HV5.out.mono hb)
      have HV6 := Lib.hid (HV6.out.mono hb)
      have Y3 := Y3.mono hb
      have hE := hE.mono hb
      have hbw := Below.step hbw hb (Nat.le_refl _)
      clear hb
      clear cX3_0 cX3_1
      go_upto_region 7 with fail
      have lY4X1 := X1.lt
      have lY4X2 := X2.lt
      have lY4X3 := X3.lt
      have lY4Y1 := Y1.lt
      have lY4Y2 := Y2.lt
      have lY4Y3 := Y3.lt
      have Y4 := Box4.new v11 (.bool ng7) (.slice ao7 n7 cap7) (.bool ng8) (.slice ao8 n8 cap8) 29
      have hb := below_alloc v11 (.cells #[.bool ng7, .slice ao7 n7 cap7, .bool ng8, .slice ao8 n8 cap8] 29)
      generalize v11.alloc (.cells #[.bool ng7, .slice ao7 n7 cap7, .bool ng8, .slice ao8 n8 cap8] 29) = v12 at *
      have u1 := u1.mono hb
      have u2 := u2.mono hb
      have hM := hM.mono hb
      have X1 := X1.mono hb
      have X2 := X2.mono hb
      have X3 := X3.mono hb
      have HV1 := Lib.hid (HV1.out.mono hb)
      have HV2 := Lib.hid (HV2.out.mono hb)
      have Y1 := Y1.mono hb
      have HV3 := Lib.hid (HV3.out.mono hb)
      have HV4 := Lib.hid (HV4.out.mono hb)
      have Y2 := Y2.mono hb
      have HV5 := Lib.hid (HV5.out.mono hb)
      have HV6 := Lib.hid (HV6.out.mono hb)
      have Y3 := Y3.mono hb
      have HV7 := Lib.hid (HV7.out.mono hb)
      have HV8 := Lib.hid (HV8.out.mono hb)
      have hE := hE.mono hb
      have hbw := Below.step hbw hb (Nat.le_refl _)
      clear hb
      obtain ⟨cY1_0, cY1_1, cY1_2, cY1_3, _, _, _, _⟩ := id Y1
      obtain ⟨cY2_0, cY2_1, cY2_2, cY2_3, _, _, _, _⟩ := id Y2
      go_wp2_with fail
      (with_reducible refine (eqQ_same _ _ _ _ v12 (Lib.hid ⟨rfl, rfl⟩) HV1.out HV2.out HV3.out HV4.out hE).mono ?_)
      rintro e v13 ⟨rfl, hb⟩
      have u1 := u1.mono hb
      have u2 := u2.mono hb
      have hM := hM.mono hb
      have X1 := X1.mono hb
      have X2 := X2.mono hb
      have X3 := X3.mono hb
      have HV1 := Lib.hid (HV1.out.mono hb)
      have HV2 := Lib.hid (HV2.out.mono hb)
      have Y1 := Y1.mono hb
      have HV3 := Lib.hid (HV3.out.mono hb)
      have HV4 := Lib.hid (HV4.out.mono hb)
      have Y2 := Y2.mono hb
      have HV5 := Lib.hid (HV5.out.mono hb)
      have HV6 := Lib.hid (HV6.out.mono hb)
      have Y3 := Y3.mono hb
      have HV7 := Lib.hid (HV7.out.mono hb)
      have HV8 := Lib.hid (HV8.out.mono hb)
      have Y4 := Y4.mono hb
      have hE := hE.mono hb
      have hbw := Below.step hbw hb (Nat.le_refl _)
      clear hb
      clear cY1_0 cY1_1 cY1_2 cY1_3 cY2_0 cY2_1 cY2_2 cY2_3
      obtain ⟨cY3_0, cY3_1, cY3_2, cY3_3, _, _, _, _⟩ := id Y3
      obtain ⟨cY4_0, cY4_1, cY4_2, cY4_3, _, _, _, _⟩ := id Y4
      go_wp2_with fail
      (with_reducible refine (eqQ_same _ _ _ _ v13 (Lib.hid ⟨rfl, rfl⟩) HV5.out HV6.out HV7.out HV8.out hE).mono ?_)
      rintro e v14 ⟨rfl, hb⟩
      have u1 := u1.mono hb
      have u2 := u2.mono hb
      have hM := hM.mono hb
      have X1 := X1.mono hb
      have X2 := X2.mono hb
      have X3 := X3.mono hb
      have HV1 := Lib.hid (HV1.out.mono hb)
      have HV2 := Lib.hid (HV2.out.mono hb)
      have Y1 := Y1.mono hb
      have HV3 := Lib.hid (HV3.out.mono hb)
      have HV4 := Lib.hid (HV4.out.mono hb)
      have Y2 := Y2.mono hb
      have HV5 := Lib.hid (HV5.out.mono hb)
      have HV6 := Lib.hid (HV6.out.mono hb)
      have Y3 := Y3.mono hb
      have HV7 := Lib.hid (HV7.out.mono hb)
      have HV8 := Lib.hid (HV8.out.mono hb)
      have Y4 := Y4.mono hb
      have hE := hE.mono hb
      have hbw := Below.step hbw hb (Nat.le_refl _)
      clear hb
      clear cY3_0 cY3_1 cY3_2 cY3_3 cY4_0 cY4_1 cY4_2 cY4_3
      by_cases h0 : kk = 0
      · obtain ⟨r, rfl, rfl⟩ := HR.out h0
        subst h0
        obtain ⟨cY1_0, cY1_1, cY1_2, cY1_3, _, _, _, _⟩ := id Y1
        go_wp2_with fail
        (with_reducible refine (Valid_true _ r v14 (RatV.mk' HV1 HV2) hE).mono ?_)
        rintro e v15 ⟨rfl, hb⟩
        have u1 := u1.mono hb
        have u2 := u2.mono hb
        have hM := hM.mono hb
        have X1 := X1.mono hb
        have X2 := X2.mono hb
        have X3 := X3.mono hb
        have HV1 := Lib.hid (HV1.out.mono hb)
        have HV2 := Lib.hid (HV2.out.mono hb)
        have Y1 := Y1.mono hb
        have HV3 := Lib.hid (HV3.out.mono hb)
        have HV4 := Lib.hid (HV4.out.mono hb)
        have Y2 := Y2.mono hb
        have HV5 := Lib.hid (HV5.out.mono hb)
        have HV6 := Lib.hid (HV6.out.mono hb)
        have Y3 := Y3.mono hb
        have HV7 := Lib.hid (HV7.out.mono hb)
        have HV8 := Lib.hid (HV8.out.mono hb)
        have Y4 := Y4.mono hb
        have hE := hE.mono hb
        have hbw := Below.step hbw hb (Nat.le_refl _)
        clear hb
        clear cY1_0 cY1_1 cY1_2 cY1_3
        go_wp2
        go_ret
        exact ⟨rfl, hbw⟩
      · have hk0 : (kk != 0) = true := by simp [bne, h0]
        clear h0
        go_wp2
        go_ret
        exact ⟨rfl, hbw⟩
    · have hb0 : decide ((l2.length : Int) ≤ 36) = false := by simpa using h2
      go_wp2_with fail
      (with_reducible refine (awakeQ v4 hE hM).mono ?_)
      rintro e v5 ⟨rfl, hb⟩
      have u1 := u1.mono hb
      have u2 := u2.mono hb
      have hM := hM.mono hb
      have X1 := X1.mono hb
      have X2 := X2.mono hb
      have X3 := X3.mono hb
      have hE := hE.mono hb
      have hbw := Below.step hbw hb (Nat.le_refl _)
      clear hb
      go_wp2
      go_ret
      exact ⟨rfl, hbw⟩
  · have hb0 : decide ((l1.length : Int) ≤ 36) = false := by simpa using h1
    go_wp2_with fail
    (with_reducible refine (awakeQ v3 hE hM).mono ?_)
    rintro e v4 ⟨rfl, hb⟩
    have u1 := u1.mono hb
    have u2 := u2.mono hb
    have hM := hM.mono hb
    have X1 := X1.mono hb
    have X2 := X2.mono hb
    have X3 := X3.mono hb
    have hE := hE.mono hb
    have hbw := Below.step hbw hb (Nat.le_refl _)
    clear hb
    go_wp2
    go_ret
    exact ⟨rfl, hbw⟩

end Go.Proofs.YtgenhkakcbedaaaGreatDoor
