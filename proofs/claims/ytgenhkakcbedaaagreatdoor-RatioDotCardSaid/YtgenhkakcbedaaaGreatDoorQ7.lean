import Derived.Test.YtgenhkakcbedaaaGreatDoorQ5
import Derived.Test.YtgenhkakcbedaaaGreatDoorQ6
namespace Go.Proofs.YtgenhkakcbedaaaGreatDoor
open Go.RowKit

/-- three integers and an error -/
def GotT (w' : World) (x y z k : Int) (e : Ending) : Prop :=
  ∃ (n1 : Bool) (a1 : Option Addr) (l1 c1 : Nat) (n2 : Bool) (a2 : Option Addr) (l2 c2 : Nat) (n3 : Bool) (a3 : Option Addr) (l3 c3 : Nat),
    e = .returned (.tuple #[.agg #[.bool n1, .slice a1 l1 c1], .agg #[.bool n2, .slice a2 l2 c2], .agg #[.bool n3, .slice a3 l3 c3], .int .i64 k]) ∧
    Hid (IntV w' (.agg #[.bool n1, .slice a1 l1 c1]) x) ∧ Hid (IntV w' (.agg #[.bool n2, .slice a2 l2 c2]) y) ∧ Hid (IntV w' (.agg #[.bool n3, .slice a3 l3 c3]) z)

def SomeT (w' : World) (k : Int) (e : Ending) : Prop := ∃ z, GotT w' 0 0 z k e

set_option maxRecDepth 100000 in
set_option maxHeartbeats 1600000 in
theorem cross_b1 (va vb : Value) (a b : Rat) (w : World) (ha : RatV w va a) (hb : RatV w vb b) (hs : Hid (¬ Rq.Sm (a.num * (b.den : Int)))) (hE : Env w) :
    Calls Tryz.prog 79 #[va, vb] w fun e w' => SomeT w' 3 e ∧ Below w.heap.size w w' := by
  have HA := hs
  have hE0 := hE
  have hbw := Below.refl w.heap.size w
  obtain ⟨ng1, ao1, n1, cap1, ng2, ao2, n2, cap2, rfl, h1, h2⟩ := ha
  have HV1 := Lib.hid h1
  have HV2 := Lib.hid h2
  clear h1 h2
  obtain ⟨ng3, ao3, n3, cap3, ng4, ao4, n4, cap4, rfl, h1, h2⟩ := hb
  have HV3 := Lib.hid h1
  have HV4 := Lib.hid h2
  clear h1 h2
  go_enter Tryz.func79, Tryz.ntmps79
  go_upto_region 1 with fail
  obtain ⟨wx, hwx, hszx, X1, X2, X3, X4, X8, hb⟩ := boxes_44222 w (.bool ng1) (.slice ao1 n1 cap1) (.bool ng2) (.slice ao2 n2 cap2) 29 (.bool ng3) (.slice ao3 n3 cap3) (.bool ng4) (.slice ao4 n4 cap4) 29 (.bool false) (.slice none 0 0) 24 (.bool false) (.slice none 0 0) 24 (.bool false) (.slice none 0 0) 24
  rw [← hwx]
  clear hwx
  obtain ⟨v1, rfl⟩ : ∃ v1 : World, v1 = wx := ⟨_, rfl⟩
  have HV1 := Lib.hid (HV1.out.mono hb)
  have HV2 := Lib.hid (HV2.out.mono hb)
  have HV3 := Lib.hid (HV3.out.mono hb)
  have HV4 := Lib.hid (HV4.out.mono hb)
  have hE := hE.mono hb
  have hbw := Below.step hbw hb (Nat.le_refl _)
  clear hb
  obtain ⟨cX1_0, cX1_1, cX1_2, cX1_3, _, _, _, _⟩ := id X1
  go_wp2_with fail
  (with_reducible refine (rValid_true _ a v1 (RatV.mk' HV1 HV2) hE).mono ?_)
  rintro e v2 ⟨rfl, hb⟩
  have HV1 := Lib.hid (HV1.out.mono hb)
  have HV2 := Lib.hid (HV2.out.mono hb)
  have HV3 := Lib.hid (HV3.out.mono hb)
  have HV4 := Lib.hid (HV4.out.mono hb)
  have X1 := X1.mono hb
  have X2 := X2.mono hb
  have X3 := X3.mono hb
  have X4 := X4.mono hb
  have X8 := X8.mono hb
  have hE := hE.mono hb
  have hbw := Below.step hbw hb (Nat.le_refl _)
  clear hb
  clear cX1_0 cX1_1 cX1_2 cX1_3
  obtain ⟨cX2_0, cX2_1, cX2_2, cX2_3, _, _, _, _⟩ := id X2
  go_wp2_with fail
  (with_reducible refine (rValid_true _ b v2 (RatV.mk' HV3 HV4) hE).mono ?_)
  rintro e v3 ⟨rfl, hb⟩
  have HV1 := Lib.hid (HV1.out.mono hb)
  have HV2 := Lib.hid (HV2.out.mono hb)
  have HV3 := Lib.hid (HV3.out.mono hb)
  have HV4 := Lib.hid (HV4.out.mono hb)
  have X1 := X1.mono hb
  have X2 := X2.mono hb
  have X3 := X3.mono hb
  have X4 := X4.mono hb
  have X8 := X8.mono hb
  have hE := hE.mono hb
  have hbw := Below.step hbw hb (Nat.le_refl _)
  clear hb
  clear cX2_0 cX2_1 cX2_2 cX2_3
  obtain ⟨cX1_0, cX1_1, cX1_2, cX1_3, _, _, _, _⟩ := id X1
  obtain ⟨cX2_0, cX2_1, cX2_2, cX2_3, _, _, _, _⟩ := id X2
  go_wp2_with fail
  (with_reducible refine (rMul_big _ _ a.num (b.den : Int) v3 HV1.out HV4.out HA).mono ?_)
  rintro e v4 ⟨rfl, hb⟩
  have HV1 := Lib.hid (HV1.out.mono hb)
  have HV2 := Lib.hid (HV2.out.mono hb)
  have HV3 := Lib.hid (HV3.out.mono hb)
  have HV4 := Lib.hid (HV4.out.mono hb)
  have X1 := X1.mono hb
  have X2 := X2.mono hb
  have X3 := X3.mono hb
  have X4 := X4.mono hb
  have X8 := X8.mono hb
  have hE := hE.mono hb
  have hbw := Below.step hbw hb (Nat.le_refl _)
  clear hb
  clear cX1_0 cX1_1 cX1_2 cX1_3 cX2_0 cX2_1 cX2_2 cX2_3
  go_upto_region 4 with fail
  have lX5X1 := X1.lt
  have lX5X2 := X2.lt
  have lX5X3 := X3.lt
  have lX5X4 := X4.lt
  have lX5X8 := X8.lt
  have X5 := Box.new v4 (.bool false) (.slice none 0 0) 24
  have hb := below_alloc v4 (.cells #[.bool false, .slice none 0 0] 24)
  generalize v4.alloc (.cells #[.bool false, .slice none 0 0] 24) = v5 at *
  have HV1 := Lib.hid (HV1.out.mono hb)
  have HV2 := Lib.hid (HV2.out.mono hb)
  have HV3 := Lib.hid (HV3.out.mono hb)
  have HV4 := Lib.hid (HV4.out.mono hb)
  have X1 := X1.mono hb
  have X2 := X2.mono hb
  have X3 := X3.mono hb
  have X4 := X4.mono hb
  have X8 := X8.mono hb
  have hE := hE.mono hb
  have hbw := Below.step hbw hb (Nat.le_refl _)
  clear hb
  obtain ⟨cX1_0, cX1_1, cX1_2, cX1_3, _, _, _, _⟩ := id X1
  obtain ⟨cX2_0, cX2_1, cX2_2, cX2_3, _, _, _, _⟩ := id X2
  go_wp2_with fail
  (with_reducible refine (rMul_u _ _ b.num (a.den : Int) v5 HV3.out HV2.out).mono ?_)
  rintro e v6 ⟨⟨ng6, ao6, n6, cap6, k6, z6, rfl, HV6⟩, hb⟩
  have HV1 := Lib.hid (HV1.out.mono hb)
  have HV2 := Lib.hid (HV2.out.mono hb)
  have HV3 := Lib.hid (HV3.out.mono hb)
  have HV4 := Lib.hid (HV4.out.mono hb)
  have X1 := X1.mono hb
  have X2 := X2.mono hb
  have X3 := X3.mono hb
  have X4 := X4.mono hb
  have X8 := X8.mono hb
  have X5 := X5.mono hb
  have hE := hE.mono hb
  have hbw := Below.step hbw hb (Nat.le_refl _)
  clear hb
  clear cX1_0 cX1_1 cX1_2 cX1_3 cX2_0 cX2_1 cX2_2 cX2_3
  go_upto_region 5 with fail
  have lX6X1 := X1.lt
  have lX6X2 := X2.lt
  have lX6X3 := X3.lt
  have lX6X4 := X4.lt
  have lX6X8 := X8.lt
  have lX6X5 := X5.lt
  have X6 := Box.new v6 (.bool ng6) (.slice ao6 n6 cap6) 24
  have hb := below_alloc v6 (.cells #[.bool ng6, .slice ao6 n6 cap6] 24)
  generalize v6.alloc (.cells #[.bool ng6, .slice ao6 n6 cap6] 24) = v7 at *
  have HV1 := Lib.hid (HV1.out.mono hb)
  have HV2 := Lib.hid (HV2.out.mono hb)
  have HV3 := Lib.hid (HV3.out.mono hb)
  have HV4 := Lib.hid (HV4.out.mono hb)
  have X1 := X1.mono hb
  have X2 := X2.mono hb
  have X3 := X3.mono hb
  have X4 := X4.mono hb
  have X8 := X8.mono hb
  have X5 := X5.mono hb
  have HV6 := Lib.hid (HV6.out.mono hb)
  have hE := hE.mono hb
  have hbw := Below.step hbw hb (Nat.le_refl _)
  clear hb
  obtain ⟨cX1_0, cX1_1, cX1_2, cX1_3, _, _, _, _⟩ := id X1
  obtain ⟨cX2_0, cX2_1, cX2_2, cX2_3, _, _, _, _⟩ := id X2
  go_wp2_with fail
  (with_reducible refine (rMul_u _ _ (a.den : Int) (b.den : Int) v7 HV2.out HV4.out).mono ?_)
  rintro e v8 ⟨⟨ng7, ao7, n7, cap7, k7, z7, rfl, HV7⟩, hb⟩
  have HV1 := Lib.hid (HV1.out.mono hb)
  have HV2 := Lib.hid (HV2.out.mono hb)
  have HV3 := Lib.hid (HV3.out.mono hb)
  have HV4 := Lib.hid (HV4.out.mono hb)
  have X1 := X1.mono hb
  have X2 := X2.mono hb
  have X3 := X3.mono hb
  have X4 := X4.mono hb
  have X8 := X8.mono hb
  have X5 := X5.mono hb
  have HV6 := Lib.hid (HV6.out.mono hb)
  have X6 := X6.mono hb
  have hE := hE.mono hb
  have hbw := Below.step hbw hb (Nat.le_refl _)
  clear hb
  clear cX1_0 cX1_1 cX1_2 cX1_3 cX2_0 cX2_1 cX2_2 cX2_3
  go_upto_region 6 with fail
  have lX7X1 := X1.lt
  have lX7X2 := X2.lt
  have lX7X3 := X3.lt
  have lX7X4 := X4.lt
  have lX7X8 := X8.lt
  have lX7X5 := X5.lt
  have lX7X6 := X6.lt
  have X7 := Box.new v8 (.bool ng7) (.slice ao7 n7 cap7) 24
  have hb := below_alloc v8 (.cells #[.bool ng7, .slice ao7 n7 cap7] 24)
  generalize v8.alloc (.cells #[.bool ng7, .slice ao7 n7 cap7] 24) = v9 at *
  have HV1 := Lib.hid (HV1.out.mono hb)
  have HV2 := Lib.hid (HV2.out.mono hb)
  have HV3 := Lib.hid (HV3.out.mono hb)
  have HV4 := Lib.hid (HV4.out.mono hb)
  have X1 := X1.mono hb
  have X2 := X2.mono hb
  have X3 := X3.mono hb
  have X4 := X4.mono hb
  have X8 := X8.mono hb
  have X5 := X5.mono hb
  have HV6 := Lib.hid (HV6.out.mono hb)
  have X6 := X6.mono hb
  have HV7 := Lib.hid (HV7.out.mono hb)
  have hE := hE.mono hb
  have hbw := Below.step hbw hb (Nat.le_refl _)
  clear hb
  go_upto_region 7 with fail
  obtain ⟨wy, rfl⟩ : ∃ wy : World, wy = v9 := ⟨_, rfl⟩
  obtain ⟨cX5_0, cX5_1, _, _⟩ := id X5
  obtain ⟨cX6_0, cX6_1, _, _⟩ := id X6
  obtain ⟨cX7_0, cX7_1, _, _⟩ := id X7
  obtain ⟨cX3_0, cX3_1, _, _⟩ := id X3
  obtain ⟨cX4_0, cX4_1, _, _⟩ := id X4
  obtain ⟨cX8_0, cX8_1, _, _⟩ := id X8
  go_region_with fail
  all_goals
    go_wp2
    exact bodyPost_ret (v := .tuple #[.agg #[.bool false, .slice none 0 0], .agg #[.bool false, .slice none 0 0], .agg #[.bool ng7, .slice ao7 n7 cap7], .int .i64 3]) (by simp [results, Tryz.results79, go_sem, cX3_0, cX3_1, cX4_0, cX4_1, cX8_0, cX8_1]) rfl ⟨⟨z7, ⟨false, none, 0, 0, false, none, 0, 0, ng7, ao7, n7, cap7, rfl, Lib.hid (((((IntV.zero wy).put2B X3 (.bool false) (.slice none 0 0)).put2B (X4.other2 (by omega)) (.bool false) (.slice none 0 0)).put2B ((X8.other2 (by omega)).other2 (by omega)) (.bool ng7) (.slice ao7 n7 cap7)).mono (Below.drew (Below.refl _ _))), Lib.hid (((((IntV.zero wy).put2B X3 (.bool false) (.slice none 0 0)).put2B (X4.other2 (by omega)) (.bool false) (.slice none 0 0)).put2B ((X8.other2 (by omega)).other2 (by omega)) (.bool ng7) (.slice ao7 n7 cap7)).mono (Below.drew (Below.refl _ _))), Lib.hid ((((HV7.out.put2B X3 (.bool false) (.slice none 0 0)).put2B (X4.other2 (by omega)) (.bool false) (.slice none 0 0)).put2B ((X8.other2 (by omega)).other2 (by omega)) (.bool ng7) (.slice ao7 n7 cap7)).mono (Below.drew (Below.refl _ _)))⟩⟩, (Below.put2 (Below.put2 (Below.put2 hbw (by omega) (.bool false) (.slice none 0 0)) (by omega) (.bool false) (.slice none 0 0)) (by omega) (.bool ng7) (.slice ao7 n7 cap7)).drew⟩

set_option maxRecDepth 100000 in
set_option maxHeartbeats 1600000 in
theorem cross_b2 (va vb : Value) (a b : Rat) (w : World) (ha : RatV w va a) (hb : RatV w vb b) (hs : Hid (Rq.Sm (a.num * (b.den : Int)) ∧ ¬ Rq.Sm (b.num * (a.den : Int)))) (hE : Env w) :
    Calls Tryz.prog 79 #[va, vb] w fun e w' => SomeT w' 3 e ∧ Below w.heap.size w w' := by
  have HA : Hid (Rq.Sm (a.num * (b.den : Int))) := Lib.hid hs.out.1
  have HB : Hid (¬ Rq.Sm (b.num * (a.den : Int))) := Lib.hid hs.out.2
  have hE0 := hE
  have hbw := Below.refl w.heap.size w
  obtain ⟨ng1, ao1, n1, cap1, ng2, ao2, n2, cap2, rfl, h1, h2⟩ := ha
  have HV1 := Lib.hid h1
  have HV2 := Lib.hid h2
  clear h1 h2
  obtain ⟨ng3, ao3, n3, cap3, ng4, ao4, n4, cap4, rfl, h1, h2⟩ := hb
  have HV3 := Lib.hid h1
  have HV4 := Lib.hid h2
  clear h1 h2
  go_enter Tryz.func79, Tryz.ntmps79
  go_upto_region 1 with fail
  obtain ⟨wx, hwx, hszx, X1, X2, X3, X4, X8, hb⟩ := boxes_44222 w (.bool ng1) (.slice ao1 n1 cap1) (.bool ng2) (.slice ao2 n2 cap2) 29 (.bool ng3) (.slice ao3 n3 cap3) (.bool ng4) (.slice ao4 n4 cap4) 29 (.bool false) (.slice none 0 0) 24 (.bool false) (.slice none 0 0) 24 (.bool false) (.slice none 0 0) 24
  rw [← hwx]
  clear hwx
  obtain ⟨v1, rfl⟩ : ∃ v1 : World, v1 = wx := ⟨_, rfl⟩
  have HV1 := Lib.hid (HV1.out.mono hb)
  have HV2 := Lib.hid (HV2.out.mono hb)
  have HV3 := Lib.hid (HV3.out.mono hb)
  have HV4 := Lib.hid (HV4.out.mono hb)
  have hE := hE.mono hb
  have hbw := Below.step hbw hb (Nat.le_refl _)
  clear hb
  obtain ⟨cX1_0, cX1_1, cX1_2, cX1_3, _, _, _, _⟩ := id X1
  go_wp2_with fail
  (with_reducible refine (rValid_true _ a v1 (RatV.mk' HV1 HV2) hE).mono ?_)
  rintro e v2 ⟨rfl, hb⟩
  have HV1 := Lib.hid (HV1.out.mono hb)
  have HV2 := Lib.hid (HV2.out.mono hb)
  have HV3 := Lib.hid (HV3.out.mono hb)
  have HV4 := Lib.hid (HV4.out.mono hb)
  have X1 := X1.mono hb
  have X2 := X2.mono hb
  have X3 := X3.mono hb
  have X4 := X4.mono hb
  have X8 := X8.mono hb
  have hE := hE.mono hb
  have hbw := Below.step hbw hb (Nat.le_refl _)
  clear hb
  clear cX1_0 cX1_1 cX1_2 cX1_3
  obtain ⟨cX2_0, cX2_1, cX2_2, cX2_3, _, _, _, _⟩ := id X2
  go_wp2_with fail
  (with_reducible refine (rValid_true _ b v2 (RatV.mk' HV3 HV4) hE).mono ?_)
  rintro e v3 ⟨rfl, hb⟩
  have HV1 := Lib.hid (HV1.out.mono hb)
  have HV2 := Lib.hid (HV2.out.mono hb)
  have HV3 := Lib.hid (HV3.out.mono hb)
  have HV4 := Lib.hid (HV4.out.mono hb)
  have X1 := X1.mono hb
  have X2 := X2.mono hb
  have X3 := X3.mono hb
  have X4 := X4.mono hb
  have X8 := X8.mono hb
  have hE := hE.mono hb
  have hbw := Below.step hbw hb (Nat.le_refl _)
  clear hb
  clear cX2_0 cX2_1 cX2_2 cX2_3
  obtain ⟨cX1_0, cX1_1, cX1_2, cX1_3, _, _, _, _⟩ := id X1
  obtain ⟨cX2_0, cX2_1, cX2_2, cX2_3, _, _, _, _⟩ := id X2
  go_wp2_with fail
  (with_reducible refine (rMul_ok _ _ a.num (b.den : Int) v3 HV1.out HV4.out HA).mono ?_)
  rintro e v4 ⟨⟨ng5, ao5, n5, cap5, rfl, HV5⟩, hb⟩
  have HV1 := Lib.hid (HV1.out.mono hb)
  have HV2 := Lib.hid (HV2.out.mono hb)
  have HV3 := Lib.hid (HV3.out.mono hb)
  have HV4 := Lib.hid (HV4.out.mono hb)
  have X1 := X1.mono hb
  have X2 := X2.mono hb
  have X3 := X3.mono hb
  have X4 := X4.mono hb
  have X8 := X8.mono hb
  have hE := hE.mono hb
  have hbw := Below.step hbw hb (Nat.le_refl _)
  clear hb
  clear cX1_0 cX1_1 cX1_2 cX1_3 cX2_0 cX2_1 cX2_2 cX2_3
  go_upto_region 4 with fail
  have lX5X1 := X1.lt
  have lX5X2 := X2.lt
  have lX5X3 := X3.lt
  have lX5X4 := X4.lt
  have lX5X8 := X8.lt
  have X5 := Box.new v4 (.bool ng5) (.slice ao5 n5 cap5) 24
  have hb := below_alloc v4 (.cells #[.bool ng5, .slice ao5 n5 cap5] 24)
  generalize v4.alloc (.cells #[.bool ng5, .slice ao5 n5 cap5] 24) = v5 at *
  have HV1 := Lib.hid (HV1.out.mono hb)
  have HV2 := Lib.hid (HV2.out.mono hb)
  have HV3 := Lib.hid (HV3.out.mono hb)
  have HV4 := Lib.hid (HV4.out.mono hb)
  have X1 := X1.mono hb
  have X2 := X2.mono hb
  have X3 := X3.mono hb
  have X4 := X4.mono hb
  have X8 := X8.mono hb
  have HV5 := Lib.hid (HV5.out.mono hb)
  have hE := hE.mono hb
  have hbw := Below.step hbw hb (Nat.le_refl _)
  clear hb
  obtain ⟨cX1_0, cX1_1, cX1_2, cX1_3, _, _, _, _⟩ := id X1
  obtain ⟨cX2_0, cX2_1, cX2_2, cX2_3, _, _, _, _⟩ := id X2
  go_wp2_with fail
  (with_reducible refine (rMul_big _ _ b.num (a.den : Int) v5 HV3.out HV2.out HB).mono ?_)
  rintro e v6 ⟨rfl, hb⟩
  have HV1 := Lib.hid (HV1.out.mono hb)
  have HV2 := Lib.hid (HV2.out.mono hb)
  have HV3 := Lib.hid (HV3.out.mono hb)
  have HV4 := Lib.hid (HV4.out.mono hb)
  have X1 := X1.mono hb
  have X2 := X2.mono hb
  have X3 := X3.mono hb
  have X4 := X4.mono hb
  have X8 := X8.mono hb
  have HV5 := Lib.hid (HV5.out.mono hb)
  have X5 := X5.mono hb
  have hE := hE.mono hb
  have hbw := Below.step hbw hb (Nat.le_refl _)
  clear hb
  clear cX1_0 cX1_1 cX1_2 cX1_3 cX2_0 cX2_1 cX2_2 cX2_3
  go_upto_region 5 with fail
  have lX6X1 := X1.lt
  have lX6X2 := X2.lt
  have lX6X3 := X3.lt
  have lX6X4 := X4.lt
  have lX6X8 := X8.lt
  have lX6X5 := X5.lt
  have X6 := Box.new v6 (.bool false) (.slice none 0 0) 24
  have hb := below_alloc v6 (.cells #[.bool false, .slice none 0 0] 24)
  generalize v6.alloc (.cells #[.bool false, .slice none 0 0] 24) = v7 at *
  have HV1 := Lib.hid (HV1.out.mono hb)
  have HV2 := Lib.hid (HV2.out.mono hb)
  have HV3 := Lib.hid (HV3.out.mono hb)
  have HV4 := Lib.hid (HV4.out.mono hb)
  have X1 := X1.mono hb
  have X2 := X2.mono hb
  have X3 := X3.mono hb
  have X4 := X4.mono hb
  have X8 := X8.mono hb
  have HV5 := Lib.hid (HV5.out.mono hb)
  have X5 := X5.mono hb
  have hE := hE.mono hb
  have hbw := Below.step hbw hb (Nat.le_refl _)
  clear hb
  obtain ⟨cX1_0, cX1_1, cX1_2, cX1_3, _, _, _, _⟩ := id X1
  obtain ⟨cX2_0, cX2_1, cX2_2, cX2_3, _, _, _, _⟩ := id X2
  go_wp2_with fail
  (with_reducible refine (rMul_u _ _ (a.den : Int) (b.den : Int) v7 HV2.out HV4.out).mono ?_)
  rintro e v8 ⟨⟨ng7, ao7, n7, cap7, k7, z7, rfl, HV7⟩, hb⟩
  have HV1 := Lib.hid (HV1.out.mono hb)
  have HV2 := Lib.hid (HV2.out.mono hb)
  have HV3 := Lib.hid (HV3.out.mono hb)
  have HV4 := Lib.hid (HV4.out.mono hb)
  have X1 := X1.mono hb
  have X2 := X2.mono hb
  have X3 := X3.mono hb
  have X4 := X4.mono hb
  have X8 := X8.mono hb
  have HV5 := Lib.hid (HV5.out.mono hb)
  have X5 := X5.mono hb
  have X6 := X6.mono hb
  have hE := hE.mono hb
  have hbw := Below.step hbw hb (Nat.le_refl _)
  clear hb
  clear cX1_0 cX1_1 cX1_2 cX1_3 cX2_0 cX2_1 cX2_2 cX2_3
  go_upto_region 6 with fail
  have lX7X1 := X1.lt
  have lX7X2 := X2.lt
  have lX7X3 := X3.lt
  have lX7X4 := X4.lt
  have lX7X8 := X8.lt
  have lX7X5 := X5.lt
  have lX7X6 := X6.lt
  have X7 := Box.new v8 (.bool ng7) (.slice ao7 n7 cap7) 24
  have hb := below_alloc v8 (.cells #[.bool ng7, .slice ao7 n7 cap7] 24)
  generalize v8.alloc (.cells #[.bool ng7, .slice ao7 n7 cap7] 24) = v9 at *
  have HV1 := Lib.hid (HV1.out.mono hb)
  have HV2 := Lib.hid (HV2.out.mono hb)
  have HV3 := Lib.hid (HV3.out.mono hb)
  have HV4 := Lib.hid (HV4.out.mono hb)
  have X1 := X1.mono hb
  have X2 := X2.mono hb
  have X3 := X3.mono hb
  have X4 := X4.mono hb
  have X8 := X8.mono hb
  have HV5 := Lib.hid (HV5.out.mono hb)
  have X5 := X5.mono hb
  have X6 := X6.mono hb
  have HV7 := Lib.hid (HV7.out.mono hb)
  have hE := hE.mono hb
  have hbw := Below.step hbw hb (Nat.le_refl _)
  clear hb
  go_upto_region 7 with fail
  obtain ⟨wy, rfl⟩ : ∃ wy : World, wy = v9 := ⟨_, rfl⟩
  obtain ⟨cX5_0, cX5_1, _, _⟩ := id X5
  obtain ⟨cX6_0, cX6_1, _, _⟩ := id X6
  obtain ⟨cX7_0, cX7_1, _, _⟩ := id X7
  obtain ⟨cX3_0, cX3_1, _, _⟩ := id X3
  obtain ⟨cX4_0, cX4_1, _, _⟩ := id X4
  obtain ⟨cX8_0, cX8_1, _, _⟩ := id X8
  go_region_with fail
  all_goals
    go_wp2
    exact bodyPost_ret (v := .tuple #[.agg #[.bool false, .slice none 0 0], .agg #[.bool false, .slice none 0 0], .agg #[.bool ng7, .slice ao7 n7 cap7], .int .i64 3]) (by simp [results, Tryz.results79, go_sem, cX3_0, cX3_1, cX4_0, cX4_1, cX8_0, cX8_1]) rfl ⟨⟨z7, ⟨false, none, 0, 0, false, none, 0, 0, ng7, ao7, n7, cap7, rfl, Lib.hid (((((IntV.zero wy).put2B X3 (.bool false) (.slice none 0 0)).put2B (X4.other2 (by omega)) (.bool false) (.slice none 0 0)).put2B ((X8.other2 (by omega)).other2 (by omega)) (.bool ng7) (.slice ao7 n7 cap7)).mono (Below.drew (Below.refl _ _))), Lib.hid (((((IntV.zero wy).put2B X3 (.bool false) (.slice none 0 0)).put2B (X4.other2 (by omega)) (.bool false) (.slice none 0 0)).put2B ((X8.other2 (by omega)).other2 (by omega)) (.bool ng7) (.slice ao7 n7 cap7)).mono (Below.drew (Below.refl _ _))), Lib.hid ((((HV7.out.put2B X3 (.bool false) (.slice none 0 0)).put2B (X4.other2 (by omega)) (.bool false) (.slice none 0 0)).put2B ((X8.other2 (by omega)).other2 (by omega)) (.bool ng7) (.slice ao7 n7 cap7)).mono (Below.drew (Below.refl _ _)))⟩⟩, (Below.put2 (Below.put2 (Below.put2 hbw (by omega) (.bool false) (.slice none 0 0)) (by omega) (.bool false) (.slice none 0 0)) (by omega) (.bool ng7) (.slice ao7 n7 cap7)).drew⟩

set_option maxRecDepth 100000 in
set_option maxHeartbeats 1600000 in
theorem cross_z (va vb : Value) (a b : Rat) (w : World) (ha : RatV w va a) (hb : RatV w vb b) (hs : Hid ((Rq.Sm (a.num * (b.den : Int)) ∧ Rq.Sm (b.num * (a.den : Int))) ∧ ¬ Rq.Sm ((a.den : Int) * (b.den : Int)))) (hE : Env w) :
    Calls Tryz.prog 79 #[va, vb] w fun e w' => GotT w' (a.num * b.den) (b.num * a.den) 0 0 e ∧ Below w.heap.size w w' := by
  have HA : Hid (Rq.Sm (a.num * (b.den : Int))) := Lib.hid hs.out.1.1
  have HB : Hid (Rq.Sm (b.num * (a.den : Int))) := Lib.hid hs.out.1.2
  have HC : Hid (¬ Rq.Sm ((a.den : Int) * (b.den : Int))) := Lib.hid hs.out.2
  have hE0 := hE
  have hbw := Below.refl w.heap.size w
  obtain ⟨ng1, ao1, n1, cap1, ng2, ao2, n2, cap2, rfl, h1, h2⟩ := ha
  have HV1 := Lib.hid h1
  have HV2 := Lib.hid h2
  clear h1 h2
  obtain ⟨ng3, ao3, n3, cap3, ng4, ao4, n4, cap4, rfl, h1, h2⟩ := hb
  have HV3 := Lib.hid h1
  have HV4 := Lib.hid h2
  clear h1 h2
  go_enter Tryz.func79, Tryz.ntmps79
  go_upto_region 1 with fail
  obtain ⟨wx, hwx, hszx, X1, X2, X3, X4, X8, hb⟩ := boxes_44222 w (.bool ng1) (.slice ao1 n1 cap1) (.bool ng2) (.slice ao2 n2 cap2) 29 (.bool ng3) (.slice ao3 n3 cap3) (.bool ng4) (.slice ao4 n4 cap4) 29 (.bool false) (.slice none 0 0) 24 (.bool false) (.slice none 0 0) 24 (.bool false) (.slice none 0 0) 24
  rw [← hwx]
  clear hwx
  obtain ⟨v1, rfl⟩ : ∃ v1 : World, v1 = wx := ⟨_, rfl⟩
  have HV1 := Lib.hid (HV1.out.mono hb)
  have HV2 := Lib.hid (HV2.out.mono hb)
  have HV3 := Lib.hid (HV3.out.mono hb)
  have HV4 := Lib.hid (HV4.out.mono hb)
  have hE := hE.mono hb
  have hbw := Below.step hbw hb (Nat.le_refl _)
  clear hb
  obtain ⟨cX1_0, cX1_1, cX1_2, cX1_3, _, _, _, _⟩ := id X1
  go_wp2_with fail
  (with_reducible refine (rValid_true _ a v1 (RatV.mk' HV1 HV2) hE).mono ?_)
  rintro e v2 ⟨rfl, hb⟩
  have HV1 := Lib.hid (HV1.out.mono hb)
  have HV2 := Lib.hid (HV2.out.mono hb)
  have HV3 := Lib.hid (HV3.out.mono hb)
  have HV4 := Lib.hid (HV4.out.mono hb)
  have X1 := X1.mono hb
  have X2 := X2.mono hb
  have X3 := X3.mono hb
  have X4 := X4.mono hb
  have X8 := X8.mono hb
  have hE := hE.mono hb
  have hbw := Below.step hbw hb (Nat.le_refl _)
  clear hb
  clear cX1_0 cX1_1 cX1_2 cX1_3
  obtain ⟨cX2_0, cX2_1, cX2_2, cX2_3, _, _, _, _⟩ := id X2
  go_wp2_with fail
  (with_reducible refine (rValid_true _ b v2 (RatV.mk' HV3 HV4) hE).mono ?_)
  rintro e v3 ⟨rfl, hb⟩
  have HV1 := Lib.hid (HV1.out.mono hb)
  have HV2 := Lib.hid (HV2.out.mono hb)
  have HV3 := Lib.hid (HV3.out.mono hb)
  have HV4 := Lib.hid (HV4.out.mono hb)
  have X1 := X1.mono hb
  have X2 := X2.mono hb
  have X3 := X3.mono hb
  have X4 := X4.mono hb
  have X8 := X8.mono hb
  have hE := hE.mono hb
  have hbw := Below.step hbw hb (Nat.le_refl _)
  clear hb
  clear cX2_0 cX2_1 cX2_2 cX2_3
  obtain ⟨cX1_0, cX1_1, cX1_2, cX1_3, _, _, _, _⟩ := id X1
  obtain ⟨cX2_0, cX2_1, cX2_2, cX2_3, _, _, _, _⟩ := id X2
  go_wp2_with fail
  (with_reducible refine (rMul_ok _ _ a.num (b.den : Int) v3 HV1.out HV4.out HA).mono ?_)
  rintro e v4 ⟨⟨ng5, ao5, n5, cap5, rfl, HV5⟩, hb⟩
  have HV1 := Lib.hid (HV1.out.mono hb)
  have HV2 := Lib.hid (HV2.out.mono hb)
  have HV3 := Lib.hid (HV3.out.mono hb)
  have HV4 := Lib.hid (HV4.out.mono hb)
  have X1 := X1.mono hb
  have X2 := X2.mono hb
  have X3 := X3.mono hb
  have X4 := X4.mono hb
  have X8 := X8.mono hb
  have hE := hE.mono hb
  have hbw := Below.step hbw hb (Nat.le_refl _)
  clear hb
  clear cX1_0 cX1_1 cX1_2 cX1_3 cX2_0 cX2_1 cX2_2 cX2_3
  go_upto_region 4 with fail
  have lX5X1 := X1.lt
  have lX5X2 := X2.lt
  have lX5X3 := X3.lt
  have lX5X4 := X4.lt
  have lX5X8 := X8.lt
  have X5 := Box.new v4 (.bool ng5) (.slice ao5 n5 cap5) 24
  have hb := below_alloc v4 (.cells #[.bool ng5, .slice ao5 n5 cap5] 24)
  generalize v4.alloc (.cells #[.bool ng5, .slice ao5 n5 cap5] 24) = v5 at *
  have HV1 := Lib.hid (HV1.out.mono hb)
  have HV2 := Lib.hid (HV2.out.mono hb)
  have HV3 := Lib.hid (HV3.out.mono hb)
  have HV4 := Lib.hid (HV4.out.mono hb)
  have X1 := X1.mono hb
  have X2 := X2.mono hb
  have X3 := X3.mono hb
  have X4 := X4.mono hb
  have X8 := X8.mono hb
  have HV5 := Lib.hid (HV5.out.mono hb)
  have hE := hE.mono hb
  have hbw := Below.step hbw hb (Nat.le_refl _)
  clear hb
  obtain ⟨cX1_0, cX1_1, cX1_2, cX1_3, _, _, _, _⟩ := id X1
  obtain ⟨cX2_0, cX2_1, cX2_2, cX2_3, _, _, _, _⟩ := id X2
  go_wp2_with fail
  (with_reducible refine (rMul_ok _ _ b.num (a.den : Int) v5 HV3.out HV2.out HB).mono ?_)
  rintro e v6 ⟨⟨ng6, ao6, n6, cap6, rfl, HV6⟩, hb⟩
  have HV1 := Lib.hid (HV1.out.mono hb)
  have HV2 := Lib.hid (HV2.out.mono hb)
  have HV3 := Lib.hid (HV3.out.mono hb)
  have HV4 := Lib.hid (HV4.out.mono hb)
  have X1 := X1.mono hb
  have X2 := X2.mono hb
  have X3 := X3.mono hb
  have X4 := X4.mono hb
  have X8 := X8.mono hb
  have HV5 := Lib.hid (HV5.out.mono hb)
  have X5 := X5.mono hb
  have hE := hE.mono hb
  have hbw := Below.step hbw hb (Nat.le_refl _)
  clear hb
  clear cX1_0 cX1_1 cX1_2 cX1_3 cX2_0 cX2_1 cX2_2 cX2_3
  go_upto_region 5 with fail
  have lX6X1 := X1.lt
  have lX6X2 := X2.lt
  have lX6X3 := X3.lt
  have lX6X4 := X4.lt
  have lX6X8 := X8.lt
  have lX6X5 := X5.lt
  have X6 := Box.new v6 (.bool ng6) (.slice ao6 n6 cap6) 24
  have hb := below_alloc v6 (.cells #[.bool ng6, .slice ao6 n6 cap6] 24)
  generalize v6.alloc (.cells #[.bool ng6, .slice ao6 n6 cap6] 24) = v7 at *
  have HV1 := Lib.hid (HV1.out.mono hb)
  have HV2 := Lib.hid (HV2.out.mono hb)
  have HV3 := Lib.hid (HV3.out.mono hb)
  have HV4 := Lib.hid (HV4.out.mono hb)
  have X1 := X1.mono hb
  have X2 := X2.mono hb
  have X3 := X3.mono hb
  have X4 := X4.mono hb
  have X8 := X8.mono hb
  have HV5 := Lib.hid (HV5.out.mono hb)
  have X5 := X5.mono hb
  have HV6 := Lib.hid (HV6.out.mono hb)
  have hE := hE.mono hb
  have hbw := Below.step hbw hb (Nat.le_refl _)
  clear hb
  obtain ⟨cX1_0, cX1_1, cX1_2, cX1_3, _, _, _, _⟩ := id X1
  obtain ⟨cX2_0, cX2_1, cX2_2, cX2_3, _, _, _, _⟩ := id X2
  go_wp2_with fail
  (with_reducible refine (rMul_big _ _ (a.den : Int) (b.den : Int) v7 HV2.out HV4.out HC).mono ?_)
  rintro e v8 ⟨rfl, hb⟩
  have HV1 := Lib.hid (HV1.out.mono hb)
  have HV2 := Lib.hid (HV2.out.mono hb)
  have HV3 := Lib.hid (HV3.out.mono hb)
  have HV4 := Lib.hid (HV4.out.mono hb)
  have X1 := X1.mono hb
  have X2 := X2.mono hb
  have X3 := X3.mono hb
  have X4 := X4.mono hb
  have X8 := X8.mono hb
  have HV5 := Lib.hid (HV5.out.mono hb)
  have X5 := X5.mono hb
  have HV6 := Lib.hid (HV6.out.mono hb)
  have X6 := X6.mono hb
  have hE := hE.mono hb
  have hbw := Below.step hbw hb (Nat.le_refl _)
  clear hb
  clear cX1_0 cX1_1 cX1_2 cX1_3 cX2_0 cX2_1 cX2_2 cX2_3
  go_upto_region 6 with fail
  have lX7X1 := X1.lt
  have lX7X2 := X2.lt
  have lX7X3 := X3.lt
  have lX7X4 := X4.lt
  have lX7X8 := X8.lt
  have lX7X5 := X5.lt
  have lX7X6 := X6.lt
  have X7 := Box.new v8 (.bool false) (.slice none 0 0) 24
  have hb := below_alloc v8 (.cells #[.bool false, .slice none 0 0] 24)
  generalize v8.alloc (.cells #[.bool false, .slice none 0 0] 24) = v9 at *
  have HV1 := Lib.hid (HV1.out.mono hb)
  have HV2 := Lib.hid (HV2.out.mono hb)
  have HV3 := Lib.hid (HV3.out.mono hb)
  have HV4 := Lib.hid (HV4.out.mono hb)
  have X1 := X1.mono hb
  have X2 := X2.mono hb
  have X3 := X3.mono hb
  have X4 := X4.mono hb
  have X8 := X8.mono hb
  have HV5 := Lib.hid (HV5.out.mono hb)
  have X5 := X5.mono hb
  have HV6 := Lib.hid (HV6.out.mono hb)
  have X6 := X6.mono hb
  have hE := hE.mono hb
  have hbw := Below.step hbw hb (Nat.le_refl _)
  clear hb
  go_upto_region 9 with fail
  obtain ⟨wy, rfl⟩ : ∃ wy : World, wy = v9 := ⟨_, rfl⟩
  obtain ⟨cX5_0, cX5_1, _, _⟩ := id X5
  obtain ⟨cX6_0, cX6_1, _, _⟩ := id X6
  obtain ⟨cX7_0, cX7_1, _, _⟩ := id X7
  obtain ⟨cX3_0, cX3_1, _, _⟩ := id X3
  obtain ⟨cX4_0, cX4_1, _, _⟩ := id X4
  obtain ⟨cX8_0, cX8_1, _, _⟩ := id X8
  go_region_with fail
  all_goals
    go_wp2
    exact bodyPost_ret (v := .tuple #[.agg #[.bool ng5, .slice ao5 n5 cap5], .agg #[.bool ng6, .slice ao6 n6 cap6], .agg #[.bool false, .slice none 0 0], .int .i64 0]) (by simp [results, Tryz.results79, go_sem, cX3_0, cX3_1, cX4_0, cX4_1, cX8_0, cX8_1]) rfl ⟨⟨ng5, ao5, n5, cap5, ng6, ao6, n6, cap6, false, none, 0, 0, rfl, Lib.hid ((((HV5.out.put2B X3 (.bool ng5) (.slice ao5 n5 cap5)).put2B (X4.other2 (by omega)) (.bool ng6) (.slice ao6 n6 cap6)).put2B ((X8.other2 (by omega)).other2 (by omega)) (.bool false) (.slice none 0 0)).mono (Below.drew (Below.refl _ _))), Lib.hid ((((HV6.out.put2B X3 (.bool ng5) (.slice ao5 n5 cap5)).put2B (X4.other2 (by omega)) (.bool ng6) (.slice ao6 n6 cap6)).put2B ((X8.other2 (by omega)).other2 (by omega)) (.bool false) (.slice none 0 0)).mono (Below.drew (Below.refl _ _))), Lib.hid (((((IntV.zero wy).put2B X3 (.bool ng5) (.slice ao5 n5 cap5)).put2B (X4.other2 (by omega)) (.bool ng6) (.slice ao6 n6 cap6)).put2B ((X8.other2 (by omega)).other2 (by omega)) (.bool false) (.slice none 0 0)).mono (Below.drew (Below.refl _ _)))⟩, (Below.put2 (Below.put2 (Below.put2 hbw (by omega) (.bool ng5) (.slice ao5 n5 cap5)) (by omega) (.bool ng6) (.slice ao6 n6 cap6)) (by omega) (.bool false) (.slice none 0 0)).drew⟩

set_option maxRecDepth 100000 in
set_option maxHeartbeats 1600000 in
theorem cross_ok (va vb : Value) (a b : Rat) (w : World) (ha : RatV w va a) (hb : RatV w vb b) (hs : Hid ((Rq.Sm (a.num * (b.den : Int)) ∧ Rq.Sm (b.num * (a.den : Int))) ∧ Rq.Sm ((a.den : Int) * (b.den : Int)))) (hE : Env w) :
    Calls Tryz.prog 79 #[va, vb] w fun e w' => GotT w' (a.num * b.den) (b.num * a.den) ((a.den : Int) * b.den) 0 e ∧ Below w.heap.size w w' := by
  have HA : Hid (Rq.Sm (a.num * (b.den : Int))) := Lib.hid hs.out.1.1
  have HB : Hid (Rq.Sm (b.num * (a.den : Int))) := Lib.hid hs.out.1.2
  have HC : Hid (Rq.Sm ((a.den : Int) * (b.den : Int))) := Lib.hid hs.out.2
  have hE0 := hE
  have hbw := Below.refl w.heap.size w
  obtain ⟨ng1, ao1, n1, cap1, ng2, ao2, n2, cap2, rfl, h1, h2⟩ := ha
  have HV1 := Lib.hid h1
  have HV2 := Lib.hid h2
  clear h1 h2
  obtain ⟨ng3, ao3, n3, cap3, ng4, ao4, n4, cap4, rfl, h1, h2⟩ := hb
  have HV3 := Lib.hid h1
  have HV4 := Lib.hid h2
  clear h1 h2
  go_enter Tryz.func79, Tryz.ntmps79
  go_upto_region 1 with fail
  obtain ⟨wx, hwx, hszx, X1, X2, X3, X4, X8, hb⟩ := boxes_44222 w (.bool ng1) (.slice ao1 n1 cap1) (.bool ng2) (.slice ao2 n2 cap2) 29 (.bool ng3) (.slice ao3 n3 cap3) (.bool ng4) (.slice ao4 n4 cap4) 29 (.bool false) (.slice none 0 0) 24 (.bool false) (.slice none 0 0) 24 (.bool false) (.slice none 0 0) 24
  rw [← hwx]
  clear hwx
  obtain ⟨v1, rfl⟩ : ∃ v1 : World, v1 = wx := ⟨_, rfl⟩
  have HV1 := Lib.hid (HV1.out.mono hb)
  have HV2 := Lib.hid (HV2.out.mono hb)
  have HV3 := Lib.hid (HV3.out.mono hb)
  have HV4 := Lib.hid (HV4.out.mono hb)
  have hE := hE.mono hb
  have hbw := Below.step hbw hb (Nat.le_refl _)
  clear hb
  obtain ⟨cX1_0, cX1_1, cX1_2, cX1_3, _, _, _, _⟩ := id X1
  go_wp2_with fail
  (with_reducible refine (rValid_true _ a v1 (RatV.mk' HV1 HV2) hE).mono ?_)
  rintro e v2 ⟨rfl, hb⟩
  have HV1 := Lib.hid (HV1.out.mono hb)
  have HV2 := Lib.hid (HV2.out.mono hb)
  have HV3 := Lib.hid (HV3.out.mono hb)
  have HV4 := Lib.hid (HV4.out.mono hb)
  have X1 := X1.mono hb
  have X2 := X2.mono hb
  have X3 := X3.mono hb
  have X4 := X4.mono hb
  have X8 := X8.mono hb
  have hE := hE.mono hb
  have hbw := Below.step hbw hb (Nat.le_refl _)
  clear hb
  clear cX1_0 cX1_1 cX1_2 cX1_3
  obtain ⟨cX2_0, cX2_1, cX2_2, cX2_3, _, _, _, _⟩ := id X2
  go_wp2_with fail
  (with_reducible refine (rValid_true _ b v2 (RatV.mk' HV3 HV4) hE).mono ?_)
  rintro e v3 ⟨rfl, hb⟩
  have HV1 := Lib.hid (HV1.out.mono hb)
  have HV2 := Lib.hid (HV2.out.mono hb)
  have HV3 := Lib.hid (HV3.out.mono hb)
  have HV4 := Lib.hid (HV4.out.mono hb)
  have X1 := X1.mono hb
  have X2 := X2.mono hb
  have X3 := X3.mono hb
  have X4 := X4.mono hb
  have X8 := X8.mono hb
  have hE := hE.mono hb
  have hbw := Below.step hbw hb (Nat.le_refl _)
  clear hb
  clear cX2_0 cX2_1 cX2_2 cX2_3
  obtain ⟨cX1_0, cX1_1, cX1_2, cX1_3, _, _, _, _⟩ := id X1
  obtain ⟨cX2_0, cX2_1, cX2_2, cX2_3, _, _, _, _⟩ := id X2
  go_wp2_with fail
  (with_reducible refine (rMul_ok _ _ a.num (b.den : Int) v3 HV1.out HV4.out HA).mono ?_)
  rintro e v4 ⟨⟨ng5, ao5, n5, cap5, rfl, HV5⟩, hb⟩
  have HV1 := Lib.hid (HV1.out.mono hb)
  have HV2 := Lib.hid (HV2.out.mono hb)
  have HV3 := Lib.hid (HV3.out.mono hb)
  have HV4 := Lib.hid (HV4.out.mono hb)
  have X1 := X1.mono hb
  have X2 := X2.mono hb
  have X3 := X3.mono hb
  have X4 := X4.mono hb
  have X8 := X8.mono hb
  have hE := hE.mono hb
  have hbw := Below.step hbw hb (Nat.le_refl _)
  clear hb
  clear cX1_0 cX1_1 cX1_2 cX1_3 cX2_0 cX2_1 cX2_2 cX2_3
  go_upto_region 4 with fail
  have lX5X1 := X1.lt
  have lX5X2 := X2.lt
  have lX5X3 := X3.lt
  have lX5X4 := X4.lt
  have lX5X8 := X8.lt
  have X5 := Box.new v4 (.bool ng5) (.slice ao5 n5 cap5) 24
  have hb := below_alloc v4 (.cells #[.bool ng5, .slice ao5 n5 cap5] 24)
  generalize v4.alloc (.cells #[.bool ng5, .slice ao5 n5 cap5] 24) = v5 at *
  have HV1 := Lib.hid (HV1.out.mono hb)
  have HV2 := Lib.hid (HV2.out.mono hb)
  have HV3 := Lib.hid (HV3.out.mono hb)
  have HV4 := Lib.hid (HV4.out.mono hb)
  have X1 := X1.mono hb
  have X2 := X2.mono hb
  have X3 := X3.mono hb
  have X4 := X4.mono hb
  have X8 := X8.mono hb
  have HV5 := Lib.hid (HV5.out.mono hb)
  have hE := hE.mono hb
  have hbw := Below.step hbw hb (Nat.le_refl _)
  clear hb
  obtain ⟨cX1_0, cX1_1, cX1_2, cX1_3, _, _, _, _⟩ := id X1
  obtain ⟨cX2_0, cX2_1, cX2_2, cX2_3, _, _, _, _⟩ := id X2
  go_wp2_with fail
  (with_reducible refine (rMul_ok _ _ b.num (a.den : Int) v5 HV3.out HV2.out HB).mono ?_)
  rintro e v6 ⟨⟨ng6, ao6, n6, cap6, rfl, HV6⟩, hb⟩
  have HV1 := Lib.hid (HV1.out.mono hb)
  have HV2 := Lib.hid (HV2.out.mono hb)
  have HV3 := Lib.hid (HV3.out.mono hb)
  have HV4 := Lib.hid (HV4.out.mono hb)
  have X1 := X1.mono hb
  have X2 := X2.mono hb
  have X3 := X3.mono hb
  have X4 := X4.mono hb
  have X8 := X8.mono hb
  have HV5 := Lib.hid (HV5.out.mono hb)
  have X5 := X5.mono hb
  have hE := hE.mono hb
  have hbw := Below.step hbw hb (Nat.le_refl _)
  clear hb
  clear cX1_0 cX1_1 cX1_2 cX1_3 cX2_0 cX2_1 cX2_2 cX2_3
  go_upto_region 5 with fail
  have lX6X1 := X1.lt
  have lX6X2 := X2.lt
  have lX6X3 := X3.lt
  have lX6X4 := X4.lt
  have lX6X8 := X8.lt
  have lX6X5 := X5.lt
  have X6 := Box.new v6 (.bool ng6) (.slice ao6 n6 cap6) 24
  have hb := below_alloc v6 (.cells #[.bool ng6, .slice ao6 n6 cap6] 24)
  generalize v6.alloc (.cells #[.bool ng6, .slice ao6 n6 cap6] 24) = v7 at *
  have HV1 := Lib.hid (HV1.out.mono hb)
  have HV2 := Lib.hid (HV2.out.mono hb)
  have HV3 := Lib.hid (HV3.out.mono hb)
  have HV4 := Lib.hid (HV4.out.mono hb)
  have X1 := X1.mono hb
  have X2 := X2.mono hb
  have X3 := X3.mono hb
  have X4 := X4.mono hb
  have X8 := X8.mono hb
  have HV5 := Lib.hid (HV5.out.mono hb)
  have X5 := X5.mono hb
  have HV6 := Lib.hid (HV6.out.mono hb)
  have hE := hE.mono hb
  have hbw := Below.step hbw hb (Nat.le_refl _)
  clear hb
  obtain ⟨cX1_0, cX1_1, cX1_2, cX1_3, _, _, _, _⟩ := id X1
  obtain ⟨cX2_0, cX2_1, cX2_2, cX2_3, _, _, _, _⟩ := id X2
  go_wp2_with fail
  (with_reducible refine (rMul_ok _ _ (a.den : Int) (b.den : Int) v7 HV2.out HV4.out HC).mono ?_)
  rintro e v8 ⟨⟨ng7, ao7, n7, cap7, rfl, HV7⟩, hb⟩
  have HV1 := Lib.hid (HV1.out.mono hb)
  have HV2 := Lib.hid (HV2.out.mono hb)
  have HV3 := Lib.hid (HV3.out.mono hb)
  have HV4 := Lib.hid (HV4.out.mono hb)
  have X1 := X1.mono hb
  have X2 := X2.mono hb
  have X3 := X3.mono hb
  have X4 := X4.mono hb
  have X8 := X8.mono hb
  have HV5 := Lib.hid (HV5.out.mono hb)
  have X5 := X5.mono hb
  have HV6 := Lib.hid (HV6.out.mono hb)
  have X6 := X6.mono hb
  have hE := hE.mono hb
  have hbw := Below.step hbw hb (Nat.le_refl _)
  clear hb
  clear cX1_0 cX1_1 cX1_2 cX1_3 cX2_0 cX2_1 cX2_2 cX2_3
  go_upto_region 6 with fail
  have lX7X1 := X1.lt
  have lX7X2 := X2.lt
  have lX7X3 := X3.lt
  have lX7X4 := X4.lt
  have lX7X8 := X8.lt
  have lX7X5 := X5.lt
  have lX7X6 := X6.lt
  have X7 := Box.new v8 (.bool ng7) (.slice ao7 n7 cap7) 24
  have hb := below_alloc v8 (.cells #[.bool ng7, .slice ao7 n7 cap7] 24)
  generalize v8.alloc (.cells #[.bool ng7, .slice ao7 n7 cap7] 24) = v9 at *
  have HV1 := Lib.hid (HV1.out.mono hb)
  have HV2 := Lib.hid (HV2.out.mono hb)
  have HV3 := Lib.hid (HV3.out.mono hb)
  have HV4 := Lib.hid (HV4.out.mono hb)
  have X1 := X1.mono hb
  have X2 := X2.mono hb
  have X3 := X3.mono hb
  have X4 := X4.mono hb
  have X8 := X8.mono hb
  have HV5 := Lib.hid (HV5.out.mono hb)
  have X5 := X5.mono hb
  have HV6 := Lib.hid (HV6.out.mono hb)
  have X6 := X6.mono hb
  have HV7 := Lib.hid (HV7.out.mono hb)
  have hE := hE.mono hb
  have hbw := Below.step hbw hb (Nat.le_refl _)
  clear hb
  go_upto_region 10 with fail
  obtain ⟨wy, rfl⟩ : ∃ wy : World, wy = v9 := ⟨_, rfl⟩
  obtain ⟨cX5_0, cX5_1, _, _⟩ := id X5
  obtain ⟨cX6_0, cX6_1, _, _⟩ := id X6
  obtain ⟨cX7_0, cX7_1, _, _⟩ := id X7
  obtain ⟨cX3_0, cX3_1, _, _⟩ := id X3
  obtain ⟨cX4_0, cX4_1, _, _⟩ := id X4
  obtain ⟨cX8_0, cX8_1, _, _⟩ := id X8
  go_region_with fail
  all_goals
    go_wp2
    exact bodyPost_ret (v := .tuple #[.agg #[.bool ng5, .slice ao5 n5 cap5], .agg #[.bool ng6, .slice ao6 n6 cap6], .agg #[.bool ng7, .slice ao7 n7 cap7], .int .i64 0]) (by simp [results, Tryz.results79, go_sem, cX3_0, cX3_1, cX4_0, cX4_1, cX8_0, cX8_1]) rfl ⟨⟨ng5, ao5, n5, cap5, ng6, ao6, n6, cap6, ng7, ao7, n7, cap7, rfl, Lib.hid ((((HV5.out.put2B X3 (.bool ng5) (.slice ao5 n5 cap5)).put2B (X4.other2 (by omega)) (.bool ng6) (.slice ao6 n6 cap6)).put2B ((X8.other2 (by omega)).other2 (by omega)) (.bool ng7) (.slice ao7 n7 cap7)).mono (Below.drew (Below.refl _ _))), Lib.hid ((((HV6.out.put2B X3 (.bool ng5) (.slice ao5 n5 cap5)).put2B (X4.other2 (by omega)) (.bool ng6) (.slice ao6 n6 cap6)).put2B ((X8.other2 (by omega)).other2 (by omega)) (.bool ng7) (.slice ao7 n7 cap7)).mono (Below.drew (Below.refl _ _))), Lib.hid ((((HV7.out.put2B X3 (.bool ng5) (.slice ao5 n5 cap5)).put2B (X4.other2 (by omega)) (.bool ng6) (.slice ao6 n6 cap6)).put2B ((X8.other2 (by omega)).other2 (by omega)) (.bool ng7) (.slice ao7 n7 cap7)).mono (Below.drew (Below.refl _ _)))⟩, (Below.put2 (Below.put2 (Below.put2 hbw (by omega) (.bool ng5) (.slice ao5 n5 cap5)) (by omega) (.bool ng6) (.slice ao6 n6 cap6)) (by omega) (.bool ng7) (.slice ao7 n7 cap7)).drew⟩

theorem cross_big (va vb : Value) (a b : Rat) (w : World) (ha : RatV w va a) (hb : RatV w vb b) (hs : Hid (¬ CrS a b)) (hE : Env w) :
    Calls Tryz.prog 79 #[va, vb] w fun e w' => SomeT w' 3 e ∧ Below w.heap.size w w' := by
  by_cases h1 : Rq.Sm (a.num * (b.den : Int))
  · exact cross_b2 va vb a b w ha hb (Lib.hid ⟨h1, fun h => hs.out ⟨h1, h⟩⟩) hE
  · exact cross_b1 va vb a b w ha hb (Lib.hid h1) hE

/-- the third number is the product of the denominators, or 0 -/
theorem cross_any (va vb : Value) (a b : Rat) (w : World) (ha : RatV w va a) (hb : RatV w vb b) (hs : Hid (CrS a b)) (hE : Env w) :
    Calls Tryz.prog 79 #[va, vb] w fun e w' => (∃ z, GotT w' (a.num * b.den) (b.num * a.den) z 0 e) ∧ Below w.heap.size w w' := by
  by_cases h1 : Rq.Sm ((a.den : Int) * (b.den : Int))
  · exact (cross_ok va vb a b w ha hb (Lib.hid ⟨hs.out, h1⟩) hE).mono fun _ _ ⟨h, hb⟩ => ⟨⟨_, h⟩, hb⟩
  · exact (cross_z va vb a b w ha hb (Lib.hid ⟨hs.out, h1⟩) hE).mono fun _ _ ⟨h, hb⟩ => ⟨⟨_, h⟩, hb⟩

set_option maxRecDepth 100000 in
set_option maxHeartbeats 1600000 in
theorem rCmp_q (va vb : Value) (a b : Rat) (w : World) (ha : RatV w va a) (hb : RatV w vb b) (hs : Hid (CrS a b)) (hE : Env w) :
    Calls Tryz.prog 39 #[va, vb] w fun e w' => e = .returned (.tuple #[.int .i64 (Rq.cmpQ a b), .int .i64 0]) ∧ Below w.heap.size w w' := by
  have hE0 := hE
  have hbw := Below.refl w.heap.size w
  obtain ⟨ng1, ao1, n1, cap1, ng2, ao2, n2, cap2, rfl, h1, h2⟩ := ha
  have HV1 := Lib.hid h1
  have HV2 := Lib.hid h2
  clear h1 h2
  obtain ⟨ng3, ao3, n3, cap3, ng4, ao4, n4, cap4, rfl, h1, h2⟩ := hb
  have HV3 := Lib.hid h1
  have HV4 := Lib.hid h2
  clear h1 h2
  go_enter Tryz.func39, Tryz.ntmps39
  go_upto_region 1 with fail
  obtain ⟨wx, hwx, hszx, X1, X2, hb⟩ := boxes_44 w (.bool ng1) (.slice ao1 n1 cap1) (.bool ng2) (.slice ao2 n2 cap2) 29 (.bool ng3) (.slice ao3 n3 cap3) (.bool ng4) (.slice ao4 n4 cap4) 29
  rw [← hwx]
  clear hwx
  obtain ⟨v1, rfl⟩ : ∃ v1 : World, v1 = wx := ⟨_, rfl⟩
  have HV1 := Lib.hid (HV1.out.mono hb)
  have HV2 := Lib.hid (HV2.out.mono hb)
  have HV3 := Lib.hid (HV3.out.mono hb)
  have HV4 := Lib.hid (HV4.out.mono hb)
  have hE := hE.mono hb
  have hbw := Below.step hbw hb (Nat.le_refl _)
  clear hb
  obtain ⟨cX1_0, cX1_1, cX1_2, cX1_3, _, _, _, _⟩ := id X1
  obtain ⟨cX2_0, cX2_1, cX2_2, cX2_3, _, _, _, _⟩ := id X2
  go_wp2_with fail
  (with_reducible refine (cross_any _ _ a b v1 (RatV.mk' HV1 HV2) (RatV.mk' HV3 HV4) hs hE).mono ?_)
  rintro e v2 ⟨⟨z7, ng5, ao5, n5, cap5, ng6, ao6, n6, cap6, ng7, ao7, n7, cap7, rfl, HV5, HV6, HV7⟩, hb⟩
  have HV1 := Lib.hid (HV1.out.mono hb)
  have HV2 := Lib.hid (HV2.out.mono hb)
  have HV3 := Lib.hid (HV3.out.mono hb)
  have HV4 := Lib.hid (HV4.out.mono hb)
  have X1 := X1.mono hb
  have X2 := X2.mono hb
  have hE := hE.mono hb
  have hbw := Below.step hbw hb (Nat.le_refl _)
  clear hb
  clear cX1_0 cX1_1 cX1_2 cX1_3 cX2_0 cX2_1 cX2_2 cX2_3
  go_upto_region 2 with fail
  have lX5X1 := X1.lt
  have lX5X2 := X2.lt
  obtain ⟨wx, hwx, hszx, X5, X6, X7, hb⟩ := boxes_222 v2 (.bool ng5) (.slice ao5 n5 cap5) 24 (.bool ng6) (.slice ao6 n6 cap6) 24 (.bool ng7) (.slice ao7 n7 cap7) 24
  rw [← hwx]
  clear hwx
  obtain ⟨v3, rfl⟩ : ∃ v3 : World, v3 = wx := ⟨_, rfl⟩
  have HV1 := Lib.hid (HV1.out.mono hb)
  have HV2 := Lib.hid (HV2.out.mono hb)
  have HV3 := Lib.hid (HV3.out.mono hb)
  have HV4 := Lib.hid (HV4.out.mono hb)
  have X1 := X1.mono hb
  have X2 := X2.mono hb
  have HV5 := Lib.hid (HV5.out.mono hb)
  have HV6 := Lib.hid (HV6.out.mono hb)
  have HV7 := Lib.hid (HV7.out.mono hb)
  have hE := hE.mono hb
  have hbw := Below.step hbw hb (Nat.le_refl _)
  clear hb
  obtain ⟨cX5_0, cX5_1, _, _⟩ := id X5
  obtain ⟨cX6_0, cX6_1, _, _⟩ := id X6
  go_wp2_with fail
  (with_reducible refine (rCmp_eq _ _ (a.num * (b.den : Int)) (b.num * (a.den : Int)) (Rq.cmpQ a b) v3 (Lib.hid (by unfold cmpZ; exact Rq.cmp_eq a b)) HV5.out HV6.out).mono ?_)
  rintro e v4 ⟨rfl, hb⟩
  have HV1 := Lib.hid (HV1.out.mono hb)
  have HV2 := Lib.hid (HV2.out.mono hb)
  have HV3 := Lib.hid (HV3.out.mono hb)
  have HV4 := Lib.hid (HV4.out.mono hb)
  have X1 := X1.mono hb
  have X2 := X2.mono hb
  have HV5 := Lib.hid (HV5.out.mono hb)
  have HV6 := Lib.hid (HV6.out.mono hb)
  have HV7 := Lib.hid (HV7.out.mono hb)
  have X5 := X5.mono hb
  have X6 := X6.mono hb
  have X7 := X7.mono hb
  have hE := hE.mono hb
  have hbw := Below.step hbw hb (Nat.le_refl _)
  clear hb
  clear cX5_0 cX5_1 cX6_0 cX6_1
  go_wp2
  go_ret2
  exact ⟨rfl, hbw⟩

set_option maxRecDepth 100000 in
set_option maxHeartbeats 1600000 in
theorem rCmp_qbig (va vb : Value) (a b : Rat) (w : World) (ha : RatV w va a) (hb : RatV w vb b) (hs : Hid (¬ CrS a b)) (hE : Env w) :
    Calls Tryz.prog 39 #[va, vb] w fun e w' => e = .returned (.tuple #[.int .i64 0, .int .i64 3]) ∧ Below w.heap.size w w' := by
  have hE0 := hE
  have hbw := Below.refl w.heap.size w
  obtain ⟨ng1, ao1, n1, cap1, ng2, ao2, n2, cap2, rfl, h1, h2⟩ := ha
  have HV1 := Lib.hid h1
  have HV2 := Lib.hid h2
  clear h1 h2
  obtain ⟨ng3, ao3, n3, cap3, ng4, ao4, n4, cap4, rfl, h1, h2⟩ := hb
  have HV3 := Lib.hid h1
  have HV4 := Lib.hid h2
  clear h1 h2
  go_enter Tryz.func39, Tryz.ntmps39
  go_upto_region 1 with fail
  obtain ⟨wx, hwx, hszx, X1, X2, hb⟩ := boxes_44 w (.bool ng1) (.slice ao1 n1 cap1) (.bool ng2) (.slice ao2 n2 cap2) 29 (.bool ng3) (.slice ao3 n3 cap3) (.bool ng4) (.slice ao4 n4 cap4) 29
  rw [← hwx]
  clear hwx
  obtain ⟨v1, rfl⟩ : ∃ v1 : World, v1 = wx := ⟨_, rfl⟩
  have HV1 := Lib.hid (HV1.out.mono hb)
  have HV2 := Lib.hid (HV2.out.mono hb)
  have HV3 := Lib.hid (HV3.out.mono hb)
  have HV4 := Lib.hid (HV4.out.mono hb)
  have hE := hE.mono hb
  have hbw := Below.step hbw hb (Nat.le_refl _)
  clear hb
  obtain ⟨cX1_0, cX1_1, cX1_2, cX1_3, _, _, _, _⟩ := id X1
  obtain ⟨cX2_0, cX2_1, cX2_2, cX2_3, _, _, _, _⟩ := id X2
  go_wp2_with fail
  (with_reducible refine (cross_big _ _ a b v1 (RatV.mk' HV1 HV2) (RatV.mk' HV3 HV4) hs hE).mono ?_)
  rintro e v2 ⟨⟨z7, ng5, ao5, n5, cap5, ng6, ao6, n6, cap6, ng7, ao7, n7, cap7, rfl, HV5, HV6, HV7⟩, hb⟩
  have HV1 := Lib.hid (HV1.out.mono hb)
  have HV2 := Lib.hid (HV2.out.mono hb)
  have HV3 := Lib.hid (HV3.out.mono hb)
  have HV4 := Lib.hid (HV4.out.mono hb)
  have X1 := X1.mono hb
  have X2 := X2.mono hb
  have hE := hE.mono hb
  have hbw := Below.step hbw hb (Nat.le_refl _)
  clear hb
  clear cX1_0 cX1_1 cX1_2 cX1_3 cX2_0 cX2_1 cX2_2 cX2_3
  go_upto_region 2 with fail
  have lX5X1 := X1.lt
  have lX5X2 := X2.lt
  obtain ⟨wx, hwx, hszx, X5, X6, X7, hb⟩ := boxes_222 v2 (.bool ng5) (.slice ao5 n5 cap5) 24 (.bool ng6) (.slice ao6 n6 cap6) 24 (.bool ng7) (.slice ao7 n7 cap7) 24
  rw [← hwx]
  clear hwx
  obtain ⟨v3, rfl⟩ : ∃ v3 : World, v3 = wx := ⟨_, rfl⟩
  have HV1 := Lib.hid (HV1.out.mono hb)
  have HV2 := Lib.hid (HV2.out.mono hb)
  have HV3 := Lib.hid (HV3.out.mono hb)
  have HV4 := Lib.hid (HV4.out.mono hb)
  have X1 := X1.mono hb
  have X2 := X2.mono hb
  have HV5 := Lib.hid (HV5.out.mono hb)
  have HV6 := Lib.hid (HV6.out.mono hb)
  have HV7 := Lib.hid (HV7.out.mono hb)
  have hE := hE.mono hb
  have hbw := Below.step hbw hb (Nat.le_refl _)
  clear hb
  go_wp2
  go_ret2
  exact ⟨rfl, hbw⟩

set_option maxRecDepth 100000 in
set_option maxHeartbeats 1600000 in
theorem sum_add_0 (va vb : Value) (a b : Rat) (w : World) (ha : RatV w va a) (hb : RatV w vb b) (hs : Hid (¬ CrS a b)) (hE : Env w) :
    Calls Tryz.prog 78 #[va, vb, .bool false] w fun e w' => NoQ 3 e ∧ Below w.heap.size w w' := by
  have hE0 := hE
  have hbw := Below.refl w.heap.size w
  obtain ⟨ng1, ao1, n1, cap1, ng2, ao2, n2, cap2, rfl, h1, h2⟩ := ha
  have HV1 := Lib.hid h1
  have HV2 := Lib.hid h2
  clear h1 h2
  obtain ⟨ng3, ao3, n3, cap3, ng4, ao4, n4, cap4, rfl, h1, h2⟩ := hb
  have HV3 := Lib.hid h1
  have HV4 := Lib.hid h2
  clear h1 h2
  go_enter Tryz.func78, Tryz.ntmps78
  go_upto_region 1 with fail
  obtain ⟨wx, hwx, hszx, X1, X2, X3, hb⟩ := boxes_444 w (.bool ng1) (.slice ao1 n1 cap1) (.bool ng2) (.slice ao2 n2 cap2) 29 (.bool ng3) (.slice ao3 n3 cap3) (.bool ng4) (.slice ao4 n4 cap4) 29 (.bool false) (.slice none 0 0) (.bool false) (.slice none 0 0) 29
  rw [← hwx]
  clear hwx
  obtain ⟨v1, rfl⟩ : ∃ v1 : World, v1 = wx := ⟨_, rfl⟩
  have HV1 := Lib.hid (HV1.out.mono hb)
  have HV2 := Lib.hid (HV2.out.mono hb)
  have HV3 := Lib.hid (HV3.out.mono hb)
  have HV4 := Lib.hid (HV4.out.mono hb)
  have hE := hE.mono hb
  have hbw := Below.step hbw hb (Nat.le_refl _)
  clear hb
  obtain ⟨cX1_0, cX1_1, cX1_2, cX1_3, _, _, _, _⟩ := id X1
  obtain ⟨cX2_0, cX2_1, cX2_2, cX2_3, _, _, _, _⟩ := id X2
  go_wp2_with fail
  (with_reducible refine (cross_big _ _ a b v1 (RatV.mk' HV1 HV2) (RatV.mk' HV3 HV4) hs hE).mono ?_)
  rintro e v2 ⟨⟨z7, ng5, ao5, n5, cap5, ng6, ao6, n6, cap6, ng7, ao7, n7, cap7, rfl, HV5, HV6, HV7⟩, hb⟩
  have HV1 := Lib.hid (HV1.out.mono hb)
  have HV2 := Lib.hid (HV2.out.mono hb)
  have HV3 := Lib.hid (HV3.out.mono hb)
  have HV4 := Lib.hid (HV4.out.mono hb)
  have X1 := X1.mono hb
  have X2 := X2.mono hb
  have X3 := X3.mono hb
  have hE := hE.mono hb
  have hbw := Below.step hbw hb (Nat.le_refl _)
  clear hb
  clear cX1_0 cX1_1 cX1_2 cX1_3 cX2_0 cX2_1 cX2_2 cX2_3
  go_upto_region 2 with fail
  have lX5X1 := X1.lt
  have lX5X2 := X2.lt
  have lX5X3 := X3.lt
  obtain ⟨wx, hwx, hszx, X5, X6, X7, hb⟩ := boxes_222 v2 (.bool ng5) (.slice ao5 n5 cap5) 24 (.bool ng6) (.slice ao6 n6 cap6) 24 (.bool ng7) (.slice ao7 n7 cap7) 24
  rw [← hwx]
  clear hwx
  obtain ⟨v3, rfl⟩ : ∃ v3 : World, v3 = wx := ⟨_, rfl⟩
  have HV1 := Lib.hid (HV1.out.mono hb)
  have HV2 := Lib.hid (HV2.out.mono hb)
  have HV3 := Lib.hid (HV3.out.mono hb)
  have HV4 := Lib.hid (HV4.out.mono hb)
  have X1 := X1.mono hb
  have X2 := X2.mono hb
  have X3 := X3.mono hb
  have HV5 := Lib.hid (HV5.out.mono hb)
  have HV6 := Lib.hid (HV6.out.mono hb)
  have HV7 := Lib.hid (HV7.out.mono hb)
  have hE := hE.mono hb
  have hbw := Below.step hbw hb (Nat.le_refl _)
  clear hb
  obtain ⟨cX3_0, cX3_1, cX3_2, cX3_3, _, _, _, _⟩ := id X3
  go_wp2
  refine bodyPost_ret (v := .tuple #[.agg #[.bool false, .slice none 0 0, .bool false, .slice none 0 0], .int .i64 3]) (by simp [results, Tryz.results78, go_sem, cX3_0, cX3_1, cX3_2, cX3_3]) rfl ⟨rfl, Below.put4 hbw (by omega) (.bool false) (.slice none 0 0) (.bool false) (.slice none 0 0)⟩

set_option maxRecDepth 100000 in
set_option maxHeartbeats 1600000 in
theorem sum_add_1 (va vb : Value) (a b : Rat) (w : World) (ha : RatV w va a) (hb : RatV w vb b) (hs : Hid (CrS a b ∧ ¬ Rq.Sm ((a.num * (b.den : Int)) + (b.num * (a.den : Int))))) (hE : Env w) :
    Calls Tryz.prog 78 #[va, vb, .bool false] w fun e w' => NoQ 3 e ∧ Below w.heap.size w w' := by
  have HN : Hid (¬ Rq.Sm ((a.num * (b.den : Int)) + (b.num * (a.den : Int)))) := Lib.hid (by exact hs.out.2)
  have HCR : Hid (CrS a b) := Lib.hid hs.out.1
  have hE0 := hE
  have hbw := Below.refl w.heap.size w
  obtain ⟨ng1, ao1, n1, cap1, ng2, ao2, n2, cap2, rfl, h1, h2⟩ := ha
  have HV1 := Lib.hid h1
  have HV2 := Lib.hid h2
  clear h1 h2
  obtain ⟨ng3, ao3, n3, cap3, ng4, ao4, n4, cap4, rfl, h1, h2⟩ := hb
  have HV3 := Lib.hid h1
  have HV4 := Lib.hid h2
  clear h1 h2
  go_enter Tryz.func78, Tryz.ntmps78
  go_upto_region 1 with fail
  obtain ⟨wx, hwx, hszx, X1, X2, X3, hb⟩ := boxes_444 w (.bool ng1) (.slice ao1 n1 cap1) (.bool ng2) (.slice ao2 n2 cap2) 29 (.bool ng3) (.slice ao3 n3 cap3) (.bool ng4) (.slice ao4 n4 cap4) 29 (.bool false) (.slice none 0 0) (.bool false) (.slice none 0 0) 29
  rw [← hwx]
  clear hwx
  obtain ⟨v1, rfl⟩ : ∃ v1 : World, v1 = wx := ⟨_, rfl⟩
  have HV1 := Lib.hid (HV1.out.mono hb)
  have HV2 := Lib.hid (HV2.out.mono hb)
  have HV3 := Lib.hid (HV3.out.mono hb)
  have HV4 := Lib.hid (HV4.out.mono hb)
  have hE := hE.mono hb
  have hbw := Below.step hbw hb (Nat.le_refl _)
  clear hb
  obtain ⟨cX1_0, cX1_1, cX1_2, cX1_3, _, _, _, _⟩ := id X1
  obtain ⟨cX2_0, cX2_1, cX2_2, cX2_3, _, _, _, _⟩ := id X2
  go_wp2_with fail
  (with_reducible refine (cross_any _ _ a b v1 (RatV.mk' HV1 HV2) (RatV.mk' HV3 HV4) HCR hE).mono ?_)
  rintro e v2 ⟨⟨z7, ng5, ao5, n5, cap5, ng6, ao6, n6, cap6, ng7, ao7, n7, cap7, rfl, HV5, HV6, HV7⟩, hb⟩
  have HV1 := Lib.hid (HV1.out.mono hb)
  have HV2 := Lib.hid (HV2.out.mono hb)
  have HV3 := Lib.hid (HV3.out.mono hb)
  have HV4 := Lib.hid (HV4.out.mono hb)
  have X1 := X1.mono hb
  have X2 := X2.mono hb
  have X3 := X3.mono hb
  have hE := hE.mono hb
  have hbw := Below.step hbw hb (Nat.le_refl _)
  clear hb
  clear cX1_0 cX1_1 cX1_2 cX1_3 cX2_0 cX2_1 cX2_2 cX2_3
  go_upto_region 2 with fail
  have lX5X1 := X1.lt
  have lX5X2 := X2.lt
  have lX5X3 := X3.lt
  obtain ⟨wx, hwx, hszx, X5, X6, X7, hb⟩ := boxes_222 v2 (.bool ng5) (.slice ao5 n5 cap5) 24 (.bool ng6) (.slice ao6 n6 cap6) 24 (.bool ng7) (.slice ao7 n7 cap7) 24
  rw [← hwx]
  clear hwx
  obtain ⟨v3, rfl⟩ : ∃ v3 : World, v3 = wx := ⟨_, rfl⟩
  have HV1 := Lib.hid (HV1.out.mono hb)
  have HV2 := Lib.hid (HV2.out.mono hb)
  have HV3 := Lib.hid (HV3.out.mono hb)
  have HV4 := Lib.hid (HV4.out.mono hb)
  have X1 := X1.mono hb
  have X2 := X2.mono hb
  have X3 := X3.mono hb
  have HV5 := Lib.hid (HV5.out.mono hb)
  have HV6 := Lib.hid (HV6.out.mono hb)
  have HV7 := Lib.hid (HV7.out.mono hb)
  have hE := hE.mono hb
  have hbw := Below.step hbw hb (Nat.le_refl _)
  clear hb
  obtain ⟨cX5_0, cX5_1, _, _⟩ := id X5
  obtain ⟨cX6_0, cX6_1, _, _⟩ := id X6
  go_wp2_with fail
  (with_reducible refine (rAdd_big _ _ (a.num * (b.den : Int)) (b.num * (a.den : Int)) v3 HV5.out HV6.out HN).mono ?_)
  rintro e v4 ⟨rfl, hb⟩
  have HV1 := Lib.hid (HV1.out.mono hb)
  have HV2 := Lib.hid (HV2.out.mono hb)
  have HV3 := Lib.hid (HV3.out.mono hb)
  have HV4 := Lib.hid (HV4.out.mono hb)
  have X1 := X1.mono hb
  have X2 := X2.mono hb
  have X3 := X3.mono hb
  have HV5 := Lib.hid (HV5.out.mono hb)
  have HV6 := Lib.hid (HV6.out.mono hb)
  have HV7 := Lib.hid (HV7.out.mono hb)
  have X5 := X5.mono hb
  have X6 := X6.mono hb
  have X7 := X7.mono hb
  have hE := hE.mono hb
  have hbw := Below.step hbw hb (Nat.le_refl _)
  clear hb
  clear cX5_0 cX5_1 cX6_0 cX6_1
  go_upto_region 7 with fail
  have lX8X1 := X1.lt
  have lX8X2 := X2.lt
  have lX8X3 := X3.lt
  have lX8X5 := X5.lt
  have lX8X6 := X6.lt
  have lX8X7 := X7.lt
  have X8 := Box.new v4 (.bool false) (.slice none 0 0) 24
  have hb := below_alloc v4 (.cells #[.bool false, .slice none 0 0] 24)
  generalize v4.alloc (.cells #[.bool false, .slice none 0 0] 24) = v5 at *
  have HV1 := Lib.hid (HV1.out.mono hb)
  have HV2 := Lib.hid (HV2.out.mono hb)
  have HV3 := Lib.hid (HV3.out.mono hb)
  have HV4 := Lib.hid (HV4.out.mono hb)
  have X1 := X1.mono hb
  have X2 := X2.mono hb
  have X3 := X3.mono hb
  have HV5 := Lib.hid (HV5.out.mono hb)
  have HV6 := Lib.hid (HV6.out.mono hb)
  have HV7 := Lib.hid (HV7.out.mono hb)
  have X5 := X5.mono hb
  have X6 := X6.mono hb
  have X7 := X7.mono hb
  have hE := hE.mono hb
  have hbw := Below.step hbw hb (Nat.le_refl _)
  clear hb
  obtain ⟨cX3_0, cX3_1, cX3_2, cX3_3, _, _, _, _⟩ := id X3
  go_wp2
  refine bodyPost_ret (v := .tuple #[.agg #[.bool false, .slice none 0 0, .bool false, .slice none 0 0], .int .i64 3]) (by simp [results, Tryz.results78, go_sem, cX3_0, cX3_1, cX3_2, cX3_3]) rfl ⟨rfl, Below.put4 hbw (by omega) (.bool false) (.slice none 0 0) (.bool false) (.slice none 0 0)⟩

set_option maxRecDepth 100000 in
set_option maxHeartbeats 1600000 in
theorem sum_add_2 (va vb : Value) (a b : Rat) (w : World) (ha : RatV w va a) (hb : RatV w vb b) (hs : Hid (CrS a b ∧ Rq.Sm ((a.num * (b.den : Int)) + (b.num * (a.den : Int))) ∧ ¬ Rq.Sm ((a.den : Int) * (b.den : Int)))) (hE : Env w) :
    Calls Tryz.prog 78 #[va, vb, .bool false] w fun e w' => NoQ 3 e ∧ Below w.heap.size w w' := by
  have HN : Hid (Rq.Sm ((a.num * (b.den : Int)) + (b.num * (a.den : Int)))) := Lib.hid (by exact hs.out.2.1)
  have HCR : Hid (CrS a b) := Lib.hid hs.out.1
  have HCD : Hid ((Rq.Sm (a.num * (b.den : Int)) ∧ Rq.Sm (b.num * (a.den : Int))) ∧ ¬ Rq.Sm ((a.den : Int) * (b.den : Int))) := Lib.hid ⟨hs.out.1, hs.out.2.2⟩
  have hE0 := hE
  have hbw := Below.refl w.heap.size w
  obtain ⟨ng1, ao1, n1, cap1, ng2, ao2, n2, cap2, rfl, h1, h2⟩ := ha
  have HV1 := Lib.hid h1
  have HV2 := Lib.hid h2
  clear h1 h2
  obtain ⟨ng3, ao3, n3, cap3, ng4, ao4, n4, cap4, rfl, h1, h2⟩ := hb
  have HV3 := Lib.hid h1
  have HV4 := Lib.hid h2
  clear h1 h2
  go_enter Tryz.func78, Tryz.ntmps78
  go_upto_region 1 with fail
  obtain ⟨wx, hwx, hszx, X1, X2, X3, hb⟩ := boxes_444 w (.bool ng1) (.slice ao1 n1 cap1) (.bool ng2) (.slice ao2 n2 cap2) 29 (.bool ng3) (.slice ao3 n3 cap3) (.bool ng4) (.slice ao4 n4 cap4) 29 (.bool false) (.slice none 0 0) (.bool false) (.slice none 0 0) 29
  rw [← hwx]
  clear hwx
  obtain ⟨v1, rfl⟩ : ∃ v1 : World, v1 = wx := ⟨_, rfl⟩
  have HV1 := Lib.hid (HV1.out.mono hb)
  have HV2 := Lib.hid (HV2.out.mono hb)
  have HV3 := Lib.hid (HV3.out.mono hb)
  have HV4 := Lib.hid (HV4.out.mono hb)
  have hE := hE.mono hb
  have hbw := Below.step hbw hb (Nat.le_refl _)
  clear hb
  obtain ⟨cX1_0, cX1_1, cX1_2, cX1_3, _, _, _, _⟩ := id X1
  obtain ⟨cX2_0, cX2_1, cX2_2, cX2_3, _, _, _, _⟩ := id X2
  go_wp2_with fail
  (with_reducible refine (cross_z _ _ a b v1 (RatV.mk' HV1 HV2) (RatV.mk' HV3 HV4) HCD hE).mono ?_)
  rintro e v2 ⟨⟨ng5, ao5, n5, cap5, ng6, ao6, n6, cap6, ng7, ao7, n7, cap7, rfl, HV5, HV6, HV7⟩, hb⟩
  have HV1 := Lib.hid (HV1.out.mono hb)
  have HV2 := Lib.hid (HV2.out.mono hb)
  have HV3 := Lib.hid (HV3.out.mono hb)
  have HV4 := Lib.hid (HV4.out.mono hb)
  have X1 := X1.mono hb
  have X2 := X2.mono hb
  have X3 := X3.mono hb
  have hE := hE.mono hb
  have hbw := Below.step hbw hb (Nat.le_refl _)
  clear hb
  clear cX1_0 cX1_1 cX1_2 cX1_3 cX2_0 cX2_1 cX2_2 cX2_3
  go_upto_region 2 with fail
  have lX5X1 := X1.lt
  have lX5X2 := X2.lt
  have lX5X3 := X3.lt
  obtain ⟨wx, hwx, hszx, X5, X6, X7, hb⟩ := boxes_222 v2 (.bool ng5) (.slice ao5 n5 cap5) 24 (.bool ng6) (.slice ao6 n6 cap6) 24 (.bool ng7) (.slice ao7 n7 cap7) 24
  rw [← hwx]
  clear hwx
  obtain ⟨v3, rfl⟩ : ∃ v3 : World, v3 = wx := ⟨_, rfl⟩
  have HV1 := Lib.hid (HV1.out.mono hb)
  have HV2 := Lib.hid (HV2.out.mono hb)
  have HV3 := Lib.hid (HV3.out.mono hb)
  have HV4 := Lib.hid (HV4.out.mono hb)
  have X1 := X1.mono hb
  have X2 := X2.mono hb
  have X3 := X3.mono hb
  have HV5 := Lib.hid (HV5.out.mono hb)
  have HV6 := Lib.hid (HV6.out.mono hb)
  have HV7 := Lib.hid (HV7.out.mono hb)
  have hE := hE.mono hb
  have hbw := Below.step hbw hb (Nat.le_refl _)
  clear hb
  obtain ⟨cX5_0, cX5_1, _, _⟩ := id X5
  obtain ⟨cX6_0, cX6_1, _, _⟩ := id X6
  go_wp2_with fail
  (with_reducible refine (rAdd_ok _ _ (a.num * (b.den : Int)) (b.num * (a.den : Int)) v3 HV5.out HV6.out HN).mono ?_)
  rintro e v4 ⟨⟨ng8, ao8, n8, cap8, rfl, HV8⟩, hb⟩
  have HV1 := Lib.hid (HV1.out.mono hb)
  have HV2 := Lib.hid (HV2.out.mono hb)
  have HV3 := Lib.hid (HV3.out.mono hb)
  have HV4 := Lib.hid (HV4.out.mono hb)
  have X1 := X1.mono hb
  have X2 := X2.mono hb
  have X3 := X3.mono hb
  have HV5 := Lib.hid (HV5.out.mono hb)
  have HV6 := Lib.hid (HV6.out.mono hb)
  have HV7 := Lib.hid (HV7.out.mono hb)
  have X5 := X5.mono hb
  have X6 := X6.mono hb
  have X7 := X7.mono hb
  have hE := hE.mono hb
  have hbw := Below.step hbw hb (Nat.le_refl _)
  clear hb
  clear cX5_0 cX5_1 cX6_0 cX6_1
  go_upto_region 7 with fail
  have lX8X1 := X1.lt
  have lX8X2 := X2.lt
  have lX8X3 := X3.lt
  have lX8X5 := X5.lt
  have lX8X6 := X6.lt
  have lX8X7 := X7.lt
  have X8 := Box.new v4 (.bool ng8) (.slice ao8 n8 cap8) 24
  have hb := below_alloc v4 (.cells #[.bool ng8, .slice ao8 n8 cap8] 24)
  generalize v4.alloc (.cells #[.bool ng8, .slice ao8 n8 cap8] 24) = v5 at *
  have HV1 := Lib.hid (HV1.out.mono hb)
  have HV2 := Lib.hid (HV2.out.mono hb)
  have HV3 := Lib.hid (HV3.out.mono hb)
  have HV4 := Lib.hid (HV4.out.mono hb)
  have X1 := X1.mono hb
  have X2 := X2.mono hb
  have X3 := X3.mono hb
  have HV5 := Lib.hid (HV5.out.mono hb)
  have HV6 := Lib.hid (HV6.out.mono hb)
  have HV7 := Lib.hid (HV7.out.mono hb)
  have X5 := X5.mono hb
  have X6 := X6.mono hb
  have X7 := X7.mono hb
  have HV8 := Lib.hid (HV8.out.mono hb)
  have hE := hE.mono hb
  have hbw := Below.step hbw hb (Nat.le_refl _)
  clear hb
  obtain ⟨cX7_0, cX7_1, _, _⟩ := id X7
  go_wp2_with fail
  (with_reducible refine (rSign_eq _ 0 0 v5 (Lib.hid rfl) HV7.out).mono ?_)
  rintro e v6 ⟨rfl, hb⟩
  have HV1 := Lib.hid (HV1.out.mono hb)
  have HV2 := Lib.hid (HV2.out.mono hb)
  have HV3 := Lib.hid (HV3.out.mono hb)
  have HV4 := Lib.hid (HV4.out.mono hb)
  have X1 := X1.mono hb
  have X2 := X2.mono hb
  have X3 := X3.mono hb
  have HV5 := Lib.hid (HV5.out.mono hb)
  have HV6 := Lib.hid (HV6.out.mono hb)
  have HV7 := Lib.hid (HV7.out.mono hb)
  have X5 := X5.mono hb
  have X6 := X6.mono hb
  have X7 := X7.mono hb
  have HV8 := Lib.hid (HV8.out.mono hb)
  have X8 := X8.mono hb
  have hE := hE.mono hb
  have hbw := Below.step hbw hb (Nat.le_refl _)
  clear hb
  clear cX7_0 cX7_1
  obtain ⟨cX3_0, cX3_1, cX3_2, cX3_3, _, _, _, _⟩ := id X3
  go_wp2
  refine bodyPost_ret (v := .tuple #[.agg #[.bool false, .slice none 0 0, .bool false, .slice none 0 0], .int .i64 3]) (by simp [results, Tryz.results78, go_sem, cX3_0, cX3_1, cX3_2, cX3_3]) rfl ⟨rfl, Below.put4 hbw (by omega) (.bool false) (.slice none 0 0) (.bool false) (.slice none 0 0)⟩

set_option maxRecDepth 100000 in
set_option maxHeartbeats 1600000 in
theorem sum_add_3 (va vb : Value) (a b : Rat) (w : World) (ha : RatV w va a) (hb : RatV w vb b) (hs : Hid (CrS a b ∧ Rq.Sm ((a.num * (b.den : Int)) + (b.num * (a.den : Int))) ∧ Rq.Sm ((a.den : Int) * (b.den : Int)))) (hE : Env w) :
    Calls Tryz.prog 78 #[va, vb, .bool false] w fun e w' => GotQ w' (a + b) e ∧ Below w.heap.size w w' := by
  have HN : Hid (Rq.Sm ((a.num * (b.den : Int)) + (b.num * (a.den : Int)))) := Lib.hid (by exact hs.out.2.1)
  have HCR : Hid (CrS a b) := Lib.hid hs.out.1
  have HCD : Hid ((Rq.Sm (a.num * (b.den : Int)) ∧ Rq.Sm (b.num * (a.den : Int))) ∧ Rq.Sm ((a.den : Int) * (b.den : Int))) := Lib.hid ⟨hs.out.1, hs.out.2.2⟩
  have hE0 := hE
  have hbw := Below.refl w.heap.size w
  obtain ⟨ng1, ao1, n1, cap1, ng2, ao2, n2, cap2, rfl, h1, h2⟩ := ha
  have HV1 := Lib.hid h1
  have HV2 := Lib.hid h2
  clear h1 h2
  obtain ⟨ng3, ao3, n3, cap3, ng4, ao4, n4, cap4, rfl, h1, h2⟩ := hb
  have HV3 := Lib.hid h1
  have HV4 := Lib.hid h2
  clear h1 h2
  go_enter Tryz.func78, Tryz.ntmps78
  go_upto_region 1 with fail
  obtain ⟨wx, hwx, hszx, X1, X2, X3, hb⟩ := boxes_444 w (.bool ng1) (.slice ao1 n1 cap1) (.bool ng2) (.slice ao2 n2 cap2) 29 (.bool ng3) (.slice ao3 n3 cap3) (.bool ng4) (.slice ao4 n4 cap4) 29 (.bool false) (.slice none 0 0) (.bool false) (.slice none 0 0) 29
  rw [← hwx]
  clear hwx
  obtain ⟨v1, rfl⟩ : ∃ v1 : World, v1 = wx := ⟨_, rfl⟩
  have HV1 := Lib.hid (HV1.out.mono hb)
  have HV2 := Lib.hid (HV2.out.mono hb)
  have HV3 := Lib.hid (HV3.out.mono hb)
  have HV4 := Lib.hid (HV4.out.mono hb)
  have hE := hE.mono hb
  have hbw := Below.step hbw hb (Nat.le_refl _)
  clear hb
  obtain ⟨cX1_0, cX1_1, cX1_2, cX1_3, _, _, _, _⟩ := id X1
  obtain ⟨cX2_0, cX2_1, cX2_2, cX2_3, _, _, _, _⟩ := id X2
  go_wp2_with fail
  (with_reducible refine (cross_ok _ _ a b v1 (RatV.mk' HV1 HV2) (RatV.mk' HV3 HV4) HCD hE).mono ?_)
  rintro e v2 ⟨⟨ng5, ao5, n5, cap5, ng6, ao6, n6, cap6, ng7, ao7, n7, cap7, rfl, HV5, HV6, HV7⟩, hb⟩
  have HV1 := Lib.hid (HV1.out.mono hb)
  have HV2 := Lib.hid (HV2.out.mono hb)
  have HV3 := Lib.hid (HV3.out.mono hb)
  have HV4 := Lib.hid (HV4.out.mono hb)
  have X1 := X1.mono hb
  have X2 := X2.mono hb
  have X3 := X3.mono hb
  have hE := hE.mono hb
  have hbw := Below.step hbw hb (Nat.le_refl _)
  clear hb
  clear cX1_0 cX1_1 cX1_2 cX1_3 cX2_0 cX2_1 cX2_2 cX2_3
  go_upto_region 2 with fail
  have lX5X1 := X1.lt
  have lX5X2 := X2.lt
  have lX5X3 := X3.lt
  obtain ⟨wx, hwx, hszx, X5, X6, X7, hb⟩ := boxes_222 v2 (.bool ng5) (.slice ao5 n5 cap5) 24 (.bool ng6) (.slice ao6 n6 cap6) 24 (.bool ng7) (.slice ao7 n7 cap7) 24
  rw [← hwx]
  clear hwx
  obtain ⟨v3, rfl⟩ : ∃ v3 : World, v3 = wx := ⟨_, rfl⟩
  have HV1 := Lib.hid (HV1.out.mono hb)
  have HV2 := Lib.hid (HV2.out.mono hb)
  have HV3 := Lib.hid (HV3.out.mono hb)
  have HV4 := Lib.hid (HV4.out.mono hb)
  have X1 := X1.mono hb
  have X2 := X2.mono hb
  have X3 := X3.mono hb
  have HV5 := Lib.hid (HV5.out.mono hb)
  have HV6 := Lib.hid (HV6.out.mono hb)
  have HV7 := Lib.hid (HV7.out.mono hb)
  have hE := hE.mono hb
  have hbw := Below.step hbw hb (Nat.le_refl _)
  clear hb
  obtain ⟨cX5_0, cX5_1, _, _⟩ := id X5
  obtain ⟨cX6_0, cX6_1, _, _⟩ := id X6
  go_wp2_with fail
  (with_reducible refine (rAdd_ok _ _ (a.num * (b.den : Int)) (b.num * (a.den : Int)) v3 HV5.out HV6.out HN).mono ?_)
  rintro e v4 ⟨⟨ng8, ao8, n8, cap8, rfl, HV8⟩, hb⟩
  have HV1 := Lib.hid (HV1.out.mono hb)
  have HV2 := Lib.hid (HV2.out.mono hb)
  have HV3 := Lib.hid (HV3.out.mono hb)
  have HV4 := Lib.hid (HV4.out.mono hb)
  have X1 := X1.mono hb
  have X2 := X2.mono hb
  have X3 := X3.mono hb
  have HV5 := Lib.hid (HV5.out.mono hb)
  have HV6 := Lib.hid (HV6.out.mono hb)
  have HV7 := Lib.hid (HV7.out.mono hb)
  have X5 := X5.mono hb
  have X6 := X6.mono hb
  have X7 := X7.mono hb
  have hE := hE.mono hb
  have hbw := Below.step hbw hb (Nat.le_refl _)
  clear hb
  clear cX5_0 cX5_1 cX6_0 cX6_1
  go_upto_region 7 with fail
  have lX8X1 := X1.lt
  have lX8X2 := X2.lt
  have lX8X3 := X3.lt
  have lX8X5 := X5.lt
  have lX8X6 := X6.lt
  have lX8X7 := X7.lt
  have X8 := Box.new v4 (.bool ng8) (.slice ao8 n8 cap8) 24
  have hb := below_alloc v4 (.cells #[.bool ng8, .slice ao8 n8 cap8] 24)
  generalize v4.alloc (.cells #[.bool ng8, .slice ao8 n8 cap8] 24) = v5 at *
  have HV1 := Lib.hid (HV1.out.mono hb)
  have HV2 := Lib.hid (HV2.out.mono hb)
  have HV3 := Lib.hid (HV3.out.mono hb)
  have HV4 := Lib.hid (HV4.out.mono hb)
  have X1 := X1.mono hb
  have X2 := X2.mono hb
  have X3 := X3.mono hb
  have HV5 := Lib.hid (HV5.out.mono hb)
  have HV6 := Lib.hid (HV6.out.mono hb)
  have HV7 := Lib.hid (HV7.out.mono hb)
  have X5 := X5.mono hb
  have X6 := X6.mono hb
  have X7 := X7.mono hb
  have HV8 := Lib.hid (HV8.out.mono hb)
  have hE := hE.mono hb
  have hbw := Below.step hbw hb (Nat.le_refl _)
  clear hb
  have HS1 : Hid (sgnI ((a.den : Int) * (b.den : Int)) = 1) := Lib.hid (by have h1 := Rq.den_gt a; have h2 := Rq.den_gt b; have := Int.mul_pos h1 h2; unfold sgnI; rw [if_neg (by omega), if_neg (by omega)])
  obtain ⟨cX7_0, cX7_1, _, _⟩ := id X7
  go_wp2_with fail
  (with_reducible refine (rSign_eq _ ((a.den : Int) * (b.den : Int)) 1 v5 HS1 HV7.out).mono ?_)
  rintro e v6 ⟨rfl, hb⟩
  have HV1 := Lib.hid (HV1.out.mono hb)
  have HV2 := Lib.hid (HV2.out.mono hb)
  have HV3 := Lib.hid (HV3.out.mono hb)
  have HV4 := Lib.hid (HV4.out.mono hb)
  have X1 := X1.mono hb
  have X2 := X2.mono hb
  have X3 := X3.mono hb
  have HV5 := Lib.hid (HV5.out.mono hb)
  have HV6 := Lib.hid (HV6.out.mono hb)
  have HV7 := Lib.hid (HV7.out.mono hb)
  have X5 := X5.mono hb
  have X6 := X6.mono hb
  have X7 := X7.mono hb
  have HV8 := Lib.hid (HV8.out.mono hb)
  have X8 := X8.mono hb
  have hE := hE.mono hb
  have hbw := Below.step hbw hb (Nat.le_refl _)
  clear hb
  clear cX7_0 cX7_1
  obtain ⟨cX7_0, cX7_1, _, _⟩ := id X7
  obtain ⟨cX8_0, cX8_1, _, _⟩ := id X8
  go_wp2_with fail
  (with_reducible refine (rMake_ok _ _ ((a.num * (b.den : Int)) + (b.num * (a.den : Int))) ((a.den : Int) * (b.den : Int)) v6 HV8.out HV7.out (Lib.hid (dd_ne a b)) hE).mono ?_)
  rintro e v7 ⟨⟨ngA, aoA, nA, capA, ngB, aoB, nB, capB, rfl, HVA, HVB⟩, hb⟩
  have HV1 := Lib.hid (HV1.out.mono hb)
  have HV2 := Lib.hid (HV2.out.mono hb)
  have HV3 := Lib.hid (HV3.out.mono hb)
  have HV4 := Lib.hid (HV4.out.mono hb)
  have X1 := X1.mono hb
  have X2 := X2.mono hb
  have X3 := X3.mono hb
  have HV5 := Lib.hid (HV5.out.mono hb)
  have HV6 := Lib.hid (HV6.out.mono hb)
  have HV7 := Lib.hid (HV7.out.mono hb)
  have X5 := X5.mono hb
  have X6 := X6.mono hb
  have X7 := X7.mono hb
  have HV8 := Lib.hid (HV8.out.mono hb)
  have X8 := X8.mono hb
  have hE := hE.mono hb
  have hbw := Below.step hbw hb (Nat.le_refl _)
  clear hb
  clear cX7_0 cX7_1 cX8_0 cX8_1
  rw [Rq.add_eq] at HVA HVB
  obtain ⟨cX3_0, cX3_1, cX3_2, cX3_3, _, _, _, _⟩ := id X3
  go_wp2
  refine bodyPost_ret (v := .tuple #[.agg #[.bool ngA, .slice aoA nA capA, .bool ngB, .slice aoB nB capB], .int .i64 0]) (by simp [results, Tryz.results78, go_sem, cX3_0, cX3_1, cX3_2, cX3_3]) rfl ⟨⟨ngA, aoA, nA, capA, ngB, aoB, nB, capB, rfl, Lib.hid (HVA.out.put4B X3 (.bool ngA) (.slice aoA nA capA) (.bool ngB) (.slice aoB nB capB)), Lib.hid (HVB.out.put4B X3 (.bool ngA) (.slice aoA nA capA) (.bool ngB) (.slice aoB nB capB))⟩, Below.put4 hbw (by omega) (.bool ngA) (.slice aoA nA capA) (.bool ngB) (.slice aoB nB capB)⟩

theorem sum_add_big (va vb : Value) (a b : Rat) (w : World) (ha : RatV w va a) (hb : RatV w vb b) (hs : Hid (¬ AddS a b)) (hE : Env w) :
    Calls Tryz.prog 78 #[va, vb, .bool false] w fun e w' => NoQ 3 e ∧ Below w.heap.size w w' := by
  by_cases h1 : CrS a b
  · by_cases h2 : Rq.Sm ((a.num * (b.den : Int)) + (b.num * (a.den : Int)))
    · by_cases h3 : Rq.Sm ((a.den : Int) * (b.den : Int))
      · exact absurd ⟨h1, h2, h3⟩ hs.out
      · exact sum_add_2 va vb a b w ha hb (Lib.hid ⟨h1, h2, h3⟩) hE
    · exact sum_add_1 va vb a b w ha hb (Lib.hid ⟨h1, h2⟩) hE
  · exact sum_add_0 va vb a b w ha hb (Lib.hid h1) hE

set_option maxRecDepth 100000 in
set_option maxHeartbeats 1600000 in
theorem rAdd_q (va vb : Value) (a b : Rat) (w : World) (ha : RatV w va a) (hb : RatV w vb b) (hs : Hid (AddS a b)) (hE : Env w) :
    Calls Tryz.prog 35 #[va, vb] w fun e w' => GotQ w' (a + b) e ∧ Below w.heap.size w w' := by
  have HS : Hid (CrS a b ∧ Rq.Sm ((a.num * (b.den : Int)) + (b.num * (a.den : Int))) ∧ Rq.Sm ((a.den : Int) * (b.den : Int))) := Lib.hid hs.out
  have hE0 := hE
  have hbw := Below.refl w.heap.size w
  obtain ⟨ng1, ao1, n1, cap1, ng2, ao2, n2, cap2, rfl, h1, h2⟩ := ha
  have HV1 := Lib.hid h1
  have HV2 := Lib.hid h2
  clear h1 h2
  obtain ⟨ng3, ao3, n3, cap3, ng4, ao4, n4, cap4, rfl, h1, h2⟩ := hb
  have HV3 := Lib.hid h1
  have HV4 := Lib.hid h2
  clear h1 h2
  go_enter Tryz.func35, Tryz.ntmps35
  go_upto_region 1 with fail
  obtain ⟨wx, hwx, hszx, X1, X2, X3, hb⟩ := boxes_444 w (.bool ng1) (.slice ao1 n1 cap1) (.bool ng2) (.slice ao2 n2 cap2) 29 (.bool ng3) (.slice ao3 n3 cap3) (.bool ng4) (.slice ao4 n4 cap4) 29 (.bool false) (.slice none 0 0) (.bool false) (.slice none 0 0) 29
  rw [← hwx]
  clear hwx
  obtain ⟨v1, rfl⟩ : ∃ v1 : World, v1 = wx := ⟨_, rfl⟩
  have HV1 := Lib.hid (HV1.out.mono hb)
  have HV2 := Lib.hid (HV2.out.mono hb)
  have HV3 := Lib.hid (HV3.out.mono hb)
  have HV4 := Lib.hid (HV4.out.mono hb)
  have hE := hE.mono hb
  have hbw := Below.step hbw hb (Nat.le_refl _)
  clear hb
  obtain ⟨cX1_0, cX1_1, cX1_2, cX1_3, _, _, _, _⟩ := id X1
  obtain ⟨cX2_0, cX2_1, cX2_2, cX2_3, _, _, _, _⟩ := id X2
  go_wp2_with fail
  (with_reducible refine (sum_add_3 _ _ a b v1 (RatV.mk' HV1 HV2) (RatV.mk' HV3 HV4) HS hE).mono ?_)
  rintro e v2 ⟨⟨ng5, ao5, n5, cap5, ng6, ao6, n6, cap6, rfl, HV5, HV6⟩, hb⟩
  have HV1 := Lib.hid (HV1.out.mono hb)
  have HV2 := Lib.hid (HV2.out.mono hb)
  have HV3 := Lib.hid (HV3.out.mono hb)
  have HV4 := Lib.hid (HV4.out.mono hb)
  have X1 := X1.mono hb
  have X2 := X2.mono hb
  have X3 := X3.mono hb
  have hE := hE.mono hb
  have hbw := Below.step hbw hb (Nat.le_refl _)
  clear hb
  clear cX1_0 cX1_1 cX1_2 cX1_3 cX2_0 cX2_1 cX2_2 cX2_3
  obtain ⟨cX3_0, cX3_1, cX3_2, cX3_3, _, _, _, _⟩ := id X3
  go_wp2
  refine bodyPost_ret (v := .tuple #[.agg #[.bool ng5, .slice ao5 n5 cap5, .bool ng6, .slice ao6 n6 cap6], .int .i64 0]) (by simp [results, Tryz.results35, go_sem, cX3_0, cX3_1, cX3_2, cX3_3]) rfl ⟨⟨ng5, ao5, n5, cap5, ng6, ao6, n6, cap6, rfl, Lib.hid (HV5.out.put4B X3 (.bool ng5) (.slice ao5 n5 cap5) (.bool ng6) (.slice ao6 n6 cap6)), Lib.hid (HV6.out.put4B X3 (.bool ng5) (.slice ao5 n5 cap5) (.bool ng6) (.slice ao6 n6 cap6))⟩, Below.put4 hbw (by omega) (.bool ng5) (.slice ao5 n5 cap5) (.bool ng6) (.slice ao6 n6 cap6)⟩

set_option maxRecDepth 100000 in
set_option maxHeartbeats 1600000 in
theorem rAdd_qbig (va vb : Value) (a b : Rat) (w : World) (ha : RatV w va a) (hb : RatV w vb b) (hs : Hid (¬ AddS a b)) (hE : Env w) :
    Calls Tryz.prog 35 #[va, vb] w fun e w' => NoQ 3 e ∧ Below w.heap.size w w' := by
  have hE0 := hE
  have hbw := Below.refl w.heap.size w
  obtain ⟨ng1, ao1, n1, cap1, ng2, ao2, n2, cap2, rfl, h1, h2⟩ := ha
  have HV1 := Lib.hid h1
  have HV2 := Lib.hid h2
  clear h1 h2
  obtain ⟨ng3, ao3, n3, cap3, ng4, ao4, n4, cap4, rfl, h1, h2⟩ := hb
  have HV3 := Lib.hid h1
  have HV4 := Lib.hid h2
  clear h1 h2
  go_enter Tryz.func35, Tryz.ntmps35
  go_upto_region 1 with fail
  obtain ⟨wx, hwx, hszx, X1, X2, X3, hb⟩ := boxes_444 w (.bool ng1) (.slice ao1 n1 cap1) (.bool ng2) (.slice ao2 n2 cap2) 29 (.bool ng3) (.slice ao3 n3 cap3) (.bool ng4) (.slice ao4 n4 cap4) 29 (.bool false) (.slice none 0 0) (.bool false) (.slice none 0 0) 29
  rw [← hwx]
  clear hwx
  obtain ⟨v1, rfl⟩ : ∃ v1 : World, v1 = wx := ⟨_, rfl⟩
  have HV1 := Lib.hid (HV1.out.mono hb)
  have HV2 := Lib.hid (HV2.out.mono hb)
  have HV3 := Lib.hid (HV3.out.mono hb)
  have HV4 := Lib.hid (HV4.out.mono hb)
  have hE := hE.mono hb
  have hbw := Below.step hbw hb (Nat.le_refl _)
  clear hb
  obtain ⟨cX1_0, cX1_1, cX1_2, cX1_3, _, _, _, _⟩ := id X1
  obtain ⟨cX2_0, cX2_1, cX2_2, cX2_3, _, _, _, _⟩ := id X2
  go_wp2_with fail
  (with_reducible refine (sum_add_big _ _ a b v1 (RatV.mk' HV1 HV2) (RatV.mk' HV3 HV4) hs hE).mono ?_)
  rintro e v2 ⟨rfl, hb⟩
  have HV1 := Lib.hid (HV1.out.mono hb)
  have HV2 := Lib.hid (HV2.out.mono hb)
  have HV3 := Lib.hid (HV3.out.mono hb)
  have HV4 := Lib.hid (HV4.out.mono hb)
  have X1 := X1.mono hb
  have X2 := X2.mono hb
  have X3 := X3.mono hb
  have hE := hE.mono hb
  have hbw := Below.step hbw hb (Nat.le_refl _)
  clear hb
  clear cX1_0 cX1_1 cX1_2 cX1_3 cX2_0 cX2_1 cX2_2 cX2_3
  obtain ⟨cX3_0, cX3_1, cX3_2, cX3_3, _, _, _, _⟩ := id X3
  go_wp2
  refine bodyPost_ret (v := .tuple #[.agg #[.bool false, .slice none 0 0, .bool false, .slice none 0 0], .int .i64 3]) (by simp [results, Tryz.results35, go_sem, cX3_0, cX3_1, cX3_2, cX3_3]) rfl ⟨rfl, Below.put4 hbw (by omega) (.bool false) (.slice none 0 0) (.bool false) (.slice none 0 0)⟩

set_option maxRecDepth 100000 in
set_option maxHeartbeats 1600000 in
theorem sum_sub_0 (va vb : Value) (a b : Rat) (w : World) (ha : RatV w va a) (hb : RatV w vb b) (hs : Hid (¬ CrS a b)) (hE : Env w) :
    Calls Tryz.prog 78 #[va, vb, .bool true] w fun e w' => NoQ 3 e ∧ Below w.heap.size w w' := by
  have hE0 := hE
  have hbw := Below.refl w.heap.size w
  obtain ⟨ng1, ao1, n1, cap1, ng2, ao2, n2, cap2, rfl, h1, h2⟩ := ha
  have HV1 := Lib.hid h1
  have HV2 := Lib.hid h2
  clear h1 h2
  obtain ⟨ng3, ao3, n3, cap3, ng4, ao4, n4, cap4, rfl, h1, h2⟩ := hb
  have HV3 := Lib.hid h1
  have HV4 := Lib.hid h2
  clear h1 h2
  go_enter Tryz.func78, Tryz.ntmps78
  go_upto_region 1 with fail
  obtain ⟨wx, hwx, hszx, X1, X2, X3, hb⟩ := boxes_444 w (.bool ng1) (.slice ao1 n1 cap1) (.bool ng2) (.slice ao2 n2 cap2) 29 (.bool ng3) (.slice ao3 n3 cap3) (.bool ng4) (.slice ao4 n4 cap4) 29 (.bool false) (.slice none 0 0) (.bool false) (.slice none 0 0) 29
  rw [← hwx]
  clear hwx
  obtain ⟨v1, rfl⟩ : ∃ v1 : World, v1 = wx := ⟨_, rfl⟩
  have HV1 := Lib.hid (HV1.out.mono hb)
  have HV2 := Lib.hid (HV2.out.mono hb)
  have HV3 := Lib.hid (HV3.out.mono hb)
  have HV4 := Lib.hid (HV4.out.mono hb)
  have hE := hE.mono hb
  have hbw := Below.step hbw hb (Nat.le_refl _)
  clear hb
  obtain ⟨cX1_0, cX1_1, cX1_2, cX1_3, _, _, _, _⟩ := id X1
  obtain ⟨cX2_0, cX2_1, cX2_2, cX2_3, _, _, _, _⟩ := id X2
  go_wp2_with fail
  (with_reducible refine (cross_big _ _ a b v1 (RatV.mk' HV1 HV2) (RatV.mk' HV3 HV4) hs hE).mono ?_)
  rintro e v2 ⟨⟨z7, ng5, ao5, n5, cap5, ng6, ao6, n6, cap6, ng7, ao7, n7, cap7, rfl, HV5, HV6, HV7⟩, hb⟩
  have HV1 := Lib.hid (HV1.out.mono hb)
  have HV2 := Lib.hid (HV2.out.mono hb)
  have HV3 := Lib.hid (HV3.out.mono hb)
  have HV4 := Lib.hid (HV4.out.mono hb)
  have X1 := X1.mono hb
  have X2 := X2.mono hb
  have X3 := X3.mono hb
  have hE := hE.mono hb
  have hbw := Below.step hbw hb (Nat.le_refl _)
  clear hb
  clear cX1_0 cX1_1 cX1_2 cX1_3 cX2_0 cX2_1 cX2_2 cX2_3
  go_upto_region 2 with fail
  have lX5X1 := X1.lt
  have lX5X2 := X2.lt
  have lX5X3 := X3.lt
  obtain ⟨wx, hwx, hszx, X5, X6, X7, hb⟩ := boxes_222 v2 (.bool ng5) (.slice ao5 n5 cap5) 24 (.bool ng6) (.slice ao6 n6 cap6) 24 (.bool ng7) (.slice ao7 n7 cap7) 24
  rw [← hwx]
  clear hwx
  obtain ⟨v3, rfl⟩ : ∃ v3 : World, v3 = wx := ⟨_, rfl⟩
  have HV1 := Lib.hid (HV1.out.mono hb)
  have HV2 := Lib.hid (HV2.out.mono hb)
  have HV3 := Lib.hid (HV3.out.mono hb)
  have HV4 := Lib.hid (HV4.out.mono hb)
  have X1 := X1.mono hb
  have X2 := X2.mono hb
  have X3 := X3.mono hb
  have HV5 := Lib.hid (HV5.out.mono hb)
  have HV6 := Lib.hid (HV6.out.mono hb)
  have HV7 := Lib.hid (HV7.out.mono hb)
  have hE := hE.mono hb
  have hbw := Below.step hbw hb (Nat.le_refl _)
  clear hb
  obtain ⟨cX3_0, cX3_1, cX3_2, cX3_3, _, _, _, _⟩ := id X3
  go_wp2
  refine bodyPost_ret (v := .tuple #[.agg #[.bool false, .slice none 0 0, .bool false, .slice none 0 0], .int .i64 3]) (by simp [results, Tryz.results78, go_sem, cX3_0, cX3_1, cX3_2, cX3_3]) rfl ⟨rfl, Below.put4 hbw (by omega) (.bool false) (.slice none 0 0) (.bool false) (.slice none 0 0)⟩

set_option maxRecDepth 100000 in
set_option maxHeartbeats 1600000 in
theorem sum_sub_1 (va vb : Value) (a b : Rat) (w : World) (ha : RatV w va a) (hb : RatV w vb b) (hs : Hid (CrS a b ∧ ¬ Rq.Sm ((a.num * (b.den : Int)) - (b.num * (a.den : Int))))) (hE : Env w) :
    Calls Tryz.prog 78 #[va, vb, .bool true] w fun e w' => NoQ 3 e ∧ Below w.heap.size w w' := by
  have HN : Hid (¬ Rq.Sm ((a.num * (b.den : Int)) + (-(b.num * (a.den : Int))))) := Lib.hid (by rw [← Int.sub_eq_add_neg]; exact hs.out.2)
  have HCR : Hid (CrS a b) := Lib.hid hs.out.1
  have hE0 := hE
  have hbw := Below.refl w.heap.size w
  obtain ⟨ng1, ao1, n1, cap1, ng2, ao2, n2, cap2, rfl, h1, h2⟩ := ha
  have HV1 := Lib.hid h1
  have HV2 := Lib.hid h2
  clear h1 h2
  obtain ⟨ng3, ao3, n3, cap3, ng4, ao4, n4, cap4, rfl, h1, h2⟩ := hb
  have HV3 := Lib.hid h1
  have HV4 := Lib.hid h2
  clear h1 h2
  go_enter Tryz.func78, Tryz.ntmps78
  go_upto_region 1 with fail
  obtain ⟨wx, hwx, hszx, X1, X2, X3, hb⟩ := boxes_444 w (.bool ng1) (.slice ao1 n1 cap1) (.bool ng2) (.slice ao2 n2 cap2) 29 (.bool ng3) (.slice ao3 n3 cap3) (.bool ng4) (.slice ao4 n4 cap4) 29 (.bool false) (.slice none 0 0) (.bool false) (.slice none 0 0) 29
  rw [← hwx]
  clear hwx
  obtain ⟨v1, rfl⟩ : ∃ v1 : World, v1 = wx := ⟨_, rfl⟩
  have HV1 := Lib.hid (HV1.out.mono hb)
  have HV2 := Lib.hid (HV2.out.mono hb)
  have HV3 := Lib.hid (HV3.out.mono hb)
  have HV4 := Lib.hid (HV4.out.mono hb)
  have hE := hE.mono hb
  have hbw := Below.step hbw hb (Nat.le_refl _)
  clear hb
  obtain ⟨cX1_0, cX1_1, cX1_2, cX1_3, _, _, _, _⟩ := id X1
  obtain ⟨cX2_0, cX2_1, cX2_2, cX2_3, _, _, _, _⟩ := id X2
  go_wp2_with fail
  (with_reducible refine (cross_any _ _ a b v1 (RatV.mk' HV1 HV2) (RatV.mk' HV3 HV4) HCR hE).mono ?_)
  rintro e v2 ⟨⟨z7, ng5, ao5, n5, cap5, ng6, ao6, n6, cap6, ng7, ao7, n7, cap7, rfl, HV5, HV6, HV7⟩, hb⟩
  have HV1 := Lib.hid (HV1.out.mono hb)
  have HV2 := Lib.hid (HV2.out.mono hb)
  have HV3 := Lib.hid (HV3.out.mono hb)
  have HV4 := Lib.hid (HV4.out.mono hb)
  have X1 := X1.mono hb
  have X2 := X2.mono hb
  have X3 := X3.mono hb
  have hE := hE.mono hb
  have hbw := Below.step hbw hb (Nat.le_refl _)
  clear hb
  clear cX1_0 cX1_1 cX1_2 cX1_3 cX2_0 cX2_1 cX2_2 cX2_3
  go_upto_region 2 with fail
  have lX5X1 := X1.lt
  have lX5X2 := X2.lt
  have lX5X3 := X3.lt
  obtain ⟨wx, hwx, hszx, X5, X6, X7, hb⟩ := boxes_222 v2 (.bool ng5) (.slice ao5 n5 cap5) 24 (.bool ng6) (.slice ao6 n6 cap6) 24 (.bool ng7) (.slice ao7 n7 cap7) 24
  rw [← hwx]
  clear hwx
  obtain ⟨v3, rfl⟩ : ∃ v3 : World, v3 = wx := ⟨_, rfl⟩
  have HV1 := Lib.hid (HV1.out.mono hb)
  have HV2 := Lib.hid (HV2.out.mono hb)
  have HV3 := Lib.hid (HV3.out.mono hb)
  have HV4 := Lib.hid (HV4.out.mono hb)
  have X1 := X1.mono hb
  have X2 := X2.mono hb
  have X3 := X3.mono hb
  have HV5 := Lib.hid (HV5.out.mono hb)
  have HV6 := Lib.hid (HV6.out.mono hb)
  have HV7 := Lib.hid (HV7.out.mono hb)
  have hE := hE.mono hb
  have hbw := Below.step hbw hb (Nat.le_refl _)
  clear hb
  obtain ⟨cX6_0, cX6_1, _, _⟩ := id X6
  go_wp2_with fail
  (with_reducible refine (neg_any _ (b.num * (a.den : Int)) v3 HV6.out).mono ?_)
  rintro e v4 ⟨⟨ng9, ao9, n9, cap9, rfl, HV9⟩, hb⟩
  have HV1 := Lib.hid (HV1.out.mono hb)
  have HV2 := Lib.hid (HV2.out.mono hb)
  have HV3 := Lib.hid (HV3.out.mono hb)
  have HV4 := Lib.hid (HV4.out.mono hb)
  have X1 := X1.mono hb
  have X2 := X2.mono hb
  have X3 := X3.mono hb
  have HV5 := Lib.hid (HV5.out.mono hb)
  have HV6 := Lib.hid (HV6.out.mono hb)
  have HV7 := Lib.hid (HV7.out.mono hb)
  have X5 := X5.mono hb
  have X6 := X6.mono hb
  have X7 := X7.mono hb
  have hE := hE.mono hb
  have hbw := Below.step hbw hb (Nat.le_refl _)
  clear hb
  clear cX6_0 cX6_1
  obtain ⟨cX6_0, cX6_1, _, _⟩ := id X6
  go_upto_region 6 with fail
  clear cX6_0 cX6_1
  have HV1 := Lib.hid (HV1.out.put2B X6 (.bool ng9) (.slice ao9 n9 cap9))
  have HV2 := Lib.hid (HV2.out.put2B X6 (.bool ng9) (.slice ao9 n9 cap9))
  have HV3 := Lib.hid (HV3.out.put2B X6 (.bool ng9) (.slice ao9 n9 cap9))
  have HV4 := Lib.hid (HV4.out.put2B X6 (.bool ng9) (.slice ao9 n9 cap9))
  have X1 := X1.other2 (u := .bool ng9) (v := .slice ao9 n9 cap9) (show w.heap.size ≠ v2.heap.size + 1 by omega)
  have X2 := X2.other2 (u := .bool ng9) (v := .slice ao9 n9 cap9) (show w.heap.size + 1 ≠ v2.heap.size + 1 by omega)
  have X3 := X3.other2 (u := .bool ng9) (v := .slice ao9 n9 cap9) (show w.heap.size + 1 + 1 ≠ v2.heap.size + 1 by omega)
  have HV5 := Lib.hid (HV5.out.put2B X6 (.bool ng9) (.slice ao9 n9 cap9))
  have HV6 := Lib.hid (HV6.out.put2B X6 (.bool ng9) (.slice ao9 n9 cap9))
  have HV7 := Lib.hid (HV7.out.put2B X6 (.bool ng9) (.slice ao9 n9 cap9))
  have X5 := X5.other2 (u := .bool ng9) (v := .slice ao9 n9 cap9) (show v2.heap.size ≠ v2.heap.size + 1 by omega)
  have X7 := X7.other2 (u := .bool ng9) (v := .slice ao9 n9 cap9) (show v2.heap.size + 1 + 1 ≠ v2.heap.size + 1 by omega)
  have HV9 := Lib.hid (HV9.out.put2B X6 (.bool ng9) (.slice ao9 n9 cap9))
  have X6 := X6.set2I (.bool ng9) (.slice ao9 n9 cap9)
  have hbw := Below.put2 hbw (n := v2.heap.size + 1) (by omega) (.bool ng9) (.slice ao9 n9 cap9)
  have hE := hE0.mono hbw
  generalize ((v4.setCell ⟨v2.heap.size + 1, 0, none⟩ (.bool ng9)).setCell ⟨v2.heap.size + 1, 1, none⟩ (.slice ao9 n9 cap9)) = v5 at *
  obtain ⟨cX5_0, cX5_1, _, _⟩ := id X5
  obtain ⟨cX6_0, cX6_1, _, _⟩ := id X6
  go_wp2_with fail
  (with_reducible refine (rAdd_big _ _ (a.num * (b.den : Int)) (-(b.num * (a.den : Int))) v5 HV5.out HV9.out HN).mono ?_)
  rintro e v6 ⟨rfl, hb⟩
  have HV1 := Lib.hid (HV1.out.mono hb)
  have HV2 := Lib.hid (HV2.out.mono hb)
  have HV3 := Lib.hid (HV3.out.mono hb)
  have HV4 := Lib.hid (HV4.out.mono hb)
  have X1 := X1.mono hb
  have X2 := X2.mono hb
  have X3 := X3.mono hb
  have HV5 := Lib.hid (HV5.out.mono hb)
  have HV6 := Lib.hid (HV6.out.mono hb)
  have HV7 := Lib.hid (HV7.out.mono hb)
  have X5 := X5.mono hb
  have X6 := X6.mono hb
  have X7 := X7.mono hb
  have HV9 := Lib.hid (HV9.out.mono hb)
  have hE := hE.mono hb
  have hbw := Below.step hbw hb (Nat.le_refl _)
  clear hb
  clear cX5_0 cX5_1 cX6_0 cX6_1
  go_upto_region 7 with fail
  have lX8X1 := X1.lt
  have lX8X2 := X2.lt
  have lX8X3 := X3.lt
  have lX8X5 := X5.lt
  have lX8X6 := X6.lt
  have lX8X7 := X7.lt
  have X8 := Box.new v6 (.bool false) (.slice none 0 0) 24
  have hb := below_alloc v6 (.cells #[.bool false, .slice none 0 0] 24)
  generalize v6.alloc (.cells #[.bool false, .slice none 0 0] 24) = v7 at *
  have HV1 := Lib.hid (HV1.out.mono hb)
  have HV2 := Lib.hid (HV2.out.mono hb)
  have HV3 := Lib.hid (HV3.out.mono hb)
  have HV4 := Lib.hid (HV4.out.mono hb)
  have X1 := X1.mono hb
  have X2 := X2.mono hb
  have X3 := X3.mono hb
  have HV5 := Lib.hid (HV5.out.mono hb)
  have HV6 := Lib.hid (HV6.out.mono hb)
  have HV7 := Lib.hid (HV7.out.mono hb)
  have X5 := X5.mono hb
  have X6 := X6.mono hb
  have X7 := X7.mono hb
  have HV9 := Lib.hid (HV9.out.mono hb)
  have hE := hE.mono hb
  have hbw := Below.step hbw hb (Nat.le_refl _)
  clear hb
  obtain ⟨cX3_0, cX3_1, cX3_2, cX3_3, _, _, _, _⟩ := id X3
  go_wp2
  refine bodyPost_ret (v := .tuple #[.agg #[.bool false, .slice none 0 0, .bool false, .slice none 0 0], .int .i64 3]) (by simp [results, Tryz.results78, go_sem, cX3_0, cX3_1, cX3_2, cX3_3]) rfl ⟨rfl, Below.put4 hbw (by omega) (.bool false) (.slice none 0 0) (.bool false) (.slice none 0 0)⟩

set_option maxRecDepth 100000 in
set_option maxHeartbeats 1600000 in
theorem sum_sub_2 (va vb : Value) (a b : Rat) (w : World) (ha : RatV w va a) (hb : RatV w vb b) (hs : Hid (CrS a b ∧ Rq.Sm ((a.num * (b.den : Int)) - (b.num * (a.den : Int))) ∧ ¬ Rq.Sm ((a.den : Int) * (b.den : Int)))) (hE : Env w) :
    Calls Tryz.prog 78 #[va, vb, .bool true] w fun e w' => NoQ 3 e ∧ Below w.heap.size w w' := by
  have HN : Hid (Rq.Sm ((a.num * (b.den : Int)) + (-(b.num * (a.den : Int))))) := Lib.hid (by rw [← Int.sub_eq_add_neg]; exact hs.out.2.1)
  have HCR : Hid (CrS a b) := Lib.hid hs.out.1
  have HCD : Hid ((Rq.Sm (a.num * (b.den : Int)) ∧ Rq.Sm (b.num * (a.den : Int))) ∧ ¬ Rq.Sm ((a.den : Int) * (b.den : Int))) := Lib.hid ⟨hs.out.1, hs.out.2.2⟩
  have hE0 := hE
  have hbw := Below.refl w.heap.size w
  obtain ⟨ng1, ao1, n1, cap1, ng2, ao2, n2, cap2, rfl, h1, h2⟩ := ha
  have HV1 := Lib.hid h1
  have HV2 := Lib.hid h2
  clear h1 h2
  obtain ⟨ng3, ao3, n3, cap3, ng4, ao4, n4, cap4, rfl, h1, h2⟩ := hb
  have HV3 := Lib.hid h1
  have HV4 := Lib.hid h2
  clear h1 h2
  go_enter Tryz.func78, Tryz.ntmps78
  go_upto_region 1 with fail
  obtain ⟨wx, hwx, hszx, X1, X2, X3, hb⟩ := boxes_444 w (.bool ng1) (.slice ao1 n1 cap1) (.bool ng2) (.slice ao2 n2 cap2) 29 (.bool ng3) (.slice ao3 n3 cap3) (.bool ng4) (.slice ao4 n4 cap4) 29 (.bool false) (.slice none 0 0) (.bool false) (.slice none 0 0) 29
  rw [← hwx]
  clear hwx
  obtain ⟨v1, rfl⟩ : ∃ v1 : World, v1 = wx := ⟨_, rfl⟩
  have HV1 := Lib.hid (HV1.out.mono hb)
  have HV2 := Lib.hid (HV2.out.mono hb)
  have HV3 := Lib.hid (HV3.out.mono hb)
  have HV4 := Lib.hid (HV4.out.mono hb)
  have hE := hE.mono hb
  have hbw := Below.step hbw hb (Nat.le_refl _)
  clear hb
  obtain ⟨cX1_0, cX1_1, cX1_2, cX1_3, _, _, _, _⟩ := id X1
  obtain ⟨cX2_0, cX2_1, cX2_2, cX2_3, _, _, _, _⟩ := id X2
  go_wp2_with fail
  (with_reducible refine (cross_z _ _ a b v1 (RatV.mk' HV1 HV2) (RatV.mk' HV3 HV4) HCD hE).mono ?_)
  rintro e v2 ⟨⟨ng5, ao5, n5, cap5, ng6, ao6, n6, cap6, ng7, ao7, n7, cap7, rfl, HV5, HV6, HV7⟩, hb⟩
  have HV1 := Lib.hid (HV1.out.mono hb)
  have HV2 := Lib.hid (HV2.out.mono hb)
  have HV3 := Lib.hid (HV3.out.mono hb)
  have HV4 := Lib.hid (HV4.out.mono hb)
  have X1 := X1.mono hb
  have X2 := X2.mono hb
  have X3 := X3.mono hb
  have hE := hE.mono hb
  have hbw := Below.step hbw hb (Nat.le_refl _)
  clear hb
  clear cX1_0 cX1_1 cX1_2 cX1_3 cX2_0 cX2_1 cX2_2 cX2_3
  go_upto_region 2 with fail
  have lX5X1 := X1.lt
  have lX5X2 := X2.lt
  have lX5X3 := X3.lt
  obtain ⟨wx, hwx, hszx, X5, X6, X7, hb⟩ := boxes_222 v2 (.bool ng5) (.slice ao5 n5 cap5) 24 (.bool ng6) (.slice ao6 n6 cap6) 24 (.bool ng7) (.slice ao7 n7 cap7) 24
  rw [← hwx]
  clear hwx
  obtain ⟨v3, rfl⟩ : ∃ v3 : World, v3 = wx := ⟨_, rfl⟩
  have HV1 := Lib.hid (HV1.out.mono hb)
  have HV2 := Lib.hid (HV2.out.mono hb)
  have HV3 := Lib.hid (HV3.out.mono hb)
  have HV4 := Lib.hid (HV4.out.mono hb)
  have X1 := X1.mono hb
  have X2 := X2.mono hb
  have X3 := X3.mono hb
  have HV5 := Lib.hid (HV5.out.mono hb)
  have HV6 := Lib.hid (HV6.out.mono hb)
  have HV7 := Lib.hid (HV7.out.mono hb)
  have hE := hE.mono hb
  have hbw := Below.step hbw hb (Nat.le_refl _)
  clear hb
  obtain ⟨cX6_0, cX6_1, _, _⟩ := id X6
  go_wp2_with fail
  (with_reducible refine (neg_any _ (b.num * (a.den : Int)) v3 HV6.out).mono ?_)
  rintro e v4 ⟨⟨ng9, ao9, n9, cap9, rfl, HV9⟩, hb⟩
  have HV1 := Lib.hid (HV1.out.mono hb)
  have HV2 := Lib.hid (HV2.out.mono hb)
  have HV3 := Lib.hid (HV3.out.mono hb)
  have HV4 := Lib.hid (HV4.out.mono hb)
  have X1 := X1.mono hb
  have X2 := X2.mono hb
  have X3 := X3.mono hb
  have HV5 := Lib.hid (HV5.out.mono hb)
  have HV6 := Lib.hid (HV6.out.mono hb)
  have HV7 := Lib.hid (HV7.out.mono hb)
  have X5 := X5.mono hb
  have X6 := X6.mono hb
  have X7 := X7.mono hb
  have hE := hE.mono hb
  have hbw := Below.step hbw hb (Nat.le_refl _)
  clear hb
  clear cX6_0 cX6_1
  obtain ⟨cX6_0, cX6_1, _, _⟩ := id X6
  go_upto_region 6 with fail
  clear cX6_0 cX6_1
  have HV1 := Lib.hid (HV1.out.put2B X6 (.bool ng9) (.slice ao9 n9 cap9))
  have HV2 := Lib.hid (HV2.out.put2B X6 (.bool ng9) (.slice ao9 n9 cap9))
  have HV3 := Lib.hid (HV3.out.put2B X6 (.bool ng9) (.slice ao9 n9 cap9))
  have HV4 := Lib.hid (HV4.out.put2B X6 (.bool ng9) (.slice ao9 n9 cap9))
  have X1 := X1.other2 (u := .bool ng9) (v := .slice ao9 n9 cap9) (show w.heap.size ≠ v2.heap.size + 1 by omega)
  have X2 := X2.other2 (u := .bool ng9) (v := .slice ao9 n9 cap9) (show w.heap.size + 1 ≠ v2.heap.size + 1 by omega)
  have X3 := X3.other2 (u := .bool ng9) (v := .slice ao9 n9 cap9) (show w.heap.size + 1 + 1 ≠ v2.heap.size + 1 by omega)
  have HV5 := Lib.hid (HV5.out.put2B X6 (.bool ng9) (.slice ao9 n9 cap9))
  have HV6 := Lib.hid (HV6.out.put2B X6 (.bool ng9) (.slice ao9 n9 cap9))
  have HV7 := Lib.hid (HV7.out.put2B X6 (.bool ng9) (.slice ao9 n9 cap9))
  have X5 := X5.other2 (u := .bool ng9) (v := .slice ao9 n9 cap9) (show v2.heap.size ≠ v2.heap.size + 1 by omega)
  have X7 := X7.other2 (u := .bool ng9) (v := .slice ao9 n9 cap9) (show v2.heap.size + 1 + 1 ≠ v2.heap.size + 1 by omega)
  have HV9 := Lib.hid (HV9.out.put2B X6 (.bool ng9) (.slice ao9 n9 cap9))
  have X6 := X6.set2I (.bool ng9) (.slice ao9 n9 cap9)
  have hbw := Below.put2 hbw (n := v2.heap.size + 1) (by omega) (.bool ng9) (.slice ao9 n9 cap9)
  have hE := hE0.mono hbw
  generalize ((v4.setCell ⟨v2.heap.size + 1, 0, none⟩ (.bool ng9)).setCell ⟨v2.heap.size + 1, 1, none⟩ (.slice ao9 n9 cap9)) = v5 at *
  obtain ⟨cX5_0, cX5_1, _, _⟩ := id X5
  obtain ⟨cX6_0, cX6_1, _, _⟩ := id X6
  go_wp2_with fail
  (with_reducible refine (rAdd_ok _ _ (a.num * (b.den : Int)) (-(b.num * (a.den : Int))) v5 HV5.out HV9.out HN).mono ?_)
  rintro e v6 ⟨⟨ng8, ao8, n8, cap8, rfl, HV8⟩, hb⟩
  have HV1 := Lib.hid (HV1.out.mono hb)
  have HV2 := Lib.hid (HV2.out.mono hb)
  have HV3 := Lib.hid (HV3.out.mono hb)
  have HV4 := Lib.hid (HV4.out.mono hb)
  have X1 := X1.mono hb
  have X2 := X2.mono hb
  have X3 := X3.mono hb
  have HV5 := Lib.hid (HV5.out.mono hb)
  have HV6 := Lib.hid (HV6.out.mono hb)
  have HV7 := Lib.hid (HV7.out.mono hb)
  have X5 := X5.mono hb
  have X6 := X6.mono hb
  have X7 := X7.mono hb
  have HV9 := Lib.hid (HV9.out.mono hb)
  have hE := hE.mono hb
  have hbw := Below.step hbw hb (Nat.le_refl _)
  clear hb
  clear cX5_0 cX5_1 cX6_0 cX6_1
  go_upto_region 7 with fail
  have lX8X1 := X1.lt
  have lX8X2 := X2.lt
  have lX8X3 := X3.lt
  have lX8X5 := X5.lt
  have lX8X6 := X6.lt
  have lX8X7 := X7.lt
  have X8 := Box.new v6 (.bool ng8) (.slice ao8 n8 cap8) 24
  have hb := below_alloc v6 (.cells #[.bool ng8, .slice ao8 n8 cap8] 24)
  generalize v6.alloc (.cells #[.bool ng8, .slice ao8 n8 cap8] 24) = v7 at *
  have HV1 := Lib.hid (HV1.out.mono hb)
  have HV2 := Lib.hid (HV2.out.mono hb)
  have HV3 := Lib.hid (HV3.out.mono hb)
  have HV4 := Lib.hid (HV4.out.mono hb)
  have X1 := X1.mono hb
  have X2 := X2.mono hb
  have X3 := X3.mono hb
  have HV5 := Lib.hid (HV5.out.mono hb)
  have HV6 := Lib.hid (HV6.out.mono hb)
  have HV7 := Lib.hid (HV7.out.mono hb)
  have X5 := X5.mono hb
  have X6 := X6.mono hb
  have X7 := X7.mono hb
  have HV9 := Lib.hid (HV9.out.mono hb)
  have HV8 := Lib.hid (HV8.out.mono hb)
  have hE := hE.mono hb
  have hbw := Below.step hbw hb (Nat.le_refl _)
  clear hb
  obtain ⟨cX7_0, cX7_1, _, _⟩ := id X7
  go_wp2_with fail
  (with_reducible refine (rSign_eq _ 0 0 v7 (Lib.hid rfl) HV7.out).mono ?_)
  rintro e v8 ⟨rfl, hb⟩
  have HV1 := Lib.hid (HV1.out.mono hb)
  have HV2 := Lib.hid (HV2.out.mono hb)
  have HV3 := Lib.hid (HV3.out.mono hb)
  have HV4 := Lib.hid (HV4.out.mono hb)
  have X1 := X1.mono hb
  have X2 := X2.mono hb
  have X3 := X3.mono hb
  have HV5 := Lib.hid (HV5.out.mono hb)
  have HV6 := Lib.hid (HV6.out.mono hb)
  have HV7 := Lib.hid (HV7.out.mono hb)
  have X5 := X5.mono hb
  have X6 := X6.mono hb
  have X7 := X7.mono hb
  have HV9 := Lib.hid (HV9.out.mono hb)
  have HV8 := Lib.hid (HV8.out.mono hb)
  have X8 := X8.mono hb
  have hE := hE.mono hb
  have hbw := Below.step hbw hb (Nat.le_refl _)
  clear hb
  clear cX7_0 cX7_1
  obtain ⟨cX3_0, cX3_1, cX3_2, cX3_3, _, _, _, _⟩ := id X3
  go_wp2
  refine bodyPost_ret (v := .tuple #[.agg #[.bool false, .slice none 0 0, .bool false, .slice none 0 0], .int .i64 3]) (by simp [results, Tryz.results78, go_sem, cX3_0, cX3_1, cX3_2, cX3_3]) rfl ⟨rfl, Below.put4 hbw (by omega) (.bool false) (.slice none 0 0) (.bool false) (.slice none 0 0)⟩

set_option maxRecDepth 100000 in
set_option maxHeartbeats 1600000 in
theorem sum_sub_3 (va vb : Value) (a b : Rat) (w : World) (ha : RatV w va a) (hb : RatV w vb b) (hs : Hid (CrS a b ∧ Rq.Sm ((a.num * (b.den : Int)) - (b.num * (a.den : Int))) ∧ Rq.Sm ((a.den : Int) * (b.den : Int)))) (hE : Env w) :
    Calls Tryz.prog 78 #[va, vb, .bool true] w fun e w' => GotQ w' (a - b) e ∧ Below w.heap.size w w' := by
  have HN : Hid (Rq.Sm ((a.num * (b.den : Int)) + (-(b.num * (a.den : Int))))) := Lib.hid (by rw [← Int.sub_eq_add_neg]; exact hs.out.2.1)
  have HCR : Hid (CrS a b) := Lib.hid hs.out.1
  have HCD : Hid ((Rq.Sm (a.num * (b.den : Int)) ∧ Rq.Sm (b.num * (a.den : Int))) ∧ Rq.Sm ((a.den : Int) * (b.den : Int))) := Lib.hid ⟨hs.out.1, hs.out.2.2⟩
  have hE0 := hE
  have hbw := Below.refl w.heap.size w
  obtain ⟨ng1, ao1, n1, cap1, ng2, ao2, n2, cap2, rfl, h1, h2⟩ := ha
  have HV1 := Lib.hid h1
  have HV2 := Lib.hid h2
  clear h1 h2
  obtain ⟨ng3, ao3, n3, cap3, ng4, ao4, n4, cap4, rfl, h1, h2⟩ := hb
  have HV3 := Lib.hid h1
  have HV4 := Lib.hid h2
  clear h1 h2
  go_enter Tryz.func78, Tryz.ntmps78
  go_upto_region 1 with fail
  obtain ⟨wx, hwx, hszx, X1, X2, X3, hb⟩ := boxes_444 w (.bool ng1) (.slice ao1 n1 cap1) (.bool ng2) (.slice ao2 n2 cap2) 29 (.bool ng3) (.slice ao3 n3 cap3) (.bool ng4) (.slice ao4 n4 cap4) 29 (.bool false) (.slice none 0 0) (.bool false) (.slice none 0 0) 29
  rw [← hwx]
  clear hwx
  obtain ⟨v1, rfl⟩ : ∃ v1 : World, v1 = wx := ⟨_, rfl⟩
  have HV1 := Lib.hid (HV1.out.mono hb)
  have HV2 := Lib.hid (HV2.out.mono hb)
  have HV3 := Lib.hid (HV3.out.mono hb)
  have HV4 := Lib.hid (HV4.out.mono hb)
  have hE := hE.mono hb
  have hbw := Below.step hbw hb (Nat.le_refl _)
  clear hb
  obtain ⟨cX1_0, cX1_1, cX1_2, cX1_3, _, _, _, _⟩ := id X1
  obtain ⟨cX2_0, cX2_1, cX2_2, cX2_3, _, _, _, _⟩ := id X2
  go_wp2_with fail
  (with_reducible refine (cross_ok _ _ a b v1 (RatV.mk' HV1 HV2) (RatV.mk' HV3 HV4) HCD hE).mono ?_)
  rintro e v2 ⟨⟨ng5, ao5, n5, cap5, ng6, ao6, n6, cap6, ng7, ao7, n7, cap7, rfl, HV5, HV6, HV7⟩, hb⟩
  have HV1 := Lib.hid (HV1.out.mono hb)
  have HV2 := Lib.hid (HV2.out.mono hb)
  have HV3 := Lib.hid (HV3.out.mono hb)
  have HV4 := Lib.hid (HV4.out.mono hb)
  have X1 := X1.mono hb
  have X2 := X2.mono hb
  have X3 := X3.mono hb
  have hE := hE.mono hb
  have hbw := Below.step hbw hb (Nat.le_refl _)
  clear hb
  clear cX1_0 cX1_1 cX1_2 cX1_3 cX2_0 cX2_1 cX2_2 cX2_3
  go_upto_region 2 with fail
  have lX5X1 := X1.lt
  have lX5X2 := X2.lt
  have lX5X3 := X3.lt
  obtain ⟨wx, hwx, hszx, X5, X6, X7, hb⟩ := boxes_222 v2 (.bool ng5) (.slice ao5 n5 cap5) 24 (.bool ng6) (.slice ao6 n6 cap6) 24 (.bool ng7) (.slice ao7 n7 cap7) 24
  rw [← hwx]
  clear hwx
  obtain ⟨v3, rfl⟩ : ∃ v3 : World, v3 = wx := ⟨_, rfl⟩
  have HV1 := Lib.hid (HV1.out.mono hb)
  have HV2 := Lib.hid (HV2.out.mono hb)
  have HV3 := Lib.hid (HV3.out.mono hb)
  have HV4 := Lib.hid (HV4.out.mono hb)
  have X1 := X1.mono hb
  have X2 := X2.mono hb
  have X3 := X3.mono hb
  have HV5 := Lib.hid (HV5.out.mono hb)
  have HV6 := Lib.hid (HV6.out.mono hb)
  have HV7 := Lib.hid (HV7.out.mono hb)
  have hE := hE.mono hb
  have hbw := Below.step hbw hb (Nat.le_refl _)
  clear hb
  obtain ⟨cX6_0, cX6_1, _, _⟩ := id X6
  go_wp2_with fail
  (with_reducible refine (neg_any _ (b.num * (a.den : Int)) v3 HV6.out).mono ?_)
  rintro e v4 ⟨⟨ng9, ao9, n9, cap9, rfl, HV9⟩, hb⟩
  have HV1 := Lib.hid (HV1.out.mono hb)
  have HV2 := Lib.hid (HV2.out.mono hb)
  have HV3 := Lib.hid (HV3.out.mono hb)
  have HV4 := Lib.hid (HV4.out.mono hb)
  have X1 := X1.mono hb
  have X2 := X2.mono hb
  have X3 := X3.mono hb
  have HV5 := Lib.hid (HV5.out.mono hb)
  have HV6 := Lib.hid (HV6.out.mono hb)
  have HV7 := Lib.hid (HV7.out.mono hb)
  have X5 := X5.mono hb
  have X6 := X6.mono hb
  have X7 := X7.mono hb
  have hE := hE.mono hb
  have hbw := Below.step hbw hb (Nat.le_refl _)
  clear hb
  clear cX6_0 cX6_1
  obtain ⟨cX6_0, cX6_1, _, _⟩ := id X6
  go_upto_region 6 with fail
  clear cX6_0 cX6_1
  have HV1 := Lib.hid (HV1.out.put2B X6 (.bool ng9) (.slice ao9 n9 cap9))
  have HV2 := Lib.hid (HV2.out.put2B X6 (.bool ng9) (.slice ao9 n9 cap9))
  have HV3 := Lib.hid (HV3.out.put2B X6 (.bool ng9) (.slice ao9 n9 cap9))
  have HV4 := Lib.hid (HV4.out.put2B X6 (.bool ng9) (.slice ao9 n9 cap9))
  have X1 := X1.other2 (u := .bool ng9) (v := .slice ao9 n9 cap9) (show w.heap.size ≠ v2.heap.size + 1 by omega)
  have X2 := X2.other2 (u := .bool ng9) (v := .slice ao9 n9 cap9) (show w.heap.size + 1 ≠ v2.heap.size + 1 by omega)
  have X3 := X3.other2 (u := .bool ng9) (v := .slice ao9 n9 cap9) (show w.heap.size + 1 + 1 ≠ v2.heap.size + 1 by omega)
  have HV5 := Lib.hid (HV5.out.put2B X6 (.bool ng9) (.slice ao9 n9 cap9))
  have HV6 := Lib.hid (HV6.out.put2B X6 (.bool ng9) (.slice ao9 n9 cap9))
  have HV7 := Lib.hid (HV7.out.put2B X6 (.bool ng9) (.slice ao9 n9 cap9))
  have X5 := X5.other2 (u := .bool ng9) (v := .slice ao9 n9 cap9) (show v2.heap.size ≠ v2.heap.size + 1 by omega)
  have X7 := X7.other2 (u := .bool ng9) (v := .slice ao9 n9 cap9) (show v2.heap.size + 1 + 1 ≠ v2.heap.size + 1 by omega)
  have HV9 := Lib.hid (HV9.out.put2B X6 (.bool ng9) (.slice ao9 n9 cap9))
  have X6 := X6.set2I (.bool ng9) (.slice ao9 n9 cap9)
  have hbw := Below.put2 hbw (n := v2.heap.size + 1) (by omega) (.bool ng9) (.slice ao9 n9 cap9)
  have hE := hE0.mono hbw
  generalize ((v4.setCell ⟨v2.heap.size + 1, 0, none⟩ (.bool ng9)).setCell ⟨v2.heap.size + 1, 1, none⟩ (.slice ao9 n9 cap9)) = v5 at *
  obtain ⟨cX5_0, cX5_1, _, _⟩ := id X5
  obtain ⟨cX6_0, cX6_1, _, _⟩ := id X6
  go_wp2_with fail
  (with_reducible refine (rAdd_ok _ _ (a.num * (b.den : Int)) (-(b.num * (a.den : Int))) v5 HV5.out HV9.out HN).mono ?_)
  rintro e v6 ⟨⟨ng8, ao8, n8, cap8, rfl, HV8⟩, hb⟩
  have HV1 := Lib.hid (HV1.out.mono hb)
  have HV2 := Lib.hid (HV2.out.mono hb)
  have HV3 := Lib.hid (HV3.out.mono hb)
  have HV4 := Lib.hid (HV4.out.mono hb)
  have X1 := X1.mono hb
  have X2 := X2.mono hb
  have X3 := X3.mono hb
  have HV5 := Lib.hid (HV5.out.mono hb)
  have HV6 := Lib.hid (HV6.out.mono hb)
  have HV7 := Lib.hid (HV7.out.mono hb)
  have X5 := X5.mono hb
  have X6 := X6.mono hb
  have X7 := X7.mono hb
  have HV9 := Lib.hid (HV9.out.mono hb)
  have hE := hE.mono hb
  have hbw := Below.step hbw hb (Nat.le_refl _)
  clear hb
  clear cX5_0 cX5_1 cX6_0 cX6_1
  go_upto_region 7 with fail
  have lX8X1 := X1.lt
  have lX8X2 := X2.lt
  have lX8X3 := X3.lt
  have lX8X5 := X5.lt
  have lX8X6 := X6.lt
  have lX8X7 := X7.lt
  have X8 := Box.new v6 (.bool ng8) (.slice ao8 n8 cap8) 24
  have hb := below_alloc v6 (.cells #[.bool ng8, .slice ao8 n8 cap8] 24)
  generalize v6.alloc (.cells #[.bool ng8, .slice ao8 n8 cap8] 24) = v7 at *
  have HV1 := Lib.hid (HV1.out.mono hb)
  have HV2 := Lib.hid (HV2.out.mono hb)
  have HV3 := Lib.hid (HV3.out.mono hb)
  have HV4 := Lib.hid (HV4.out.mono hb)
  have X1 := X1.mono hb
  have X2 := X2.mono hb
  have X3 := X3.mono hb
  have HV5 := Lib.hid (HV5.out.mono hb)
  have HV6 := Lib.hid (HV6.out.mono hb)
  have HV7 := Lib.hid (HV7.out.mono hb)
  have X5 := X5.mono hb
  have X6 := X6.mono hb
  have X7 := X7.mono hb
  have HV9 := Lib.hid (HV9.out.mono hb)
  have HV8 := Lib.hid (HV8.out.mono hb)
  have hE := hE.mono hb
  have hbw := Below.step hbw hb (Nat.le_refl _)
  clear hb
  have HS1 : Hid (sgnI ((a.den : Int) * (b.den : Int)) = 1) := Lib.hid (by have h1 := Rq.den_gt a; have h2 := Rq.den_gt b; have := Int.mul_pos h1 h2; unfold sgnI; rw [if_neg (by omega), if_neg (by omega)])
  obtain ⟨cX7_0, cX7_1, _, _⟩ := id X7
  go_wp2_with fail
  (with_reducible refine (rSign_eq _ ((a.den : Int) * (b.den : Int)) 1 v7 HS1 HV7.out).mono ?_)
  rintro e v8 ⟨rfl, hb⟩
  have HV1 := Lib.hid (HV1.out.mono hb)
  have HV2 := Lib.hid (HV2.out.mono hb)
  have HV3 := Lib.hid (HV3.out.mono hb)
  have HV4 := Lib.hid (HV4.out.mono hb)
  have X1 := X1.mono hb
  have X2 := X2.mono hb
  have X3 := X3.mono hb
  have HV5 := Lib.hid (HV5.out.mono hb)
  have HV6 := Lib.hid (HV6.out.mono hb)
  have HV7 := Lib.hid (HV7.out.mono hb)
  have X5 := X5.mono hb
  have X6 := X6.mono hb
  have X7 := X7.mono hb
  have HV9 := Lib.hid (HV9.out.mono hb)
  have HV8 := Lib.hid (HV8.out.mono hb)
  have X8 := X8.mono hb
  have hE := hE.mono hb
  have hbw := Below.step hbw hb (Nat.le_refl _)
  clear hb
  clear cX7_0 cX7_1
  obtain ⟨cX7_0, cX7_1, _, _⟩ := id X7
  obtain ⟨cX8_0, cX8_1, _, _⟩ := id X8
  go_wp2_with fail
  (with_reducible refine (rMake_ok _ _ ((a.num * (b.den : Int)) + (-(b.num * (a.den : Int)))) ((a.den : Int) * (b.den : Int)) v8 HV8.out HV7.out (Lib.hid (dd_ne a b)) hE).mono ?_)
  rintro e v9 ⟨⟨ngA, aoA, nA, capA, ngB, aoB, nB, capB, rfl, HVA, HVB⟩, hb⟩
  have HV1 := Lib.hid (HV1.out.mono hb)
  have HV2 := Lib.hid (HV2.out.mono hb)
  have HV3 := Lib.hid (HV3.out.mono hb)
  have HV4 := Lib.hid (HV4.out.mono hb)
  have X1 := X1.mono hb
  have X2 := X2.mono hb
  have X3 := X3.mono hb
  have HV5 := Lib.hid (HV5.out.mono hb)
  have HV6 := Lib.hid (HV6.out.mono hb)
  have HV7 := Lib.hid (HV7.out.mono hb)
  have X5 := X5.mono hb
  have X6 := X6.mono hb
  have X7 := X7.mono hb
  have HV9 := Lib.hid (HV9.out.mono hb)
  have HV8 := Lib.hid (HV8.out.mono hb)
  have X8 := X8.mono hb
  have hE := hE.mono hb
  have hbw := Below.step hbw hb (Nat.le_refl _)
  clear hb
  clear cX7_0 cX7_1 cX8_0 cX8_1
  rw [← Int.sub_eq_add_neg] at HVA HVB
  rw [Rq.sub_eq] at HVA HVB
  obtain ⟨cX3_0, cX3_1, cX3_2, cX3_3, _, _, _, _⟩ := id X3
  go_wp2
  refine bodyPost_ret (v := .tuple #[.agg #[.bool ngA, .slice aoA nA capA, .bool ngB, .slice aoB nB capB], .int .i64 0]) (by simp [results, Tryz.results78, go_sem, cX3_0, cX3_1, cX3_2, cX3_3]) rfl ⟨⟨ngA, aoA, nA, capA, ngB, aoB, nB, capB, rfl, Lib.hid (HVA.out.put4B X3 (.bool ngA) (.slice aoA nA capA) (.bool ngB) (.slice aoB nB capB)), Lib.hid (HVB.out.put4B X3 (.bool ngA) (.slice aoA nA capA) (.bool ngB) (.slice aoB nB capB))⟩, Below.put4 hbw (by omega) (.bool ngA) (.slice aoA nA capA) (.bool ngB) (.slice aoB nB capB)⟩

theorem sum_sub_big (va vb : Value) (a b : Rat) (w : World) (ha : RatV w va a) (hb : RatV w vb b) (hs : Hid (¬ SubS a b)) (hE : Env w) :
    Calls Tryz.prog 78 #[va, vb, .bool true] w fun e w' => NoQ 3 e ∧ Below w.heap.size w w' := by
  by_cases h1 : CrS a b
  · by_cases h2 : Rq.Sm ((a.num * (b.den : Int)) - (b.num * (a.den : Int)))
    · by_cases h3 : Rq.Sm ((a.den : Int) * (b.den : Int))
      · exact absurd ⟨h1, h2, h3⟩ hs.out
      · exact sum_sub_2 va vb a b w ha hb (Lib.hid ⟨h1, h2, h3⟩) hE
    · exact sum_sub_1 va vb a b w ha hb (Lib.hid ⟨h1, h2⟩) hE
  · exact sum_sub_0 va vb a b w ha hb (Lib.hid h1) hE

set_option maxRecDepth 100000 in
set_option maxHeartbeats 1600000 in
theorem rSub_q (va vb : Value) (a b : Rat) (w : World) (ha : RatV w va a) (hb : RatV w vb b) (hs : Hid (SubS a b)) (hE : Env w) :
    Calls Tryz.prog 36 #[va, vb] w fun e w' => GotQ w' (a - b) e ∧ Below w.heap.size w w' := by
  have HS : Hid (CrS a b ∧ Rq.Sm ((a.num * (b.den : Int)) - (b.num * (a.den : Int))) ∧ Rq.Sm ((a.den : Int) * (b.den : Int))) := Lib.hid hs.out
  have hE0 := hE
  have hbw := Below.refl w.heap.size w
  obtain ⟨ng1, ao1, n1, cap1, ng2, ao2, n2, cap2, rfl, h1, h2⟩ := ha
  have HV1 := Lib.hid h1
  have HV2 := Lib.hid h2
  clear h1 h2
  obtain ⟨ng3, ao3, n3, cap3, ng4, ao4, n4, cap4, rfl, h1, h2⟩ := hb
  have HV3 := Lib.hid h1
  have HV4 := Lib.hid h2
  clear h1 h2
  go_enter Tryz.func36, Tryz.ntmps36
  go_upto_region 1 with fail
  obtain ⟨wx, hwx, hszx, X1, X2, X3, hb⟩ := boxes_444 w (.bool ng1) (.slice ao1 n1 cap1) (.bool ng2) (.slice ao2 n2 cap2) 29 (.bool ng3) (.slice ao3 n3 cap3) (.bool ng4) (.slice ao4 n4 cap4) 29 (.bool false) (.slice none 0 0) (.bool false) (.slice none 0 0) 29
  rw [← hwx]
  clear hwx
  obtain ⟨v1, rfl⟩ : ∃ v1 : World, v1 = wx := ⟨_, rfl⟩
  have HV1 := Lib.hid (HV1.out.mono hb)
  have HV2 := Lib.hid (HV2.out.mono hb)
  have HV3 := Lib.hid (HV3.out.mono hb)
  have HV4 := Lib.hid (HV4.out.mono hb)
  have hE := hE.mono hb
  have hbw := Below.step hbw hb (Nat.le_refl _)
  clear hb
  obtain ⟨cX1_0, cX1_1, cX1_2, cX1_3, _, _, _, _⟩ := id X1
  obtain ⟨cX2_0, cX2_1, cX2_2, cX2_3, _, _, _, _⟩ := id X2
  go_wp2_with fail
  (with_reducible refine (sum_sub_3 _ _ a b v1 (RatV.mk' HV1 HV2) (RatV.mk' HV3 HV4) HS hE).mono ?_)
  rintro e v2 ⟨⟨ng5, ao5, n5, cap5, ng6, ao6, n6, cap6, rfl, HV5, HV6⟩, hb⟩
  have HV1 := Lib.hid (HV1.out.mono hb)
  have HV2 := Lib.hid (HV2.out.mono hb)
  have HV3 := Lib.hid (HV3.out.mono hb)
  have HV4 := Lib.hid (HV4.out.mono hb)
  have X1 := X1.mono hb
  have X2 := X2.mono hb
  have X3 := X3.mono hb
  have hE := hE.mono hb
  have hbw := Below.step hbw hb (Nat.le_refl _)
  clear hb
  clear cX1_0 cX1_1 cX1_2 cX1_3 cX2_0 cX2_1 cX2_2 cX2_3
  obtain ⟨cX3_0, cX3_1, cX3_2, cX3_3, _, _, _, _⟩ := id X3
  go_wp2
  refine bodyPost_ret (v := .tuple #[.agg #[.bool ng5, .slice ao5 n5 cap5, .bool ng6, .slice ao6 n6 cap6], .int .i64 0]) (by simp [results, Tryz.results36, go_sem, cX3_0, cX3_1, cX3_2, cX3_3]) rfl ⟨⟨ng5, ao5, n5, cap5, ng6, ao6, n6, cap6, rfl, Lib.hid (HV5.out.put4B X3 (.bool ng5) (.slice ao5 n5 cap5) (.bool ng6) (.slice ao6 n6 cap6)), Lib.hid (HV6.out.put4B X3 (.bool ng5) (.slice ao5 n5 cap5) (.bool ng6) (.slice ao6 n6 cap6))⟩, Below.put4 hbw (by omega) (.bool ng5) (.slice ao5 n5 cap5) (.bool ng6) (.slice ao6 n6 cap6)⟩

set_option maxRecDepth 100000 in
set_option maxHeartbeats 1600000 in
theorem rSub_qbig (va vb : Value) (a b : Rat) (w : World) (ha : RatV w va a) (hb : RatV w vb b) (hs : Hid (¬ SubS a b)) (hE : Env w) :
    Calls Tryz.prog 36 #[va, vb] w fun e w' => NoQ 3 e ∧ Below w.heap.size w w' := by
  have hE0 := hE
  have hbw := Below.refl w.heap.size w
  obtain ⟨ng1, ao1, n1, cap1, ng2, ao2, n2, cap2, rfl, h1, h2⟩ := ha
  have HV1 := Lib.hid h1
  have HV2 := Lib.hid h2
  clear h1 h2
  obtain ⟨ng3, ao3, n3, cap3, ng4, ao4, n4, cap4, rfl, h1, h2⟩ := hb
  have HV3 := Lib.hid h1
  have HV4 := Lib.hid h2
  clear h1 h2
  go_enter Tryz.func36, Tryz.ntmps36
  go_upto_region 1 with fail
  obtain ⟨wx, hwx, hszx, X1, X2, X3, hb⟩ := boxes_444 w (.bool ng1) (.slice ao1 n1 cap1) (.bool ng2) (.slice ao2 n2 cap2) 29 (.bool ng3) (.slice ao3 n3 cap3) (.bool ng4) (.slice ao4 n4 cap4) 29 (.bool false) (.slice none 0 0) (.bool false) (.slice none 0 0) 29
  rw [← hwx]
  clear hwx
  obtain ⟨v1, rfl⟩ : ∃ v1 : World, v1 = wx := ⟨_, rfl⟩
  have HV1 := Lib.hid (HV1.out.mono hb)
  have HV2 := Lib.hid (HV2.out.mono hb)
  have HV3 := Lib.hid (HV3.out.mono hb)
  have HV4 := Lib.hid (HV4.out.mono hb)
  have hE := hE.mono hb
  have hbw := Below.step hbw hb (Nat.le_refl _)
  clear hb
  obtain ⟨cX1_0, cX1_1, cX1_2, cX1_3, _, _, _, _⟩ := id X1
  obtain ⟨cX2_0, cX2_1, cX2_2, cX2_3, _, _, _, _⟩ := id X2
  go_wp2_with fail
  (with_reducible refine (sum_sub_big _ _ a b v1 (RatV.mk' HV1 HV2) (RatV.mk' HV3 HV4) hs hE).mono ?_)
  rintro e v2 ⟨rfl, hb⟩
  have HV1 := Lib.hid (HV1.out.mono hb)
  have HV2 := Lib.hid (HV2.out.mono hb)
  have HV3 := Lib.hid (HV3.out.mono hb)
  have HV4 := Lib.hid (HV4.out.mono hb)
  have X1 := X1.mono hb
  have X2 := X2.mono hb
  have X3 := X3.mono hb
  have hE := hE.mono hb
  have hbw := Below.step hbw hb (Nat.le_refl _)
  clear hb
  clear cX1_0 cX1_1 cX1_2 cX1_3 cX2_0 cX2_1 cX2_2 cX2_3
  obtain ⟨cX3_0, cX3_1, cX3_2, cX3_3, _, _, _, _⟩ := id X3
  go_wp2
  refine bodyPost_ret (v := .tuple #[.agg #[.bool false, .slice none 0 0, .bool false, .slice none 0 0], .int .i64 3]) (by simp [results, Tryz.results36, go_sem, cX3_0, cX3_1, cX3_2, cX3_3]) rfl ⟨rfl, Below.put4 hbw (by omega) (.bool false) (.slice none 0 0) (.bool false) (.slice none 0 0)⟩

set_option maxRecDepth 100000 in
set_option maxHeartbeats 1600000 in
theorem rMul_1 (va vb : Value) (a b : Rat) (w : World) (ha : RatV w va a) (hb : RatV w vb b) (hs : Hid ((¬ Rq.Sm (a.num * b.num)))) (hE : Env w) :
    Calls Tryz.prog 37 #[va, vb] w fun e w' => NoQ 3 e ∧ Below w.heap.size w w' := by
  have HA : Hid (¬ Rq.Sm (a.num * b.num)) := Lib.hid hs.out
  have hE0 := hE
  have hbw := Below.refl w.heap.size w
  obtain ⟨ng1, ao1, n1, cap1, ng2, ao2, n2, cap2, rfl, h1, h2⟩ := ha
  have HV1 := Lib.hid h1
  have HV2 := Lib.hid h2
  clear h1 h2
  obtain ⟨ng3, ao3, n3, cap3, ng4, ao4, n4, cap4, rfl, h1, h2⟩ := hb
  have HV3 := Lib.hid h1
  have HV4 := Lib.hid h2
  clear h1 h2
  go_enter Tryz.func37, Tryz.ntmps37
  go_upto_region 1 with fail
  obtain ⟨wx, hwx, hszx, X1, X2, X3, hb⟩ := boxes_444 w (.bool ng1) (.slice ao1 n1 cap1) (.bool ng2) (.slice ao2 n2 cap2) 29 (.bool ng3) (.slice ao3 n3 cap3) (.bool ng4) (.slice ao4 n4 cap4) 29 (.bool false) (.slice none 0 0) (.bool false) (.slice none 0 0) 29
  rw [← hwx]
  clear hwx
  obtain ⟨v1, rfl⟩ : ∃ v1 : World, v1 = wx := ⟨_, rfl⟩
  have HV1 := Lib.hid (HV1.out.mono hb)
  have HV2 := Lib.hid (HV2.out.mono hb)
  have HV3 := Lib.hid (HV3.out.mono hb)
  have HV4 := Lib.hid (HV4.out.mono hb)
  have hE := hE.mono hb
  have hbw := Below.step hbw hb (Nat.le_refl _)
  clear hb
  obtain ⟨cX1_0, cX1_1, cX1_2, cX1_3, _, _, _, _⟩ := id X1
  go_wp2_with fail
  (with_reducible refine (rValid_true _ a v1 (RatV.mk' HV1 HV2) hE).mono ?_)
  rintro e v2 ⟨rfl, hb⟩
  have HV1 := Lib.hid (HV1.out.mono hb)
  have HV2 := Lib.hid (HV2.out.mono hb)
  have HV3 := Lib.hid (HV3.out.mono hb)
  have HV4 := Lib.hid (HV4.out.mono hb)
  have X1 := X1.mono hb
  have X2 := X2.mono hb
  have X3 := X3.mono hb
  have hE := hE.mono hb
  have hbw := Below.step hbw hb (Nat.le_refl _)
  clear hb
  clear cX1_0 cX1_1 cX1_2 cX1_3
  obtain ⟨cX2_0, cX2_1, cX2_2, cX2_3, _, _, _, _⟩ := id X2
  go_wp2_with fail
  (with_reducible refine (rValid_true _ b v2 (RatV.mk' HV3 HV4) hE).mono ?_)
  rintro e v3 ⟨rfl, hb⟩
  have HV1 := Lib.hid (HV1.out.mono hb)
  have HV2 := Lib.hid (HV2.out.mono hb)
  have HV3 := Lib.hid (HV3.out.mono hb)
  have HV4 := Lib.hid (HV4.out.mono hb)
  have X1 := X1.mono hb
  have X2 := X2.mono hb
  have X3 := X3.mono hb
  have hE := hE.mono hb
  have hbw := Below.step hbw hb (Nat.le_refl _)
  clear hb
  clear cX2_0 cX2_1 cX2_2 cX2_3
  obtain ⟨cX1_0, cX1_1, cX1_2, cX1_3, _, _, _, _⟩ := id X1
  obtain ⟨cX2_0, cX2_1, cX2_2, cX2_3, _, _, _, _⟩ := id X2
  go_wp2_with fail
  (with_reducible refine (rMul_big _ _ a.num b.num v3 HV1.out HV3.out HA).mono ?_)
  rintro e v4 ⟨rfl, hb⟩
  have HV1 := Lib.hid (HV1.out.mono hb)
  have HV2 := Lib.hid (HV2.out.mono hb)
  have HV3 := Lib.hid (HV3.out.mono hb)
  have HV4 := Lib.hid (HV4.out.mono hb)
  have X1 := X1.mono hb
  have X2 := X2.mono hb
  have X3 := X3.mono hb
  have hE := hE.mono hb
  have hbw := Below.step hbw hb (Nat.le_refl _)
  clear hb
  clear cX1_0 cX1_1 cX1_2 cX1_3 cX2_0 cX2_1 cX2_2 cX2_3
  go_upto_region 4 with fail
  have lX5X1 := X1.lt
  have lX5X2 := X2.lt
  have lX5X3 := X3.lt
  have X5 := Box.new v4 (.bool false) (.slice none 0 0) 24
  have hb := below_alloc v4 (.cells #[.bool false, .slice none 0 0] 24)
  generalize v4.alloc (.cells #[.bool false, .slice none 0 0] 24) = v5 at *
  have HV1 := Lib.hid (HV1.out.mono hb)
  have HV2 := Lib.hid (HV2.out.mono hb)
  have HV3 := Lib.hid (HV3.out.mono hb)
  have HV4 := Lib.hid (HV4.out.mono hb)
  have X1 := X1.mono hb
  have X2 := X2.mono hb
  have X3 := X3.mono hb
  have hE := hE.mono hb
  have hbw := Below.step hbw hb (Nat.le_refl _)
  clear hb
  obtain ⟨cX1_0, cX1_1, cX1_2, cX1_3, _, _, _, _⟩ := id X1
  obtain ⟨cX2_0, cX2_1, cX2_2, cX2_3, _, _, _, _⟩ := id X2
  go_wp2_with fail
  (with_reducible refine (rMul_u _ _ (a.den : Int) (b.den : Int) v5 HV2.out HV4.out).mono ?_)
  rintro e v6 ⟨⟨ng6, ao6, n6, cap6, k6, z6, rfl, HV6⟩, hb⟩
  have HV1 := Lib.hid (HV1.out.mono hb)
  have HV2 := Lib.hid (HV2.out.mono hb)
  have HV3 := Lib.hid (HV3.out.mono hb)
  have HV4 := Lib.hid (HV4.out.mono hb)
  have X1 := X1.mono hb
  have X2 := X2.mono hb
  have X3 := X3.mono hb
  have X5 := X5.mono hb
  have hE := hE.mono hb
  have hbw := Below.step hbw hb (Nat.le_refl _)
  clear hb
  clear cX1_0 cX1_1 cX1_2 cX1_3 cX2_0 cX2_1 cX2_2 cX2_3
  go_upto_region 5 with fail
  have lX6X1 := X1.lt
  have lX6X2 := X2.lt
  have lX6X3 := X3.lt
  have lX6X5 := X5.lt
  have X6 := Box.new v6 (.bool ng6) (.slice ao6 n6 cap6) 24
  have hb := below_alloc v6 (.cells #[.bool ng6, .slice ao6 n6 cap6] 24)
  generalize v6.alloc (.cells #[.bool ng6, .slice ao6 n6 cap6] 24) = v7 at *
  have HV1 := Lib.hid (HV1.out.mono hb)
  have HV2 := Lib.hid (HV2.out.mono hb)
  have HV3 := Lib.hid (HV3.out.mono hb)
  have HV4 := Lib.hid (HV4.out.mono hb)
  have X1 := X1.mono hb
  have X2 := X2.mono hb
  have X3 := X3.mono hb
  have X5 := X5.mono hb
  have HV6 := Lib.hid (HV6.out.mono hb)
  have hE := hE.mono hb
  have hbw := Below.step hbw hb (Nat.le_refl _)
  clear hb
  obtain ⟨cX3_0, cX3_1, cX3_2, cX3_3, _, _, _, _⟩ := id X3
  go_wp2
  refine bodyPost_ret (v := .tuple #[.agg #[.bool false, .slice none 0 0, .bool false, .slice none 0 0], .int .i64 3]) (by simp [results, Tryz.results37, go_sem, cX3_0, cX3_1, cX3_2, cX3_3]) rfl ⟨rfl, Below.put4 hbw (by omega) (.bool false) (.slice none 0 0) (.bool false) (.slice none 0 0)⟩

set_option maxRecDepth 100000 in
set_option maxHeartbeats 1600000 in
theorem rMul_2 (va vb : Value) (a b : Rat) (w : World) (ha : RatV w va a) (hb : RatV w vb b) (hs : Hid ((Rq.Sm (a.num * b.num) ∧ ¬ Rq.Sm ((a.den : Int) * (b.den : Int))))) (hE : Env w) :
    Calls Tryz.prog 37 #[va, vb] w fun e w' => NoQ 3 e ∧ Below w.heap.size w w' := by
  have HA : Hid (Rq.Sm (a.num * b.num)) := Lib.hid hs.out.1
  have HB : Hid (¬ Rq.Sm ((a.den : Int) * (b.den : Int))) := Lib.hid hs.out.2
  have hE0 := hE
  have hbw := Below.refl w.heap.size w
  obtain ⟨ng1, ao1, n1, cap1, ng2, ao2, n2, cap2, rfl, h1, h2⟩ := ha
  have HV1 := Lib.hid h1
  have HV2 := Lib.hid h2
  clear h1 h2
  obtain ⟨ng3, ao3, n3, cap3, ng4, ao4, n4, cap4, rfl, h1, h2⟩ := hb
  have HV3 := Lib.hid h1
  have HV4 := Lib.hid h2
  clear h1 h2
  go_enter Tryz.func37, Tryz.ntmps37
  go_upto_region 1 with fail
  obtain ⟨wx, hwx, hszx, X1, X2, X3, hb⟩ := boxes_444 w (.bool ng1) (.slice ao1 n1 cap1) (.bool ng2) (.slice ao2 n2 cap2) 29 (.bool ng3) (.slice ao3 n3 cap3) (.bool ng4) (.slice ao4 n4 cap4) 29 (.bool false) (.slice none 0 0) (.bool false) (.slice none 0 0) 29
  rw [← hwx]
  clear hwx
  obtain ⟨v1, rfl⟩ : ∃ v1 : World, v1 = wx := ⟨_, rfl⟩
  have HV1 := Lib.hid (HV1.out.mono hb)
  have HV2 := Lib.hid (HV2.out.mono hb)
  have HV3 := Lib.hid (HV3.out.mono hb)
  have HV4 := Lib.hid (HV4.out.mono hb)
  have hE := hE.mono hb
  have hbw := Below.step hbw hb (Nat.le_refl _)
  clear hb
  obtain ⟨cX1_0, cX1_1, cX1_2, cX1_3, _, _, _, _⟩ := id X1
  go_wp2_with fail
  (with_reducible refine (rValid_true _ a v1 (RatV.mk' HV1 HV2) hE).mono ?_)
  rintro e v2 ⟨rfl, hb⟩
  have HV1 := Lib.hid (HV1.out.mono hb)
  have HV2 := Lib.hid (HV2.out.mono hb)
  have HV3 := Lib.hid (HV3.out.mono hb)
  have HV4 := Lib.hid (HV4.out.mono hb)
  have X1 := X1.mono hb
  have X2 := X2.mono hb
  have X3 := X3.mono hb
  have hE := hE.mono hb
  have hbw := Below.step hbw hb (Nat.le_refl _)
  clear hb
  clear cX1_0 cX1_1 cX1_2 cX1_3
  obtain ⟨cX2_0, cX2_1, cX2_2, cX2_3, _, _, _, _⟩ := id X2
  go_wp2_with fail
  (with_reducible refine (rValid_true _ b v2 (RatV.mk' HV3 HV4) hE).mono ?_)
  rintro e v3 ⟨rfl, hb⟩
  have HV1 := Lib.hid (HV1.out.mono hb)
  have HV2 := Lib.hid (HV2.out.mono hb)
  have HV3 := Lib.hid (HV3.out.mono hb)
  have HV4 := Lib.hid (HV4.out.mono hb)
  have X1 := X1.mono hb
  have X2 := X2.mono hb
  have X3 := X3.mono hb
  have hE := hE.mono hb
  have hbw := Below.step hbw hb (Nat.le_refl _)
  clear hb
  clear cX2_0 cX2_1 cX2_2 cX2_3
  obtain ⟨cX1_0, cX1_1, cX1_2, cX1_3, _, _, _, _⟩ := id X1
  obtain ⟨cX2_0, cX2_1, cX2_2, cX2_3, _, _, _, _⟩ := id X2
  go_wp2_with fail
  (with_reducible refine (rMul_ok _ _ a.num b.num v3 HV1.out HV3.out HA).mono ?_)
  rintro e v4 ⟨⟨ng5, ao5, n5, cap5, rfl, HV5⟩, hb⟩
  have HV1 := Lib.hid (HV1.out.mono hb)
  have HV2 := Lib.hid (HV2.out.mono hb)
  have HV3 := Lib.hid (HV3.out.mono hb)
  have HV4 := Lib.hid (HV4.out.mono hb)
  have X1 := X1.mono hb
  have X2 := X2.mono hb
  have X3 := X3.mono hb
  have hE := hE.mono hb
  have hbw := Below.step hbw hb (Nat.le_refl _)
  clear hb
  clear cX1_0 cX1_1 cX1_2 cX1_3 cX2_0 cX2_1 cX2_2 cX2_3
  go_upto_region 4 with fail
  have lX5X1 := X1.lt
  have lX5X2 := X2.lt
  have lX5X3 := X3.lt
  have X5 := Box.new v4 (.bool ng5) (.slice ao5 n5 cap5) 24
  have hb := below_alloc v4 (.cells #[.bool ng5, .slice ao5 n5 cap5] 24)
  generalize v4.alloc (.cells #[.bool ng5, .slice ao5 n5 cap5] 24) = v5 at *
  have HV1 := Lib.hid (HV1.out.mono hb)
  have HV2 := Lib.hid (HV2.out.mono hb)
  have HV3 := Lib.hid (HV3.out.mono hb)
  have HV4 := Lib.hid (HV4.out.mono hb)
  have X1 := X1.mono hb
  have X2 := X2.mono hb
  have X3 := X3.mono hb
  have HV5 := Lib.hid (HV5.out.mono hb)
  have hE := hE.mono hb
  have hbw := Below.step hbw hb (Nat.le_refl _)
  clear hb
  obtain ⟨cX1_0, cX1_1, cX1_2, cX1_3, _, _, _, _⟩ := id X1
  obtain ⟨cX2_0, cX2_1, cX2_2, cX2_3, _, _, _, _⟩ := id X2
  go_wp2_with fail
  (with_reducible refine (rMul_big _ _ (a.den : Int) (b.den : Int) v5 HV2.out HV4.out HB).mono ?_)
  rintro e v6 ⟨rfl, hb⟩
  have HV1 := Lib.hid (HV1.out.mono hb)
  have HV2 := Lib.hid (HV2.out.mono hb)
  have HV3 := Lib.hid (HV3.out.mono hb)
  have HV4 := Lib.hid (HV4.out.mono hb)
  have X1 := X1.mono hb
  have X2 := X2.mono hb
  have X3 := X3.mono hb
  have HV5 := Lib.hid (HV5.out.mono hb)
  have X5 := X5.mono hb
  have hE := hE.mono hb
  have hbw := Below.step hbw hb (Nat.le_refl _)
  clear hb
  clear cX1_0 cX1_1 cX1_2 cX1_3 cX2_0 cX2_1 cX2_2 cX2_3
  go_upto_region 5 with fail
  have lX6X1 := X1.lt
  have lX6X2 := X2.lt
  have lX6X3 := X3.lt
  have lX6X5 := X5.lt
  have X6 := Box.new v6 (.bool false) (.slice none 0 0) 24
  have hb := below_alloc v6 (.cells #[.bool false, .slice none 0 0] 24)
  generalize v6.alloc (.cells #[.bool false, .slice none 0 0] 24) = v7 at *
  have HV1 := Lib.hid (HV1.out.mono hb)
  have HV2 := Lib.hid (HV2.out.mono hb)
  have HV3 := Lib.hid (HV3.out.mono hb)
  have HV4 := Lib.hid (HV4.out.mono hb)
  have X1 := X1.mono hb
  have X2 := X2.mono hb
  have X3 := X3.mono hb
  have HV5 := Lib.hid (HV5.out.mono hb)
  have X5 := X5.mono hb
  have hE := hE.mono hb
  have hbw := Below.step hbw hb (Nat.le_refl _)
  clear hb
  obtain ⟨cX3_0, cX3_1, cX3_2, cX3_3, _, _, _, _⟩ := id X3
  go_wp2
  refine bodyPost_ret (v := .tuple #[.agg #[.bool false, .slice none 0 0, .bool false, .slice none 0 0], .int .i64 3]) (by simp [results, Tryz.results37, go_sem, cX3_0, cX3_1, cX3_2, cX3_3]) rfl ⟨rfl, Below.put4 hbw (by omega) (.bool false) (.slice none 0 0) (.bool false) (.slice none 0 0)⟩

set_option maxRecDepth 100000 in
set_option maxHeartbeats 1600000 in
theorem rMul_3 (va vb : Value) (a b : Rat) (w : World) (ha : RatV w va a) (hb : RatV w vb b) (hs : Hid ((Rq.Sm (a.num * b.num) ∧ Rq.Sm ((a.den : Int) * (b.den : Int))))) (hE : Env w) :
    Calls Tryz.prog 37 #[va, vb] w fun e w' => GotQ w' (a * b) e ∧ Below w.heap.size w w' := by
  have HA : Hid (Rq.Sm (a.num * b.num)) := Lib.hid hs.out.1
  have HB : Hid (Rq.Sm ((a.den : Int) * (b.den : Int))) := Lib.hid hs.out.2
  have HNE : Hid ((a.den : Int) * (b.den : Int) ≠ 0) := Lib.hid (dd_ne a b)
  have hE0 := hE
  have hbw := Below.refl w.heap.size w
  obtain ⟨ng1, ao1, n1, cap1, ng2, ao2, n2, cap2, rfl, h1, h2⟩ := ha
  have HV1 := Lib.hid h1
  have HV2 := Lib.hid h2
  clear h1 h2
  obtain ⟨ng3, ao3, n3, cap3, ng4, ao4, n4, cap4, rfl, h1, h2⟩ := hb
  have HV3 := Lib.hid h1
  have HV4 := Lib.hid h2
  clear h1 h2
  go_enter Tryz.func37, Tryz.ntmps37
  go_upto_region 1 with fail
  obtain ⟨wx, hwx, hszx, X1, X2, X3, hb⟩ := boxes_444 w (.bool ng1) (.slice ao1 n1 cap1) (.bool ng2) (.slice ao2 n2 cap2) 29 (.bool ng3) (.slice ao3 n3 cap3) (.bool ng4) (.slice ao4 n4 cap4) 29 (.bool false) (.slice none 0 0) (.bool false) (.slice none 0 0) 29
  rw [← hwx]
  clear hwx
  obtain ⟨v1, rfl⟩ : ∃ v1 : World, v1 = wx := ⟨_, rfl⟩
  have HV1 := Lib.hid (HV1.out.mono hb)
  have HV2 := Lib.hid (HV2.out.mono hb)
  have HV3 := Lib.hid (HV3.out.mono hb)
  have HV4 := Lib.hid (HV4.out.mono hb)
  have hE := hE.mono hb
  have hbw := Below.step hbw hb (Nat.le_refl _)
  clear hb
  obtain ⟨cX1_0, cX1_1, cX1_2, cX1_3, _, _, _, _⟩ := id X1
  go_wp2_with fail
  (with_reducible refine (rValid_true _ a v1 (RatV.mk' HV1 HV2) hE).mono ?_)
  rintro e v2 ⟨rfl, hb⟩
  have HV1 := Lib.hid (HV1.out.mono hb)
  have HV2 := Lib.hid (HV2.out.mono hb)
  have HV3 := Lib.hid (HV3.out.mono hb)
  have HV4 := Lib.hid (HV4.out.mono hb)
  have X1 := X1.mono hb
  have X2 := X2.mono hb
  have X3 := X3.mono hb
  have hE := hE.mono hb
  have hbw := Below.step hbw hb (Nat.le_refl _)
  clear hb
  clear cX1_0 cX1_1 cX1_2 cX1_3
  obtain ⟨cX2_0, cX2_1, cX2_2, cX2_3, _, _, _, _⟩ := id X2
  go_wp2_with fail
  (with_reducible refine (rValid_true _ b v2 (RatV.mk' HV3 HV4) hE).mono ?_)
  rintro e v3 ⟨rfl, hb⟩
  have HV1 := Lib.hid (HV1.out.mono hb)
  have HV2 := Lib.hid (HV2.out.mono hb)
  have HV3 := Lib.hid (HV3.out.mono hb)
  have HV4 := Lib.hid (HV4.out.mono hb)
  have X1 := X1.mono hb
  have X2 := X2.mono hb
  have X3 := X3.mono hb
  have hE := hE.mono hb
  have hbw := Below.step hbw hb (Nat.le_refl _)
  clear hb
  clear cX2_0 cX2_1 cX2_2 cX2_3
  obtain ⟨cX1_0, cX1_1, cX1_2, cX1_3, _, _, _, _⟩ := id X1
  obtain ⟨cX2_0, cX2_1, cX2_2, cX2_3, _, _, _, _⟩ := id X2
  go_wp2_with fail
  (with_reducible refine (rMul_ok _ _ a.num b.num v3 HV1.out HV3.out HA).mono ?_)
  rintro e v4 ⟨⟨ng5, ao5, n5, cap5, rfl, HV5⟩, hb⟩
  have HV1 := Lib.hid (HV1.out.mono hb)
  have HV2 := Lib.hid (HV2.out.mono hb)
  have HV3 := Lib.hid (HV3.out.mono hb)
  have HV4 := Lib.hid (HV4.out.mono hb)
  have X1 := X1.mono hb
  have X2 := X2.mono hb
  have X3 := X3.mono hb
  have hE := hE.mono hb
  have hbw := Below.step hbw hb (Nat.le_refl _)
  clear hb
  clear cX1_0 cX1_1 cX1_2 cX1_3 cX2_0 cX2_1 cX2_2 cX2_3
  go_upto_region 4 with fail
  have lX5X1 := X1.lt
  have lX5X2 := X2.lt
  have lX5X3 := X3.lt
  have X5 := Box.new v4 (.bool ng5) (.slice ao5 n5 cap5) 24
  have hb := below_alloc v4 (.cells #[.bool ng5, .slice ao5 n5 cap5] 24)
  generalize v4.alloc (.cells #[.bool ng5, .slice ao5 n5 cap5] 24) = v5 at *
  have HV1 := Lib.hid (HV1.out.mono hb)
  have HV2 := Lib.hid (HV2.out.mono hb)
  have HV3 := Lib.hid (HV3.out.mono hb)
  have HV4 := Lib.hid (HV4.out.mono hb)
  have X1 := X1.mono hb
  have X2 := X2.mono hb
  have X3 := X3.mono hb
  have HV5 := Lib.hid (HV5.out.mono hb)
  have hE := hE.mono hb
  have hbw := Below.step hbw hb (Nat.le_refl _)
  clear hb
  obtain ⟨cX1_0, cX1_1, cX1_2, cX1_3, _, _, _, _⟩ := id X1
  obtain ⟨cX2_0, cX2_1, cX2_2, cX2_3, _, _, _, _⟩ := id X2
  go_wp2_with fail
  (with_reducible refine (rMul_ok _ _ (a.den : Int) (b.den : Int) v5 HV2.out HV4.out HB).mono ?_)
  rintro e v6 ⟨⟨ng6, ao6, n6, cap6, rfl, HV6⟩, hb⟩
  have HV1 := Lib.hid (HV1.out.mono hb)
  have HV2 := Lib.hid (HV2.out.mono hb)
  have HV3 := Lib.hid (HV3.out.mono hb)
  have HV4 := Lib.hid (HV4.out.mono hb)
  have X1 := X1.mono hb
  have X2 := X2.mono hb
  have X3 := X3.mono hb
  have HV5 := Lib.hid (HV5.out.mono hb)
  have X5 := X5.mono hb
  have hE := hE.mono hb
  have hbw := Below.step hbw hb (Nat.le_refl _)
  clear hb
  clear cX1_0 cX1_1 cX1_2 cX1_3 cX2_0 cX2_1 cX2_2 cX2_3
  go_upto_region 5 with fail
  have lX6X1 := X1.lt
  have lX6X2 := X2.lt
  have lX6X3 := X3.lt
  have lX6X5 := X5.lt
  have X6 := Box.new v6 (.bool ng6) (.slice ao6 n6 cap6) 24
  have hb := below_alloc v6 (.cells #[.bool ng6, .slice ao6 n6 cap6] 24)
  generalize v6.alloc (.cells #[.bool ng6, .slice ao6 n6 cap6] 24) = v7 at *
  have HV1 := Lib.hid (HV1.out.mono hb)
  have HV2 := Lib.hid (HV2.out.mono hb)
  have HV3 := Lib.hid (HV3.out.mono hb)
  have HV4 := Lib.hid (HV4.out.mono hb)
  have X1 := X1.mono hb
  have X2 := X2.mono hb
  have X3 := X3.mono hb
  have HV5 := Lib.hid (HV5.out.mono hb)
  have X5 := X5.mono hb
  have HV6 := Lib.hid (HV6.out.mono hb)
  have hE := hE.mono hb
  have hbw := Below.step hbw hb (Nat.le_refl _)
  clear hb
  obtain ⟨cX5_0, cX5_1, _, _⟩ := id X5
  obtain ⟨cX6_0, cX6_1, _, _⟩ := id X6
  go_wp2_with fail
  (with_reducible refine (rMake_ok _ _ (a.num * b.num) ((a.den : Int) * (b.den : Int)) v7 HV5.out HV6.out HNE hE).mono ?_)
  rintro e v8 ⟨⟨ng7, ao7, n7, cap7, ng8, ao8, n8, cap8, rfl, HV7, HV8⟩, hb⟩
  have HV1 := Lib.hid (HV1.out.mono hb)
  have HV2 := Lib.hid (HV2.out.mono hb)
  have HV3 := Lib.hid (HV3.out.mono hb)
  have HV4 := Lib.hid (HV4.out.mono hb)
  have X1 := X1.mono hb
  have X2 := X2.mono hb
  have X3 := X3.mono hb
  have HV5 := Lib.hid (HV5.out.mono hb)
  have X5 := X5.mono hb
  have HV6 := Lib.hid (HV6.out.mono hb)
  have X6 := X6.mono hb
  have hE := hE.mono hb
  have hbw := Below.step hbw hb (Nat.le_refl _)
  clear hb
  clear cX5_0 cX5_1 cX6_0 cX6_1
  rw [Rq.mul_eq] at HV7 HV8
  obtain ⟨cX3_0, cX3_1, cX3_2, cX3_3, _, _, _, _⟩ := id X3
  go_wp2
  refine bodyPost_ret (v := .tuple #[.agg #[.bool ng7, .slice ao7 n7 cap7, .bool ng8, .slice ao8 n8 cap8], .int .i64 0]) (by simp [results, Tryz.results37, go_sem, cX3_0, cX3_1, cX3_2, cX3_3]) rfl ⟨⟨ng7, ao7, n7, cap7, ng8, ao8, n8, cap8, rfl, Lib.hid (HV7.out.put4B X3 (.bool ng7) (.slice ao7 n7 cap7) (.bool ng8) (.slice ao8 n8 cap8)), Lib.hid (HV8.out.put4B X3 (.bool ng7) (.slice ao7 n7 cap7) (.bool ng8) (.slice ao8 n8 cap8))⟩, Below.put4 hbw (by omega) (.bool ng7) (.slice ao7 n7 cap7) (.bool ng8) (.slice ao8 n8 cap8)⟩

set_option maxRecDepth 100000 in
set_option maxHeartbeats 1600000 in
theorem rDiv_1n (va vb : Value) (a b : Rat) (w : World) (ha : RatV w va a) (hb : RatV w vb b) (hs : Hid ((¬ Rq.Sm (a.num * (b.den : Int))) ∧ b.num < 0)) (hE : Env w) :
    Calls Tryz.prog 38 #[va, vb] w fun e w' => NoQ 3 e ∧ Below w.heap.size w w' := by
  have HS : Hid (sgnI b.num = -1) := Lib.hid (by have := hs.out; unfold sgnI; split <;> (try split) <;> omega)
  have HA : Hid (¬ Rq.Sm (a.num * (b.den : Int))) := Lib.hid hs.out.1
  have hE0 := hE
  have hbw := Below.refl w.heap.size w
  obtain ⟨ng1, ao1, n1, cap1, ng2, ao2, n2, cap2, rfl, h1, h2⟩ := ha
  have HV1 := Lib.hid h1
  have HV2 := Lib.hid h2
  clear h1 h2
  obtain ⟨ng3, ao3, n3, cap3, ng4, ao4, n4, cap4, rfl, h1, h2⟩ := hb
  have HV3 := Lib.hid h1
  have HV4 := Lib.hid h2
  clear h1 h2
  go_enter Tryz.func38, Tryz.ntmps38
  go_upto_region 1 with fail
  obtain ⟨wx, hwx, hszx, X1, X2, X3, hb⟩ := boxes_444 w (.bool ng1) (.slice ao1 n1 cap1) (.bool ng2) (.slice ao2 n2 cap2) 29 (.bool ng3) (.slice ao3 n3 cap3) (.bool ng4) (.slice ao4 n4 cap4) 29 (.bool false) (.slice none 0 0) (.bool false) (.slice none 0 0) 29
  rw [← hwx]
  clear hwx
  obtain ⟨v1, rfl⟩ : ∃ v1 : World, v1 = wx := ⟨_, rfl⟩
  have HV1 := Lib.hid (HV1.out.mono hb)
  have HV2 := Lib.hid (HV2.out.mono hb)
  have HV3 := Lib.hid (HV3.out.mono hb)
  have HV4 := Lib.hid (HV4.out.mono hb)
  have hE := hE.mono hb
  have hbw := Below.step hbw hb (Nat.le_refl _)
  clear hb
  obtain ⟨cX1_0, cX1_1, cX1_2, cX1_3, _, _, _, _⟩ := id X1
  go_wp2_with fail
  (with_reducible refine (rValid_true _ a v1 (RatV.mk' HV1 HV2) hE).mono ?_)
  rintro e v2 ⟨rfl, hb⟩
  have HV1 := Lib.hid (HV1.out.mono hb)
  have HV2 := Lib.hid (HV2.out.mono hb)
  have HV3 := Lib.hid (HV3.out.mono hb)
  have HV4 := Lib.hid (HV4.out.mono hb)
  have X1 := X1.mono hb
  have X2 := X2.mono hb
  have X3 := X3.mono hb
  have hE := hE.mono hb
  have hbw := Below.step hbw hb (Nat.le_refl _)
  clear hb
  clear cX1_0 cX1_1 cX1_2 cX1_3
  obtain ⟨cX2_0, cX2_1, cX2_2, cX2_3, _, _, _, _⟩ := id X2
  go_wp2_with fail
  (with_reducible refine (rValid_true _ b v2 (RatV.mk' HV3 HV4) hE).mono ?_)
  rintro e v3 ⟨rfl, hb⟩
  have HV1 := Lib.hid (HV1.out.mono hb)
  have HV2 := Lib.hid (HV2.out.mono hb)
  have HV3 := Lib.hid (HV3.out.mono hb)
  have HV4 := Lib.hid (HV4.out.mono hb)
  have X1 := X1.mono hb
  have X2 := X2.mono hb
  have X3 := X3.mono hb
  have hE := hE.mono hb
  have hbw := Below.step hbw hb (Nat.le_refl _)
  clear hb
  clear cX2_0 cX2_1 cX2_2 cX2_3
  obtain ⟨cX2_0, cX2_1, cX2_2, cX2_3, _, _, _, _⟩ := id X2
  go_wp2_with fail
  (with_reducible refine (rSign_eq _ b.num (-1) v3 HS HV3.out).mono ?_)
  rintro e v4 ⟨rfl, hb⟩
  have HV1 := Lib.hid (HV1.out.mono hb)
  have HV2 := Lib.hid (HV2.out.mono hb)
  have HV3 := Lib.hid (HV3.out.mono hb)
  have HV4 := Lib.hid (HV4.out.mono hb)
  have X1 := X1.mono hb
  have X2 := X2.mono hb
  have X3 := X3.mono hb
  have hE := hE.mono hb
  have hbw := Below.step hbw hb (Nat.le_refl _)
  clear hb
  clear cX2_0 cX2_1 cX2_2 cX2_3
  obtain ⟨cX1_0, cX1_1, cX1_2, cX1_3, _, _, _, _⟩ := id X1
  obtain ⟨cX2_0, cX2_1, cX2_2, cX2_3, _, _, _, _⟩ := id X2
  go_wp2_with fail
  (with_reducible refine (rMul_big _ _ a.num (b.den : Int) v4 HV1.out HV4.out HA).mono ?_)
  rintro e v5 ⟨rfl, hb⟩
  have HV1 := Lib.hid (HV1.out.mono hb)
  have HV2 := Lib.hid (HV2.out.mono hb)
  have HV3 := Lib.hid (HV3.out.mono hb)
  have HV4 := Lib.hid (HV4.out.mono hb)
  have X1 := X1.mono hb
  have X2 := X2.mono hb
  have X3 := X3.mono hb
  have hE := hE.mono hb
  have hbw := Below.step hbw hb (Nat.le_refl _)
  clear hb
  clear cX1_0 cX1_1 cX1_2 cX1_3 cX2_0 cX2_1 cX2_2 cX2_3
  go_upto_region 6 with fail
  have lX5X1 := X1.lt
  have lX5X2 := X2.lt
  have lX5X3 := X3.lt
  have X5 := Box.new v5 (.bool false) (.slice none 0 0) 24
  have hb := below_alloc v5 (.cells #[.bool false, .slice none 0 0] 24)
  generalize v5.alloc (.cells #[.bool false, .slice none 0 0] 24) = v6 at *
  have HV1 := Lib.hid (HV1.out.mono hb)
  have HV2 := Lib.hid (HV2.out.mono hb)
  have HV3 := Lib.hid (HV3.out.mono hb)
  have HV4 := Lib.hid (HV4.out.mono hb)
  have X1 := X1.mono hb
  have X2 := X2.mono hb
  have X3 := X3.mono hb
  have hE := hE.mono hb
  have hbw := Below.step hbw hb (Nat.le_refl _)
  clear hb
  obtain ⟨cX1_0, cX1_1, cX1_2, cX1_3, _, _, _, _⟩ := id X1
  obtain ⟨cX2_0, cX2_1, cX2_2, cX2_3, _, _, _, _⟩ := id X2
  go_wp2_with fail
  (with_reducible refine (rMul_u _ _ (a.den : Int) b.num v6 HV2.out HV3.out).mono ?_)
  rintro e v7 ⟨⟨ng6, ao6, n6, cap6, k6, z6, rfl, HV6⟩, hb⟩
  have HV1 := Lib.hid (HV1.out.mono hb)
  have HV2 := Lib.hid (HV2.out.mono hb)
  have HV3 := Lib.hid (HV3.out.mono hb)
  have HV4 := Lib.hid (HV4.out.mono hb)
  have X1 := X1.mono hb
  have X2 := X2.mono hb
  have X3 := X3.mono hb
  have X5 := X5.mono hb
  have hE := hE.mono hb
  have hbw := Below.step hbw hb (Nat.le_refl _)
  clear hb
  clear cX1_0 cX1_1 cX1_2 cX1_3 cX2_0 cX2_1 cX2_2 cX2_3
  go_upto_region 7 with fail
  have lX6X1 := X1.lt
  have lX6X2 := X2.lt
  have lX6X3 := X3.lt
  have lX6X5 := X5.lt
  have X6 := Box.new v7 (.bool ng6) (.slice ao6 n6 cap6) 24
  have hb := below_alloc v7 (.cells #[.bool ng6, .slice ao6 n6 cap6] 24)
  generalize v7.alloc (.cells #[.bool ng6, .slice ao6 n6 cap6] 24) = v8 at *
  have HV1 := Lib.hid (HV1.out.mono hb)
  have HV2 := Lib.hid (HV2.out.mono hb)
  have HV3 := Lib.hid (HV3.out.mono hb)
  have HV4 := Lib.hid (HV4.out.mono hb)
  have X1 := X1.mono hb
  have X2 := X2.mono hb
  have X3 := X3.mono hb
  have X5 := X5.mono hb
  have HV6 := Lib.hid (HV6.out.mono hb)
  have hE := hE.mono hb
  have hbw := Below.step hbw hb (Nat.le_refl _)
  clear hb
  obtain ⟨cX3_0, cX3_1, cX3_2, cX3_3, _, _, _, _⟩ := id X3
  go_wp2
  refine bodyPost_ret (v := .tuple #[.agg #[.bool false, .slice none 0 0, .bool false, .slice none 0 0], .int .i64 3]) (by simp [results, Tryz.results38, go_sem, cX3_0, cX3_1, cX3_2, cX3_3]) rfl ⟨rfl, Below.put4 hbw (by omega) (.bool false) (.slice none 0 0) (.bool false) (.slice none 0 0)⟩

set_option maxRecDepth 100000 in
set_option maxHeartbeats 1600000 in
theorem rDiv_1p (va vb : Value) (a b : Rat) (w : World) (ha : RatV w va a) (hb : RatV w vb b) (hs : Hid ((¬ Rq.Sm (a.num * (b.den : Int))) ∧ 0 < b.num)) (hE : Env w) :
    Calls Tryz.prog 38 #[va, vb] w fun e w' => NoQ 3 e ∧ Below w.heap.size w w' := by
  have HS : Hid (sgnI b.num = 1) := Lib.hid (by have := hs.out; unfold sgnI; split <;> (try split) <;> omega)
  have HA : Hid (¬ Rq.Sm (a.num * (b.den : Int))) := Lib.hid hs.out.1
  have hE0 := hE
  have hbw := Below.refl w.heap.size w
  obtain ⟨ng1, ao1, n1, cap1, ng2, ao2, n2, cap2, rfl, h1, h2⟩ := ha
  have HV1 := Lib.hid h1
  have HV2 := Lib.hid h2
  clear h1 h2
  obtain ⟨ng3, ao3, n3, cap3, ng4, ao4, n4, cap4, rfl, h1, h2⟩ := hb
  have HV3 := Lib.hid h1
  have HV4 := Lib.hid h2
  clear h1 h2
  go_enter Tryz.func38, Tryz.ntmps38
  go_upto_region 1 with fail
  obtain ⟨wx, hwx, hszx, X1, X2, X3, hb⟩ := boxes_444 w (.bool ng1) (.slice ao1 n1 cap1) (.bool ng2) (.slice ao2 n2 cap2) 29 (.bool ng3) (.slice ao3 n3 cap3) (.bool ng4) (.slice ao4 n4 cap4) 29 (.bool false) (.slice none 0 0) (.bool false) (.slice none 0 0) 29
  rw [← hwx]
  clear hwx
  obtain ⟨v1, rfl⟩ : ∃ v1 : World, v1 = wx := ⟨_, rfl⟩
  have HV1 := Lib.hid (HV1.out.mono hb)
  have HV2 := Lib.hid (HV2.out.mono hb)
  have HV3 := Lib.hid (HV3.out.mono hb)
  have HV4 := Lib.hid (HV4.out.mono hb)
  have hE := hE.mono hb
  have hbw := Below.step hbw hb (Nat.le_refl _)
  clear hb
  obtain ⟨cX1_0, cX1_1, cX1_2, cX1_3, _, _, _, _⟩ := id X1
  go_wp2_with fail
  (with_reducible refine (rValid_true _ a v1 (RatV.mk' HV1 HV2) hE).mono ?_)
  rintro e v2 ⟨rfl, hb⟩
  have HV1 := Lib.hid (HV1.out.mono hb)
  have HV2 := Lib.hid (HV2.out.mono hb)
  have HV3 := Lib.hid (HV3.out.mono hb)
  have HV4 := Lib.hid (HV4.out.mono hb)
  have X1 := X1.mono hb
  have X2 := X2.mono hb
  have X3 := X3.mono hb
  have hE := hE.mono hb
  have hbw := Below.step hbw hb (Nat.le_refl _)
  clear hb
  clear cX1_0 cX1_1 cX1_2 cX1_3
  obtain ⟨cX2_0, cX2_1, cX2_2, cX2_3, _, _, _, _⟩ := id X2
  go_wp2_with fail
  (with_reducible refine (rValid_true _ b v2 (RatV.mk' HV3 HV4) hE).mono ?_)
  rintro e v3 ⟨rfl, hb⟩
  have HV1 := Lib.hid (HV1.out.mono hb)
  have HV2 := Lib.hid (HV2.out.mono hb)
  have HV3 := Lib.hid (HV3.out.mono hb)
  have HV4 := Lib.hid (HV4.out.mono hb)
  have X1 := X1.mono hb
  have X2 := X2.mono hb
  have X3 := X3.mono hb
  have hE := hE.mono hb
  have hbw := Below.step hbw hb (Nat.le_refl _)
  clear hb
  clear cX2_0 cX2_1 cX2_2 cX2_3
  obtain ⟨cX2_0, cX2_1, cX2_2, cX2_3, _, _, _, _⟩ := id X2
  go_wp2_with fail
  (with_reducible refine (rSign_eq _ b.num (1) v3 HS HV3.out).mono ?_)
  rintro e v4 ⟨rfl, hb⟩
  have HV1 := Lib.hid (HV1.out.mono hb)
  have HV2 := Lib.hid (HV2.out.mono hb)
  have HV3 := Lib.hid (HV3.out.mono hb)
  have HV4 := Lib.hid (HV4.out.mono hb)
  have X1 := X1.mono hb
  have X2 := X2.mono hb
  have X3 := X3.mono hb
  have hE := hE.mono hb
  have hbw := Below.step hbw hb (Nat.le_refl _)
  clear hb
  clear cX2_0 cX2_1 cX2_2 cX2_3
  obtain ⟨cX1_0, cX1_1, cX1_2, cX1_3, _, _, _, _⟩ := id X1
  obtain ⟨cX2_0, cX2_1, cX2_2, cX2_3, _, _, _, _⟩ := id X2
  go_wp2_with fail
  (with_reducible refine (rMul_big _ _ a.num (b.den : Int) v4 HV1.out HV4.out HA).mono ?_)
  rintro e v5 ⟨rfl, hb⟩
  have HV1 := Lib.hid (HV1.out.mono hb)
  have HV2 := Lib.hid (HV2.out.mono hb)
  have HV3 := Lib.hid (HV3.out.mono hb)
  have HV4 := Lib.hid (HV4.out.mono hb)
  have X1 := X1.mono hb
  have X2 := X2.mono hb
  have X3 := X3.mono hb
  have hE := hE.mono hb
  have hbw := Below.step hbw hb (Nat.le_refl _)
  clear hb
  clear cX1_0 cX1_1 cX1_2 cX1_3 cX2_0 cX2_1 cX2_2 cX2_3
  go_upto_region 6 with fail
  have lX5X1 := X1.lt
  have lX5X2 := X2.lt
  have lX5X3 := X3.lt
  have X5 := Box.new v5 (.bool false) (.slice none 0 0) 24
  have hb := below_alloc v5 (.cells #[.bool false, .slice none 0 0] 24)
  generalize v5.alloc (.cells #[.bool false, .slice none 0 0] 24) = v6 at *
  have HV1 := Lib.hid (HV1.out.mono hb)
  have HV2 := Lib.hid (HV2.out.mono hb)
  have HV3 := Lib.hid (HV3.out.mono hb)
  have HV4 := Lib.hid (HV4.out.mono hb)
  have X1 := X1.mono hb
  have X2 := X2.mono hb
  have X3 := X3.mono hb
  have hE := hE.mono hb
  have hbw := Below.step hbw hb (Nat.le_refl _)
  clear hb
  obtain ⟨cX1_0, cX1_1, cX1_2, cX1_3, _, _, _, _⟩ := id X1
  obtain ⟨cX2_0, cX2_1, cX2_2, cX2_3, _, _, _, _⟩ := id X2
  go_wp2_with fail
  (with_reducible refine (rMul_u _ _ (a.den : Int) b.num v6 HV2.out HV3.out).mono ?_)
  rintro e v7 ⟨⟨ng6, ao6, n6, cap6, k6, z6, rfl, HV6⟩, hb⟩
  have HV1 := Lib.hid (HV1.out.mono hb)
  have HV2 := Lib.hid (HV2.out.mono hb)
  have HV3 := Lib.hid (HV3.out.mono hb)
  have HV4 := Lib.hid (HV4.out.mono hb)
  have X1 := X1.mono hb
  have X2 := X2.mono hb
  have X3 := X3.mono hb
  have X5 := X5.mono hb
  have hE := hE.mono hb
  have hbw := Below.step hbw hb (Nat.le_refl _)
  clear hb
  clear cX1_0 cX1_1 cX1_2 cX1_3 cX2_0 cX2_1 cX2_2 cX2_3
  go_upto_region 7 with fail
  have lX6X1 := X1.lt
  have lX6X2 := X2.lt
  have lX6X3 := X3.lt
  have lX6X5 := X5.lt
  have X6 := Box.new v7 (.bool ng6) (.slice ao6 n6 cap6) 24
  have hb := below_alloc v7 (.cells #[.bool ng6, .slice ao6 n6 cap6] 24)
  generalize v7.alloc (.cells #[.bool ng6, .slice ao6 n6 cap6] 24) = v8 at *
  have HV1 := Lib.hid (HV1.out.mono hb)
  have HV2 := Lib.hid (HV2.out.mono hb)
  have HV3 := Lib.hid (HV3.out.mono hb)
  have HV4 := Lib.hid (HV4.out.mono hb)
  have X1 := X1.mono hb
  have X2 := X2.mono hb
  have X3 := X3.mono hb
  have X5 := X5.mono hb
  have HV6 := Lib.hid (HV6.out.mono hb)
  have hE := hE.mono hb
  have hbw := Below.step hbw hb (Nat.le_refl _)
  clear hb
  obtain ⟨cX3_0, cX3_1, cX3_2, cX3_3, _, _, _, _⟩ := id X3
  go_wp2
  refine bodyPost_ret (v := .tuple #[.agg #[.bool false, .slice none 0 0, .bool false, .slice none 0 0], .int .i64 3]) (by simp [results, Tryz.results38, go_sem, cX3_0, cX3_1, cX3_2, cX3_3]) rfl ⟨rfl, Below.put4 hbw (by omega) (.bool false) (.slice none 0 0) (.bool false) (.slice none 0 0)⟩

set_option maxRecDepth 100000 in
set_option maxHeartbeats 1600000 in
theorem rDiv_2n (va vb : Value) (a b : Rat) (w : World) (ha : RatV w va a) (hb : RatV w vb b) (hs : Hid ((Rq.Sm (a.num * (b.den : Int)) ∧ ¬ Rq.Sm ((a.den : Int) * b.num)) ∧ b.num < 0)) (hE : Env w) :
    Calls Tryz.prog 38 #[va, vb] w fun e w' => NoQ 3 e ∧ Below w.heap.size w w' := by
  have HS : Hid (sgnI b.num = -1) := Lib.hid (by have := hs.out; unfold sgnI; split <;> (try split) <;> omega)
  have HA : Hid (Rq.Sm (a.num * (b.den : Int))) := Lib.hid hs.out.1.1
  have HB : Hid (¬ Rq.Sm ((a.den : Int) * b.num)) := Lib.hid hs.out.1.2
  have hE0 := hE
  have hbw := Below.refl w.heap.size w
  obtain ⟨ng1, ao1, n1, cap1, ng2, ao2, n2, cap2, rfl, h1, h2⟩ := ha
  have HV1 := Lib.hid h1
  have HV2 := Lib.hid h2
  clear h1 h2
  obtain ⟨ng3, ao3, n3, cap3, ng4, ao4, n4, cap4, rfl, h1, h2⟩ := hb
  have HV3 := Lib.hid h1
  have HV4 := Lib.hid h2
  clear h1 h2
  go_enter Tryz.func38, Tryz.ntmps38
  go_upto_region 1 with fail
  obtain ⟨wx, hwx, hszx, X1, X2, X3, hb⟩ := boxes_444 w (.bool ng1) (.slice ao1 n1 cap1) (.bool ng2) (.slice ao2 n2 cap2) 29 (.bool ng3) (.slice ao3 n3 cap3) (.bool ng4) (.slice ao4 n4 cap4) 29 (.bool false) (.slice none 0 0) (.bool false) (.slice none 0 0) 29
  rw [← hwx]
  clear hwx
  obtain ⟨v1, rfl⟩ : ∃ v1 : World, v1 = wx := ⟨_, rfl⟩
  have HV1 := Lib.hid (HV1.out.mono hb)
  have HV2 := Lib.hid (HV2.out.mono hb)
  have HV3 := Lib.hid (HV3.out.mono hb)
  have HV4 := Lib.hid (HV4.out.mono hb)
  have hE := hE.mono hb
  have hbw := Below.step hbw hb (Nat.le_refl _)
  clear hb
  obtain ⟨cX1_0, cX1_1, cX1_2, cX1_3, _, _, _, _⟩ := id X1
  go_wp2_with fail
  (with_reducible refine (rValid_true _ a v1 (RatV.mk' HV1 HV2) hE).mono ?_)
  rintro e v2 ⟨rfl, hb⟩
  have HV1 := Lib.hid (HV1.out.mono hb)
  have HV2 := Lib.hid (HV2.out.mono hb)
  have HV3 := Lib.hid (HV3.out.mono hb)
  have HV4 := Lib.hid (HV4.out.mono hb)
  have X1 := X1.mono hb
  have X2 := X2.mono hb
  have X3 := X3.mono hb
  have hE := hE.mono hb
  have hbw := Below.step hbw hb (Nat.le_refl _)
  clear hb
  clear cX1_0 cX1_1 cX1_2 cX1_3
  obtain ⟨cX2_0, cX2_1, cX2_2, cX2_3, _, _, _, _⟩ := id X2
  go_wp2_with fail
  (with_reducible refine (rValid_true _ b v2 (RatV.mk' HV3 HV4) hE).mono ?_)
  rintro e v3 ⟨rfl, hb⟩
  have HV1 := Lib.hid (HV1.out.mono hb)
  have HV2 := Lib.hid (HV2.out.mono hb)
  have HV3 := Lib.hid (HV3.out.mono hb)
  have HV4 := Lib.hid (HV4.out.mono hb)
  have X1 := X1.mono hb
  have X2 := X2.mono hb
  have X3 := X3.mono hb
  have hE := hE.mono hb
  have hbw := Below.step hbw hb (Nat.le_refl _)
  clear hb
  clear cX2_0 cX2_1 cX2_2 cX2_3
  obtain ⟨cX2_0, cX2_1, cX2_2, cX2_3, _, _, _, _⟩ := id X2
  go_wp2_with fail
  (with_reducible refine (rSign_eq _ b.num (-1) v3 HS HV3.out).mono ?_)
  rintro e v4 ⟨rfl, hb⟩
  have HV1 := Lib.hid (HV1.out.mono hb)
  have HV2 := Lib.hid (HV2.out.mono hb)
  have HV3 := Lib.hid (HV3.out.mono hb)
  have HV4 := Lib.hid (HV4.out.mono hb)
  have X1 := X1.mono hb
  have X2 := X2.mono hb
  have X3 := X3.mono hb
  have hE := hE.mono hb
  have hbw := Below.step hbw hb (Nat.le_refl _)
  clear hb
  clear cX2_0 cX2_1 cX2_2 cX2_3
  obtain ⟨cX1_0, cX1_1, cX1_2, cX1_3, _, _, _, _⟩ := id X1
  obtain ⟨cX2_0, cX2_1, cX2_2, cX2_3, _, _, _, _⟩ := id X2
  go_wp2_with fail
  (with_reducible refine (rMul_ok _ _ a.num (b.den : Int) v4 HV1.out HV4.out HA).mono ?_)
  rintro e v5 ⟨⟨ng5, ao5, n5, cap5, rfl, HV5⟩, hb⟩
  have HV1 := Lib.hid (HV1.out.mono hb)
  have HV2 := Lib.hid (HV2.out.mono hb)
  have HV3 := Lib.hid (HV3.out.mono hb)
  have HV4 := Lib.hid (HV4.out.mono hb)
  have X1 := X1.mono hb
  have X2 := X2.mono hb
  have X3 := X3.mono hb
  have hE := hE.mono hb
  have hbw := Below.step hbw hb (Nat.le_refl _)
  clear hb
  clear cX1_0 cX1_1 cX1_2 cX1_3 cX2_0 cX2_1 cX2_2 cX2_3
  go_upto_region 6 with fail
  have lX5X1 := X1.lt
  have lX5X2 := X2.lt
  have lX5X3 := X3.lt
  have X5 := Box.new v5 (.bool ng5) (.slice ao5 n5 cap5) 24
  have hb := below_alloc v5 (.cells #[.bool ng5, .slice ao5 n5 cap5] 24)
  generalize v5.alloc (.cells #[.bool ng5, .slice ao5 n5 cap5] 24) = v6 at *
  have HV1 := Lib.hid (HV1.out.mono hb)
  have HV2 := Lib.hid (HV2.out.mono hb)
  have HV3 := Lib.hid (HV3.out.mono hb)
  have HV4 := Lib.hid (HV4.out.mono hb)
  have X1 := X1.mono hb
  have X2 := X2.mono hb
  have X3 := X3.mono hb
  have HV5 := Lib.hid (HV5.out.mono hb)
  have hE := hE.mono hb
  have hbw := Below.step hbw hb (Nat.le_refl _)
  clear hb
  obtain ⟨cX1_0, cX1_1, cX1_2, cX1_3, _, _, _, _⟩ := id X1
  obtain ⟨cX2_0, cX2_1, cX2_2, cX2_3, _, _, _, _⟩ := id X2
  go_wp2_with fail
  (with_reducible refine (rMul_big _ _ (a.den : Int) b.num v6 HV2.out HV3.out HB).mono ?_)
  rintro e v7 ⟨rfl, hb⟩
  have HV1 := Lib.hid (HV1.out.mono hb)
  have HV2 := Lib.hid (HV2.out.mono hb)
  have HV3 := Lib.hid (HV3.out.mono hb)
  have HV4 := Lib.hid (HV4.out.mono hb)
  have X1 := X1.mono hb
  have X2 := X2.mono hb
  have X3 := X3.mono hb
  have HV5 := Lib.hid (HV5.out.mono hb)
  have X5 := X5.mono hb
  have hE := hE.mono hb
  have hbw := Below.step hbw hb (Nat.le_refl _)
  clear hb
  clear cX1_0 cX1_1 cX1_2 cX1_3 cX2_0 cX2_1 cX2_2 cX2_3
  go_upto_region 7 with fail
  have lX6X1 := X1.lt
  have lX6X2 := X2.lt
  have lX6X3 := X3.lt
  have lX6X5 := X5.lt
  have X6 := Box.new v7 (.bool false) (.slice none 0 0) 24
  have hb := below_alloc v7 (.cells #[.bool false, .slice none 0 0] 24)
  generalize v7.alloc (.cells #[.bool false, .slice none 0 0] 24) = v8 at *
  have HV1 := Lib.hid (HV1.out.mono hb)
  have HV2 := Lib.hid (HV2.out.mono hb)
  have HV3 := Lib.hid (HV3.out.mono hb)
  have HV4 := Lib.hid (HV4.out.mono hb)
  have X1 := X1.mono hb
  have X2 := X2.mono hb
  have X3 := X3.mono hb
  have HV5 := Lib.hid (HV5.out.mono hb)
  have X5 := X5.mono hb
  have hE := hE.mono hb
  have hbw := Below.step hbw hb (Nat.le_refl _)
  clear hb
  obtain ⟨cX3_0, cX3_1, cX3_2, cX3_3, _, _, _, _⟩ := id X3
  go_wp2
  refine bodyPost_ret (v := .tuple #[.agg #[.bool false, .slice none 0 0, .bool false, .slice none 0 0], .int .i64 3]) (by simp [results, Tryz.results38, go_sem, cX3_0, cX3_1, cX3_2, cX3_3]) rfl ⟨rfl, Below.put4 hbw (by omega) (.bool false) (.slice none 0 0) (.bool false) (.slice none 0 0)⟩

set_option maxRecDepth 100000 in
set_option maxHeartbeats 1600000 in
theorem rDiv_2p (va vb : Value) (a b : Rat) (w : World) (ha : RatV w va a) (hb : RatV w vb b) (hs : Hid ((Rq.Sm (a.num * (b.den : Int)) ∧ ¬ Rq.Sm ((a.den : Int) * b.num)) ∧ 0 < b.num)) (hE : Env w) :
    Calls Tryz.prog 38 #[va, vb] w fun e w' => NoQ 3 e ∧ Below w.heap.size w w' := by
  have HS : Hid (sgnI b.num = 1) := Lib.hid (by have := hs.out; unfold sgnI; split <;> (try split) <;> omega)
  have HA : Hid (Rq.Sm (a.num * (b.den : Int))) := Lib.hid hs.out.1.1
  have HB : Hid (¬ Rq.Sm ((a.den : Int) * b.num)) := Lib.hid hs.out.1.2
  have hE0 := hE
  have hbw := Below.refl w.heap.size w
  obtain ⟨ng1, ao1, n1, cap1, ng2, ao2, n2, cap2, rfl, h1, h2⟩ := ha
  have HV1 := Lib.hid h1
  have HV2 := Lib.hid h2
  clear h1 h2
  obtain ⟨ng3, ao3, n3, cap3, ng4, ao4, n4, cap4, rfl, h1, h2⟩ := hb
  have HV3 := Lib.hid h1
  have HV4 := Lib.hid h2
  clear h1 h2
  go_enter Tryz.func38, Tryz.ntmps38
  go_upto_region 1 with fail
  obtain ⟨wx, hwx, hszx, X1, X2, X3, hb⟩ := boxes_444 w (.bool ng1) (.slice ao1 n1 cap1) (.bool ng2) (.slice ao2 n2 cap2) 29 (.bool ng3) (.slice ao3 n3 cap3) (.bool ng4) (.slice ao4 n4 cap4) 29 (.bool false) (.slice none 0 0) (.bool false) (.slice none 0 0) 29
  rw [← hwx]
  clear hwx
  obtain ⟨v1, rfl⟩ : ∃ v1 : World, v1 = wx := ⟨_, rfl⟩
  have HV1 := Lib.hid (HV1.out.mono hb)
  have HV2 := Lib.hid (HV2.out.mono hb)
  have HV3 := Lib.hid (HV3.out.mono hb)
  have HV4 := Lib.hid (HV4.out.mono hb)
  have hE := hE.mono hb
  have hbw := Below.step hbw hb (Nat.le_refl _)
  clear hb
  obtain ⟨cX1_0, cX1_1, cX1_2, cX1_3, _, _, _, _⟩ := id X1
  go_wp2_with fail
  (with_reducible refine (rValid_true _ a v1 (RatV.mk' HV1 HV2) hE).mono ?_)
  rintro e v2 ⟨rfl, hb⟩
  have HV1 := Lib.hid (HV1.out.mono hb)
  have HV2 := Lib.hid (HV2.out.mono hb)
  have HV3 := Lib.hid (HV3.out.mono hb)
  have HV4 := Lib.hid (HV4.out.mono hb)
  have X1 := X1.mono hb
  have X2 := X2.mono hb
  have X3 := X3.mono hb
  have hE := hE.mono hb
  have hbw := Below.step hbw hb (Nat.le_refl _)
  clear hb
  clear cX1_0 cX1_1 cX1_2 cX1_3
  obtain ⟨cX2_0, cX2_1, cX2_2, cX2_3, _, _, _, _⟩ := id X2
  go_wp2_with fail
  (with_reducible refine (rValid_true _ b v2 (RatV.mk' HV3 HV4) hE).mono ?_)
  rintro e v3 ⟨rfl, hb⟩
  have HV1 := Lib.hid (HV1.out.mono hb)
  have HV2 := Lib.hid (HV2.out.mono hb)
  have HV3 := Lib.hid (HV3.out.mono hb)
  have HV4 := Lib.hid (HV4.out.mono hb)
  have X1 := X1.mono hb
  have X2 := X2.mono hb
  have X3 := X3.mono hb
  have hE := hE.mono hb
  have hbw := Below.step hbw hb (Nat.le_refl _)
  clear hb
  clear cX2_0 cX2_1 cX2_2 cX2_3
  obtain ⟨cX2_0, cX2_1, cX2_2, cX2_3, _, _, _, _⟩ := id X2
  go_wp2_with fail
  (with_reducible refine (rSign_eq _ b.num (1) v3 HS HV3.out).mono ?_)
  rintro e v4 ⟨rfl, hb⟩
  have HV1 := Lib.hid (HV1.out.mono hb)
  have HV2 := Lib.hid (HV2.out.mono hb)
  have HV3 := Lib.hid (HV3.out.mono hb)
  have HV4 := Lib.hid (HV4.out.mono hb)
  have X1 := X1.mono hb
  have X2 := X2.mono hb
  have X3 := X3.mono hb
  have hE := hE.mono hb
  have hbw := Below.step hbw hb (Nat.le_refl _)
  clear hb
  clear cX2_0 cX2_1 cX2_2 cX2_3
  obtain ⟨cX1_0, cX1_1, cX1_2, cX1_3, _, _, _, _⟩ := id X1
  obtain ⟨cX2_0, cX2_1, cX2_2, cX2_3, _, _, _, _⟩ := id X2
  go_wp2_with fail
  (with_reducible refine (rMul_ok _ _ a.num (b.den : Int) v4 HV1.out HV4.out HA).mono ?_)
  rintro e v5 ⟨⟨ng5, ao5, n5, cap5, rfl, HV5⟩, hb⟩
  have HV1 := Lib.hid (HV1.out.mono hb)
  have HV2 := Lib.hid (HV2.out.mono hb)
  have HV3 := Lib.hid (HV3.out.mono hb)
  have HV4 := Lib.hid (HV4.out.mono hb)
  have X1 := X1.mono hb
  have X2 := X2.mono hb
  have X3 := X3.mono hb
  have hE := hE.mono hb
  have hbw := Below.step hbw hb (Nat.le_refl _)
  clear hb
  clear cX1_0 cX1_1 cX1_2 cX1_3 cX2_0 cX2_1 cX2_2 cX2_3
  go_upto_region 6 with fail
  have lX5X1 := X1.lt
  have lX5X2 := X2.lt
  have lX5X3 := X3.lt
  have X5 := Box.new v5 (.bool ng5) (.slice ao5 n5 cap5) 24
  have hb := below_alloc v5 (.cells #[.bool ng5, .slice ao5 n5 cap5] 24)
  generalize v5.alloc (.cells #[.bool ng5, .slice ao5 n5 cap5] 24) = v6 at *
  have HV1 := Lib.hid (HV1.out.mono hb)
  have HV2 := Lib.hid (HV2.out.mono hb)
  have HV3 := Lib.hid (HV3.out.mono hb)
  have HV4 := Lib.hid (HV4.out.mono hb)
  have X1 := X1.mono hb
  have X2 := X2.mono hb
  have X3 := X3.mono hb
  have HV5 := Lib.hid (HV5.out.mono hb)
  have hE := hE.mono hb
  have hbw := Below.step hbw hb (Nat.le_refl _)
  clear hb
  obtain ⟨cX1_0, cX1_1, cX1_2, cX1_3, _, _, _, _⟩ := id X1
  obtain ⟨cX2_0, cX2_1, cX2_2, cX2_3, _, _, _, _⟩ := id X2
  go_wp2_with fail
  (with_reducible refine (rMul_big _ _ (a.den : Int) b.num v6 HV2.out HV3.out HB).mono ?_)
  rintro e v7 ⟨rfl, hb⟩
  have HV1 := Lib.hid (HV1.out.mono hb)
  have HV2 := Lib.hid (HV2.out.mono hb)
  have HV3 := Lib.hid (HV3.out.mono hb)
  have HV4 := Lib.hid (HV4.out.mono hb)
  have X1 := X1.mono hb
  have X2 := X2.mono hb
  have X3 := X3.mono hb
  have HV5 := Lib.hid (HV5.out.mono hb)
  have X5 := X5.mono hb
  have hE := hE.mono hb
  have hbw := Below.step hbw hb (Nat.le_refl _)
  clear hb
  clear cX1_0 cX1_1 cX1_2 cX1_3 cX2_0 cX2_1 cX2_2 cX2_3
  go_upto_region 7 with fail
  have lX6X1 := X1.lt
  have lX6X2 := X2.lt
  have lX6X3 := X3.lt
  have lX6X5 := X5.lt
  have X6 := Box.new v7 (.bool false) (.slice none 0 0) 24
  have hb := below_alloc v7 (.cells #[.bool false, .slice none 0 0] 24)
  generalize v7.alloc (.cells #[.bool false, .slice none 0 0] 24) = v8 at *
  have HV1 := Lib.hid (HV1.out.mono hb)
  have HV2 := Lib.hid (HV2.out.mono hb)
  have HV3 := Lib.hid (HV3.out.mono hb)
  have HV4 := Lib.hid (HV4.out.mono hb)
  have X1 := X1.mono hb
  have X2 := X2.mono hb
  have X3 := X3.mono hb
  have HV5 := Lib.hid (HV5.out.mono hb)
  have X5 := X5.mono hb
  have hE := hE.mono hb
  have hbw := Below.step hbw hb (Nat.le_refl _)
  clear hb
  obtain ⟨cX3_0, cX3_1, cX3_2, cX3_3, _, _, _, _⟩ := id X3
  go_wp2
  refine bodyPost_ret (v := .tuple #[.agg #[.bool false, .slice none 0 0, .bool false, .slice none 0 0], .int .i64 3]) (by simp [results, Tryz.results38, go_sem, cX3_0, cX3_1, cX3_2, cX3_3]) rfl ⟨rfl, Below.put4 hbw (by omega) (.bool false) (.slice none 0 0) (.bool false) (.slice none 0 0)⟩

set_option maxRecDepth 100000 in
set_option maxHeartbeats 1600000 in
theorem rDiv_3n (va vb : Value) (a b : Rat) (w : World) (ha : RatV w va a) (hb : RatV w vb b) (hs : Hid ((Rq.Sm (a.num * (b.den : Int)) ∧ Rq.Sm ((a.den : Int) * b.num)) ∧ b.num < 0)) (hE : Env w) :
    Calls Tryz.prog 38 #[va, vb] w fun e w' => GotQ w' (a / b) e ∧ Below w.heap.size w w' := by
  have HS : Hid (sgnI b.num = -1) := Lib.hid (by have := hs.out; unfold sgnI; split <;> (try split) <;> omega)
  have HA : Hid (Rq.Sm (a.num * (b.den : Int))) := Lib.hid hs.out.1.1
  have HB : Hid (Rq.Sm ((a.den : Int) * b.num)) := Lib.hid hs.out.1.2
  have HNE : Hid ((a.den : Int) * b.num ≠ 0) := Lib.hid (Int.mul_ne_zero (Rq.den_ne a) (by have := hs.out.2; omega))
  have hE0 := hE
  have hbw := Below.refl w.heap.size w
  obtain ⟨ng1, ao1, n1, cap1, ng2, ao2, n2, cap2, rfl, h1, h2⟩ := ha
  have HV1 := Lib.hid h1
  have HV2 := Lib.hid h2
  clear h1 h2
  obtain ⟨ng3, ao3, n3, cap3, ng4, ao4, n4, cap4, rfl, h1, h2⟩ := hb
  have HV3 := Lib.hid h1
  have HV4 := Lib.hid h2
  clear h1 h2
  go_enter Tryz.func38, Tryz.ntmps38
  go_upto_region 1 with fail
  obtain ⟨wx, hwx, hszx, X1, X2, X3, hb⟩ := boxes_444 w (.bool ng1) (.slice ao1 n1 cap1) (.bool ng2) (.slice ao2 n2 cap2) 29 (.bool ng3) (.slice ao3 n3 cap3) (.bool ng4) (.slice ao4 n4 cap4) 29 (.bool false) (.slice none 0 0) (.bool false) (.slice none 0 0) 29
  rw [← hwx]
  clear hwx
  obtain ⟨v1, rfl⟩ : ∃ v1 : World, v1 = wx := ⟨_, rfl⟩
  have HV1 := Lib.hid (HV1.out.mono hb)
  have HV2 := Lib.hid (HV2.out.mono hb)
  have HV3 := Lib.hid (HV3.out.mono hb)
  have HV4 := Lib.hid (HV4.out.mono hb)
  have hE := hE.mono hb
  have hbw := Below.step hbw hb (Nat.le_refl _)
  clear hb
  obtain ⟨cX1_0, cX1_1, cX1_2, cX1_3, _, _, _, _⟩ := id X1
  go_wp2_with fail
  (with_reducible refine (rValid_true _ a v1 (RatV.mk' HV1 HV2) hE).mono ?_)
  rintro e v2 ⟨rfl, hb⟩
  have HV1 := Lib.hid (HV1.out.mono hb)
  have HV2 := Lib.hid (HV2.out.mono hb)
  have HV3 := Lib.hid (HV3.out.mono hb)
  have HV4 := Lib.hid (HV4.out.mono hb)
  have X1 := X1.mono hb
  have X2 := X2.mono hb
  have X3 := X3.mono hb
  have hE := hE.mono hb
  have hbw := Below.step hbw hb (Nat.le_refl _)
  clear hb
  clear cX1_0 cX1_1 cX1_2 cX1_3
  obtain ⟨cX2_0, cX2_1, cX2_2, cX2_3, _, _, _, _⟩ := id X2
  go_wp2_with fail
  (with_reducible refine (rValid_true _ b v2 (RatV.mk' HV3 HV4) hE).mono ?_)
  rintro e v3 ⟨rfl, hb⟩
  have HV1 := Lib.hid (HV1.out.mono hb)
  have HV2 := Lib.hid (HV2.out.mono hb)
  have HV3 := Lib.hid (HV3.out.mono hb)
  have HV4 := Lib.hid (HV4.out.mono hb)
  have X1 := X1.mono hb
  have X2 := X2.mono hb
  have X3 := X3.mono hb
  have hE := hE.mono hb
  have hbw := Below.step hbw hb (Nat.le_refl _)
  clear hb
  clear cX2_0 cX2_1 cX2_2 cX2_3
  obtain ⟨cX2_0, cX2_1, cX2_2, cX2_3, _, _, _, _⟩ := id X2
  go_wp2_with fail
  (with_reducible refine (rSign_eq _ b.num (-1) v3 HS HV3.out).mono ?_)
  rintro e v4 ⟨rfl, hb⟩
  have HV1 := Lib.hid (HV1.out.mono hb)
  have HV2 := Lib.hid (HV2.out.mono hb)
  have HV3 := Lib.hid (HV3.out.mono hb)
  have HV4 := Lib.hid (HV4.out.mono hb)
  have X1 := X1.mono hb
  have X2 := X2.mono hb
  have X3 := X3.mono hb
  have hE := hE.mono hb
  have hbw := Below.step hbw hb (Nat.le_refl _)
  clear hb
  clear cX2_0 cX2_1 cX2_2 cX2_3
  obtain ⟨cX1_0, cX1_1, cX1_2, cX1_3, _, _, _, _⟩ := id X1
  obtain ⟨cX2_0, cX2_1, cX2_2, cX2_3, _, _, _, _⟩ := id X2
  go_wp2_with fail
  (with_reducible refine (rMul_ok _ _ a.num (b.den : Int) v4 HV1.out HV4.out HA).mono ?_)
  rintro e v5 ⟨⟨ng5, ao5, n5, cap5, rfl, HV5⟩, hb⟩
  have HV1 := Lib.hid (HV1.out.mono hb)
  have HV2 := Lib.hid (HV2.out.mono hb)
  have HV3 := Lib.hid (HV3.out.mono hb)
  have HV4 := Lib.hid (HV4.out.mono hb)
  have X1 := X1.mono hb
  have X2 := X2.mono hb
  have X3 := X3.mono hb
  have hE := hE.mono hb
  have hbw := Below.step hbw hb (Nat.le_refl _)
  clear hb
  clear cX1_0 cX1_1 cX1_2 cX1_3 cX2_0 cX2_1 cX2_2 cX2_3
  go_upto_region 6 with fail
  have lX5X1 := X1.lt
  have lX5X2 := X2.lt
  have lX5X3 := X3.lt
  have X5 := Box.new v5 (.bool ng5) (.slice ao5 n5 cap5) 24
  have hb := below_alloc v5 (.cells #[.bool ng5, .slice ao5 n5 cap5] 24)
  generalize v5.alloc (.cells #[.bool ng5, .slice ao5 n5 cap5] 24) = v6 at *
  have HV1 := Lib.hid (HV1.out.mono hb)
  have HV2 := Lib.hid (HV2.out.mono hb)
  have HV3 := Lib.hid (HV3.out.mono hb)
  have HV4 := Lib.hid (HV4.out.mono hb)
  have X1 := X1.mono hb
  have X2 := X2.mono hb
  have X3 := X3.mono hb
  have HV5 := Lib.hid (HV5.out.mono hb)
  have hE := hE.mono hb
  have hbw := Below.step hbw hb (Nat.le_refl _)
  clear hb
  obtain ⟨cX1_0, cX1_1, cX1_2, cX1_3, _, _, _, _⟩ := id X1
  obtain ⟨cX2_0, cX2_1, cX2_2, cX2_3, _, _, _, _⟩ := id X2
  go_wp2_with fail
  (with_reducible refine (rMul_ok _ _ (a.den : Int) b.num v6 HV2.out HV3.out HB).mono ?_)
  rintro e v7 ⟨⟨ng6, ao6, n6, cap6, rfl, HV6⟩, hb⟩
  have HV1 := Lib.hid (HV1.out.mono hb)
  have HV2 := Lib.hid (HV2.out.mono hb)
  have HV3 := Lib.hid (HV3.out.mono hb)
  have HV4 := Lib.hid (HV4.out.mono hb)
  have X1 := X1.mono hb
  have X2 := X2.mono hb
  have X3 := X3.mono hb
  have HV5 := Lib.hid (HV5.out.mono hb)
  have X5 := X5.mono hb
  have hE := hE.mono hb
  have hbw := Below.step hbw hb (Nat.le_refl _)
  clear hb
  clear cX1_0 cX1_1 cX1_2 cX1_3 cX2_0 cX2_1 cX2_2 cX2_3
  go_upto_region 7 with fail
  have lX6X1 := X1.lt
  have lX6X2 := X2.lt
  have lX6X3 := X3.lt
  have lX6X5 := X5.lt
  have X6 := Box.new v7 (.bool ng6) (.slice ao6 n6 cap6) 24
  have hb := below_alloc v7 (.cells #[.bool ng6, .slice ao6 n6 cap6] 24)
  generalize v7.alloc (.cells #[.bool ng6, .slice ao6 n6 cap6] 24) = v8 at *
  have HV1 := Lib.hid (HV1.out.mono hb)
  have HV2 := Lib.hid (HV2.out.mono hb)
  have HV3 := Lib.hid (HV3.out.mono hb)
  have HV4 := Lib.hid (HV4.out.mono hb)
  have X1 := X1.mono hb
  have X2 := X2.mono hb
  have X3 := X3.mono hb
  have HV5 := Lib.hid (HV5.out.mono hb)
  have X5 := X5.mono hb
  have HV6 := Lib.hid (HV6.out.mono hb)
  have hE := hE.mono hb
  have hbw := Below.step hbw hb (Nat.le_refl _)
  clear hb
  obtain ⟨cX5_0, cX5_1, _, _⟩ := id X5
  obtain ⟨cX6_0, cX6_1, _, _⟩ := id X6
  go_wp2_with fail
  (with_reducible refine (rMake_ok _ _ (a.num * (b.den : Int)) ((a.den : Int) * b.num) v8 HV5.out HV6.out HNE hE).mono ?_)
  rintro e v9 ⟨⟨ng7, ao7, n7, cap7, ng8, ao8, n8, cap8, rfl, HV7, HV8⟩, hb⟩
  have HV1 := Lib.hid (HV1.out.mono hb)
  have HV2 := Lib.hid (HV2.out.mono hb)
  have HV3 := Lib.hid (HV3.out.mono hb)
  have HV4 := Lib.hid (HV4.out.mono hb)
  have X1 := X1.mono hb
  have X2 := X2.mono hb
  have X3 := X3.mono hb
  have HV5 := Lib.hid (HV5.out.mono hb)
  have X5 := X5.mono hb
  have HV6 := Lib.hid (HV6.out.mono hb)
  have X6 := X6.mono hb
  have hE := hE.mono hb
  have hbw := Below.step hbw hb (Nat.le_refl _)
  clear hb
  clear cX5_0 cX5_1 cX6_0 cX6_1
  rw [Rq.div_eq] at HV7 HV8
  obtain ⟨cX3_0, cX3_1, cX3_2, cX3_3, _, _, _, _⟩ := id X3
  go_wp2
  refine bodyPost_ret (v := .tuple #[.agg #[.bool ng7, .slice ao7 n7 cap7, .bool ng8, .slice ao8 n8 cap8], .int .i64 0]) (by simp [results, Tryz.results38, go_sem, cX3_0, cX3_1, cX3_2, cX3_3]) rfl ⟨⟨ng7, ao7, n7, cap7, ng8, ao8, n8, cap8, rfl, Lib.hid (HV7.out.put4B X3 (.bool ng7) (.slice ao7 n7 cap7) (.bool ng8) (.slice ao8 n8 cap8)), Lib.hid (HV8.out.put4B X3 (.bool ng7) (.slice ao7 n7 cap7) (.bool ng8) (.slice ao8 n8 cap8))⟩, Below.put4 hbw (by omega) (.bool ng7) (.slice ao7 n7 cap7) (.bool ng8) (.slice ao8 n8 cap8)⟩

set_option maxRecDepth 100000 in
set_option maxHeartbeats 1600000 in
theorem rDiv_3p (va vb : Value) (a b : Rat) (w : World) (ha : RatV w va a) (hb : RatV w vb b) (hs : Hid ((Rq.Sm (a.num * (b.den : Int)) ∧ Rq.Sm ((a.den : Int) * b.num)) ∧ 0 < b.num)) (hE : Env w) :
    Calls Tryz.prog 38 #[va, vb] w fun e w' => GotQ w' (a / b) e ∧ Below w.heap.size w w' := by
  have HS : Hid (sgnI b.num = 1) := Lib.hid (by have := hs.out; unfold sgnI; split <;> (try split) <;> omega)
  have HA : Hid (Rq.Sm (a.num * (b.den : Int))) := Lib.hid hs.out.1.1
  have HB : Hid (Rq.Sm ((a.den : Int) * b.num)) := Lib.hid hs.out.1.2
  have HNE : Hid ((a.den : Int) * b.num ≠ 0) := Lib.hid (Int.mul_ne_zero (Rq.den_ne a) (by have := hs.out.2; omega))
  have hE0 := hE
  have hbw := Below.refl w.heap.size w
  obtain ⟨ng1, ao1, n1, cap1, ng2, ao2, n2, cap2, rfl, h1, h2⟩ := ha
  have HV1 := Lib.hid h1
  have HV2 := Lib.hid h2
  clear h1 h2
  obtain ⟨ng3, ao3, n3, cap3, ng4, ao4, n4, cap4, rfl, h1, h2⟩ := hb
  have HV3 := Lib.hid h1
  have HV4 := Lib.hid h2
  clear h1 h2
  go_enter Tryz.func38, Tryz.ntmps38
  go_upto_region 1 with fail
  obtain ⟨wx, hwx, hszx, X1, X2, X3, hb⟩ := boxes_444 w (.bool ng1) (.slice ao1 n1 cap1) (.bool ng2) (.slice ao2 n2 cap2) 29 (.bool ng3) (.slice ao3 n3 cap3) (.bool ng4) (.slice ao4 n4 cap4) 29 (.bool false) (.slice none 0 0) (.bool false) (.slice none 0 0) 29
  rw [← hwx]
  clear hwx
  obtain ⟨v1, rfl⟩ : ∃ v1 : World, v1 = wx := ⟨_, rfl⟩
  have HV1 := Lib.hid (HV1.out.mono hb)
  have HV2 := Lib.hid (HV2.out.mono hb)
  have HV3 := Lib.hid (HV3.out.mono hb)
  have HV4 := Lib.hid (HV4.out.mono hb)
  have hE := hE.mono hb
  have hbw := Below.step hbw hb (Nat.le_refl _)
  clear hb
  obtain ⟨cX1_0, cX1_1, cX1_2, cX1_3, _, _, _, _⟩ := id X1
  go_wp2_with fail
  (with_reducible refine (rValid_true _ a v1 (RatV.mk' HV1 HV2) hE).mono ?_)
  rintro e v2 ⟨rfl, hb⟩
  have HV1 := Lib.hid (HV1.out.mono hb)
  have HV2 := Lib.hid (HV2.out.mono hb)
  have HV3 := Lib.hid (HV3.out.mono hb)
  have HV4 := Lib.hid (HV4.out.mono hb)
  have X1 := X1.mono hb
  have X2 := X2.mono hb
  have X3 := X3.mono hb
  have hE := hE.mono hb
  have hbw := Below.step hbw hb (Nat.le_refl _)
  clear hb
  clear cX1_0 cX1_1 cX1_2 cX1_3
  obtain ⟨cX2_0, cX2_1, cX2_2, cX2_3, _, _, _, _⟩ := id X2
  go_wp2_with fail
  (with_reducible refine (rValid_true _ b v2 (RatV.mk' HV3 HV4) hE).mono ?_)
  rintro e v3 ⟨rfl, hb⟩
  have HV1 := Lib.hid (HV1.out.mono hb)
  have HV2 := Lib.hid (HV2.out.mono hb)
  have HV3 := Lib.hid (HV3.out.mono hb)
  have HV4 := Lib.hid (HV4.out.mono hb)
  have X1 := X1.mono hb
  have X2 := X2.mono hb
  have X3 := X3.mono hb
  have hE := hE.mono hb
  have hbw := Below.step hbw hb (Nat.le_refl _)
  clear hb
  clear cX2_0 cX2_1 cX2_2 cX2_3
  obtain ⟨cX2_0, cX2_1, cX2_2, cX2_3, _, _, _, _⟩ := id X2
  go_wp2_with fail
  (with_reducible refine (rSign_eq _ b.num (1) v3 HS HV3.out).mono ?_)
  rintro e v4 ⟨rfl, hb⟩
  have HV1 := Lib.hid (HV1.out.mono hb)
  have HV2 := Lib.hid (HV2.out.mono hb)
  have HV3 := Lib.hid (HV3.out.mono hb)
  have HV4 := Lib.hid (HV4.out.mono hb)
  have X1 := X1.mono hb
  have X2 := X2.mono hb
  have X3 := X3.mono hb
  have hE := hE.mono hb
  have hbw := Below.step hbw hb (Nat.le_refl _)
  clear hb
  clear cX2_0 cX2_1 cX2_2 cX2_3
  obtain ⟨cX1_0, cX1_1, cX1_2, cX1_3, _, _, _, _⟩ := id X1
  obtain ⟨cX2_0, cX2_1, cX2_2, cX2_3, _, _, _, _⟩ := id X2
  go_wp2_with fail
  (with_reducible refine (rMul_ok _ _ a.num (b.den : Int) v4 HV1.out HV4.out HA).mono ?_)
  rintro e v5 ⟨⟨ng5, ao5, n5, cap5, rfl, HV5⟩, hb⟩
  have HV1 := Lib.hid (HV1.out.mono hb)
  have HV2 := Lib.hid (HV2.out.mono hb)
  have HV3 := Lib.hid (HV3.out.mono hb)
  have HV4 := Lib.hid (HV4.out.mono hb)
  have X1 := X1.mono hb
  have X2 := X2.mono hb
  have X3 := X3.mono hb
  have hE := hE.mono hb
  have hbw := Below.step hbw hb (Nat.le_refl _)
  clear hb
  clear cX1_0 cX1_1 cX1_2 cX1_3 cX2_0 cX2_1 cX2_2 cX2_3
  go_upto_region 6 with fail
  have lX5X1 := X1.lt
  have lX5X2 := X2.lt
  have lX5X3 := X3.lt
  have X5 := Box.new v5 (.bool ng5) (.slice ao5 n5 cap5) 24
  have hb := below_alloc v5 (.cells #[.bool ng5, .slice ao5 n5 cap5] 24)
  generalize v5.alloc (.cells #[.bool ng5, .slice ao5 n5 cap5] 24) = v6 at *
  have HV1 := Lib.hid (HV1.out.mono hb)
  have HV2 := Lib.hid (HV2.out.mono hb)
  have HV3 := Lib.hid (HV3.out.mono hb)
  have HV4 := Lib.hid (HV4.out.mono hb)
  have X1 := X1.mono hb
  have X2 := X2.mono hb
  have X3 := X3.mono hb
  have HV5 := Lib.hid (HV5.out.mono hb)
  have hE := hE.mono hb
  have hbw := Below.step hbw hb (Nat.le_refl _)
  clear hb
  obtain ⟨cX1_0, cX1_1, cX1_2, cX1_3, _, _, _, _⟩ := id X1
  obtain ⟨cX2_0, cX2_1, cX2_2, cX2_3, _, _, _, _⟩ := id X2
  go_wp2_with fail
  (with_reducible refine (rMul_ok _ _ (a.den : Int) b.num v6 HV2.out HV3.out HB).mono ?_)
  rintro e v7 ⟨⟨ng6, ao6, n6, cap6, rfl, HV6⟩, hb⟩
  have HV1 := Lib.hid (HV1.out.mono hb)
  have HV2 := Lib.hid (HV2.out.mono hb)
  have HV3 := Lib.hid (HV3.out.mono hb)
  have HV4 := Lib.hid (HV4.out.mono hb)
  have X1 := X1.mono hb
  have X2 := X2.mono hb
  have X3 := X3.mono hb
  have HV5 := Lib.hid (HV5.out.mono hb)
  have X5 := X5.mono hb
  have hE := hE.mono hb
  have hbw := Below.step hbw hb (Nat.le_refl _)
  clear hb
  clear cX1_0 cX1_1 cX1_2 cX1_3 cX2_0 cX2_1 cX2_2 cX2_3
  go_upto_region 7 with fail
  have lX6X1 := X1.lt
  have lX6X2 := X2.lt
  have lX6X3 := X3.lt
  have lX6X5 := X5.lt
  have X6 := Box.new v7 (.bool ng6) (.slice ao6 n6 cap6) 24
  have hb := below_alloc v7 (.cells #[.bool ng6, .slice ao6 n6 cap6] 24)
  generalize v7.alloc (.cells #[.bool ng6, .slice ao6 n6 cap6] 24) = v8 at *
  have HV1 := Lib.hid (HV1.out.mono hb)
  have HV2 := Lib.hid (HV2.out.mono hb)
  have HV3 := Lib.hid (HV3.out.mono hb)
  have HV4 := Lib.hid (HV4.out.mono hb)
  have X1 := X1.mono hb
  have X2 := X2.mono hb
  have X3 := X3.mono hb
  have HV5 := Lib.hid (HV5.out.mono hb)
  have X5 := X5.mono hb
  have HV6 := Lib.hid (HV6.out.mono hb)
  have hE := hE.mono hb
  have hbw := Below.step hbw hb (Nat.le_refl _)
  clear hb
  obtain ⟨cX5_0, cX5_1, _, _⟩ := id X5
  obtain ⟨cX6_0, cX6_1, _, _⟩ := id X6
  go_wp2_with fail
  (with_reducible refine (rMake_ok _ _ (a.num * (b.den : Int)) ((a.den : Int) * b.num) v8 HV5.out HV6.out HNE hE).mono ?_)
  rintro e v9 ⟨⟨ng7, ao7, n7, cap7, ng8, ao8, n8, cap8, rfl, HV7, HV8⟩, hb⟩
  have HV1 := Lib.hid (HV1.out.mono hb)
  have HV2 := Lib.hid (HV2.out.mono hb)
  have HV3 := Lib.hid (HV3.out.mono hb)
  have HV4 := Lib.hid (HV4.out.mono hb)
  have X1 := X1.mono hb
  have X2 := X2.mono hb
  have X3 := X3.mono hb
  have HV5 := Lib.hid (HV5.out.mono hb)
  have X5 := X5.mono hb
  have HV6 := Lib.hid (HV6.out.mono hb)
  have X6 := X6.mono hb
  have hE := hE.mono hb
  have hbw := Below.step hbw hb (Nat.le_refl _)
  clear hb
  clear cX5_0 cX5_1 cX6_0 cX6_1
  rw [Rq.div_eq] at HV7 HV8
  obtain ⟨cX3_0, cX3_1, cX3_2, cX3_3, _, _, _, _⟩ := id X3
  go_wp2
  refine bodyPost_ret (v := .tuple #[.agg #[.bool ng7, .slice ao7 n7 cap7, .bool ng8, .slice ao8 n8 cap8], .int .i64 0]) (by simp [results, Tryz.results38, go_sem, cX3_0, cX3_1, cX3_2, cX3_3]) rfl ⟨⟨ng7, ao7, n7, cap7, ng8, ao8, n8, cap8, rfl, Lib.hid (HV7.out.put4B X3 (.bool ng7) (.slice ao7 n7 cap7) (.bool ng8) (.slice ao8 n8 cap8)), Lib.hid (HV8.out.put4B X3 (.bool ng7) (.slice ao7 n7 cap7) (.bool ng8) (.slice ao8 n8 cap8))⟩, Below.put4 hbw (by omega) (.bool ng7) (.slice ao7 n7 cap7) (.bool ng8) (.slice ao8 n8 cap8)⟩

set_option maxRecDepth 100000 in
set_option maxHeartbeats 1600000 in
theorem rDiv_zero (va vb : Value) (a b : Rat) (w : World) (ha : RatV w va a) (hb : RatV w vb b) (hs : Hid (b.num = 0)) (hE : Env w) :
    Calls Tryz.prog 38 #[va, vb] w fun e w' => NoQ 8 e ∧ Below w.heap.size w w' := by
  have HS : Hid (sgnI b.num = 0) := Lib.hid (by have := hs.out; unfold sgnI; split <;> (try split) <;> omega)
  have hE0 := hE
  have hbw := Below.refl w.heap.size w
  obtain ⟨ng1, ao1, n1, cap1, ng2, ao2, n2, cap2, rfl, h1, h2⟩ := ha
  have HV1 := Lib.hid h1
  have HV2 := Lib.hid h2
  clear h1 h2
  obtain ⟨ng3, ao3, n3, cap3, ng4, ao4, n4, cap4, rfl, h1, h2⟩ := hb
  have HV3 := Lib.hid h1
  have HV4 := Lib.hid h2
  clear h1 h2
  go_enter Tryz.func38, Tryz.ntmps38
  go_upto_region 1 with fail
  obtain ⟨wx, hwx, hszx, X1, X2, X3, hb⟩ := boxes_444 w (.bool ng1) (.slice ao1 n1 cap1) (.bool ng2) (.slice ao2 n2 cap2) 29 (.bool ng3) (.slice ao3 n3 cap3) (.bool ng4) (.slice ao4 n4 cap4) 29 (.bool false) (.slice none 0 0) (.bool false) (.slice none 0 0) 29
  rw [← hwx]
  clear hwx
  obtain ⟨v1, rfl⟩ : ∃ v1 : World, v1 = wx := ⟨_, rfl⟩
  have HV1 := Lib.hid (HV1.out.mono hb)
  have HV2 := Lib.hid (HV2.out.mono hb)
  have HV3 := Lib.hid (HV3.out.mono hb)
  have HV4 := Lib.hid (HV4.out.mono hb)
  have hE := hE.mono hb
  have hbw := Below.step hbw hb (Nat.le_refl _)
  clear hb
  obtain ⟨cX1_0, cX1_1, cX1_2, cX1_3, _, _, _, _⟩ := id X1
  go_wp2_with fail
  (with_reducible refine (rValid_true _ a v1 (RatV.mk' HV1 HV2) hE).mono ?_)
  rintro e v2 ⟨rfl, hb⟩
  have HV1 := Lib.hid (HV1.out.mono hb)
  have HV2 := Lib.hid (HV2.out.mono hb)
  have HV3 := Lib.hid (HV3.out.mono hb)
  have HV4 := Lib.hid (HV4.out.mono hb)
  have X1 := X1.mono hb
  have X2 := X2.mono hb
  have X3 := X3.mono hb
  have hE := hE.mono hb
  have hbw := Below.step hbw hb (Nat.le_refl _)
  clear hb
  clear cX1_0 cX1_1 cX1_2 cX1_3
  obtain ⟨cX2_0, cX2_1, cX2_2, cX2_3, _, _, _, _⟩ := id X2
  go_wp2_with fail
  (with_reducible refine (rValid_true _ b v2 (RatV.mk' HV3 HV4) hE).mono ?_)
  rintro e v3 ⟨rfl, hb⟩
  have HV1 := Lib.hid (HV1.out.mono hb)
  have HV2 := Lib.hid (HV2.out.mono hb)
  have HV3 := Lib.hid (HV3.out.mono hb)
  have HV4 := Lib.hid (HV4.out.mono hb)
  have X1 := X1.mono hb
  have X2 := X2.mono hb
  have X3 := X3.mono hb
  have hE := hE.mono hb
  have hbw := Below.step hbw hb (Nat.le_refl _)
  clear hb
  clear cX2_0 cX2_1 cX2_2 cX2_3
  obtain ⟨cX2_0, cX2_1, cX2_2, cX2_3, _, _, _, _⟩ := id X2
  go_wp2_with fail
  (with_reducible refine (rSign_eq _ b.num (0) v3 HS HV3.out).mono ?_)
  rintro e v4 ⟨rfl, hb⟩
  have HV1 := Lib.hid (HV1.out.mono hb)
  have HV2 := Lib.hid (HV2.out.mono hb)
  have HV3 := Lib.hid (HV3.out.mono hb)
  have HV4 := Lib.hid (HV4.out.mono hb)
  have X1 := X1.mono hb
  have X2 := X2.mono hb
  have X3 := X3.mono hb
  have hE := hE.mono hb
  have hbw := Below.step hbw hb (Nat.le_refl _)
  clear hb
  clear cX2_0 cX2_1 cX2_2 cX2_3
  obtain ⟨cX3_0, cX3_1, cX3_2, cX3_3, _, _, _, _⟩ := id X3
  go_wp2
  refine bodyPost_ret (v := .tuple #[.agg #[.bool false, .slice none 0 0, .bool false, .slice none 0 0], .int .i64 8]) (by simp [results, Tryz.results38, go_sem, cX3_0, cX3_1, cX3_2, cX3_3]) rfl ⟨rfl, Below.put4 hbw (by omega) (.bool false) (.slice none 0 0) (.bool false) (.slice none 0 0)⟩

theorem rMul_q (va vb : Value) (a b : Rat) (w : World) (ha : RatV w va a) (hb : RatV w vb b) (hs : Hid (MulS a b)) (hE : Env w) :
    Calls Tryz.prog 37 #[va, vb] w fun e w' => GotQ w' (a * b) e ∧ Below w.heap.size w w' := rMul_3 va vb a b w ha hb (Lib.hid hs.out) hE
theorem rMul_qbig (va vb : Value) (a b : Rat) (w : World) (ha : RatV w va a) (hb : RatV w vb b) (hs : Hid (¬ MulS a b)) (hE : Env w) :
    Calls Tryz.prog 37 #[va, vb] w fun e w' => NoQ 3 e ∧ Below w.heap.size w w' := by
  by_cases h1 : Rq.Sm (a.num * b.num)
  · exact rMul_2 va vb a b w ha hb (Lib.hid ⟨h1, fun h => hs.out ⟨h1, h⟩⟩) hE
  · exact rMul_1 va vb a b w ha hb (Lib.hid h1) hE
theorem rDiv_q (va vb : Value) (a b : Rat) (w : World) (ha : RatV w va a) (hb : RatV w vb b) (hs : Hid (DivS a b ∧ b.num ≠ 0)) (hE : Env w) :
    Calls Tryz.prog 38 #[va, vb] w fun e w' => GotQ w' (a / b) e ∧ Below w.heap.size w w' := by
  rcases Int.lt_trichotomy b.num 0 with h | h | h
  · exact rDiv_3n va vb a b w ha hb (Lib.hid ⟨hs.out.1, h⟩) hE
  · exact absurd h hs.out.2
  · exact rDiv_3p va vb a b w ha hb (Lib.hid ⟨hs.out.1, h⟩) hE
theorem rDiv_qbig (va vb : Value) (a b : Rat) (w : World) (ha : RatV w va a) (hb : RatV w vb b) (hs : Hid (¬ DivS a b ∧ b.num ≠ 0)) (hE : Env w) :
    Calls Tryz.prog 38 #[va, vb] w fun e w' => NoQ 3 e ∧ Below w.heap.size w w' := by
  rcases Int.lt_trichotomy b.num 0 with h | h | h
  · by_cases h1 : Rq.Sm (a.num * b.den)
    · exact rDiv_2n va vb a b w ha hb (Lib.hid ⟨⟨h1, fun h2 => hs.out.1 ⟨h1, h2⟩⟩, h⟩) hE
    · exact rDiv_1n va vb a b w ha hb (Lib.hid ⟨h1, h⟩) hE
  · exact absurd h hs.out.2
  · by_cases h1 : Rq.Sm (a.num * b.den)
    · exact rDiv_2p va vb a b w ha hb (Lib.hid ⟨⟨h1, fun h2 => hs.out.1 ⟨h1, h2⟩⟩, h⟩) hE
    · exact rDiv_1p va vb a b w ha hb (Lib.hid ⟨h1, h⟩) hE

end Go.Proofs.YtgenhkakcbedaaaGreatDoor
