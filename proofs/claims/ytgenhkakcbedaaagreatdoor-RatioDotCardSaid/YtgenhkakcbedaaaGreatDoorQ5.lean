import Derived.Test.YtgenhkakcbedaaaGreatDoorQ4
namespace Go.Proofs.YtgenhkakcbedaaaGreatDoor
open Go.RowKit

def AddS (a b : Rat) : Prop := CrS a b ∧ Rq.Sm (a.num * b.den + b.num * a.den) ∧ Rq.Sm ((a.den : Int) * b.den)
def SubS (a b : Rat) : Prop := CrS a b ∧ Rq.Sm (a.num * b.den - b.num * a.den) ∧ Rq.Sm ((a.den : Int) * b.den)
def MulS (a b : Rat) : Prop := Rq.Sm (a.num * b.num) ∧ Rq.Sm ((a.den : Int) * b.den)
def DivS (a b : Rat) : Prop := Rq.Sm (a.num * b.den) ∧ Rq.Sm ((a.den : Int) * b.num)

theorem dd_ne (a b : Rat) : (a.den : Int) * (b.den : Int) ≠ 0 := Int.mul_ne_zero (Rq.den_ne a) (Rq.den_ne b)

set_option maxRecDepth 100000 in
set_option maxHeartbeats 1600000 in
theorem cadd_i1 (va vb : Value) (bb : Bool) (w : World) (hqa : VQ w va false) (hqb : VQ w vb bb) (hE : Env w) :
    Calls Tryz.prog 76 #[va, vb, .func (Fn.func 46) #[] #[]] w fun e w' => NoQ 1 e ∧ Below w.heap.size w w' := by
  have hE0 := hE
  have hbw := Below.refl w.heap.size w
  obtain ⟨ng1, ao1, n1, cap1, ng2, ao2, n2, cap2, rfl⟩ := hqa.parts
  obtain ⟨ng3, ao3, n3, cap3, ng4, ao4, n4, cap4, rfl⟩ := hqb.parts
  go_enter Tryz.func76, Tryz.ntmps76
  go_upto_region 1 with fail
  obtain ⟨wx, hwx, hszx, X1, X2, X3, hb⟩ := boxes_444 w (.bool ng1) (.slice ao1 n1 cap1) (.bool ng2) (.slice ao2 n2 cap2) 29 (.bool ng3) (.slice ao3 n3 cap3) (.bool ng4) (.slice ao4 n4 cap4) 29 (.bool false) (.slice none 0 0) (.bool false) (.slice none 0 0) 29
  rw [← hwx]
  clear hwx
  obtain ⟨v1, rfl⟩ : ∃ v1 : World, v1 = wx := ⟨_, rfl⟩
  have hqa := hqa.mono hb
  have hqb := hqb.mono hb
  have hE := hE.mono hb
  have hbw := Below.step hbw hb (Nat.le_refl _)
  clear hb
  obtain ⟨cX1_0, cX1_1, cX1_2, cX1_3, _, _, _, _⟩ := id X1
  go_wp2_with fail
  (with_reducible refine (Valid_v _ false v1 hqa hE).mono ?_)
  rintro e v2 ⟨rfl, hb⟩
  have hqa := hqa.mono hb
  have hqb := hqb.mono hb
  have X1 := X1.mono hb
  have X2 := X2.mono hb
  have X3 := X3.mono hb
  have hE := hE.mono hb
  have hbw := Below.step hbw hb (Nat.le_refl _)
  clear hb
  clear cX1_0 cX1_1 cX1_2 cX1_3
  obtain ⟨cX3_0, cX3_1, cX3_2, cX3_3, _, _, _, _⟩ := id X3
  go_wp2
  refine bodyPost_ret (v := .tuple #[.agg #[.bool false, .slice none 0 0, .bool false, .slice none 0 0], .int .i64 1]) (by simp [results, Tryz.results76, go_sem, cX3_0, cX3_1, cX3_2, cX3_3]) rfl ⟨rfl, Below.put4 hbw (by omega) (.bool false) (.slice none 0 0) (.bool false) (.slice none 0 0)⟩

set_option maxRecDepth 100000 in
set_option maxHeartbeats 1600000 in
theorem cadd_i2 (va vb : Value) (w : World) (hqa : VQ w va true) (hqb : VQ w vb false) (hE : Env w) :
    Calls Tryz.prog 76 #[va, vb, .func (Fn.func 46) #[] #[]] w fun e w' => NoQ 1 e ∧ Below w.heap.size w w' := by
  have hE0 := hE
  have hbw := Below.refl w.heap.size w
  obtain ⟨ng1, ao1, n1, cap1, ng2, ao2, n2, cap2, rfl⟩ := hqa.parts
  obtain ⟨ng3, ao3, n3, cap3, ng4, ao4, n4, cap4, rfl⟩ := hqb.parts
  go_enter Tryz.func76, Tryz.ntmps76
  go_upto_region 1 with fail
  obtain ⟨wx, hwx, hszx, X1, X2, X3, hb⟩ := boxes_444 w (.bool ng1) (.slice ao1 n1 cap1) (.bool ng2) (.slice ao2 n2 cap2) 29 (.bool ng3) (.slice ao3 n3 cap3) (.bool ng4) (.slice ao4 n4 cap4) 29 (.bool false) (.slice none 0 0) (.bool false) (.slice none 0 0) 29
  rw [← hwx]
  clear hwx
  obtain ⟨v1, rfl⟩ : ∃ v1 : World, v1 = wx := ⟨_, rfl⟩
  have hqa := hqa.mono hb
  have hqb := hqb.mono hb
  have hE := hE.mono hb
  have hbw := Below.step hbw hb (Nat.le_refl _)
  clear hb
  obtain ⟨cX1_0, cX1_1, cX1_2, cX1_3, _, _, _, _⟩ := id X1
  go_wp2_with fail
  (with_reducible refine (Valid_v _ true v1 hqa hE).mono ?_)
  rintro e v2 ⟨rfl, hb⟩
  have hqa := hqa.mono hb
  have hqb := hqb.mono hb
  have X1 := X1.mono hb
  have X2 := X2.mono hb
  have X3 := X3.mono hb
  have hE := hE.mono hb
  have hbw := Below.step hbw hb (Nat.le_refl _)
  clear hb
  clear cX1_0 cX1_1 cX1_2 cX1_3
  obtain ⟨cX2_0, cX2_1, cX2_2, cX2_3, _, _, _, _⟩ := id X2
  go_wp2_with fail
  (with_reducible refine (Valid_v _ false v2 hqb hE).mono ?_)
  rintro e v3 ⟨rfl, hb⟩
  have hqa := hqa.mono hb
  have hqb := hqb.mono hb
  have X1 := X1.mono hb
  have X2 := X2.mono hb
  have X3 := X3.mono hb
  have hE := hE.mono hb
  have hbw := Below.step hbw hb (Nat.le_refl _)
  clear hb
  clear cX2_0 cX2_1 cX2_2 cX2_3
  obtain ⟨cX3_0, cX3_1, cX3_2, cX3_3, _, _, _, _⟩ := id X3
  go_wp2
  refine bodyPost_ret (v := .tuple #[.agg #[.bool false, .slice none 0 0, .bool false, .slice none 0 0], .int .i64 1]) (by simp [results, Tryz.results76, go_sem, cX3_0, cX3_1, cX3_2, cX3_3]) rfl ⟨rfl, Below.put4 hbw (by omega) (.bool false) (.slice none 0 0) (.bool false) (.slice none 0 0)⟩

theorem cadd_inv (va vb : Value) (ba bb : Bool) (w : World) (ha : VQ w va ba) (hb : VQ w vb bb) (hn : Hid (¬ (ba = true ∧ bb = true))) (hE : Env w) :
    Calls Tryz.prog 76 #[va, vb, .func (Fn.func 46) #[] #[]] w fun e w' => NoQ 1 e ∧ Below w.heap.size w w' := by
  cases ba
  · exact cadd_i1 va vb bb w ha hb hE
  · cases bb
    · exact cadd_i2 va vb w ha hb hE
    · exact absurd ⟨rfl, rfl⟩ hn.out

set_option maxRecDepth 100000 in
set_option maxHeartbeats 1600000 in
theorem cadd_0 (va vb : Value) (a b : Rat) (w : World) (ha : RatV w va a) (hb : RatV w vb b) (hs : Hid (¬ CrS a b)) (hE : Env w) :
    Calls Tryz.prog 76 #[va, vb, .func (Fn.func 46) #[] #[]] w fun e w' => NoQ 3 e ∧ Below w.heap.size w w' := by
  have hE0 := hE
  have hbw := Below.refl w.heap.size w
  obtain ⟨ng1, ao1, n1, cap1, ng2, ao2, n2, cap2, rfl, h1, h2⟩ := ha
  have HV1 := Lib.hid h1
  have HV2 := Lib.hid h2
  clear h1 h2
  obtain ⟨ng3, ao3, n3, cap3, ng4, ao4, n4, cap4, rfl, h1, h2⟩ := hb
  have HV3 := Lib.hid h1
  have HV4 := Lib.hid h2
  clear h1 h2
  go_enter Tryz.func76, Tryz.ntmps76
  go_upto_region 1 with fail
  obtain ⟨wx, hwx, hszx, X1, X2, X3, hb⟩ := boxes_444 w (.bool ng1) (.slice ao1 n1 cap1) (.bool ng2) (.slice ao2 n2 cap2) 29 (.bool ng3) (.slice ao3 n3 cap3) (.bool ng4) (.slice ao4 n4 cap4) 29 (.bool false) (.slice none 0 0) (.bool false) (.slice none 0 0) 29
  rw [← hwx]
  clear hwx
  obtain ⟨v1, rfl⟩ : ∃ v1 : World, v1 = wx := ⟨_, rfl⟩
  have HV1 := Lib.hid (HV1.out.mono hb)
  have HV2 := Lib.hid (HV2.out.mono hb)
  have HV3 := Lib.hid (HV3.out.mono hb)
  have HV4 := Lib.hid (HV4.out.mono hb)
  have hE := hE.mono hb
  have hbw := Below.step hbw hb (Nat.le_refl _)
  clear hb
  obtain ⟨cX1_0, cX1_1, cX1_2, cX1_3, _, _, _, _⟩ := id X1
  go_wp2_with fail
  (with_reducible refine (Valid_true _ a v1 (RatV.mk' HV1 HV2) hE).mono ?_)
  rintro e v2 ⟨rfl, hb⟩
  have HV1 := Lib.hid (HV1.out.mono hb)
  have HV2 := Lib.hid (HV2.out.mono hb)
  have HV3 := Lib.hid (HV3.out.mono hb)
  have HV4 := Lib.hid (HV4.out.mono hb)
  have X1 := X1.mono hb
  have X2 := X2.mono hb
  have X3 := X3.mono hb
  have hE := hE.mono hb
  have hbw := Below.step hbw hb (Nat.le_refl _)
  clear hb
  clear cX1_0 cX1_1 cX1_2 cX1_3
  obtain ⟨cX2_0, cX2_1, cX2_2, cX2_3, _, _, _, _⟩ := id X2
  go_wp2_with fail
  (with_reducible refine (Valid_true _ b v2 (RatV.mk' HV3 HV4) hE).mono ?_)
  rintro e v3 ⟨rfl, hb⟩
  have HV1 := Lib.hid (HV1.out.mono hb)
  have HV2 := Lib.hid (HV2.out.mono hb)
  have HV3 := Lib.hid (HV3.out.mono hb)
  have HV4 := Lib.hid (HV4.out.mono hb)
  have X1 := X1.mono hb
  have X2 := X2.mono hb
  have X3 := X3.mono hb
  have hE := hE.mono hb
  have hbw := Below.step hbw hb (Nat.le_refl _)
  clear hb
  clear cX2_0 cX2_1 cX2_2 cX2_3
  obtain ⟨cX1_0, cX1_1, cX1_2, cX1_3, _, _, _, _⟩ := id X1
  obtain ⟨cX2_0, cX2_1, cX2_2, cX2_3, _, _, _, _⟩ := id X2
  go_wp2_with fail
  (with_reducible refine (crossed_big _ _ a b v3 (RatV.mk' HV1 HV2) (RatV.mk' HV3 HV4) hs hE).mono ?_)
  rintro e v4 ⟨rfl, hb⟩
  have HV1 := Lib.hid (HV1.out.mono hb)
  have HV2 := Lib.hid (HV2.out.mono hb)
  have HV3 := Lib.hid (HV3.out.mono hb)
  have HV4 := Lib.hid (HV4.out.mono hb)
  have X1 := X1.mono hb
  have X2 := X2.mono hb
  have X3 := X3.mono hb
  have hE := hE.mono hb
  have hbw := Below.step hbw hb (Nat.le_refl _)
  clear hb
  clear cX1_0 cX1_1 cX1_2 cX1_3 cX2_0 cX2_1 cX2_2 cX2_3
  go_upto_region 4 with fail
  have lX5X1 := X1.lt
  have lX5X2 := X2.lt
  have lX5X3 := X3.lt
  obtain ⟨wx, hwx, hszx, X5, X6, hb⟩ := boxes_22 v4 (.bool false) (.slice none 0 0) 24 (.bool false) (.slice none 0 0) 24
  rw [← hwx]
  clear hwx
  obtain ⟨v5, rfl⟩ : ∃ v5 : World, v5 = wx := ⟨_, rfl⟩
  have HV1 := Lib.hid (HV1.out.mono hb)
  have HV2 := Lib.hid (HV2.out.mono hb)
  have HV3 := Lib.hid (HV3.out.mono hb)
  have HV4 := Lib.hid (HV4.out.mono hb)
  have X1 := X1.mono hb
  have X2 := X2.mono hb
  have X3 := X3.mono hb
  have hE := hE.mono hb
  have hbw := Below.step hbw hb (Nat.le_refl _)
  clear hb
  obtain ⟨cX3_0, cX3_1, cX3_2, cX3_3, _, _, _, _⟩ := id X3
  go_wp2
  refine bodyPost_ret (v := .tuple #[.agg #[.bool false, .slice none 0 0, .bool false, .slice none 0 0], .int .i64 3]) (by simp [results, Tryz.results76, go_sem, cX3_0, cX3_1, cX3_2, cX3_3]) rfl ⟨rfl, Below.put4 hbw (by omega) (.bool false) (.slice none 0 0) (.bool false) (.slice none 0 0)⟩

set_option maxRecDepth 100000 in
set_option maxHeartbeats 1600000 in
theorem cadd_1 (va vb : Value) (a b : Rat) (w : World) (ha : RatV w va a) (hb : RatV w vb b) (hs : Hid (CrS a b ∧ ¬ Rq.Sm ((a.num * (b.den : Int)) + (b.num * (a.den : Int))))) (hE : Env w) :
    Calls Tryz.prog 76 #[va, vb, .func (Fn.func 46) #[] #[]] w fun e w' => NoQ 3 e ∧ Below w.heap.size w w' := by
  have HS : Hid (Hid (Rq.Sm (a.num * (b.den : Int))) ∧ Hid (Rq.Sm (b.num * (a.den : Int)))) := Lib.hid ⟨Lib.hid hs.out.1.1, Lib.hid hs.out.1.2⟩
  have hE0 := hE
  have hbw := Below.refl w.heap.size w
  obtain ⟨ng1, ao1, n1, cap1, ng2, ao2, n2, cap2, rfl, h1, h2⟩ := ha
  have HV1 := Lib.hid h1
  have HV2 := Lib.hid h2
  clear h1 h2
  obtain ⟨ng3, ao3, n3, cap3, ng4, ao4, n4, cap4, rfl, h1, h2⟩ := hb
  have HV3 := Lib.hid h1
  have HV4 := Lib.hid h2
  clear h1 h2
  go_enter Tryz.func76, Tryz.ntmps76
  go_upto_region 1 with fail
  obtain ⟨wx, hwx, hszx, X1, X2, X3, hb⟩ := boxes_444 w (.bool ng1) (.slice ao1 n1 cap1) (.bool ng2) (.slice ao2 n2 cap2) 29 (.bool ng3) (.slice ao3 n3 cap3) (.bool ng4) (.slice ao4 n4 cap4) 29 (.bool false) (.slice none 0 0) (.bool false) (.slice none 0 0) 29
  rw [← hwx]
  clear hwx
  obtain ⟨v1, rfl⟩ : ∃ v1 : World, v1 = wx := ⟨_, rfl⟩
  have HV1 := Lib.hid (HV1.out.mono hb)
  have HV2 := Lib.hid (HV2.out.mono hb)
  have HV3 := Lib.hid (HV3.out.mono hb)
  have HV4 := Lib.hid (HV4.out.mono hb)
  have hE := hE.mono hb
  have hbw := Below.step hbw hb (Nat.le_refl _)
  clear hb
  obtain ⟨cX1_0, cX1_1, cX1_2, cX1_3, _, _, _, _⟩ := id X1
  go_wp2_with fail
  (with_reducible refine (Valid_true _ a v1 (RatV.mk' HV1 HV2) hE).mono ?_)
  rintro e v2 ⟨rfl, hb⟩
  have HV1 := Lib.hid (HV1.out.mono hb)
  have HV2 := Lib.hid (HV2.out.mono hb)
  have HV3 := Lib.hid (HV3.out.mono hb)
  have HV4 := Lib.hid (HV4.out.mono hb)
  have X1 := X1.mono hb
  have X2 := X2.mono hb
  have X3 := X3.mono hb
  have hE := hE.mono hb
  have hbw := Below.step hbw hb (Nat.le_refl _)
  clear hb
  clear cX1_0 cX1_1 cX1_2 cX1_3
  obtain ⟨cX2_0, cX2_1, cX2_2, cX2_3, _, _, _, _⟩ := id X2
  go_wp2_with fail
  (with_reducible refine (Valid_true _ b v2 (RatV.mk' HV3 HV4) hE).mono ?_)
  rintro e v3 ⟨rfl, hb⟩
  have HV1 := Lib.hid (HV1.out.mono hb)
  have HV2 := Lib.hid (HV2.out.mono hb)
  have HV3 := Lib.hid (HV3.out.mono hb)
  have HV4 := Lib.hid (HV4.out.mono hb)
  have X1 := X1.mono hb
  have X2 := X2.mono hb
  have X3 := X3.mono hb
  have hE := hE.mono hb
  have hbw := Below.step hbw hb (Nat.le_refl _)
  clear hb
  clear cX2_0 cX2_1 cX2_2 cX2_3
  obtain ⟨cX1_0, cX1_1, cX1_2, cX1_3, _, _, _, _⟩ := id X1
  obtain ⟨cX2_0, cX2_1, cX2_2, cX2_3, _, _, _, _⟩ := id X2
  go_wp2_with fail
  (with_reducible refine (crossed_ok _ _ a b v3 (RatV.mk' HV1 HV2) (RatV.mk' HV3 HV4) HS hE).mono ?_)
  rintro e v4 ⟨⟨ng5, ao5, n5, cap5, ng6, ao6, n6, cap6, rfl, HV5, HV6⟩, hb⟩
  have HV1 := Lib.hid (HV1.out.mono hb)
  have HV2 := Lib.hid (HV2.out.mono hb)
  have HV3 := Lib.hid (HV3.out.mono hb)
  have HV4 := Lib.hid (HV4.out.mono hb)
  have X1 := X1.mono hb
  have X2 := X2.mono hb
  have X3 := X3.mono hb
  have hE := hE.mono hb
  have hbw := Below.step hbw hb (Nat.le_refl _)
  clear hb
  clear cX1_0 cX1_1 cX1_2 cX1_3 cX2_0 cX2_1 cX2_2 cX2_3
  go_upto_region 4 with fail
  have lX5X1 := X1.lt
  have lX5X2 := X2.lt
  have lX5X3 := X3.lt
  obtain ⟨wx, hwx, hszx, X5, X6, hb⟩ := boxes_22 v4 (.bool ng5) (.slice ao5 n5 cap5) 24 (.bool ng6) (.slice ao6 n6 cap6) 24
  rw [← hwx]
  clear hwx
  obtain ⟨v5, rfl⟩ : ∃ v5 : World, v5 = wx := ⟨_, rfl⟩
  have HV1 := Lib.hid (HV1.out.mono hb)
  have HV2 := Lib.hid (HV2.out.mono hb)
  have HV3 := Lib.hid (HV3.out.mono hb)
  have HV4 := Lib.hid (HV4.out.mono hb)
  have X1 := X1.mono hb
  have X2 := X2.mono hb
  have X3 := X3.mono hb
  have HV5 := Lib.hid (HV5.out.mono hb)
  have HV6 := Lib.hid (HV6.out.mono hb)
  have hE := hE.mono hb
  have hbw := Below.step hbw hb (Nat.le_refl _)
  clear hb
  obtain ⟨cX5_0, cX5_1, _, _⟩ := id X5
  obtain ⟨cX6_0, cX6_1, _, _⟩ := id X6
  go_wp2_with fail
  (with_reducible refine (Add_big _ _ (a.num * (b.den : Int)) (b.num * (a.den : Int)) v5 HV5.out HV6.out (Lib.hid hs.out.2) hE).mono ?_)
  rintro e v6 ⟨rfl, hb⟩
  have HV1 := Lib.hid (HV1.out.mono hb)
  have HV2 := Lib.hid (HV2.out.mono hb)
  have HV3 := Lib.hid (HV3.out.mono hb)
  have HV4 := Lib.hid (HV4.out.mono hb)
  have X1 := X1.mono hb
  have X2 := X2.mono hb
  have X3 := X3.mono hb
  have HV5 := Lib.hid (HV5.out.mono hb)
  have HV6 := Lib.hid (HV6.out.mono hb)
  have X5 := X5.mono hb
  have X6 := X6.mono hb
  have hE := hE.mono hb
  have hbw := Below.step hbw hb (Nat.le_refl _)
  clear hb
  clear cX5_0 cX5_1 cX6_0 cX6_1
  go_upto_region 7 with fail
  have lX7X1 := X1.lt
  have lX7X2 := X2.lt
  have lX7X3 := X3.lt
  have lX7X5 := X5.lt
  have lX7X6 := X6.lt
  have X7 := Box.new v6 (.bool false) (.slice none 0 0) 24
  have hb := below_alloc v6 (.cells #[.bool false, .slice none 0 0] 24)
  generalize v6.alloc (.cells #[.bool false, .slice none 0 0] 24) = v7 at *
  have HV1 := Lib.hid (HV1.out.mono hb)
  have HV2 := Lib.hid (HV2.out.mono hb)
  have HV3 := Lib.hid (HV3.out.mono hb)
  have HV4 := Lib.hid (HV4.out.mono hb)
  have X1 := X1.mono hb
  have X2 := X2.mono hb
  have X3 := X3.mono hb
  have HV5 := Lib.hid (HV5.out.mono hb)
  have HV6 := Lib.hid (HV6.out.mono hb)
  have X5 := X5.mono hb
  have X6 := X6.mono hb
  have hE := hE.mono hb
  have hbw := Below.step hbw hb (Nat.le_refl _)
  clear hb
  obtain ⟨cX3_0, cX3_1, cX3_2, cX3_3, _, _, _, _⟩ := id X3
  go_wp2
  refine bodyPost_ret (v := .tuple #[.agg #[.bool false, .slice none 0 0, .bool false, .slice none 0 0], .int .i64 3]) (by simp [results, Tryz.results76, go_sem, cX3_0, cX3_1, cX3_2, cX3_3]) rfl ⟨rfl, Below.put4 hbw (by omega) (.bool false) (.slice none 0 0) (.bool false) (.slice none 0 0)⟩

set_option maxRecDepth 100000 in
set_option maxHeartbeats 1600000 in
theorem cadd_2 (va vb : Value) (a b : Rat) (w : World) (ha : RatV w va a) (hb : RatV w vb b) (hs : Hid (CrS a b ∧ Rq.Sm ((a.num * (b.den : Int)) + (b.num * (a.den : Int))) ∧ ¬ Rq.Sm ((a.den : Int) * (b.den : Int)))) (hE : Env w) :
    Calls Tryz.prog 76 #[va, vb, .func (Fn.func 46) #[] #[]] w fun e w' => NoQ 3 e ∧ Below w.heap.size w w' := by
  have HS : Hid (Hid (Rq.Sm (a.num * (b.den : Int))) ∧ Hid (Rq.Sm (b.num * (a.den : Int)))) := Lib.hid ⟨Lib.hid hs.out.1.1, Lib.hid hs.out.1.2⟩
  have hE0 := hE
  have hbw := Below.refl w.heap.size w
  obtain ⟨ng1, ao1, n1, cap1, ng2, ao2, n2, cap2, rfl, h1, h2⟩ := ha
  have HV1 := Lib.hid h1
  have HV2 := Lib.hid h2
  clear h1 h2
  obtain ⟨ng3, ao3, n3, cap3, ng4, ao4, n4, cap4, rfl, h1, h2⟩ := hb
  have HV3 := Lib.hid h1
  have HV4 := Lib.hid h2
  clear h1 h2
  go_enter Tryz.func76, Tryz.ntmps76
  go_upto_region 1 with fail
  obtain ⟨wx, hwx, hszx, X1, X2, X3, hb⟩ := boxes_444 w (.bool ng1) (.slice ao1 n1 cap1) (.bool ng2) (.slice ao2 n2 cap2) 29 (.bool ng3) (.slice ao3 n3 cap3) (.bool ng4) (.slice ao4 n4 cap4) 29 (.bool false) (.slice none 0 0) (.bool false) (.slice none 0 0) 29
  rw [← hwx]
  clear hwx
  obtain ⟨v1, rfl⟩ : ∃ v1 : World, v1 = wx := ⟨_, rfl⟩
  have HV1 := Lib.hid (HV1.out.mono hb)
  have HV2 := Lib.hid (HV2.out.mono hb)
  have HV3 := Lib.hid (HV3.out.mono hb)
  have HV4 := Lib.hid (HV4.out.mono hb)
  have hE := hE.mono hb
  have hbw := Below.step hbw hb (Nat.le_refl _)
  clear hb
  obtain ⟨cX1_0, cX1_1, cX1_2, cX1_3, _, _, _, _⟩ := id X1
  go_wp2_with fail
  (with_reducible refine (Valid_true _ a v1 (RatV.mk' HV1 HV2) hE).mono ?_)
  rintro e v2 ⟨rfl, hb⟩
  have HV1 := Lib.hid (HV1.out.mono hb)
  have HV2 := Lib.hid (HV2.out.mono hb)
  have HV3 := Lib.hid (HV3.out.mono hb)
  have HV4 := Lib.hid (HV4.out.mono hb)
  have X1 := X1.mono hb
  have X2 := X2.mono hb
  have X3 := X3.mono hb
  have hE := hE.mono hb
  have hbw := Below.step hbw hb (Nat.le_refl _)
  clear hb
  clear cX1_0 cX1_1 cX1_2 cX1_3
  obtain ⟨cX2_0, cX2_1, cX2_2, cX2_3, _, _, _, _⟩ := id X2
  go_wp2_with fail
  (with_reducible refine (Valid_true _ b v2 (RatV.mk' HV3 HV4) hE).mono ?_)
  rintro e v3 ⟨rfl, hb⟩
  have HV1 := Lib.hid (HV1.out.mono hb)
  have HV2 := Lib.hid (HV2.out.mono hb)
  have HV3 := Lib.hid (HV3.out.mono hb)
  have HV4 := Lib.hid (HV4.out.mono hb)
  have X1 := X1.mono hb
  have X2 := X2.mono hb
  have X3 := X3.mono hb
  have hE := hE.mono hb
  have hbw := Below.step hbw hb (Nat.le_refl _)
  clear hb
  clear cX2_0 cX2_1 cX2_2 cX2_3
  obtain ⟨cX1_0, cX1_1, cX1_2, cX1_3, _, _, _, _⟩ := id X1
  obtain ⟨cX2_0, cX2_1, cX2_2, cX2_3, _, _, _, _⟩ := id X2
  go_wp2_with fail
  (with_reducible refine (crossed_ok _ _ a b v3 (RatV.mk' HV1 HV2) (RatV.mk' HV3 HV4) HS hE).mono ?_)
  rintro e v4 ⟨⟨ng5, ao5, n5, cap5, ng6, ao6, n6, cap6, rfl, HV5, HV6⟩, hb⟩
  have HV1 := Lib.hid (HV1.out.mono hb)
  have HV2 := Lib.hid (HV2.out.mono hb)
  have HV3 := Lib.hid (HV3.out.mono hb)
  have HV4 := Lib.hid (HV4.out.mono hb)
  have X1 := X1.mono hb
  have X2 := X2.mono hb
  have X3 := X3.mono hb
  have hE := hE.mono hb
  have hbw := Below.step hbw hb (Nat.le_refl _)
  clear hb
  clear cX1_0 cX1_1 cX1_2 cX1_3 cX2_0 cX2_1 cX2_2 cX2_3
  go_upto_region 4 with fail
  have lX5X1 := X1.lt
  have lX5X2 := X2.lt
  have lX5X3 := X3.lt
  obtain ⟨wx, hwx, hszx, X5, X6, hb⟩ := boxes_22 v4 (.bool ng5) (.slice ao5 n5 cap5) 24 (.bool ng6) (.slice ao6 n6 cap6) 24
  rw [← hwx]
  clear hwx
  obtain ⟨v5, rfl⟩ : ∃ v5 : World, v5 = wx := ⟨_, rfl⟩
  have HV1 := Lib.hid (HV1.out.mono hb)
  have HV2 := Lib.hid (HV2.out.mono hb)
  have HV3 := Lib.hid (HV3.out.mono hb)
  have HV4 := Lib.hid (HV4.out.mono hb)
  have X1 := X1.mono hb
  have X2 := X2.mono hb
  have X3 := X3.mono hb
  have HV5 := Lib.hid (HV5.out.mono hb)
  have HV6 := Lib.hid (HV6.out.mono hb)
  have hE := hE.mono hb
  have hbw := Below.step hbw hb (Nat.le_refl _)
  clear hb
  obtain ⟨cX5_0, cX5_1, _, _⟩ := id X5
  obtain ⟨cX6_0, cX6_1, _, _⟩ := id X6
  go_wp2_with fail
  (with_reducible refine (Add_ok _ _ (a.num * (b.den : Int)) (b.num * (a.den : Int)) v5 HV5.out HV6.out (Lib.hid hs.out.2.1) hE).mono ?_)
  rintro e v6 ⟨⟨ng7, ao7, n7, cap7, rfl, HV7⟩, hb⟩
  have HV1 := Lib.hid (HV1.out.mono hb)
  have HV2 := Lib.hid (HV2.out.mono hb)
  have HV3 := Lib.hid (HV3.out.mono hb)
  have HV4 := Lib.hid (HV4.out.mono hb)
  have X1 := X1.mono hb
  have X2 := X2.mono hb
  have X3 := X3.mono hb
  have HV5 := Lib.hid (HV5.out.mono hb)
  have HV6 := Lib.hid (HV6.out.mono hb)
  have X5 := X5.mono hb
  have X6 := X6.mono hb
  have hE := hE.mono hb
  have hbw := Below.step hbw hb (Nat.le_refl _)
  clear hb
  clear cX5_0 cX5_1 cX6_0 cX6_1
  go_upto_region 7 with fail
  have lX7X1 := X1.lt
  have lX7X2 := X2.lt
  have lX7X3 := X3.lt
  have lX7X5 := X5.lt
  have lX7X6 := X6.lt
  have X7 := Box.new v6 (.bool ng7) (.slice ao7 n7 cap7) 24
  have hb := below_alloc v6 (.cells #[.bool ng7, .slice ao7 n7 cap7] 24)
  generalize v6.alloc (.cells #[.bool ng7, .slice ao7 n7 cap7] 24) = v7 at *
  have HV1 := Lib.hid (HV1.out.mono hb)
  have HV2 := Lib.hid (HV2.out.mono hb)
  have HV3 := Lib.hid (HV3.out.mono hb)
  have HV4 := Lib.hid (HV4.out.mono hb)
  have X1 := X1.mono hb
  have X2 := X2.mono hb
  have X3 := X3.mono hb
  have HV5 := Lib.hid (HV5.out.mono hb)
  have HV6 := Lib.hid (HV6.out.mono hb)
  have X5 := X5.mono hb
  have X6 := X6.mono hb
  have HV7 := Lib.hid (HV7.out.mono hb)
  have hE := hE.mono hb
  have hbw := Below.step hbw hb (Nat.le_refl _)
  clear hb
  obtain ⟨cX1_0, cX1_1, cX1_2, cX1_3, _, _, _, _⟩ := id X1
  obtain ⟨cX2_0, cX2_1, cX2_2, cX2_3, _, _, _, _⟩ := id X2
  go_wp2_with fail
  (with_reducible refine (Mul_big _ _ (a.den : Int) (b.den : Int) v7 HV2.out HV4.out (Lib.hid hs.out.2.2) hE).mono ?_)
  rintro e v8 ⟨rfl, hb⟩
  have HV1 := Lib.hid (HV1.out.mono hb)
  have HV2 := Lib.hid (HV2.out.mono hb)
  have HV3 := Lib.hid (HV3.out.mono hb)
  have HV4 := Lib.hid (HV4.out.mono hb)
  have X1 := X1.mono hb
  have X2 := X2.mono hb
  have X3 := X3.mono hb
  have HV5 := Lib.hid (HV5.out.mono hb)
  have HV6 := Lib.hid (HV6.out.mono hb)
  have X5 := X5.mono hb
  have X6 := X6.mono hb
  have HV7 := Lib.hid (HV7.out.mono hb)
  have X7 := X7.mono hb
  have hE := hE.mono hb
  have hbw := Below.step hbw hb (Nat.le_refl _)
  clear hb
  clear cX1_0 cX1_1 cX1_2 cX1_3 cX2_0 cX2_1 cX2_2 cX2_3
  go_upto_region 10 with fail
  have lX8X1 := X1.lt
  have lX8X2 := X2.lt
  have lX8X3 := X3.lt
  have lX8X5 := X5.lt
  have lX8X6 := X6.lt
  have lX8X7 := X7.lt
  have X8 := Box.new v8 (.bool false) (.slice none 0 0) 24
  have hb := below_alloc v8 (.cells #[.bool false, .slice none 0 0] 24)
  generalize v8.alloc (.cells #[.bool false, .slice none 0 0] 24) = v9 at *
  have HV1 := Lib.hid (HV1.out.mono hb)
  have HV2 := Lib.hid (HV2.out.mono hb)
  have HV3 := Lib.hid (HV3.out.mono hb)
  have HV4 := Lib.hid (HV4.out.mono hb)
  have X1 := X1.mono hb
  have X2 := X2.mono hb
  have X3 := X3.mono hb
  have HV5 := Lib.hid (HV5.out.mono hb)
  have HV6 := Lib.hid (HV6.out.mono hb)
  have X5 := X5.mono hb
  have X6 := X6.mono hb
  have HV7 := Lib.hid (HV7.out.mono hb)
  have X7 := X7.mono hb
  have hE := hE.mono hb
  have hbw := Below.step hbw hb (Nat.le_refl _)
  clear hb
  obtain ⟨cX3_0, cX3_1, cX3_2, cX3_3, _, _, _, _⟩ := id X3
  go_wp2
  refine bodyPost_ret (v := .tuple #[.agg #[.bool false, .slice none 0 0, .bool false, .slice none 0 0], .int .i64 3]) (by simp [results, Tryz.results76, go_sem, cX3_0, cX3_1, cX3_2, cX3_3]) rfl ⟨rfl, Below.put4 hbw (by omega) (.bool false) (.slice none 0 0) (.bool false) (.slice none 0 0)⟩

set_option maxRecDepth 100000 in
set_option maxHeartbeats 1600000 in
theorem cadd_3 (va vb : Value) (a b : Rat) (w : World) (ha : RatV w va a) (hb : RatV w vb b) (hs : Hid (CrS a b ∧ Rq.Sm ((a.num * (b.den : Int)) + (b.num * (a.den : Int))) ∧ Rq.Sm ((a.den : Int) * (b.den : Int)))) (hE : Env w) :
    Calls Tryz.prog 76 #[va, vb, .func (Fn.func 46) #[] #[]] w fun e w' => GotQ w' (a + b) e ∧ Below w.heap.size w w' := by
  have HS : Hid (Hid (Rq.Sm (a.num * (b.den : Int))) ∧ Hid (Rq.Sm (b.num * (a.den : Int)))) := Lib.hid ⟨Lib.hid hs.out.1.1, Lib.hid hs.out.1.2⟩
  have hE0 := hE
  have hbw := Below.refl w.heap.size w
  obtain ⟨ng1, ao1, n1, cap1, ng2, ao2, n2, cap2, rfl, h1, h2⟩ := ha
  have HV1 := Lib.hid h1
  have HV2 := Lib.hid h2
  clear h1 h2
  obtain ⟨ng3, ao3, n3, cap3, ng4, ao4, n4, cap4, rfl, h1, h2⟩ := hb
  have HV3 := Lib.hid h1
  have HV4 := Lib.hid h2
  clear h1 h2
  go_enter Tryz.func76, Tryz.ntmps76
  go_upto_region 1 with fail
  obtain ⟨wx, hwx, hszx, X1, X2, X3, hb⟩ := boxes_444 w (.bool ng1) (.slice ao1 n1 cap1) (.bool ng2) (.slice ao2 n2 cap2) 29 (.bool ng3) (.slice ao3 n3 cap3) (.bool ng4) (.slice ao4 n4 cap4) 29 (.bool false) (.slice none 0 0) (.bool false) (.slice none 0 0) 29
  rw [← hwx]
  clear hwx
  obtain ⟨v1, rfl⟩ : ∃ v1 : World, v1 = wx := ⟨_, rfl⟩
  have HV1 := Lib.hid (HV1.out.mono hb)
  have HV2 := Lib.hid (HV2.out.mono hb)
  have HV3 := Lib.hid (HV3.out.mono hb)
  have HV4 := Lib.hid (HV4.out.mono hb)
  have hE := hE.mono hb
  have hbw := Below.step hbw hb (Nat.le_refl _)
  clear hb
  obtain ⟨cX1_0, cX1_1, cX1_2, cX1_3, _, _, _, _⟩ := id X1
  go_wp2_with fail
  (with_reducible refine (Valid_true _ a v1 (RatV.mk' HV1 HV2) hE).mono ?_)
  rintro e v2 ⟨rfl, hb⟩
  have HV1 := Lib.hid (HV1.out.mono hb)
  have HV2 := Lib.hid (HV2.out.mono hb)
  have HV3 := Lib.hid (HV3.out.mono hb)
  have HV4 := Lib.hid (HV4.out.mono hb)
  have X1 := X1.mono hb
  have X2 := X2.mono hb
  have X3 := X3.mono hb
  have hE := hE.mono hb
  have hbw := Below.step hbw hb (Nat.le_refl _)
  clear hb
  clear cX1_0 cX1_1 cX1_2 cX1_3
  obtain ⟨cX2_0, cX2_1, cX2_2, cX2_3, _, _, _, _⟩ := id X2
  go_wp2_with fail
  (with_reducible refine (Valid_true _ b v2 (RatV.mk' HV3 HV4) hE).mono ?_)
  rintro e v3 ⟨rfl, hb⟩
  have HV1 := Lib.hid (HV1.out.mono hb)
  have HV2 := Lib.hid (HV2.out.mono hb)
  have HV3 := Lib.hid (HV3.out.mono hb)
  have HV4 := Lib.hid (HV4.out.mono hb)
  have X1 := X1.mono hb
  have X2 := X2.mono hb
  have X3 := X3.mono hb
  have hE := hE.mono hb
  have hbw := Below.step hbw hb (Nat.le_refl _)
  clear hb
  clear cX2_0 cX2_1 cX2_2 cX2_3
  obtain ⟨cX1_0, cX1_1, cX1_2, cX1_3, _, _, _, _⟩ := id X1
  obtain ⟨cX2_0, cX2_1, cX2_2, cX2_3, _, _, _, _⟩ := id X2
  go_wp2_with fail
  (with_reducible refine (crossed_ok _ _ a b v3 (RatV.mk' HV1 HV2) (RatV.mk' HV3 HV4) HS hE).mono ?_)
  rintro e v4 ⟨⟨ng5, ao5, n5, cap5, ng6, ao6, n6, cap6, rfl, HV5, HV6⟩, hb⟩
  have HV1 := Lib.hid (HV1.out.mono hb)
  have HV2 := Lib.hid (HV2.out.mono hb)
  have HV3 := Lib.hid (HV3.out.mono hb)
  have HV4 := Lib.hid (HV4.out.mono hb)
  have X1 := X1.mono hb
  have X2 := X2.mono hb
  have X3 := X3.mono hb
  have hE := hE.mono hb
  have hbw := Below.step hbw hb (Nat.le_refl _)
  clear hb
  clear cX1_0 cX1_1 cX1_2 cX1_3 cX2_0 cX2_1 cX2_2 cX2_3
  go_upto_region 4 with fail
  have lX5X1 := X1.lt
  have lX5X2 := X2.lt
  have lX5X3 := X3.lt
  obtain ⟨wx, hwx, hszx, X5, X6, hb⟩ := boxes_22 v4 (.bool ng5) (.slice ao5 n5 cap5) 24 (.bool ng6) (.slice ao6 n6 cap6) 24
  rw [← hwx]
  clear hwx
  obtain ⟨v5, rfl⟩ : ∃ v5 : World, v5 = wx := ⟨_, rfl⟩
  have HV1 := Lib.hid (HV1.out.mono hb)
  have HV2 := Lib.hid (HV2.out.mono hb)
  have HV3 := Lib.hid (HV3.out.mono hb)
  have HV4 := Lib.hid (HV4.out.mono hb)
  have X1 := X1.mono hb
  have X2 := X2.mono hb
  have X3 := X3.mono hb
  have HV5 := Lib.hid (HV5.out.mono hb)
  have HV6 := Lib.hid (HV6.out.mono hb)
  have hE := hE.mono hb
  have hbw := Below.step hbw hb (Nat.le_refl _)
  clear hb
  obtain ⟨cX5_0, cX5_1, _, _⟩ := id X5
  obtain ⟨cX6_0, cX6_1, _, _⟩ := id X6
  go_wp2_with fail
  (with_reducible refine (Add_ok _ _ (a.num * (b.den : Int)) (b.num * (a.den : Int)) v5 HV5.out HV6.out (Lib.hid hs.out.2.1) hE).mono ?_)
  rintro e v6 ⟨⟨ng7, ao7, n7, cap7, rfl, HV7⟩, hb⟩
  have HV1 := Lib.hid (HV1.out.mono hb)
  have HV2 := Lib.hid (HV2.out.mono hb)
  have HV3 := Lib.hid (HV3.out.mono hb)
  have HV4 := Lib.hid (HV4.out.mono hb)
  have X1 := X1.mono hb
  have X2 := X2.mono hb
  have X3 := X3.mono hb
  have HV5 := Lib.hid (HV5.out.mono hb)
  have HV6 := Lib.hid (HV6.out.mono hb)
  have X5 := X5.mono hb
  have X6 := X6.mono hb
  have hE := hE.mono hb
  have hbw := Below.step hbw hb (Nat.le_refl _)
  clear hb
  clear cX5_0 cX5_1 cX6_0 cX6_1
  go_upto_region 7 with fail
  have lX7X1 := X1.lt
  have lX7X2 := X2.lt
  have lX7X3 := X3.lt
  have lX7X5 := X5.lt
  have lX7X6 := X6.lt
  have X7 := Box.new v6 (.bool ng7) (.slice ao7 n7 cap7) 24
  have hb := below_alloc v6 (.cells #[.bool ng7, .slice ao7 n7 cap7] 24)
  generalize v6.alloc (.cells #[.bool ng7, .slice ao7 n7 cap7] 24) = v7 at *
  have HV1 := Lib.hid (HV1.out.mono hb)
  have HV2 := Lib.hid (HV2.out.mono hb)
  have HV3 := Lib.hid (HV3.out.mono hb)
  have HV4 := Lib.hid (HV4.out.mono hb)
  have X1 := X1.mono hb
  have X2 := X2.mono hb
  have X3 := X3.mono hb
  have HV5 := Lib.hid (HV5.out.mono hb)
  have HV6 := Lib.hid (HV6.out.mono hb)
  have X5 := X5.mono hb
  have X6 := X6.mono hb
  have HV7 := Lib.hid (HV7.out.mono hb)
  have hE := hE.mono hb
  have hbw := Below.step hbw hb (Nat.le_refl _)
  clear hb
  obtain ⟨cX1_0, cX1_1, cX1_2, cX1_3, _, _, _, _⟩ := id X1
  obtain ⟨cX2_0, cX2_1, cX2_2, cX2_3, _, _, _, _⟩ := id X2
  go_wp2_with fail
  (with_reducible refine (Mul_ok _ _ (a.den : Int) (b.den : Int) v7 HV2.out HV4.out (Lib.hid hs.out.2.2) hE).mono ?_)
  rintro e v8 ⟨⟨ng8, ao8, n8, cap8, rfl, HV8⟩, hb⟩
  have HV1 := Lib.hid (HV1.out.mono hb)
  have HV2 := Lib.hid (HV2.out.mono hb)
  have HV3 := Lib.hid (HV3.out.mono hb)
  have HV4 := Lib.hid (HV4.out.mono hb)
  have X1 := X1.mono hb
  have X2 := X2.mono hb
  have X3 := X3.mono hb
  have HV5 := Lib.hid (HV5.out.mono hb)
  have HV6 := Lib.hid (HV6.out.mono hb)
  have X5 := X5.mono hb
  have X6 := X6.mono hb
  have HV7 := Lib.hid (HV7.out.mono hb)
  have X7 := X7.mono hb
  have hE := hE.mono hb
  have hbw := Below.step hbw hb (Nat.le_refl _)
  clear hb
  clear cX1_0 cX1_1 cX1_2 cX1_3 cX2_0 cX2_1 cX2_2 cX2_3
  go_upto_region 10 with fail
  have lX8X1 := X1.lt
  have lX8X2 := X2.lt
  have lX8X3 := X3.lt
  have lX8X5 := X5.lt
  have lX8X6 := X6.lt
  have lX8X7 := X7.lt
  have X8 := Box.new v8 (.bool ng8) (.slice ao8 n8 cap8) 24
  have hb := below_alloc v8 (.cells #[.bool ng8, .slice ao8 n8 cap8] 24)
  generalize v8.alloc (.cells #[.bool ng8, .slice ao8 n8 cap8] 24) = v9 at *
  have HV1 := Lib.hid (HV1.out.mono hb)
  have HV2 := Lib.hid (HV2.out.mono hb)
  have HV3 := Lib.hid (HV3.out.mono hb)
  have HV4 := Lib.hid (HV4.out.mono hb)
  have X1 := X1.mono hb
  have X2 := X2.mono hb
  have X3 := X3.mono hb
  have HV5 := Lib.hid (HV5.out.mono hb)
  have HV6 := Lib.hid (HV6.out.mono hb)
  have X5 := X5.mono hb
  have X6 := X6.mono hb
  have HV7 := Lib.hid (HV7.out.mono hb)
  have X7 := X7.mono hb
  have HV8 := Lib.hid (HV8.out.mono hb)
  have hE := hE.mono hb
  have hbw := Below.step hbw hb (Nat.le_refl _)
  clear hb
  obtain ⟨cX7_0, cX7_1, _, _⟩ := id X7
  obtain ⟨cX8_0, cX8_1, _, _⟩ := id X8
  go_wp2_with fail
  (with_reducible refine (reduced_any _ _ ((a.num * (b.den : Int)) + (b.num * (a.den : Int))) ((a.den : Int) * (b.den : Int)) v9 HV7.out HV8.out (Lib.hid (dd_ne a b)) hE).mono ?_)
  rintro e v10 ⟨⟨ng9, ao9, n9, cap9, ngA, aoA, nA, capA, rfl, HV9, HVA⟩, hb⟩
  have HV1 := Lib.hid (HV1.out.mono hb)
  have HV2 := Lib.hid (HV2.out.mono hb)
  have HV3 := Lib.hid (HV3.out.mono hb)
  have HV4 := Lib.hid (HV4.out.mono hb)
  have X1 := X1.mono hb
  have X2 := X2.mono hb
  have X3 := X3.mono hb
  have HV5 := Lib.hid (HV5.out.mono hb)
  have HV6 := Lib.hid (HV6.out.mono hb)
  have X5 := X5.mono hb
  have X6 := X6.mono hb
  have HV7 := Lib.hid (HV7.out.mono hb)
  have X7 := X7.mono hb
  have HV8 := Lib.hid (HV8.out.mono hb)
  have X8 := X8.mono hb
  have hE := hE.mono hb
  have hbw := Below.step hbw hb (Nat.le_refl _)
  clear hb
  clear cX7_0 cX7_1 cX8_0 cX8_1
  rw [Rq.add_eq] at HV9 HVA
  obtain ⟨cX3_0, cX3_1, cX3_2, cX3_3, _, _, _, _⟩ := id X3
  go_wp2
  refine bodyPost_ret (v := .tuple #[.agg #[.bool ng9, .slice ao9 n9 cap9, .bool ngA, .slice aoA nA capA], .int .i64 0]) (by simp [results, Tryz.results76, go_sem, cX3_0, cX3_1, cX3_2, cX3_3]) rfl ⟨⟨ng9, ao9, n9, cap9, ngA, aoA, nA, capA, rfl, Lib.hid (HV9.out.put4B X3 (.bool ng9) (.slice ao9 n9 cap9) (.bool ngA) (.slice aoA nA capA)), Lib.hid (HVA.out.put4B X3 (.bool ng9) (.slice ao9 n9 cap9) (.bool ngA) (.slice aoA nA capA))⟩, Below.put4 hbw (by omega) (.bool ng9) (.slice ao9 n9 cap9) (.bool ngA) (.slice aoA nA capA)⟩

theorem cadd_big (va vb : Value) (a b : Rat) (w : World) (ha : RatV w va a) (hb : RatV w vb b) (hs : Hid (¬ AddS a b)) (hE : Env w) :
    Calls Tryz.prog 76 #[va, vb, .func (Fn.func 46) #[] #[]] w fun e w' => NoQ 3 e ∧ Below w.heap.size w w' := by
  by_cases h1 : CrS a b
  · by_cases h2 : Rq.Sm ((a.num * (b.den : Int)) + (b.num * (a.den : Int)))
    · by_cases h3 : Rq.Sm ((a.den : Int) * (b.den : Int))
      · exact absurd ⟨h1, h2, h3⟩ hs.out
      · exact cadd_2 va vb a b w ha hb (Lib.hid ⟨h1, h2, h3⟩) hE
    · exact cadd_1 va vb a b w ha hb (Lib.hid ⟨h1, h2⟩) hE
  · exact cadd_0 va vb a b w ha hb (Lib.hid h1) hE

set_option maxRecDepth 100000 in
set_option maxHeartbeats 1600000 in
theorem Add_q (va vb : Value) (a b : Rat) (w : World) (ha : RatV w va a) (hb : RatV w vb b) (hs : Hid (AddS a b)) (hE : Env w) :
    Calls Tryz.prog 32 #[va, vb] w fun e w' => GotQ w' (a + b) e ∧ Below w.heap.size w w' := by
  have HS : Hid (CrS a b ∧ Rq.Sm ((a.num * (b.den : Int)) + (b.num * (a.den : Int))) ∧ Rq.Sm ((a.den : Int) * (b.den : Int))) := Lib.hid hs.out
  have hE0 := hE
  have hbw := Below.refl w.heap.size w
  obtain ⟨ng1, ao1, n1, cap1, ng2, ao2, n2, cap2, rfl, h1, h2⟩ := ha
  have HV1 := Lib.hid h1
  have HV2 := Lib.hid h2
  clear h1 h2
  obtain ⟨ng3, ao3, n3, cap3, ng4, ao4, n4, cap4, rfl, h1, h2⟩ := hb
  have HV3 := Lib.hid h1
  have HV4 := Lib.hid h2
  clear h1 h2
  go_enter Tryz.func32, Tryz.ntmps32
  go_upto_region 1 with fail
  obtain ⟨wx, hwx, hszx, X1, X2, X3, hb⟩ := boxes_444 w (.bool ng1) (.slice ao1 n1 cap1) (.bool ng2) (.slice ao2 n2 cap2) 29 (.bool ng3) (.slice ao3 n3 cap3) (.bool ng4) (.slice ao4 n4 cap4) 29 (.bool false) (.slice none 0 0) (.bool false) (.slice none 0 0) 29
  rw [← hwx]
  clear hwx
  obtain ⟨v1, rfl⟩ : ∃ v1 : World, v1 = wx := ⟨_, rfl⟩
  have HV1 := Lib.hid (HV1.out.mono hb)
  have HV2 := Lib.hid (HV2.out.mono hb)
  have HV3 := Lib.hid (HV3.out.mono hb)
  have HV4 := Lib.hid (HV4.out.mono hb)
  have hE := hE.mono hb
  have hbw := Below.step hbw hb (Nat.le_refl _)
  clear hb
  obtain ⟨cX1_0, cX1_1, cX1_2, cX1_3, _, _, _, _⟩ := id X1
  obtain ⟨cX2_0, cX2_1, cX2_2, cX2_3, _, _, _, _⟩ := id X2
  go_wp2_with fail
  (with_reducible refine (cadd_3 _ _ a b v1 (RatV.mk' HV1 HV2) (RatV.mk' HV3 HV4) HS hE).mono ?_)
  rintro e v2 ⟨⟨ng5, ao5, n5, cap5, ng6, ao6, n6, cap6, rfl, HV5, HV6⟩, hb⟩
  have HV1 := Lib.hid (HV1.out.mono hb)
  have HV2 := Lib.hid (HV2.out.mono hb)
  have HV3 := Lib.hid (HV3.out.mono hb)
  have HV4 := Lib.hid (HV4.out.mono hb)
  have X1 := X1.mono hb
  have X2 := X2.mono hb
  have X3 := X3.mono hb
  have hE := hE.mono hb
  have hbw := Below.step hbw hb (Nat.le_refl _)
  clear hb
  clear cX1_0 cX1_1 cX1_2 cX1_3 cX2_0 cX2_1 cX2_2 cX2_3
  obtain ⟨cX3_0, cX3_1, cX3_2, cX3_3, _, _, _, _⟩ := id X3
  go_wp2
  refine bodyPost_ret (v := .tuple #[.agg #[.bool ng5, .slice ao5 n5 cap5, .bool ng6, .slice ao6 n6 cap6], .int .i64 0]) (by simp [results, Tryz.results32, go_sem, cX3_0, cX3_1, cX3_2, cX3_3]) rfl ⟨⟨ng5, ao5, n5, cap5, ng6, ao6, n6, cap6, rfl, Lib.hid (HV5.out.put4B X3 (.bool ng5) (.slice ao5 n5 cap5) (.bool ng6) (.slice ao6 n6 cap6)), Lib.hid (HV6.out.put4B X3 (.bool ng5) (.slice ao5 n5 cap5) (.bool ng6) (.slice ao6 n6 cap6))⟩, Below.put4 hbw (by omega) (.bool ng5) (.slice ao5 n5 cap5) (.bool ng6) (.slice ao6 n6 cap6)⟩

set_option maxRecDepth 100000 in
set_option maxHeartbeats 1600000 in
theorem Add_qbig (va vb : Value) (a b : Rat) (w : World) (ha : RatV w va a) (hb : RatV w vb b) (hs : Hid (¬ AddS a b)) (hE : Env w) :
    Calls Tryz.prog 32 #[va, vb] w fun e w' => NoQ 3 e ∧ Below w.heap.size w w' := by
  have hE0 := hE
  have hbw := Below.refl w.heap.size w
  obtain ⟨ng1, ao1, n1, cap1, ng2, ao2, n2, cap2, rfl, h1, h2⟩ := ha
  have HV1 := Lib.hid h1
  have HV2 := Lib.hid h2
  clear h1 h2
  obtain ⟨ng3, ao3, n3, cap3, ng4, ao4, n4, cap4, rfl, h1, h2⟩ := hb
  have HV3 := Lib.hid h1
  have HV4 := Lib.hid h2
  clear h1 h2
  go_enter Tryz.func32, Tryz.ntmps32
  go_upto_region 1 with fail
  obtain ⟨wx, hwx, hszx, X1, X2, X3, hb⟩ := boxes_444 w (.bool ng1) (.slice ao1 n1 cap1) (.bool ng2) (.slice ao2 n2 cap2) 29 (.bool ng3) (.slice ao3 n3 cap3) (.bool ng4) (.slice ao4 n4 cap4) 29 (.bool false) (.slice none 0 0) (.bool false) (.slice none 0 0) 29
  rw [← hwx]
  clear hwx
  obtain ⟨v1, rfl⟩ : ∃ v1 : World, v1 = wx := ⟨_, rfl⟩
  have HV1 := Lib.hid (HV1.out.mono hb)
  have HV2 := Lib.hid (HV2.out.mono hb)
  have HV3 := Lib.hid (HV3.out.mono hb)
  have HV4 := Lib.hid (HV4.out.mono hb)
  have hE := hE.mono hb
  have hbw := Below.step hbw hb (Nat.le_refl _)
  clear hb
  obtain ⟨cX1_0, cX1_1, cX1_2, cX1_3, _, _, _, _⟩ := id X1
  obtain ⟨cX2_0, cX2_1, cX2_2, cX2_3, _, _, _, _⟩ := id X2
  go_wp2_with fail
  (with_reducible refine (cadd_big _ _ a b v1 (RatV.mk' HV1 HV2) (RatV.mk' HV3 HV4) hs hE).mono ?_)
  rintro e v2 ⟨rfl, hb⟩
  have HV1 := Lib.hid (HV1.out.mono hb)
  have HV2 := Lib.hid (HV2.out.mono hb)
  have HV3 := Lib.hid (HV3.out.mono hb)
  have HV4 := Lib.hid (HV4.out.mono hb)
  have X1 := X1.mono hb
  have X2 := X2.mono hb
  have X3 := X3.mono hb
  have hE := hE.mono hb
  have hbw := Below.step hbw hb (Nat.le_refl _)
  clear hb
  clear cX1_0 cX1_1 cX1_2 cX1_3 cX2_0 cX2_1 cX2_2 cX2_3
  obtain ⟨cX3_0, cX3_1, cX3_2, cX3_3, _, _, _, _⟩ := id X3
  go_wp2
  refine bodyPost_ret (v := .tuple #[.agg #[.bool false, .slice none 0 0, .bool false, .slice none 0 0], .int .i64 3]) (by simp [results, Tryz.results32, go_sem, cX3_0, cX3_1, cX3_2, cX3_3]) rfl ⟨rfl, Below.put4 hbw (by omega) (.bool false) (.slice none 0 0) (.bool false) (.slice none 0 0)⟩

set_option maxRecDepth 100000 in
set_option maxHeartbeats 1600000 in
theorem Add_qinv (va vb : Value) (ba bb : Bool) (w : World) (hqa : VQ w va ba) (hqb : VQ w vb bb) (hn : Hid (¬ (ba = true ∧ bb = true))) (hE : Env w) :
    Calls Tryz.prog 32 #[va, vb] w fun e w' => NoQ 1 e ∧ Below w.heap.size w w' := by
  have hE0 := hE
  have hbw := Below.refl w.heap.size w
  obtain ⟨ng1, ao1, n1, cap1, ng2, ao2, n2, cap2, rfl⟩ := hqa.parts
  obtain ⟨ng3, ao3, n3, cap3, ng4, ao4, n4, cap4, rfl⟩ := hqb.parts
  go_enter Tryz.func32, Tryz.ntmps32
  go_upto_region 1 with fail
  obtain ⟨wx, hwx, hszx, X1, X2, X3, hb⟩ := boxes_444 w (.bool ng1) (.slice ao1 n1 cap1) (.bool ng2) (.slice ao2 n2 cap2) 29 (.bool ng3) (.slice ao3 n3 cap3) (.bool ng4) (.slice ao4 n4 cap4) 29 (.bool false) (.slice none 0 0) (.bool false) (.slice none 0 0) 29
  rw [← hwx]
  clear hwx
  obtain ⟨v1, rfl⟩ : ∃ v1 : World, v1 = wx := ⟨_, rfl⟩
  have hqa := hqa.mono hb
  have hqb := hqb.mono hb
  have hE := hE.mono hb
  have hbw := Below.step hbw hb (Nat.le_refl _)
  clear hb
  obtain ⟨cX1_0, cX1_1, cX1_2, cX1_3, _, _, _, _⟩ := id X1
  obtain ⟨cX2_0, cX2_1, cX2_2, cX2_3, _, _, _, _⟩ := id X2
  go_wp2_with fail
  (with_reducible refine (cadd_inv _ _ ba bb v1 hqa hqb hn hE).mono ?_)
  rintro e v2 ⟨rfl, hb⟩
  have hqa := hqa.mono hb
  have hqb := hqb.mono hb
  have X1 := X1.mono hb
  have X2 := X2.mono hb
  have X3 := X3.mono hb
  have hE := hE.mono hb
  have hbw := Below.step hbw hb (Nat.le_refl _)
  clear hb
  clear cX1_0 cX1_1 cX1_2 cX1_3 cX2_0 cX2_1 cX2_2 cX2_3
  obtain ⟨cX3_0, cX3_1, cX3_2, cX3_3, _, _, _, _⟩ := id X3
  go_wp2
  refine bodyPost_ret (v := .tuple #[.agg #[.bool false, .slice none 0 0, .bool false, .slice none 0 0], .int .i64 1]) (by simp [results, Tryz.results32, go_sem, cX3_0, cX3_1, cX3_2, cX3_3]) rfl ⟨rfl, Below.put4 hbw (by omega) (.bool false) (.slice none 0 0) (.bool false) (.slice none 0 0)⟩

set_option maxRecDepth 100000 in
set_option maxHeartbeats 1600000 in
theorem csub_i1 (va vb : Value) (bb : Bool) (w : World) (hqa : VQ w va false) (hqb : VQ w vb bb) (hE : Env w) :
    Calls Tryz.prog 76 #[va, vb, .func (Fn.func 48) #[] #[]] w fun e w' => NoQ 1 e ∧ Below w.heap.size w w' := by
  have hE0 := hE
  have hbw := Below.refl w.heap.size w
  obtain ⟨ng1, ao1, n1, cap1, ng2, ao2, n2, cap2, rfl⟩ := hqa.parts
  obtain ⟨ng3, ao3, n3, cap3, ng4, ao4, n4, cap4, rfl⟩ := hqb.parts
  go_enter Tryz.func76, Tryz.ntmps76
  go_upto_region 1 with fail
  obtain ⟨wx, hwx, hszx, X1, X2, X3, hb⟩ := boxes_444 w (.bool ng1) (.slice ao1 n1 cap1) (.bool ng2) (.slice ao2 n2 cap2) 29 (.bool ng3) (.slice ao3 n3 cap3) (.bool ng4) (.slice ao4 n4 cap4) 29 (.bool false) (.slice none 0 0) (.bool false) (.slice none 0 0) 29
  rw [← hwx]
  clear hwx
  obtain ⟨v1, rfl⟩ : ∃ v1 : World, v1 = wx := ⟨_, rfl⟩
  have hqa := hqa.mono hb
  have hqb := hqb.mono hb
  have hE := hE.mono hb
  have hbw := Below.step hbw hb (Nat.le_refl _)
  clear hb
  obtain ⟨cX1_0, cX1_1, cX1_2, cX1_3, _, _, _, _⟩ := id X1
  go_wp2_with fail
  (with_reducible refine (Valid_v _ false v1 hqa hE).mono ?_)
  rintro e v2 ⟨rfl, hb⟩
  have hqa := hqa.mono hb
  have hqb := hqb.mono hb
  have X1 := X1.mono hb
  have X2 := X2.mono hb
  have X3 := X3.mono hb
  have hE := hE.mono hb
  have hbw := Below.step hbw hb (Nat.le_refl _)
  clear hb
  clear cX1_0 cX1_1 cX1_2 cX1_3
  obtain ⟨cX3_0, cX3_1, cX3_2, cX3_3, _, _, _, _⟩ := id X3
  go_wp2
  refine bodyPost_ret (v := .tuple #[.agg #[.bool false, .slice none 0 0, .bool false, .slice none 0 0], .int .i64 1]) (by simp [results, Tryz.results76, go_sem, cX3_0, cX3_1, cX3_2, cX3_3]) rfl ⟨rfl, Below.put4 hbw (by omega) (.bool false) (.slice none 0 0) (.bool false) (.slice none 0 0)⟩

set_option maxRecDepth 100000 in
set_option maxHeartbeats 1600000 in
theorem csub_i2 (va vb : Value) (w : World) (hqa : VQ w va true) (hqb : VQ w vb false) (hE : Env w) :
    Calls Tryz.prog 76 #[va, vb, .func (Fn.func 48) #[] #[]] w fun e w' => NoQ 1 e ∧ Below w.heap.size w w' := by
  have hE0 := hE
  have hbw := Below.refl w.heap.size w
  obtain ⟨ng1, ao1, n1, cap1, ng2, ao2, n2, cap2, rfl⟩ := hqa.parts
  obtain ⟨ng3, ao3, n3, cap3, ng4, ao4, n4, cap4, rfl⟩ := hqb.parts
  go_enter Tryz.func76, Tryz.ntmps76
  go_upto_region 1 with fail
  obtain ⟨wx, hwx, hszx, X1, X2, X3, hb⟩ := boxes_444 w (.bool ng1) (.slice ao1 n1 cap1) (.bool ng2) (.slice ao2 n2 cap2) 29 (.bool ng3) (.slice ao3 n3 cap3) (.bool ng4) (.slice ao4 n4 cap4) 29 (.bool false) (.slice none 0 0) (.bool false) (.slice none 0 0) 29
  rw [← hwx]
  clear hwx
  obtain ⟨v1, rfl⟩ : ∃ v1 : World, v1 = wx := ⟨_, rfl⟩
  have hqa := hqa.mono hb
  have hqb := hqb.mono hb
  have hE := hE.mono hb
  have hbw := Below.step hbw hb (Nat.le_refl _)
  clear hb
  obtain ⟨cX1_0, cX1_1, cX1_2, cX1_3, _, _, _, _⟩ := id X1
  go_wp2_with fail
  (with_reducible refine (Valid_v _ true v1 hqa hE).mono ?_)
  rintro e v2 ⟨rfl, hb⟩
  have hqa := hqa.mono hb
  have hqb := hqb.mono hb
  have X1 := X1.mono hb
  have X2 := X2.mono hb
  have X3 := X3.mono hb
  have hE := hE.mono hb
  have hbw := Below.step hbw hb (Nat.le_refl _)
  clear hb
  clear cX1_0 cX1_1 cX1_2 cX1_3
  obtain ⟨cX2_0, cX2_1, cX2_2, cX2_3, _, _, _, _⟩ := id X2
  go_wp2_with fail
  (with_reducible refine (Valid_v _ false v2 hqb hE).mono ?_)
  rintro e v3 ⟨rfl, hb⟩
  have hqa := hqa.mono hb
  have hqb := hqb.mono hb
  have X1 := X1.mono hb
  have X2 := X2.mono hb
  have X3 := X3.mono hb
  have hE := hE.mono hb
  have hbw := Below.step hbw hb (Nat.le_refl _)
  clear hb
  clear cX2_0 cX2_1 cX2_2 cX2_3
  obtain ⟨cX3_0, cX3_1, cX3_2, cX3_3, _, _, _, _⟩ := id X3
  go_wp2
  refine bodyPost_ret (v := .tuple #[.agg #[.bool false, .slice none 0 0, .bool false, .slice none 0 0], .int .i64 1]) (by simp [results, Tryz.results76, go_sem, cX3_0, cX3_1, cX3_2, cX3_3]) rfl ⟨rfl, Below.put4 hbw (by omega) (.bool false) (.slice none 0 0) (.bool false) (.slice none 0 0)⟩

theorem csub_inv (va vb : Value) (ba bb : Bool) (w : World) (ha : VQ w va ba) (hb : VQ w vb bb) (hn : Hid (¬ (ba = true ∧ bb = true))) (hE : Env w) :
    Calls Tryz.prog 76 #[va, vb, .func (Fn.func 48) #[] #[]] w fun e w' => NoQ 1 e ∧ Below w.heap.size w w' := by
  cases ba
  · exact csub_i1 va vb bb w ha hb hE
  · cases bb
    · exact csub_i2 va vb w ha hb hE
    · exact absurd ⟨rfl, rfl⟩ hn.out

set_option maxRecDepth 100000 in
set_option maxHeartbeats 1600000 in
theorem csub_0 (va vb : Value) (a b : Rat) (w : World) (ha : RatV w va a) (hb : RatV w vb b) (hs : Hid (¬ CrS a b)) (hE : Env w) :
    Calls Tryz.prog 76 #[va, vb, .func (Fn.func 48) #[] #[]] w fun e w' => NoQ 3 e ∧ Below w.heap.size w w' := by
  have hE0 := hE
  have hbw := Below.refl w.heap.size w
  obtain ⟨ng1, ao1, n1, cap1, ng2, ao2, n2, cap2, rfl, h1, h2⟩ := ha
  have HV1 := Lib.hid h1
  have HV2 := Lib.hid h2
  clear h1 h2
  obtain ⟨ng3, ao3, n3, cap3, ng4, ao4, n4, cap4, rfl, h1, h2⟩ := hb
  have HV3 := Lib.hid h1
  have HV4 := Lib.hid h2
  clear h1 h2
  go_enter Tryz.func76, Tryz.ntmps76
  go_upto_region 1 with fail
  obtain ⟨wx, hwx, hszx, X1, X2, X3, hb⟩ := boxes_444 w (.bool ng1) (.slice ao1 n1 cap1) (.bool ng2) (.slice ao2 n2 cap2) 29 (.bool ng3) (.slice ao3 n3 cap3) (.bool ng4) (.slice ao4 n4 cap4) 29 (.bool false) (.slice none 0 0) (.bool false) (.slice none 0 0) 29
  rw [← hwx]
  clear hwx
  obtain ⟨v1, rfl⟩ : ∃ v1 : World, v1 = wx := ⟨_, rfl⟩
  have HV1 := Lib.hid (HV1.out.mono hb)
  have HV2 := Lib.hid (HV2.out.mono hb)
  have HV3 := Lib.hid (HV3.out.mono hb)
  have HV4 := Lib.hid (HV4.out.mono hb)
  have hE := hE.mono hb
  have hbw := Below.step hbw hb (Nat.le_refl _)
  clear hb
  obtain ⟨cX1_0, cX1_1, cX1_2, cX1_3, _, _, _, _⟩ := id X1
  go_wp2_with fail
  (with_reducible refine (Valid_true _ a v1 (RatV.mk' HV1 HV2) hE).mono ?_)
  rintro e v2 ⟨rfl, hb⟩
  have HV1 := Lib.hid (HV1.out.mono hb)
  have HV2 := Lib.hid (HV2.out.mono hb)
  have HV3 := Lib.hid (HV3.out.mono hb)
  have HV4 := Lib.hid (HV4.out.mono hb)
  have X1 := X1.mono hb
  have X2 := X2.mono hb
  have X3 := X3.mono hb
  have hE := hE.mono hb
  have hbw := Below.step hbw hb (Nat.le_refl _)
  clear hb
  clear cX1_0 cX1_1 cX1_2 cX1_3
  obtain ⟨cX2_0, cX2_1, cX2_2, cX2_3, _, _, _, _⟩ := id X2
  go_wp2_with fail
  (with_reducible refine (Valid_true _ b v2 (RatV.mk' HV3 HV4) hE).mono ?_)
  rintro e v3 ⟨rfl, hb⟩
  have HV1 := Lib.hid (HV1.out.mono hb)
  have HV2 := Lib.hid (HV2.out.mono hb)
  have HV3 := Lib.hid (HV3.out.mono hb)
  have HV4 := Lib.hid (HV4.out.mono hb)
  have X1 := X1.mono hb
  have X2 := X2.mono hb
  have X3 := X3.mono hb
  have hE := hE.mono hb
  have hbw := Below.step hbw hb (Nat.le_refl _)
  clear hb
  clear cX2_0 cX2_1 cX2_2 cX2_3
  obtain ⟨cX1_0, cX1_1, cX1_2, cX1_3, _, _, _, _⟩ := id X1
  obtain ⟨cX2_0, cX2_1, cX2_2, cX2_3, _, _, _, _⟩ := id X2
  go_wp2_with fail
  (with_reducible refine (crossed_big _ _ a b v3 (RatV.mk' HV1 HV2) (RatV.mk' HV3 HV4) hs hE).mono ?_)
  rintro e v4 ⟨rfl, hb⟩
  have HV1 := Lib.hid (HV1.out.mono hb)
  have HV2 := Lib.hid (HV2.out.mono hb)
  have HV3 := Lib.hid (HV3.out.mono hb)
  have HV4 := Lib.hid (HV4.out.mono hb)
  have X1 := X1.mono hb
  have X2 := X2.mono hb
  have X3 := X3.mono hb
  have hE := hE.mono hb
  have hbw := Below.step hbw hb (Nat.le_refl _)
  clear hb
  clear cX1_0 cX1_1 cX1_2 cX1_3 cX2_0 cX2_1 cX2_2 cX2_3
  go_upto_region 4 with fail
  have lX5X1 := X1.lt
  have lX5X2 := X2.lt
  have lX5X3 := X3.lt
  obtain ⟨wx, hwx, hszx, X5, X6, hb⟩ := boxes_22 v4 (.bool false) (.slice none 0 0) 24 (.bool false) (.slice none 0 0) 24
  rw [← hwx]
  clear hwx
  obtain ⟨v5, rfl⟩ : ∃ v5 : World, v5 = wx := ⟨_, rfl⟩
  have HV1 := Lib.hid (HV1.out.mono hb)
  have HV2 := Lib.hid (HV2.out.mono hb)
  have HV3 := Lib.hid (HV3.out.mono hb)
  have HV4 := Lib.hid (HV4.out.mono hb)
  have X1 := X1.mono hb
  have X2 := X2.mono hb
  have X3 := X3.mono hb
  have hE := hE.mono hb
  have hbw := Below.step hbw hb (Nat.le_refl _)
  clear hb
  obtain ⟨cX3_0, cX3_1, cX3_2, cX3_3, _, _, _, _⟩ := id X3
  go_wp2
  refine bodyPost_ret (v := .tuple #[.agg #[.bool false, .slice none 0 0, .bool false, .slice none 0 0], .int .i64 3]) (by simp [results, Tryz.results76, go_sem, cX3_0, cX3_1, cX3_2, cX3_3]) rfl ⟨rfl, Below.put4 hbw (by omega) (.bool false) (.slice none 0 0) (.bool false) (.slice none 0 0)⟩

set_option maxRecDepth 100000 in
set_option maxHeartbeats 1600000 in
theorem csub_1 (va vb : Value) (a b : Rat) (w : World) (ha : RatV w va a) (hb : RatV w vb b) (hs : Hid (CrS a b ∧ ¬ Rq.Sm ((a.num * (b.den : Int)) - (b.num * (a.den : Int))))) (hE : Env w) :
    Calls Tryz.prog 76 #[va, vb, .func (Fn.func 48) #[] #[]] w fun e w' => NoQ 3 e ∧ Below w.heap.size w w' := by
  have HS : Hid (Hid (Rq.Sm (a.num * (b.den : Int))) ∧ Hid (Rq.Sm (b.num * (a.den : Int)))) := Lib.hid ⟨Lib.hid hs.out.1.1, Lib.hid hs.out.1.2⟩
  have hE0 := hE
  have hbw := Below.refl w.heap.size w
  obtain ⟨ng1, ao1, n1, cap1, ng2, ao2, n2, cap2, rfl, h1, h2⟩ := ha
  have HV1 := Lib.hid h1
  have HV2 := Lib.hid h2
  clear h1 h2
  obtain ⟨ng3, ao3, n3, cap3, ng4, ao4, n4, cap4, rfl, h1, h2⟩ := hb
  have HV3 := Lib.hid h1
  have HV4 := Lib.hid h2
  clear h1 h2
  go_enter Tryz.func76, Tryz.ntmps76
  go_upto_region 1 with fail
  obtain ⟨wx, hwx, hszx, X1, X2, X3, hb⟩ := boxes_444 w (.bool ng1) (.slice ao1 n1 cap1) (.bool ng2) (.slice ao2 n2 cap2) 29 (.bool ng3) (.slice ao3 n3 cap3) (.bool ng4) (.slice ao4 n4 cap4) 29 (.bool false) (.slice none 0 0) (.bool false) (.slice none 0 0) 29
  rw [← hwx]
  clear hwx
  obtain ⟨v1, rfl⟩ : ∃ v1 : World, v1 = wx := ⟨_, rfl⟩
  have HV1 := Lib.hid (HV1.out.mono hb)
  have HV2 := Lib.hid (HV2.out.mono hb)
  have HV3 := Lib.hid (HV3.out.mono hb)
  have HV4 := Lib.hid (HV4.out.mono hb)
  have hE := hE.mono hb
  have hbw := Below.step hbw hb (Nat.le_refl _)
  clear hb
  obtain ⟨cX1_0, cX1_1, cX1_2, cX1_3, _, _, _, _⟩ := id X1
  go_wp2_with fail
  (with_reducible refine (Valid_true _ a v1 (RatV.mk' HV1 HV2) hE).mono ?_)
  rintro e v2 ⟨rfl, hb⟩
  have HV1 := Lib.hid (HV1.out.mono hb)
  have HV2 := Lib.hid (HV2.out.mono hb)
  have HV3 := Lib.hid (HV3.out.mono hb)
  have HV4 := Lib.hid (HV4.out.mono hb)
  have X1 := X1.mono hb
  have X2 := X2.mono hb
  have X3 := X3.mono hb
  have hE := hE.mono hb
  have hbw := Below.step hbw hb (Nat.le_refl _)
  clear hb
  clear cX1_0 cX1_1 cX1_2 cX1_3
  obtain ⟨cX2_0, cX2_1, cX2_2, cX2_3, _, _, _, _⟩ := id X2
  go_wp2_with fail
  (with_reducible refine (Valid_true _ b v2 (RatV.mk' HV3 HV4) hE).mono ?_)
  rintro e v3 ⟨rfl, hb⟩
  have HV1 := Lib.hid (HV1.out.mono hb)
  have HV2 := Lib.hid (HV2.out.mono hb)
  have HV3 := Lib.hid (HV3.out.mono hb)
  have HV4 := Lib.hid (HV4.out.mono hb)
  have X1 := X1.mono hb
  have X2 := X2.mono hb
  have X3 := X3.mono hb
  have hE := hE.mono hb
  have hbw := Below.step hbw hb (Nat.le_refl _)
  clear hb
  clear cX2_0 cX2_1 cX2_2 cX2_3
  obtain ⟨cX1_0, cX1_1, cX1_2, cX1_3, _, _, _, _⟩ := id X1
  obtain ⟨cX2_0, cX2_1, cX2_2, cX2_3, _, _, _, _⟩ := id X2
  go_wp2_with fail
  (with_reducible refine (crossed_ok _ _ a b v3 (RatV.mk' HV1 HV2) (RatV.mk' HV3 HV4) HS hE).mono ?_)
  rintro e v4 ⟨⟨ng5, ao5, n5, cap5, ng6, ao6, n6, cap6, rfl, HV5, HV6⟩, hb⟩
  have HV1 := Lib.hid (HV1.out.mono hb)
  have HV2 := Lib.hid (HV2.out.mono hb)
  have HV3 := Lib.hid (HV3.out.mono hb)
  have HV4 := Lib.hid (HV4.out.mono hb)
  have X1 := X1.mono hb
  have X2 := X2.mono hb
  have X3 := X3.mono hb
  have hE := hE.mono hb
  have hbw := Below.step hbw hb (Nat.le_refl _)
  clear hb
  clear cX1_0 cX1_1 cX1_2 cX1_3 cX2_0 cX2_1 cX2_2 cX2_3
  go_upto_region 4 with fail
  have lX5X1 := X1.lt
  have lX5X2 := X2.lt
  have lX5X3 := X3.lt
  obtain ⟨wx, hwx, hszx, X5, X6, hb⟩ := boxes_22 v4 (.bool ng5) (.slice ao5 n5 cap5) 24 (.bool ng6) (.slice ao6 n6 cap6) 24
  rw [← hwx]
  clear hwx
  obtain ⟨v5, rfl⟩ : ∃ v5 : World, v5 = wx := ⟨_, rfl⟩
  have HV1 := Lib.hid (HV1.out.mono hb)
  have HV2 := Lib.hid (HV2.out.mono hb)
  have HV3 := Lib.hid (HV3.out.mono hb)
  have HV4 := Lib.hid (HV4.out.mono hb)
  have X1 := X1.mono hb
  have X2 := X2.mono hb
  have X3 := X3.mono hb
  have HV5 := Lib.hid (HV5.out.mono hb)
  have HV6 := Lib.hid (HV6.out.mono hb)
  have hE := hE.mono hb
  have hbw := Below.step hbw hb (Nat.le_refl _)
  clear hb
  obtain ⟨cX5_0, cX5_1, _, _⟩ := id X5
  obtain ⟨cX6_0, cX6_1, _, _⟩ := id X6
  go_wp2_with fail
  (with_reducible refine (Sub_big _ _ (a.num * (b.den : Int)) (b.num * (a.den : Int)) v5 HV5.out HV6.out (Lib.hid hs.out.2) hE).mono ?_)
  rintro e v6 ⟨rfl, hb⟩
  have HV1 := Lib.hid (HV1.out.mono hb)
  have HV2 := Lib.hid (HV2.out.mono hb)
  have HV3 := Lib.hid (HV3.out.mono hb)
  have HV4 := Lib.hid (HV4.out.mono hb)
  have X1 := X1.mono hb
  have X2 := X2.mono hb
  have X3 := X3.mono hb
  have HV5 := Lib.hid (HV5.out.mono hb)
  have HV6 := Lib.hid (HV6.out.mono hb)
  have X5 := X5.mono hb
  have X6 := X6.mono hb
  have hE := hE.mono hb
  have hbw := Below.step hbw hb (Nat.le_refl _)
  clear hb
  clear cX5_0 cX5_1 cX6_0 cX6_1
  go_upto_region 7 with fail
  have lX7X1 := X1.lt
  have lX7X2 := X2.lt
  have lX7X3 := X3.lt
  have lX7X5 := X5.lt
  have lX7X6 := X6.lt
  have X7 := Box.new v6 (.bool false) (.slice none 0 0) 24
  have hb := below_alloc v6 (.cells #[.bool false, .slice none 0 0] 24)
  generalize v6.alloc (.cells #[.bool false, .slice none 0 0] 24) = v7 at *
  have HV1 := Lib.hid (HV1.out.mono hb)
  have HV2 := Lib.hid (HV2.out.mono hb)
  have HV3 := Lib.hid (HV3.out.mono hb)
  have HV4 := Lib.hid (HV4.out.mono hb)
  have X1 := X1.mono hb
  have X2 := X2.mono hb
  have X3 := X3.mono hb
  have HV5 := Lib.hid (HV5.out.mono hb)
  have HV6 := Lib.hid (HV6.out.mono hb)
  have X5 := X5.mono hb
  have X6 := X6.mono hb
  have hE := hE.mono hb
  have hbw := Below.step hbw hb (Nat.le_refl _)
  clear hb
  obtain ⟨cX3_0, cX3_1, cX3_2, cX3_3, _, _, _, _⟩ := id X3
  go_wp2
  refine bodyPost_ret (v := .tuple #[.agg #[.bool false, .slice none 0 0, .bool false, .slice none 0 0], .int .i64 3]) (by simp [results, Tryz.results76, go_sem, cX3_0, cX3_1, cX3_2, cX3_3]) rfl ⟨rfl, Below.put4 hbw (by omega) (.bool false) (.slice none 0 0) (.bool false) (.slice none 0 0)⟩

set_option maxRecDepth 100000 in
set_option maxHeartbeats 1600000 in
theorem csub_2 (va vb : Value) (a b : Rat) (w : World) (ha : RatV w va a) (hb : RatV w vb b) (hs : Hid (CrS a b ∧ Rq.Sm ((a.num * (b.den : Int)) - (b.num * (a.den : Int))) ∧ ¬ Rq.Sm ((a.den : Int) * (b.den : Int)))) (hE : Env w) :
    Calls Tryz.prog 76 #[va, vb, .func (Fn.func 48) #[] #[]] w fun e w' => NoQ 3 e ∧ Below w.heap.size w w' := by
  have HS : Hid (Hid (Rq.Sm (a.num * (b.den : Int))) ∧ Hid (Rq.Sm (b.num * (a.den : Int)))) := Lib.hid ⟨Lib.hid hs.out.1.1, Lib.hid hs.out.1.2⟩
  have hE0 := hE
  have hbw := Below.refl w.heap.size w
  obtain ⟨ng1, ao1, n1, cap1, ng2, ao2, n2, cap2, rfl, h1, h2⟩ := ha
  have HV1 := Lib.hid h1
  have HV2 := Lib.hid h2
  clear h1 h2
  obtain ⟨ng3, ao3, n3, cap3, ng4, ao4, n4, cap4, rfl, h1, h2⟩ := hb
  have HV3 := Lib.hid h1
  have HV4 := Lib.hid h2
  clear h1 h2
  go_enter Tryz.func76, Tryz.ntmps76
  go_upto_region 1 with fail
  obtain ⟨wx, hwx, hszx, X1, X2, X3, hb⟩ := boxes_444 w (.bool ng1) (.slice ao1 n1 cap1) (.bool ng2) (.slice ao2 n2 cap2) 29 (.bool ng3) (.slice ao3 n3 cap3) (.bool ng4) (.slice ao4 n4 cap4) 29 (.bool false) (.slice none 0 0) (.bool false) (.slice none 0 0) 29
  rw [← hwx]
  clear hwx
  obtain ⟨v1, rfl⟩ : ∃ v1 : World, v1 = wx := ⟨_, rfl⟩
  have HV1 := Lib.hid (HV1.out.mono hb)
  have HV2 := Lib.hid (HV2.out.mono hb)
  have HV3 := Lib.hid (HV3.out.mono hb)
  have HV4 := Lib.hid (HV4.out.mono hb)
  have hE := hE.mono hb
  have hbw := Below.step hbw hb (Nat.le_refl _)
  clear hb
  obtain ⟨cX1_0, cX1_1, cX1_2, cX1_3, _, _, _, _⟩ := id X1
  go_wp2_with fail
  (with_reducible refine (Valid_true _ a v1 (RatV.mk' HV1 HV2) hE).mono ?_)
  rintro e v2 ⟨rfl, hb⟩
  have HV1 := Lib.hid (HV1.out.mono hb)
  have HV2 := Lib.hid (HV2.out.mono hb)
  have HV3 := Lib.hid (HV3.out.mono hb)
  have HV4 := Lib.hid (HV4.out.mono hb)
  have X1 := X1.mono hb
  have X2 := X2.mono hb
  have X3 := X3.mono hb
  have hE := hE.mono hb
  have hbw := Below.step hbw hb (Nat.le_refl _)
  clear hb
  clear cX1_0 cX1_1 cX1_2 cX1_3
  obtain ⟨cX2_0, cX2_1, cX2_2, cX2_3, _, _, _, _⟩ := id X2
  go_wp2_with fail
  (with_reducible refine (Valid_true _ b v2 (RatV.mk' HV3 HV4) hE).mono ?_)
  rintro e v3 ⟨rfl, hb⟩
  have HV1 := Lib.hid (HV1.out.mono hb)
  have HV2 := Lib.hid (HV2.out.mono hb)
  have HV3 := Lib.hid (HV3.out.mono hb)
  have HV4 := Lib.hid (HV4.out.mono hb)
  have X1 := X1.mono hb
  have X2 := X2.mono hb
  have X3 := X3.mono hb
  have hE := hE.mono hb
  have hbw := Below.step hbw hb (Nat.le_refl _)
  clear hb
  clear cX2_0 cX2_1 cX2_2 cX2_3
  obtain ⟨cX1_0, cX1_1, cX1_2, cX1_3, _, _, _, _⟩ := id X1
  obtain ⟨cX2_0, cX2_1, cX2_2, cX2_3, _, _, _, _⟩ := id X2
  go_wp2_with fail
  (with_reducible refine (crossed_ok _ _ a b v3 (RatV.mk' HV1 HV2) (RatV.mk' HV3 HV4) HS hE).mono ?_)
  rintro e v4 ⟨⟨ng5, ao5, n5, cap5, ng6, ao6, n6, cap6, rfl, HV5, HV6⟩, hb⟩
  have HV1 := Lib.hid (HV1.out.mono hb)
  have HV2 := Lib.hid (HV2.out.mono hb)
  have HV3 := Lib.hid (HV3.out.mono hb)
  have HV4 := Lib.hid (HV4.out.mono hb)
  have X1 := X1.mono hb
  have X2 := X2.mono hb
  have X3 := X3.mono hb
  have hE := hE.mono hb
  have hbw := Below.step hbw hb (Nat.le_refl _)
  clear hb
  clear cX1_0 cX1_1 cX1_2 cX1_3 cX2_0 cX2_1 cX2_2 cX2_3
  go_upto_region 4 with fail
  have lX5X1 := X1.lt
  have lX5X2 := X2.lt
  have lX5X3 := X3.lt
  obtain ⟨wx, hwx, hszx, X5, X6, hb⟩ := boxes_22 v4 (.bool ng5) (.slice ao5 n5 cap5) 24 (.bool ng6) (.slice ao6 n6 cap6) 24
  rw [← hwx]
  clear hwx
  obtain ⟨v5, rfl⟩ : ∃ v5 : World, v5 = wx := ⟨_, rfl⟩
  have HV1 := Lib.hid (HV1.out.mono hb)
  have HV2 := Lib.hid (HV2.out.mono hb)
  have HV3 := Lib.hid (HV3.out.mono hb)
  have HV4 := Lib.hid (HV4.out.mono hb)
  have X1 := X1.mono hb
  have X2 := X2.mono hb
  have X3 := X3.mono hb
  have HV5 := Lib.hid (HV5.out.mono hb)
  have HV6 := Lib.hid (HV6.out.mono hb)
  have hE := hE.mono hb
  have hbw := Below.step hbw hb (Nat.le_refl _)
  clear hb
  obtain ⟨cX5_0, cX5_1, _, _⟩ := id X5
  obtain ⟨cX6_0, cX6_1, _, _⟩ := id X6
  go_wp2_with fail
  (with_reducible refine (Sub_ok _ _ (a.num * (b.den : Int)) (b.num * (a.den : Int)) v5 HV5.out HV6.out (Lib.hid hs.out.2.1) hE).mono ?_)
  rintro e v6 ⟨⟨ng7, ao7, n7, cap7, rfl, HV7⟩, hb⟩
  have HV1 := Lib.hid (HV1.out.mono hb)
  have HV2 := Lib.hid (HV2.out.mono hb)
  have HV3 := Lib.hid (HV3.out.mono hb)
  have HV4 := Lib.hid (HV4.out.mono hb)
  have X1 := X1.mono hb
  have X2 := X2.mono hb
  have X3 := X3.mono hb
  have HV5 := Lib.hid (HV5.out.mono hb)
  have HV6 := Lib.hid (HV6.out.mono hb)
  have X5 := X5.mono hb
  have X6 := X6.mono hb
  have hE := hE.mono hb
  have hbw := Below.step hbw hb (Nat.le_refl _)
  clear hb
  clear cX5_0 cX5_1 cX6_0 cX6_1
  go_upto_region 7 with fail
  have lX7X1 := X1.lt
  have lX7X2 := X2.lt
  have lX7X3 := X3.lt
  have lX7X5 := X5.lt
  have lX7X6 := X6.lt
  have X7 := Box.new v6 (.bool ng7) (.slice ao7 n7 cap7) 24
  have hb := below_alloc v6 (.cells #[.bool ng7, .slice ao7 n7 cap7] 24)
  generalize v6.alloc (.cells #[.bool ng7, .slice ao7 n7 cap7] 24) = v7 at *
  have HV1 := Lib.hid (HV1.out.mono hb)
  have HV2 := Lib.hid (HV2.out.mono hb)
  have HV3 := Lib.hid (HV3.out.mono hb)
  have HV4 := Lib.hid (HV4.out.mono hb)
  have X1 := X1.mono hb
  have X2 := X2.mono hb
  have X3 := X3.mono hb
  have HV5 := Lib.hid (HV5.out.mono hb)
  have HV6 := Lib.hid (HV6.out.mono hb)
  have X5 := X5.mono hb
  have X6 := X6.mono hb
  have HV7 := Lib.hid (HV7.out.mono hb)
  have hE := hE.mono hb
  have hbw := Below.step hbw hb (Nat.le_refl _)
  clear hb
  obtain ⟨cX1_0, cX1_1, cX1_2, cX1_3, _, _, _, _⟩ := id X1
  obtain ⟨cX2_0, cX2_1, cX2_2, cX2_3, _, _, _, _⟩ := id X2
  go_wp2_with fail
  (with_reducible refine (Mul_big _ _ (a.den : Int) (b.den : Int) v7 HV2.out HV4.out (Lib.hid hs.out.2.2) hE).mono ?_)
  rintro e v8 ⟨rfl, hb⟩
  have HV1 := Lib.hid (HV1.out.mono hb)
  have HV2 := Lib.hid (HV2.out.mono hb)
  have HV3 := Lib.hid (HV3.out.mono hb)
  have HV4 := Lib.hid (HV4.out.mono hb)
  have X1 := X1.mono hb
  have X2 := X2.mono hb
  have X3 := X3.mono hb
  have HV5 := Lib.hid (HV5.out.mono hb)
  have HV6 := Lib.hid (HV6.out.mono hb)
  have X5 := X5.mono hb
  have X6 := X6.mono hb
  have HV7 := Lib.hid (HV7.out.mono hb)
  have X7 := X7.mono hb
  have hE := hE.mono hb
  have hbw := Below.step hbw hb (Nat.le_refl _)
  clear hb
  clear cX1_0 cX1_1 cX1_2 cX1_3 cX2_0 cX2_1 cX2_2 cX2_3
  go_upto_region 10 with fail
  have lX8X1 := X1.lt
  have lX8X2 := X2.lt
  have lX8X3 := X3.lt
  have lX8X5 := X5.lt
  have lX8X6 := X6.lt
  have lX8X7 := X7.lt
  have X8 := Box.new v8 (.bool false) (.slice none 0 0) 24
  have hb := below_alloc v8 (.cells #[.bool false, .slice none 0 0] 24)
  generalize v8.alloc (.cells #[.bool false, .slice none 0 0] 24) = v9 at *
  have HV1 := Lib.hid (HV1.out.mono hb)
  have HV2 := Lib.hid (HV2.out.mono hb)
  have HV3 := Lib.hid (HV3.out.mono hb)
  have HV4 := Lib.hid (HV4.out.mono hb)
  have X1 := X1.mono hb
  have X2 := X2.mono hb
  have X3 := X3.mono hb
  have HV5 := Lib.hid (HV5.out.mono hb)
  have HV6 := Lib.hid (HV6.out.mono hb)
  have X5 := X5.mono hb
  have X6 := X6.mono hb
  have HV7 := Lib.hid (HV7.out.mono hb)
  have X7 := X7.mono hb
  have hE := hE.mono hb
  have hbw := Below.step hbw hb (Nat.le_refl _)
  clear hb
  obtain ⟨cX3_0, cX3_1, cX3_2, cX3_3, _, _, _, _⟩ := id X3
  go_wp2
  refine bodyPost_ret (v := .tuple #[.agg #[.bool false, .slice none 0 0, .bool false, .slice none 0 0], .int .i64 3]) (by simp [results, Tryz.results76, go_sem, cX3_0, cX3_1, cX3_2, cX3_3]) rfl ⟨rfl, Below.put4 hbw (by omega) (.bool false) (.slice none 0 0) (.bool false) (.slice none 0 0)⟩

set_option maxRecDepth 100000 in
set_option maxHeartbeats 1600000 in
theorem csub_3 (va vb : Value) (a b : Rat) (w : World) (ha : RatV w va a) (hb : RatV w vb b) (hs : Hid (CrS a b ∧ Rq.Sm ((a.num * (b.den : Int)) - (b.num * (a.den : Int))) ∧ Rq.Sm ((a.den : Int) * (b.den : Int)))) (hE : Env w) :
    Calls Tryz.prog 76 #[va, vb, .func (Fn.func 48) #[] #[]] w fun e w' => GotQ w' (a - b) e ∧ Below w.heap.size w w' := by
  have HS : Hid (Hid (Rq.Sm (a.num * (b.den : Int))) ∧ Hid (Rq.Sm (b.num * (a.den : Int)))) := Lib.hid ⟨Lib.hid hs.out.1.1, Lib.hid hs.out.1.2⟩
  have hE0 := hE
  have hbw := Below.refl w.heap.size w
  obtain ⟨ng1, ao1, n1, cap1, ng2, ao2, n2, cap2, rfl, h1, h2⟩ := ha
  have HV1 := Lib.hid h1
  have HV2 := Lib.hid h2
  clear h1 h2
  obtain ⟨ng3, ao3, n3, cap3, ng4, ao4, n4, cap4, rfl, h1, h2⟩ := hb
  have HV3 := Lib.hid h1
  have HV4 := Lib.hid h2
  clear h1 h2
  go_enter Tryz.func76, Tryz.ntmps76
  go_upto_region 1 with fail
  obtain ⟨wx, hwx, hszx, X1, X2, X3, hb⟩ := boxes_444 w (.bool ng1) (.slice ao1 n1 cap1) (.bool ng2) (.slice ao2 n2 cap2) 29 (.bool ng3) (.slice ao3 n3 cap3) (.bool ng4) (.slice ao4 n4 cap4) 29 (.bool false) (.slice none 0 0) (.bool false) (.slice none 0 0) 29
  rw [← hwx]
  clear hwx
  obtain ⟨v1, rfl⟩ : ∃ v1 : World, v1 = wx := ⟨_, rfl⟩
  have HV1 := Lib.hid (HV1.out.mono hb)
  have HV2 := Lib.hid (HV2.out.mono hb)
  have HV3 := Lib.hid (HV3.out.mono hb)
  have HV4 := Lib.hid (HV4.out.mono hb)
  have hE := hE.mono hb
  have hbw := Below.step hbw hb (Nat.le_refl _)
  clear hb
  obtain ⟨cX1_0, cX1_1, cX1_2, cX1_3, _, _, _, _⟩ := id X1
  go_wp2_with fail
  (with_reducible refine (Valid_true _ a v1 (RatV.mk' HV1 HV2) hE).mono ?_)
  rintro e v2 ⟨rfl, hb⟩
  have HV1 := Lib.hid (HV1.out.mono hb)
  have HV2 := Lib.hid (HV2.out.mono hb)
  have HV3 := Lib.hid (HV3.out.mono hb)
  have HV4 := Lib.hid (HV4.out.mono hb)
  have X1 := X1.mono hb
  have X2 := X2.mono hb
  have X3 := X3.mono hb
  have hE := hE.mono hb
  have hbw := Below.step hbw hb (Nat.le_refl _)
  clear hb
  clear cX1_0 cX1_1 cX1_2 cX1_3
  obtain ⟨cX2_0, cX2_1, cX2_2, cX2_3, _, _, _, _⟩ := id X2
  go_wp2_with fail
  (with_reducible refine (Valid_true _ b v2 (RatV.mk' HV3 HV4) hE).mono ?_)
  rintro e v3 ⟨rfl, hb⟩
  have HV1 := Lib.hid (HV1.out.mono hb)
  have HV2 := Lib.hid (HV2.out.mono hb)
  have HV3 := Lib.hid (HV3.out.mono hb)
  have HV4 := Lib.hid (HV4.out.mono hb)
  have X1 := X1.mono hb
  have X2 := X2.mono hb
  have X3 := X3.mono hb
  have hE := hE.mono hb
  have hbw := Below.step hbw hb (Nat.le_refl _)
  clear hb
  clear cX2_0 cX2_1 cX2_2 cX2_3
  obtain ⟨cX1_0, cX1_1, cX1_2, cX1_3, _, _, _, _⟩ := id X1
  obtain ⟨cX2_0, cX2_1, cX2_2, cX2_3, _, _, _, _⟩ := id X2
  go_wp2_with fail
  (with_reducible refine (crossed_ok _ _ a b v3 (RatV.mk' HV1 HV2) (RatV.mk' HV3 HV4) HS hE).mono ?_)
  rintro e v4 ⟨⟨ng5, ao5, n5, cap5, ng6, ao6, n6, cap6, rfl, HV5, HV6⟩, hb⟩
  have HV1 := Lib.hid (HV1.out.mono hb)
  have HV2 := Lib.hid (HV2.out.mono hb)
  have HV3 := Lib.hid (HV3.out.mono hb)
  have HV4 := Lib.hid (HV4.out.mono hb)
  have X1 := X1.mono hb
  have X2 := X2.mono hb
  have X3 := X3.mono hb
  have hE := hE.mono hb
  have hbw := Below.step hbw hb (Nat.le_refl _)
  clear hb
  clear cX1_0 cX1_1 cX1_2 cX1_3 cX2_0 cX2_1 cX2_2 cX2_3
  go_upto_region 4 with fail
  have lX5X1 := X1.lt
  have lX5X2 := X2.lt
  have lX5X3 := X3.lt
  obtain ⟨wx, hwx, hszx, X5, X6, hb⟩ := boxes_22 v4 (.bool ng5) (.slice ao5 n5 cap5) 24 (.bool ng6) (.slice ao6 n6 cap6) 24
  rw [← hwx]
  clear hwx
  obtain ⟨v5, rfl⟩ : ∃ v5 : World, v5 = wx := ⟨_, rfl⟩
  have HV1 := Lib.hid (HV1.out.mono hb)
  have HV2 := Lib.hid (HV2.out.mono hb)
  have HV3 := Lib.hid (HV3.out.mono hb)
  have HV4 := Lib.hid (HV4.out.mono hb)
  have X1 := X1.mono hb
  have X2 := X2.mono hb
  have X3 := X3.mono hb
  have HV5 := Lib.hid (HV5.out.mono hb)
  have HV6 := Lib.hid (HV6.out.mono hb)
  have hE := hE.mono hb
  have hbw := Below.step hbw hb (Nat.le_refl _)
  clear hb
  obtain ⟨cX5_0, cX5_1, _, _⟩ := id X5
  obtain ⟨cX6_0, cX6_1, _, _⟩ := id X6
  go_wp2_with fail
  (with_reducible refine (Sub_ok _ _ (a.num * (b.den : Int)) (b.num * (a.den : Int)) v5 HV5.out HV6.out (Lib.hid hs.out.2.1) hE).mono ?_)
  rintro e v6 ⟨⟨ng7, ao7, n7, cap7, rfl, HV7⟩, hb⟩
  have HV1 := Lib.hid (HV1.out.mono hb)
  have HV2 := Lib.hid (HV2.out.mono hb)
  have HV3 := Lib.hid (HV3.out.mono hb)
  have HV4 := Lib.hid (HV4.out.mono hb)
  have X1 := X1.mono hb
  have X2 := X2.mono hb
  have X3 := X3.mono hb
  have HV5 := Lib.hid (HV5.out.mono hb)
  have HV6 := Lib.hid (HV6.out.mono hb)
  have X5 := X5.mono hb
  have X6 := X6.mono hb
  have hE := hE.mono hb
  have hbw := Below.step hbw hb (Nat.le_refl _)
  clear hb
  clear cX5_0 cX5_1 cX6_0 cX6_1
  go_upto_region 7 with fail
  have lX7X1 := X1.lt
  have lX7X2 := X2.lt
  have lX7X3 := X3.lt
  have lX7X5 := X5.lt
  have lX7X6 := X6.lt
  have X7 := Box.new v6 (.bool ng7) (.slice ao7 n7 cap7) 24
  have hb := below_alloc v6 (.cells #[.bool ng7, .slice ao7 n7 cap7] 24)
  generalize v6.alloc (.cells #[.bool ng7, .slice ao7 n7 cap7] 24) = v7 at *
  have HV1 := Lib.hid (HV1.out.mono hb)
  have HV2 := Lib.hid (HV2.out.mono hb)
  have HV3 := Lib.hid (HV3.out.mono hb)
  have HV4 := Lib.hid (HV4.out.mono hb)
  have X1 := X1.mono hb
  have X2 := X2.mono hb
  have X3 := X3.mono hb
  have HV5 := Lib.hid (HV5.out.mono hb)
  have HV6 := Lib.hid (HV6.out.mono hb)
  have X5 := X5.mono hb
  have X6 := X6.mono hb
  have HV7 := Lib.hid (HV7.out.mono hb)
  have hE := hE.mono hb
  have hbw := Below.step hbw hb (Nat.le_refl _)
  clear hb
  obtain ⟨cX1_0, cX1_1, cX1_2, cX1_3, _, _, _, _⟩ := id X1
  obtain ⟨cX2_0, cX2_1, cX2_2, cX2_3, _, _, _, _⟩ := id X2
  go_wp2_with fail
  (with_reducible refine (Mul_ok _ _ (a.den : Int) (b.den : Int) v7 HV2.out HV4.out (Lib.hid hs.out.2.2) hE).mono ?_)
  rintro e v8 ⟨⟨ng8, ao8, n8, cap8, rfl, HV8⟩, hb⟩
  have HV1 := Lib.hid (HV1.out.mono hb)
  have HV2 := Lib.hid (HV2.out.mono hb)
  have HV3 := Lib.hid (HV3.out.mono hb)
  have HV4 := Lib.hid (HV4.out.mono hb)
  have X1 := X1.mono hb
  have X2 := X2.mono hb
  have X3 := X3.mono hb
  have HV5 := Lib.hid (HV5.out.mono hb)
  have HV6 := Lib.hid (HV6.out.mono hb)
  have X5 := X5.mono hb
  have X6 := X6.mono hb
  have HV7 := Lib.hid (HV7.out.mono hb)
  have X7 := X7.mono hb
  have hE := hE.mono hb
  have hbw := Below.step hbw hb (Nat.le_refl _)
  clear hb
  clear cX1_0 cX1_1 cX1_2 cX1_3 cX2_0 cX2_1 cX2_2 cX2_3
  go_upto_region 10 with fail
  have lX8X1 := X1.lt
  have lX8X2 := X2.lt
  have lX8X3 := X3.lt
  have lX8X5 := X5.lt
  have lX8X6 := X6.lt
  have lX8X7 := X7.lt
  have X8 := Box.new v8 (.bool ng8) (.slice ao8 n8 cap8) 24
  have hb := below_alloc v8 (.cells #[.bool ng8, .slice ao8 n8 cap8] 24)
  generalize v8.alloc (.cells #[.bool ng8, .slice ao8 n8 cap8] 24) = v9 at *
  have HV1 := Lib.hid (HV1.out.mono hb)
  have HV2 := Lib.hid (HV2.out.mono hb)
  have HV3 := Lib.hid (HV3.out.mono hb)
  have HV4 := Lib.hid (HV4.out.mono hb)
  have X1 := X1.mono hb
  have X2 := X2.mono hb
  have X3 := X3.mono hb
  have HV5 := Lib.hid (HV5.out.mono hb)
  have HV6 := Lib.hid (HV6.out.mono hb)
  have X5 := X5.mono hb
  have X6 := X6.mono hb
  have HV7 := Lib.hid (HV7.out.mono hb)
  have X7 := X7.mono hb
  have HV8 := Lib.hid (HV8.out.mono hb)
  have hE := hE.mono hb
  have hbw := Below.step hbw hb (Nat.le_refl _)
  clear hb
  obtain ⟨cX7_0, cX7_1, _, _⟩ := id X7
  obtain ⟨cX8_0, cX8_1, _, _⟩ := id X8
  go_wp2_with fail
  (with_reducible refine (reduced_any _ _ ((a.num * (b.den : Int)) - (b.num * (a.den : Int))) ((a.den : Int) * (b.den : Int)) v9 HV7.out HV8.out (Lib.hid (dd_ne a b)) hE).mono ?_)
  rintro e v10 ⟨⟨ng9, ao9, n9, cap9, ngA, aoA, nA, capA, rfl, HV9, HVA⟩, hb⟩
  have HV1 := Lib.hid (HV1.out.mono hb)
  have HV2 := Lib.hid (HV2.out.mono hb)
  have HV3 := Lib.hid (HV3.out.mono hb)
  have HV4 := Lib.hid (HV4.out.mono hb)
  have X1 := X1.mono hb
  have X2 := X2.mono hb
  have X3 := X3.mono hb
  have HV5 := Lib.hid (HV5.out.mono hb)
  have HV6 := Lib.hid (HV6.out.mono hb)
  have X5 := X5.mono hb
  have X6 := X6.mono hb
  have HV7 := Lib.hid (HV7.out.mono hb)
  have X7 := X7.mono hb
  have HV8 := Lib.hid (HV8.out.mono hb)
  have X8 := X8.mono hb
  have hE := hE.mono hb
  have hbw := Below.step hbw hb (Nat.le_refl _)
  clear hb
  clear cX7_0 cX7_1 cX8_0 cX8_1
  rw [Rq.sub_eq] at HV9 HVA
  obtain ⟨cX3_0, cX3_1, cX3_2, cX3_3, _, _, _, _⟩ := id X3
  go_wp2
  refine bodyPost_ret (v := .tuple #[.agg #[.bool ng9, .slice ao9 n9 cap9, .bool ngA, .slice aoA nA capA], .int .i64 0]) (by simp [results, Tryz.results76, go_sem, cX3_0, cX3_1, cX3_2, cX3_3]) rfl ⟨⟨ng9, ao9, n9, cap9, ngA, aoA, nA, capA, rfl, Lib.hid (HV9.out.put4B X3 (.bool ng9) (.slice ao9 n9 cap9) (.bool ngA) (.slice aoA nA capA)), Lib.hid (HVA.out.put4B X3 (.bool ng9) (.slice ao9 n9 cap9) (.bool ngA) (.slice aoA nA capA))⟩, Below.put4 hbw (by omega) (.bool ng9) (.slice ao9 n9 cap9) (.bool ngA) (.slice aoA nA capA)⟩

theorem csub_big (va vb : Value) (a b : Rat) (w : World) (ha : RatV w va a) (hb : RatV w vb b) (hs : Hid (¬ SubS a b)) (hE : Env w) :
    Calls Tryz.prog 76 #[va, vb, .func (Fn.func 48) #[] #[]] w fun e w' => NoQ 3 e ∧ Below w.heap.size w w' := by
  by_cases h1 : CrS a b
  · by_cases h2 : Rq.Sm ((a.num * (b.den : Int)) - (b.num * (a.den : Int)))
    · by_cases h3 : Rq.Sm ((a.den : Int) * (b.den : Int))
      · exact absurd ⟨h1, h2, h3⟩ hs.out
      · exact csub_2 va vb a b w ha hb (Lib.hid ⟨h1, h2, h3⟩) hE
    · exact csub_1 va vb a b w ha hb (Lib.hid ⟨h1, h2⟩) hE
  · exact csub_0 va vb a b w ha hb (Lib.hid h1) hE

set_option maxRecDepth 100000 in
set_option maxHeartbeats 1600000 in
theorem Sub_q (va vb : Value) (a b : Rat) (w : World) (ha : RatV w va a) (hb : RatV w vb b) (hs : Hid (SubS a b)) (hE : Env w) :
    Calls Tryz.prog 30 #[va, vb] w fun e w' => GotQ w' (a - b) e ∧ Below w.heap.size w w' := by
  have HS : Hid (CrS a b ∧ Rq.Sm ((a.num * (b.den : Int)) - (b.num * (a.den : Int))) ∧ Rq.Sm ((a.den : Int) * (b.den : Int))) := Lib.hid hs.out
  have hE0 := hE
  have hbw := Below.refl w.heap.size w
  obtain ⟨ng1, ao1, n1, cap1, ng2, ao2, n2, cap2, rfl, h1, h2⟩ := ha
  have HV1 := Lib.hid h1
  have HV2 := Lib.hid h2
  clear h1 h2
  obtain ⟨ng3, ao3, n3, cap3, ng4, ao4, n4, cap4, rfl, h1, h2⟩ := hb
  have HV3 := Lib.hid h1
  have HV4 := Lib.hid h2
  clear h1 h2
  go_enter Tryz.func30, Tryz.ntmps30
  go_upto_region 1 with fail
  obtain ⟨wx, hwx, hszx, X1, X2, X3, hb⟩ := boxes_444 w (.bool ng1) (.slice ao1 n1 cap1) (.bool ng2) (.slice ao2 n2 cap2) 29 (.bool ng3) (.slice ao3 n3 cap3) (.bool ng4) (.slice ao4 n4 cap4) 29 (.bool false) (.slice none 0 0) (.bool false) (.slice none 0 0) 29
  rw [← hwx]
  clear hwx
  obtain ⟨v1, rfl⟩ : ∃ v1 : World, v1 = wx := ⟨_, rfl⟩
  have HV1 := Lib.hid (HV1.out.mono hb)
  have HV2 := Lib.hid (HV2.out.mono hb)
  have HV3 := Lib.hid (HV3.out.mono hb)
  have HV4 := Lib.hid (HV4.out.mono hb)
  have hE := hE.mono hb
  have hbw := Below.step hbw hb (Nat.le_refl _)
  clear hb
  obtain ⟨cX1_0, cX1_1, cX1_2, cX1_3, _, _, _, _⟩ := id X1
  obtain ⟨cX2_0, cX2_1, cX2_2, cX2_3, _, _, _, _⟩ := id X2
  go_wp2_with fail
  (with_reducible refine (csub_3 _ _ a b v1 (RatV.mk' HV1 HV2) (RatV.mk' HV3 HV4) HS hE).mono ?_)
  rintro e v2 ⟨⟨ng5, ao5, n5, cap5, ng6, ao6, n6, cap6, rfl, HV5, HV6⟩, hb⟩
  have HV1 := Lib.hid (HV1.out.mono hb)
  have HV2 := Lib.hid (HV2.out.mono hb)
  have HV3 := Lib.hid (HV3.out.mono hb)
  have HV4 := Lib.hid (HV4.out.mono hb)
  have X1 := X1.mono hb
  have X2 := X2.mono hb
  have X3 := X3.mono hb
  have hE := hE.mono hb
  have hbw := Below.step hbw hb (Nat.le_refl _)
  clear hb
  clear cX1_0 cX1_1 cX1_2 cX1_3 cX2_0 cX2_1 cX2_2 cX2_3
  obtain ⟨cX3_0, cX3_1, cX3_2, cX3_3, _, _, _, _⟩ := id X3
  go_wp2
  refine bodyPost_ret (v := .tuple #[.agg #[.bool ng5, .slice ao5 n5 cap5, .bool ng6, .slice ao6 n6 cap6], .int .i64 0]) (by simp [results, Tryz.results30, go_sem, cX3_0, cX3_1, cX3_2, cX3_3]) rfl ⟨⟨ng5, ao5, n5, cap5, ng6, ao6, n6, cap6, rfl, Lib.hid (HV5.out.put4B X3 (.bool ng5) (.slice ao5 n5 cap5) (.bool ng6) (.slice ao6 n6 cap6)), Lib.hid (HV6.out.put4B X3 (.bool ng5) (.slice ao5 n5 cap5) (.bool ng6) (.slice ao6 n6 cap6))⟩, Below.put4 hbw (by omega) (.bool ng5) (.slice ao5 n5 cap5) (.bool ng6) (.slice ao6 n6 cap6)⟩

set_option maxRecDepth 100000 in
set_option maxHeartbeats 1600000 in
theorem Sub_qbig (va vb : Value) (a b : Rat) (w : World) (ha : RatV w va a) (hb : RatV w vb b) (hs : Hid (¬ SubS a b)) (hE : Env w) :
    Calls Tryz.prog 30 #[va, vb] w fun e w' => NoQ 3 e ∧ Below w.heap.size w w' := by
  have hE0 := hE
  have hbw := Below.refl w.heap.size w
  obtain ⟨ng1, ao1, n1, cap1, ng2, ao2, n2, cap2, rfl, h1, h2⟩ := ha
  have HV1 := Lib.hid h1
  have HV2 := Lib.hid h2
  clear h1 h2
  obtain ⟨ng3, ao3, n3, cap3, ng4, ao4, n4, cap4, rfl, h1, h2⟩ := hb
  have HV3 := Lib.hid h1
  have HV4 := Lib.hid h2
  clear h1 h2
  go_enter Tryz.func30, Tryz.ntmps30
  go_upto_region 1 with fail
  obtain ⟨wx, hwx, hszx, X1, X2, X3, hb⟩ := boxes_444 w (.bool ng1) (.slice ao1 n1 cap1) (.bool ng2) (.slice ao2 n2 cap2) 29 (.bool ng3) (.slice ao3 n3 cap3) (.bool ng4) (.slice ao4 n4 cap4) 29 (.bool false) (.slice none 0 0) (.bool false) (.slice none 0 0) 29
  rw [← hwx]
  clear hwx
  obtain ⟨v1, rfl⟩ : ∃ v1 : World, v1 = wx := ⟨_, rfl⟩
  have HV1 := Lib.hid (HV1.out.mono hb)
  have HV2 := Lib.hid (HV2.out.mono hb)
  have HV3 := Lib.hid (HV3.out.mono hb)
  have HV4 := Lib.hid (HV4.out.mono hb)
  have hE := hE.mono hb
  have hbw := Below.step hbw hb (Nat.le_refl _)
  clear hb
  obtain ⟨cX1_0, cX1_1, cX1_2, cX1_3, _, _, _, _⟩ := id X1
  obtain ⟨cX2_0, cX2_1, cX2_2, cX2_3, _, _, _, _⟩ := id X2
  go_wp2_with fail
  (with_reducible refine (csub_big _ _ a b v1 (RatV.mk' HV1 HV2) (RatV.mk' HV3 HV4) hs hE).mono ?_)
  rintro e v2 ⟨rfl, hb⟩
  have HV1 := Lib.hid (HV1.out.mono hb)
  have HV2 := Lib.hid (HV2.out.mono hb)
  have HV3 := Lib.hid (HV3.out.mono hb)
  have HV4 := Lib.hid (HV4.out.mono hb)
  have X1 := X1.mono hb
  have X2 := X2.mono hb
  have X3 := X3.mono hb
  have hE := hE.mono hb
  have hbw := Below.step hbw hb (Nat.le_refl _)
  clear hb
  clear cX1_0 cX1_1 cX1_2 cX1_3 cX2_0 cX2_1 cX2_2 cX2_3
  obtain ⟨cX3_0, cX3_1, cX3_2, cX3_3, _, _, _, _⟩ := id X3
  go_wp2
  refine bodyPost_ret (v := .tuple #[.agg #[.bool false, .slice none 0 0, .bool false, .slice none 0 0], .int .i64 3]) (by simp [results, Tryz.results30, go_sem, cX3_0, cX3_1, cX3_2, cX3_3]) rfl ⟨rfl, Below.put4 hbw (by omega) (.bool false) (.slice none 0 0) (.bool false) (.slice none 0 0)⟩

set_option maxRecDepth 100000 in
set_option maxHeartbeats 1600000 in
theorem Sub_qinv (va vb : Value) (ba bb : Bool) (w : World) (hqa : VQ w va ba) (hqb : VQ w vb bb) (hn : Hid (¬ (ba = true ∧ bb = true))) (hE : Env w) :
    Calls Tryz.prog 30 #[va, vb] w fun e w' => NoQ 1 e ∧ Below w.heap.size w w' := by
  have hE0 := hE
  have hbw := Below.refl w.heap.size w
  obtain ⟨ng1, ao1, n1, cap1, ng2, ao2, n2, cap2, rfl⟩ := hqa.parts
  obtain ⟨ng3, ao3, n3, cap3, ng4, ao4, n4, cap4, rfl⟩ := hqb.parts
  go_enter Tryz.func30, Tryz.ntmps30
  go_upto_region 1 with fail
  obtain ⟨wx, hwx, hszx, X1, X2, X3, hb⟩ := boxes_444 w (.bool ng1) (.slice ao1 n1 cap1) (.bool ng2) (.slice ao2 n2 cap2) 29 (.bool ng3) (.slice ao3 n3 cap3) (.bool ng4) (.slice ao4 n4 cap4) 29 (.bool false) (.slice none 0 0) (.bool false) (.slice none 0 0) 29
  rw [← hwx]
  clear hwx
  obtain ⟨v1, rfl⟩ : ∃ v1 : World, v1 = wx := ⟨_, rfl⟩
  have hqa := hqa.mono hb
  have hqb := hqb.mono hb
  have hE := hE.mono hb
  have hbw := Below.step hbw hb (Nat.le_refl _)
  clear hb
  obtain ⟨cX1_0, cX1_1, cX1_2, cX1_3, _, _, _, _⟩ := id X1
  obtain ⟨cX2_0, cX2_1, cX2_2, cX2_3, _, _, _, _⟩ := id X2
  go_wp2_with fail
  (with_reducible refine (csub_inv _ _ ba bb v1 hqa hqb hn hE).mono ?_)
  rintro e v2 ⟨rfl, hb⟩
  have hqa := hqa.mono hb
  have hqb := hqb.mono hb
  have X1 := X1.mono hb
  have X2 := X2.mono hb
  have X3 := X3.mono hb
  have hE := hE.mono hb
  have hbw := Below.step hbw hb (Nat.le_refl _)
  clear hb
  clear cX1_0 cX1_1 cX1_2 cX1_3 cX2_0 cX2_1 cX2_2 cX2_3
  obtain ⟨cX3_0, cX3_1, cX3_2, cX3_3, _, _, _, _⟩ := id X3
  go_wp2
  refine bodyPost_ret (v := .tuple #[.agg #[.bool false, .slice none 0 0, .bool false, .slice none 0 0], .int .i64 1]) (by simp [results, Tryz.results30, go_sem, cX3_0, cX3_1, cX3_2, cX3_3]) rfl ⟨rfl, Below.put4 hbw (by omega) (.bool false) (.slice none 0 0) (.bool false) (.slice none 0 0)⟩

set_option maxRecDepth 100000 in
set_option maxHeartbeats 1600000 in
theorem quotient_1 (vx vy vu vv : Value) (x y u v : Int) (w : World) (hx : IntV w vx x) (hy : IntV w vy y) (hu : IntV w vu u) (hv : IntV w vv v) (hs : Hid (¬ Rq.Sm (x * y))) (hE : Env w) :
    Calls Tryz.prog 77 #[vx, vy, vu, vv] w fun e w' => NoQ 3 e ∧ Below w.heap.size w w' := by
  have hE0 := hE
  have hbw := Below.refl w.heap.size w
  obtain ⟨ng1, ao1, n1, cap1, rfl⟩ := hx.parts
  have HV1 := Lib.hid hx
  clear hx
  obtain ⟨ng2, ao2, n2, cap2, rfl⟩ := hy.parts
  have HV2 := Lib.hid hy
  clear hy
  obtain ⟨ng3, ao3, n3, cap3, rfl⟩ := hu.parts
  have HV3 := Lib.hid hu
  clear hu
  obtain ⟨ng4, ao4, n4, cap4, rfl⟩ := hv.parts
  have HV4 := Lib.hid hv
  clear hv
  go_enter Tryz.func77, Tryz.ntmps77
  go_upto_region 1 with fail
  obtain ⟨wx, hwx, hszx, X1, X2, X3, X4, X5, hb⟩ := boxes_22224 w (.bool ng1) (.slice ao1 n1 cap1) 24 (.bool ng2) (.slice ao2 n2 cap2) 24 (.bool ng3) (.slice ao3 n3 cap3) 24 (.bool ng4) (.slice ao4 n4 cap4) 24 (.bool false) (.slice none 0 0) (.bool false) (.slice none 0 0) 29
  rw [← hwx]
  clear hwx
  obtain ⟨v1, rfl⟩ : ∃ v1 : World, v1 = wx := ⟨_, rfl⟩
  have HV1 := Lib.hid (HV1.out.mono hb)
  have HV2 := Lib.hid (HV2.out.mono hb)
  have HV3 := Lib.hid (HV3.out.mono hb)
  have HV4 := Lib.hid (HV4.out.mono hb)
  have hE := hE.mono hb
  have hbw := Below.step hbw hb (Nat.le_refl _)
  clear hb
  obtain ⟨cX1_0, cX1_1, _, _⟩ := id X1
  obtain ⟨cX2_0, cX2_1, _, _⟩ := id X2
  go_wp2_with fail
  (with_reducible refine (Mul_big _ _ x y v1 HV1.out HV2.out hs hE).mono ?_)
  rintro e v2 ⟨rfl, hb⟩
  have HV1 := Lib.hid (HV1.out.mono hb)
  have HV2 := Lib.hid (HV2.out.mono hb)
  have HV3 := Lib.hid (HV3.out.mono hb)
  have HV4 := Lib.hid (HV4.out.mono hb)
  have X1 := X1.mono hb
  have X2 := X2.mono hb
  have X3 := X3.mono hb
  have X4 := X4.mono hb
  have X5 := X5.mono hb
  have hE := hE.mono hb
  have hbw := Below.step hbw hb (Nat.le_refl _)
  clear hb
  clear cX1_0 cX1_1 cX2_0 cX2_1
  go_upto_region 2 with fail
  have lX6X1 := X1.lt
  have lX6X2 := X2.lt
  have lX6X3 := X3.lt
  have lX6X4 := X4.lt
  have lX6X5 := X5.lt
  have X6 := Box.new v2 (.bool false) (.slice none 0 0) 24
  have hb := below_alloc v2 (.cells #[.bool false, .slice none 0 0] 24)
  generalize v2.alloc (.cells #[.bool false, .slice none 0 0] 24) = v3 at *
  have HV1 := Lib.hid (HV1.out.mono hb)
  have HV2 := Lib.hid (HV2.out.mono hb)
  have HV3 := Lib.hid (HV3.out.mono hb)
  have HV4 := Lib.hid (HV4.out.mono hb)
  have X1 := X1.mono hb
  have X2 := X2.mono hb
  have X3 := X3.mono hb
  have X4 := X4.mono hb
  have X5 := X5.mono hb
  have hE := hE.mono hb
  have hbw := Below.step hbw hb (Nat.le_refl _)
  clear hb
  obtain ⟨cX5_0, cX5_1, cX5_2, cX5_3, _, _, _, _⟩ := id X5
  go_wp2
  refine bodyPost_ret (v := .tuple #[.agg #[.bool false, .slice none 0 0, .bool false, .slice none 0 0], .int .i64 3]) (by simp [results, Tryz.results77, go_sem, cX5_0, cX5_1, cX5_2, cX5_3]) rfl ⟨rfl, Below.put4 hbw (by omega) (.bool false) (.slice none 0 0) (.bool false) (.slice none 0 0)⟩

set_option maxRecDepth 100000 in
set_option maxHeartbeats 1600000 in
theorem quotient_2 (vx vy vu vv : Value) (x y u v : Int) (w : World) (hx : IntV w vx x) (hy : IntV w vy y) (hu : IntV w vu u) (hv : IntV w vv v) (hs : Hid (Rq.Sm (x * y) ∧ ¬ Rq.Sm (u * v))) (hE : Env w) :
    Calls Tryz.prog 77 #[vx, vy, vu, vv] w fun e w' => NoQ 3 e ∧ Below w.heap.size w w' := by
  have hE0 := hE
  have hbw := Below.refl w.heap.size w
  obtain ⟨ng1, ao1, n1, cap1, rfl⟩ := hx.parts
  have HV1 := Lib.hid hx
  clear hx
  obtain ⟨ng2, ao2, n2, cap2, rfl⟩ := hy.parts
  have HV2 := Lib.hid hy
  clear hy
  obtain ⟨ng3, ao3, n3, cap3, rfl⟩ := hu.parts
  have HV3 := Lib.hid hu
  clear hu
  obtain ⟨ng4, ao4, n4, cap4, rfl⟩ := hv.parts
  have HV4 := Lib.hid hv
  clear hv
  go_enter Tryz.func77, Tryz.ntmps77
  go_upto_region 1 with fail
  obtain ⟨wx, hwx, hszx, X1, X2, X3, X4, X5, hb⟩ := boxes_22224 w (.bool ng1) (.slice ao1 n1 cap1) 24 (.bool ng2) (.slice ao2 n2 cap2) 24 (.bool ng3) (.slice ao3 n3 cap3) 24 (.bool ng4) (.slice ao4 n4 cap4) 24 (.bool false) (.slice none 0 0) (.bool false) (.slice none 0 0) 29
  rw [← hwx]
  clear hwx
  obtain ⟨v1, rfl⟩ : ∃ v1 : World, v1 = wx := ⟨_, rfl⟩
  have HV1 := Lib.hid (HV1.out.mono hb)
  have HV2 := Lib.hid (HV2.out.mono hb)
  have HV3 := Lib.hid (HV3.out.mono hb)
  have HV4 := Lib.hid (HV4.out.mono hb)
  have hE := hE.mono hb
  have hbw := Below.step hbw hb (Nat.le_refl _)
  clear hb
  obtain ⟨cX1_0, cX1_1, _, _⟩ := id X1
  obtain ⟨cX2_0, cX2_1, _, _⟩ := id X2
  go_wp2_with fail
  (with_reducible refine (Mul_ok _ _ x y v1 HV1.out HV2.out (Lib.hid hs.out.1) hE).mono ?_)
  rintro e v2 ⟨⟨ng6, ao6, n6, cap6, rfl, HV6⟩, hb⟩
  have HV1 := Lib.hid (HV1.out.mono hb)
  have HV2 := Lib.hid (HV2.out.mono hb)
  have HV3 := Lib.hid (HV3.out.mono hb)
  have HV4 := Lib.hid (HV4.out.mono hb)
  have X1 := X1.mono hb
  have X2 := X2.mono hb
  have X3 := X3.mono hb
  have X4 := X4.mono hb
  have X5 := X5.mono hb
  have hE := hE.mono hb
  have hbw := Below.step hbw hb (Nat.le_refl _)
  clear hb
  clear cX1_0 cX1_1 cX2_0 cX2_1
  go_upto_region 2 with fail
  have lX6X1 := X1.lt
  have lX6X2 := X2.lt
  have lX6X3 := X3.lt
  have lX6X4 := X4.lt
  have lX6X5 := X5.lt
  have X6 := Box.new v2 (.bool ng6) (.slice ao6 n6 cap6) 24
  have hb := below_alloc v2 (.cells #[.bool ng6, .slice ao6 n6 cap6] 24)
  generalize v2.alloc (.cells #[.bool ng6, .slice ao6 n6 cap6] 24) = v3 at *
  have HV1 := Lib.hid (HV1.out.mono hb)
  have HV2 := Lib.hid (HV2.out.mono hb)
  have HV3 := Lib.hid (HV3.out.mono hb)
  have HV4 := Lib.hid (HV4.out.mono hb)
  have X1 := X1.mono hb
  have X2 := X2.mono hb
  have X3 := X3.mono hb
  have X4 := X4.mono hb
  have X5 := X5.mono hb
  have HV6 := Lib.hid (HV6.out.mono hb)
  have hE := hE.mono hb
  have hbw := Below.step hbw hb (Nat.le_refl _)
  clear hb
  obtain ⟨cX3_0, cX3_1, _, _⟩ := id X3
  obtain ⟨cX4_0, cX4_1, _, _⟩ := id X4
  go_wp2_with fail
  (with_reducible refine (Mul_big _ _ u v v3 HV3.out HV4.out (Lib.hid hs.out.2) hE).mono ?_)
  rintro e v4 ⟨rfl, hb⟩
  have HV1 := Lib.hid (HV1.out.mono hb)
  have HV2 := Lib.hid (HV2.out.mono hb)
  have HV3 := Lib.hid (HV3.out.mono hb)
  have HV4 := Lib.hid (HV4.out.mono hb)
  have X1 := X1.mono hb
  have X2 := X2.mono hb
  have X3 := X3.mono hb
  have X4 := X4.mono hb
  have X5 := X5.mono hb
  have HV6 := Lib.hid (HV6.out.mono hb)
  have X6 := X6.mono hb
  have hE := hE.mono hb
  have hbw := Below.step hbw hb (Nat.le_refl _)
  clear hb
  clear cX3_0 cX3_1 cX4_0 cX4_1
  go_upto_region 5 with fail
  have lX7X1 := X1.lt
  have lX7X2 := X2.lt
  have lX7X3 := X3.lt
  have lX7X4 := X4.lt
  have lX7X5 := X5.lt
  have lX7X6 := X6.lt
  have X7 := Box.new v4 (.bool false) (.slice none 0 0) 24
  have hb := below_alloc v4 (.cells #[.bool false, .slice none 0 0] 24)
  generalize v4.alloc (.cells #[.bool false, .slice none 0 0] 24) = v5 at *
  have HV1 := Lib.hid (HV1.out.mono hb)
  have HV2 := Lib.hid (HV2.out.mono hb)
  have HV3 := Lib.hid (HV3.out.mono hb)
  have HV4 := Lib.hid (HV4.out.mono hb)
  have X1 := X1.mono hb
  have X2 := X2.mono hb
  have X3 := X3.mono hb
  have X4 := X4.mono hb
  have X5 := X5.mono hb
  have HV6 := Lib.hid (HV6.out.mono hb)
  have X6 := X6.mono hb
  have hE := hE.mono hb
  have hbw := Below.step hbw hb (Nat.le_refl _)
  clear hb
  obtain ⟨cX5_0, cX5_1, cX5_2, cX5_3, _, _, _, _⟩ := id X5
  go_wp2
  refine bodyPost_ret (v := .tuple #[.agg #[.bool false, .slice none 0 0, .bool false, .slice none 0 0], .int .i64 3]) (by simp [results, Tryz.results77, go_sem, cX5_0, cX5_1, cX5_2, cX5_3]) rfl ⟨rfl, Below.put4 hbw (by omega) (.bool false) (.slice none 0 0) (.bool false) (.slice none 0 0)⟩

set_option maxRecDepth 100000 in
set_option maxHeartbeats 1600000 in
theorem quotient_3 (vx vy vu vv : Value) (x y u v : Int) (w : World) (hx : IntV w vx x) (hy : IntV w vy y) (hu : IntV w vu u) (hv : IntV w vv v) (hs : Hid (Rq.Sm (x * y) ∧ Rq.Sm (u * v) ∧ u * v ≠ 0)) (hE : Env w) :
    Calls Tryz.prog 77 #[vx, vy, vu, vv] w fun e w' => GotQ w' (Rat.divInt (x * y) (u * v)) e ∧ Below w.heap.size w w' := by
  have hE0 := hE
  have hbw := Below.refl w.heap.size w
  obtain ⟨ng1, ao1, n1, cap1, rfl⟩ := hx.parts
  have HV1 := Lib.hid hx
  clear hx
  obtain ⟨ng2, ao2, n2, cap2, rfl⟩ := hy.parts
  have HV2 := Lib.hid hy
  clear hy
  obtain ⟨ng3, ao3, n3, cap3, rfl⟩ := hu.parts
  have HV3 := Lib.hid hu
  clear hu
  obtain ⟨ng4, ao4, n4, cap4, rfl⟩ := hv.parts
  have HV4 := Lib.hid hv
  clear hv
  go_enter Tryz.func77, Tryz.ntmps77
  go_upto_region 1 with fail
  obtain ⟨wx, hwx, hszx, X1, X2, X3, X4, X5, hb⟩ := boxes_22224 w (.bool ng1) (.slice ao1 n1 cap1) 24 (.bool ng2) (.slice ao2 n2 cap2) 24 (.bool ng3) (.slice ao3 n3 cap3) 24 (.bool ng4) (.slice ao4 n4 cap4) 24 (.bool false) (.slice none 0 0) (.bool false) (.slice none 0 0) 29
  rw [← hwx]
  clear hwx
  obtain ⟨v1, rfl⟩ : ∃ v1 : World, v1 = wx := ⟨_, rfl⟩
  have HV1 := Lib.hid (HV1.out.mono hb)
  have HV2 := Lib.hid (HV2.out.mono hb)
  have HV3 := Lib.hid (HV3.out.mono hb)
  have HV4 := Lib.hid (HV4.out.mono hb)
  have hE := hE.mono hb
  have hbw := Below.step hbw hb (Nat.le_refl _)
  clear hb
  obtain ⟨cX1_0, cX1_1, _, _⟩ := id X1
  obtain ⟨cX2_0, cX2_1, _, _⟩ := id X2
  go_wp2_with fail
  (with_reducible refine (Mul_ok _ _ x y v1 HV1.out HV2.out (Lib.hid hs.out.1) hE).mono ?_)
  rintro e v2 ⟨⟨ng6, ao6, n6, cap6, rfl, HV6⟩, hb⟩
  have HV1 := Lib.hid (HV1.out.mono hb)
  have HV2 := Lib.hid (HV2.out.mono hb)
  have HV3 := Lib.hid (HV3.out.mono hb)
  have HV4 := Lib.hid (HV4.out.mono hb)
  have X1 := X1.mono hb
  have X2 := X2.mono hb
  have X3 := X3.mono hb
  have X4 := X4.mono hb
  have X5 := X5.mono hb
  have hE := hE.mono hb
  have hbw := Below.step hbw hb (Nat.le_refl _)
  clear hb
  clear cX1_0 cX1_1 cX2_0 cX2_1
  go_upto_region 2 with fail
  have lX6X1 := X1.lt
  have lX6X2 := X2.lt
  have lX6X3 := X3.lt
  have lX6X4 := X4.lt
  have lX6X5 := X5.lt
  have X6 := Box.new v2 (.bool ng6) (.slice ao6 n6 cap6) 24
  have hb := below_alloc v2 (.cells #[.bool ng6, .slice ao6 n6 cap6] 24)
  generalize v2.alloc (.cells #[.bool ng6, .slice ao6 n6 cap6] 24) = v3 at *
  have HV1 := Lib.hid (HV1.out.mono hb)
  have HV2 := Lib.hid (HV2.out.mono hb)
  have HV3 := Lib.hid (HV3.out.mono hb)
  have HV4 := Lib.hid (HV4.out.mono hb)
  have X1 := X1.mono hb
  have X2 := X2.mono hb
  have X3 := X3.mono hb
  have X4 := X4.mono hb
  have X5 := X5.mono hb
  have HV6 := Lib.hid (HV6.out.mono hb)
  have hE := hE.mono hb
  have hbw := Below.step hbw hb (Nat.le_refl _)
  clear hb
  obtain ⟨cX3_0, cX3_1, _, _⟩ := id X3
  obtain ⟨cX4_0, cX4_1, _, _⟩ := id X4
  go_wp2_with fail
  (with_reducible refine (Mul_ok _ _ u v v3 HV3.out HV4.out (Lib.hid hs.out.2.1) hE).mono ?_)
  rintro e v4 ⟨⟨ng7, ao7, n7, cap7, rfl, HV7⟩, hb⟩
  have HV1 := Lib.hid (HV1.out.mono hb)
  have HV2 := Lib.hid (HV2.out.mono hb)
  have HV3 := Lib.hid (HV3.out.mono hb)
  have HV4 := Lib.hid (HV4.out.mono hb)
  have X1 := X1.mono hb
  have X2 := X2.mono hb
  have X3 := X3.mono hb
  have X4 := X4.mono hb
  have X5 := X5.mono hb
  have HV6 := Lib.hid (HV6.out.mono hb)
  have X6 := X6.mono hb
  have hE := hE.mono hb
  have hbw := Below.step hbw hb (Nat.le_refl _)
  clear hb
  clear cX3_0 cX3_1 cX4_0 cX4_1
  go_upto_region 5 with fail
  have lX7X1 := X1.lt
  have lX7X2 := X2.lt
  have lX7X3 := X3.lt
  have lX7X4 := X4.lt
  have lX7X5 := X5.lt
  have lX7X6 := X6.lt
  have X7 := Box.new v4 (.bool ng7) (.slice ao7 n7 cap7) 24
  have hb := below_alloc v4 (.cells #[.bool ng7, .slice ao7 n7 cap7] 24)
  generalize v4.alloc (.cells #[.bool ng7, .slice ao7 n7 cap7] 24) = v5 at *
  have HV1 := Lib.hid (HV1.out.mono hb)
  have HV2 := Lib.hid (HV2.out.mono hb)
  have HV3 := Lib.hid (HV3.out.mono hb)
  have HV4 := Lib.hid (HV4.out.mono hb)
  have X1 := X1.mono hb
  have X2 := X2.mono hb
  have X3 := X3.mono hb
  have X4 := X4.mono hb
  have X5 := X5.mono hb
  have HV6 := Lib.hid (HV6.out.mono hb)
  have X6 := X6.mono hb
  have HV7 := Lib.hid (HV7.out.mono hb)
  have hE := hE.mono hb
  have hbw := Below.step hbw hb (Nat.le_refl _)
  clear hb
  obtain ⟨cX6_0, cX6_1, _, _⟩ := id X6
  obtain ⟨cX7_0, cX7_1, _, _⟩ := id X7
  go_wp2_with fail
  (with_reducible refine (reduced_any _ _ (x * y) (u * v) v5 HV6.out HV7.out (Lib.hid hs.out.2.2) hE).mono ?_)
  rintro e v6 ⟨⟨ng8, ao8, n8, cap8, ng9, ao9, n9, cap9, rfl, HV8, HV9⟩, hb⟩
  have HV1 := Lib.hid (HV1.out.mono hb)
  have HV2 := Lib.hid (HV2.out.mono hb)
  have HV3 := Lib.hid (HV3.out.mono hb)
  have HV4 := Lib.hid (HV4.out.mono hb)
  have X1 := X1.mono hb
  have X2 := X2.mono hb
  have X3 := X3.mono hb
  have X4 := X4.mono hb
  have X5 := X5.mono hb
  have HV6 := Lib.hid (HV6.out.mono hb)
  have X6 := X6.mono hb
  have HV7 := Lib.hid (HV7.out.mono hb)
  have X7 := X7.mono hb
  have hE := hE.mono hb
  have hbw := Below.step hbw hb (Nat.le_refl _)
  clear hb
  clear cX6_0 cX6_1 cX7_0 cX7_1
  obtain ⟨cX5_0, cX5_1, cX5_2, cX5_3, _, _, _, _⟩ := id X5
  go_wp2
  refine bodyPost_ret (v := .tuple #[.agg #[.bool ng8, .slice ao8 n8 cap8, .bool ng9, .slice ao9 n9 cap9], .int .i64 0]) (by simp [results, Tryz.results77, go_sem, cX5_0, cX5_1, cX5_2, cX5_3]) rfl ⟨⟨ng8, ao8, n8, cap8, ng9, ao9, n9, cap9, rfl, Lib.hid (HV8.out.put4B X5 (.bool ng8) (.slice ao8 n8 cap8) (.bool ng9) (.slice ao9 n9 cap9)), Lib.hid (HV9.out.put4B X5 (.bool ng8) (.slice ao8 n8 cap8) (.bool ng9) (.slice ao9 n9 cap9))⟩, Below.put4 hbw (by omega) (.bool ng8) (.slice ao8 n8 cap8) (.bool ng9) (.slice ao9 n9 cap9)⟩

theorem quotient_big (vx vy vu vv : Value) (x y u v : Int) (w : World) (hx : IntV w vx x) (hy : IntV w vy y) (hu : IntV w vu u) (hv : IntV w vv v) (hs : Hid (¬ (Rq.Sm (x * y) ∧ Rq.Sm (u * v)))) (hE : Env w) :
    Calls Tryz.prog 77 #[vx, vy, vu, vv] w fun e w' => NoQ 3 e ∧ Below w.heap.size w w' := by
  by_cases h1 : Rq.Sm (x * y)
  · exact quotient_2 vx vy vu vv x y u v w hx hy hu hv (Lib.hid ⟨h1, fun h => hs.out ⟨h1, h⟩⟩) hE
  · exact quotient_1 vx vy vu vv x y u v w hx hy hu hv (Lib.hid h1) hE

set_option maxRecDepth 100000 in
set_option maxHeartbeats 1600000 in
theorem Mul_q_i1 (va vb : Value) (bb : Bool) (w : World) (hqa : VQ w va false) (hqb : VQ w vb bb) (hE : Env w) :
    Calls Tryz.prog 33 #[va, vb] w fun e w' => NoQ 1 e ∧ Below w.heap.size w w' := by
  have hE0 := hE
  have hbw := Below.refl w.heap.size w
  obtain ⟨ng1, ao1, n1, cap1, ng2, ao2, n2, cap2, rfl⟩ := hqa.parts
  obtain ⟨ng3, ao3, n3, cap3, ng4, ao4, n4, cap4, rfl⟩ := hqb.parts
  go_enter Tryz.func33, Tryz.ntmps33
  go_upto_region 1 with fail
  obtain ⟨wx, hwx, hszx, X1, X2, X3, hb⟩ := boxes_444 w (.bool ng1) (.slice ao1 n1 cap1) (.bool ng2) (.slice ao2 n2 cap2) 29 (.bool ng3) (.slice ao3 n3 cap3) (.bool ng4) (.slice ao4 n4 cap4) 29 (.bool false) (.slice none 0 0) (.bool false) (.slice none 0 0) 29
  rw [← hwx]
  clear hwx
  obtain ⟨v1, rfl⟩ : ∃ v1 : World, v1 = wx := ⟨_, rfl⟩
  have hqa := hqa.mono hb
  have hqb := hqb.mono hb
  have hE := hE.mono hb
  have hbw := Below.step hbw hb (Nat.le_refl _)
  clear hb
  obtain ⟨cX1_0, cX1_1, cX1_2, cX1_3, _, _, _, _⟩ := id X1
  go_wp2_with fail
  (with_reducible refine (Valid_v _ false v1 hqa hE).mono ?_)
  rintro e v2 ⟨rfl, hb⟩
  have hqa := hqa.mono hb
  have hqb := hqb.mono hb
  have X1 := X1.mono hb
  have X2 := X2.mono hb
  have X3 := X3.mono hb
  have hE := hE.mono hb
  have hbw := Below.step hbw hb (Nat.le_refl _)
  clear hb
  clear cX1_0 cX1_1 cX1_2 cX1_3
  obtain ⟨cX3_0, cX3_1, cX3_2, cX3_3, _, _, _, _⟩ := id X3
  go_wp2
  refine bodyPost_ret (v := .tuple #[.agg #[.bool false, .slice none 0 0, .bool false, .slice none 0 0], .int .i64 1]) (by simp [results, Tryz.results33, go_sem, cX3_0, cX3_1, cX3_2, cX3_3]) rfl ⟨rfl, Below.put4 hbw (by omega) (.bool false) (.slice none 0 0) (.bool false) (.slice none 0 0)⟩

set_option maxRecDepth 100000 in
set_option maxHeartbeats 1600000 in
theorem Mul_q_i2 (va vb : Value) (w : World) (hqa : VQ w va true) (hqb : VQ w vb false) (hE : Env w) :
    Calls Tryz.prog 33 #[va, vb] w fun e w' => NoQ 1 e ∧ Below w.heap.size w w' := by
  have hE0 := hE
  have hbw := Below.refl w.heap.size w
  obtain ⟨ng1, ao1, n1, cap1, ng2, ao2, n2, cap2, rfl⟩ := hqa.parts
  obtain ⟨ng3, ao3, n3, cap3, ng4, ao4, n4, cap4, rfl⟩ := hqb.parts
  go_enter Tryz.func33, Tryz.ntmps33
  go_upto_region 1 with fail
  obtain ⟨wx, hwx, hszx, X1, X2, X3, hb⟩ := boxes_444 w (.bool ng1) (.slice ao1 n1 cap1) (.bool ng2) (.slice ao2 n2 cap2) 29 (.bool ng3) (.slice ao3 n3 cap3) (.bool ng4) (.slice ao4 n4 cap4) 29 (.bool false) (.slice none 0 0) (.bool false) (.slice none 0 0) 29
  rw [← hwx]
  clear hwx
  obtain ⟨v1, rfl⟩ : ∃ v1 : World, v1 = wx := ⟨_, rfl⟩
  have hqa := hqa.mono hb
  have hqb := hqb.mono hb
  have hE := hE.mono hb
  have hbw := Below.step hbw hb (Nat.le_refl _)
  clear hb
  obtain ⟨cX1_0, cX1_1, cX1_2, cX1_3, _, _, _, _⟩ := id X1
  go_wp2_with fail
  (with_reducible refine (Valid_v _ true v1 hqa hE).mono ?_)
  rintro e v2 ⟨rfl, hb⟩
  have hqa := hqa.mono hb
  have hqb := hqb.mono hb
  have X1 := X1.mono hb
  have X2 := X2.mono hb
  have X3 := X3.mono hb
  have hE := hE.mono hb
  have hbw := Below.step hbw hb (Nat.le_refl _)
  clear hb
  clear cX1_0 cX1_1 cX1_2 cX1_3
  obtain ⟨cX2_0, cX2_1, cX2_2, cX2_3, _, _, _, _⟩ := id X2
  go_wp2_with fail
  (with_reducible refine (Valid_v _ false v2 hqb hE).mono ?_)
  rintro e v3 ⟨rfl, hb⟩
  have hqa := hqa.mono hb
  have hqb := hqb.mono hb
  have X1 := X1.mono hb
  have X2 := X2.mono hb
  have X3 := X3.mono hb
  have hE := hE.mono hb
  have hbw := Below.step hbw hb (Nat.le_refl _)
  clear hb
  clear cX2_0 cX2_1 cX2_2 cX2_3
  obtain ⟨cX3_0, cX3_1, cX3_2, cX3_3, _, _, _, _⟩ := id X3
  go_wp2
  refine bodyPost_ret (v := .tuple #[.agg #[.bool false, .slice none 0 0, .bool false, .slice none 0 0], .int .i64 1]) (by simp [results, Tryz.results33, go_sem, cX3_0, cX3_1, cX3_2, cX3_3]) rfl ⟨rfl, Below.put4 hbw (by omega) (.bool false) (.slice none 0 0) (.bool false) (.slice none 0 0)⟩

theorem Mul_q_inv (va vb : Value) (ba bb : Bool) (w : World) (ha : VQ w va ba) (hb : VQ w vb bb) (hn : Hid (¬ (ba = true ∧ bb = true))) (hE : Env w) :
    Calls Tryz.prog 33 #[va, vb] w fun e w' => NoQ 1 e ∧ Below w.heap.size w w' := by
  cases ba
  · exact Mul_q_i1 va vb bb w ha hb hE
  · cases bb
    · exact Mul_q_i2 va vb w ha hb hE
    · exact absurd ⟨rfl, rfl⟩ hn.out

set_option maxRecDepth 100000 in
set_option maxHeartbeats 1600000 in
theorem Mul_q (va vb : Value) (a b : Rat) (w : World) (ha : RatV w va a) (hb : RatV w vb b) (hs : Hid (MulS a b)) (hE : Env w) :
    Calls Tryz.prog 33 #[va, vb] w fun e w' => GotQ w' (a * b) e ∧ Below w.heap.size w w' := by
  have HQ : Hid (Rq.Sm (a.num * b.num) ∧ Rq.Sm ((a.den : Int) * (b.den : Int)) ∧ (a.den : Int) * (b.den : Int) ≠ 0) := Lib.hid ⟨hs.out.1, hs.out.2, dd_ne a b⟩
  have hE0 := hE
  have hbw := Below.refl w.heap.size w
  obtain ⟨ng1, ao1, n1, cap1, ng2, ao2, n2, cap2, rfl, h1, h2⟩ := ha
  have HV1 := Lib.hid h1
  have HV2 := Lib.hid h2
  clear h1 h2
  obtain ⟨ng3, ao3, n3, cap3, ng4, ao4, n4, cap4, rfl, h1, h2⟩ := hb
  have HV3 := Lib.hid h1
  have HV4 := Lib.hid h2
  clear h1 h2
  go_enter Tryz.func33, Tryz.ntmps33
  go_upto_region 1 with fail
  obtain ⟨wx, hwx, hszx, X1, X2, X3, hb⟩ := boxes_444 w (.bool ng1) (.slice ao1 n1 cap1) (.bool ng2) (.slice ao2 n2 cap2) 29 (.bool ng3) (.slice ao3 n3 cap3) (.bool ng4) (.slice ao4 n4 cap4) 29 (.bool false) (.slice none 0 0) (.bool false) (.slice none 0 0) 29
  rw [← hwx]
  clear hwx
  obtain ⟨v1, rfl⟩ : ∃ v1 : World, v1 = wx := ⟨_, rfl⟩
  have HV1 := Lib.hid (HV1.out.mono hb)
  have HV2 := Lib.hid (HV2.out.mono hb)
  have HV3 := Lib.hid (HV3.out.mono hb)
  have HV4 := Lib.hid (HV4.out.mono hb)
  have hE := hE.mono hb
  have hbw := Below.step hbw hb (Nat.le_refl _)
  clear hb
  obtain ⟨cX1_0, cX1_1, cX1_2, cX1_3, _, _, _, _⟩ := id X1
  go_wp2_with fail
  (with_reducible refine (Valid_true _ a v1 (RatV.mk' HV1 HV2) hE).mono ?_)
  rintro e v2 ⟨rfl, hb⟩
  have HV1 := Lib.hid (HV1.out.mono hb)
  have HV2 := Lib.hid (HV2.out.mono hb)
  have HV3 := Lib.hid (HV3.out.mono hb)
  have HV4 := Lib.hid (HV4.out.mono hb)
  have X1 := X1.mono hb
  have X2 := X2.mono hb
  have X3 := X3.mono hb
  have hE := hE.mono hb
  have hbw := Below.step hbw hb (Nat.le_refl _)
  clear hb
  clear cX1_0 cX1_1 cX1_2 cX1_3
  obtain ⟨cX2_0, cX2_1, cX2_2, cX2_3, _, _, _, _⟩ := id X2
  go_wp2_with fail
  (with_reducible refine (Valid_true _ b v2 (RatV.mk' HV3 HV4) hE).mono ?_)
  rintro e v3 ⟨rfl, hb⟩
  have HV1 := Lib.hid (HV1.out.mono hb)
  have HV2 := Lib.hid (HV2.out.mono hb)
  have HV3 := Lib.hid (HV3.out.mono hb)
  have HV4 := Lib.hid (HV4.out.mono hb)
  have X1 := X1.mono hb
  have X2 := X2.mono hb
  have X3 := X3.mono hb
  have hE := hE.mono hb
  have hbw := Below.step hbw hb (Nat.le_refl _)
  clear hb
  clear cX2_0 cX2_1 cX2_2 cX2_3
  obtain ⟨cX1_0, cX1_1, cX1_2, cX1_3, _, _, _, _⟩ := id X1
  obtain ⟨cX2_0, cX2_1, cX2_2, cX2_3, _, _, _, _⟩ := id X2
  go_wp2_with fail
  (with_reducible refine (quotient_3 _ _ _ _ a.num b.num (a.den : Int) (b.den : Int) v3 HV1.out HV3.out HV2.out HV4.out HQ hE).mono ?_)
  rintro e v4 ⟨⟨ng5, ao5, n5, cap5, ng6, ao6, n6, cap6, rfl, HV5, HV6⟩, hb⟩
  have HV1 := Lib.hid (HV1.out.mono hb)
  have HV2 := Lib.hid (HV2.out.mono hb)
  have HV3 := Lib.hid (HV3.out.mono hb)
  have HV4 := Lib.hid (HV4.out.mono hb)
  have X1 := X1.mono hb
  have X2 := X2.mono hb
  have X3 := X3.mono hb
  have hE := hE.mono hb
  have hbw := Below.step hbw hb (Nat.le_refl _)
  clear hb
  clear cX1_0 cX1_1 cX1_2 cX1_3 cX2_0 cX2_1 cX2_2 cX2_3
  rw [Rq.mul_eq] at HV5 HV6
  obtain ⟨cX3_0, cX3_1, cX3_2, cX3_3, _, _, _, _⟩ := id X3
  go_wp2
  refine bodyPost_ret (v := .tuple #[.agg #[.bool ng5, .slice ao5 n5 cap5, .bool ng6, .slice ao6 n6 cap6], .int .i64 0]) (by simp [results, Tryz.results33, go_sem, cX3_0, cX3_1, cX3_2, cX3_3]) rfl ⟨⟨ng5, ao5, n5, cap5, ng6, ao6, n6, cap6, rfl, Lib.hid (HV5.out.put4B X3 (.bool ng5) (.slice ao5 n5 cap5) (.bool ng6) (.slice ao6 n6 cap6)), Lib.hid (HV6.out.put4B X3 (.bool ng5) (.slice ao5 n5 cap5) (.bool ng6) (.slice ao6 n6 cap6))⟩, Below.put4 hbw (by omega) (.bool ng5) (.slice ao5 n5 cap5) (.bool ng6) (.slice ao6 n6 cap6)⟩

set_option maxRecDepth 100000 in
set_option maxHeartbeats 1600000 in
theorem Mul_qbig (va vb : Value) (a b : Rat) (w : World) (ha : RatV w va a) (hb : RatV w vb b) (hs : Hid (¬ MulS a b)) (hE : Env w) :
    Calls Tryz.prog 33 #[va, vb] w fun e w' => NoQ 3 e ∧ Below w.heap.size w w' := by
  have HQ : Hid (¬ (Rq.Sm (a.num * b.num) ∧ Rq.Sm ((a.den : Int) * (b.den : Int)))) := Lib.hid hs.out
  have hE0 := hE
  have hbw := Below.refl w.heap.size w
  obtain ⟨ng1, ao1, n1, cap1, ng2, ao2, n2, cap2, rfl, h1, h2⟩ := ha
  have HV1 := Lib.hid h1
  have HV2 := Lib.hid h2
  clear h1 h2
  obtain ⟨ng3, ao3, n3, cap3, ng4, ao4, n4, cap4, rfl, h1, h2⟩ := hb
  have HV3 := Lib.hid h1
  have HV4 := Lib.hid h2
  clear h1 h2
  go_enter Tryz.func33, Tryz.ntmps33
  go_upto_region 1 with fail
  obtain ⟨wx, hwx, hszx, X1, X2, X3, hb⟩ := boxes_444 w (.bool ng1) (.slice ao1 n1 cap1) (.bool ng2) (.slice ao2 n2 cap2) 29 (.bool ng3) (.slice ao3 n3 cap3) (.bool ng4) (.slice ao4 n4 cap4) 29 (.bool false) (.slice none 0 0) (.bool false) (.slice none 0 0) 29
  rw [← hwx]
  clear hwx
  obtain ⟨v1, rfl⟩ : ∃ v1 : World, v1 = wx := ⟨_, rfl⟩
  have HV1 := Lib.hid (HV1.out.mono hb)
  have HV2 := Lib.hid (HV2.out.mono hb)
  have HV3 := Lib.hid (HV3.out.mono hb)
  have HV4 := Lib.hid (HV4.out.mono hb)
  have hE := hE.mono hb
  have hbw := Below.step hbw hb (Nat.le_refl _)
  clear hb
  obtain ⟨cX1_0, cX1_1, cX1_2, cX1_3, _, _, _, _⟩ := id X1
  go_wp2_with fail
  (with_reducible refine (Valid_true _ a v1 (RatV.mk' HV1 HV2) hE).mono ?_)
  rintro e v2 ⟨rfl, hb⟩
  have HV1 := Lib.hid (HV1.out.mono hb)
  have HV2 := Lib.hid (HV2.out.mono hb)
  have HV3 := Lib.hid (HV3.out.mono hb)
  have HV4 := Lib.hid (HV4.out.mono hb)
  have X1 := X1.mono hb
  have X2 := X2.mono hb
  have X3 := X3.mono hb
  have hE := hE.mono hb
  have hbw := Below.step hbw hb (Nat.le_refl _)
  clear hb
  clear cX1_0 cX1_1 cX1_2 cX1_3
  obtain ⟨cX2_0, cX2_1, cX2_2, cX2_3, _, _, _, _⟩ := id X2
  go_wp2_with fail
  (with_reducible refine (Valid_true _ b v2 (RatV.mk' HV3 HV4) hE).mono ?_)
  rintro e v3 ⟨rfl, hb⟩
  have HV1 := Lib.hid (HV1.out.mono hb)
  have HV2 := Lib.hid (HV2.out.mono hb)
  have HV3 := Lib.hid (HV3.out.mono hb)
  have HV4 := Lib.hid (HV4.out.mono hb)
  have X1 := X1.mono hb
  have X2 := X2.mono hb
  have X3 := X3.mono hb
  have hE := hE.mono hb
  have hbw := Below.step hbw hb (Nat.le_refl _)
  clear hb
  clear cX2_0 cX2_1 cX2_2 cX2_3
  obtain ⟨cX1_0, cX1_1, cX1_2, cX1_3, _, _, _, _⟩ := id X1
  obtain ⟨cX2_0, cX2_1, cX2_2, cX2_3, _, _, _, _⟩ := id X2
  go_wp2_with fail
  (with_reducible refine (quotient_big _ _ _ _ a.num b.num (a.den : Int) (b.den : Int) v3 HV1.out HV3.out HV2.out HV4.out HQ hE).mono ?_)
  rintro e v4 ⟨rfl, hb⟩
  have HV1 := Lib.hid (HV1.out.mono hb)
  have HV2 := Lib.hid (HV2.out.mono hb)
  have HV3 := Lib.hid (HV3.out.mono hb)
  have HV4 := Lib.hid (HV4.out.mono hb)
  have X1 := X1.mono hb
  have X2 := X2.mono hb
  have X3 := X3.mono hb
  have hE := hE.mono hb
  have hbw := Below.step hbw hb (Nat.le_refl _)
  clear hb
  clear cX1_0 cX1_1 cX1_2 cX1_3 cX2_0 cX2_1 cX2_2 cX2_3
  obtain ⟨cX3_0, cX3_1, cX3_2, cX3_3, _, _, _, _⟩ := id X3
  go_wp2
  refine bodyPost_ret (v := .tuple #[.agg #[.bool false, .slice none 0 0, .bool false, .slice none 0 0], .int .i64 3]) (by simp [results, Tryz.results33, go_sem, cX3_0, cX3_1, cX3_2, cX3_3]) rfl ⟨rfl, Below.put4 hbw (by omega) (.bool false) (.slice none 0 0) (.bool false) (.slice none 0 0)⟩

set_option maxRecDepth 100000 in
set_option maxHeartbeats 1600000 in
theorem Div_q_i1 (va vb : Value) (bb : Bool) (w : World) (hqa : VQ w va false) (hqb : VQ w vb bb) (hE : Env w) :
    Calls Tryz.prog 34 #[va, vb] w fun e w' => NoQ 1 e ∧ Below w.heap.size w w' := by
  have hE0 := hE
  have hbw := Below.refl w.heap.size w
  obtain ⟨ng1, ao1, n1, cap1, ng2, ao2, n2, cap2, rfl⟩ := hqa.parts
  obtain ⟨ng3, ao3, n3, cap3, ng4, ao4, n4, cap4, rfl⟩ := hqb.parts
  go_enter Tryz.func34, Tryz.ntmps34
  go_upto_region 1 with fail
  obtain ⟨wx, hwx, hszx, X1, X2, X3, hb⟩ := boxes_444 w (.bool ng1) (.slice ao1 n1 cap1) (.bool ng2) (.slice ao2 n2 cap2) 29 (.bool ng3) (.slice ao3 n3 cap3) (.bool ng4) (.slice ao4 n4 cap4) 29 (.bool false) (.slice none 0 0) (.bool false) (.slice none 0 0) 29
  rw [← hwx]
  clear hwx
  obtain ⟨v1, rfl⟩ : ∃ v1 : World, v1 = wx := ⟨_, rfl⟩
  have hqa := hqa.mono hb
  have hqb := hqb.mono hb
  have hE := hE.mono hb
  have hbw := Below.step hbw hb (Nat.le_refl _)
  clear hb
  obtain ⟨cX1_0, cX1_1, cX1_2, cX1_3, _, _, _, _⟩ := id X1
  go_wp2_with fail
  (with_reducible refine (Valid_v _ false v1 hqa hE).mono ?_)
  rintro e v2 ⟨rfl, hb⟩
  have hqa := hqa.mono hb
  have hqb := hqb.mono hb
  have X1 := X1.mono hb
  have X2 := X2.mono hb
  have X3 := X3.mono hb
  have hE := hE.mono hb
  have hbw := Below.step hbw hb (Nat.le_refl _)
  clear hb
  clear cX1_0 cX1_1 cX1_2 cX1_3
  obtain ⟨cX3_0, cX3_1, cX3_2, cX3_3, _, _, _, _⟩ := id X3
  go_wp2
  refine bodyPost_ret (v := .tuple #[.agg #[.bool false, .slice none 0 0, .bool false, .slice none 0 0], .int .i64 1]) (by simp [results, Tryz.results34, go_sem, cX3_0, cX3_1, cX3_2, cX3_3]) rfl ⟨rfl, Below.put4 hbw (by omega) (.bool false) (.slice none 0 0) (.bool false) (.slice none 0 0)⟩

set_option maxRecDepth 100000 in
set_option maxHeartbeats 1600000 in
theorem Div_q_i2 (va vb : Value) (w : World) (hqa : VQ w va true) (hqb : VQ w vb false) (hE : Env w) :
    Calls Tryz.prog 34 #[va, vb] w fun e w' => NoQ 1 e ∧ Below w.heap.size w w' := by
  have hE0 := hE
  have hbw := Below.refl w.heap.size w
  obtain ⟨ng1, ao1, n1, cap1, ng2, ao2, n2, cap2, rfl⟩ := hqa.parts
  obtain ⟨ng3, ao3, n3, cap3, ng4, ao4, n4, cap4, rfl⟩ := hqb.parts
  go_enter Tryz.func34, Tryz.ntmps34
  go_upto_region 1 with fail
  obtain ⟨wx, hwx, hszx, X1, X2, X3, hb⟩ := boxes_444 w (.bool ng1) (.slice ao1 n1 cap1) (.bool ng2) (.slice ao2 n2 cap2) 29 (.bool ng3) (.slice ao3 n3 cap3) (.bool ng4) (.slice ao4 n4 cap4) 29 (.bool false) (.slice none 0 0) (.bool false) (.slice none 0 0) 29
  rw [← hwx]
  clear hwx
  obtain ⟨v1, rfl⟩ : ∃ v1 : World, v1 = wx := ⟨_, rfl⟩
  have hqa := hqa.mono hb
  have hqb := hqb.mono hb
  have hE := hE.mono hb
  have hbw := Below.step hbw hb (Nat.le_refl _)
  clear hb
  obtain ⟨cX1_0, cX1_1, cX1_2, cX1_3, _, _, _, _⟩ := id X1
  go_wp2_with fail
  (with_reducible refine (Valid_v _ true v1 hqa hE).mono ?_)
  rintro e v2 ⟨rfl, hb⟩
  have hqa := hqa.mono hb
  have hqb := hqb.mono hb
  have X1 := X1.mono hb
  have X2 := X2.mono hb
  have X3 := X3.mono hb
  have hE := hE.mono hb
  have hbw := Below.step hbw hb (Nat.le_refl _)
  clear hb
  clear cX1_0 cX1_1 cX1_2 cX1_3
  obtain ⟨cX2_0, cX2_1, cX2_2, cX2_3, _, _, _, _⟩ := id X2
  go_wp2_with fail
  (with_reducible refine (Valid_v _ false v2 hqb hE).mono ?_)
  rintro e v3 ⟨rfl, hb⟩
  have hqa := hqa.mono hb
  have hqb := hqb.mono hb
  have X1 := X1.mono hb
  have X2 := X2.mono hb
  have X3 := X3.mono hb
  have hE := hE.mono hb
  have hbw := Below.step hbw hb (Nat.le_refl _)
  clear hb
  clear cX2_0 cX2_1 cX2_2 cX2_3
  obtain ⟨cX3_0, cX3_1, cX3_2, cX3_3, _, _, _, _⟩ := id X3
  go_wp2
  refine bodyPost_ret (v := .tuple #[.agg #[.bool false, .slice none 0 0, .bool false, .slice none 0 0], .int .i64 1]) (by simp [results, Tryz.results34, go_sem, cX3_0, cX3_1, cX3_2, cX3_3]) rfl ⟨rfl, Below.put4 hbw (by omega) (.bool false) (.slice none 0 0) (.bool false) (.slice none 0 0)⟩

theorem Div_q_inv (va vb : Value) (ba bb : Bool) (w : World) (ha : VQ w va ba) (hb : VQ w vb bb) (hn : Hid (¬ (ba = true ∧ bb = true))) (hE : Env w) :
    Calls Tryz.prog 34 #[va, vb] w fun e w' => NoQ 1 e ∧ Below w.heap.size w w' := by
  cases ba
  · exact Div_q_i1 va vb bb w ha hb hE
  · cases bb
    · exact Div_q_i2 va vb w ha hb hE
    · exact absurd ⟨rfl, rfl⟩ hn.out

set_option maxRecDepth 100000 in
set_option maxHeartbeats 1600000 in
theorem Div_qn (va vb : Value) (a b : Rat) (w : World) (ha : RatV w va a) (hb : RatV w vb b) (hs : Hid (DivS a b ∧ b.num < 0)) (hE : Env w) :
    Calls Tryz.prog 34 #[va, vb] w fun e w' => GotQ w' (a / b) e ∧ Below w.heap.size w w' := by
  have HS : Hid (sgnI b.num = -1) := Lib.hid (by have := hs.out; unfold sgnI; split <;> (try split) <;> omega)
  have HQ : Hid (Rq.Sm (a.num * (b.den : Int)) ∧ Rq.Sm ((a.den : Int) * b.num) ∧ (a.den : Int) * b.num ≠ 0) := Lib.hid ⟨hs.out.1.1, hs.out.1.2, Int.mul_ne_zero (Rq.den_ne a) (by have := hs.out.2; omega)⟩
  have hE0 := hE
  have hbw := Below.refl w.heap.size w
  obtain ⟨ng1, ao1, n1, cap1, ng2, ao2, n2, cap2, rfl, h1, h2⟩ := ha
  have HV1 := Lib.hid h1
  have HV2 := Lib.hid h2
  clear h1 h2
  obtain ⟨ng3, ao3, n3, cap3, ng4, ao4, n4, cap4, rfl, h1, h2⟩ := hb
  have HV3 := Lib.hid h1
  have HV4 := Lib.hid h2
  clear h1 h2
  go_enter Tryz.func34, Tryz.ntmps34
  go_upto_region 1 with fail
  obtain ⟨wx, hwx, hszx, X1, X2, X3, hb⟩ := boxes_444 w (.bool ng1) (.slice ao1 n1 cap1) (.bool ng2) (.slice ao2 n2 cap2) 29 (.bool ng3) (.slice ao3 n3 cap3) (.bool ng4) (.slice ao4 n4 cap4) 29 (.bool false) (.slice none 0 0) (.bool false) (.slice none 0 0) 29
  rw [← hwx]
  clear hwx
  obtain ⟨v1, rfl⟩ : ∃ v1 : World, v1 = wx := ⟨_, rfl⟩
  have HV1 := Lib.hid (HV1.out.mono hb)
  have HV2 := Lib.hid (HV2.out.mono hb)
  have HV3 := Lib.hid (HV3.out.mono hb)
  have HV4 := Lib.hid (HV4.out.mono hb)
  have hE := hE.mono hb
  have hbw := Below.step hbw hb (Nat.le_refl _)
  clear hb
  obtain ⟨cX1_0, cX1_1, cX1_2, cX1_3, _, _, _, _⟩ := id X1
  go_wp2_with fail
  (with_reducible refine (Valid_true _ a v1 (RatV.mk' HV1 HV2) hE).mono ?_)
  rintro e v2 ⟨rfl, hb⟩
  have HV1 := Lib.hid (HV1.out.mono hb)
  have HV2 := Lib.hid (HV2.out.mono hb)
  have HV3 := Lib.hid (HV3.out.mono hb)
  have HV4 := Lib.hid (HV4.out.mono hb)
  have X1 := X1.mono hb
  have X2 := X2.mono hb
  have X3 := X3.mono hb
  have hE := hE.mono hb
  have hbw := Below.step hbw hb (Nat.le_refl _)
  clear hb
  clear cX1_0 cX1_1 cX1_2 cX1_3
  obtain ⟨cX2_0, cX2_1, cX2_2, cX2_3, _, _, _, _⟩ := id X2
  go_wp2_with fail
  (with_reducible refine (Valid_true _ b v2 (RatV.mk' HV3 HV4) hE).mono ?_)
  rintro e v3 ⟨rfl, hb⟩
  have HV1 := Lib.hid (HV1.out.mono hb)
  have HV2 := Lib.hid (HV2.out.mono hb)
  have HV3 := Lib.hid (HV3.out.mono hb)
  have HV4 := Lib.hid (HV4.out.mono hb)
  have X1 := X1.mono hb
  have X2 := X2.mono hb
  have X3 := X3.mono hb
  have hE := hE.mono hb
  have hbw := Below.step hbw hb (Nat.le_refl _)
  clear hb
  clear cX2_0 cX2_1 cX2_2 cX2_3
  obtain ⟨cX2_0, cX2_1, cX2_2, cX2_3, _, _, _, _⟩ := id X2
  go_wp2_with fail
  (with_reducible refine (Sign_eq _ b.num (-1) v3 HS HV3.out hE).mono ?_)
  rintro e v4 ⟨rfl, hb⟩
  have HV1 := Lib.hid (HV1.out.mono hb)
  have HV2 := Lib.hid (HV2.out.mono hb)
  have HV3 := Lib.hid (HV3.out.mono hb)
  have HV4 := Lib.hid (HV4.out.mono hb)
  have X1 := X1.mono hb
  have X2 := X2.mono hb
  have X3 := X3.mono hb
  have hE := hE.mono hb
  have hbw := Below.step hbw hb (Nat.le_refl _)
  clear hb
  clear cX2_0 cX2_1 cX2_2 cX2_3
  obtain ⟨cX1_0, cX1_1, cX1_2, cX1_3, _, _, _, _⟩ := id X1
  obtain ⟨cX2_0, cX2_1, cX2_2, cX2_3, _, _, _, _⟩ := id X2
  go_wp2_with fail
  (with_reducible refine (quotient_3 _ _ _ _ a.num (b.den : Int) (a.den : Int) b.num v4 HV1.out HV4.out HV2.out HV3.out HQ hE).mono ?_)
  rintro e v5 ⟨⟨ng5, ao5, n5, cap5, ng6, ao6, n6, cap6, rfl, HV5, HV6⟩, hb⟩
  have HV1 := Lib.hid (HV1.out.mono hb)
  have HV2 := Lib.hid (HV2.out.mono hb)
  have HV3 := Lib.hid (HV3.out.mono hb)
  have HV4 := Lib.hid (HV4.out.mono hb)
  have X1 := X1.mono hb
  have X2 := X2.mono hb
  have X3 := X3.mono hb
  have hE := hE.mono hb
  have hbw := Below.step hbw hb (Nat.le_refl _)
  clear hb
  clear cX1_0 cX1_1 cX1_2 cX1_3 cX2_0 cX2_1 cX2_2 cX2_3
  rw [Rq.div_eq] at HV5 HV6
  obtain ⟨cX3_0, cX3_1, cX3_2, cX3_3, _, _, _, _⟩ := id X3
  go_wp2
  refine bodyPost_ret (v := .tuple #[.agg #[.bool ng5, .slice ao5 n5 cap5, .bool ng6, .slice ao6 n6 cap6], .int .i64 0]) (by simp [results, Tryz.results34, go_sem, cX3_0, cX3_1, cX3_2, cX3_3]) rfl ⟨⟨ng5, ao5, n5, cap5, ng6, ao6, n6, cap6, rfl, Lib.hid (HV5.out.put4B X3 (.bool ng5) (.slice ao5 n5 cap5) (.bool ng6) (.slice ao6 n6 cap6)), Lib.hid (HV6.out.put4B X3 (.bool ng5) (.slice ao5 n5 cap5) (.bool ng6) (.slice ao6 n6 cap6))⟩, Below.put4 hbw (by omega) (.bool ng5) (.slice ao5 n5 cap5) (.bool ng6) (.slice ao6 n6 cap6)⟩

set_option maxRecDepth 100000 in
set_option maxHeartbeats 1600000 in
theorem Div_qp (va vb : Value) (a b : Rat) (w : World) (ha : RatV w va a) (hb : RatV w vb b) (hs : Hid (DivS a b ∧ 0 < b.num)) (hE : Env w) :
    Calls Tryz.prog 34 #[va, vb] w fun e w' => GotQ w' (a / b) e ∧ Below w.heap.size w w' := by
  have HS : Hid (sgnI b.num = 1) := Lib.hid (by have := hs.out; unfold sgnI; split <;> (try split) <;> omega)
  have HQ : Hid (Rq.Sm (a.num * (b.den : Int)) ∧ Rq.Sm ((a.den : Int) * b.num) ∧ (a.den : Int) * b.num ≠ 0) := Lib.hid ⟨hs.out.1.1, hs.out.1.2, Int.mul_ne_zero (Rq.den_ne a) (by have := hs.out.2; omega)⟩
  have hE0 := hE
  have hbw := Below.refl w.heap.size w
  obtain ⟨ng1, ao1, n1, cap1, ng2, ao2, n2, cap2, rfl, h1, h2⟩ := ha
  have HV1 := Lib.hid h1
  have HV2 := Lib.hid h2
  clear h1 h2
  obtain ⟨ng3, ao3, n3, cap3, ng4, ao4, n4, cap4, rfl, h1, h2⟩ := hb
  have HV3 := Lib.hid h1
  have HV4 := Lib.hid h2
  clear h1 h2
  go_enter Tryz.func34, Tryz.ntmps34
  go_upto_region 1 with fail
  obtain ⟨wx, hwx, hszx, X1, X2, X3, hb⟩ := boxes_444 w (.bool ng1) (.slice ao1 n1 cap1) (.bool ng2) (.slice ao2 n2 cap2) 29 (.bool ng3) (.slice ao3 n3 cap3) (.bool ng4) (.slice ao4 n4 cap4) 29 (.bool false) (.slice none 0 0) (.bool false) (.slice none 0 0) 29
  rw [← hwx]
  clear hwx
  obtain ⟨v1, rfl⟩ : ∃ v1 : World, v1 = wx := ⟨_, rfl⟩
  have HV1 := Lib.hid (HV1.out.mono hb)
  have HV2 := Lib.hid (HV2.out.mono hb)
  have HV3 := Lib.hid (HV3.out.mono hb)
  have HV4 := Lib.hid (HV4.out.mono hb)
  have hE := hE.mono hb
  have hbw := Below.step hbw hb (Nat.le_refl _)
  clear hb
  obtain ⟨cX1_0, cX1_1, cX1_2, cX1_3, _, _, _, _⟩ := id X1
  go_wp2_with fail
  (with_reducible refine (Valid_true _ a v1 (RatV.mk' HV1 HV2) hE).mono ?_)
  rintro e v2 ⟨rfl, hb⟩
  have HV1 := Lib.hid (HV1.out.mono hb)
  have HV2 := Lib.hid (HV2.out.mono hb)
  have HV3 := Lib.hid (HV3.out.mono hb)
  have HV4 := Lib.hid (HV4.out.mono hb)
  have X1 := X1.mono hb
  have X2 := X2.mono hb
  have X3 := X3.mono hb
  have hE := hE.mono hb
  have hbw := Below.step hbw hb (Nat.le_refl _)
  clear hb
  clear cX1_0 cX1_1 cX1_2 cX1_3
  obtain ⟨cX2_0, cX2_1, cX2_2, cX2_3, _, _, _, _⟩ := id X2
  go_wp2_with fail
  (with_reducible refine (Valid_true _ b v2 (RatV.mk' HV3 HV4) hE).mono ?_)
  rintro e v3 ⟨rfl, hb⟩
  have HV1 := Lib.hid (HV1.out.mono hb)
  have HV2 := Lib.hid (HV2.out.mono hb)
  have HV3 := Lib.hid (HV3.out.mono hb)
  have HV4 := Lib.hid (HV4.out.mono hb)
  have X1 := X1.mono hb
  have X2 := X2.mono hb
  have X3 := X3.mono hb
  have hE := hE.mono hb
  have hbw := Below.step hbw hb (Nat.le_refl _)
  clear hb
  clear cX2_0 cX2_1 cX2_2 cX2_3
  obtain ⟨cX2_0, cX2_1, cX2_2, cX2_3, _, _, _, _⟩ := id X2
  go_wp2_with fail
  (with_reducible refine (Sign_eq _ b.num (1) v3 HS HV3.out hE).mono ?_)
  rintro e v4 ⟨rfl, hb⟩
  have HV1 := Lib.hid (HV1.out.mono hb)
  have HV2 := Lib.hid (HV2.out.mono hb)
  have HV3 := Lib.hid (HV3.out.mono hb)
  have HV4 := Lib.hid (HV4.out.mono hb)
  have X1 := X1.mono hb
  have X2 := X2.mono hb
  have X3 := X3.mono hb
  have hE := hE.mono hb
  have hbw := Below.step hbw hb (Nat.le_refl _)
  clear hb
  clear cX2_0 cX2_1 cX2_2 cX2_3
  obtain ⟨cX1_0, cX1_1, cX1_2, cX1_3, _, _, _, _⟩ := id X1
  obtain ⟨cX2_0, cX2_1, cX2_2, cX2_3, _, _, _, _⟩ := id X2
  go_wp2_with fail
  (with_reducible refine (quotient_3 _ _ _ _ a.num (b.den : Int) (a.den : Int) b.num v4 HV1.out HV4.out HV2.out HV3.out HQ hE).mono ?_)
  rintro e v5 ⟨⟨ng5, ao5, n5, cap5, ng6, ao6, n6, cap6, rfl, HV5, HV6⟩, hb⟩
  have HV1 := Lib.hid (HV1.out.mono hb)
  have HV2 := Lib.hid (HV2.out.mono hb)
  have HV3 := Lib.hid (HV3.out.mono hb)
  have HV4 := Lib.hid (HV4.out.mono hb)
  have X1 := X1.mono hb
  have X2 := X2.mono hb
  have X3 := X3.mono hb
  have hE := hE.mono hb
  have hbw := Below.step hbw hb (Nat.le_refl _)
  clear hb
  clear cX1_0 cX1_1 cX1_2 cX1_3 cX2_0 cX2_1 cX2_2 cX2_3
  rw [Rq.div_eq] at HV5 HV6
  obtain ⟨cX3_0, cX3_1, cX3_2, cX3_3, _, _, _, _⟩ := id X3
  go_wp2
  refine bodyPost_ret (v := .tuple #[.agg #[.bool ng5, .slice ao5 n5 cap5, .bool ng6, .slice ao6 n6 cap6], .int .i64 0]) (by simp [results, Tryz.results34, go_sem, cX3_0, cX3_1, cX3_2, cX3_3]) rfl ⟨⟨ng5, ao5, n5, cap5, ng6, ao6, n6, cap6, rfl, Lib.hid (HV5.out.put4B X3 (.bool ng5) (.slice ao5 n5 cap5) (.bool ng6) (.slice ao6 n6 cap6)), Lib.hid (HV6.out.put4B X3 (.bool ng5) (.slice ao5 n5 cap5) (.bool ng6) (.slice ao6 n6 cap6))⟩, Below.put4 hbw (by omega) (.bool ng5) (.slice ao5 n5 cap5) (.bool ng6) (.slice ao6 n6 cap6)⟩

set_option maxRecDepth 100000 in
set_option maxHeartbeats 1600000 in
theorem Div_qbign (va vb : Value) (a b : Rat) (w : World) (ha : RatV w va a) (hb : RatV w vb b) (hs : Hid (¬ DivS a b ∧ b.num < 0)) (hE : Env w) :
    Calls Tryz.prog 34 #[va, vb] w fun e w' => NoQ 3 e ∧ Below w.heap.size w w' := by
  have HS : Hid (sgnI b.num = -1) := Lib.hid (by have := hs.out; unfold sgnI; split <;> (try split) <;> omega)
  have HQ : Hid (¬ (Rq.Sm (a.num * (b.den : Int)) ∧ Rq.Sm ((a.den : Int) * b.num))) := Lib.hid hs.out.1
  have hE0 := hE
  have hbw := Below.refl w.heap.size w
  obtain ⟨ng1, ao1, n1, cap1, ng2, ao2, n2, cap2, rfl, h1, h2⟩ := ha
  have HV1 := Lib.hid h1
  have HV2 := Lib.hid h2
  clear h1 h2
  obtain ⟨ng3, ao3, n3, cap3, ng4, ao4, n4, cap4, rfl, h1, h2⟩ := hb
  have HV3 := Lib.hid h1
  have HV4 := Lib.hid h2
  clear h1 h2
  go_enter Tryz.func34, Tryz.ntmps34
  go_upto_region 1 with fail
  obtain ⟨wx, hwx, hszx, X1, X2, X3, hb⟩ := boxes_444 w (.bool ng1) (.slice ao1 n1 cap1) (.bool ng2) (.slice ao2 n2 cap2) 29 (.bool ng3) (.slice ao3 n3 cap3) (.bool ng4) (.slice ao4 n4 cap4) 29 (.bool false) (.slice none 0 0) (.bool false) (.slice none 0 0) 29
  rw [← hwx]
  clear hwx
  obtain ⟨v1, rfl⟩ : ∃ v1 : World, v1 = wx := ⟨_, rfl⟩
  have HV1 := Lib.hid (HV1.out.mono hb)
  have HV2 := Lib.hid (HV2.out.mono hb)
  have HV3 := Lib.hid (HV3.out.mono hb)
  have HV4 := Lib.hid (HV4.out.mono hb)
  have hE := hE.mono hb
  have hbw := Below.step hbw hb (Nat.le_refl _)
  clear hb
  obtain ⟨cX1_0, cX1_1, cX1_2, cX1_3, _, _, _, _⟩ := id X1
  go_wp2_with fail
  (with_reducible refine (Valid_true _ a v1 (RatV.mk' HV1 HV2) hE).mono ?_)
  rintro e v2 ⟨rfl, hb⟩
  have HV1 := Lib.hid (HV1.out.mono hb)
  have HV2 := Lib.hid (HV2.out.mono hb)
  have HV3 := Lib.hid (HV3.out.mono hb)
  have HV4 := Lib.hid (HV4.out.mono hb)
  have X1 := X1.mono hb
  have X2 := X2.mono hb
  have X3 := X3.mono hb
  have hE := hE.mono hb
  have hbw := Below.step hbw hb (Nat.le_refl _)
  clear hb
  clear cX1_0 cX1_1 cX1_2 cX1_3
  obtain ⟨cX2_0, cX2_1, cX2_2, cX2_3, _, _, _, _⟩ := id X2
  go_wp2_with fail
  (with_reducible refine (Valid_true _ b v2 (RatV.mk' HV3 HV4) hE).mono ?_)
  rintro e v3 ⟨rfl, hb⟩
  have HV1 := Lib.hid (HV1.out.mono hb)
  have HV2 := Lib.hid (HV2.out.mono hb)
  have HV3 := Lib.hid (HV3.out.mono hb)
  have HV4 := Lib.hid (HV4.out.mono hb)
  have X1 := X1.mono hb
  have X2 := X2.mono hb
  have X3 := X3.mono hb
  have hE := hE.mono hb
  have hbw := Below.step hbw hb (Nat.le_refl _)
  clear hb
  clear cX2_0 cX2_1 cX2_2 cX2_3
  obtain ⟨cX2_0, cX2_1, cX2_2, cX2_3, _, _, _, _⟩ := id X2
  go_wp2_with fail
  (with_reducible refine (Sign_eq _ b.num (-1) v3 HS HV3.out hE).mono ?_)
  rintro e v4 ⟨rfl, hb⟩
  have HV1 := Lib.hid (HV1.out.mono hb)
  have HV2 := Lib.hid (HV2.out.mono hb)
  have HV3 := Lib.hid (HV3.out.mono hb)
  have HV4 := Lib.hid (HV4.out.mono hb)
  have X1 := X1.mono hb
  have X2 := X2.mono hb
  have X3 := X3.mono hb
  have hE := hE.mono hb
  have hbw := Below.step hbw hb (Nat.le_refl _)
  clear hb
  clear cX2_0 cX2_1 cX2_2 cX2_3
  obtain ⟨cX1_0, cX1_1, cX1_2, cX1_3, _, _, _, _⟩ := id X1
  obtain ⟨cX2_0, cX2_1, cX2_2, cX2_3, _, _, _, _⟩ := id X2
  go_wp2_with fail
  (with_reducible refine (quotient_big _ _ _ _ a.num (b.den : Int) (a.den : Int) b.num v4 HV1.out HV4.out HV2.out HV3.out HQ hE).mono ?_)
  rintro e v5 ⟨rfl, hb⟩
  have HV1 := Lib.hid (HV1.out.mono hb)
  have HV2 := Lib.hid (HV2.out.mono hb)
  have HV3 := Lib.hid (HV3.out.mono hb)
  have HV4 := Lib.hid (HV4.out.mono hb)
  have X1 := X1.mono hb
  have X2 := X2.mono hb
  have X3 := X3.mono hb
  have hE := hE.mono hb
  have hbw := Below.step hbw hb (Nat.le_refl _)
  clear hb
  clear cX1_0 cX1_1 cX1_2 cX1_3 cX2_0 cX2_1 cX2_2 cX2_3
  obtain ⟨cX3_0, cX3_1, cX3_2, cX3_3, _, _, _, _⟩ := id X3
  go_wp2
  refine bodyPost_ret (v := .tuple #[.agg #[.bool false, .slice none 0 0, .bool false, .slice none 0 0], .int .i64 3]) (by simp [results, Tryz.results34, go_sem, cX3_0, cX3_1, cX3_2, cX3_3]) rfl ⟨rfl, Below.put4 hbw (by omega) (.bool false) (.slice none 0 0) (.bool false) (.slice none 0 0)⟩

set_option maxRecDepth 100000 in
set_option maxHeartbeats 1600000 in
theorem Div_qbigp (va vb : Value) (a b : Rat) (w : World) (ha : RatV w va a) (hb : RatV w vb b) (hs : Hid (¬ DivS a b ∧ 0 < b.num)) (hE : Env w) :
    Calls Tryz.prog 34 #[va, vb] w fun e w' => NoQ 3 e ∧ Below w.heap.size w w' := by
  have HS : Hid (sgnI b.num = 1) := Lib.hid (by have := hs.out; unfold sgnI; split <;> (try split) <;> omega)
  have HQ : Hid (¬ (Rq.Sm (a.num * (b.den : Int)) ∧ Rq.Sm ((a.den : Int) * b.num))) := Lib.hid hs.out.1
  have hE0 := hE
  have hbw := Below.refl w.heap.size w
  obtain ⟨ng1, ao1, n1, cap1, ng2, ao2, n2, cap2, rfl, h1, h2⟩ := ha
  have HV1 := Lib.hid h1
  have HV2 := Lib.hid h2
  clear h1 h2
  obtain ⟨ng3, ao3, n3, cap3, ng4, ao4, n4, cap4, rfl, h1, h2⟩ := hb
  have HV3 := Lib.hid h1
  have HV4 := Lib.hid h2
  clear h1 h2
  go_enter Tryz.func34, Tryz.ntmps34
  go_upto_region 1 with fail
  obtain ⟨wx, hwx, hszx, X1, X2, X3, hb⟩ := boxes_444 w (.bool ng1) (.slice ao1 n1 cap1) (.bool ng2) (.slice ao2 n2 cap2) 29 (.bool ng3) (.slice ao3 n3 cap3) (.bool ng4) (.slice ao4 n4 cap4) 29 (.bool false) (.slice none 0 0) (.bool false) (.slice none 0 0) 29
  rw [← hwx]
  clear hwx
  obtain ⟨v1, rfl⟩ : ∃ v1 : World, v1 = wx := ⟨_, rfl⟩
  have HV1 := Lib.hid (HV1.out.mono hb)
  have HV2 := Lib.hid (HV2.out.mono hb)
  have HV3 := Lib.hid (HV3.out.mono hb)
  have HV4 := Lib.hid (HV4.out.mono hb)
  have hE := hE.mono hb
  have hbw := Below.step hbw hb (Nat.le_refl _)
  clear hb
  obtain ⟨cX1_0, cX1_1, cX1_2, cX1_3, _, _, _, _⟩ := id X1
  go_wp2_with fail
  (with_reducible refine (Valid_true _ a v1 (RatV.mk' HV1 HV2) hE).mono ?_)
  rintro e v2 ⟨rfl, hb⟩
  have HV1 := Lib.hid (HV1.out.mono hb)
  have HV2 := Lib.hid (HV2.out.mono hb)
  have HV3 := Lib.hid (HV3.out.mono hb)
  have HV4 := Lib.hid (HV4.out.mono hb)
  have X1 := X1.mono hb
  have X2 := X2.mono hb
  have X3 := X3.mono hb
  have hE := hE.mono hb
  have hbw := Below.step hbw hb (Nat.le_refl _)
  clear hb
  clear cX1_0 cX1_1 cX1_2 cX1_3
  obtain ⟨cX2_0, cX2_1, cX2_2, cX2_3, _, _, _, _⟩ := id X2
  go_wp2_with fail
  (with_reducible refine (Valid_true _ b v2 (RatV.mk' HV3 HV4) hE).mono ?_)
  rintro e v3 ⟨rfl, hb⟩
  have HV1 := Lib.hid (HV1.out.mono hb)
  have HV2 := Lib.hid (HV2.out.mono hb)
  have HV3 := Lib.hid (HV3.out.mono hb)
  have HV4 := Lib.hid (HV4.out.mono hb)
  have X1 := X1.mono hb
  have X2 := X2.mono hb
  have X3 := X3.mono hb
  have hE := hE.mono hb
  have hbw := Below.step hbw hb (Nat.le_refl _)
  clear hb
  clear cX2_0 cX2_1 cX2_2 cX2_3
  obtain ⟨cX2_0, cX2_1, cX2_2, cX2_3, _, _, _, _⟩ := id X2
  go_wp2_with fail
  (with_reducible refine (Sign_eq _ b.num (1) v3 HS HV3.out hE).mono ?_)
  rintro e v4 ⟨rfl, hb⟩
  have HV1 := Lib.hid (HV1.out.mono hb)
  have HV2 := Lib.hid (HV2.out.mono hb)
  have HV3 := Lib.hid (HV3.out.mono hb)
  have HV4 := Lib.hid (HV4.out.mono hb)
  have X1 := X1.mono hb
  have X2 := X2.mono hb
  have X3 := X3.mono hb
  have hE := hE.mono hb
  have hbw := Below.step hbw hb (Nat.le_refl _)
  clear hb
  clear cX2_0 cX2_1 cX2_2 cX2_3
  obtain ⟨cX1_0, cX1_1, cX1_2, cX1_3, _, _, _, _⟩ := id X1
  obtain ⟨cX2_0, cX2_1, cX2_2, cX2_3, _, _, _, _⟩ := id X2
  go_wp2_with fail
  (with_reducible refine (quotient_big _ _ _ _ a.num (b.den : Int) (a.den : Int) b.num v4 HV1.out HV4.out HV2.out HV3.out HQ hE).mono ?_)
  rintro e v5 ⟨rfl, hb⟩
  have HV1 := Lib.hid (HV1.out.mono hb)
  have HV2 := Lib.hid (HV2.out.mono hb)
  have HV3 := Lib.hid (HV3.out.mono hb)
  have HV4 := Lib.hid (HV4.out.mono hb)
  have X1 := X1.mono hb
  have X2 := X2.mono hb
  have X3 := X3.mono hb
  have hE := hE.mono hb
  have hbw := Below.step hbw hb (Nat.le_refl _)
  clear hb
  clear cX1_0 cX1_1 cX1_2 cX1_3 cX2_0 cX2_1 cX2_2 cX2_3
  obtain ⟨cX3_0, cX3_1, cX3_2, cX3_3, _, _, _, _⟩ := id X3
  go_wp2
  refine bodyPost_ret (v := .tuple #[.agg #[.bool false, .slice none 0 0, .bool false, .slice none 0 0], .int .i64 3]) (by simp [results, Tryz.results34, go_sem, cX3_0, cX3_1, cX3_2, cX3_3]) rfl ⟨rfl, Below.put4 hbw (by omega) (.bool false) (.slice none 0 0) (.bool false) (.slice none 0 0)⟩

set_option maxRecDepth 100000 in
set_option maxHeartbeats 1600000 in
theorem Div_qzero (va vb : Value) (a b : Rat) (w : World) (ha : RatV w va a) (hb : RatV w vb b) (hs : Hid (b.num = 0)) (hE : Env w) :
    Calls Tryz.prog 34 #[va, vb] w fun e w' => NoQ 8 e ∧ Below w.heap.size w w' := by
  have HS : Hid (sgnI b.num = 0) := Lib.hid (by have := hs.out; unfold sgnI; split <;> (try split) <;> omega)
  have hE0 := hE
  have hbw := Below.refl w.heap.size w
  obtain ⟨ng1, ao1, n1, cap1, ng2, ao2, n2, cap2, rfl, h1, h2⟩ := ha
  have HV1 := Lib.hid h1
  have HV2 := Lib.hid h2
  clear h1 h2
  obtain ⟨ng3, ao3, n3, cap3, ng4, ao4, n4, cap4, rfl, h1, h2⟩ := hb
  have HV3 := Lib.hid h1
  have HV4 := Lib.hid h2
  clear h1 h2
  go_enter Tryz.func34, Tryz.ntmps34
  go_upto_region 1 with fail
  obtain ⟨wx, hwx, hszx, X1, X2, X3, hb⟩ := boxes_444 w (.bool ng1) (.slice ao1 n1 cap1) (.bool ng2) (.slice ao2 n2 cap2) 29 (.bool ng3) (.slice ao3 n3 cap3) (.bool ng4) (.slice ao4 n4 cap4) 29 (.bool false) (.slice none 0 0) (.bool false) (.slice none 0 0) 29
  rw [← hwx]
  clear hwx
  obtain ⟨v1, rfl⟩ : ∃ v1 : World, v1 = wx := ⟨_, rfl⟩
  have HV1 := Lib.hid (HV1.out.mono hb)
  have HV2 := Lib.hid (HV2.out.mono hb)
  have HV3 := Lib.hid (HV3.out.mono hb)
  have HV4 := Lib.hid (HV4.out.mono hb)
  have hE := hE.mono hb
  have hbw := Below.step hbw hb (Nat.le_refl _)
  clear hb
  obtain ⟨cX1_0, cX1_1, cX1_2, cX1_3, _, _, _, _⟩ := id X1
  go_wp2_with fail
  (with_reducible refine (Valid_true _ a v1 (RatV.mk' HV1 HV2) hE).mono ?_)
  rintro e v2 ⟨rfl, hb⟩
  have HV1 := Lib.hid (HV1.out.mono hb)
  have HV2 := Lib.hid (HV2.out.mono hb)
  have HV3 := Lib.hid (HV3.out.mono hb)
  have HV4 := Lib.hid (HV4.out.mono hb)
  have X1 := X1.mono hb
  have X2 := X2.mono hb
  have X3 := X3.mono hb
  have hE := hE.mono hb
  have hbw := Below.step hbw hb (Nat.le_refl _)
  clear hb
  clear cX1_0 cX1_1 cX1_2 cX1_3
  obtain ⟨cX2_0, cX2_1, cX2_2, cX2_3, _, _, _, _⟩ := id X2
  go_wp2_with fail
  (with_reducible refine (Valid_true _ b v2 (RatV.mk' HV3 HV4) hE).mono ?_)
  rintro e v3 ⟨rfl, hb⟩
  have HV1 := Lib.hid (HV1.out.mono hb)
  have HV2 := Lib.hid (HV2.out.mono hb)
  have HV3 := Lib.hid (HV3.out.mono hb)
  have HV4 := Lib.hid (HV4.out.mono hb)
  have X1 := X1.mono hb
  have X2 := X2.mono hb
  have X3 := X3.mono hb
  have hE := hE.mono hb
  have hbw := Below.step hbw hb (Nat.le_refl _)
  clear hb
  clear cX2_0 cX2_1 cX2_2 cX2_3
  obtain ⟨cX2_0, cX2_1, cX2_2, cX2_3, _, _, _, _⟩ := id X2
  go_wp2_with fail
  (with_reducible refine (Sign_eq _ b.num (0) v3 HS HV3.out hE).mono ?_)
  rintro e v4 ⟨rfl, hb⟩
  have HV1 := Lib.hid (HV1.out.mono hb)
  have HV2 := Lib.hid (HV2.out.mono hb)
  have HV3 := Lib.hid (HV3.out.mono hb)
  have HV4 := Lib.hid (HV4.out.mono hb)
  have X1 := X1.mono hb
  have X2 := X2.mono hb
  have X3 := X3.mono hb
  have hE := hE.mono hb
  have hbw := Below.step hbw hb (Nat.le_refl _)
  clear hb
  clear cX2_0 cX2_1 cX2_2 cX2_3
  obtain ⟨cX3_0, cX3_1, cX3_2, cX3_3, _, _, _, _⟩ := id X3
  go_wp2
  refine bodyPost_ret (v := .tuple #[.agg #[.bool false, .slice none 0 0, .bool false, .slice none 0 0], .int .i64 8]) (by simp [results, Tryz.results34, go_sem, cX3_0, cX3_1, cX3_2, cX3_3]) rfl ⟨rfl, Below.put4 hbw (by omega) (.bool false) (.slice none 0 0) (.bool false) (.slice none 0 0)⟩

theorem Div_q (va vb : Value) (a b : Rat) (w : World) (ha : RatV w va a) (hb : RatV w vb b) (hs : Hid (DivS a b ∧ b.num ≠ 0)) (hE : Env w) :
    Calls Tryz.prog 34 #[va, vb] w fun e w' => GotQ w' (a / b) e ∧ Below w.heap.size w w' := by
  rcases Int.lt_trichotomy b.num 0 with h | h | h
  · exact Div_qn va vb a b w ha hb (Lib.hid ⟨hs.out.1, h⟩) hE
  · exact absurd h hs.out.2
  · exact Div_qp va vb a b w ha hb (Lib.hid ⟨hs.out.1, h⟩) hE
theorem Div_qbig (va vb : Value) (a b : Rat) (w : World) (ha : RatV w va a) (hb : RatV w vb b) (hs : Hid (¬ DivS a b ∧ b.num ≠ 0)) (hE : Env w) :
    Calls Tryz.prog 34 #[va, vb] w fun e w' => NoQ 3 e ∧ Below w.heap.size w w' := by
  rcases Int.lt_trichotomy b.num 0 with h | h | h
  · exact Div_qbign va vb a b w ha hb (Lib.hid ⟨hs.out.1, h⟩) hE
  · exact absurd h hs.out.2
  · exact Div_qbigp va vb a b w ha hb (Lib.hid ⟨hs.out.1, h⟩) hE

end Go.Proofs.YtgenhkakcbedaaaGreatDoor
