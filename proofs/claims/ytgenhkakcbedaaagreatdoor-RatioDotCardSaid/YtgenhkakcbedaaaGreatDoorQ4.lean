import Derived.Test.YtgenhkakcbedaaaGreatDoorQ3
namespace Go.Proofs.YtgenhkakcbedaaaGreatDoor
open Go.RowKit

theorem reduced_any (a b : Value) (p q : Int) (w : World) (ha : IntV w a p) (hb : IntV w b q) (hq : Hid (q ≠ 0)) (hE : Env w) :
    Calls Tryz.prog 58 #[a, b] w fun e w' => GotQ w' (Rat.divInt p q) e ∧ Below w.heap.size w w' := by
  rcases Int.lt_trichotomy q 0 with h | h | h
  · exact reduced_neg a b p q w ha hb (Lib.hid h) hE
  · exact absurd h hq.out
  · exact reduced_pos a b p q w ha hb (Lib.hid h) hE

set_option maxRecDepth 100000 in
set_option maxHeartbeats 1600000 in
theorem Make_zero (a b : Value) (p q : Int) (w : World) (ha : IntV w a p) (hb : IntV w b q) (hq : Hid (q = 0)) (hE : Env w) :
    Calls Tryz.prog 15 #[a, b] w fun e w' => NoQ 8 e ∧ Below w.heap.size w w' := by
  have HS : Hid (sgnI q = 0) := Lib.hid (by have := hq.out; unfold sgnI; split <;> (try split) <;> omega)
  have hE0 := hE
  have hbw := Below.refl w.heap.size w
  obtain ⟨ng1, ao1, n1, cap1, rfl⟩ := ha.parts
  have HV1 := Lib.hid ha
  clear ha
  obtain ⟨ng2, ao2, n2, cap2, rfl⟩ := hb.parts
  have HV2 := Lib.hid hb
  clear hb
  go_enter Tryz.func15, Tryz.ntmps15
  go_upto_region 1 with fail
  obtain ⟨wx, hwx, hszx, X1, X2, X3, hb⟩ := boxes_224 w (.bool ng1) (.slice ao1 n1 cap1) 24 (.bool ng2) (.slice ao2 n2 cap2) 24 (.bool false) (.slice none 0 0) (.bool false) (.slice none 0 0) 29
  rw [← hwx]
  clear hwx
  obtain ⟨v1, rfl⟩ : ∃ v1 : World, v1 = wx := ⟨_, rfl⟩
  have HV1 := Lib.hid (HV1.out.mono hb)
  have HV2 := Lib.hid (HV2.out.mono hb)
  have hE := hE.mono hb
  have hbw := Below.step hbw hb (Nat.le_refl _)
  clear hb
  obtain ⟨cX1_0, cX1_1, _, _⟩ := id X1
  go_wp2_with fail
  (with_reducible refine (validV _ p v1 HV1.out hE).mono ?_)
  rintro e v2 ⟨rfl, hb⟩
  have HV1 := Lib.hid (HV1.out.mono hb)
  have HV2 := Lib.hid (HV2.out.mono hb)
  have X1 := X1.mono hb
  have X2 := X2.mono hb
  have X3 := X3.mono hb
  have hE := hE.mono hb
  have hbw := Below.step hbw hb (Nat.le_refl _)
  clear hb
  clear cX1_0 cX1_1
  obtain ⟨cX2_0, cX2_1, _, _⟩ := id X2
  go_wp2_with fail
  (with_reducible refine (validV _ q v2 HV2.out hE).mono ?_)
  rintro e v3 ⟨rfl, hb⟩
  have HV1 := Lib.hid (HV1.out.mono hb)
  have HV2 := Lib.hid (HV2.out.mono hb)
  have X1 := X1.mono hb
  have X2 := X2.mono hb
  have X3 := X3.mono hb
  have hE := hE.mono hb
  have hbw := Below.step hbw hb (Nat.le_refl _)
  clear hb
  clear cX2_0 cX2_1
  obtain ⟨cX2_0, cX2_1, _, _⟩ := id X2
  go_wp2_with fail
  (with_reducible refine (Sign_eq _ q (0) v3 HS HV2.out hE).mono ?_)
  rintro e v4 ⟨rfl, hb⟩
  have HV1 := Lib.hid (HV1.out.mono hb)
  have HV2 := Lib.hid (HV2.out.mono hb)
  have X1 := X1.mono hb
  have X2 := X2.mono hb
  have X3 := X3.mono hb
  have hE := hE.mono hb
  have hbw := Below.step hbw hb (Nat.le_refl _)
  clear hb
  clear cX2_0 cX2_1
  obtain ⟨cX3_0, cX3_1, cX3_2, cX3_3, _, _, _, _⟩ := id X3
  go_wp2
  refine bodyPost_ret (v := .tuple #[.agg #[.bool false, .slice none 0 0, .bool false, .slice none 0 0], .int .i64 8]) (by simp [results, Tryz.results15, go_sem, cX3_0, cX3_1, cX3_2, cX3_3]) rfl ⟨rfl, Below.put4 hbw (by omega) (.bool false) (.slice none 0 0) (.bool false) (.slice none 0 0)⟩

set_option maxRecDepth 100000 in
set_option maxHeartbeats 1600000 in
theorem Make_neg (a b : Value) (p q : Int) (w : World) (ha : IntV w a p) (hb : IntV w b q) (hq : Hid (q < 0)) (hE : Env w) :
    Calls Tryz.prog 15 #[a, b] w fun e w' => GotQ w' (Rat.divInt p q) e ∧ Below w.heap.size w w' := by
  have HS : Hid (sgnI q = -1) := Lib.hid (by have := hq.out; unfold sgnI; split <;> (try split) <;> omega)
  have hE0 := hE
  have hbw := Below.refl w.heap.size w
  obtain ⟨ng1, ao1, n1, cap1, rfl⟩ := ha.parts
  have HV1 := Lib.hid ha
  clear ha
  obtain ⟨ng2, ao2, n2, cap2, rfl⟩ := hb.parts
  have HV2 := Lib.hid hb
  clear hb
  go_enter Tryz.func15, Tryz.ntmps15
  go_upto_region 1 with fail
  obtain ⟨wx, hwx, hszx, X1, X2, X3, hb⟩ := boxes_224 w (.bool ng1) (.slice ao1 n1 cap1) 24 (.bool ng2) (.slice ao2 n2 cap2) 24 (.bool false) (.slice none 0 0) (.bool false) (.slice none 0 0) 29
  rw [← hwx]
  clear hwx
  obtain ⟨v1, rfl⟩ : ∃ v1 : World, v1 = wx := ⟨_, rfl⟩
  have HV1 := Lib.hid (HV1.out.mono hb)
  have HV2 := Lib.hid (HV2.out.mono hb)
  have hE := hE.mono hb
  have hbw := Below.step hbw hb (Nat.le_refl _)
  clear hb
  obtain ⟨cX1_0, cX1_1, _, _⟩ := id X1
  go_wp2_with fail
  (with_reducible refine (validV _ p v1 HV1.out hE).mono ?_)
  rintro e v2 ⟨rfl, hb⟩
  have HV1 := Lib.hid (HV1.out.mono hb)
  have HV2 := Lib.hid (HV2.out.mono hb)
  have X1 := X1.mono hb
  have X2 := X2.mono hb
  have X3 := X3.mono hb
  have hE := hE.mono hb
  have hbw := Below.step hbw hb (Nat.le_refl _)
  clear hb
  clear cX1_0 cX1_1
  obtain ⟨cX2_0, cX2_1, _, _⟩ := id X2
  go_wp2_with fail
  (with_reducible refine (validV _ q v2 HV2.out hE).mono ?_)
  rintro e v3 ⟨rfl, hb⟩
  have HV1 := Lib.hid (HV1.out.mono hb)
  have HV2 := Lib.hid (HV2.out.mono hb)
  have X1 := X1.mono hb
  have X2 := X2.mono hb
  have X3 := X3.mono hb
  have hE := hE.mono hb
  have hbw := Below.step hbw hb (Nat.le_refl _)
  clear hb
  clear cX2_0 cX2_1
  obtain ⟨cX2_0, cX2_1, _, _⟩ := id X2
  go_wp2_with fail
  (with_reducible refine (Sign_eq _ q (-1) v3 HS HV2.out hE).mono ?_)
  rintro e v4 ⟨rfl, hb⟩
  have HV1 := Lib.hid (HV1.out.mono hb)
  have HV2 := Lib.hid (HV2.out.mono hb)
  have X1 := X1.mono hb
  have X2 := X2.mono hb
  have X3 := X3.mono hb
  have hE := hE.mono hb
  have hbw := Below.step hbw hb (Nat.le_refl _)
  clear hb
  clear cX2_0 cX2_1
  obtain ⟨cX1_0, cX1_1, _, _⟩ := id X1
  obtain ⟨cX2_0, cX2_1, _, _⟩ := id X2
  go_wp2_with fail
  (with_reducible refine (reduced_any _ _ p q v4 HV1.out HV2.out (Lib.hid (by have := hq.out; omega)) hE).mono ?_)
  rintro e v5 ⟨⟨ng3, ao3, n3, cap3, ng4, ao4, n4, cap4, rfl, HV3, HV4⟩, hb⟩
  have HV1 := Lib.hid (HV1.out.mono hb)
  have HV2 := Lib.hid (HV2.out.mono hb)
  have X1 := X1.mono hb
  have X2 := X2.mono hb
  have X3 := X3.mono hb
  have hE := hE.mono hb
  have hbw := Below.step hbw hb (Nat.le_refl _)
  clear hb
  clear cX1_0 cX1_1 cX2_0 cX2_1
  obtain ⟨cX3_0, cX3_1, cX3_2, cX3_3, _, _, _, _⟩ := id X3
  go_wp2
  refine bodyPost_ret (v := .tuple #[.agg #[.bool ng3, .slice ao3 n3 cap3, .bool ng4, .slice ao4 n4 cap4], .int .i64 0]) (by simp [results, Tryz.results15, go_sem, cX3_0, cX3_1, cX3_2, cX3_3]) rfl ⟨⟨ng3, ao3, n3, cap3, ng4, ao4, n4, cap4, rfl, Lib.hid (HV3.out.put4B X3 (.bool ng3) (.slice ao3 n3 cap3) (.bool ng4) (.slice ao4 n4 cap4)), Lib.hid (HV4.out.put4B X3 (.bool ng3) (.slice ao3 n3 cap3) (.bool ng4) (.slice ao4 n4 cap4))⟩, Below.put4 hbw (by omega) (.bool ng3) (.slice ao3 n3 cap3) (.bool ng4) (.slice ao4 n4 cap4)⟩

set_option maxRecDepth 100000 in
set_option maxHeartbeats 1600000 in
theorem Make_pos (a b : Value) (p q : Int) (w : World) (ha : IntV w a p) (hb : IntV w b q) (hq : Hid (0 < q)) (hE : Env w) :
    Calls Tryz.prog 15 #[a, b] w fun e w' => GotQ w' (Rat.divInt p q) e ∧ Below w.heap.size w w' := by
  have HS : Hid (sgnI q = 1) := Lib.hid (by have := hq.out; unfold sgnI; split <;> (try split) <;> omega)
  have hE0 := hE
  have hbw := Below.refl w.heap.size w
  obtain ⟨ng1, ao1, n1, cap1, rfl⟩ := ha.parts
  have HV1 := Lib.hid ha
  clear ha
  obtain ⟨ng2, ao2, n2, cap2, rfl⟩ := hb.parts
  have HV2 := Lib.hid hb
  clear hb
  go_enter Tryz.func15, Tryz.ntmps15
  go_upto_region 1 with fail
  obtain ⟨wx, hwx, hszx, X1, X2, X3, hb⟩ := boxes_224 w (.bool ng1) (.slice ao1 n1 cap1) 24 (.bool ng2) (.slice ao2 n2 cap2) 24 (.bool false) (.slice none 0 0) (.bool false) (.slice none 0 0) 29
  rw [← hwx]
  clear hwx
  obtain ⟨v1, rfl⟩ : ∃ v1 : World, v1 = wx := ⟨_, rfl⟩
  have HV1 := Lib.hid (HV1.out.mono hb)
  have HV2 := Lib.hid (HV2.out.mono hb)
  have hE := hE.mono hb
  have hbw := Below.step hbw hb (Nat.le_refl _)
  clear hb
  obtain ⟨cX1_0, cX1_1, _, _⟩ := id X1
  go_wp2_with fail
  (with_reducible refine (validV _ p v1 HV1.out hE).mono ?_)
  rintro e v2 ⟨rfl, hb⟩
  have HV1 := Lib.hid (HV1.out.mono hb)
  have HV2 := Lib.hid (HV2.out.mono hb)
  have X1 := X1.mono hb
  have X2 := X2.mono hb
  have X3 := X3.mono hb
  have hE := hE.mono hb
  have hbw := Below.step hbw hb (Nat.le_refl _)
  clear hb
  clear cX1_0 cX1_1
  obtain ⟨cX2_0, cX2_1, _, _⟩ := id X2
  go_wp2_with fail
  (with_reducible refine (validV _ q v2 HV2.out hE).mono ?_)
  rintro e v3 ⟨rfl, hb⟩
  have HV1 := Lib.hid (HV1.out.mono hb)
  have HV2 := Lib.hid (HV2.out.mono hb)
  have X1 := X1.mono hb
  have X2 := X2.mono hb
  have X3 := X3.mono hb
  have hE := hE.mono hb
  have hbw := Below.step hbw hb (Nat.le_refl _)
  clear hb
  clear cX2_0 cX2_1
  obtain ⟨cX2_0, cX2_1, _, _⟩ := id X2
  go_wp2_with fail
  (with_reducible refine (Sign_eq _ q (1) v3 HS HV2.out hE).mono ?_)
  rintro e v4 ⟨rfl, hb⟩
  have HV1 := Lib.hid (HV1.out.mono hb)
  have HV2 := Lib.hid (HV2.out.mono hb)
  have X1 := X1.mono hb
  have X2 := X2.mono hb
  have X3 := X3.mono hb
  have hE := hE.mono hb
  have hbw := Below.step hbw hb (Nat.le_refl _)
  clear hb
  clear cX2_0 cX2_1
  obtain ⟨cX1_0, cX1_1, _, _⟩ := id X1
  obtain ⟨cX2_0, cX2_1, _, _⟩ := id X2
  go_wp2_with fail
  (with_reducible refine (reduced_any _ _ p q v4 HV1.out HV2.out (Lib.hid (by have := hq.out; omega)) hE).mono ?_)
  rintro e v5 ⟨⟨ng3, ao3, n3, cap3, ng4, ao4, n4, cap4, rfl, HV3, HV4⟩, hb⟩
  have HV1 := Lib.hid (HV1.out.mono hb)
  have HV2 := Lib.hid (HV2.out.mono hb)
  have X1 := X1.mono hb
  have X2 := X2.mono hb
  have X3 := X3.mono hb
  have hE := hE.mono hb
  have hbw := Below.step hbw hb (Nat.le_refl _)
  clear hb
  clear cX1_0 cX1_1 cX2_0 cX2_1
  obtain ⟨cX3_0, cX3_1, cX3_2, cX3_3, _, _, _, _⟩ := id X3
  go_wp2
  refine bodyPost_ret (v := .tuple #[.agg #[.bool ng3, .slice ao3 n3 cap3, .bool ng4, .slice ao4 n4 cap4], .int .i64 0]) (by simp [results, Tryz.results15, go_sem, cX3_0, cX3_1, cX3_2, cX3_3]) rfl ⟨⟨ng3, ao3, n3, cap3, ng4, ao4, n4, cap4, rfl, Lib.hid (HV3.out.put4B X3 (.bool ng3) (.slice ao3 n3 cap3) (.bool ng4) (.slice ao4 n4 cap4)), Lib.hid (HV4.out.put4B X3 (.bool ng3) (.slice ao3 n3 cap3) (.bool ng4) (.slice ao4 n4 cap4))⟩, Below.put4 hbw (by omega) (.bool ng3) (.slice ao3 n3 cap3) (.bool ng4) (.slice ao4 n4 cap4)⟩

theorem Make_ok (a b : Value) (p q : Int) (w : World) (ha : IntV w a p) (hb : IntV w b q) (hq : Hid (q ≠ 0)) (hE : Env w) :
    Calls Tryz.prog 15 #[a, b] w fun e w' => GotQ w' (Rat.divInt p q) e ∧ Below w.heap.size w w' := by
  rcases Int.lt_trichotomy q 0 with h | h | h
  · exact Make_neg a b p q w ha hb (Lib.hid h) hE
  · exact absurd h hq.out
  · exact Make_pos a b p q w ha hb (Lib.hid h) hE

set_option maxRecDepth 100000 in
set_option maxHeartbeats 1600000 in
theorem Make_inv1 (x1 x2 : Bool) (l1 l2 : List Nat) (a1 a2 : Option Addr) (c1 c2 : Nat) (w : World) (m1 : l1.length ≤ 1000000000) (_m2 : l2.length ≤ 1000000000) (u1 : U w a1 l1) (u2 : U w a2 l2) (hv : Hid (¬ validP x1 l1)) (hE : Env w) :
    Calls Tryz.prog 15 #[.agg #[.bool x1, .slice a1 l1.length c1], .agg #[.bool x2, .slice a2 l2.length c2]] w fun e w' => NoQ 1 e ∧ Below w.heap.size w w' := by
  have hE0 := hE
  have hbw := Below.refl w.heap.size w
  go_enter Tryz.func15, Tryz.ntmps15
  go_upto_region 1 with fail
  obtain ⟨wx, hwx, hszx, X1, X2, X3, hb⟩ := boxes_224 w (.bool x1) (.slice a1 l1.length c1) 24 (.bool x2) (.slice a2 l2.length c2) 24 (.bool false) (.slice none 0 0) (.bool false) (.slice none 0 0) 29
  rw [← hwx]
  clear hwx
  obtain ⟨v1, rfl⟩ : ∃ v1 : World, v1 = wx := ⟨_, rfl⟩
  have u1 := u1.mono hb
  have u2 := u2.mono hb
  have hE := hE.mono hb
  have hbw := Below.step hbw hb (Nat.le_refl _)
  clear hb
  obtain ⟨cX1_0, cX1_1, _, _⟩ := id X1
  go_wp2_with fail
  (with_reducible refine (valid_no x1 l1 a1 c1 v1 m1 hv u1 hE).mono ?_)
  rintro e v2 ⟨rfl, hb⟩
  have u1 := u1.mono hb
  have u2 := u2.mono hb
  have X1 := X1.mono hb
  have X2 := X2.mono hb
  have X3 := X3.mono hb
  have hE := hE.mono hb
  have hbw := Below.step hbw hb (Nat.le_refl _)
  clear hb
  clear cX1_0 cX1_1
  obtain ⟨cX3_0, cX3_1, cX3_2, cX3_3, _, _, _, _⟩ := id X3
  go_wp2
  refine bodyPost_ret (v := .tuple #[.agg #[.bool false, .slice none 0 0, .bool false, .slice none 0 0], .int .i64 1]) (by simp [results, Tryz.results15, go_sem, cX3_0, cX3_1, cX3_2, cX3_3]) rfl ⟨rfl, Below.put4 hbw (by omega) (.bool false) (.slice none 0 0) (.bool false) (.slice none 0 0)⟩

set_option maxRecDepth 100000 in
set_option maxHeartbeats 1600000 in
theorem Make_inv2 (x1 x2 : Bool) (l1 l2 : List Nat) (a1 a2 : Option Addr) (c1 c2 : Nat) (w : World) (m1 : l1.length ≤ 1000000000) (m2 : l2.length ≤ 1000000000) (u1 : U w a1 l1) (u2 : U w a2 l2) (hv : Hid (Hid (validP x1 l1) ∧ Hid (¬ validP x2 l2))) (hE : Env w) :
    Calls Tryz.prog 15 #[.agg #[.bool x1, .slice a1 l1.length c1], .agg #[.bool x2, .slice a2 l2.length c2]] w fun e w' => NoQ 1 e ∧ Below w.heap.size w w' := by
  have hE0 := hE
  have hbw := Below.refl w.heap.size w
  go_enter Tryz.func15, Tryz.ntmps15
  go_upto_region 1 with fail
  obtain ⟨wx, hwx, hszx, X1, X2, X3, hb⟩ := boxes_224 w (.bool x1) (.slice a1 l1.length c1) 24 (.bool x2) (.slice a2 l2.length c2) 24 (.bool false) (.slice none 0 0) (.bool false) (.slice none 0 0) 29
  rw [← hwx]
  clear hwx
  obtain ⟨v1, rfl⟩ : ∃ v1 : World, v1 = wx := ⟨_, rfl⟩
  have u1 := u1.mono hb
  have u2 := u2.mono hb
  have hE := hE.mono hb
  have hbw := Below.step hbw hb (Nat.le_refl _)
  clear hb
  obtain ⟨cX1_0, cX1_1, _, _⟩ := id X1
  go_wp2_with fail
  (with_reducible refine (valid_yes x1 l1 a1 c1 v1 m1 hv.out.1 u1 hE).mono ?_)
  rintro e v2 ⟨rfl, hb⟩
  have u1 := u1.mono hb
  have u2 := u2.mono hb
  have X1 := X1.mono hb
  have X2 := X2.mono hb
  have X3 := X3.mono hb
  have hE := hE.mono hb
  have hbw := Below.step hbw hb (Nat.le_refl _)
  clear hb
  clear cX1_0 cX1_1
  obtain ⟨cX2_0, cX2_1, _, _⟩ := id X2
  go_wp2_with fail
  (with_reducible refine (valid_no x2 l2 a2 c2 v2 m2 hv.out.2 u2 hE).mono ?_)
  rintro e v3 ⟨rfl, hb⟩
  have u1 := u1.mono hb
  have u2 := u2.mono hb
  have X1 := X1.mono hb
  have X2 := X2.mono hb
  have X3 := X3.mono hb
  have hE := hE.mono hb
  have hbw := Below.step hbw hb (Nat.le_refl _)
  clear hb
  clear cX2_0 cX2_1
  obtain ⟨cX3_0, cX3_1, cX3_2, cX3_3, _, _, _, _⟩ := id X3
  go_wp2
  refine bodyPost_ret (v := .tuple #[.agg #[.bool false, .slice none 0 0, .bool false, .slice none 0 0], .int .i64 1]) (by simp [results, Tryz.results15, go_sem, cX3_0, cX3_1, cX3_2, cX3_3]) rfl ⟨rfl, Below.put4 hbw (by omega) (.bool false) (.slice none 0 0) (.bool false) (.slice none 0 0)⟩

set_option maxRecDepth 100000 in
set_option maxHeartbeats 1600000 in
theorem Of_ok (n d : Int) (w : World) (hn1 : -9223372036854775808 ≤ n) (hn2 : n ≤ 9223372036854775807) (hd1 : -9223372036854775808 ≤ d) (hd2 : d ≤ 9223372036854775807) (hd : Hid (d ≠ 0)) (hE : Env w) :
    Calls Tryz.prog 17 #[.int .i64 n, .int .i64 d] w fun e w' => GotQ w' (Rat.divInt n d) e ∧ Below w.heap.size w w' := by
  have hE0 := hE
  have hbw := Below.refl w.heap.size w
  go_enter Tryz.func17, Tryz.ntmps17
  go_upto_region 1 with fail
  have X3 := Box4.new w (.bool false) (.slice none 0 0) (.bool false) (.slice none 0 0) 29
  have hb := below_alloc w (.cells #[.bool false, .slice none 0 0, .bool false, .slice none 0 0] 29)
  generalize w.alloc (.cells #[.bool false, .slice none 0 0, .bool false, .slice none 0 0] 29) = v1 at *
  have hE := hE.mono hb
  have hbw := Below.step hbw hb (Nat.le_refl _)
  clear hb
  go_wp2_with fail
  (with_reducible refine (of_any n hn1 hn2 v1 hE).mono ?_)
  rintro e v2 ⟨⟨ng1, ao1, n1, cap1, rfl, HV1⟩, hb⟩
  have X3 := X3.mono hb
  have hE := hE.mono hb
  have hbw := Below.step hbw hb (Nat.le_refl _)
  clear hb
  go_wp2_with fail
  (with_reducible refine (of_any d hd1 hd2 v2 hE).mono ?_)
  rintro e v3 ⟨⟨ng2, ao2, n2, cap2, rfl, HV2⟩, hb⟩
  have X3 := X3.mono hb
  have HV1 := Lib.hid (HV1.out.mono hb)
  have hE := hE.mono hb
  have hbw := Below.step hbw hb (Nat.le_refl _)
  clear hb
  go_wp2_with fail
  (with_reducible refine (Make_ok _ _ n d v3 HV1.out HV2.out hd hE).mono ?_)
  rintro e v4 ⟨⟨ng3, ao3, n3, cap3, ng4, ao4, n4, cap4, rfl, HV3, HV4⟩, hb⟩
  have X3 := X3.mono hb
  have HV1 := Lib.hid (HV1.out.mono hb)
  have HV2 := Lib.hid (HV2.out.mono hb)
  have hE := hE.mono hb
  have hbw := Below.step hbw hb (Nat.le_refl _)
  clear hb
  obtain ⟨cX3_0, cX3_1, cX3_2, cX3_3, _, _, _, _⟩ := id X3
  go_wp2
  refine bodyPost_ret (v := .tuple #[.agg #[.bool ng3, .slice ao3 n3 cap3, .bool ng4, .slice ao4 n4 cap4], .int .i64 0]) (by simp [results, Tryz.results17, go_sem, cX3_0, cX3_1, cX3_2, cX3_3]) rfl ⟨⟨ng3, ao3, n3, cap3, ng4, ao4, n4, cap4, rfl, Lib.hid (HV3.out.put4B X3 (.bool ng3) (.slice ao3 n3 cap3) (.bool ng4) (.slice ao4 n4 cap4)), Lib.hid (HV4.out.put4B X3 (.bool ng3) (.slice ao3 n3 cap3) (.bool ng4) (.slice ao4 n4 cap4))⟩, Below.put4 hbw (by omega) (.bool ng3) (.slice ao3 n3 cap3) (.bool ng4) (.slice ao4 n4 cap4)⟩

set_option maxRecDepth 100000 in
set_option maxHeartbeats 1600000 in
theorem Of_zero (n d : Int) (w : World) (hn1 : -9223372036854775808 ≤ n) (hn2 : n ≤ 9223372036854775807) (hd1 : -9223372036854775808 ≤ d) (hd2 : d ≤ 9223372036854775807) (hd : Hid (d = 0)) (hE : Env w) :
    Calls Tryz.prog 17 #[.int .i64 n, .int .i64 d] w fun e w' => NoQ 8 e ∧ Below w.heap.size w w' := by
  have hE0 := hE
  have hbw := Below.refl w.heap.size w
  go_enter Tryz.func17, Tryz.ntmps17
  go_upto_region 1 with fail
  have X3 := Box4.new w (.bool false) (.slice none 0 0) (.bool false) (.slice none 0 0) 29
  have hb := below_alloc w (.cells #[.bool false, .slice none 0 0, .bool false, .slice none 0 0] 29)
  generalize w.alloc (.cells #[.bool false, .slice none 0 0, .bool false, .slice none 0 0] 29) = v1 at *
  have hE := hE.mono hb
  have hbw := Below.step hbw hb (Nat.le_refl _)
  clear hb
  go_wp2_with fail
  (with_reducible refine (of_any n hn1 hn2 v1 hE).mono ?_)
  rintro e v2 ⟨⟨ng1, ao1, n1, cap1, rfl, HV1⟩, hb⟩
  have X3 := X3.mono hb
  have hE := hE.mono hb
  have hbw := Below.step hbw hb (Nat.le_refl _)
  clear hb
  go_wp2_with fail
  (with_reducible refine (of_any d hd1 hd2 v2 hE).mono ?_)
  rintro e v3 ⟨⟨ng2, ao2, n2, cap2, rfl, HV2⟩, hb⟩
  have X3 := X3.mono hb
  have HV1 := Lib.hid (HV1.out.mono hb)
  have hE := hE.mono hb
  have hbw := Below.step hbw hb (Nat.le_refl _)
  clear hb
  go_wp2_with fail
  (with_reducible refine (Make_zero _ _ n d v3 HV1.out HV2.out hd hE).mono ?_)
  rintro e v4 ⟨rfl, hb⟩
  have X3 := X3.mono hb
  have HV1 := Lib.hid (HV1.out.mono hb)
  have HV2 := Lib.hid (HV2.out.mono hb)
  have hE := hE.mono hb
  have hbw := Below.step hbw hb (Nat.le_refl _)
  clear hb
  obtain ⟨cX3_0, cX3_1, cX3_2, cX3_3, _, _, _, _⟩ := id X3
  go_wp2
  refine bodyPost_ret (v := .tuple #[.agg #[.bool false, .slice none 0 0, .bool false, .slice none 0 0], .int .i64 8]) (by simp [results, Tryz.results17, go_sem, cX3_0, cX3_1, cX3_2, cX3_3]) rfl ⟨rfl, Below.put4 hbw (by omega) (.bool false) (.slice none 0 0) (.bool false) (.slice none 0 0)⟩

/-- two integers and no error -/
def GotP (w' : World) (x y : Int) (e : Ending) : Prop :=
  ∃ (n1 : Bool) (a1 : Option Addr) (l1 c1 : Nat) (n2 : Bool) (a2 : Option Addr) (l2 c2 : Nat), e = .returned (.tuple #[.agg #[.bool n1, .slice a1 l1 c1], .agg #[.bool n2, .slice a2 l2 c2], .int .i64 0]) ∧
    Hid (IntV w' (.agg #[.bool n1, .slice a1 l1 c1]) x) ∧ Hid (IntV w' (.agg #[.bool n2, .slice a2 l2 c2]) y)

/-- no error: what 'crossed' asks -/
def CrS (a b : Rat) : Prop := Rq.Sm (a.num * b.den) ∧ Rq.Sm (b.num * a.den)

set_option maxRecDepth 100000 in
set_option maxHeartbeats 1600000 in
theorem crossed_ok (va vb : Value) (a b : Rat) (w : World) (ha : RatV w va a) (hb : RatV w vb b) (hs : Hid (Hid (Rq.Sm (a.num * (b.den : Int))) ∧ Hid (Rq.Sm (b.num * (a.den : Int))))) (hE : Env w) :
    Calls Tryz.prog 75 #[va, vb] w fun e w' => GotP w' (a.num * b.den) (b.num * a.den) e ∧ Below w.heap.size w w' := by
  have hE0 := hE
  have hbw := Below.refl w.heap.size w
  obtain ⟨ng1, ao1, n1, cap1, ng2, ao2, n2, cap2, rfl, h1, h2⟩ := ha
  have HV1 := Lib.hid h1
  have HV2 := Lib.hid h2
  clear h1 h2
  obtain ⟨ng3, ao3, n3, cap3, ng4, ao4, n4, cap4, rfl, h1, h2⟩ := hb
  have HV3 := Lib.hid h1
  have HV4 := Lib.hid h2
  clear h1 h2
  go_enter Tryz.func75, Tryz.ntmps75
  go_upto_region 1 with fail
  obtain ⟨wx, hwx, hszx, X1, X2, X3, X4, hb⟩ := boxes_4422 w (.bool ng1) (.slice ao1 n1 cap1) (.bool ng2) (.slice ao2 n2 cap2) 29 (.bool ng3) (.slice ao3 n3 cap3) (.bool ng4) (.slice ao4 n4 cap4) 29 (.bool false) (.slice none 0 0) 24 (.bool false) (.slice none 0 0) 24
  rw [← hwx]
  clear hwx
  obtain ⟨v1, rfl⟩ : ∃ v1 : World, v1 = wx := ⟨_, rfl⟩
  have HV1 := Lib.hid (HV1.out.mono hb)
  have HV2 := Lib.hid (HV2.out.mono hb)
  have HV3 := Lib.hid (HV3.out.mono hb)
  have HV4 := Lib.hid (HV4.out.mono hb)
  have hE := hE.mono hb
  have hbw := Below.step hbw hb (Nat.le_refl _)
  clear hb
  obtain ⟨cX1_0, cX1_1, cX1_2, cX1_3, _, _, _, _⟩ := id X1
  obtain ⟨cX2_0, cX2_1, cX2_2, cX2_3, _, _, _, _⟩ := id X2
  go_wp2_with fail
  (with_reducible refine (Mul_ok _ _ a.num (b.den : Int) v1 HV1.out HV4.out hs.out.1 hE).mono ?_)
  rintro e v2 ⟨⟨ng5, ao5, n5, cap5, rfl, HV5⟩, hb⟩
  have HV1 := Lib.hid (HV1.out.mono hb)
  have HV2 := Lib.hid (HV2.out.mono hb)
  have HV3 := Lib.hid (HV3.out.mono hb)
  have HV4 := Lib.hid (HV4.out.mono hb)
  have X1 := X1.mono hb
  have X2 := X2.mono hb
  have X3 := X3.mono hb
  have X4 := X4.mono hb
  have hE := hE.mono hb
  have hbw := Below.step hbw hb (Nat.le_refl _)
  clear hb
  clear cX1_0 cX1_1 cX1_2 cX1_3 cX2_0 cX2_1 cX2_2 cX2_3
  go_upto_region 2 with fail
  have lX5X1 := X1.lt
  have lX5X2 := X2.lt
  have lX5X3 := X3.lt
  have lX5X4 := X4.lt
  have X5 := Box.new v2 (.bool ng5) (.slice ao5 n5 cap5) 24
  have hb := below_alloc v2 (.cells #[.bool ng5, .slice ao5 n5 cap5] 24)
  generalize v2.alloc (.cells #[.bool ng5, .slice ao5 n5 cap5] 24) = v3 at *
  have HV1 := Lib.hid (HV1.out.mono hb)
  have HV2 := Lib.hid (HV2.out.mono hb)
  have HV3 := Lib.hid (HV3.out.mono hb)
  have HV4 := Lib.hid (HV4.out.mono hb)
  have X1 := X1.mono hb
  have X2 := X2.mono hb
  have X3 := X3.mono hb
  have X4 := X4.mono hb
  have HV5 := Lib.hid (HV5.out.mono hb)
  have hE := hE.mono hb
  have hbw := Below.step hbw hb (Nat.le_refl _)
  clear hb
  obtain ⟨cX1_0, cX1_1, cX1_2, cX1_3, _, _, _, _⟩ := id X1
  obtain ⟨cX2_0, cX2_1, cX2_2, cX2_3, _, _, _, _⟩ := id X2
  go_wp2_with fail
  (with_reducible refine (Mul_ok _ _ b.num (a.den : Int) v3 HV3.out HV2.out hs.out.2 hE).mono ?_)
  rintro e v4 ⟨⟨ng6, ao6, n6, cap6, rfl, HV6⟩, hb⟩
  have HV1 := Lib.hid (HV1.out.mono hb)
  have HV2 := Lib.hid (HV2.out.mono hb)
  have HV3 := Lib.hid (HV3.out.mono hb)
  have HV4 := Lib.hid (HV4.out.mono hb)
  have X1 := X1.mono hb
  have X2 := X2.mono hb
  have X3 := X3.mono hb
  have X4 := X4.mono hb
  have HV5 := Lib.hid (HV5.out.mono hb)
  have X5 := X5.mono hb
  have hE := hE.mono hb
  have hbw := Below.step hbw hb (Nat.le_refl _)
  clear hb
  clear cX1_0 cX1_1 cX1_2 cX1_3 cX2_0 cX2_1 cX2_2 cX2_3
  go_upto_region 5 with fail
  have lX6X1 := X1.lt
  have lX6X2 := X2.lt
  have lX6X3 := X3.lt
  have lX6X4 := X4.lt
  have lX6X5 := X5.lt
  have X6 := Box.new v4 (.bool ng6) (.slice ao6 n6 cap6) 24
  have hb := below_alloc v4 (.cells #[.bool ng6, .slice ao6 n6 cap6] 24)
  generalize v4.alloc (.cells #[.bool ng6, .slice ao6 n6 cap6] 24) = v5 at *
  have HV1 := Lib.hid (HV1.out.mono hb)
  have HV2 := Lib.hid (HV2.out.mono hb)
  have HV3 := Lib.hid (HV3.out.mono hb)
  have HV4 := Lib.hid (HV4.out.mono hb)
  have X1 := X1.mono hb
  have X2 := X2.mono hb
  have X3 := X3.mono hb
  have X4 := X4.mono hb
  have HV5 := Lib.hid (HV5.out.mono hb)
  have X5 := X5.mono hb
  have HV6 := Lib.hid (HV6.out.mono hb)
  have hE := hE.mono hb
  have hbw := Below.step hbw hb (Nat.le_refl _)
  clear hb
  go_upto_region 7 with fail
  obtain ⟨wy, rfl⟩ : ∃ wy : World, wy = v5 := ⟨_, rfl⟩
  obtain ⟨cX5_0, cX5_1, _, _⟩ := id X5
  obtain ⟨cX6_0, cX6_1, _, _⟩ := id X6
  obtain ⟨cX3_0, cX3_1, _, _⟩ := id X3
  obtain ⟨cX4_0, cX4_1, _, _⟩ := id X4
  go_region_with fail
  all_goals
    go_wp2
    exact bodyPost_ret (v := .tuple #[.agg #[.bool ng5, .slice ao5 n5 cap5], .agg #[.bool ng6, .slice ao6 n6 cap6], .int .i64 0]) (by simp [results, Tryz.results75, go_sem, cX3_0, cX3_1, cX4_0, cX4_1]) rfl ⟨⟨ng5, ao5, n5, cap5, ng6, ao6, n6, cap6, rfl, Lib.hid (((HV5.out.put2B X3 (.bool ng5) (.slice ao5 n5 cap5)).put2B (X4.other2 (by omega)) (.bool ng6) (.slice ao6 n6 cap6)).mono (Below.drew (Below.refl _ _))), Lib.hid (((HV6.out.put2B X3 (.bool ng5) (.slice ao5 n5 cap5)).put2B (X4.other2 (by omega)) (.bool ng6) (.slice ao6 n6 cap6)).mono (Below.drew (Below.refl _ _)))⟩, (Below.put2 (Below.put2 hbw (by omega) (.bool ng5) (.slice ao5 n5 cap5)) (by omega) (.bool ng6) (.slice ao6 n6 cap6)).drew⟩

set_option maxRecDepth 100000 in
set_option maxHeartbeats 1600000 in
theorem crossed_b1 (va vb : Value) (a b : Rat) (w : World) (ha : RatV w va a) (hb : RatV w vb b) (hs : Hid (¬ Rq.Sm (a.num * (b.den : Int)))) (hE : Env w) :
    Calls Tryz.prog 75 #[va, vb] w fun e w' => e = .returned (.tuple #[.agg #[.bool false, .slice none 0 0], .agg #[.bool false, .slice none 0 0], .int .i64 3]) ∧ Below w.heap.size w w' := by
  have hE0 := hE
  have hbw := Below.refl w.heap.size w
  obtain ⟨ng1, ao1, n1, cap1, ng2, ao2, n2, cap2, rfl, h1, h2⟩ := ha
  have HV1 := Lib.hid h1
  have HV2 := Lib.hid h2
  clear h1 h2
  obtain ⟨ng3, ao3, n3, cap3, ng4, ao4, n4, cap4, rfl, h1, h2⟩ := hb
  have HV3 := Lib.hid h1
  have HV4 := Lib.hid h2
  clear h1 h2
  go_enter Tryz.func75, Tryz.ntmps75
  go_upto_region 1 with fail
  obtain ⟨wx, hwx, hszx, X1, X2, X3, X4, hb⟩ := boxes_4422 w (.bool ng1) (.slice ao1 n1 cap1) (.bool ng2) (.slice ao2 n2 cap2) 29 (.bool ng3) (.slice ao3 n3 cap3) (.bool ng4) (.slice ao4 n4 cap4) 29 (.bool false) (.slice none 0 0) 24 (.bool false) (.slice none 0 0) 24
  rw [← hwx]
  clear hwx
  obtain ⟨v1, rfl⟩ : ∃ v1 : World, v1 = wx := ⟨_, rfl⟩
  have HV1 := Lib.hid (HV1.out.mono hb)
  have HV2 := Lib.hid (HV2.out.mono hb)
  have HV3 := Lib.hid (HV3.out.mono hb)
  have HV4 := Lib.hid (HV4.out.mono hb)
  have hE := hE.mono hb
  have hbw := Below.step hbw hb (Nat.le_refl _)
  clear hb
  obtain ⟨cX1_0, cX1_1, cX1_2, cX1_3, _, _, _, _⟩ := id X1
  obtain ⟨cX2_0, cX2_1, cX2_2, cX2_3, _, _, _, _⟩ := id X2
  go_wp2_with fail
  (with_reducible refine (Mul_big _ _ a.num (b.den : Int) v1 HV1.out HV4.out hs hE).mono ?_)
  rintro e v2 ⟨rfl, hb⟩
  have HV1 := Lib.hid (HV1.out.mono hb)
  have HV2 := Lib.hid (HV2.out.mono hb)
  have HV3 := Lib.hid (HV3.out.mono hb)
  have HV4 := Lib.hid (HV4.out.mono hb)
  have X1 := X1.mono hb
  have X2 := X2.mono hb
  have X3 := X3.mono hb
  have X4 := X4.mono hb
  have hE := hE.mono hb
  have hbw := Below.step hbw hb (Nat.le_refl _)
  clear hb
  clear cX1_0 cX1_1 cX1_2 cX1_3 cX2_0 cX2_1 cX2_2 cX2_3
  go_upto_region 2 with fail
  have lX5X1 := X1.lt
  have lX5X2 := X2.lt
  have lX5X3 := X3.lt
  have lX5X4 := X4.lt
  have X5 := Box.new v2 (.bool false) (.slice none 0 0) 24
  have hb := below_alloc v2 (.cells #[.bool false, .slice none 0 0] 24)
  generalize v2.alloc (.cells #[.bool false, .slice none 0 0] 24) = v3 at *
  have HV1 := Lib.hid (HV1.out.mono hb)
  have HV2 := Lib.hid (HV2.out.mono hb)
  have HV3 := Lib.hid (HV3.out.mono hb)
  have HV4 := Lib.hid (HV4.out.mono hb)
  have X1 := X1.mono hb
  have X2 := X2.mono hb
  have X3 := X3.mono hb
  have X4 := X4.mono hb
  have hE := hE.mono hb
  have hbw := Below.step hbw hb (Nat.le_refl _)
  clear hb
  obtain ⟨cX3_0, cX3_1, _, _⟩ := id X3
  obtain ⟨cX4_0, cX4_1, _, _⟩ := id X4
  go_wp2
  refine bodyPost_ret (v := .tuple #[.agg #[.bool false, .slice none 0 0], .agg #[.bool false, .slice none 0 0], .int .i64 3]) (by simp [results, Tryz.results75, go_sem, cX3_0, cX3_1, cX4_0, cX4_1]) rfl ⟨rfl, Below.put2 (Below.put2 hbw (by omega) (.bool false) (.slice none 0 0)) (by omega) (.bool false) (.slice none 0 0)⟩

set_option maxRecDepth 100000 in
set_option maxHeartbeats 1600000 in
theorem crossed_b2 (va vb : Value) (a b : Rat) (w : World) (ha : RatV w va a) (hb : RatV w vb b) (hs : Hid (Hid (Rq.Sm (a.num * (b.den : Int))) ∧ Hid (¬ Rq.Sm (b.num * (a.den : Int))))) (hE : Env w) :
    Calls Tryz.prog 75 #[va, vb] w fun e w' => e = .returned (.tuple #[.agg #[.bool false, .slice none 0 0], .agg #[.bool false, .slice none 0 0], .int .i64 3]) ∧ Below w.heap.size w w' := by
  have hE0 := hE
  have hbw := Below.refl w.heap.size w
  obtain ⟨ng1, ao1, n1, cap1, ng2, ao2, n2, cap2, rfl, h1, h2⟩ := ha
  have HV1 := Lib.hid h1
  have HV2 := Lib.hid h2
  clear h1 h2
  obtain ⟨ng3, ao3, n3, cap3, ng4, ao4, n4, cap4, rfl, h1, h2⟩ := hb
  have HV3 := Lib.hid h1
  have HV4 := Lib.hid h2
  clear h1 h2
  go_enter Tryz.func75, Tryz.ntmps75
  go_upto_region 1 with fail
  obtain ⟨wx, hwx, hszx, X1, X2, X3, X4, hb⟩ := boxes_4422 w (.bool ng1) (.slice ao1 n1 cap1) (.bool ng2) (.slice ao2 n2 cap2) 29 (.bool ng3) (.slice ao3 n3 cap3) (.bool ng4) (.slice ao4 n4 cap4) 29 (.bool false) (.slice none 0 0) 24 (.bool false) (.slice none 0 0) 24
  rw [← hwx]
  clear hwx
  obtain ⟨v1, rfl⟩ : ∃ v1 : World, v1 = wx := ⟨_, rfl⟩
  have HV1 := Lib.hid (HV1.out.mono hb)
  have HV2 := Lib.hid (HV2.out.mono hb)
  have HV3 := Lib.hid (HV3.out.mono hb)
  have HV4 := Lib.hid (HV4.out.mono hb)
  have hE := hE.mono hb
  have hbw := Below.step hbw hb (Nat.le_refl _)
  clear hb
  obtain ⟨cX1_0, cX1_1, cX1_2, cX1_3, _, _, _, _⟩ := id X1
  obtain ⟨cX2_0, cX2_1, cX2_2, cX2_3, _, _, _, _⟩ := id X2
  go_wp2_with fail
  (with_reducible refine (Mul_ok _ _ a.num (b.den : Int) v1 HV1.out HV4.out hs.out.1 hE).mono ?_)
  rintro e v2 ⟨⟨ng5, ao5, n5, cap5, rfl, HV5⟩, hb⟩
  have HV1 := Lib.hid (HV1.out.mono hb)
  have HV2 := Lib.hid (HV2.out.mono hb)
  have HV3 := Lib.hid (HV3.out.mono hb)
  have HV4 := Lib.hid (HV4.out.mono hb)
  have X1 := X1.mono hb
  have X2 := X2.mono hb
  have X3 := X3.mono hb
  have X4 := X4.mono hb
  have hE := hE.mono hb
  have hbw := Below.step hbw hb (Nat.le_refl _)
  clear hb
  clear cX1_0 cX1_1 cX1_2 cX1_3 cX2_0 cX2_1 cX2_2 cX2_3
  go_upto_region 2 with fail
  have lX5X1 := X1.lt
  have lX5X2 := X2.lt
  have lX5X3 := X3.lt
  have lX5X4 := X4.lt
  have X5 := Box.new v2 (.bool ng5) (.slice ao5 n5 cap5) 24
  have hb := below_alloc v2 (.cells #[.bool ng5, .slice ao5 n5 cap5] 24)
  generalize v2.alloc (.cells #[.bool ng5, .slice ao5 n5 cap5] 24) = v3 at *
  have HV1 := Lib.hid (HV1.out.mono hb)
  have HV2 := Lib.hid (HV2.out.mono hb)
  have HV3 := Lib.hid (HV3.out.mono hb)
  have HV4 := Lib.hid (HV4.out.mono hb)
  have X1 := X1.mono hb
  have X2 := X2.mono hb
  have X3 := X3.mono hb
  have X4 := X4.mono hb
  have HV5 := Lib.hid (HV5.out.mono hb)
  have hE := hE.mono hb
  have hbw := Below.step hbw hb (Nat.le_refl _)
  clear hb
  obtain ⟨cX1_0, cX1_1, cX1_2, cX1_3, _, _, _, _⟩ := id X1
  obtain ⟨cX2_0, cX2_1, cX2_2, cX2_3, _, _, _, _⟩ := id X2
  go_wp2_with fail
  (with_reducible refine (Mul_big _ _ b.num (a.den : Int) v3 HV3.out HV2.out hs.out.2 hE).mono ?_)
  rintro e v4 ⟨rfl, hb⟩
  have HV1 := Lib.hid (HV1.out.mono hb)
  have HV2 := Lib.hid (HV2.out.mono hb)
  have HV3 := Lib.hid (HV3.out.mono hb)
  have HV4 := Lib.hid (HV4.out.mono hb)
  have X1 := X1.mono hb
  have X2 := X2.mono hb
  have X3 := X3.mono hb
  have X4 := X4.mono hb
  have HV5 := Lib.hid (HV5.out.mono hb)
  have X5 := X5.mono hb
  have hE := hE.mono hb
  have hbw := Below.step hbw hb (Nat.le_refl _)
  clear hb
  clear cX1_0 cX1_1 cX1_2 cX1_3 cX2_0 cX2_1 cX2_2 cX2_3
  go_upto_region 5 with fail
  have lX6X1 := X1.lt
  have lX6X2 := X2.lt
  have lX6X3 := X3.lt
  have lX6X4 := X4.lt
  have lX6X5 := X5.lt
  have X6 := Box.new v4 (.bool false) (.slice none 0 0) 24
  have hb := below_alloc v4 (.cells #[.bool false, .slice none 0 0] 24)
  generalize v4.alloc (.cells #[.bool false, .slice none 0 0] 24) = v5 at *
  have HV1 := Lib.hid (HV1.out.mono hb)
  have HV2 := Lib.hid (HV2.out.mono hb)
  have HV3 := Lib.hid (HV3.out.mono hb)
  have HV4 := Lib.hid (HV4.out.mono hb)
  have X1 := X1.mono hb
  have X2 := X2.mono hb
  have X3 := X3.mono hb
  have X4 := X4.mono hb
  have HV5 := Lib.hid (HV5.out.mono hb)
  have X5 := X5.mono hb
  have hE := hE.mono hb
  have hbw := Below.step hbw hb (Nat.le_refl _)
  clear hb
  obtain ⟨cX3_0, cX3_1, _, _⟩ := id X3
  obtain ⟨cX4_0, cX4_1, _, _⟩ := id X4
  go_wp2
  refine bodyPost_ret (v := .tuple #[.agg #[.bool false, .slice none 0 0], .agg #[.bool false, .slice none 0 0], .int .i64 3]) (by simp [results, Tryz.results75, go_sem, cX3_0, cX3_1, cX4_0, cX4_1]) rfl ⟨rfl, Below.put2 (Below.put2 hbw (by omega) (.bool false) (.slice none 0 0)) (by omega) (.bool false) (.slice none 0 0)⟩

theorem crossed_big (va vb : Value) (a b : Rat) (w : World) (ha : RatV w va a) (hb : RatV w vb b) (hs : Hid (¬ CrS a b)) (hE : Env w) :
    Calls Tryz.prog 75 #[va, vb] w fun e w' => e = .returned (.tuple #[.agg #[.bool false, .slice none 0 0], .agg #[.bool false, .slice none 0 0], .int .i64 3]) ∧ Below w.heap.size w w' := by
  by_cases h1 : Rq.Sm (a.num * b.den)
  · exact crossed_b2 va vb a b w ha hb (Lib.hid ⟨Lib.hid h1, Lib.hid fun h => hs.out ⟨h1, h⟩⟩) hE
  · exact crossed_b1 va vb a b w ha hb (Lib.hid h1) hE

theorem RatV.mk' {w : World} {ng1 : Bool} {ao1 : Option Addr} {n1 cap1 : Nat} {ng2 : Bool} {ao2 : Option Addr} {n2 cap2 : Nat} {r : Rat} (h1 : Hid (IntV w (.agg #[.bool ng1, .slice ao1 n1 cap1]) r.num)) (h2 : Hid (IntV w (.agg #[.bool ng2, .slice ao2 n2 cap2]) (r.den : Int))) :
    RatV w (.agg #[.bool ng1, .slice ao1 n1 cap1, .bool ng2, .slice ao2 n2 cap2]) r := ⟨_, _, _, _, _, _, _, _, rfl, h1.out, h2.out⟩

set_option maxRecDepth 100000 in
set_option maxHeartbeats 1600000 in
theorem Cmp_q (va vb : Value) (a b : Rat) (w : World) (ha : RatV w va a) (hb : RatV w vb b) (hs : Hid (CrS a b)) (hE : Env w) :
    Calls Tryz.prog 29 #[va, vb] w fun e w' => e = .returned (.tuple #[.int .i64 (Rq.cmpQ a b), .int .i64 0]) ∧ Below w.heap.size w w' := by
  have HS : Hid (Hid (Rq.Sm (a.num * (b.den : Int))) ∧ Hid (Rq.Sm (b.num * (a.den : Int)))) := Lib.hid ⟨Lib.hid hs.out.1, Lib.hid hs.out.2⟩
  have hE0 := hE
  have hbw := Below.refl w.heap.size w
  obtain ⟨ng1, ao1, n1, cap1, ng2, ao2, n2, cap2, rfl, h1, h2⟩ := ha
  have HV1 := Lib.hid h1
  have HV2 := Lib.hid h2
  clear h1 h2
  obtain ⟨ng3, ao3, n3, cap3, ng4, ao4, n4, cap4, rfl, h1, h2⟩ := hb
  have HV3 := Lib.hid h1
  have HV4 := Lib.hid h2
  clear h1 h2
  go_enter Tryz.func29, Tryz.ntmps29
  go_upto_region 1 with fail
  obtain ⟨wx, hwx, hszx, X1, X2, hb⟩ := boxes_44 w (.bool ng1) (.slice ao1 n1 cap1) (.bool ng2) (.slice ao2 n2 cap2) 29 (.bool ng3) (.slice ao3 n3 cap3) (.bool ng4) (.slice ao4 n4 cap4) 29
  rw [← hwx]
  clear hwx
  obtain ⟨v1, rfl⟩ : ∃ v1 : World, v1 = wx := ⟨_, rfl⟩
  have HV1 := Lib.hid (HV1.out.mono hb)
  have HV2 := Lib.hid (HV2.out.mono hb)
  have HV3 := Lib.hid (HV3.out.mono hb)
  have HV4 := Lib.hid (HV4.out.mono hb)
  have hE := hE.mono hb
  have hbw := Below.step hbw hb (Nat.le_refl _)
  clear hb
  obtain ⟨cX1_0, cX1_1, cX1_2, cX1_3, _, _, _, _⟩ := id X1
  go_wp2_with fail
  (with_reducible refine (Valid_true _ a v1 (RatV.mk' HV1 HV2) hE).mono ?_)
  rintro e v2 ⟨rfl, hb⟩
  have HV1 := Lib.hid (HV1.out.mono hb)
  have HV2 := Lib.hid (HV2.out.mono hb)
  have HV3 := Lib.hid (HV3.out.mono hb)
  have HV4 := Lib.hid (HV4.out.mono hb)
  have X1 := X1.mono hb
  have X2 := X2.mono hb
  have hE := hE.mono hb
  have hbw := Below.step hbw hb (Nat.le_refl _)
  clear hb
  clear cX1_0 cX1_1 cX1_2 cX1_3
  obtain ⟨cX2_0, cX2_1, cX2_2, cX2_3, _, _, _, _⟩ := id X2
  go_wp2_with fail
  (with_reducible refine (Valid_true _ b v2 (RatV.mk' HV3 HV4) hE).mono ?_)
  rintro e v3 ⟨rfl, hb⟩
  have HV1 := Lib.hid (HV1.out.mono hb)
  have HV2 := Lib.hid (HV2.out.mono hb)
  have HV3 := Lib.hid (HV3.out.mono hb)
  have HV4 := Lib.hid (HV4.out.mono hb)
  have X1 := X1.mono hb
  have X2 := X2.mono hb
  have hE := hE.mono hb
  have hbw := Below.step hbw hb (Nat.le_refl _)
  clear hb
  clear cX2_0 cX2_1 cX2_2 cX2_3
  obtain ⟨cX1_0, cX1_1, cX1_2, cX1_3, _, _, _, _⟩ := id X1
  obtain ⟨cX2_0, cX2_1, cX2_2, cX2_3, _, _, _, _⟩ := id X2
  go_wp2_with fail
  (with_reducible refine (crossed_ok _ _ a b v3 (RatV.mk' HV1 HV2) (RatV.mk' HV3 HV4) HS hE).mono ?_)
  rintro e v4 ⟨⟨ng5, ao5, n5, cap5, ng6, ao6, n6, cap6, rfl, HV5, HV6⟩, hb⟩
  have HV1 := Lib.hid (HV1.out.mono hb)
  have HV2 := Lib.hid (HV2.out.mono hb)
  have HV3 := Lib.hid (HV3.out.mono hb)
  have HV4 := Lib.hid (HV4.out.mono hb)
  have X1 := X1.mono hb
  have X2 := X2.mono hb
  have hE := hE.mono hb
  have hbw := Below.step hbw hb (Nat.le_refl _)
  clear hb
  clear cX1_0 cX1_1 cX1_2 cX1_3 cX2_0 cX2_1 cX2_2 cX2_3
  go_upto_region 4 with fail
  have lX5X1 := X1.lt
  have lX5X2 := X2.lt
  obtain ⟨wx, hwx, hszx, X5, X6, hb⟩ := boxes_22 v4 (.bool ng5) (.slice ao5 n5 cap5) 24 (.bool ng6) (.slice ao6 n6 cap6) 24
  rw [← hwx]
  clear hwx
  obtain ⟨v5, rfl⟩ : ∃ v5 : World, v5 = wx := ⟨_, rfl⟩
  have HV1 := Lib.hid (HV1.out.mono hb)
  have HV2 := Lib.hid (HV2.out.mono hb)
  have HV3 := Lib.hid (HV3.out.mono hb)
  have HV4 := Lib.hid (HV4.out.mono hb)
  have X1 := X1.mono hb
  have X2 := X2.mono hb
  have HV5 := Lib.hid (HV5.out.mono hb)
  have HV6 := Lib.hid (HV6.out.mono hb)
  have hE := hE.mono hb
  have hbw := Below.step hbw hb (Nat.le_refl _)
  clear hb
  obtain ⟨cX5_0, cX5_1, _, _⟩ := id X5
  obtain ⟨cX6_0, cX6_1, _, _⟩ := id X6
  go_wp2_with fail
  (with_reducible refine (Cmp_eq _ _ (a.num * (b.den : Int)) (b.num * (a.den : Int)) (Rq.cmpQ a b) v5 (Lib.hid (by unfold cmpZ; exact Rq.cmp_eq a b)) HV5.out HV6.out hE).mono ?_)
  rintro e v6 ⟨rfl, hb⟩
  have HV1 := Lib.hid (HV1.out.mono hb)
  have HV2 := Lib.hid (HV2.out.mono hb)
  have HV3 := Lib.hid (HV3.out.mono hb)
  have HV4 := Lib.hid (HV4.out.mono hb)
  have X1 := X1.mono hb
  have X2 := X2.mono hb
  have HV5 := Lib.hid (HV5.out.mono hb)
  have HV6 := Lib.hid (HV6.out.mono hb)
  have X5 := X5.mono hb
  have X6 := X6.mono hb
  have hE := hE.mono hb
  have hbw := Below.step hbw hb (Nat.le_refl _)
  clear hb
  clear cX5_0 cX5_1 cX6_0 cX6_1
  go_wp2
  go_ret2
  exact ⟨rfl, hbw⟩

set_option maxRecDepth 100000 in
set_option maxHeartbeats 1600000 in
theorem Cmp_qbig (va vb : Value) (a b : Rat) (w : World) (ha : RatV w va a) (hb : RatV w vb b) (hs : Hid (¬ CrS a b)) (hE : Env w) :
    Calls Tryz.prog 29 #[va, vb] w fun e w' => e = .returned (.tuple #[.int .i64 0, .int .i64 3]) ∧ Below w.heap.size w w' := by
  have hE0 := hE
  have hbw := Below.refl w.heap.size w
  obtain ⟨ng1, ao1, n1, cap1, ng2, ao2, n2, cap2, rfl, h1, h2⟩ := ha
  have HV1 := Lib.hid h1
  have HV2 := Lib.hid h2
  clear h1 h2
  obtain ⟨ng3, ao3, n3, cap3, ng4, ao4, n4, cap4, rfl, h1, h2⟩ := hb
  have HV3 := Lib.hid h1
  have HV4 := Lib.hid h2
  clear h1 h2
  go_enter Tryz.func29, Tryz.ntmps29
  go_upto_region 1 with fail
  obtain ⟨wx, hwx, hszx, X1, X2, hb⟩ := boxes_44 w (.bool ng1) (.slice ao1 n1 cap1) (.bool ng2) (.slice ao2 n2 cap2) 29 (.bool ng3) (.slice ao3 n3 cap3) (.bool ng4) (.slice ao4 n4 cap4) 29
  rw [← hwx]
  clear hwx
  obtain ⟨v1, rfl⟩ : ∃ v1 : World, v1 = wx := ⟨_, rfl⟩
  have HV1 := Lib.hid (HV1.out.mono hb)
  have HV2 := Lib.hid (HV2.out.mono hb)
  have HV3 := Lib.hid (HV3.out.mono hb)
  have HV4 := Lib.hid (HV4.out.mono hb)
  have hE := hE.mono hb
  have hbw := Below.step hbw hb (Nat.le_refl _)
  clear hb
  obtain ⟨cX1_0, cX1_1, cX1_2, cX1_3, _, _, _, _⟩ := id X1
  go_wp2_with fail
  (with_reducible refine (Valid_true _ a v1 (RatV.mk' HV1 HV2) hE).mono ?_)
  rintro e v2 ⟨rfl, hb⟩
  have HV1 := Lib.hid (HV1.out.mono hb)
  have HV2 := Lib.hid (HV2.out.mono hb)
  have HV3 := Lib.hid (HV3.out.mono hb)
  have HV4 := Lib.hid (HV4.out.mono hb)
  have X1 := X1.mono hb
  have X2 := X2.mono hb
  have hE := hE.mono hb
  have hbw := Below.step hbw hb (Nat.le_refl _)
  clear hb
  clear cX1_0 cX1_1 cX1_2 cX1_3
  obtain ⟨cX2_0, cX2_1, cX2_2, cX2_3, _, _, _, _⟩ := id X2
  go_wp2_with fail
  (with_reducible refine (Valid_true _ b v2 (RatV.mk' HV3 HV4) hE).mono ?_)
  rintro e v3 ⟨rfl, hb⟩
  have HV1 := Lib.hid (HV1.out.mono hb)
  have HV2 := Lib.hid (HV2.out.mono hb)
  have HV3 := Lib.hid (HV3.out.mono hb)
  have HV4 := Lib.hid (HV4.out.mono hb)
  have X1 := X1.mono hb
  have X2 := X2.mono hb
  have hE := hE.mono hb
  have hbw := Below.step hbw hb (Nat.le_refl _)
  clear hb
  clear cX2_0 cX2_1 cX2_2 cX2_3
  obtain ⟨cX1_0, cX1_1, cX1_2, cX1_3, _, _, _, _⟩ := id X1
  obtain ⟨cX2_0, cX2_1, cX2_2, cX2_3, _, _, _, _⟩ := id X2
  go_wp2_with fail
  (with_reducible refine (crossed_big _ _ a b v3 (RatV.mk' HV1 HV2) (RatV.mk' HV3 HV4) hs hE).mono ?_)
  rintro e v4 ⟨rfl, hb⟩
  have HV1 := Lib.hid (HV1.out.mono hb)
  have HV2 := Lib.hid (HV2.out.mono hb)
  have HV3 := Lib.hid (HV3.out.mono hb)
  have HV4 := Lib.hid (HV4.out.mono hb)
  have X1 := X1.mono hb
  have X2 := X2.mono hb
  have hE := hE.mono hb
  have hbw := Below.step hbw hb (Nat.le_refl _)
  clear hb
  clear cX1_0 cX1_1 cX1_2 cX1_3 cX2_0 cX2_1 cX2_2 cX2_3
  go_upto_region 4 with fail
  have lX5X1 := X1.lt
  have lX5X2 := X2.lt
  obtain ⟨wx, hwx, hszx, X5, X6, hb⟩ := boxes_22 v4 (.bool false) (.slice none 0 0) 24 (.bool false) (.slice none 0 0) 24
  rw [← hwx]
  clear hwx
  obtain ⟨v5, rfl⟩ : ∃ v5 : World, v5 = wx := ⟨_, rfl⟩
  have HV1 := Lib.hid (HV1.out.mono hb)
  have HV2 := Lib.hid (HV2.out.mono hb)
  have HV3 := Lib.hid (HV3.out.mono hb)
  have HV4 := Lib.hid (HV4.out.mono hb)
  have X1 := X1.mono hb
  have X2 := X2.mono hb
  have hE := hE.mono hb
  have hbw := Below.step hbw hb (Nat.le_refl _)
  clear hb
  go_wp2
  go_ret2
  exact ⟨rfl, hbw⟩

set_option maxRecDepth 100000 in
set_option maxHeartbeats 1600000 in
theorem Cmp_q_i1 (va vb : Value) (bb : Bool) (w : World) (hqa : VQ w va false) (hqb : VQ w vb bb) (hE : Env w) :
    Calls Tryz.prog 29 #[va, vb] w fun e w' => e = .returned (.tuple #[.int .i64 0, .int .i64 1]) ∧ Below w.heap.size w w' := by
  have hE0 := hE
  have hbw := Below.refl w.heap.size w
  obtain ⟨ng1, ao1, n1, cap1, ng2, ao2, n2, cap2, rfl⟩ := hqa.parts
  obtain ⟨ng3, ao3, n3, cap3, ng4, ao4, n4, cap4, rfl⟩ := hqb.parts
  go_enter Tryz.func29, Tryz.ntmps29
  go_upto_region 1 with fail
  obtain ⟨wx, hwx, hszx, X1, X2, hb⟩ := boxes_44 w (.bool ng1) (.slice ao1 n1 cap1) (.bool ng2) (.slice ao2 n2 cap2) 29 (.bool ng3) (.slice ao3 n3 cap3) (.bool ng4) (.slice ao4 n4 cap4) 29
  rw [← hwx]
  clear hwx
  obtain ⟨v1, rfl⟩ : ∃ v1 : World, v1 = wx := ⟨_, rfl⟩
  have hqa := hqa.mono hb
  have hqb := hqb.mono hb
  have hE := hE.mono hb
  have hbw := Below.step hbw hb (Nat.le_refl _)
  clear hb
  obtain ⟨cX1_0, cX1_1, cX1_2, cX1_3, _, _, _, _⟩ := id X1
  go_wp2_with fail
  (with_reducible refine (Valid_v _ false v1 hqa hE).mono ?_)
  rintro e v2 ⟨rfl, hb⟩
  have hqa := hqa.mono hb
  have hqb := hqb.mono hb
  have X1 := X1.mono hb
  have X2 := X2.mono hb
  have hE := hE.mono hb
  have hbw := Below.step hbw hb (Nat.le_refl _)
  clear hb
  clear cX1_0 cX1_1 cX1_2 cX1_3
  go_wp2
  go_ret2
  exact ⟨rfl, hbw⟩

set_option maxRecDepth 100000 in
set_option maxHeartbeats 1600000 in
theorem Cmp_q_i2 (va vb : Value) (w : World) (hqa : VQ w va true) (hqb : VQ w vb false) (hE : Env w) :
    Calls Tryz.prog 29 #[va, vb] w fun e w' => e = .returned (.tuple #[.int .i64 0, .int .i64 1]) ∧ Below w.heap.size w w' := by
  have hE0 := hE
  have hbw := Below.refl w.heap.size w
  obtain ⟨ng1, ao1, n1, cap1, ng2, ao2, n2, cap2, rfl⟩ := hqa.parts
  obtain ⟨ng3, ao3, n3, cap3, ng4, ao4, n4, cap4, rfl⟩ := hqb.parts
  go_enter Tryz.func29, Tryz.ntmps29
  go_upto_region 1 with fail
  obtain ⟨wx, hwx, hszx, X1, X2, hb⟩ := boxes_44 w (.bool ng1) (.slice ao1 n1 cap1) (.bool ng2) (.slice ao2 n2 cap2) 29 (.bool ng3) (.slice ao3 n3 cap3) (.bool ng4) (.slice ao4 n4 cap4) 29
  rw [← hwx]
  clear hwx
  obtain ⟨v1, rfl⟩ : ∃ v1 : World, v1 = wx := ⟨_, rfl⟩
  have hqa := hqa.mono hb
  have hqb := hqb.mono hb
  have hE := hE.mono hb
  have hbw := Below.step hbw hb (Nat.le_refl _)
  clear hb
  obtain ⟨cX1_0, cX1_1, cX1_2, cX1_3, _, _, _, _⟩ := id X1
  go_wp2_with fail
  (with_reducible refine (Valid_v _ true v1 hqa hE).mono ?_)
  rintro e v2 ⟨rfl, hb⟩
  have hqa := hqa.mono hb
  have hqb := hqb.mono hb
  have X1 := X1.mono hb
  have X2 := X2.mono hb
  have hE := hE.mono hb
  have hbw := Below.step hbw hb (Nat.le_refl _)
  clear hb
  clear cX1_0 cX1_1 cX1_2 cX1_3
  obtain ⟨cX2_0, cX2_1, cX2_2, cX2_3, _, _, _, _⟩ := id X2
  go_wp2_with fail
  (with_reducible refine (Valid_v _ false v2 hqb hE).mono ?_)
  rintro e v3 ⟨rfl, hb⟩
  have hqa := hqa.mono hb
  have hqb := hqb.mono hb
  have X1 := X1.mono hb
  have X2 := X2.mono hb
  have hE := hE.mono hb
  have hbw := Below.step hbw hb (Nat.le_refl _)
  clear hb
  clear cX2_0 cX2_1 cX2_2 cX2_3
  go_wp2
  go_ret2
  exact ⟨rfl, hbw⟩

theorem Cmp_q_inv (va vb : Value) (ba bb : Bool) (w : World) (ha : VQ w va ba) (hb : VQ w vb bb) (hn : Hid (¬ (ba = true ∧ bb = true))) (hE : Env w) :
    Calls Tryz.prog 29 #[va, vb] w fun e w' => e = .returned (.tuple #[.int .i64 0, .int .i64 1]) ∧ Below w.heap.size w w' := by
  cases ba
  · exact Cmp_q_i1 va vb bb w ha hb hE
  · cases bb
    · exact Cmp_q_i2 va vb w ha hb hE
    · exact absurd ⟨rfl, rfl⟩ hn.out

end Go.Proofs.YtgenhkakcbedaaaGreatDoor
