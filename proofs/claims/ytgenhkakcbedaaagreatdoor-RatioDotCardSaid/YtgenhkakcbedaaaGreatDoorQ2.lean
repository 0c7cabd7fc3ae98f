import Derived.Test.YtgenhkakcbedaaaGreatDoorQ1
import Derived.Deep.RegionHeld3
import Derived.RegionTactic
import Derived.BigRegion
namespace Go.Proofs.YtgenhkakcbedaaaGreatDoor
open Go.RowKit

theorem Sign_eq (a : Value) (x s : Int) (w : World) (hs : Hid (sgnI x = s)) (ha : IntV w a x) (hE : Env w) :
    Calls Tryz.prog 57 #[a] w fun e w' => e = .returned (.int .i64 s) ∧ Below w.heap.size w w' := by
  rw [← hs.out]; exact Sign_any a x w ha hE

set_option maxRecDepth 100000 in
set_option maxHeartbeats 1600000 in
theorem reduced_neg (a b : Value) (p q : Int) (w : World) (ha : IntV w a p) (hb : IntV w b q) (hq : Hid (q < 0)) (hE : Env w) :
    Calls Tryz.prog 58 #[a, b] w fun e w' => GotQ w' (Rat.divInt p q) e ∧ Below w.heap.size w w' := by
  obtain ⟨ng1, ao1, n1, cap1, rfl⟩ := ha.parts
  obtain ⟨ng2, ao2, n2, cap2, rfl⟩ := hb.parts
  have HV1 := Lib.hid ha
  have HV2 := Lib.hid hb
  have hE0 := hE
  clear ha hb
  have hbw := Below.refl w.heap.size w
  have HS : Hid (sgnI q = -1) := Lib.hid (by have := hq.out; unfold sgnI; split <;> (try split) <;> omega)
  have HQ : Hid (q ≠ 0) := Lib.hid (by have := hq.out; omega)
  go_enter Tryz.func58, Tryz.ntmps58
  go_upto_region 1 with fail
  obtain ⟨wx, hwx, hszx, X1, X2, X3, hb⟩ := boxes_224 w (.bool ng1) (.slice ao1 n1 cap1) 24 (.bool ng2) (.slice ao2 n2 cap2) 24 (.bool false) (.slice none 0 0) (.bool false) (.slice none 0 0) 29
  rw [← hwx]
  clear hwx
  obtain ⟨v1, rfl⟩ : ∃ v1 : World, v1 = wx := ⟨_, rfl⟩
  have HV1 := Lib.hid (HV1.out.mono hb)
  have HV2 := Lib.hid (HV2.out.mono hb)
  have hE := hE.mono hb
  have hbw := Below.step hbw hb (Nat.le_refl _)
  clear hb
  obtain ⟨cX1_0, cX1_1, _, _⟩ := id X1
  obtain ⟨cX2_0, cX2_1, _, _⟩ := id X2
  go_wp2_with fail
  (with_reducible refine (Gcd_ok _ _ p q v1 HV1.out HV2.out hE).mono ?_)
  rintro e v2 ⟨⟨ng3, ao3, n3, cap3, rfl, HV3⟩, hb⟩
  have HV1 := Lib.hid (HV1.out.mono hb)
  have HV2 := Lib.hid (HV2.out.mono hb)
  have X1 := X1.mono hb
  have X2 := X2.mono hb
  have X3 := X3.mono hb
  have hE := hE.mono hb
  have hbw := Below.step hbw hb (Nat.le_refl _)
  clear hb
  clear cX1_0 cX1_1 cX2_0 cX2_1
  go_upto_region 2 with fail
  have lX4X1 := X1.lt
  have lX4X2 := X2.lt
  have lX4X3 := X3.lt
  have X4 := Box.new v2 (.bool ng3) (.slice ao3 n3 cap3) 24
  have hb := below_alloc v2 (.cells #[.bool ng3, .slice ao3 n3 cap3] 24)
  generalize v2.alloc (.cells #[.bool ng3, .slice ao3 n3 cap3] 24) = v3 at *
  have HV1 := Lib.hid (HV1.out.mono hb)
  have HV2 := Lib.hid (HV2.out.mono hb)
  have X1 := X1.mono hb
  have X2 := X2.mono hb
  have X3 := X3.mono hb
  have HV3 := Lib.hid (HV3.out.mono hb)
  have hE := hE.mono hb
  have hbw := Below.step hbw hb (Nat.le_refl _)
  clear hb
  obtain ⟨cX2_0, cX2_1, _, _⟩ := id X2
  go_wp2_with fail
  (with_reducible refine (Sign_eq _ q (-1) v3 HS HV2.out hE).mono ?_)
  rintro e v4 ⟨rfl, hb⟩
  have HV1 := Lib.hid (HV1.out.mono hb)
  have HV2 := Lib.hid (HV2.out.mono hb)
  have X1 := X1.mono hb
  have X2 := X2.mono hb
  have X3 := X3.mono hb
  have HV3 := Lib.hid (HV3.out.mono hb)
  have X4 := X4.mono hb
  have hE := hE.mono hb
  have hbw := Below.step hbw hb (Nat.le_refl _)
  clear hb
  clear cX2_0 cX2_1
  go_upto_region 5 with fail
  have HG : Hid (Rq.Sm (0 - ((Int.gcd p q : Nat) : Int))) := Lib.hid (Rq.sm_neg HV3.out.small)
  obtain ⟨wy, rfl⟩ : ∃ wy : World, wy = v4 := ⟨_, rfl⟩
  go_cut [7] (fun s7 wc => SubK wy wc v2.heap.size s7 (0 - ((Int.gcd p q : Nat) : Int)))
  case first =>
    obtain ⟨_, _, _, _⟩ := id X4
    go_region_with (first
       | (go_at_call 62; ((with_reducible refine (of_any 0 (by decide) (by decide) _ (hE.mono ?_)).mono ?_); ((repeat' (first | with_reducible assumption | with_reducible exact Below.refl _ _ | with_reducible refine Below.drew ?_ | with_reducible refine Below.alloc ?_ ?_ _ | with_reducible refine Below.setCell ?_ ?_ _ | with_reducible refine Below.step ?_ he2 ?_ | with_reducible refine Below.step ?_ he1 ?_ | (first | exact Nat.le_refl _ | omega | (simp; done) | (simp; omega) | (unfold World.setCell; simp; done) | (unfold World.setCell; simp; omega)))))); rintro e t1 ⟨⟨ng5, ao5, n5, cap5, rfl, HV5⟩, he1⟩; have HT1 : Below wy.heap.size wy t1 := (by (repeat' (first | with_reducible assumption | with_reducible exact Below.refl _ _ | with_reducible refine Below.drew ?_ | with_reducible refine Below.alloc ?_ ?_ _ | with_reducible refine Below.setCell ?_ ?_ _ | with_reducible refine Below.step ?_ he2 ?_ | with_reducible refine Below.step ?_ he1 ?_ | (first | exact Nat.le_refl _ | omega | (simp; done) | (simp; omega) | (unfold World.setCell; simp; done) | (unfold World.setCell; simp; omega))))); have ht1 := HT1.size; have hX4 := X4.mono HT1; obtain ⟨_, _, _, _⟩ := id hX4)
       | (go_at_call 48; ((with_reducible refine (Sub_ok _ _ 0 ((Int.gcd p q : Nat) : Int) _ (HV5.out.mono ?_) (HV3.out.mono ?_) HG (hE.mono ?_)).mono ?_); ((repeat' (first | with_reducible assumption | with_reducible exact Below.refl _ _ | with_reducible refine Below.drew ?_ | with_reducible refine Below.alloc ?_ ?_ _ | with_reducible refine Below.setCell ?_ ?_ _ | with_reducible refine Below.step ?_ he2 ?_ | with_reducible refine Below.step ?_ he1 ?_ | (first | exact Nat.le_refl _ | omega | (simp; done) | (simp; omega) | (unfold World.setCell; simp; done) | (unfold World.setCell; simp; omega))))); ((repeat' (first | with_reducible assumption | with_reducible exact Below.refl _ _ | with_reducible refine Below.drew ?_ | with_reducible refine Below.alloc ?_ ?_ _ | with_reducible refine Below.setCell ?_ ?_ _ | with_reducible refine Below.step ?_ he2 ?_ | with_reducible refine Below.step ?_ he1 ?_ | (first | exact Nat.le_refl _ | omega | (simp; done) | (simp; omega) | (unfold World.setCell; simp; done) | (unfold World.setCell; simp; omega))))); ((repeat' (first | with_reducible assumption | with_reducible exact Below.refl _ _ | with_reducible refine Below.drew ?_ | with_reducible refine Below.alloc ?_ ?_ _ | with_reducible refine Below.setCell ?_ ?_ _ | with_reducible refine Below.step ?_ he2 ?_ | with_reducible refine Below.step ?_ he1 ?_ | (first | exact Nat.le_refl _ | omega | (simp; done) | (simp; omega) | (unfold World.setCell; simp; done) | (unfold World.setCell; simp; omega)))))); rintro e t2 ⟨⟨ng6, ao6, n6, cap6, rfl, HV6⟩, he2⟩; have HT2 : Below wy.heap.size wy t2 := (by (repeat' (first | with_reducible assumption | with_reducible exact Below.refl _ _ | with_reducible refine Below.drew ?_ | with_reducible refine Below.alloc ?_ ?_ _ | with_reducible refine Below.setCell ?_ ?_ _ | with_reducible refine Below.step ?_ he2 ?_ | with_reducible refine Below.step ?_ he1 ?_ | (first | exact Nat.le_refl _ | omega | (simp; done) | (simp; omega) | (unfold World.setCell; simp; done) | (unfold World.setCell; simp; omega))))); have ht2 := HT2.size; have hX4' := X4.mono HT2; obtain ⟨_, _, _, _⟩ := id hX4'))
    all_goals (go_wp2_with fail; go_meet; exact ⟨t2, ng6, ao6, n6, cap6, rfl, HV6, HT2, rfl⟩)
  case rest =>
    obtain ⟨v9, ng6, ao6, n6, cap6, rfl, HV6, hb, rfl⟩ := hcut
    have HV1 := Lib.hid (HV1.out.mono hb)
    have HV2 := Lib.hid (HV2.out.mono hb)
    have X1 := X1.mono hb
    have X2 := X2.mono hb
    have X3 := X3.mono hb
    have HV3 := Lib.hid (HV3.out.mono hb)
    have X4 := X4.mono hb
    have hE := hE.mono hb
    have hbw := Below.step hbw hb (Nat.le_refl _)
    clear hb
    have HV1 := Lib.hid (HV1.out.put2B X4 (.bool ng6) (.slice ao6 n6 cap6))
    have HV2 := Lib.hid (HV2.out.put2B X4 (.bool ng6) (.slice ao6 n6 cap6))
    have X1 := X1.other2 (u := .bool ng6) (v := .slice ao6 n6 cap6) (show w.heap.size ≠ v2.heap.size by omega)
    have X2 := X2.other2 (u := .bool ng6) (v := .slice ao6 n6 cap6) (show w.heap.size + 1 ≠ v2.heap.size by omega)
    have X3 := X3.other2 (u := .bool ng6) (v := .slice ao6 n6 cap6) (show w.heap.size + 1 + 1 ≠ v2.heap.size by omega)
    have HV3 := Lib.hid (HV3.out.put2B X4 (.bool ng6) (.slice ao6 n6 cap6))
    have HV6 := Lib.hid (HV6.out.put2B X4 (.bool ng6) (.slice ao6 n6 cap6))
    have X4 := X4.set2I (.bool ng6) (.slice ao6 n6 cap6)
    have hbw := Below.put2 hbw (n := v2.heap.size) (by omega) (.bool ng6) (.slice ao6 n6 cap6)
    have hE := hE0.mono hbw
    generalize ((v9.setCell ⟨v2.heap.size, 0, none⟩ (.bool ng6)).setCell ⟨v2.heap.size, 1, none⟩ (.slice ao6 n6 cap6)) = v10 at *
    clear HV3
    have HG0 : Hid ((0 - ((Int.gcd p q : Nat) : Int)) ≠ 0) := Lib.hid (by have := Rq.gcd_pos (p := p) HQ.out; omega)
    obtain ⟨cX1_0, cX1_1, _, _⟩ := id X1
    obtain ⟨cX4_0, cX4_1, _, _⟩ := id X4
    go_wp2_with fail
    (with_reducible refine (Div_ok _ _ p (0 - ((Int.gcd p q : Nat) : Int)) v10 HV1.out HV6.out HG0 hE).mono ?_)
    rintro e v11 ⟨⟨ng7, ao7, n7, cap7, ng8, ao8, n8, cap8, rfl, HV7⟩, hb⟩
    have HV1 := Lib.hid (HV1.out.mono hb)
    have HV2 := Lib.hid (HV2.out.mono hb)
    have X1 := X1.mono hb
    have X2 := X2.mono hb
    have X3 := X3.mono hb
    have X4 := X4.mono hb
    have HV6 := Lib.hid (HV6.out.mono hb)
    have hE := hE.mono hb
    have hbw := Below.step hbw hb (Nat.le_refl _)
    clear hb
    clear cX1_0 cX1_1 cX4_0 cX4_1
    go_upto_region 9 with fail
    have lX7X1 := X1.lt
    have lX7X2 := X2.lt
    have lX7X3 := X3.lt
    have lX7X4 := X4.lt
    obtain ⟨wx, hwx, hszx, X7, X8, hb⟩ := boxes_22 v11 (.bool ng7) (.slice ao7 n7 cap7) 24 (.bool ng8) (.slice ao8 n8 cap8) 24
    rw [← hwx]
    clear hwx
    obtain ⟨v12, rfl⟩ : ∃ v12 : World, v12 = wx := ⟨_, rfl⟩
    have HV1 := Lib.hid (HV1.out.mono hb)
    have HV2 := Lib.hid (HV2.out.mono hb)
    have X1 := X1.mono hb
    have X2 := X2.mono hb
    have X3 := X3.mono hb
    have X4 := X4.mono hb
    have HV6 := Lib.hid (HV6.out.mono hb)
    have HV7 := Lib.hid (HV7.out.mono hb)
    have hE := hE.mono hb
    have hbw := Below.step hbw hb (Nat.le_refl _)
    clear hb
    obtain ⟨cX2_0, cX2_1, _, _⟩ := id X2
    obtain ⟨cX4_0, cX4_1, _, _⟩ := id X4
    go_wp2_with fail
    (with_reducible refine (Div_ok _ _ q (0 - ((Int.gcd p q : Nat) : Int)) v12 HV2.out HV6.out HG0 hE).mono ?_)
    rintro e v13 ⟨⟨ngA, aoA, nA, capA, ngB, aoB, nB, capB, rfl, HV9⟩, hb⟩
    have HV1 := Lib.hid (HV1.out.mono hb)
    have HV2 := Lib.hid (HV2.out.mono hb)
    have X1 := X1.mono hb
    have X2 := X2.mono hb
    have X3 := X3.mono hb
    have X4 := X4.mono hb
    have HV6 := Lib.hid (HV6.out.mono hb)
    have HV7 := Lib.hid (HV7.out.mono hb)
    have X7 := X7.mono hb
    have X8 := X8.mono hb
    have hE := hE.mono hb
    have hbw := Below.step hbw hb (Nat.le_refl _)
    clear hb
    clear cX2_0 cX2_1 cX4_0 cX4_1
    go_upto_region 12 with fail
    have lXAX1 := X1.lt
    have lXAX2 := X2.lt
    have lXAX3 := X3.lt
    have lXAX4 := X4.lt
    have lXAX7 := X7.lt
    have lXAX8 := X8.lt
    obtain ⟨wx, hwx, hszx, XA, XB, hb⟩ := boxes_22 v13 (.bool ngA) (.slice aoA nA capA) 24 (.bool ngB) (.slice aoB nB capB) 24
    rw [← hwx]
    clear hwx
    obtain ⟨v14, rfl⟩ : ∃ v14 : World, v14 = wx := ⟨_, rfl⟩
    have HV1 := Lib.hid (HV1.out.mono hb)
    have HV2 := Lib.hid (HV2.out.mono hb)
    have X1 := X1.mono hb
    have X2 := X2.mono hb
    have X3 := X3.mono hb
    have X4 := X4.mono hb
    have HV6 := Lib.hid (HV6.out.mono hb)
    have HV7 := Lib.hid (HV7.out.mono hb)
    have X7 := X7.mono hb
    have X8 := X8.mono hb
    have HV9 := Lib.hid (HV9.out.mono hb)
    have hE := hE.mono hb
    have hbw := Below.step hbw hb (Nat.le_refl _)
    clear hb
    have HN : Hid (p.tdiv (0 - ((Int.gcd p q : Nat) : Int)) = (Rat.divInt p q).num ∧ q.tdiv (0 - ((Int.gcd p q : Nat) : Int)) = ((Rat.divInt p q).den : Int)) := Lib.hid ⟨by rw [← Rq.num_of HQ.out]; unfold Rq.gS; rw [if_pos hq.out] , by rw [← Rq.den_of HQ.out]; unfold Rq.gS; rw [if_pos hq.out]⟩
    rw [HN.out.1] at HV7
    rw [HN.out.2] at HV9
    obtain ⟨cX7_0, cX7_1, _, _⟩ := id X7
    obtain ⟨cXA_0, cXA_1, _, _⟩ := id XA
    obtain ⟨cX3_0, cX3_1, cX3_2, cX3_3, _, _, _, _⟩ := id X3
    go_wp2
    refine bodyPost_ret (v := .tuple #[.agg #[.bool ng7, .slice ao7 n7 cap7, .bool ngA, .slice aoA nA capA], .int .i64 0]) (by simp [results, Tryz.results58, go_sem, cX3_0, cX3_1, cX3_2, cX3_3]) rfl ⟨⟨ng7, ao7, n7, cap7, ngA, aoA, nA, capA, rfl, Lib.hid (HV7.out.put4B X3 (.bool ng7) (.slice ao7 n7 cap7) (.bool ngA) (.slice aoA nA capA)), Lib.hid (HV9.out.put4B X3 (.bool ng7) (.slice ao7 n7 cap7) (.bool ngA) (.slice aoA nA capA))⟩, Below.put4 hbw (by omega) (.bool ng7) (.slice ao7 n7 cap7) (.bool ngA) (.slice aoA nA capA)⟩

set_option maxRecDepth 100000 in
set_option maxHeartbeats 1600000 in
theorem reduced_pos (a b : Value) (p q : Int) (w : World) (ha : IntV w a p) (hb : IntV w b q) (hq : Hid (0 < q)) (hE : Env w) :
    Calls Tryz.prog 58 #[a, b] w fun e w' => GotQ w' (Rat.divInt p q) e ∧ Below w.heap.size w w' := by
  obtain ⟨ng1, ao1, n1, cap1, rfl⟩ := ha.parts
  obtain ⟨ng2, ao2, n2, cap2, rfl⟩ := hb.parts
  have HV1 := Lib.hid ha
  have HV2 := Lib.hid hb
  have hE0 := hE
  clear ha hb
  have hbw := Below.refl w.heap.size w
  have HS : Hid (sgnI q = 1) := Lib.hid (by have := hq.out; unfold sgnI; split <;> (try split) <;> omega)
  have HQ : Hid (q ≠ 0) := Lib.hid (by have := hq.out; omega)
  go_enter Tryz.func58, Tryz.ntmps58
  go_upto_region 1 with fail
  obtain ⟨wx, hwx, hszx, X1, X2, X3, hb⟩ := boxes_224 w (.bool ng1) (.slice ao1 n1 cap1) 24 (.bool ng2) (.slice ao2 n2 cap2) 24 (.bool false) (.slice none 0 0) (.bool false) (.slice none 0 0) 29
  rw [← hwx]
  clear hwx
  obtain ⟨v1, rfl⟩ : ∃ v1 : World, v1 = wx := ⟨_, rfl⟩
  have HV1 := Lib.hid (HV1.out.mono hb)
  have HV2 := Lib.hid (HV2.out.mono hb)
  have hE := hE.mono hb
  have hbw := Below.step hbw hb (Nat.le_refl _)
  clear hb
  obtain ⟨cX1_0, cX1_1, _, _⟩ := id X1
  obtain ⟨cX2_0, cX2_1, _, _⟩ := id X2
  go_wp2_with fail
  (with_reducible refine (Gcd_ok _ _ p q v1 HV1.out HV2.out hE).mono ?_)
  rintro e v2 ⟨⟨ng3, ao3, n3, cap3, rfl, HV3⟩, hb⟩
  have HV1 := Lib.hid (HV1.out.mono hb)
  have HV2 := Lib.hid (HV2.out.mono hb)
  have X1 := X1.mono hb
  have X2 := X2.mono hb
  have X3 := X3.mono hb
  have hE := hE.mono hb
  have hbw := Below.step hbw hb (Nat.le_refl _)
  clear hb
  clear cX1_0 cX1_1 cX2_0 cX2_1
  go_upto_region 2 with fail
  have lX4X1 := X1.lt
  have lX4X2 := X2.lt
  have lX4X3 := X3.lt
  have X4 := Box.new v2 (.bool ng3) (.slice ao3 n3 cap3) 24
  have hb := below_alloc v2 (.cells #[.bool ng3, .slice ao3 n3 cap3] 24)
  generalize v2.alloc (.cells #[.bool ng3, .slice ao3 n3 cap3] 24) = v3 at *
  have HV1 := Lib.hid (HV1.out.mono hb)
  have HV2 := Lib.hid (HV2.out.mono hb)
  have X1 := X1.mono hb
  have X2 := X2.mono hb
  have X3 := X3.mono hb
  have HV3 := Lib.hid (HV3.out.mono hb)
  have hE := hE.mono hb
  have hbw := Below.step hbw hb (Nat.le_refl _)
  clear hb
  obtain ⟨cX2_0, cX2_1, _, _⟩ := id X2
  go_wp2_with fail
  (with_reducible refine (Sign_eq _ q (1) v3 HS HV2.out hE).mono ?_)
  rintro e v4 ⟨rfl, hb⟩
  have HV1 := Lib.hid (HV1.out.mono hb)
  have HV2 := Lib.hid (HV2.out.mono hb)
  have X1 := X1.mono hb
  have X2 := X2.mono hb
  have X3 := X3.mono hb
  have HV3 := Lib.hid (HV3.out.mono hb)
  have X4 := X4.mono hb
  have hE := hE.mono hb
  have hbw := Below.step hbw hb (Nat.le_refl _)
  clear hb
  clear cX2_0 cX2_1
  have HV6 := HV3
  clear HV3
  have HG0 : Hid (((Int.gcd p q : Nat) : Int) ≠ 0) := Lib.hid (by have := Rq.gcd_pos (p := p) HQ.out; omega)
  obtain ⟨cX1_0, cX1_1, _, _⟩ := id X1
  obtain ⟨cX4_0, cX4_1, _, _⟩ := id X4
  go_wp2_with fail
  (with_reducible refine (Div_ok _ _ p ((Int.gcd p q : Nat) : Int) v4 HV1.out HV6.out HG0 hE).mono ?_)
  rintro e v5 ⟨⟨ng7, ao7, n7, cap7, ng8, ao8, n8, cap8, rfl, HV7⟩, hb⟩
  have HV1 := Lib.hid (HV1.out.mono hb)
  have HV2 := Lib.hid (HV2.out.mono hb)
  have X1 := X1.mono hb
  have X2 := X2.mono hb
  have X3 := X3.mono hb
  have X4 := X4.mono hb
  have HV6 := Lib.hid (HV6.out.mono hb)
  have hE := hE.mono hb
  have hbw := Below.step hbw hb (Nat.le_refl _)
  clear hb
  clear cX1_0 cX1_1 cX4_0 cX4_1
  go_upto_region 9 with fail
  have lX7X1 := X1.lt
  have lX7X2 := X2.lt
  have lX7X3 := X3.lt
  have lX7X4 := X4.lt
  obtain ⟨wx, hwx, hszx, X7, X8, hb⟩ := boxes_22 v5 (.bool ng7) (.slice ao7 n7 cap7) 24 (.bool ng8) (.slice ao8 n8 cap8) 24
  rw [← hwx]
  clear hwx
  obtain ⟨v6, rfl⟩ : ∃ v6 : World, v6 = wx := ⟨_, rfl⟩
  have HV1 := Lib.hid (HV1.out.mono hb)
  have HV2 := Lib.hid (HV2.out.mono hb)
  have X1 := X1.mono hb
  have X2 := X2.mono hb
  have X3 := X3.mono hb
  have X4 := X4.mono hb
  have HV6 := Lib.hid (HV6.out.mono hb)
  have HV7 := Lib.hid (HV7.out.mono hb)
  have hE := hE.mono hb
  have hbw := Below.step hbw hb (Nat.le_refl _)
  clear hb
  obtain ⟨cX2_0, cX2_1, _, _⟩ := id X2
  obtain ⟨cX4_0, cX4_1, _, _⟩ := id X4
  go_wp2_with fail
  (with_reducible refine (Div_ok _ _ q ((Int.gcd p q : Nat) : Int) v6 HV2.out HV6.out HG0 hE).mono ?_)
  rintro e v7 ⟨⟨ngA, aoA, nA, capA, ngB, aoB, nB, capB, rfl, HV9⟩, hb⟩
  have HV1 := Lib.hid (HV1.out.mono hb)
  have HV2 := Lib.hid (HV2.out.mono hb)
  have X1 := X1.mono hb
  have X2 := X2.mono hb
  have X3 := X3.mono hb
  have X4 := X4.mono hb
  have HV6 := Lib.hid (HV6.out.mono hb)
  have HV7 := Lib.hid (HV7.out.mono hb)
  have X7 := X7.mono hb
  have X8 := X8.mono hb
  have hE := hE.mono hb
  have hbw := Below.step hbw hb (Nat.le_refl _)
  clear hb
  clear cX2_0 cX2_1 cX4_0 cX4_1
  go_upto_region 12 with fail
  have lXAX1 := X1.lt
  have lXAX2 := X2.lt
  have lXAX3 := X3.lt
  have lXAX4 := X4.lt
  have lXAX7 := X7.lt
  have lXAX8 := X8.lt
  obtain ⟨wx, hwx, hszx, XA, XB, hb⟩ := boxes_22 v7 (.bool ngA) (.slice aoA nA capA) 24 (.bool ngB) (.slice aoB nB capB) 24
  rw [← hwx]
  clear hwx
  obtain ⟨v8, rfl⟩ : ∃ v8 : World, v8 = wx := ⟨_, rfl⟩
  have HV1 := Lib.hid (HV1.out.mono hb)
  have HV2 := Lib.hid (HV2.out.mono hb)
  have X1 := X1.mono hb
  have X2 := X2.mono hb
  have X3 := X3.mono hb
  have X4 := X4.mono hb
  have HV6 := Lib.hid (HV6.out.mono hb)
  have HV7 := Lib.hid (HV7.out.mono hb)
  have X7 := X7.mono hb
  have X8 := X8.mono hb
  have HV9 := Lib.hid (HV9.out.mono hb)
  have hE := hE.mono hb
  have hbw := Below.step hbw hb (Nat.le_refl _)
  clear hb
  have HN : Hid (p.tdiv ((Int.gcd p q : Nat) : Int) = (Rat.divInt p q).num ∧ q.tdiv ((Int.gcd p q : Nat) : Int) = ((Rat.divInt p q).den : Int)) := Lib.hid ⟨Rq.num_pos hq.out , Rq.den_pos hq.out⟩
  rw [HN.out.1] at HV7
  rw [HN.out.2] at HV9
  obtain ⟨cX7_0, cX7_1, _, _⟩ := id X7
  obtain ⟨cXA_0, cXA_1, _, _⟩ := id XA
  obtain ⟨cX3_0, cX3_1, cX3_2, cX3_3, _, _, _, _⟩ := id X3
  go_wp2
  refine bodyPost_ret (v := .tuple #[.agg #[.bool ng7, .slice ao7 n7 cap7, .bool ngA, .slice aoA nA capA], .int .i64 0]) (by simp [results, Tryz.results58, go_sem, cX3_0, cX3_1, cX3_2, cX3_3]) rfl ⟨⟨ng7, ao7, n7, cap7, ngA, aoA, nA, capA, rfl, Lib.hid (HV7.out.put4B X3 (.bool ng7) (.slice ao7 n7 cap7) (.bool ngA) (.slice aoA nA capA)), Lib.hid (HV9.out.put4B X3 (.bool ng7) (.slice ao7 n7 cap7) (.bool ngA) (.slice aoA nA capA))⟩, Below.put4 hbw (by omega) (.bool ng7) (.slice ao7 n7 cap7) (.bool ngA) (.slice aoA nA capA)⟩


end Go.Proofs.YtgenhkakcbedaaaGreatDoor
