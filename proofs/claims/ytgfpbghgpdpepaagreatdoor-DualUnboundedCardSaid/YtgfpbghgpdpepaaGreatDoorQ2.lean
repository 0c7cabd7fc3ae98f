import Derived.Test.YtgfpbghgpdpepaaGreatDoorQ1
import Derived.Deep.RegionHeld3
import Derived.RegionTactic
import Derived.BigRegion
import Derived.Deep.RegionWith
set_option linter.unusedVariables false
set_option linter.unusedSimpArgs false
set_option maxRecDepth 100000
set_option maxHeartbeats 25600000
namespace Go.Proofs.YtgfpbghgpdpepaaGreatDoor
open Go.RowKit
theorem Sign_eq (a : Value) (x s : Int) (w : World) (hs : Hid (sgnI x = s)) (ha : IntV w a x) (hE : Env w) :
  Calls Tryz.prog 117 #[a] w fun e w' => e = .returned (.int .i64 s) ∧ Below w.heap.size w w' := by
 rw [← hs.out]; exact Sign_any a x w ha hE
theorem reduced_neg (a b : Value) (p q : Int) (w : World) (ha : IntV w a p) (hb : IntV w b q) (hq : Hid (q < 0)) (hE : Env w) :
    Calls Tryz.prog 165 #[a, b] w fun e w' => GotQ w' (Rat.divInt p q) e ∧ Below w.heap.size w w' := by
  obtain ⟨ng1, ao1, n1, cap1, rfl⟩ := ha.parts
  obtain ⟨ng2, ao2, n2, cap2, rfl⟩ := hb.parts
  have HV1 := hii ha
  have HV2 := hii hb
  have hE0 := hE
  clear ha hb
  have hbw := Below.refl w.heap.size w
  have HS : Hid (sgnI q = -1) := hii (by have := hq.out; unfold sgnI; split <;> (try split) <;> omega)
  have HQ : Hid (q ≠ 0) := hii (by have := hq.out; omega)
  go_enter Tryz.func165, Tryz.ntmps165
  go_upto_region 1 with fail
  obtain ⟨wx, hwx, hszx, X1, X2, X3, hb⟩ := boxes_224 w (.bool ng1) (.slice ao1 n1 cap1) 32 (.bool ng2) (.slice ao2 n2 cap2) 32 (.bool false) (.slice none 0 0) (.bool false) (.slice none 0 0) 34
  rw [← hwx]
  clear hwx
  obtain ⟨v1, rfl⟩ := exi wx
  have HV1 := hup HV1 hb
  have HV2 := hup HV2 hb
  have hE := hE.mono hb
  have hbw := bu hbw hb
  clear hb
  obtain ⟨x1a, x1b, _, _⟩ := id X1
  obtain ⟨x2a, x2b, _, _⟩ := id X2
  go_wp2_with fail
  (with_reducible refine (Gcd_ok _ _ p q v1 HV1.out HV2.out hE).mono ?_)
  rintro e v2 ⟨⟨ng3, ao3, n3, cap3, rfl, HV3⟩, hb⟩
  have HV1 := hup HV1 hb
  have HV2 := hup HV2 hb
  have X1 := X1.mono hb
  have X2 := X2.mono hb
  have X3 := X3.mono hb
  have hE := hE.mono hb
  have hbw := bu hbw hb
  clear hb
  clear x1a x1b x2a x2b
  go_upto_region 2 with fail
  have lX4X1 := X1.lt
  have lX4X2 := X2.lt
  have lX4X3 := X3.lt
  have X4 := Box.new v2 (.bool ng3) (.slice ao3 n3 cap3) 32
  have hb := bA v2 (.cells #[.bool ng3, .slice ao3 n3 cap3] 32)
  generalize v2.alloc (.cells #[.bool ng3, .slice ao3 n3 cap3] 32) = v3 at *
  have HV1 := hup HV1 hb
  have HV2 := hup HV2 hb
  have X1 := X1.mono hb
  have X2 := X2.mono hb
  have X3 := X3.mono hb
  have HV3 := hup HV3 hb
  have hE := hE.mono hb
  have hbw := bu hbw hb
  clear hb
  obtain ⟨x2a, x2b, _, _⟩ := id X2
  go_wp2_with fail
  (with_reducible refine (Sign_eq _ q (-1) v3 HS HV2.out hE).mono ?_)
  rintro e v4 ⟨rfl, hb⟩
  have HV1 := hup HV1 hb
  have HV2 := hup HV2 hb
  have X1 := X1.mono hb
  have X2 := X2.mono hb
  have X3 := X3.mono hb
  have HV3 := hup HV3 hb
  have X4 := X4.mono hb
  have hE := hE.mono hb
  have hbw := bu hbw hb
  clear hb
  clear x2a x2b
  go_upto_region 5 with fail
  have HG : Hid (Rq.Sm (0 - ((Int.gcd p q : Nat) : Int))) := hii (Rq.sm_neg HV3.out.small)
  obtain ⟨wy, rfl⟩ := exi v4
  go_cut [7] (fun s7 wc => SubK wy wc v2.heap.size s7 (0 - ((Int.gcd p q : Nat) : Int)))
  case first =>
    obtain ⟨_, _, _, _⟩ := id X4
    go_region_with (first
       | (go_at_call 124; ((with_reducible refine (of_any 0 (by decide) (by decide) _ (hE.mono ?_)).mono ?_); ((repeat' (first | with_reducible assumption | with_reducible exact br | with_reducible refine Below.drew ?_ | with_reducible refine Below.alloc ?_ ?_ _ | with_reducible refine Below.setCell ?_ ?_ _ | with_reducible refine Below.step ?_ he2 ?_ | with_reducible refine Below.step ?_ he1 ?_ | (first | exact nl | omega | (simp; done) | (simp; omega) | (unfold World.setCell; simp; done) | (unfold World.setCell; simp; omega)))))); rintro e t1 ⟨⟨ng5, ao5, n5, cap5, rfl, HV5⟩, he1⟩; have HT1 : Below wy.heap.size wy t1 := (by (repeat' (first | with_reducible assumption | with_reducible exact br | with_reducible refine Below.drew ?_ | with_reducible refine Below.alloc ?_ ?_ _ | with_reducible refine Below.setCell ?_ ?_ _ | with_reducible refine Below.step ?_ he2 ?_ | with_reducible refine Below.step ?_ he1 ?_ | (first | exact nl | omega | (simp; done) | (simp; omega) | (unfold World.setCell; simp; done) | (unfold World.setCell; simp; omega))))); have ht1 := HT1.size; have hX4 := X4.mono HT1; obtain ⟨_, _, _, _⟩ := id hX4)
       | (go_at_call 122; ((with_reducible refine (Sub_ok _ _ 0 ((Int.gcd p q : Nat) : Int) _ (HV5.out.mono ?_) (HV3.out.mono ?_) HG (hE.mono ?_)).mono ?_); ((repeat' (first | with_reducible assumption | with_reducible exact br | with_reducible refine Below.drew ?_ | with_reducible refine Below.alloc ?_ ?_ _ | with_reducible refine Below.setCell ?_ ?_ _ | with_reducible refine Below.step ?_ he2 ?_ | with_reducible refine Below.step ?_ he1 ?_ | (first | exact nl | omega | (simp; done) | (simp; omega) | (unfold World.setCell; simp; done) | (unfold World.setCell; simp; omega))))); ((repeat' (first | with_reducible assumption | with_reducible exact br | with_reducible refine Below.drew ?_ | with_reducible refine Below.alloc ?_ ?_ _ | with_reducible refine Below.setCell ?_ ?_ _ | with_reducible refine Below.step ?_ he2 ?_ | with_reducible refine Below.step ?_ he1 ?_ | (first | exact nl | omega | (simp; done) | (simp; omega) | (unfold World.setCell; simp; done) | (unfold World.setCell; simp; omega))))); ((repeat' (first | with_reducible assumption | with_reducible exact br | with_reducible refine Below.drew ?_ | with_reducible refine Below.alloc ?_ ?_ _ | with_reducible refine Below.setCell ?_ ?_ _ | with_reducible refine Below.step ?_ he2 ?_ | with_reducible refine Below.step ?_ he1 ?_ | (first | exact nl | omega | (simp; done) | (simp; omega) | (unfold World.setCell; simp; done) | (unfold World.setCell; simp; omega)))))); rintro e t2 ⟨⟨ng6, ao6, n6, cap6, rfl, HV6⟩, he2⟩; have HT2 : Below wy.heap.size wy t2 := (by (repeat' (first | with_reducible assumption | with_reducible exact br | with_reducible refine Below.drew ?_ | with_reducible refine Below.alloc ?_ ?_ _ | with_reducible refine Below.setCell ?_ ?_ _ | with_reducible refine Below.step ?_ he2 ?_ | with_reducible refine Below.step ?_ he1 ?_ | (first | exact nl | omega | (simp; done) | (simp; omega) | (unfold World.setCell; simp; done) | (unfold World.setCell; simp; omega))))); have ht2 := HT2.size; have hX4' := X4.mono HT2; obtain ⟨_, _, _, _⟩ := id hX4'))
    all_goals (go_wp2_with fail; go_meet; exact ⟨t2, ng6, ao6, n6, cap6, rfl, HV6, HT2, rfl⟩)
  case rest =>
    obtain ⟨v9, ng6, ao6, n6, cap6, rfl, HV6, hb, rfl⟩ := hcut
    have HV1 := hup HV1 hb
    have HV2 := hup HV2 hb
    have X1 := X1.mono hb
    have X2 := X2.mono hb
    have X3 := X3.mono hb
    have HV3 := hup HV3 hb
    have X4 := X4.mono hb
    have hE := hE.mono hb
    have hbw := bu hbw hb
    clear hb
    have HV1 := hii (HV1.out.put2B X4 (.bool ng6) (.slice ao6 n6 cap6))
    have HV2 := hii (HV2.out.put2B X4 (.bool ng6) (.slice ao6 n6 cap6))
    have X1 := X1.other2 (u := .bool ng6) (v := .slice ao6 n6 cap6) (show w.heap.size ≠ v2.heap.size by omega)
    have X2 := X2.other2 (u := .bool ng6) (v := .slice ao6 n6 cap6) (show w.heap.size + 1 ≠ v2.heap.size by omega)
    have X3 := X3.other2 (u := .bool ng6) (v := .slice ao6 n6 cap6) (show w.heap.size + 1 + 1 ≠ v2.heap.size by omega)
    have HV3 := hii (HV3.out.put2B X4 (.bool ng6) (.slice ao6 n6 cap6))
    have HV6 := hii (HV6.out.put2B X4 (.bool ng6) (.slice ao6 n6 cap6))
    have X4 := X4.set2I (.bool ng6) (.slice ao6 n6 cap6)
    have hbw := Below.put2 hbw (n := v2.heap.size) (by omega) (.bool ng6) (.slice ao6 n6 cap6)
    have hE := hE0.mono hbw
    generalize ((v9.setCell ⟨v2.heap.size, 0, none⟩ (.bool ng6)).setCell ⟨v2.heap.size, 1, none⟩ (.slice ao6 n6 cap6)) = v10 at *
    clear HV3
    have HG0 : Hid ((0 - ((Int.gcd p q : Nat) : Int)) ≠ 0) := hii (by have := Rq.gcd_pos (p := p) HQ.out; omega)
    obtain ⟨x1a, x1b, _, _⟩ := id X1
    obtain ⟨x4a, x4b, _, _⟩ := id X4
    go_wp2_with fail
    (with_reducible refine (Div_ok _ _ p (0 - ((Int.gcd p q : Nat) : Int)) v10 HV1.out HV6.out HG0 hE).mono ?_)
    rintro e v11 ⟨⟨ng7, ao7, n7, cap7, ng8, ao8, n8, cap8, rfl, HV7⟩, hb⟩
    have HV2 := hup HV2 hb
    have X1 := X1.mono hb
    have X2 := X2.mono hb
    have X3 := X3.mono hb
    have X4 := X4.mono hb
    have HV6 := hup HV6 hb
    have hE := hE.mono hb
    have hbw := bu hbw hb
    clear hb
    clear x1a x1b x4a x4b
    go_upto_region 9 with fail
    have lX7X1 := X1.lt
    have lX7X2 := X2.lt
    have lX7X3 := X3.lt
    have lX7X4 := X4.lt
    obtain ⟨wx, hwx, hszx, X7, X8, hb⟩ := boxes_22 v11 (.bool ng7) (.slice ao7 n7 cap7) 32 (.bool ng8) (.slice ao8 n8 cap8) 32
    rw [← hwx]
    clear hwx
    obtain ⟨v12, rfl⟩ := exi wx
    have HV2 := hup HV2 hb
    have X1 := X1.mono hb
    have X2 := X2.mono hb
    have X3 := X3.mono hb
    have X4 := X4.mono hb
    have HV6 := hup HV6 hb
    have HV7 := hup HV7 hb
    have hE := hE.mono hb
    have hbw := bu hbw hb
    clear hb
    obtain ⟨x2a, x2b, _, _⟩ := id X2
    obtain ⟨x4a, x4b, _, _⟩ := id X4
    go_wp2_with fail
    (with_reducible refine (Div_ok _ _ q (0 - ((Int.gcd p q : Nat) : Int)) v12 HV2.out HV6.out HG0 hE).mono ?_)
    rintro e v13 ⟨⟨ngA, aoA, nA, capA, ngB, aoB, nB, capB, rfl, HV9⟩, hb⟩
    have X1 := X1.mono hb
    have X2 := X2.mono hb
    have X3 := X3.mono hb
    have X4 := X4.mono hb
    have HV7 := hup HV7 hb
    have X7 := X7.mono hb
    have X8 := X8.mono hb
    have hbw := bu hbw hb
    clear hb
    clear x2a x2b x4a x4b
    go_upto_region 12 with fail
    have lXAX1 := X1.lt
    have lXAX2 := X2.lt
    have lXAX3 := X3.lt
    have lXAX4 := X4.lt
    have lXAX7 := X7.lt
    have lXAX8 := X8.lt
    obtain ⟨wx, hwx, hszx, XA, XB, hb⟩ := boxes_22 v13 (.bool ngA) (.slice aoA nA capA) 32 (.bool ngB) (.slice aoB nB capB) 32
    rw [← hwx]
    clear hwx
    obtain ⟨v14, rfl⟩ := exi wx
    have X3 := X3.mono hb
    have HV7 := hup HV7 hb
    have X7 := X7.mono hb
    have HV9 := hup HV9 hb
    have hbw := bu hbw hb
    clear hb
    have HN : Hid (p.tdiv (0 - ((Int.gcd p q : Nat) : Int)) = (Rat.divInt p q).num ∧ q.tdiv (0 - ((Int.gcd p q : Nat) : Int)) = ((Rat.divInt p q).den : Int)) := hii ⟨by rw [← Rq.num_of HQ.out]; unfold Rq.gS; rw [if_pos hq.out] , by rw [← Rq.den_of HQ.out]; unfold Rq.gS; rw [if_pos hq.out]⟩
    rw [HN.out.1] at HV7
    rw [HN.out.2] at HV9
    obtain ⟨x7a, x7b, _, _⟩ := id X7
    obtain ⟨cXA_0, cXA_1, _, _⟩ := id XA
    obtain ⟨x3a, x3b, x3c, x3d, _, _, _, _⟩ := id X3
    go_wp2
    refine bodyPost_ret (v := .tuple #[.agg #[.bool ng7, .slice ao7 n7 cap7, .bool ngA, .slice aoA nA capA], .int .i64 0]) (by simp [results, Tryz.results165, go_sem, x3a, x3b, x3c, x3d]) rfl ⟨⟨ng7, ao7, n7, cap7, ngA, aoA, nA, capA, rfl, hii (HV7.out.put4B X3 (.bool ng7) (.slice ao7 n7 cap7) (.bool ngA) (.slice aoA nA capA)), hii (HV9.out.put4B X3 (.bool ng7) (.slice ao7 n7 cap7) (.bool ngA) (.slice aoA nA capA))⟩, Below.put4 hbw (by omega) (.bool ng7) (.slice ao7 n7 cap7) (.bool ngA) (.slice aoA nA capA)⟩
theorem reduced_pos (a b : Value) (p q : Int) (w : World) (ha : IntV w a p) (hb : IntV w b q) (hq : Hid (0 < q)) (hE : Env w) :
  Calls Tryz.prog 165 #[a, b] w fun e w' => GotQ w' (Rat.divInt p q) e ∧ Below w.heap.size w w' := by
 obtain ⟨ng1, ao1, n1, cap1, rfl⟩ := ha.parts;obtain ⟨ng2, ao2, n2, cap2, rfl⟩ := hb.parts;have HV1 := hii ha;have HV2 := hii hb;clear ha hb;have hbw := Below.refl w.heap.size w;have HS : Hid (sgnI q = 1) := hii (by have := hq.out; unfold sgnI; split <;> (try split) <;> omega);have HQ : Hid (q ≠ 0) := hii (by have := hq.out; omega);go_enter Tryz.func165, Tryz.ntmps165;go_upto_region 1 with fail;obtain ⟨wx, hwx, hszx, X1, X2, X3, hb⟩ := boxes_224 w (.bool ng1) (.slice ao1 n1 cap1) 32 (.bool ng2) (.slice ao2 n2 cap2) 32 (.bool false) (.slice none 0 0) (.bool false) (.slice none 0 0) 34;rw [← hwx];clear hwx;obtain ⟨v1, rfl⟩ := exi wx;have HV1 := hup HV1 hb;have HV2 := hup HV2 hb;have hE := hE.mono hb;have hbw := bu hbw hb;clear hb;obtain ⟨x1a, x1b, _, _⟩ := id X1;obtain ⟨x2a, x2b, _, _⟩ := id X2;go_wp2_with fail;(with_reducible refine (Gcd_ok _ _ p q v1 HV1.out HV2.out hE).mono ?_);rintro e v2 ⟨⟨ng3, ao3, n3, cap3, rfl, HV3⟩, hb⟩;have HV1 := hup HV1 hb;have HV2 := hup HV2 hb;have X1 := X1.mono hb;have X2 := X2.mono hb;have X3 := X3.mono hb;have hE := hE.mono hb;have hbw := bu hbw hb;clear hb;clear x1a x1b x2a x2b;go_upto_region 2 with fail;have lX4X1 := X1.lt;have lX4X2 := X2.lt;have lX4X3 := X3.lt;have X4 := Box.new v2 (.bool ng3) (.slice ao3 n3 cap3) 32;have hb := bA v2 (.cells #[.bool ng3, .slice ao3 n3 cap3] 32);generalize v2.alloc (.cells #[.bool ng3, .slice ao3 n3 cap3] 32) = v3 at *;have HV1 := hup HV1 hb;have HV2 := hup HV2 hb;have X1 := X1.mono hb;have X2 := X2.mono hb;have X3 := X3.mono hb;have HV3 := hup HV3 hb;have hE := hE.mono hb;have hbw := bu hbw hb;clear hb;obtain ⟨x2a, x2b, _, _⟩ := id X2;go_wp2_with fail;(with_reducible refine (Sign_eq _ q (1) v3 HS HV2.out hE).mono ?_);rintro e v4 ⟨rfl, hb⟩;have HV1 := hup HV1 hb;have HV2 := hup HV2 hb;have X1 := X1.mono hb;have X2 := X2.mono hb;have X3 := X3.mono hb;have HV3 := hup HV3 hb;have X4 := X4.mono hb;have hE := hE.mono hb;have hbw := bu hbw hb;clear hb;clear x2a x2b;have HV6 := HV3;clear HV3;have HG0 : Hid (((Int.gcd p q : Nat) : Int) ≠ 0) := hii (by have := Rq.gcd_pos (p := p) HQ.out; omega);obtain ⟨x1a, x1b, _, _⟩ := id X1;obtain ⟨x4a, x4b, _, _⟩ := id X4;go_wp2_with fail;(with_reducible refine (Div_ok _ _ p ((Int.gcd p q : Nat) : Int) v4 HV1.out HV6.out HG0 hE).mono ?_);rintro e v5 ⟨⟨ng7, ao7, n7, cap7, ng8, ao8, n8, cap8, rfl, HV7⟩, hb⟩;have HV2 := hup HV2 hb;have X1 := X1.mono hb;have X2 := X2.mono hb;have X3 := X3.mono hb;have X4 := X4.mono hb;have HV6 := hup HV6 hb;have hE := hE.mono hb;have hbw := bu hbw hb;clear hb;clear x1a x1b x4a x4b;go_upto_region 9 with fail;have lX7X1 := X1.lt;have lX7X2 := X2.lt;have lX7X3 := X3.lt;have lX7X4 := X4.lt;obtain ⟨wx, hwx, hszx, X7, X8, hb⟩ := boxes_22 v5 (.bool ng7) (.slice ao7 n7 cap7) 32 (.bool ng8) (.slice ao8 n8 cap8) 32;rw [← hwx];clear hwx;obtain ⟨v6, rfl⟩ := exi wx;have HV2 := hup HV2 hb;have X1 := X1.mono hb;have X2 := X2.mono hb;have X3 := X3.mono hb;have X4 := X4.mono hb;have HV6 := hup HV6 hb;have HV7 := hup HV7 hb;have hE := hE.mono hb;have hbw := bu hbw hb;clear hb;obtain ⟨x2a, x2b, _, _⟩ := id X2;obtain ⟨x4a, x4b, _, _⟩ := id X4;go_wp2_with fail;(with_reducible refine (Div_ok _ _ q ((Int.gcd p q : Nat) : Int) v6 HV2.out HV6.out HG0 hE).mono ?_);rintro e v7 ⟨⟨ngA, aoA, nA, capA, ngB, aoB, nB, capB, rfl, HV9⟩, hb⟩;have X1 := X1.mono hb;have X2 := X2.mono hb;have X3 := X3.mono hb;have X4 := X4.mono hb;have HV7 := hup HV7 hb;have X7 := X7.mono hb;have X8 := X8.mono hb;have hbw := bu hbw hb;clear hb;clear x2a x2b x4a x4b;go_upto_region 12 with fail;have lXAX1 := X1.lt;have lXAX2 := X2.lt;have lXAX3 := X3.lt;have lXAX4 := X4.lt;have lXAX7 := X7.lt;have lXAX8 := X8.lt;obtain ⟨wx, hwx, hszx, XA, XB, hb⟩ := boxes_22 v7 (.bool ngA) (.slice aoA nA capA) 32 (.bool ngB) (.slice aoB nB capB) 32;rw [← hwx];clear hwx;obtain ⟨v8, rfl⟩ := exi wx;have X3 := X3.mono hb;have HV7 := hup HV7 hb;have X7 := X7.mono hb;have HV9 := hup HV9 hb;have hbw := bu hbw hb;clear hb;have HN : Hid (p.tdiv ((Int.gcd p q : Nat) : Int) = (Rat.divInt p q).num ∧ q.tdiv ((Int.gcd p q : Nat) : Int) = ((Rat.divInt p q).den : Int)) := hii ⟨Rq.num_pos hq.out , Rq.den_pos hq.out⟩;rw [HN.out.1] at HV7;rw [HN.out.2] at HV9;obtain ⟨x7a, x7b, _, _⟩ := id X7;obtain ⟨cXA_0, cXA_1, _, _⟩ := id XA;obtain ⟨x3a, x3b, x3c, x3d, _, _, _, _⟩ := id X3;go_wp2;refine bodyPost_ret (v := .tuple #[.agg #[.bool ng7, .slice ao7 n7 cap7, .bool ngA, .slice aoA nA capA], .int .i64 0]) (by simp [results, Tryz.results165, go_sem, x3a, x3b, x3c, x3d]) rfl ⟨⟨ng7, ao7, n7, cap7, ngA, aoA, nA, capA, rfl, hii (HV7.out.put4B X3 (.bool ng7) (.slice ao7 n7 cap7) (.bool ngA) (.slice aoA nA capA)), hii (HV9.out.put4B X3 (.bool ng7) (.slice ao7 n7 cap7) (.bool ngA) (.slice aoA nA capA))⟩, Below.put4 hbw (by omega) (.bool ng7) (.slice ao7 n7 cap7) (.bool ngA) (.slice aoA nA capA)⟩
end Go.Proofs.YtgfpbghgpdpepaaGreatDoor
namespace Go.Proofs.YtgfpbghgpdpepaaGreatDoor
open Go.RowKit
def GotN (w' : World) (z : Int) (e : Ending) : Prop :=
 ∃ (ng : Bool) (ao : Option Addr) (n cap : Nat), e = .returned (.agg #[.bool ng, .slice ao n cap]) ∧ Hid (IntV w' (.agg #[.bool ng, .slice ao n cap]) z)
theorem one_any (w : World) (hE : Env w) : Calls Tryz.prog 118 #[] w fun e w' => GotN w' 1 e ∧ Below w.heap.size w w' := by
 have hbw := Below.refl w.heap.size w;go_enter Tryz.func118, Tryz.ntmps118;go_upto_region 1 with fail;have X0 := Box.new w (.bool false) (.slice none 0 0) 32;have hb := bA w (.cells #[.bool false, .slice none 0 0] 32);generalize w.alloc (.cells #[.bool false, .slice none 0 0] 32) = v1 at *;have hE := hE.mono hb;have hbw := bu hbw hb;clear hb;go_wp2_with fail;(with_reducible refine (of_any 1 (by decide) (by decide) v1 hE).mono ?_);rintro e v2 ⟨⟨ng1, ao1, n1, cap1, rfl, HV1⟩, hb⟩;have X0 := X0.mono hb;have hbw := bu hbw hb;clear hb;obtain ⟨x0a, x0b, _, _⟩ := id X0;go_wp2;refine bodyPost_ret (v := .agg #[.bool ng1, .slice ao1 n1 cap1]) (by simp [results, Tryz.results118, go_sem, x0a, x0b]) rfl ⟨⟨ng1, ao1, n1, cap1, rfl, hii (HV1.out.put2B X0 (.bool ng1) (.slice ao1 n1 cap1))⟩, Below.put2 hbw (by omega) (.bool ng1) (.slice ao1 n1 cap1)⟩
theorem Valid_len {ng1 : Bool} {ao1 : Option Addr} {n1 cap1 : Nat} {ng2 : Bool} {ao2 : Option Addr} {n2 cap2 : Nat} (p d : Int) (w : World) (hq : Hid (d < 0)) (h1 : IntV w (.agg #[.bool ng1, .slice ao1 n1 cap1]) p) (h2 : IntV w (.agg #[.bool ng2, .slice ao2 n2 cap2]) d) (hE : Env w) :
  Calls Tryz.prog 111 #[.agg #[.bool ng1, .slice ao1 n1 cap1, .bool ng2, .slice ao2 n2 cap2]] w fun e w' => e = .returned (.bool false) ∧ Below w.heap.size w w' := by
 have HV1 := hii h1;have HV2 := hii h2;clear h1 h2;have hbw := Below.refl w.heap.size w;have HS : Hid (sgnI d = -1) := hii (by have := hq.out; unfold sgnI; split <;> (try split) <;> omega);go_enter Tryz.func111, Tryz.ntmps111;go_upto_region 1 with fail;have X0 := Box4.new w (.bool ng1) (.slice ao1 n1 cap1) (.bool ng2) (.slice ao2 n2 cap2) 34;have hb := bA w (.cells #[.bool ng1, .slice ao1 n1 cap1, .bool ng2, .slice ao2 n2 cap2] 34);generalize w.alloc (.cells #[.bool ng1, .slice ao1 n1 cap1, .bool ng2, .slice ao2 n2 cap2] 34) = v1 at *;have HV1 := hup HV1 hb;have HV2 := hup HV2 hb;have hE := hE.mono hb;have hbw := bu hbw hb;clear hb;obtain ⟨x0a, x0b, x0c, x0d, _, _, _, _⟩ := id X0;go_wp2_with fail;(with_reducible refine (validV _ p v1 HV1.out hE).mono ?_);rintro e v2 ⟨rfl, hb⟩;have HV2 := hup HV2 hb;have X0 := X0.mono hb;have hE := hE.mono hb;have hbw := bu hbw hb;clear hb;clear x0a x0b x0c x0d;obtain ⟨x0a, x0b, x0c, x0d, _, _, _, _⟩ := id X0;go_wp2_with fail;(with_reducible refine (validV _ d v2 HV2.out hE).mono ?_);rintro e v3 ⟨rfl, hb⟩;have HV2 := hup HV2 hb;have X0 := X0.mono hb;have hE := hE.mono hb;have hbw := bu hbw hb;clear hb;clear x0a x0b x0c x0d;obtain ⟨x0a, x0b, x0c, x0d, _, _, _, _⟩ := id X0;go_wp2_with fail;(with_reducible refine (Sign_eq _ d (-1) v3 HS HV2.out hE).mono ?_);rintro e v4 ⟨rfl, hb⟩;have hbw := bu hbw hb;clear hb;clear x0a x0b x0c x0d;go_wp2;go_ret;exact ⟨rfl, hbw⟩
theorem Valid_lez {ng1 : Bool} {ao1 : Option Addr} {n1 cap1 : Nat} {ng2 : Bool} {ao2 : Option Addr} {n2 cap2 : Nat} (p d : Int) (w : World) (hq : Hid (d = 0)) (h1 : IntV w (.agg #[.bool ng1, .slice ao1 n1 cap1]) p) (h2 : IntV w (.agg #[.bool ng2, .slice ao2 n2 cap2]) d) (hE : Env w) :
  Calls Tryz.prog 111 #[.agg #[.bool ng1, .slice ao1 n1 cap1, .bool ng2, .slice ao2 n2 cap2]] w fun e w' => e = .returned (.bool false) ∧ Below w.heap.size w w' := by
 have HV1 := hii h1;have HV2 := hii h2;clear h1 h2;have hbw := Below.refl w.heap.size w;have HS : Hid (sgnI d = 0) := hii (by have := hq.out; unfold sgnI; split <;> (try split) <;> omega);go_enter Tryz.func111, Tryz.ntmps111;go_upto_region 1 with fail;have X0 := Box4.new w (.bool ng1) (.slice ao1 n1 cap1) (.bool ng2) (.slice ao2 n2 cap2) 34;have hb := bA w (.cells #[.bool ng1, .slice ao1 n1 cap1, .bool ng2, .slice ao2 n2 cap2] 34);generalize w.alloc (.cells #[.bool ng1, .slice ao1 n1 cap1, .bool ng2, .slice ao2 n2 cap2] 34) = v1 at *;have HV1 := hup HV1 hb;have HV2 := hup HV2 hb;have hE := hE.mono hb;have hbw := bu hbw hb;clear hb;obtain ⟨x0a, x0b, x0c, x0d, _, _, _, _⟩ := id X0;go_wp2_with fail;(with_reducible refine (validV _ p v1 HV1.out hE).mono ?_);rintro e v2 ⟨rfl, hb⟩;have HV2 := hup HV2 hb;have X0 := X0.mono hb;have hE := hE.mono hb;have hbw := bu hbw hb;clear hb;clear x0a x0b x0c x0d;obtain ⟨x0a, x0b, x0c, x0d, _, _, _, _⟩ := id X0;go_wp2_with fail;(with_reducible refine (validV _ d v2 HV2.out hE).mono ?_);rintro e v3 ⟨rfl, hb⟩;have HV2 := hup HV2 hb;have X0 := X0.mono hb;have hE := hE.mono hb;have hbw := bu hbw hb;clear hb;clear x0a x0b x0c x0d;obtain ⟨x0a, x0b, x0c, x0d, _, _, _, _⟩ := id X0;go_wp2_with fail;(with_reducible refine (Sign_eq _ d (0) v3 HS HV2.out hE).mono ?_);rintro e v4 ⟨rfl, hb⟩;have hbw := bu hbw hb;clear hb;clear x0a x0b x0c x0d;go_wp2;go_ret;exact ⟨rfl, hbw⟩
theorem Valid_yes {ng1 : Bool} {ao1 : Option Addr} {n1 cap1 : Nat} {ng2 : Bool} {ao2 : Option Addr} {n2 cap2 : Nat} (p d : Int) (w : World) (hq : Hid (0 < d ∧ Int.gcd p d = 1)) (h1 : IntV w (.agg #[.bool ng1, .slice ao1 n1 cap1]) p) (h2 : IntV w (.agg #[.bool ng2, .slice ao2 n2 cap2]) d) (hE : Env w) :
  Calls Tryz.prog 111 #[.agg #[.bool ng1, .slice ao1 n1 cap1, .bool ng2, .slice ao2 n2 cap2]] w fun e w' => e = .returned (.bool true) ∧ Below w.heap.size w w' := by
 have HV1 := hii h1;have HV2 := hii h2;clear h1 h2;have hbw := Below.refl w.heap.size w;have HS : Hid (sgnI d = 1) := hii (by have := hq.out; unfold sgnI; split <;> (try split) <;> omega);go_enter Tryz.func111, Tryz.ntmps111;go_upto_region 1 with fail;have X0 := Box4.new w (.bool ng1) (.slice ao1 n1 cap1) (.bool ng2) (.slice ao2 n2 cap2) 34;have hb := bA w (.cells #[.bool ng1, .slice ao1 n1 cap1, .bool ng2, .slice ao2 n2 cap2] 34);generalize w.alloc (.cells #[.bool ng1, .slice ao1 n1 cap1, .bool ng2, .slice ao2 n2 cap2] 34) = v1 at *;have HV1 := hup HV1 hb;have HV2 := hup HV2 hb;have hE := hE.mono hb;have hbw := bu hbw hb;clear hb;obtain ⟨x0a, x0b, x0c, x0d, _, _, _, _⟩ := id X0;go_wp2_with fail;(with_reducible refine (validV _ p v1 HV1.out hE).mono ?_);rintro e v2 ⟨rfl, hb⟩;have HV1 := hup HV1 hb;have HV2 := hup HV2 hb;have X0 := X0.mono hb;have hE := hE.mono hb;have hbw := bu hbw hb;clear hb;clear x0a x0b x0c x0d;obtain ⟨x0a, x0b, x0c, x0d, _, _, _, _⟩ := id X0;go_wp2_with fail;(with_reducible refine (validV _ d v2 HV2.out hE).mono ?_);rintro e v3 ⟨rfl, hb⟩;have HV1 := hup HV1 hb;have HV2 := hup HV2 hb;have X0 := X0.mono hb;have hE := hE.mono hb;have hbw := bu hbw hb;clear hb;clear x0a x0b x0c x0d;obtain ⟨x0a, x0b, x0c, x0d, _, _, _, _⟩ := id X0;go_wp2_with fail;(with_reducible refine (Sign_eq _ d (1) v3 HS HV2.out hE).mono ?_);rintro e v4 ⟨rfl, hb⟩;have HV1 := hup HV1 hb;have HV2 := hup HV2 hb;have X0 := X0.mono hb;have hE := hE.mono hb;have hbw := bu hbw hb;clear hb;clear x0a x0b x0c x0d;obtain ⟨x0a, x0b, x0c, x0d, _, _, _, _⟩ := id X0;go_wp2_with fail;(with_reducible refine (Gcd_ok _ _ p d v4 HV1.out HV2.out hE).mono ?_);rintro e v5 ⟨⟨ng3, ao3, n3, cap3, rfl, HV3⟩, hb⟩;have X0 := X0.mono hb;have hE := hE.mono hb;have hbw := bu hbw hb;clear hb;clear x0a x0b x0c x0d;go_upto_region 4 with fail;have lX3X0 := X0.lt;have X3 := Box.new v5 (.bool ng3) (.slice ao3 n3 cap3) 32;have hb := bA v5 (.cells #[.bool ng3, .slice ao3 n3 cap3] 32);generalize v5.alloc (.cells #[.bool ng3, .slice ao3 n3 cap3] 32) = v6 at *;have HV3 := hup HV3 hb;have hE := hE.mono hb;have hbw := bu hbw hb;clear hb;obtain ⟨cv, hcv, hc0⟩ : ∃ cv : Int, cmpZ ((Int.gcd p d : Nat) : Int) 1 = cv ∧ (cv == 0) = true := ⟨_, rfl, by have := hq.out; unfold cmpZ; split <;> (try split) <;> simp <;> omega⟩;have HC := hii hcv;clear hcv;obtain ⟨wy, rfl⟩ := exi v6;go_cut [2] (fun s2 wc => s2 = .bool true ∧ Below wy.heap.size wy wc)
 case first =>
  obtain ⟨_, _, _, _⟩ := id X3;go_region_with (first
   | (go_at_call 118; ((with_reducible refine (one_any _ (hE.mono ?_)).mono ?_); ((repeat' (first | with_reducible assumption | with_reducible exact br | with_reducible refine Below.drew ?_ | with_reducible refine Below.alloc ?_ ?_ _ | with_reducible refine Below.setCell ?_ ?_ _ | with_reducible refine Below.step ?_ he2 ?_ | with_reducible refine Below.step ?_ he1 ?_ | (first | exact nl | omega | (simp; done) | (simp; omega) | (unfold World.setCell; simp; done) | (unfold World.setCell; simp; omega)))))); rintro e t1 ⟨⟨ng5, ao5, n5, cap5, rfl, HV5⟩, he1⟩; have HT1 : Below wy.heap.size wy t1 := (by (repeat' (first | with_reducible assumption | with_reducible exact br | with_reducible refine Below.drew ?_ | with_reducible refine Below.alloc ?_ ?_ _ | with_reducible refine Below.setCell ?_ ?_ _ | with_reducible refine Below.step ?_ he2 ?_ | with_reducible refine Below.step ?_ he1 ?_ | (first | exact nl | omega | (simp; done) | (simp; omega) | (unfold World.setCell; simp; done) | (unfold World.setCell; simp; omega))))); have ht1 := HT1.size; have hX3 := X3.mono HT1; obtain ⟨_, _, _, _⟩ := id hX3)
   | (go_at_call 148; ((with_reducible refine (Cmp_eq _ _ ((Int.gcd p d : Nat) : Int) 1 cv _ HC (HV3.out.mono ?_) (HV5.out.mono ?_) (hE.mono ?_)).mono ?_); ((repeat' (first | with_reducible assumption | with_reducible exact br | with_reducible refine Below.drew ?_ | with_reducible refine Below.alloc ?_ ?_ _ | with_reducible refine Below.setCell ?_ ?_ _ | with_reducible refine Below.step ?_ he2 ?_ | with_reducible refine Below.step ?_ he1 ?_ | (first | exact nl | omega | (simp; done) | (simp; omega) | (unfold World.setCell; simp; done) | (unfold World.setCell; simp; omega))))); ((repeat' (first | with_reducible assumption | with_reducible exact br | with_reducible refine Below.drew ?_ | with_reducible refine Below.alloc ?_ ?_ _ | with_reducible refine Below.setCell ?_ ?_ _ | with_reducible refine Below.step ?_ he2 ?_ | with_reducible refine Below.step ?_ he1 ?_ | (first | exact nl | omega | (simp; done) | (simp; omega) | (unfold World.setCell; simp; done) | (unfold World.setCell; simp; omega))))); ((repeat' (first | with_reducible assumption | with_reducible exact br | with_reducible refine Below.drew ?_ | with_reducible refine Below.alloc ?_ ?_ _ | with_reducible refine Below.setCell ?_ ?_ _ | with_reducible refine Below.step ?_ he2 ?_ | with_reducible refine Below.step ?_ he1 ?_ | (first | exact nl | omega | (simp; done) | (simp; omega) | (unfold World.setCell; simp; done) | (unfold World.setCell; simp; omega)))))); rintro e t2 ⟨rfl, he2⟩; have HT2 : Below wy.heap.size wy t2 := (by (repeat' (first | with_reducible assumption | with_reducible exact br | with_reducible refine Below.drew ?_ | with_reducible refine Below.alloc ?_ ?_ _ | with_reducible refine Below.setCell ?_ ?_ _ | with_reducible refine Below.step ?_ he2 ?_ | with_reducible refine Below.step ?_ he1 ?_ | (first | exact nl | omega | (simp; done) | (simp; omega) | (unfold World.setCell; simp; done) | (unfold World.setCell; simp; omega))))); have ht2 := HT2.size))
  all_goals (go_wp2_with fail; go_meet; exact ⟨rfl, HT2⟩)
 case rest =>
  obtain ⟨rfl, hb⟩ := hcut;have hbw := bu hbw hb;go_wp2;go_ret;exact ⟨rfl, hbw⟩
theorem Valid_gcd {ng1 : Bool} {ao1 : Option Addr} {n1 cap1 : Nat} {ng2 : Bool} {ao2 : Option Addr} {n2 cap2 : Nat} (p d : Int) (w : World) (hq : Hid (0 < d ∧ Int.gcd p d ≠ 1)) (h1 : IntV w (.agg #[.bool ng1, .slice ao1 n1 cap1]) p) (h2 : IntV w (.agg #[.bool ng2, .slice ao2 n2 cap2]) d) (hE : Env w) :
  Calls Tryz.prog 111 #[.agg #[.bool ng1, .slice ao1 n1 cap1, .bool ng2, .slice ao2 n2 cap2]] w fun e w' => e = .returned (.bool false) ∧ Below w.heap.size w w' := by
 have HV1 := hii h1;have HV2 := hii h2;clear h1 h2;have hbw := Below.refl w.heap.size w;have HS : Hid (sgnI d = 1) := hii (by have := hq.out; unfold sgnI; split <;> (try split) <;> omega);go_enter Tryz.func111, Tryz.ntmps111;go_upto_region 1 with fail;have X0 := Box4.new w (.bool ng1) (.slice ao1 n1 cap1) (.bool ng2) (.slice ao2 n2 cap2) 34;have hb := bA w (.cells #[.bool ng1, .slice ao1 n1 cap1, .bool ng2, .slice ao2 n2 cap2] 34);generalize w.alloc (.cells #[.bool ng1, .slice ao1 n1 cap1, .bool ng2, .slice ao2 n2 cap2] 34) = v1 at *;have HV1 := hup HV1 hb;have HV2 := hup HV2 hb;have hE := hE.mono hb;have hbw := bu hbw hb;clear hb;obtain ⟨x0a, x0b, x0c, x0d, _, _, _, _⟩ := id X0;go_wp2_with fail;(with_reducible refine (validV _ p v1 HV1.out hE).mono ?_);rintro e v2 ⟨rfl, hb⟩;have HV1 := hup HV1 hb;have HV2 := hup HV2 hb;have X0 := X0.mono hb;have hE := hE.mono hb;have hbw := bu hbw hb;clear hb;clear x0a x0b x0c x0d;obtain ⟨x0a, x0b, x0c, x0d, _, _, _, _⟩ := id X0;go_wp2_with fail;(with_reducible refine (validV _ d v2 HV2.out hE).mono ?_);rintro e v3 ⟨rfl, hb⟩;have HV1 := hup HV1 hb;have HV2 := hup HV2 hb;have X0 := X0.mono hb;have hE := hE.mono hb;have hbw := bu hbw hb;clear hb;clear x0a x0b x0c x0d;obtain ⟨x0a, x0b, x0c, x0d, _, _, _, _⟩ := id X0;go_wp2_with fail;(with_reducible refine (Sign_eq _ d (1) v3 HS HV2.out hE).mono ?_);rintro e v4 ⟨rfl, hb⟩;have HV1 := hup HV1 hb;have HV2 := hup HV2 hb;have X0 := X0.mono hb;have hE := hE.mono hb;have hbw := bu hbw hb;clear hb;clear x0a x0b x0c x0d;obtain ⟨x0a, x0b, x0c, x0d, _, _, _, _⟩ := id X0;go_wp2_with fail;(with_reducible refine (Gcd_ok _ _ p d v4 HV1.out HV2.out hE).mono ?_);rintro e v5 ⟨⟨ng3, ao3, n3, cap3, rfl, HV3⟩, hb⟩;have X0 := X0.mono hb;have hE := hE.mono hb;have hbw := bu hbw hb;clear hb;clear x0a x0b x0c x0d;go_upto_region 4 with fail;have lX3X0 := X0.lt;have X3 := Box.new v5 (.bool ng3) (.slice ao3 n3 cap3) 32;have hb := bA v5 (.cells #[.bool ng3, .slice ao3 n3 cap3] 32);generalize v5.alloc (.cells #[.bool ng3, .slice ao3 n3 cap3] 32) = v6 at *;have HV3 := hup HV3 hb;have hE := hE.mono hb;have hbw := bu hbw hb;clear hb;obtain ⟨cv, hcv, hc0⟩ : ∃ cv : Int, cmpZ ((Int.gcd p d : Nat) : Int) 1 = cv ∧ (cv == 0) = false := ⟨_, rfl, by have := hq.out; unfold cmpZ; split <;> (try split) <;> simp <;> omega⟩;have HC := hii hcv;clear hcv;obtain ⟨wy, rfl⟩ := exi v6;go_cut [2] (fun s2 wc => s2 = .bool false ∧ Below wy.heap.size wy wc)
 case first =>
  obtain ⟨_, _, _, _⟩ := id X3;go_region_with (first
   | (go_at_call 118; ((with_reducible refine (one_any _ (hE.mono ?_)).mono ?_); ((repeat' (first | with_reducible assumption | with_reducible exact br | with_reducible refine Below.drew ?_ | with_reducible refine Below.alloc ?_ ?_ _ | with_reducible refine Below.setCell ?_ ?_ _ | with_reducible refine Below.step ?_ he2 ?_ | with_reducible refine Below.step ?_ he1 ?_ | (first | exact nl | omega | (simp; done) | (simp; omega) | (unfold World.setCell; simp; done) | (unfold World.setCell; simp; omega)))))); rintro e t1 ⟨⟨ng5, ao5, n5, cap5, rfl, HV5⟩, he1⟩; have HT1 : Below wy.heap.size wy t1 := (by (repeat' (first | with_reducible assumption | with_reducible exact br | with_reducible refine Below.drew ?_ | with_reducible refine Below.alloc ?_ ?_ _ | with_reducible refine Below.setCell ?_ ?_ _ | with_reducible refine Below.step ?_ he2 ?_ | with_reducible refine Below.step ?_ he1 ?_ | (first | exact nl | omega | (simp; done) | (simp; omega) | (unfold World.setCell; simp; done) | (unfold World.setCell; simp; omega))))); have ht1 := HT1.size; have hX3 := X3.mono HT1; obtain ⟨_, _, _, _⟩ := id hX3)
   | (go_at_call 148; ((with_reducible refine (Cmp_eq _ _ ((Int.gcd p d : Nat) : Int) 1 cv _ HC (HV3.out.mono ?_) (HV5.out.mono ?_) (hE.mono ?_)).mono ?_); ((repeat' (first | with_reducible assumption | with_reducible exact br | with_reducible refine Below.drew ?_ | with_reducible refine Below.alloc ?_ ?_ _ | with_reducible refine Below.setCell ?_ ?_ _ | with_reducible refine Below.step ?_ he2 ?_ | with_reducible refine Below.step ?_ he1 ?_ | (first | exact nl | omega | (simp; done) | (simp; omega) | (unfold World.setCell; simp; done) | (unfold World.setCell; simp; omega))))); ((repeat' (first | with_reducible assumption | with_reducible exact br | with_reducible refine Below.drew ?_ | with_reducible refine Below.alloc ?_ ?_ _ | with_reducible refine Below.setCell ?_ ?_ _ | with_reducible refine Below.step ?_ he2 ?_ | with_reducible refine Below.step ?_ he1 ?_ | (first | exact nl | omega | (simp; done) | (simp; omega) | (unfold World.setCell; simp; done) | (unfold World.setCell; simp; omega))))); ((repeat' (first | with_reducible assumption | with_reducible exact br | with_reducible refine Below.drew ?_ | with_reducible refine Below.alloc ?_ ?_ _ | with_reducible refine Below.setCell ?_ ?_ _ | with_reducible refine Below.step ?_ he2 ?_ | with_reducible refine Below.step ?_ he1 ?_ | (first | exact nl | omega | (simp; done) | (simp; omega) | (unfold World.setCell; simp; done) | (unfold World.setCell; simp; omega)))))); rintro e t2 ⟨rfl, he2⟩; have HT2 : Below wy.heap.size wy t2 := (by (repeat' (first | with_reducible assumption | with_reducible exact br | with_reducible refine Below.drew ?_ | with_reducible refine Below.alloc ?_ ?_ _ | with_reducible refine Below.setCell ?_ ?_ _ | with_reducible refine Below.step ?_ he2 ?_ | with_reducible refine Below.step ?_ he1 ?_ | (first | exact nl | omega | (simp; done) | (simp; omega) | (unfold World.setCell; simp; done) | (unfold World.setCell; simp; omega))))); have ht2 := HT2.size))
  all_goals (go_wp2_with fail; go_meet; exact ⟨rfl, HT2⟩)
 case rest =>
  obtain ⟨rfl, hb⟩ := hcut;have hbw := bu hbw hb;go_wp2;go_ret;exact ⟨rfl, hbw⟩
theorem Valid_num (x1 x2 : Bool) (l1 l2 : List Nat) (a1 a2 : Option Addr) (c1 c2 : Nat) (w : World) (m1 : l1.length ≤ 1000000000) (_m2 : l2.length ≤ 1000000000) (u1 : U w a1 l1) (u2 : U w a2 l2) (hv : Hid (¬ validP x1 l1)) (hE : Env w) :
  Calls Tryz.prog 111 #[.agg #[.bool x1, .slice a1 l1.length c1, .bool x2, .slice a2 l2.length c2]] w fun e w' => e = .returned (.bool false) ∧ Below w.heap.size w w' := by
 have hbw := Below.refl w.heap.size w;go_enter Tryz.func111, Tryz.ntmps111;go_upto_region 1 with fail;have X0 := Box4.new w (.bool x1) (.slice a1 l1.length c1) (.bool x2) (.slice a2 l2.length c2) 34;have hb := bA w (.cells #[.bool x1, .slice a1 l1.length c1, .bool x2, .slice a2 l2.length c2] 34);generalize w.alloc (.cells #[.bool x1, .slice a1 l1.length c1, .bool x2, .slice a2 l2.length c2] 34) = v1 at *;have u1 := u1.mono hb;have hE := hE.mono hb;have hbw := bu hbw hb;clear hb;obtain ⟨x0a, x0b, x0c, x0d, _, _, _, _⟩ := id X0;go_wp2_with fail;(with_reducible refine (valid_no x1 l1 a1 c1 v1 m1 hv u1 hE).mono ?_);rintro e v2 ⟨rfl, hb⟩;have hbw := bu hbw hb;clear hb;clear x0a x0b x0c x0d;go_wp2;go_ret;exact ⟨rfl, hbw⟩
theorem Valid_den (x1 x2 : Bool) (l1 l2 : List Nat) (a1 a2 : Option Addr) (c1 c2 : Nat) (w : World) (m1 : l1.length ≤ 1000000000) (m2 : l2.length ≤ 1000000000) (u1 : U w a1 l1) (u2 : U w a2 l2) (hv : Hid (Hid (validP x1 l1) ∧ Hid (¬ validP x2 l2))) (hE : Env w) :
  Calls Tryz.prog 111 #[.agg #[.bool x1, .slice a1 l1.length c1, .bool x2, .slice a2 l2.length c2]] w fun e w' => e = .returned (.bool false) ∧ Below w.heap.size w w' := by
 have hbw := Below.refl w.heap.size w;go_enter Tryz.func111, Tryz.ntmps111;go_upto_region 1 with fail;have X0 := Box4.new w (.bool x1) (.slice a1 l1.length c1) (.bool x2) (.slice a2 l2.length c2) 34;have hb := bA w (.cells #[.bool x1, .slice a1 l1.length c1, .bool x2, .slice a2 l2.length c2] 34);generalize w.alloc (.cells #[.bool x1, .slice a1 l1.length c1, .bool x2, .slice a2 l2.length c2] 34) = v1 at *;have u1 := u1.mono hb;have u2 := u2.mono hb;have hE := hE.mono hb;have hbw := bu hbw hb;clear hb;obtain ⟨x0a, x0b, x0c, x0d, _, _, _, _⟩ := id X0;go_wp2_with fail;(with_reducible refine (valid_yes x1 l1 a1 c1 v1 m1 hv.out.1 u1 hE).mono ?_);rintro e v2 ⟨rfl, hb⟩;have u2 := u2.mono hb;have X0 := X0.mono hb;have hE := hE.mono hb;have hbw := bu hbw hb;clear hb;clear x0a x0b x0c x0d;obtain ⟨x0a, x0b, x0c, x0d, _, _, _, _⟩ := id X0;go_wp2_with fail;(with_reducible refine (valid_no x2 l2 a2 c2 v2 m2 hv.out.2 u2 hE).mono ?_);rintro e v3 ⟨rfl, hb⟩;have hbw := bu hbw hb;clear hb;clear x0a x0b x0c x0d;go_wp2;go_ret;exact ⟨rfl, hbw⟩
def ValidR (x1 : Bool) (l1 : List Nat) (x2 : Bool) (l2 : List Nat) : Prop :=
 ∃ r : Rat, x1 = decide (r.num < 0) ∧ l1 = Bi.limbs r.num.natAbs ∧ Rq.Sm r.num ∧ x2 = false ∧ l2 = Bi.limbs r.den ∧ Rq.Sm (r.den : Int)
def VQ (w : World) (v : Value) (b : Bool) : Prop :=
 ∃ (x1 x2 : Bool) (l1 l2 : List Nat) (a1 a2 : Option Addr) (c1 c2 : Nat), v = .agg #[.bool x1, .slice a1 l1.length c1, .bool x2, .slice a2 l2.length c2] ∧ l1.length ≤ 1000000000 ∧ l2.length ≤ 1000000000 ∧ l1.length ≤ c1 ∧ l2.length ≤ c2 ∧ U w a1 l1 ∧ U w a2 l2 ∧ Hid (b = true ↔ ValidR x1 l1 x2 l2)
theorem VQ.mono {w w' : World} {v : Value} {b : Bool} (h : VQ w v b) (hb : Below w.heap.size w w') : VQ w' v b := by
 obtain ⟨x1, x2, l1, l2, a1, a2, c1, c2, e, h1, h2, k1, k2, h3, h4, h5⟩ := h;exact ⟨x1, x2, l1, l2, a1, a2, c1, c2, e, h1, h2, k1, k2, h3.mono hb, h4.mono hb, h5⟩
theorem VQ.parts {w : World} {v : Value} {b : Bool} (h : VQ w v b) : ∃ (ng : Bool) (ao : Option Addr) (n cap : Nat) (ng2 : Bool) (ao2 : Option Addr) (n2 cap2 : Nat), v = .agg #[.bool ng, .slice ao n cap, .bool ng2, .slice ao2 n2 cap2] := by
 obtain ⟨x1, x2, l1, l2, a1, a2, c1, c2, e, _⟩ := h;exact ⟨_, _, _, _, _, _, _, _, e⟩
theorem RatV.parts {w : World} {v : Value} {r : Rat} (h : RatV w v r) : ∃ (ng : Bool) (ao : Option Addr) (n cap : Nat) (ng2 : Bool) (ao2 : Option Addr) (n2 cap2 : Nat), v = .agg #[.bool ng, .slice ao n cap, .bool ng2, .slice ao2 n2 cap2] := by
 obtain ⟨n1, a1, l1, c1, n2, a2, l2, c2, e, _⟩ := h;exact ⟨_, _, _, _, _, _, _, _, e⟩
theorem RatV.vq {w : World} {v : Value} {r : Rat} (h : RatV w v r) : VQ w v true := by
 obtain ⟨n1, a1, l1, c1, n2, a2, l2, c2, e, h1, h2⟩ := h;obtain ⟨m1, b1, L1, d1, e1, Hn1, HL1, HB1, hk1, hl1, hU1⟩ := h1;obtain ⟨m2, b2, L2, d2, e2, Hn2, HL2, HB2, hk2, hl2, hU2⟩ := h2;simp only [Value.agg.injEq, Array.mk.injEq, List.cons.injEq, Value.bool.injEq, Value.slice.injEq, and_true] at e1 e2;obtain ⟨rfl, rfl, rfl, rfl⟩ := e1;obtain ⟨rfl, rfl, rfl, rfl⟩ := e2;refine ⟨n1, n2, L1, L2, a1, a2, c1, c2, e, by omega, by omega, hk1, hk2, hU1, hU2, hii ⟨fun _ => ⟨r, Hn1.out, HL1.out, HB1.out, ?_, ?_, HB2.out⟩, fun _ => rfl⟩⟩
 ·rw [Hn2.out]; simp
 ·rw [HL2.out, Int.natAbs_natCast]
theorem VQ.rat {w : World} {v : Value} (h : VQ w v true) : ∃ r, RatV w v r := by
 obtain ⟨x1, x2, l1, l2, a1, a2, c1, c2, e, h1, h2, k1, k2, h3, h4, h5⟩ := h;obtain ⟨r, e1, e2, e3, e4, e5, e6⟩ := h5.out.1 rfl;refine ⟨r, x1, a1, _, c1, x2, a2, _, c2, e, ⟨x1, a1, l1, c1, rfl, hii e1, hii e2, hii e3, k1, by rw [e2]; exact limbs_len34 e3, h3⟩, ⟨x2, a2, l2, c2, rfl, hii ?_, hii ?_, hii e6, k2, ?_, h4⟩⟩
 ·rw [e4]; simp
 ·rw [e5, Int.natAbs_natCast]
 ·rw [e5]; exact limbs_len34 (by have := e6; unfold Rq.Sm at this; rwa [Int.natAbs_natCast] at this)
theorem int_of {w : World} {x : Bool} {l : List Nat} {a : Option Addr} {c : Nat} (hv : validP x l) (hc : l.length ≤ c) (hU : U w a l) : ∃ z : Int, IntV w (.agg #[.bool x, .slice a l.length c]) z ∧ x = decide (z < 0) ∧ l = Bi.limbs z.natAbs ∧ Rq.Sm z := by
 obtain ⟨z, h1, h2, h3, h4⟩ := valid_parts hv;exact ⟨z, IntV.mk' (hii h1) (hii h2) (hii h3) hc h4 hU, h1, h2, h3⟩
theorem validR_of {x1 x2 : Bool} {l1 l2 : List Nat} {p d : Int} (h1 : x1 = decide (p < 0)) (h2 : l1 = Bi.limbs p.natAbs) (h3 : Rq.Sm p) (h4 : x2 = decide (d < 0)) (h5 : l2 = Bi.limbs d.natAbs) (h6 : Rq.Sm d) (hv : Rq.VP p d) : ValidR x1 l1 x2 l2 := by
 obtain ⟨r, e1, e2⟩ := hv.rat;have hd := hv.1;refine ⟨r, by rw [e1]; exact h1, by rw [e1]; exact h2, by rw [e1]; exact h3, ?_, ?_, by rw [e2]; exact h6⟩
 ·rw [h4]; simp; omega
 ·rw [h5]; congr 1; omega
theorem Valid_false (v : Value) (w : World) (h : VQ w v false) (hE : Env w) :
  Calls Tryz.prog 111 #[v] w fun e w' => e = .returned (.bool false) ∧ Below w.heap.size w w' := by
 obtain ⟨x1, x2, l1, l2, a1, a2, c1, c2, rfl, h1, h2, k1, k2, h3, h4, h5⟩ := h;have hn : ¬ ValidR x1 l1 x2 l2 := fun h => by simpa using h5.out.2 h
 by_cases v1 : validP x1 l1
 ·by_cases v2 : validP x2 l2
  ·obtain ⟨p, hp, p1, p2, p3⟩ := int_of v1 k1 h3;obtain ⟨d, hd, d1, d2, d3⟩ := int_of v2 k2 h4;rcases Int.lt_trichotomy d 0 with hd0 | hd0 | hd0
   ·exact Valid_len p d w (hii hd0) hp hd hE
   ·exact Valid_lez p d w (hii hd0) hp hd hE
   ·exact Valid_gcd p d w (hii ⟨hd0, fun hg => hn (validR_of p1 p2 p3 d1 d2 d3 ⟨hd0, hg⟩)⟩) hp hd hE
  ·exact Valid_den x1 x2 l1 l2 a1 a2 c1 c2 w h1 h2 h3 h4 (hii ⟨hii v1, hii v2⟩) hE
 ·exact Valid_num x1 x2 l1 l2 a1 a2 c1 c2 w h1 h2 h3 h4 (hii v1) hE
theorem Valid_true (v : Value) (r : Rat) (w : World) (h : RatV w v r) (hE : Env w) :
  Calls Tryz.prog 111 #[v] w fun e w' => e = .returned (.bool true) ∧ Below w.heap.size w w' := by
 obtain ⟨n1, a1, l1, c1, n2, a2, l2, c2, rfl, h1, h2⟩ := h;exact Valid_yes r.num (r.den : Int) w (hii (Rq.vp_rat r)) h1 h2 hE
theorem Valid_v (v : Value) (b : Bool) (w : World) (h : VQ w v b) (hE : Env w) :
  Calls Tryz.prog 111 #[v] w fun e w' => e = .returned (.bool b) ∧ Below w.heap.size w w' := by
 cases b
 ·exact Valid_false v w h hE
 ·obtain ⟨r, hr⟩ := h.rat;exact Valid_true v r w hr hE
end Go.Proofs.YtgfpbghgpdpepaaGreatDoor
