import Derived.Test.YtgenhkakcbedaaaGreatDoorQV
import Derived.Test.YtgenhkakcbedaaaGreatDoorQE
import Derived.Test.YtgenhkakcbedaaaGreatDoorQ8
import Derived.Test.YtgenhkakcbedaaaGreatDoorQA
namespace Go.Proofs.YtgenhkakcbedaaaGreatDoor
open Go.RowKit

/-- a fraction as it came in -/
def RawQ (w : World) (v : Value) : Prop :=
  ∃ (x1 x2 : Bool) (l1 l2 : List Nat) (a1 a2 : Option Addr) (c1 c2 : Nat), v = .agg #[.bool x1, .slice a1 l1.length c1, .bool x2, .slice a2 l2.length c2] ∧ l1.length ≤ c1 ∧ l2.length ≤ c2 ∧ U w a1 l1 ∧ U w a2 l2

theorem few_eq (neg : Bool) (l : List Nat) (n : Int) (b : Bool) (ao : Option Addr) (cap : Nat) (w : World) (h : Hid (decide ((l.length : Int) ≤ n) = b)) :
    Calls Tryz.prog 14 #[.agg #[.bool neg, .slice ao l.length cap], .int .i64 n] w fun e w' => e = .returned (.bool b) ∧ Below w.heap.size w w' := by
  rw [← h.out]; exact few_any neg l n ao cap w

theorem errnos8 (w : World) (t : TypeId) (k : Nat) (h : k < 8) :
    (w.alloc (.cells #[.int .i64 1, .int .i64 1, .int .i64 1, .int .i64 1, .int .i64 1, .int .i64 1, .int .i64 1, .int .i64 1] t)).cell? ⟨w.heap.size, k, none⟩ = some (.int .i64 1) := by
  match k, h with
  | 0, _ => simp [go_sem]
  | 1, _ => simp [go_sem]
  | 2, _ => simp [go_sem]
  | 3, _ => simp [go_sem]
  | 4, _ => simp [go_sem]
  | 5, _ => simp [go_sem]
  | 6, _ => simp [go_sem]
  | 7, _ => simp [go_sem]

theorem UQ.one {w : World} {g : Nat} {n1 : Bool} {a1 : Option Addr} {l1 c1 : Nat} {n2 : Bool} {a2 : Option Addr} {l2 c2 : Nat} {o : Option Rat} (B : Box4 w g (.bool n1) (.slice a1 l1 c1) (.bool n2) (.slice a2 l2 c2)) (h : QV w (.agg #[.bool n1, .slice a1 l1 c1, .bool n2, .slice a2 l2 c2]) o) :
    UQ w (some ⟨g, 0, none⟩) [o] := by
  intro i o' hi
  match i, hi with
  | 0, hi =>
    simp at hi; subst hi
    exact ⟨g, 0, n1, a1, l1, c1, n2, a2, l2, c2, rfl, ⟨B.c0, B.c1, B.c2, B.c3, trivial, trivial, trivial, trivial⟩, h⟩
  | i + 1, hi => simp at hi

theorem Dot_inv1 {r : Rat} {aa ab : Option Addr} (w : World) (ua : UQ w aa [some r]) (ub : UQ w ab [none]) (hE : Env w) :
    Calls Tryz.prog 40 #[.slice aa 1 1, .slice ab 1 1] w fun e w' => NoQ 1 e ∧ Below w.heap.size w w' :=
  Dot_inv [some r] [none] aa ab 1 1 w (by simp) rfl ua ub (Lib.hid ⟨0, by simp, .inr rfl⟩) hE

set_option maxRecDepth 100000 in
set_option maxHeartbeats 1600000 in
theorem fewQ_yes (x1 x2 : Bool) (l1 l2 : List Nat) (a1 a2 : Option Addr) (c1 c2 : Nat) (n : Int) (w : World) (H1 : Hid (decide ((l1.length : Int) ≤ n) = true)) (H2 : Hid (decide ((l2.length : Int) ≤ n) = true)) :
    Calls Tryz.prog 42 #[.agg #[.bool x1, .slice a1 l1.length c1, .bool x2, .slice a2 l2.length c2], .int .i64 n] w fun e w' => e = .returned (.bool true) ∧ Below w.heap.size w w' := by
  have hbw := Below.refl w.heap.size w
  go_enter Tryz.func42, Tryz.ntmps42
  go_upto_region 1 with fail
  have X0 := Box4.new w (.bool x1) (.slice a1 l1.length c1) (.bool x2) (.slice a2 l2.length c2) 29
  have hb := below_alloc w (.cells #[.bool x1, .slice a1 l1.length c1, .bool x2, .slice a2 l2.length c2] 29)
  generalize w.alloc (.cells #[.bool x1, .slice a1 l1.length c1, .bool x2, .slice a2 l2.length c2] 29) = v1 at *
  have hbw := Below.step hbw hb (Nat.le_refl _)
  clear hb
  obtain ⟨cX0_0, cX0_1, cX0_2, cX0_3, _, _, _, _⟩ := id X0
  go_wp2_with fail
  (with_reducible refine (few_eq x1 l1 n _ a1 c1 v1 H1).mono ?_)
  rintro e v2 ⟨rfl, hb⟩
  have X0 := X0.mono hb
  have hbw := Below.step hbw hb (Nat.le_refl _)
  clear hb
  clear cX0_0 cX0_1 cX0_2 cX0_3
  obtain ⟨cX0_0, cX0_1, cX0_2, cX0_3, _, _, _, _⟩ := id X0
  go_wp2_with fail
  (with_reducible refine (few_eq x2 l2 n _ a2 c2 v2 H2).mono ?_)
  rintro e v3 ⟨rfl, hb⟩
  have X0 := X0.mono hb
  have hbw := Below.step hbw hb (Nat.le_refl _)
  clear hb
  clear cX0_0 cX0_1 cX0_2 cX0_3
  go_wp2
  go_ret
  exact ⟨rfl, hbw⟩

set_option maxRecDepth 100000 in
set_option maxHeartbeats 1600000 in
theorem fewQ_no1 (x1 x2 : Bool) (l1 l2 : List Nat) (a1 a2 : Option Addr) (c1 c2 : Nat) (n : Int) (w : World) (H1 : Hid (decide ((l1.length : Int) ≤ n) = false)) :
    Calls Tryz.prog 42 #[.agg #[.bool x1, .slice a1 l1.length c1, .bool x2, .slice a2 l2.length c2], .int .i64 n] w fun e w' => e = .returned (.bool false) ∧ Below w.heap.size w w' := by
  have hbw := Below.refl w.heap.size w
  go_enter Tryz.func42, Tryz.ntmps42
  go_upto_region 1 with fail
  have X0 := Box4.new w (.bool x1) (.slice a1 l1.length c1) (.bool x2) (.slice a2 l2.length c2) 29
  have hb := below_alloc w (.cells #[.bool x1, .slice a1 l1.length c1, .bool x2, .slice a2 l2.length c2] 29)
  generalize w.alloc (.cells #[.bool x1, .slice a1 l1.length c1, .bool x2, .slice a2 l2.length c2] 29) = v1 at *
  have hbw := Below.step hbw hb (Nat.le_refl _)
  clear hb
  obtain ⟨cX0_0, cX0_1, cX0_2, cX0_3, _, _, _, _⟩ := id X0
  go_wp2_with fail
  (with_reducible refine (few_eq x1 l1 n _ a1 c1 v1 H1).mono ?_)
  rintro e v2 ⟨rfl, hb⟩
  have X0 := X0.mono hb
  have hbw := Below.step hbw hb (Nat.le_refl _)
  clear hb
  clear cX0_0 cX0_1 cX0_2 cX0_3
  go_wp2
  go_ret
  exact ⟨rfl, hbw⟩

set_option maxRecDepth 100000 in
set_option maxHeartbeats 1600000 in
theorem fewQ_no2 (x1 x2 : Bool) (l1 l2 : List Nat) (a1 a2 : Option Addr) (c1 c2 : Nat) (n : Int) (w : World) (H1 : Hid (decide ((l1.length : Int) ≤ n) = true)) (H2 : Hid (decide ((l2.length : Int) ≤ n) = false)) :
    Calls Tryz.prog 42 #[.agg #[.bool x1, .slice a1 l1.length c1, .bool x2, .slice a2 l2.length c2], .int .i64 n] w fun e w' => e = .returned (.bool false) ∧ Below w.heap.size w w' := by
  have hbw := Below.refl w.heap.size w
  go_enter Tryz.func42, Tryz.ntmps42
  go_upto_region 1 with fail
  have X0 := Box4.new w (.bool x1) (.slice a1 l1.length c1) (.bool x2) (.slice a2 l2.length c2) 29
  have hb := below_alloc w (.cells #[.bool x1, .slice a1 l1.length c1, .bool x2, .slice a2 l2.length c2] 29)
  generalize w.alloc (.cells #[.bool x1, .slice a1 l1.length c1, .bool x2, .slice a2 l2.length c2] 29) = v1 at *
  have hbw := Below.step hbw hb (Nat.le_refl _)
  clear hb
  obtain ⟨cX0_0, cX0_1, cX0_2, cX0_3, _, _, _, _⟩ := id X0
  go_wp2_with fail
  (with_reducible refine (few_eq x1 l1 n _ a1 c1 v1 H1).mono ?_)
  rintro e v2 ⟨rfl, hb⟩
  have X0 := X0.mono hb
  have hbw := Below.step hbw hb (Nat.le_refl _)
  clear hb
  clear cX0_0 cX0_1 cX0_2 cX0_3
  obtain ⟨cX0_0, cX0_1, cX0_2, cX0_3, _, _, _, _⟩ := id X0
  go_wp2_with fail
  (with_reducible refine (few_eq x2 l2 n _ a2 c2 v2 H2).mono ?_)
  rintro e v3 ⟨rfl, hb⟩
  have X0 := X0.mono hb
  have hbw := Below.step hbw hb (Nat.le_refl _)
  clear hb
  clear cX0_0 cX0_1 cX0_2 cX0_3
  go_wp2
  go_ret
  exact ⟨rfl, hbw⟩

set_option maxRecDepth 100000 in
set_option maxHeartbeats 1600000 in
theorem valid_few1 (x1 x2 : Bool) (l1 l2 : List Nat) (a1 a2 : Option Addr) (c1 c2 : Nat) (s : Value) (w : World) (hs : DraftQ w s) (hE : Env w) (hM : MaxV w) (h1 : Hid (decide ((l1.length : Int) ≤ 36) = false)) :
    Calls Tryz.prog 11 #[.agg #[.bool x1, .slice a1 l1.length c1, .bool x2, .slice a2 l2.length c2], s] w fun e w' => e = .returned (.bool true) ∧ Below w.heap.size w w' := by
  obtain ⟨ng1, ao1, n1, cap1, ng2, ao2, n2, cap2, rfl, D1, D2⟩ := hs
  have DX : DraftQ w (.agg #[.bool ng1, .slice ao1 n1 cap1, .bool ng2, .slice ao2 n2 cap2]) := ⟨_, _, _, _, _, _, _, _, rfl, D1, D2⟩
  clear D1 D2
  have hE0 := hE
  have hbw := Below.refl w.heap.size w
  go_enter Tryz.func11, Tryz.ntmps11
  go_upto_region 1 with fail
  obtain ⟨wx, hwx, hszx, X1, X2, hb⟩ := boxes_44 w (.bool x1) (.slice a1 l1.length c1) (.bool x2) (.slice a2 l2.length c2) 29 (.bool ng1) (.slice ao1 n1 cap1) (.bool ng2) (.slice ao2 n2 cap2) 39
  rw [← hwx]
  clear hwx
  obtain ⟨v1, rfl⟩ : ∃ v1 : World, v1 = wx := ⟨_, rfl⟩
  have DX := DX.mono hb
  have hM := hM.mono hb
  have hE := hE.mono hb
  have hbw := Below.step hbw hb (Nat.le_refl _)
  clear hb
  go_wp2_with fail
  (with_reducible refine (awakeQ v1 hE hM).mono ?_)
  rintro e v2 ⟨rfl, hb⟩
  have DX := DX.mono hb
  have hM := hM.mono hb
  have X1 := X1.mono hb
  have X2 := X2.mono hb
  have hE := hE.mono hb
  have hbw := Below.step hbw hb (Nat.le_refl _)
  clear hb
  obtain ⟨cX1_0, cX1_1, cX1_2, cX1_3, _, _, _, _⟩ := id X1
  go_wp2_with fail
  (with_reducible refine (fewQ_no1 x1 x2 l1 l2 a1 a2 c1 c2 36 v2 h1).mono ?_)
  rintro e v3 ⟨rfl, hb⟩
  have DX := DX.mono hb
  have hM := hM.mono hb
  have X1 := X1.mono hb
  have X2 := X2.mono hb
  have hE := hE.mono hb
  have hbw := Below.step hbw hb (Nat.le_refl _)
  clear hb
  clear cX1_0 cX1_1 cX1_2 cX1_3
  go_wp2_with fail
  (with_reducible refine (awakeQ v3 hE hM).mono ?_)
  rintro e v4 ⟨rfl, hb⟩
  have DX := DX.mono hb
  have hM := hM.mono hb
  have X1 := X1.mono hb
  have X2 := X2.mono hb
  have hE := hE.mono hb
  have hbw := Below.step hbw hb (Nat.le_refl _)
  clear hb
  go_wp2
  go_ret
  exact ⟨rfl, hbw⟩

set_option maxRecDepth 100000 in
set_option maxHeartbeats 1600000 in
theorem valid_few2 (x1 x2 : Bool) (l1 l2 : List Nat) (a1 a2 : Option Addr) (c1 c2 : Nat) (s : Value) (w : World) (hs : DraftQ w s) (hE : Env w) (hM : MaxV w) (h1 : Hid (decide ((l1.length : Int) ≤ 36) = true)) (h2 : Hid (decide ((l2.length : Int) ≤ 36) = false)) :
    Calls Tryz.prog 11 #[.agg #[.bool x1, .slice a1 l1.length c1, .bool x2, .slice a2 l2.length c2], s] w fun e w' => e = .returned (.bool true) ∧ Below w.heap.size w w' := by
  obtain ⟨ng1, ao1, n1, cap1, ng2, ao2, n2, cap2, rfl, D1, D2⟩ := hs
  have DX : DraftQ w (.agg #[.bool ng1, .slice ao1 n1 cap1, .bool ng2, .slice ao2 n2 cap2]) := ⟨_, _, _, _, _, _, _, _, rfl, D1, D2⟩
  clear D1 D2
  have hE0 := hE
  have hbw := Below.refl w.heap.size w
  go_enter Tryz.func11, Tryz.ntmps11
  go_upto_region 1 with fail
  obtain ⟨wx, hwx, hszx, X1, X2, hb⟩ := boxes_44 w (.bool x1) (.slice a1 l1.length c1) (.bool x2) (.slice a2 l2.length c2) 29 (.bool ng1) (.slice ao1 n1 cap1) (.bool ng2) (.slice ao2 n2 cap2) 39
  rw [← hwx]
  clear hwx
  obtain ⟨v1, rfl⟩ : ∃ v1 : World, v1 = wx := ⟨_, rfl⟩
  have DX := DX.mono hb
  have hM := hM.mono hb
  have hE := hE.mono hb
  have hbw := Below.step hbw hb (Nat.le_refl _)
  clear hb
  go_wp2_with fail
  (with_reducible refine (awakeQ v1 hE hM).mono ?_)
  rintro e v2 ⟨rfl, hb⟩
  have DX := DX.mono hb
  have hM := hM.mono hb
  have X1 := X1.mono hb
  have X2 := X2.mono hb
  have hE := hE.mono hb
  have hbw := Below.step hbw hb (Nat.le_refl _)
  clear hb
  obtain ⟨cX1_0, cX1_1, cX1_2, cX1_3, _, _, _, _⟩ := id X1
  go_wp2_with fail
  (with_reducible refine (fewQ_no2 x1 x2 l1 l2 a1 a2 c1 c2 36 v2 h1 h2).mono ?_)
  rintro e v3 ⟨rfl, hb⟩
  have DX := DX.mono hb
  have hM := hM.mono hb
  have X1 := X1.mono hb
  have X2 := X2.mono hb
  have hE := hE.mono hb
  have hbw := Below.step hbw hb (Nat.le_refl _)
  clear hb
  clear cX1_0 cX1_1 cX1_2 cX1_3
  go_wp2_with fail
  (with_reducible refine (awakeQ v3 hE hM).mono ?_)
  rintro e v4 ⟨rfl, hb⟩
  have DX := DX.mono hb
  have hM := hM.mono hb
  have X1 := X1.mono hb
  have X2 := X2.mono hb
  have hE := hE.mono hb
  have hbw := Below.step hbw hb (Nat.le_refl _)
  clear hb
  go_wp2
  go_ret
  exact ⟨rfl, hbw⟩

set_option maxRecDepth 100000 in
set_option maxHeartbeats 6400000 in
theorem valid_true (x1 x2 : Bool) (l1 l2 : List Nat) (a1 a2 : Option Addr) (c1 c2 : Nat) (s : Value) (w : World) (hs : DraftQ w s) (hE : Env w) (hM : MaxV w) (h1 : Hid (decide ((l1.length : Int) ≤ 36) = true)) (h2 : Hid (decide ((l2.length : Int) ≤ 36) = true)) (hv : VQ w (.agg #[.bool x1, .slice a1 l1.length c1, .bool x2, .slice a2 l2.length c2]) true) :
    Calls Tryz.prog 11 #[.agg #[.bool x1, .slice a1 l1.length c1, .bool x2, .slice a2 l2.length c2], s] w fun e w' => e = .returned (.bool true) ∧ Below w.heap.size w w' := by
  obtain ⟨ng1, ao1, n1, cap1, ng2, ao2, n2, cap2, rfl, D1, D2⟩ := hs
  have DX : DraftQ w (.agg #[.bool ng1, .slice ao1 n1 cap1, .bool ng2, .slice ao2 n2 cap2]) := ⟨_, _, _, _, _, _, _, _, rfl, D1, D2⟩
  clear D1 D2
  have hE0 := hE
  have hbw := Below.refl w.heap.size w
  go_enter Tryz.func11, Tryz.ntmps11
  go_upto_region 1 with fail
  obtain ⟨wx, hwx, hszx, X1, X2, hb⟩ := boxes_44 w (.bool x1) (.slice a1 l1.length c1) (.bool x2) (.slice a2 l2.length c2) 29 (.bool ng1) (.slice ao1 n1 cap1) (.bool ng2) (.slice ao2 n2 cap2) 39
  rw [← hwx]
  clear hwx
  obtain ⟨v1, rfl⟩ : ∃ v1 : World, v1 = wx := ⟨_, rfl⟩
  have DX := DX.mono hb
  have hM := hM.mono hb
  have hv := hv.mono hb
  have hE := hE.mono hb
  have hbw := Below.step hbw hb (Nat.le_refl _)
  clear hb
  go_wp2_with fail
  (with_reducible refine (awakeQ v1 hE hM).mono ?_)
  rintro e v2 ⟨rfl, hb⟩
  have DX := DX.mono hb
  have hM := hM.mono hb
  have hv := hv.mono hb
  have X1 := X1.mono hb
  have X2 := X2.mono hb
  have hE := hE.mono hb
  have hbw := Below.step hbw hb (Nat.le_refl _)
  clear hb
  obtain ⟨cX1_0, cX1_1, cX1_2, cX1_3, _, _, _, _⟩ := id X1
  go_wp2_with fail
  (with_reducible refine (fewQ_yes x1 x2 l1 l2 a1 a2 c1 c2 36 v2 h1 h2).mono ?_)
  rintro e v3 ⟨rfl, hb⟩
  have DX := DX.mono hb
  have hM := hM.mono hb
  have hv := hv.mono hb
  have X1 := X1.mono hb
  have X2 := X2.mono hb
  have hE := hE.mono hb
  have hbw := Below.step hbw hb (Nat.le_refl _)
  clear hb
  clear cX1_0 cX1_1 cX1_2 cX1_3
  go_upto_region 3 with fail
  obtain ⟨wy, rfl⟩ : ∃ wy : World, wy = v3 := ⟨_, rfl⟩
  go_cut [36] (fun s36 wc => s36 = .bool false ∧ Below wy.heap.size wy wc)
  case first =>
    have hS4 : ∀ W : World, Below wy.heap.size wy W → W.cell? ⟨w.heap.size, 0, none⟩ = some (.bool x1) ∧ W.cell? ⟨w.heap.size, 1, none⟩ = some (.slice a1 l1.length c1) ∧ W.cell? ⟨w.heap.size, 2, none⟩ = some (.bool x2) ∧ W.cell? ⟨w.heap.size, 3, none⟩ = some (.slice a2 l2.length c2) := fun W h => ⟨(X1.mono h).c0, (X1.mono h).c1, (X1.mono h).c2, (X1.mono h).c3⟩
    refine wp_region_vals (wx := wy) [(fun _ v => v = .agg #[.bool x1, .slice a1 l1.length c1, .bool x2, .slice a2 l2.length c2]), (fun _ v => v = .bool true), (fun _ v => v = .agg #[.bool x1, .slice a1 l1.length c1, .bool x2, .slice a2 l2.length c2]), (fun _ v => v = .bool true), (fun _ v => v = .bool false)] [32, 33, 34, 35, 36] (by kernel_rfl) (by kernel_rfl) (by kernel_rfl) (of_decide_eq_true (by kernel_rfl)) (Below.refl _ _) ⟨stayB_val _, stayB_val _, stayB_val _, stayB_val _, stayB_val _, trivial⟩ ⟨?s0, ?s1, ?s2, ?s3, ?s4, trivial⟩ ?he
    case s0 =>
      rintro T W hb hA K hK
      simp only [ovr, Act.put, List.setIfInBounds_toArray, List.set_cons_zero, List.set_cons_succ] at hK ⊢
      have HK := Lib.hid hK
      clear hK hA
      obtain ⟨c0, c1, c2, c3⟩ := hS4 W hb
      refine wpOp_want rfl (by rfl) ?_
      go_simp
      exact HK.out _ _ (Below.refl _ _) rfl
    case s1 =>
      rintro T W hb hA K hK
      have e0 : T 32 = .agg #[.bool x1, .slice a1 l1.length c1, .bool x2, .slice a2 l2.length c2] := hA.1
      simp only [ovr, Act.put, List.setIfInBounds_toArray, List.set_cons_zero, List.set_cons_succ, e0] at hK ⊢
      have HK := Lib.hid hK
      clear hK hA
      refine wpOp_want rfl (by rfl) ?_
      go_simp
      (with_reducible refine (Valid_v _ true _ (hv.mono hb) (hE.mono hb)).mono ?_)
      rintro e w1 ⟨rfl, hb1⟩
      dsimp only
      exact HK.out _ _ hb1 rfl
    case s2 =>
      rintro T W hb hA K hK
      simp only [ovr, Act.put, List.setIfInBounds_toArray, List.set_cons_zero, List.set_cons_succ] at hK ⊢
      have HK := Lib.hid hK
      clear hK hA
      obtain ⟨c0, c1, c2, c3⟩ := hS4 W hb
      refine wpOp_want rfl (by rfl) ?_
      go_simp
      exact HK.out _ _ (Below.refl _ _) rfl
    case s3 =>
      rintro T W hb hA K hK
      have e2 : T 34 = .agg #[.bool x1, .slice a1 l1.length c1, .bool x2, .slice a2 l2.length c2] := hA.1
      have e1 : T 33 = .bool true := hA.2.1
      simp only [ovr, Act.put, List.setIfInBounds_toArray, List.set_cons_zero, List.set_cons_succ, e2, e1] at hK ⊢
      have HK := Lib.hid hK
      clear hK hA
      refine wpOp_want rfl (by rfl) ?_
      go_simp
      (with_reducible refine (rValid_v _ true _ (hv.mono hb) (hE.mono hb)).mono ?_)
      rintro e w1 ⟨rfl, hb1⟩
      dsimp only
      exact HK.out _ _ hb1 rfl
    case s4 =>
      rintro T W hb hA K hK
      have e1 : T 33 = .bool true := hA.1
      have e3 : T 35 = .bool true := hA.2.1
      simp only [ovr, Act.put, List.setIfInBounds_toArray, List.set_cons_zero, List.set_cons_succ, e1, e3] at hK ⊢
      have HK := Lib.hid hK
      clear hK hA
      refine wpOp_want rfl (by rfl) ?_
      go_simp
      exact HK.out _ _ (Below.refl _ _) rfl
    case he =>
      rintro T W hb hA
      have hf : T 36 = .bool false := hA.at 4 (by decide)
      simp only [ovr, List.setIfInBounds_toArray, List.set_cons_zero, List.set_cons_succ, hf]
      go_wp2_with fail
      go_meet
      exact ⟨rfl, hb⟩
  case rest =>
    obtain ⟨rfl, hb⟩ := hcut
    have DX := DX.mono hb
    have hM := hM.mono hb
    have hv := hv.mono hb
    have X1 := X1.mono hb
    have X2 := X2.mono hb
    have hE := hE.mono hb
    have hbw := Below.step hbw hb (Nat.le_refl _)
    clear hb
    obtain ⟨cX1_0, cX1_1, cX1_2, cX1_3, _, _, _, _⟩ := id X1
    go_wp2_with fail
    (with_reducible refine (rValid_v _ true wc hv hE).mono ?_)
    rintro e v4 ⟨rfl, hb⟩
    have DX := DX.mono hb
    have hM := hM.mono hb
    have hv := hv.mono hb
    have X1 := X1.mono hb
    have X2 := X2.mono hb
    have hE := hE.mono hb
    have hbw := Below.step hbw hb (Nat.le_refl _)
    clear hb
    clear cX1_0 cX1_1 cX1_2 cX1_3
    go_wp2
    go_ret
    exact ⟨rfl, hbw⟩

set_option maxRecDepth 100000 in
set_option maxHeartbeats 6400000 in
theorem valid_false (x1 x2 : Bool) (l1 l2 : List Nat) (a1 a2 : Option Addr) (c1 c2 : Nat) (s : Value) (w : World) (hs : DraftQ w s) (hE : Env w) (hM : MaxV w) (h1 : Hid (decide ((l1.length : Int) ≤ 36) = true)) (h2 : Hid (decide ((l2.length : Int) ≤ 36) = true)) (hv : VQ w (.agg #[.bool x1, .slice a1 l1.length c1, .bool x2, .slice a2 l2.length c2]) false) :
    Calls Tryz.prog 11 #[.agg #[.bool x1, .slice a1 l1.length c1, .bool x2, .slice a2 l2.length c2], s] w fun e w' => e = .returned (.bool true) ∧ Below w.heap.size w w' := by
  obtain ⟨ng1, ao1, n1, cap1, ng2, ao2, n2, cap2, rfl, D1, D2⟩ := hs
  have DX : DraftQ w (.agg #[.bool ng1, .slice ao1 n1 cap1, .bool ng2, .slice ao2 n2 cap2]) := ⟨_, _, _, _, _, _, _, _, rfl, D1, D2⟩
  clear D1 D2
  have hE0 := hE
  have hbw := Below.refl w.heap.size w
  go_enter Tryz.func11, Tryz.ntmps11
  go_upto_region 1 with fail
  obtain ⟨wx, hwx, hszx, X1, X2, hb⟩ := boxes_44 w (.bool x1) (.slice a1 l1.length c1) (.bool x2) (.slice a2 l2.length c2) 29 (.bool ng1) (.slice ao1 n1 cap1) (.bool ng2) (.slice ao2 n2 cap2) 39
  rw [← hwx]
  clear hwx
  obtain ⟨v1, rfl⟩ : ∃ v1 : World, v1 = wx := ⟨_, rfl⟩
  have DX := DX.mono hb
  have hM := hM.mono hb
  have hv := hv.mono hb
  have hE := hE.mono hb
  have hbw := Below.step hbw hb (Nat.le_refl _)
  clear hb
  go_wp2_with fail
  (with_reducible refine (awakeQ v1 hE hM).mono ?_)
  rintro e v2 ⟨rfl, hb⟩
  have DX := DX.mono hb
  have hM := hM.mono hb
  have hv := hv.mono hb
  have X1 := X1.mono hb
  have X2 := X2.mono hb
  have hE := hE.mono hb
  have hbw := Below.step hbw hb (Nat.le_refl _)
  clear hb
  obtain ⟨cX1_0, cX1_1, cX1_2, cX1_3, _, _, _, _⟩ := id X1
  go_wp2_with fail
  (with_reducible refine (fewQ_yes x1 x2 l1 l2 a1 a2 c1 c2 36 v2 h1 h2).mono ?_)
  rintro e v3 ⟨rfl, hb⟩
  have DX := DX.mono hb
  have hM := hM.mono hb
  have hv := hv.mono hb
  have X1 := X1.mono hb
  have X2 := X2.mono hb
  have hE := hE.mono hb
  have hbw := Below.step hbw hb (Nat.le_refl _)
  clear hb
  clear cX1_0 cX1_1 cX1_2 cX1_3
  go_upto_region 3 with fail
  obtain ⟨wy, rfl⟩ : ∃ wy : World, wy = v3 := ⟨_, rfl⟩
  go_cut [36] (fun s36 wc => s36 = .bool false ∧ Below wy.heap.size wy wc)
  case first =>
    have hS4 : ∀ W : World, Below wy.heap.size wy W → W.cell? ⟨w.heap.size, 0, none⟩ = some (.bool x1) ∧ W.cell? ⟨w.heap.size, 1, none⟩ = some (.slice a1 l1.length c1) ∧ W.cell? ⟨w.heap.size, 2, none⟩ = some (.bool x2) ∧ W.cell? ⟨w.heap.size, 3, none⟩ = some (.slice a2 l2.length c2) := fun W h => ⟨(X1.mono h).c0, (X1.mono h).c1, (X1.mono h).c2, (X1.mono h).c3⟩
    refine wp_region_vals (wx := wy) [(fun _ v => v = .agg #[.bool x1, .slice a1 l1.length c1, .bool x2, .slice a2 l2.length c2]), (fun _ v => v = .bool false), (fun _ v => v = .agg #[.bool x1, .slice a1 l1.length c1, .bool x2, .slice a2 l2.length c2]), (fun _ v => v = .bool false), (fun _ v => v = .bool false)] [32, 33, 34, 35, 36] (by kernel_rfl) (by kernel_rfl) (by kernel_rfl) (of_decide_eq_true (by kernel_rfl)) (Below.refl _ _) ⟨stayB_val _, stayB_val _, stayB_val _, stayB_val _, stayB_val _, trivial⟩ ⟨?s0, ?s1, ?s2, ?s3, ?s4, trivial⟩ ?he
    case s0 =>
      rintro T W hb hA K hK
      simp only [ovr, Act.put, List.setIfInBounds_toArray, List.set_cons_zero, List.set_cons_succ] at hK ⊢
      have HK := Lib.hid hK
      clear hK hA
      obtain ⟨c0, c1, c2, c3⟩ := hS4 W hb
      refine wpOp_want rfl (by rfl) ?_
      go_simp
      exact HK.out _ _ (Below.refl _ _) rfl
    case s1 =>
      rintro T W hb hA K hK
      have e0 : T 32 = .agg #[.bool x1, .slice a1 l1.length c1, .bool x2, .slice a2 l2.length c2] := hA.1
      simp only [ovr, Act.put, List.setIfInBounds_toArray, List.set_cons_zero, List.set_cons_succ, e0] at hK ⊢
      have HK := Lib.hid hK
      clear hK hA
      refine wpOp_want rfl (by rfl) ?_
      go_simp
      (with_reducible refine (Valid_v _ false _ (hv.mono hb) (hE.mono hb)).mono ?_)
      rintro e w1 ⟨rfl, hb1⟩
      dsimp only
      exact HK.out _ _ hb1 rfl
    case s2 =>
      rintro T W hb hA K hK
      simp only [ovr, Act.put, List.setIfInBounds_toArray, List.set_cons_zero, List.set_cons_succ] at hK ⊢
      have HK := Lib.hid hK
      clear hK hA
      obtain ⟨c0, c1, c2, c3⟩ := hS4 W hb
      refine wpOp_want rfl (by rfl) ?_
      go_simp
      exact HK.out _ _ (Below.refl _ _) rfl
    case s3 =>
      rintro T W hb hA K hK
      have e2 : T 34 = .agg #[.bool x1, .slice a1 l1.length c1, .bool x2, .slice a2 l2.length c2] := hA.1
      have e1 : T 33 = .bool false := hA.2.1
      simp only [ovr, Act.put, List.setIfInBounds_toArray, List.set_cons_zero, List.set_cons_succ, e2, e1] at hK ⊢
      have HK := Lib.hid hK
      clear hK hA
      refine wpOp_want rfl (by rfl) ?_
      go_simp
      (with_reducible refine (rValid_v _ false _ (hv.mono hb) (hE.mono hb)).mono ?_)
      rintro e w1 ⟨rfl, hb1⟩
      dsimp only
      exact HK.out _ _ hb1 rfl
    case s4 =>
      rintro T W hb hA K hK
      have e1 : T 33 = .bool false := hA.1
      have e3 : T 35 = .bool false := hA.2.1
      simp only [ovr, Act.put, List.setIfInBounds_toArray, List.set_cons_zero, List.set_cons_succ, e1, e3] at hK ⊢
      have HK := Lib.hid hK
      clear hK hA
      refine wpOp_want rfl (by rfl) ?_
      go_simp
      exact HK.out _ _ (Below.refl _ _) rfl
    case he =>
      rintro T W hb hA
      have hf : T 36 = .bool false := hA.at 4 (by decide)
      simp only [ovr, List.setIfInBounds_toArray, List.set_cons_zero, List.set_cons_succ, hf]
      go_wp2_with fail
      go_meet
      exact ⟨rfl, hb⟩
  case rest =>
    obtain ⟨rfl, hb⟩ := hcut
    have DX := DX.mono hb
    have hM := hM.mono hb
    have hv := hv.mono hb
    have X1 := X1.mono hb
    have X2 := X2.mono hb
    have hE := hE.mono hb
    have hbw := Below.step hbw hb (Nat.le_refl _)
    clear hb
    obtain ⟨cX1_0, cX1_1, cX1_2, cX1_3, _, _, _, _⟩ := id X1
    go_wp2_with fail
    (with_reducible refine (rValid_v _ false wc hv hE).mono ?_)
    rintro e v4 ⟨rfl, hb⟩
    have DX := DX.mono hb
    have hM := hM.mono hb
    have hv := hv.mono hb
    have X1 := X1.mono hb
    have X2 := X2.mono hb
    have hE := hE.mono hb
    have hbw := Below.step hbw hb (Nat.le_refl _)
    clear hb
    clear cX1_0 cX1_1 cX1_2 cX1_3
    obtain ⟨cX2_0, cX2_1, cX2_2, cX2_3, _, _, _, _⟩ := id X2
    go_wp2_with fail
    (with_reducible refine (MadeQ _ v4 DX hE).mono ?_)
    rintro e v5 ⟨⟨r, nga, aoa, na, capa, ngb, aob, nb, capb, rfl, HVa, HVb⟩, hb⟩
    have DX := DX.mono hb
    have hM := hM.mono hb
    have hv := hv.mono hb
    have X1 := X1.mono hb
    have X2 := X2.mono hb
    have hE := hE.mono hb
    have hbw := Below.step hbw hb (Nat.le_refl _)
    clear hb
    clear cX2_0 cX2_1 cX2_2 cX2_3
    go_upto_region 8 with fail
    have lX5X1 := X1.lt
    have lX5X2 := X2.lt
    have X5 := Box4.new v5 (.bool nga) (.slice aoa na capa) (.bool ngb) (.slice aob nb capb) 29
    have hb := below_alloc v5 (.cells #[.bool nga, .slice aoa na capa, .bool ngb, .slice aob nb capb] 29)
    generalize v5.alloc (.cells #[.bool nga, .slice aoa na capa, .bool ngb, .slice aob nb capb] 29) = v6 at *
    have DX := DX.mono hb
    have hM := hM.mono hb
    have hv := hv.mono hb
    have X1 := X1.mono hb
    have X2 := X2.mono hb
    have HVa := Lib.hid (HVa.out.mono hb)
    have HVb := Lib.hid (HVb.out.mono hb)
    have hE := hE.mono hb
    have hbw := Below.step hbw hb (Nat.le_refl _)
    clear hb
    obtain ⟨cX5_0, cX5_1, cX5_2, cX5_3, _, _, _, _⟩ := id X5
    obtain ⟨cX1_0, cX1_1, cX1_2, cX1_3, _, _, _, _⟩ := id X1
    go_wp2_with fail
    (with_reducible refine (Cmp_q_inv _ _ true false v6 (RatV.vq (RatV.mk' HVa HVb)) hv (Lib.hid (by simp)) hE).mono ?_)
    rintro e v7 ⟨rfl, hb⟩
    have DX := DX.mono hb
    have hM := hM.mono hb
    have hv := hv.mono hb
    have X1 := X1.mono hb
    have X2 := X2.mono hb
    have HVa := Lib.hid (HVa.out.mono hb)
    have HVb := Lib.hid (HVb.out.mono hb)
    have X5 := X5.mono hb
    have hE := hE.mono hb
    have hbw := Below.step hbw hb (Nat.le_refl _)
    clear hb
    clear cX5_0 cX5_1 cX5_2 cX5_3 cX1_0 cX1_1 cX1_2 cX1_3
    obtain ⟨cX5_0, cX5_1, cX5_2, cX5_3, _, _, _, _⟩ := id X5
    obtain ⟨cX1_0, cX1_1, cX1_2, cX1_3, _, _, _, _⟩ := id X1
    go_wp2_with fail
    (with_reducible refine (Add_qinv _ _ false true v7 hv (RatV.vq (RatV.mk' HVa HVb)) (Lib.hid (by simp)) hE).mono ?_)
    rintro e v8 ⟨rfl, hb⟩
    have DX := DX.mono hb
    have hM := hM.mono hb
    have hv := hv.mono hb
    have X1 := X1.mono hb
    have X2 := X2.mono hb
    have HVa := Lib.hid (HVa.out.mono hb)
    have HVb := Lib.hid (HVb.out.mono hb)
    have X5 := X5.mono hb
    have hE := hE.mono hb
    have hbw := Below.step hbw hb (Nat.le_refl _)
    clear hb
    clear cX5_0 cX5_1 cX5_2 cX5_3 cX1_0 cX1_1 cX1_2 cX1_3
    go_upto_region 10 with fail
    have lY0X1 := X1.lt
    have lY0X2 := X2.lt
    have lY0X5 := X5.lt
    have Y0 := Box4.new v8 (.bool false) (.slice none 0 0) (.bool false) (.slice none 0 0) 29
    have hb := below_alloc v8 (.cells #[.bool false, .slice none 0 0, .bool false, .slice none 0 0] 29)
    generalize v8.alloc (.cells #[.bool false, .slice none 0 0, .bool false, .slice none 0 0] 29) = v9 at *
    have DX := DX.mono hb
    have hM := hM.mono hb
    have hv := hv.mono hb
    have X1 := X1.mono hb
    have X2 := X2.mono hb
    have HVa := Lib.hid (HVa.out.mono hb)
    have HVb := Lib.hid (HVb.out.mono hb)
    have X5 := X5.mono hb
    have hE := hE.mono hb
    have hbw := Below.step hbw hb (Nat.le_refl _)
    clear hb
    clear Y0
    obtain ⟨cX5_0, cX5_1, cX5_2, cX5_3, _, _, _, _⟩ := id X5
    obtain ⟨cX1_0, cX1_1, cX1_2, cX1_3, _, _, _, _⟩ := id X1
    go_wp2_with fail
    (with_reducible refine (Sub_qinv _ _ true false v9 (RatV.vq (RatV.mk' HVa HVb)) hv (Lib.hid (by simp)) hE).mono ?_)
    rintro e v10 ⟨rfl, hb⟩
    have DX := DX.mono hb
    have hM := hM.mono hb
    have hv := hv.mono hb
    have X1 := X1.mono hb
    have X2 := X2.mono hb
    have HVa := Lib.hid (HVa.out.mono hb)
    have HVb := Lib.hid (HVb.out.mono hb)
    have X5 := X5.mono hb
    have hE := hE.mono hb
    have hbw := Below.step hbw hb (Nat.le_refl _)
    clear hb
    clear cX5_0 cX5_1 cX5_2 cX5_3 cX1_0 cX1_1 cX1_2 cX1_3
    go_upto_region 11 with fail
    have lY1X1 := X1.lt
    have lY1X2 := X2.lt
    have lY1X5 := X5.lt
    have Y1 := Box4.new v10 (.bool false) (.slice none 0 0) (.bool false) (.slice none 0 0) 29
    have hb := below_alloc v10 (.cells #[.bool false, .slice none 0 0, .bool false, .slice none 0 0] 29)
    generalize v10.alloc (.cells #[.bool false, .slice none 0 0, .bool false, .slice none 0 0] 29) = v11 at *
    have DX := DX.mono hb
    have hM := hM.mono hb
    have hv := hv.mono hb
    have X1 := X1.mono hb
    have X2 := X2.mono hb
    have HVa := Lib.hid (HVa.out.mono hb)
    have HVb := Lib.hid (HVb.out.mono hb)
    have X5 := X5.mono hb
    have hE := hE.mono hb
    have hbw := Below.step hbw hb (Nat.le_refl _)
    clear hb
    clear Y1
    obtain ⟨cX5_0, cX5_1, cX5_2, cX5_3, _, _, _, _⟩ := id X5
    obtain ⟨cX1_0, cX1_1, cX1_2, cX1_3, _, _, _, _⟩ := id X1
    go_wp2_with fail
    (with_reducible refine (Mul_q_inv _ _ false true v11 hv (RatV.vq (RatV.mk' HVa HVb)) (Lib.hid (by simp)) hE).mono ?_)
    rintro e v12 ⟨rfl, hb⟩
    have DX := DX.mono hb
    have hM := hM.mono hb
    have hv := hv.mono hb
    have X1 := X1.mono hb
    have X2 := X2.mono hb
    have HVa := Lib.hid (HVa.out.mono hb)
    have HVb := Lib.hid (HVb.out.mono hb)
    have X5 := X5.mono hb
    have hE := hE.mono hb
    have hbw := Below.step hbw hb (Nat.le_refl _)
    clear hb
    clear cX5_0 cX5_1 cX5_2 cX5_3 cX1_0 cX1_1 cX1_2 cX1_3
    go_upto_region 12 with fail
    have lY2X1 := X1.lt
    have lY2X2 := X2.lt
    have lY2X5 := X5.lt
    have Y2 := Box4.new v12 (.bool false) (.slice none 0 0) (.bool false) (.slice none 0 0) 29
    have hb := below_alloc v12 (.cells #[.bool false, .slice none 0 0, .bool false, .slice none 0 0] 29)
    generalize v12.alloc (.cells #[.bool false, .slice none 0 0, .bool false, .slice none 0 0] 29) = v13 at *
    have DX := DX.mono hb
    have hM := hM.mono hb
    have hv := hv.mono hb
    have X1 := X1.mono hb
    have X2 := X2.mono hb
    have HVa := Lib.hid (HVa.out.mono hb)
    have HVb := Lib.hid (HVb.out.mono hb)
    have X5 := X5.mono hb
    have hE := hE.mono hb
    have hbw := Below.step hbw hb (Nat.le_refl _)
    clear hb
    clear Y2
    obtain ⟨cX5_0, cX5_1, cX5_2, cX5_3, _, _, _, _⟩ := id X5
    obtain ⟨cX1_0, cX1_1, cX1_2, cX1_3, _, _, _, _⟩ := id X1
    go_wp2_with fail
    (with_reducible refine (Div_q_inv _ _ true false v13 (RatV.vq (RatV.mk' HVa HVb)) hv (Lib.hid (by simp)) hE).mono ?_)
    rintro e v14 ⟨rfl, hb⟩
    have DX := DX.mono hb
    have hM := hM.mono hb
    have hv := hv.mono hb
    have X1 := X1.mono hb
    have X2 := X2.mono hb
    have HVa := Lib.hid (HVa.out.mono hb)
    have HVb := Lib.hid (HVb.out.mono hb)
    have X5 := X5.mono hb
    have hE := hE.mono hb
    have hbw := Below.step hbw hb (Nat.le_refl _)
    clear hb
    clear cX5_0 cX5_1 cX5_2 cX5_3 cX1_0 cX1_1 cX1_2 cX1_3
    go_upto_region 13 with fail
    have lY3X1 := X1.lt
    have lY3X2 := X2.lt
    have lY3X5 := X5.lt
    have Y3 := Box4.new v14 (.bool false) (.slice none 0 0) (.bool false) (.slice none 0 0) 29
    have hb := below_alloc v14 (.cells #[.bool false, .slice none 0 0, .bool false, .slice none 0 0] 29)
    generalize v14.alloc (.cells #[.bool false, .slice none 0 0, .bool false, .slice none 0 0] 29) = v15 at *
    have DX := DX.mono hb
    have hM := hM.mono hb
    have hv := hv.mono hb
    have X1 := X1.mono hb
    have X2 := X2.mono hb
    have HVa := Lib.hid (HVa.out.mono hb)
    have HVb := Lib.hid (HVb.out.mono hb)
    have X5 := X5.mono hb
    have hE := hE.mono hb
    have hbw := Below.step hbw hb (Nat.le_refl _)
    clear hb
    clear Y3
    have lX1 := X1.lt
    have lX5 := X5.lt
    obtain ⟨cX1_0, cX1_1, cX1_2, cX1_3, _, _, _, _⟩ := id X1
    obtain ⟨cX5_0, cX5_1, cX5_2, cX5_3, _, _, _, _⟩ := id X5
    go_wp2_with fail
    clear cX1_0 cX1_1 cX1_2 cX1_3 cX5_0 cX5_1 cX5_2 cX5_3
    have lZ1X1 := X1.lt
    have lZ1X2 := X2.lt
    have lZ1X5 := X5.lt
    obtain ⟨wx, hwx, hszx, Z1, Z2, hb⟩ := boxes_44 v15 (.bool nga) (.slice aoa na capa) (.bool ngb) (.slice aob nb capb) 29 (.bool x1) (.slice a1 l1.length c1) (.bool x2) (.slice a2 l2.length c2) 29
    rw [← hwx]
    clear hwx
    obtain ⟨v16, rfl⟩ : ∃ v16 : World, v16 = wx := ⟨_, rfl⟩
    have DX := DX.mono hb
    have hM := hM.mono hb
    have hv := hv.mono hb
    have X1 := X1.mono hb
    have X2 := X2.mono hb
    have HVa := Lib.hid (HVa.out.mono hb)
    have HVb := Lib.hid (HVb.out.mono hb)
    have X5 := X5.mono hb
    have hE := hE.mono hb
    have hbw := Below.step hbw hb (Nat.le_refl _)
    clear hb
    have UA := UQ.one (o := some r) Z1 (RatV.mk' HVa HVb)
    have UB := UQ.one (o := none) Z2 hv
    (with_reducible refine (Dot_inv1 v16 UA UB hE).mono ?_)
    rintro e v17 ⟨rfl, hb⟩
    have DX := DX.mono hb
    have hM := hM.mono hb
    have hv := hv.mono hb
    have X1 := X1.mono hb
    have X2 := X2.mono hb
    have HVa := Lib.hid (HVa.out.mono hb)
    have HVb := Lib.hid (HVb.out.mono hb)
    have X5 := X5.mono hb
    have Z1 := Z1.mono hb
    have Z2 := Z2.mono hb
    have hE := hE.mono hb
    have hbw := Below.step hbw hb (Nat.le_refl _)
    clear hb
    clear UA UB
    clear Z1 Z2
    go_upto_region 14 with fail
    have lY5X1 := X1.lt
    have lY5X2 := X2.lt
    have lY5X5 := X5.lt
    have Y5 := Box4.new v17 (.bool false) (.slice none 0 0) (.bool false) (.slice none 0 0) 29
    have hb := below_alloc v17 (.cells #[.bool false, .slice none 0 0, .bool false, .slice none 0 0] 29)
    generalize v17.alloc (.cells #[.bool false, .slice none 0 0, .bool false, .slice none 0 0] 29) = v18 at *
    have DX := DX.mono hb
    have hM := hM.mono hb
    have hv := hv.mono hb
    have X1 := X1.mono hb
    have X2 := X2.mono hb
    have HVa := Lib.hid (HVa.out.mono hb)
    have HVb := Lib.hid (HVb.out.mono hb)
    have X5 := X5.mono hb
    have hE := hE.mono hb
    have hbw := Below.step hbw hb (Nat.le_refl _)
    clear hb
    clear Y5
    obtain ⟨cX1_0, cX1_1, cX1_2, cX1_3, _, _, _, _⟩ := id X1
    go_wp2_with fail
    (with_reducible refine (FormatQ_inv _ v18 hv hE).mono ?_)
    rintro e v19 ⟨rfl, hb⟩
    have DX := DX.mono hb
    have hM := hM.mono hb
    have hv := hv.mono hb
    have X1 := X1.mono hb
    have X2 := X2.mono hb
    have HVa := Lib.hid (HVa.out.mono hb)
    have HVb := Lib.hid (HVb.out.mono hb)
    have X5 := X5.mono hb
    have hE := hE.mono hb
    have hbw := Below.step hbw hb (Nat.le_refl _)
    clear hb
    clear cX1_0 cX1_1 cX1_2 cX1_3
    obtain ⟨cX1_0, cX1_1, cX1_2, cX1_3, _, _, _, _⟩ := id X1
    go_wp2_with fail
    (with_reducible refine (DecimalQ_inv _ (-1) v19 hv hE).mono ?_)
    rintro e v20 ⟨rfl, hb⟩
    have DX := DX.mono hb
    have hM := hM.mono hb
    have hv := hv.mono hb
    have X1 := X1.mono hb
    have X2 := X2.mono hb
    have HVa := Lib.hid (HVa.out.mono hb)
    have HVb := Lib.hid (HVb.out.mono hb)
    have X5 := X5.mono hb
    have hE := hE.mono hb
    have hbw := Below.step hbw hb (Nat.le_refl _)
    clear hb
    clear cX1_0 cX1_1 cX1_2 cX1_3
    go_wp2_with fail
    have hZ := errnos8 v20 30
    have hb := below_alloc v20 (.cells #[.int .i64 1, .int .i64 1, .int .i64 1, .int .i64 1, .int .i64 1, .int .i64 1, .int .i64 1, .int .i64 1] 30)
    have lg : v20.heap.size < (v20.alloc (.cells #[.int .i64 1, .int .i64 1, .int .i64 1, .int .i64 1, .int .i64 1, .int .i64 1, .int .i64 1, .int .i64 1] 30)).heap.size := by simp
    obtain ⟨g, hg⟩ : ∃ g, g = v20.heap.size := ⟨_, rfl⟩
    rw [← hg] at hZ lg ⊢
    generalize v20.alloc (.cells #[.int .i64 1, .int .i64 1, .int .i64 1, .int .i64 1, .int .i64 1, .int .i64 1, .int .i64 1, .int .i64 1] 30) = wz at *
    have hbw := Below.step hbw hb (Nat.le_refl _)
    clear hb hg
    go_loopw [99] (fun s wr => ∃ k : Nat, k ≤ 8 ∧ s = .int .i64 k ∧ Below wz.heap.size wz wr) (fun s _ => 8 - (intOf s).toNat)
    case atStart => exact ⟨0, by omega, rfl, Below.refl _ _⟩
    case round =>
      obtain ⟨k, hk, rfl, hbr⟩ := hrel
      by_cases hlt : k < 8
      · have q0 := (hbr.cell (p := ⟨g, k, none⟩) lg).trans (hZ k hlt)
        clear hZ
        go_wp2
        go_roundw
        case rel => exact ⟨k + 1, by omega, by go_num, hbr⟩
        case measure => simp [intOf]; omega
      · obtain rfl : k = 8 := by omega
        clear hZ
        go_wp2
        go_ret
        exact ⟨rfl, Below.step hbw hbr (Nat.le_refl _)⟩

theorem valid_lawQ (x s : Value) (w : World) (hx : RawQ w x) (hs : DraftQ w s) (hE : Env w) (hM : MaxV w) :
    Calls Tryz.prog 11 #[x, s] w fun e w' => e = .returned (.bool true) ∧ Below w.heap.size w w' := by
  obtain ⟨x1, x2, l1, l2, a1, a2, c1, c2, rfl, k1, k2, u1, u2⟩ := hx
  by_cases h1 : (l1.length : Int) ≤ 36
  · by_cases h2 : (l2.length : Int) ≤ 36
    · by_cases hv : ValidR x1 l1 x2 l2
      · exact valid_true x1 x2 l1 l2 a1 a2 c1 c2 s w hs hE hM (Lib.hid (by simpa using h1)) (Lib.hid (by simpa using h2)) ⟨x1, x2, l1, l2, a1, a2, c1, c2, rfl, by omega, by omega, k1, k2, u1, u2, Lib.hid ⟨fun _ => hv, fun _ => rfl⟩⟩
      · exact valid_false x1 x2 l1 l2 a1 a2 c1 c2 s w hs hE hM (Lib.hid (by simpa using h1)) (Lib.hid (by simpa using h2)) ⟨x1, x2, l1, l2, a1, a2, c1, c2, rfl, by omega, by omega, k1, k2, u1, u2, Lib.hid ⟨fun h => by simp at h, fun h => absurd h hv⟩⟩
    · exact valid_few2 x1 x2 l1 l2 a1 a2 c1 c2 s w hs hE hM (Lib.hid (by simpa using h1)) (Lib.hid (by simpa using h2))
  · exact valid_few1 x1 x2 l1 l2 a1 a2 c1 c2 s w hs hE hM (Lib.hid (by simpa using h1))

end Go.Proofs.YtgenhkakcbedaaaGreatDoor
