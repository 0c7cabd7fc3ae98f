import Derived.Test.YtgenhkakcbedaaaGreatDoorJ1
import Derived.Test.YtgenhkakcbedaaaGreatDoorQ1
namespace Go.Proofs.YtgenhkakcbedaaaGreatDoor
open Go.RowKit

/-- the integer 0, written out -/
def ZeroI (_ : World) (v : Value) : Prop := v = .agg #[.bool false, .slice none 0 0]
theorem ZeroI.parts {W : World} {v : Value} (h : ZeroI W v) : ∃ (ng : Bool) (ao : Option Addr) (n cap : Nat), v = .agg #[.bool ng, .slice ao n cap] := ⟨_, _, _, _, h⟩
theorem stay_zeroI : Stay ZeroI := ⟨fun h _ => h, fun h _ => h⟩
/-- the very value -/
def IsV (u : Value) (_ : World) (v : Value) : Prop := v = u
theorem stay_isV (u : Value) : Stay (IsV u) := ⟨fun h _ => h, fun h _ => h⟩
/-- a copy of an integer that was read raw -/
def OwnR (x : Bool) (l : List Nat) (W : World) (v : Value) : Prop := ∃ (ao : Option Addr) (cap : Nat), v = .agg #[.bool x, .slice ao l.length cap] ∧ U W ao l
theorem stay_ownR (x : Bool) (l : List Nat) : Stay (OwnR x l) := ⟨fun ⟨a, c, e, h⟩ hb => ⟨a, c, e, h.mono hb⟩, fun ⟨a, c, e, h⟩ hB => ⟨a, c, e, h.put2 hB.c0 hB.c1 _ _⟩⟩

/-- a new box of the integer 0 -/
def ZBox (wy wc : World) (s : Value) : Prop := ∃ g, s = .pointer (some ⟨g, 0, none⟩) ∧ wy.heap.size ≤ g ∧ Box wc g (.bool false) (.slice none 0 0)
theorem Slot.zbox {wy W : World} {st : Prop} {p : Value} (h : Slot W wy.heap.size ZeroI st p) (hs : st) : ZBox wy W p := by
  obtain ⟨b, e, h1, _, h3, _⟩ := h
  obtain ⟨x, y, B, hr⟩ := h3 hs
  unfold ZeroI at hr
  simp only [Value.agg.injEq, Array.mk.injEq, List.cons.injEq, and_true] at hr
  obtain ⟨rfl, rfl⟩ := hr
  exact ⟨b, e, h1, B⟩

theorem U.put2B {w : World} {n c d : Nat} {b : Bool} {s ao : Option Addr} {l : List Nat} (h : U w ao l) (hB : Box w n (.bool b) (.slice s c d)) (x y : Value) : U ((w.setCell ⟨n, 0, none⟩ x).setCell ⟨n, 1, none⟩ y) ao l := h.put2 hB.c0 hB.c1 x y

theorem zero12 (w : World) (t : TypeId) (k : Nat) (h : k < 6) :
    (w.alloc (.cells #[.bool false, .slice none 0 0, .bool false, .slice none 0 0, .bool false, .slice none 0 0, .bool false, .slice none 0 0, .bool false, .slice none 0 0, .bool false, .slice none 0 0] t)).cell? ⟨w.heap.size, k * 2, none⟩ = some (.bool false) ∧
    (w.alloc (.cells #[.bool false, .slice none 0 0, .bool false, .slice none 0 0, .bool false, .slice none 0 0, .bool false, .slice none 0 0, .bool false, .slice none 0 0, .bool false, .slice none 0 0] t)).cell? ⟨w.heap.size, k * 2 + 1, none⟩ = some (.slice none 0 0) := by
  match k, h with
  | 0, _ => exact ⟨by simp [go_sem], by simp [go_sem]⟩
  | 1, _ => exact ⟨by simp [go_sem], by simp [go_sem]⟩
  | 2, _ => exact ⟨by simp [go_sem], by simp [go_sem]⟩
  | 3, _ => exact ⟨by simp [go_sem], by simp [go_sem]⟩
  | 4, _ => exact ⟨by simp [go_sem], by simp [go_sem]⟩
  | 5, _ => exact ⟨by simp [go_sem], by simp [go_sem]⟩

theorem Format_inv (n1 : Bool) (l1 : List Nat) (a1 : Option Addr) (c1 : Nat) (w : World) (h1 : U w a1 l1) (m1 : l1.length ≤ 1000000000) (hbad : Hid (¬ validP n1 l1)) (hE : Env w) :
    Calls Tryz.prog 54 #[.agg #[.bool n1, .slice a1 l1.length c1]] w fun e w' => e = .returned (.tuple #[.string ⟨#[]⟩, .int .i64 1]) ∧ Below w.heap.size w w' := by
  go_enter Tryz.func54, Tryz.ntmps54
  go_wp2_with fail
  have hbx := below_alloc w (.cells #[.bool n1, .slice a1 l1.length c1] 24)
  have hsz : (w.alloc (.cells #[.bool n1, .slice a1 l1.length c1] 24)).heap.size = w.heap.size + 1 := by simp
  have hUx := h1.mono hbx
  have hEx := hE.mono hbx
  clear h1 hE
  generalize w.alloc (.cells #[.bool n1, .slice a1 l1.length c1] 24) = wx at *
  (with_reducible refine (check1 wx _ hsz n1 a1 l1 c1 hUx m1 hEx).mono ?_)
  rintro e w1 ⟨⟨r, HR, HR2, rfl⟩, hb1'⟩
  obtain rfl : r = 1 := by
    rcases HR2.out with h | h
    · exact absurd (HR.out.1 h) hbad.out
    · exact h
  clear HR HR2 hUx hEx hsz
  go_wp2
  go_ret2
  exact ⟨rfl, Below.step hbx hb1' (Nat.le_refl _)⟩

set_option maxRecDepth 100000 in
set_option maxHeartbeats 1600000 in
theorem errs_few1 (x1 x2 : Bool) (l1 l2 : List Nat) (a1 a2 : Option Addr) (c1 c2 : Nat) (w : World) (u1 : U w a1 l1) (u2 : U w a2 l2) (hE : Env w) (h1 : ¬ (l1.length : Int) ≤ 60) :
    Calls Tryz.prog 12 #[.agg #[.bool x1, .slice a1 l1.length c1], .agg #[.bool x2, .slice a2 l2.length c2]] w fun e w' => e = .returned (.bool true) ∧ Below w.heap.size w w' := by
  have hE0 := hE
  have hbw := Below.refl w.heap.size w
  go_enter Tryz.func12, Tryz.ntmps12
  go_upto_region 1 with fail
  obtain ⟨wx, hwx, hszx, X1, X2, hb⟩ := boxes_22 w (.bool x1) (.slice a1 l1.length c1) 24 (.bool x2) (.slice a2 l2.length c2) 24
  rw [← hwx]
  clear hwx
  obtain ⟨v1, rfl⟩ : ∃ v1 : World, v1 = wx := ⟨_, rfl⟩
  have u1 := u1.mono hb
  have u2 := u2.mono hb
  have hE := hE.mono hb
  have hbw := Below.step hbw hb (Nat.le_refl _)
  clear hb
  go_wp2_with fail
  (with_reducible refine (awake_any v1 hE).mono ?_)
  rintro e v2 ⟨rfl, hb⟩
  have u1 := u1.mono hb
  have u2 := u2.mono hb
  have X1 := X1.mono hb
  have X2 := X2.mono hb
  have hE := hE.mono hb
  have hbw := Below.step hbw hb (Nat.le_refl _)
  clear hb
  have h1b : decide ((l1.length : Int) ≤ 60) = false := by simpa using h1
  obtain ⟨cX1_0, cX1_1, _, _⟩ := id X1
  go_wp2_with fail
  (with_reducible refine (few_any x1 l1 60 a1 c1 v2).mono ?_)
  rintro e v3 ⟨rfl, hb⟩
  have u1 := u1.mono hb
  have u2 := u2.mono hb
  have X1 := X1.mono hb
  have X2 := X2.mono hb
  have hE := hE.mono hb
  have hbw := Below.step hbw hb (Nat.le_refl _)
  clear hb
  clear cX1_0 cX1_1
  go_wp2_with fail
  (with_reducible refine (awake_any v3 hE).mono ?_)
  rintro e v4 ⟨rfl, hb⟩
  have u1 := u1.mono hb
  have u2 := u2.mono hb
  have X1 := X1.mono hb
  have X2 := X2.mono hb
  have hE := hE.mono hb
  have hbw := Below.step hbw hb (Nat.le_refl _)
  clear hb
  go_wp2
  go_ret
  exact ⟨rfl, hbw⟩

set_option maxRecDepth 100000 in
set_option maxHeartbeats 1600000 in
theorem errs_few2 (x1 x2 : Bool) (l1 l2 : List Nat) (a1 a2 : Option Addr) (c1 c2 : Nat) (w : World) (u1 : U w a1 l1) (u2 : U w a2 l2) (hE : Env w) (h1 : (l1.length : Int) ≤ 60) (h2 : ¬ (l2.length : Int) ≤ 60) :
    Calls Tryz.prog 12 #[.agg #[.bool x1, .slice a1 l1.length c1], .agg #[.bool x2, .slice a2 l2.length c2]] w fun e w' => e = .returned (.bool true) ∧ Below w.heap.size w w' := by
  have hE0 := hE
  have hbw := Below.refl w.heap.size w
  go_enter Tryz.func12, Tryz.ntmps12
  go_upto_region 1 with fail
  obtain ⟨wx, hwx, hszx, X1, X2, hb⟩ := boxes_22 w (.bool x1) (.slice a1 l1.length c1) 24 (.bool x2) (.slice a2 l2.length c2) 24
  rw [← hwx]
  clear hwx
  obtain ⟨v1, rfl⟩ : ∃ v1 : World, v1 = wx := ⟨_, rfl⟩
  have u1 := u1.mono hb
  have u2 := u2.mono hb
  have hE := hE.mono hb
  have hbw := Below.step hbw hb (Nat.le_refl _)
  clear hb
  go_wp2_with fail
  (with_reducible refine (awake_any v1 hE).mono ?_)
  rintro e v2 ⟨rfl, hb⟩
  have u1 := u1.mono hb
  have u2 := u2.mono hb
  have X1 := X1.mono hb
  have X2 := X2.mono hb
  have hE := hE.mono hb
  have hbw := Below.step hbw hb (Nat.le_refl _)
  clear hb
  have h1b : decide ((l1.length : Int) ≤ 60) = true := by simpa using h1
  obtain ⟨cX1_0, cX1_1, _, _⟩ := id X1
  go_wp2_with fail
  (with_reducible refine (few_any x1 l1 60 a1 c1 v2).mono ?_)
  rintro e v3 ⟨rfl, hb⟩
  have u1 := u1.mono hb
  have u2 := u2.mono hb
  have X1 := X1.mono hb
  have X2 := X2.mono hb
  have hE := hE.mono hb
  have hbw := Below.step hbw hb (Nat.le_refl _)
  clear hb
  clear cX1_0 cX1_1
  have h2b : decide ((l2.length : Int) ≤ 60) = false := by simpa using h2
  obtain ⟨cX2_0, cX2_1, _, _⟩ := id X2
  go_wp2_with fail
  (with_reducible refine (few_any x2 l2 60 a2 c2 v3).mono ?_)
  rintro e v4 ⟨rfl, hb⟩
  have u1 := u1.mono hb
  have u2 := u2.mono hb
  have X1 := X1.mono hb
  have X2 := X2.mono hb
  have hE := hE.mono hb
  have hbw := Below.step hbw hb (Nat.le_refl _)
  clear hb
  clear cX2_0 cX2_1
  go_wp2_with fail
  (with_reducible refine (awake_any v4 hE).mono ?_)
  rintro e v5 ⟨rfl, hb⟩
  have u1 := u1.mono hb
  have u2 := u2.mono hb
  have X1 := X1.mono hb
  have X2 := X2.mono hb
  have hE := hE.mono hb
  have hbw := Below.step hbw hb (Nat.le_refl _)
  clear hb
  go_wp2
  go_ret
  exact ⟨rfl, hbw⟩

set_option maxRecDepth 100000 in
set_option maxHeartbeats 1600000 in
theorem errs_valid (x1 x2 : Bool) (l1 l2 : List Nat) (a1 a2 : Option Addr) (c1 c2 : Nat) (w : World) (u1 : U w a1 l1) (u2 : U w a2 l2) (hE : Env w) (h1 : (l1.length : Int) ≤ 60) (h2 : (l2.length : Int) ≤ 60) (vv1 : Hid (validP x1 l1)) (vv2 : Hid (validP x2 l2)) :
    Calls Tryz.prog 12 #[.agg #[.bool x1, .slice a1 l1.length c1], .agg #[.bool x2, .slice a2 l2.length c2]] w fun e w' => e = .returned (.bool true) ∧ Below w.heap.size w w' := by
  have hE0 := hE
  have hbw := Below.refl w.heap.size w
  go_enter Tryz.func12, Tryz.ntmps12
  go_upto_region 1 with fail
  obtain ⟨wx, hwx, hszx, X1, X2, hb⟩ := boxes_22 w (.bool x1) (.slice a1 l1.length c1) 24 (.bool x2) (.slice a2 l2.length c2) 24
  rw [← hwx]
  clear hwx
  obtain ⟨v1, rfl⟩ : ∃ v1 : World, v1 = wx := ⟨_, rfl⟩
  have u1 := u1.mono hb
  have u2 := u2.mono hb
  have hE := hE.mono hb
  have hbw := Below.step hbw hb (Nat.le_refl _)
  clear hb
  go_wp2_with fail
  (with_reducible refine (awake_any v1 hE).mono ?_)
  rintro e v2 ⟨rfl, hb⟩
  have u1 := u1.mono hb
  have u2 := u2.mono hb
  have X1 := X1.mono hb
  have X2 := X2.mono hb
  have hE := hE.mono hb
  have hbw := Below.step hbw hb (Nat.le_refl _)
  clear hb
  have h1b : decide ((l1.length : Int) ≤ 60) = true := by simpa using h1
  obtain ⟨cX1_0, cX1_1, _, _⟩ := id X1
  go_wp2_with fail
  (with_reducible refine (few_any x1 l1 60 a1 c1 v2).mono ?_)
  rintro e v3 ⟨rfl, hb⟩
  have u1 := u1.mono hb
  have u2 := u2.mono hb
  have X1 := X1.mono hb
  have X2 := X2.mono hb
  have hE := hE.mono hb
  have hbw := Below.step hbw hb (Nat.le_refl _)
  clear hb
  clear cX1_0 cX1_1
  have h2b : decide ((l2.length : Int) ≤ 60) = true := by simpa using h2
  obtain ⟨cX2_0, cX2_1, _, _⟩ := id X2
  go_wp2_with fail
  (with_reducible refine (few_any x2 l2 60 a2 c2 v3).mono ?_)
  rintro e v4 ⟨rfl, hb⟩
  have u1 := u1.mono hb
  have u2 := u2.mono hb
  have X1 := X1.mono hb
  have X2 := X2.mono hb
  have hE := hE.mono hb
  have hbw := Below.step hbw hb (Nat.le_refl _)
  clear hb
  clear cX2_0 cX2_1
  obtain ⟨cX1_0, cX1_1, _, _⟩ := id X1
  go_wp2_with fail
  (with_reducible refine (rvalid_yes x1 l1 a1 c1 v4 (by omega) vv1 u1).mono ?_)
  rintro e v5 ⟨rfl, hb⟩
  have u1 := u1.mono hb
  have u2 := u2.mono hb
  have X1 := X1.mono hb
  have X2 := X2.mono hb
  have hE := hE.mono hb
  have hbw := Below.step hbw hb (Nat.le_refl _)
  clear hb
  clear cX1_0 cX1_1
  obtain ⟨cX2_0, cX2_1, _, _⟩ := id X2
  go_wp2_with fail
  (with_reducible refine (rvalid_yes x2 l2 a2 c2 v5 (by omega) vv2 u2).mono ?_)
  rintro e v6 ⟨rfl, hb⟩
  have u1 := u1.mono hb
  have u2 := u2.mono hb
  have X1 := X1.mono hb
  have X2 := X2.mono hb
  have hE := hE.mono hb
  have hbw := Below.step hbw hb (Nat.le_refl _)
  clear hb
  clear cX2_0 cX2_1
  go_wp2_with fail
  (with_reducible refine (awake_any v6 hE).mono ?_)
  rintro e v7 ⟨rfl, hb⟩
  have u1 := u1.mono hb
  have u2 := u2.mono hb
  have X1 := X1.mono hb
  have X2 := X2.mono hb
  have hE := hE.mono hb
  have hbw := Below.step hbw hb (Nat.le_refl _)
  clear hb
  go_wp2
  go_ret
  exact ⟨rfl, hbw⟩

set_option maxRecDepth 100000 in
set_option maxHeartbeats 12800000 in
theorem errs_bad (x1 x2 : Bool) (l1 l2 : List Nat) (a1 a2 : Option Addr) (c1 c2 : Nat) (w : World) (u1 : U w a1 l1) (u2 : U w a2 l2) (hE : Env w) (h1 : (l1.length : Int) ≤ 60) (h2 : (l2.length : Int) ≤ 60) (hbad : Hid (¬ (validP x1 l1 ∧ validP x2 l2))) :
    Calls Tryz.prog 12 #[.agg #[.bool x1, .slice a1 l1.length c1], .agg #[.bool x2, .slice a2 l2.length c2]] w fun e w' => e = .returned (.bool true) ∧ Below w.heap.size w w' := by
  have hE0 := hE
  have hbw := Below.refl w.heap.size w
  go_enter Tryz.func12, Tryz.ntmps12
  go_upto_region 1 with fail
  obtain ⟨wx, hwx, hszx, X1, X2, hb⟩ := boxes_22 w (.bool x1) (.slice a1 l1.length c1) 24 (.bool x2) (.slice a2 l2.length c2) 24
  rw [← hwx]
  clear hwx
  obtain ⟨v1, rfl⟩ : ∃ v1 : World, v1 = wx := ⟨_, rfl⟩
  have u1 := u1.mono hb
  have u2 := u2.mono hb
  have hE := hE.mono hb
  have hbw := Below.step hbw hb (Nat.le_refl _)
  clear hb
  have h1b : decide ((l1.length : Int) ≤ 60) = true := by simpa using h1
  have h2b : decide ((l2.length : Int) ≤ 60) = true := by simpa using h2
  have m1 : l1.length ≤ 1000000000 := by omega
  have m2 : l2.length ≤ 1000000000 := by omega
  obtain ⟨wy, rfl⟩ : ∃ wy : World, wy = v1 := ⟨_, rfl⟩
  go_cut [43] (fun s43 wc => s43 = .bool false ∧ Below wy.heap.size wy wc)
  case first =>
    have hby := Below.refl wy.heap.size wy
    go_wp2_with fail
    (with_reducible refine (awake_any wy hE).mono ?_)
    rintro e v2 ⟨rfl, hb⟩
    have u1 := u1.mono hb
    have u2 := u2.mono hb
    have X1 := X1.mono hb
    have X2 := X2.mono hb
    have hE := hE.mono hb
    have hby := Below.step hby hb (Nat.le_refl _)
    clear hb
    obtain ⟨cX1_0, cX1_1, _, _⟩ := id X1
    go_wp2_with fail
    (with_reducible refine (few_any x1 l1 60 a1 c1 v2).mono ?_)
    rintro e v3 ⟨rfl, hb⟩
    have u1 := u1.mono hb
    have u2 := u2.mono hb
    have X1 := X1.mono hb
    have X2 := X2.mono hb
    have hE := hE.mono hb
    have hby := Below.step hby hb (Nat.le_refl _)
    clear hb
    clear cX1_0 cX1_1
    obtain ⟨cX2_0, cX2_1, _, _⟩ := id X2
    go_wp2_with fail
    (with_reducible refine (few_any x2 l2 60 a2 c2 v3).mono ?_)
    rintro e v4 ⟨rfl, hb⟩
    have u1 := u1.mono hb
    have u2 := u2.mono hb
    have X1 := X1.mono hb
    have X2 := X2.mono hb
    have hE := hE.mono hb
    have hby := Below.step hby hb (Nat.le_refl _)
    clear hb
    clear cX2_0 cX2_1
    by_cases vv1 : validP x1 l1
    · have vv2 : ¬ validP x2 l2 := fun h => hbad.out ⟨vv1, h⟩
      have V1 := Lib.hid vv1
      have V2 := Lib.hid vv2
      clear vv1 vv2
      obtain ⟨cX1_0, cX1_1, _, _⟩ := id X1
      go_wp2_with fail
      (with_reducible refine (rvalid_yes x1 l1 a1 c1 v4 m1 V1 u1).mono ?_)
      rintro e v5 ⟨rfl, hb⟩
      have u1 := u1.mono hb
      have u2 := u2.mono hb
      have X1 := X1.mono hb
      have X2 := X2.mono hb
      have hE := hE.mono hb
      have hby := Below.step hby hb (Nat.le_refl _)
      clear hb
      clear cX1_0 cX1_1
      obtain ⟨cX2_0, cX2_1, _, _⟩ := id X2
      go_wp2_with fail
      (with_reducible refine (rvalid_no x2 l2 a2 c2 v5 m2 V2 u2).mono ?_)
      rintro e v6 ⟨rfl, hb⟩
      have u1 := u1.mono hb
      have u2 := u2.mono hb
      have X1 := X1.mono hb
      have X2 := X2.mono hb
      have hE := hE.mono hb
      have hby := Below.step hby hb (Nat.le_refl _)
      clear hb
      clear cX2_0 cX2_1
      go_wp2_with fail
      go_meet
      exact ⟨rfl, hby⟩
    · have V1 := Lib.hid vv1
      clear vv1
      obtain ⟨cX1_0, cX1_1, _, _⟩ := id X1
      go_wp2_with fail
      (with_reducible refine (rvalid_no x1 l1 a1 c1 v4 m1 V1 u1).mono ?_)
      rintro e v5 ⟨rfl, hb⟩
      have u1 := u1.mono hb
      have u2 := u2.mono hb
      have X1 := X1.mono hb
      have X2 := X2.mono hb
      have hE := hE.mono hb
      have hby := Below.step hby hb (Nat.le_refl _)
      clear hb
      clear cX1_0 cX1_1
      go_wp2_with fail
      go_meet
      exact ⟨rfl, hby⟩
  case rest =>
    obtain ⟨rfl, hb⟩ := hcut
    have u1 := u1.mono hb
    have u2 := u2.mono hb
    have X1 := X1.mono hb
    have X2 := X2.mono hb
    have hE := hE.mono hb
    have hbw := Below.step hbw hb (Nat.le_refl _)
    clear hb
    go_upto_region 4 with fail
    have lX5X1 := X1.lt
    have lX5X2 := X2.lt
    have X5 := Box.new wc (.bool false) (.slice none 0 0) 24
    have hb := below_alloc wc (.cells #[.bool false, .slice none 0 0] 24)
    generalize wc.alloc (.cells #[.bool false, .slice none 0 0] 24) = v2 at *
    have u1 := u1.mono hb
    have u2 := u2.mono hb
    have X1 := X1.mono hb
    have X2 := X2.mono hb
    have hE := hE.mono hb
    have hbw := Below.step hbw hb (Nat.le_refl _)
    clear hb
    obtain ⟨wy, rfl⟩ : ∃ wy : World, wy = v2 := ⟨_, rfl⟩
    go_cut [6, 7] (fun s6 s7 wc => ZBox wy wc s6 ∧ s7 = .int .i64 1 ∧ Below wy.heap.size wy wc)
    case first =>
      refine wp_region_flow (fun L T W => Below wy.heap.size wy W ∧ (L 0 → T 47 = .agg #[.bool x1, .slice a1 l1.length c1]) ∧ (L 1 → (OwnR x1 l1) W (T 48)) ∧ (L 2 → T 49 = .agg #[.bool x2, .slice a2 l2.length c2]) ∧ (L 3 → (OwnR x2 l2) W (T 50)) ∧ (L 4 → (IsV (.tuple #[.agg #[.bool false, .slice none 0 0], .int .i64 1])) W (T 51)) ∧ (L 5 → T 46 = .tuple #[.agg #[.bool false, .slice none 0 0], .int .i64 1]) ∧ (L 6 → (ZeroI) W (T 52)) ∧ (L 7 → T 53 = .int .i64 1) ∧ (L 8 → Slot W wy.heap.size (ZeroI) (L 9) (T 6)) ∧ (L 10 → T 7 = .int .i64 1) ∧ (L 9 → L 8)) [47, 48, 49, 50, 51, 46, 52, 53, 6, 7] (by kernel_rfl) (by kernel_rfl) (by kernel_rfl) ?h0 ⟨?s0, ?s1, ?s2, ?s3, ?s4, ?s5, ?s6, ?s7, ?s8, ?s9, ?s10, trivial⟩ ?he ?hm
      case h0 => exact fun T => ⟨(Below.refl _ _).drew, fun h => h.elim, fun h => h.elim, fun h => h.elim, fun h => h.elim, fun h => h.elim, fun h => h.elim, fun h => h.elim, fun h => h.elim, fun h => h.elim, fun h => h.elim, fun h => h.elim⟩
      case hm =>
        rintro L T W hL ⟨hb, f0, f1, f2, f3, f4, f5, f6, f7, f8, f10, c8⟩
        exact ⟨hb, fun _ => f0 (hL _ (by decide)), fun _ => f1 (hL _ (by decide)), fun _ => f2 (hL _ (by decide)), fun _ => f3 (hL _ (by decide)), fun _ => f4 (hL _ (by decide)), fun _ => f5 (hL _ (by decide)), fun _ => f6 (hL _ (by decide)), fun _ => f7 (hL _ (by decide)), fun _ => (f8 (hL _ (by decide))).congr ⟨fun _ => by decide, fun _ => hL _ (by decide)⟩, fun _ => f10 (hL _ (by decide)), fun _ => by decide⟩
      case s0 =>
        rintro L T W hd hn hJ K hK
        have HJ := Lib.hid hJ
        clear hJ
        have hb := HJ.out.1
        simp only [ovr, Act.put, List.setIfInBounds_toArray, List.set_cons_zero, List.set_cons_succ] at hK ⊢
        have HK := Lib.hid hK
        clear hK
        obtain ⟨c0, c1, c2, c3⟩ := (fun W => S2 (W := W) X1 X2) W hb
        refine wpOp_want rfl rfl ?_
        go_simp
        obtain ⟨hb, f0, f1, f2, f3, f4, f5, f6, f7, f8, f10, c8⟩ := HJ.out
        exact HK.out _ _ ⟨hb, fun _ => rfl, fun h => f1 (h.resolve_left (by decide)), fun h => f2 (h.resolve_left (by decide)), fun h => f3 (h.resolve_left (by decide)), fun h => f4 (h.resolve_left (by decide)), fun h => f5 (h.resolve_left (by decide)), fun h => f6 (h.resolve_left (by decide)), fun h => f7 (h.resolve_left (by decide)), fun h => ((f8 (h.resolve_left (by decide)))).congr ⟨fun h => .inr h, fun h => h.resolve_left (by decide)⟩, fun h => f10 (h.resolve_left (by decide)), fun h => .inr (c8 (h.resolve_left (by decide)))⟩
      case s1 =>
        rintro L T W hd hn hJ K hK
        have HJ := Lib.hid hJ
        clear hJ
        have hb := HJ.out.1
        have e0 := HJ.out.2.1 hd.1
        simp only [ovr, Act.put, List.setIfInBounds_toArray, List.set_cons_zero, List.set_cons_succ, e0] at hK ⊢
        have HK := Lib.hid hK
        clear hK
        refine wpOp_want rfl rfl ?_
        go_simp
        (with_reducible refine (own_any x1 l1 a1 c1 _ m1 (u1.mono hb)).mono ?_)
        rintro e w1 ⟨⟨a3, c3, rfl, hu3, _⟩, hb1⟩
        have hr : OwnR x1 l1 w1 (.agg #[.bool x1, .slice a3 l1.length c3]) := ⟨a3, c3, rfl, hu3.out⟩
        dsimp only
        obtain ⟨hb, f0, f1, f2, f3, f4, f5, f6, f7, f8, f10, c8⟩ := HJ.out
        exact HK.out _ _ ⟨Below.step hb hb1 (Nat.le_refl _), fun h => f0 (h.resolve_left (by decide)), fun _ => hr, fun h => f2 (h.resolve_left (by decide)), fun h => (stay_ownR x2 l2).mono (f3 (h.resolve_left (by decide))) hb1, fun h => (stay_isV _).mono (f4 (h.resolve_left (by decide))) hb1, fun h => f5 (h.resolve_left (by decide)), fun h => (stay_zeroI).mono (f6 (h.resolve_left (by decide))) hb1, fun h => f7 (h.resolve_left (by decide)), fun h => ((f8 (h.resolve_left (by decide))).mono (stay_zeroI) hb1).congr ⟨fun h => .inr h, fun h => h.resolve_left (by decide)⟩, fun h => f10 (h.resolve_left (by decide)), fun h => .inr (c8 (h.resolve_left (by decide)))⟩
      case s2 =>
        rintro L T W hd hn hJ K hK
        have HJ := Lib.hid hJ
        clear hJ
        have hb := HJ.out.1
        simp only [ovr, Act.put, List.setIfInBounds_toArray, List.set_cons_zero, List.set_cons_succ] at hK ⊢
        have HK := Lib.hid hK
        clear hK
        obtain ⟨c0, c1, c2, c3⟩ := (fun W => S2 (W := W) X1 X2) W hb
        refine wpOp_want rfl rfl ?_
        go_simp
        obtain ⟨hb, f0, f1, f2, f3, f4, f5, f6, f7, f8, f10, c8⟩ := HJ.out
        exact HK.out _ _ ⟨hb, fun h => f0 (h.resolve_left (by decide)), fun h => f1 (h.resolve_left (by decide)), fun _ => rfl, fun h => f3 (h.resolve_left (by decide)), fun h => f4 (h.resolve_left (by decide)), fun h => f5 (h.resolve_left (by decide)), fun h => f6 (h.resolve_left (by decide)), fun h => f7 (h.resolve_left (by decide)), fun h => ((f8 (h.resolve_left (by decide)))).congr ⟨fun h => .inr h, fun h => h.resolve_left (by decide)⟩, fun h => f10 (h.resolve_left (by decide)), fun h => .inr (c8 (h.resolve_left (by decide)))⟩
      case s3 =>
        rintro L T W hd hn hJ K hK
        have HJ := Lib.hid hJ
        clear hJ
        have hb := HJ.out.1
        have e2 := HJ.out.2.2.2.1 hd.1
        have r1 := HJ.out.2.2.1 hd.2.1
        simp only [ovr, Act.put, List.setIfInBounds_toArray, List.set_cons_zero, List.set_cons_succ, e2] at hK ⊢
        have HK := Lib.hid hK
        clear hK
        refine wpOp_want rfl rfl ?_
        go_simp
        (with_reducible refine (own_any x2 l2 a2 c2 _ m2 (u2.mono hb)).mono ?_)
        rintro e w1 ⟨⟨a3, c3, rfl, hu3, _⟩, hb1⟩
        have hr : OwnR x2 l2 w1 (.agg #[.bool x2, .slice a3 l2.length c3]) := ⟨a3, c3, rfl, hu3.out⟩
        dsimp only
        obtain ⟨hb, f0, f1, f2, f3, f4, f5, f6, f7, f8, f10, c8⟩ := HJ.out
        exact HK.out _ _ ⟨Below.step hb hb1 (Nat.le_refl _), fun h => f0 (h.resolve_left (by decide)), fun h => (stay_ownR x1 l1).mono (f1 (h.resolve_left (by decide))) hb1, fun h => f2 (h.resolve_left (by decide)), fun _ => hr, fun h => (stay_isV _).mono (f4 (h.resolve_left (by decide))) hb1, fun h => f5 (h.resolve_left (by decide)), fun h => (stay_zeroI).mono (f6 (h.resolve_left (by decide))) hb1, fun h => f7 (h.resolve_left (by decide)), fun h => ((f8 (h.resolve_left (by decide))).mono (stay_zeroI) hb1).congr ⟨fun h => .inr h, fun h => h.resolve_left (by decide)⟩, fun h => f10 (h.resolve_left (by decide)), fun h => .inr (c8 (h.resolve_left (by decide)))⟩
      case s4 =>
        rintro L T W hd hn hJ K hK
        have HJ := Lib.hid hJ
        clear hJ
        have hb := HJ.out.1
        have r1 := HJ.out.2.2.1 hd.1
        have r3 := HJ.out.2.2.2.2.1 hd.2.1
        obtain ⟨a3, c3, ev1, hu1⟩ := r1
        obtain ⟨a4, c4, ev2, hu2⟩ := r3
        simp only [ovr, Act.put, List.setIfInBounds_toArray, List.set_cons_zero, List.set_cons_succ, ev1, ev2] at hK ⊢
        have HK := Lib.hid hK
        clear hK
        refine wpOp_want rfl rfl ?_
        go_simp
        (with_reducible refine (Add_inv x1 x2 l1 l2 a3 a4 c3 c4 _ hu1 hu2 m1 m2 hbad (hE.mono hb)).mono ?_)
        rintro e w1 ⟨rfl, hb1⟩
        have hr : IsV (.tuple #[.agg #[.bool false, .slice none 0 0], .int .i64 1]) w1 (.tuple #[.agg #[.bool false, .slice none 0 0], .int .i64 1]) := rfl
        dsimp only
        obtain ⟨hb, f0, f1, f2, f3, f4, f5, f6, f7, f8, f10, c8⟩ := HJ.out
        exact HK.out _ _ ⟨Below.step hb hb1 (Nat.le_refl _), fun h => f0 (h.resolve_left (by decide)), fun h => (stay_ownR x1 l1).mono (f1 (h.resolve_left (by decide))) hb1, fun h => f2 (h.resolve_left (by decide)), fun h => (stay_ownR x2 l2).mono (f3 (h.resolve_left (by decide))) hb1, fun _ => hr, fun h => f5 (h.resolve_left (by decide)), fun h => (stay_zeroI).mono (f6 (h.resolve_left (by decide))) hb1, fun h => f7 (h.resolve_left (by decide)), fun h => ((f8 (h.resolve_left (by decide))).mono (stay_zeroI) hb1).congr ⟨fun h => .inr h, fun h => h.resolve_left (by decide)⟩, fun h => f10 (h.resolve_left (by decide)), fun h => .inr (c8 (h.resolve_left (by decide)))⟩
      case s5 =>
        rintro L T W hd hn hJ K hK
        have HJ := Lib.hid hJ
        clear hJ
        have hb := HJ.out.1
        have r4 := HJ.out.2.2.2.2.2.1 hd.1
        have ev : T 51 = .tuple #[.agg #[.bool false, .slice none 0 0], .int .i64 1] := r4
        simp only [ovr, Act.put, List.setIfInBounds_toArray, List.set_cons_zero, List.set_cons_succ, ev] at hK ⊢
        have HK := Lib.hid hK
        clear hK
        refine wpOp_want rfl rfl ?_
        go_simp
        obtain ⟨hb, f0, f1, f2, f3, f4, f5, f6, f7, f8, f10, c8⟩ := HJ.out
        exact HK.out _ _ ⟨hb, fun h => f0 (h.resolve_left (by decide)), fun h => f1 (h.resolve_left (by decide)), fun h => f2 (h.resolve_left (by decide)), fun h => f3 (h.resolve_left (by decide)), fun h => f4 (h.resolve_left (by decide)), fun _ => rfl, fun h => f6 (h.resolve_left (by decide)), fun h => f7 (h.resolve_left (by decide)), fun h => ((f8 (h.resolve_left (by decide)))).congr ⟨fun h => .inr h, fun h => h.resolve_left (by decide)⟩, fun h => f10 (h.resolve_left (by decide)), fun h => .inr (c8 (h.resolve_left (by decide)))⟩
      case s6 =>
        rintro L T W hd hn hJ K hK
        have HJ := Lib.hid hJ
        clear hJ
        have hb := HJ.out.1
        have e5 := HJ.out.2.2.2.2.2.2.1 hd.1
        simp only [ovr, Act.put, List.setIfInBounds_toArray, List.set_cons_zero, List.set_cons_succ, e5] at hK ⊢
        have HK := Lib.hid hK
        clear hK
        refine wpOp_want rfl rfl ?_
        go_simp
        obtain ⟨hb, f0, f1, f2, f3, f4, f5, f6, f7, f8, f10, c8⟩ := HJ.out
        exact HK.out _ _ ⟨hb, fun h => f0 (h.resolve_left (by decide)), fun h => f1 (h.resolve_left (by decide)), fun h => f2 (h.resolve_left (by decide)), fun h => f3 (h.resolve_left (by decide)), fun h => f4 (h.resolve_left (by decide)), fun h => f5 (h.resolve_left (by decide)), fun _ => rfl, fun h => f7 (h.resolve_left (by decide)), fun h => ((f8 (h.resolve_left (by decide)))).congr ⟨fun h => .inr h, fun h => h.resolve_left (by decide)⟩, fun h => f10 (h.resolve_left (by decide)), fun h => .inr (c8 (h.resolve_left (by decide)))⟩
      case s7 =>
        rintro L T W hd hn hJ K hK
        have HJ := Lib.hid hJ
        clear hJ
        have hb := HJ.out.1
        have e5 := HJ.out.2.2.2.2.2.2.1 hd.1
        simp only [ovr, Act.put, List.setIfInBounds_toArray, List.set_cons_zero, List.set_cons_succ, e5] at hK ⊢
        have HK := Lib.hid hK
        clear hK
        refine wpOp_want rfl rfl ?_
        go_simp
        obtain ⟨hb, f0, f1, f2, f3, f4, f5, f6, f7, f8, f10, c8⟩ := HJ.out
        exact HK.out _ _ ⟨hb, fun h => f0 (h.resolve_left (by decide)), fun h => f1 (h.resolve_left (by decide)), fun h => f2 (h.resolve_left (by decide)), fun h => f3 (h.resolve_left (by decide)), fun h => f4 (h.resolve_left (by decide)), fun h => f5 (h.resolve_left (by decide)), fun h => f6 (h.resolve_left (by decide)), fun _ => rfl, fun h => ((f8 (h.resolve_left (by decide)))).congr ⟨fun h => .inr h, fun h => h.resolve_left (by decide)⟩, fun h => f10 (h.resolve_left (by decide)), fun h => .inr (c8 (h.resolve_left (by decide)))⟩
      case s8 =>
        rintro L T W hd hn hJ K hK
        have HJ := Lib.hid hJ
        clear hJ
        have hb := HJ.out.1
        simp only [ovr, Act.put, List.setIfInBounds_toArray, List.set_cons_zero, List.set_cons_succ] at hK ⊢
        have HK := Lib.hid hK
        clear hK
        refine wpOp_want rfl rfl ?_
        go_simp
        have hb1 := below_alloc W (.cells #[.bool false, .slice none 0 0] 24)
        obtain ⟨hb, f0, f1, f2, f3, f4, f5, f6, f7, f8, f10, c8⟩ := HJ.out
        exact HK.out _ _ ⟨Below.step hb hb1 (Nat.le_refl _), fun h => f0 (h.resolve_left (by decide)), fun h => (stay_ownR x1 l1).mono (f1 (h.resolve_left (by decide))) hb1, fun h => f2 (h.resolve_left (by decide)), fun h => (stay_ownR x2 l2).mono (f3 (h.resolve_left (by decide))) hb1, fun h => (stay_isV _).mono (f4 (h.resolve_left (by decide))) hb1, fun h => f5 (h.resolve_left (by decide)), fun h => (stay_zeroI).mono (f6 (h.resolve_left (by decide))) hb1, fun h => f7 (h.resolve_left (by decide)), fun _ => Slot.new W (fun h => hn (c8 (h.resolve_left (by decide)))) _ hb.size, fun h => f10 (h.resolve_left (by decide)), fun _ => .inl (by decide)⟩
      case s9 =>
        rintro L T W hd hn hJ K hK
        have HJ := Lib.hid hJ
        clear hJ
        have hb := HJ.out.1
        have r6 := HJ.out.2.2.2.2.2.2.2.1 hd.2.1
        have r4 := HJ.out.2.2.2.2.2.1 hd.2.2.1
        have e0 := HJ.out.2.1 hd.2.2.2.1
        have r1 := HJ.out.2.2.1 hd.2.2.2.2.1
        have e2 := HJ.out.2.2.2.1 hd.2.2.2.2.2.1
        have r3 := HJ.out.2.2.2.2.1 hd.2.2.2.2.2.2.1
        have e5 := HJ.out.2.2.2.2.2.2.1 hd.2.2.2.2.2.2.2.2.1
        have da := hd.1
        have hr := r6
        obtain ⟨m, em, hm1, hm2, hB⟩ := (HJ.out.2.2.2.2.2.2.2.2.2.1 da).open hn
        obtain ⟨ng, ao, nn, cap, ev⟩ := ZeroI.parts hr
        rw [ev] at hr
        obtain ⟨b0, b1, b2, b3⟩ := id hB
        simp only [ovr, Act.put, List.setIfInBounds_toArray, List.set_cons_zero, List.set_cons_succ, e0, e2, e5, em, ev] at hK ⊢
        have HK := Lib.hid hK
        clear hK
        refine wpOp_want rfl rfl ?_
        go_simp
        obtain ⟨hb, f0, f1, f2, f3, f4, f5, f6, f7, f8, f10, c8⟩ := HJ.out
        exact HK.out undef _ ⟨Below.put2 hb hm1 _ _, fun h => f0 (h.resolve_left (by decide)), fun h => (stay_ownR x1 l1).put (f1 (h.resolve_left (by decide))) hB, fun h => f2 (h.resolve_left (by decide)), fun h => (stay_ownR x2 l2).put (f3 (h.resolve_left (by decide))) hB, fun h => (stay_isV _).put (f4 (h.resolve_left (by decide))) hB, fun h => f5 (h.resolve_left (by decide)), fun h => (stay_zeroI).put (f6 (h.resolve_left (by decide))) hB, fun h => f7 (h.resolve_left (by decide)), fun h => by show Slot _ _ _ _ (T 6); rw [em]; exact Slot.stored (stay_zeroI) hm1 hB (.inl (by decide)) hr, fun h => f10 (h.resolve_left (by decide)), fun _ => .inr da⟩
      case s10 =>
        rintro L T W hd hn hJ K hK
        have HJ := Lib.hid hJ
        clear hJ
        have hb := HJ.out.1
        have e7 := HJ.out.2.2.2.2.2.2.2.2.1 hd.1
        have e0 := HJ.out.2.1 hd.2.2.1
        have r1 := HJ.out.2.2.1 hd.2.2.2.1
        have e2 := HJ.out.2.2.2.1 hd.2.2.2.2.1
        have r3 := HJ.out.2.2.2.2.1 hd.2.2.2.2.2.1
        have r4 := HJ.out.2.2.2.2.2.1 hd.2.2.2.2.2.2.1
        have e5 := HJ.out.2.2.2.2.2.2.1 hd.2.2.2.2.2.2.2.1
        have r6 := HJ.out.2.2.2.2.2.2.2.1 hd.2.2.2.2.2.2.2.2.1
        simp only [ovr, Act.put, List.setIfInBounds_toArray, List.set_cons_zero, List.set_cons_succ, e7, e0, e2, e5] at hK ⊢
        have HK := Lib.hid hK
        clear hK
        refine wpOp_want rfl rfl ?_
        go_simp
        obtain ⟨hb, f0, f1, f2, f3, f4, f5, f6, f7, f8, f10, c8⟩ := HJ.out
        exact HK.out _ _ ⟨hb, fun h => f0 (h.resolve_left (by decide)), fun h => f1 (h.resolve_left (by decide)), fun h => f2 (h.resolve_left (by decide)), fun h => f3 (h.resolve_left (by decide)), fun h => f4 (h.resolve_left (by decide)), fun h => f5 (h.resolve_left (by decide)), fun h => f6 (h.resolve_left (by decide)), fun h => f7 (h.resolve_left (by decide)), fun h => ((f8 (h.resolve_left (by decide)))).congr ⟨fun h => .inr h, fun h => h.resolve_left (by decide)⟩, fun _ => rfl, fun h => .inr (c8 (h.resolve_left (by decide)))⟩
      case he =>
        rintro T W ⟨hb, f0, f1, f2, f3, f4, f5, f6, f7, f8, f10, c8⟩
        simp only [ovr, List.setIfInBounds_toArray, List.set_cons_zero, List.set_cons_succ]
        have hr0 := (f8 (by decide)).zbox (by decide)
        go_wp2_with fail
        go_meet
        exact ⟨hr0, rfl, hb⟩
    case rest =>
      obtain ⟨⟨g6, rfl, hg6, X6⟩, rfl, hb⟩ := hcut
      have u1 := u1.mono hb
      have u2 := u2.mono hb
      have X1 := X1.mono hb
      have X2 := X2.mono hb
      have X5 := X5.mono hb
      have hE := hE.mono hb
      have hbw := Below.step hbw hb (Nat.le_refl _)
      clear hb
      obtain ⟨wy, rfl⟩ : ∃ wy : World, wy = wc := ⟨_, rfl⟩
      go_upto_region 5 with fail
      go_cut [8, 9] (fun s8 s9 wc => ZBox wy wc s8 ∧ s9 = .int .i64 1 ∧ Below wy.heap.size wy wc)
      case first =>
        refine wp_region_flow (fun L T W => Below wy.heap.size wy W ∧ (L 0 → T 55 = .agg #[.bool x1, .slice a1 l1.length c1]) ∧ (L 1 → (OwnR x1 l1) W (T 56)) ∧ (L 2 → T 57 = .agg #[.bool x2, .slice a2 l2.length c2]) ∧ (L 3 → (OwnR x2 l2) W (T 58)) ∧ (L 4 → (IsV (.tuple #[.agg #[.bool false, .slice none 0 0], .int .i64 1])) W (T 59)) ∧ (L 5 → T 54 = .tuple #[.agg #[.bool false, .slice none 0 0], .int .i64 1]) ∧ (L 6 → (ZeroI) W (T 60)) ∧ (L 7 → T 61 = .int .i64 1) ∧ (L 8 → Slot W wy.heap.size (ZeroI) (L 9) (T 8)) ∧ (L 10 → T 9 = .int .i64 1) ∧ (L 9 → L 8)) [55, 56, 57, 58, 59, 54, 60, 61, 8, 9] (by kernel_rfl) (by kernel_rfl) (by kernel_rfl) ?h0 ⟨?s0, ?s1, ?s2, ?s3, ?s4, ?s5, ?s6, ?s7, ?s8, ?s9, ?s10, trivial⟩ ?he ?hm
        case h0 => exact fun T => ⟨(Below.refl _ _).drew, fun h => h.elim, fun h => h.elim, fun h => h.elim, fun h => h.elim, fun h => h.elim, fun h => h.elim, fun h => h.elim, fun h => h.elim, fun h => h.elim, fun h => h.elim, fun h => h.elim⟩
        case hm =>
          rintro L T W hL ⟨hb, f0, f1, f2, f3, f4, f5, f6, f7, f8, f10, c8⟩
          exact ⟨hb, fun _ => f0 (hL _ (by decide)), fun _ => f1 (hL _ (by decide)), fun _ => f2 (hL _ (by decide)), fun _ => f3 (hL _ (by decide)), fun _ => f4 (hL _ (by decide)), fun _ => f5 (hL _ (by decide)), fun _ => f6 (hL _ (by decide)), fun _ => f7 (hL _ (by decide)), fun _ => (f8 (hL _ (by decide))).congr ⟨fun _ => by decide, fun _ => hL _ (by decide)⟩, fun _ => f10 (hL _ (by decide)), fun _ => by decide⟩
        case s0 =>
          rintro L T W hd hn hJ K hK
          have HJ := Lib.hid hJ
          clear hJ
          have hb := HJ.out.1
          simp only [ovr, Act.put, List.setIfInBounds_toArray, List.set_cons_zero, List.set_cons_succ] at hK ⊢
          have HK := Lib.hid hK
          clear hK
          obtain ⟨c0, c1, c2, c3⟩ := (fun W => S2 (W := W) X1 X2) W hb
          refine wpOp_want rfl rfl ?_
          go_simp
          obtain ⟨hb, f0, f1, f2, f3, f4, f5, f6, f7, f8, f10, c8⟩ := HJ.out
          exact HK.out _ _ ⟨hb, fun _ => rfl, fun h => f1 (h.resolve_left (by decide)), fun h => f2 (h.resolve_left (by decide)), fun h => f3 (h.resolve_left (by decide)), fun h => f4 (h.resolve_left (by decide)), fun h => f5 (h.resolve_left (by decide)), fun h => f6 (h.resolve_left (by decide)), fun h => f7 (h.resolve_left (by decide)), fun h => ((f8 (h.resolve_left (by decide)))).congr ⟨fun h => .inr h, fun h => h.resolve_left (by decide)⟩, fun h => f10 (h.resolve_left (by decide)), fun h => .inr (c8 (h.resolve_left (by decide)))⟩
        case s1 =>
          rintro L T W hd hn hJ K hK
          have HJ := Lib.hid hJ
          clear hJ
          have hb := HJ.out.1
          have e0 := HJ.out.2.1 hd.1
          simp only [ovr, Act.put, List.setIfInBounds_toArray, List.set_cons_zero, List.set_cons_succ, e0] at hK ⊢
          have HK := Lib.hid hK
          clear hK
          refine wpOp_want rfl rfl ?_
          go_simp
          (with_reducible refine (own_any x1 l1 a1 c1 _ m1 (u1.mono hb)).mono ?_)
          rintro e w1 ⟨⟨a3, c3, rfl, hu3, _⟩, hb1⟩
          have hr : OwnR x1 l1 w1 (.agg #[.bool x1, .slice a3 l1.length c3]) := ⟨a3, c3, rfl, hu3.out⟩
          dsimp only
          obtain ⟨hb, f0, f1, f2, f3, f4, f5, f6, f7, f8, f10, c8⟩ := HJ.out
          exact HK.out _ _ ⟨Below.step hb hb1 (Nat.le_refl _), fun h => f0 (h.resolve_left (by decide)), fun _ => hr, fun h => f2 (h.resolve_left (by decide)), fun h => (stay_ownR x2 l2).mono (f3 (h.resolve_left (by decide))) hb1, fun h => (stay_isV _).mono (f4 (h.resolve_left (by decide))) hb1, fun h => f5 (h.resolve_left (by decide)), fun h => (stay_zeroI).mono (f6 (h.resolve_left (by decide))) hb1, fun h => f7 (h.resolve_left (by decide)), fun h => ((f8 (h.resolve_left (by decide))).mono (stay_zeroI) hb1).congr ⟨fun h => .inr h, fun h => h.resolve_left (by decide)⟩, fun h => f10 (h.resolve_left (by decide)), fun h => .inr (c8 (h.resolve_left (by decide)))⟩
        case s2 =>
          rintro L T W hd hn hJ K hK
          have HJ := Lib.hid hJ
          clear hJ
          have hb := HJ.out.1
          simp only [ovr, Act.put, List.setIfInBounds_toArray, List.set_cons_zero, List.set_cons_succ] at hK ⊢
          have HK := Lib.hid hK
          clear hK
          obtain ⟨c0, c1, c2, c3⟩ := (fun W => S2 (W := W) X1 X2) W hb
          refine wpOp_want rfl rfl ?_
          go_simp
          obtain ⟨hb, f0, f1, f2, f3, f4, f5, f6, f7, f8, f10, c8⟩ := HJ.out
          exact HK.out _ _ ⟨hb, fun h => f0 (h.resolve_left (by decide)), fun h => f1 (h.resolve_left (by decide)), fun _ => rfl, fun h => f3 (h.resolve_left (by decide)), fun h => f4 (h.resolve_left (by decide)), fun h => f5 (h.resolve_left (by decide)), fun h => f6 (h.resolve_left (by decide)), fun h => f7 (h.resolve_left (by decide)), fun h => ((f8 (h.resolve_left (by decide)))).congr ⟨fun h => .inr h, fun h => h.resolve_left (by decide)⟩, fun h => f10 (h.resolve_left (by decide)), fun h => .inr (c8 (h.resolve_left (by decide)))⟩
        case s3 =>
          rintro L T W hd hn hJ K hK
          have HJ := Lib.hid hJ
          clear hJ
          have hb := HJ.out.1
          have e2 := HJ.out.2.2.2.1 hd.1
          have r1 := HJ.out.2.2.1 hd.2.1
          simp only [ovr, Act.put, List.setIfInBounds_toArray, List.set_cons_zero, List.set_cons_succ, e2] at hK ⊢
          have HK := Lib.hid hK
          clear hK
          refine wpOp_want rfl rfl ?_
          go_simp
          (with_reducible refine (own_any x2 l2 a2 c2 _ m2 (u2.mono hb)).mono ?_)
          rintro e w1 ⟨⟨a3, c3, rfl, hu3, _⟩, hb1⟩
          have hr : OwnR x2 l2 w1 (.agg #[.bool x2, .slice a3 l2.length c3]) := ⟨a3, c3, rfl, hu3.out⟩
          dsimp only
          obtain ⟨hb, f0, f1, f2, f3, f4, f5, f6, f7, f8, f10, c8⟩ := HJ.out
          exact HK.out _ _ ⟨Below.step hb hb1 (Nat.le_refl _), fun h => f0 (h.resolve_left (by decide)), fun h => (stay_ownR x1 l1).mono (f1 (h.resolve_left (by decide))) hb1, fun h => f2 (h.resolve_left (by decide)), fun _ => hr, fun h => (stay_isV _).mono (f4 (h.resolve_left (by decide))) hb1, fun h => f5 (h.resolve_left (by decide)), fun h => (stay_zeroI).mono (f6 (h.resolve_left (by decide))) hb1, fun h => f7 (h.resolve_left (by decide)), fun h => ((f8 (h.resolve_left (by decide))).mono (stay_zeroI) hb1).congr ⟨fun h => .inr h, fun h => h.resolve_left (by decide)⟩, fun h => f10 (h.resolve_left (by decide)), fun h => .inr (c8 (h.resolve_left (by decide)))⟩
        case s4 =>
          rintro L T W hd hn hJ K hK
          have HJ := Lib.hid hJ
          clear hJ
          have hb := HJ.out.1
          have r1 := HJ.out.2.2.1 hd.1
          have r3 := HJ.out.2.2.2.2.1 hd.2.1
          obtain ⟨a3, c3, ev1, hu1⟩ := r1
          obtain ⟨a4, c4, ev2, hu2⟩ := r3
          simp only [ovr, Act.put, List.setIfInBounds_toArray, List.set_cons_zero, List.set_cons_succ, ev1, ev2] at hK ⊢
          have HK := Lib.hid hK
          clear hK
          refine wpOp_want rfl rfl ?_
          go_simp
          (with_reducible refine (Sub_inv x1 x2 l1 l2 a3 a4 c3 c4 _ hu1 hu2 m1 m2 hbad (hE.mono hb)).mono ?_)
          rintro e w1 ⟨rfl, hb1⟩
          have hr : IsV (.tuple #[.agg #[.bool false, .slice none 0 0], .int .i64 1]) w1 (.tuple #[.agg #[.bool false, .slice none 0 0], .int .i64 1]) := rfl
          dsimp only
          obtain ⟨hb, f0, f1, f2, f3, f4, f5, f6, f7, f8, f10, c8⟩ := HJ.out
          exact HK.out _ _ ⟨Below.step hb hb1 (Nat.le_refl _), fun h => f0 (h.resolve_left (by decide)), fun h => (stay_ownR x1 l1).mono (f1 (h.resolve_left (by decide))) hb1, fun h => f2 (h.resolve_left (by decide)), fun h => (stay_ownR x2 l2).mono (f3 (h.resolve_left (by decide))) hb1, fun _ => hr, fun h => f5 (h.resolve_left (by decide)), fun h => (stay_zeroI).mono (f6 (h.resolve_left (by decide))) hb1, fun h => f7 (h.resolve_left (by decide)), fun h => ((f8 (h.resolve_left (by decide))).mono (stay_zeroI) hb1).congr ⟨fun h => .inr h, fun h => h.resolve_left (by decide)⟩, fun h => f10 (h.resolve_left (by decide)), fun h => .inr (c8 (h.resolve_left (by decide)))⟩
        case s5 =>
          rintro L T W hd hn hJ K hK
          have HJ := Lib.hid hJ
          clear hJ
          have hb := HJ.out.1
          have r4 := HJ.out.2.2.2.2.2.1 hd.1
          have ev : T 59 = .tuple #[.agg #[.bool false, .slice none 0 0], .int .i64 1] := r4
          simp only [ovr, Act.put, List.setIfInBounds_toArray, List.set_cons_zero, List.set_cons_succ, ev] at hK ⊢
          have HK := Lib.hid hK
          clear hK
          refine wpOp_want rfl rfl ?_
          go_simp
          obtain ⟨hb, f0, f1, f2, f3, f4, f5, f6, f7, f8, f10, c8⟩ := HJ.out
          exact HK.out _ _ ⟨hb, fun h => f0 (h.resolve_left (by decide)), fun h => f1 (h.resolve_left (by decide)), fun h => f2 (h.resolve_left (by decide)), fun h => f3 (h.resolve_left (by decide)), fun h => f4 (h.resolve_left (by decide)), fun _ => rfl, fun h => f6 (h.resolve_left (by decide)), fun h => f7 (h.resolve_left (by decide)), fun h => ((f8 (h.resolve_left (by decide)))).congr ⟨fun h => .inr h, fun h => h.resolve_left (by decide)⟩, fun h => f10 (h.resolve_left (by decide)), fun h => .inr (c8 (h.resolve_left (by decide)))⟩
        case s6 =>
          rintro L T W hd hn hJ K hK
          have HJ := Lib.hid hJ
          clear hJ
          have hb := HJ.out.1
          have e5 := HJ.out.2.2.2.2.2.2.1 hd.1
          simp only [ovr, Act.put, List.setIfInBounds_toArray, List.set_cons_zero, List.set_cons_succ, e5] at hK ⊢
          have HK := Lib.hid hK
          clear hK
          refine wpOp_want rfl rfl ?_
          go_simp
          obtain ⟨hb, f0, f1, f2, f3, f4, f5, f6, f7, f8, f10, c8⟩ := HJ.out
          exact HK.out _ _ ⟨hb, fun h => f0 (h.resolve_left (by decide)), fun h => f1 (h.resolve_left (by decide)), fun h => f2 (h.resolve_left (by decide)), fun h => f3 (h.resolve_left (by decide)), fun h => f4 (h.resolve_left (by decide)), fun h => f5 (h.resolve_left (by decide)), fun _ => rfl, fun h => f7 (h.resolve_left (by decide)), fun h => ((f8 (h.resolve_left (by decide)))).congr ⟨fun h => .inr h, fun h => h.resolve_left (by decide)⟩, fun h => f10 (h.resolve_left (by decide)), fun h => .inr (c8 (h.resolve_left (by decide)))⟩
        case s7 =>
          rintro L T W hd hn hJ K hK
          have HJ := Lib.hid hJ
          clear hJ
          have hb := HJ.out.1
          have e5 := HJ.out.2.2.2.2.2.2.1 hd.1
          simp only [ovr, Act.put, List.setIfInBounds_toArray, List.set_cons_zero, List.set_cons_succ, e5] at hK ⊢
          have HK := Lib.hid hK
          clear hK
          refine wpOp_want rfl rfl ?_
          go_simp
          obtain ⟨hb, f0, f1, f2, f3, f4, f5, f6, f7, f8, f10, c8⟩ := HJ.out
          exact HK.out _ _ ⟨hb, fun h => f0 (h.resolve_left (by decide)), fun h => f1 (h.resolve_left (by decide)), fun h => f2 (h.resolve_left (by decide)), fun h => f3 (h.resolve_left (by decide)), fun h => f4 (h.resolve_left (by decide)), fun h => f5 (h.resolve_left (by decide)), fun h => f6 (h.resolve_left (by decide)), fun _ => rfl, fun h => ((f8 (h.resolve_left (by decide)))).congr ⟨fun h => .inr h, fun h => h.resolve_left (by decide)⟩, fun h => f10 (h.resolve_left (by decide)), fun h => .inr (c8 (h.resolve_left (by decide)))⟩
        case s8 =>
          rintro L T W hd hn hJ K hK
          have HJ := Lib.hid hJ
          clear hJ
          have hb := HJ.out.1
          simp only [ovr, Act.put, List.setIfInBounds_toArray, List.set_cons_zero, List.set_cons_succ] at hK ⊢
          have HK := Lib.hid hK
          clear hK
          refine wpOp_want rfl rfl ?_
          go_simp
          have hb1 := below_alloc W (.cells #[.bool false, .slice none 0 0] 24)
          obtain ⟨hb, f0, f1, f2, f3, f4, f5, f6, f7, f8, f10, c8⟩ := HJ.out
          exact HK.out _ _ ⟨Below.step hb hb1 (Nat.le_refl _), fun h => f0 (h.resolve_left (by decide)), fun h => (stay_ownR x1 l1).mono (f1 (h.resolve_left (by decide))) hb1, fun h => f2 (h.resolve_left (by decide)), fun h => (stay_ownR x2 l2).mono (f3 (h.resolve_left (by decide))) hb1, fun h => (stay_isV _).mono (f4 (h.resolve_left (by decide))) hb1, fun h => f5 (h.resolve_left (by decide)), fun h => (stay_zeroI).mono (f6 (h.resolve_left (by decide))) hb1, fun h => f7 (h.resolve_left (by decide)), fun _ => Slot.new W (fun h => hn (c8 (h.resolve_left (by decide)))) _ hb.size, fun h => f10 (h.resolve_left (by decide)), fun _ => .inl (by decide)⟩
        case s9 =>
          rintro L T W hd hn hJ K hK
          have HJ := Lib.hid hJ
          clear hJ
          have hb := HJ.out.1
          have r6 := HJ.out.2.2.2.2.2.2.2.1 hd.2.1
          have r4 := HJ.out.2.2.2.2.2.1 hd.2.2.1
          have e0 := HJ.out.2.1 hd.2.2.2.1
          have r1 := HJ.out.2.2.1 hd.2.2.2.2.1
          have e2 := HJ.out.2.2.2.1 hd.2.2.2.2.2.1
          have r3 := HJ.out.2.2.2.2.1 hd.2.2.2.2.2.2.1
          have e5 := HJ.out.2.2.2.2.2.2.1 hd.2.2.2.2.2.2.2.2.1
          have da := hd.1
          have hr := r6
          obtain ⟨m, em, hm1, hm2, hB⟩ := (HJ.out.2.2.2.2.2.2.2.2.2.1 da).open hn
          obtain ⟨ng, ao, nn, cap, ev⟩ := ZeroI.parts hr
          rw [ev] at hr
          obtain ⟨b0, b1, b2, b3⟩ := id hB
          simp only [ovr, Act.put, List.setIfInBounds_toArray, List.set_cons_zero, List.set_cons_succ, e0, e2, e5, em, ev] at hK ⊢
          have HK := Lib.hid hK
          clear hK
          refine wpOp_want rfl rfl ?_
          go_simp
          obtain ⟨hb, f0, f1, f2, f3, f4, f5, f6, f7, f8, f10, c8⟩ := HJ.out
          exact HK.out undef _ ⟨Below.put2 hb hm1 _ _, fun h => f0 (h.resolve_left (by decide)), fun h => (stay_ownR x1 l1).put (f1 (h.resolve_left (by decide))) hB, fun h => f2 (h.resolve_left (by decide)), fun h => (stay_ownR x2 l2).put (f3 (h.resolve_left (by decide))) hB, fun h => (stay_isV _).put (f4 (h.resolve_left (by decide))) hB, fun h => f5 (h.resolve_left (by decide)), fun h => (stay_zeroI).put (f6 (h.resolve_left (by decide))) hB, fun h => f7 (h.resolve_left (by decide)), fun h => by show Slot _ _ _ _ (T 8); rw [em]; exact Slot.stored (stay_zeroI) hm1 hB (.inl (by decide)) hr, fun h => f10 (h.resolve_left (by decide)), fun _ => .inr da⟩
        case s10 =>
          rintro L T W hd hn hJ K hK
          have HJ := Lib.hid hJ
          clear hJ
          have hb := HJ.out.1
          have e7 := HJ.out.2.2.2.2.2.2.2.2.1 hd.1
          have e0 := HJ.out.2.1 hd.2.2.1
          have r1 := HJ.out.2.2.1 hd.2.2.2.1
          have e2 := HJ.out.2.2.2.1 hd.2.2.2.2.1
          have r3 := HJ.out.2.2.2.2.1 hd.2.2.2.2.2.1
          have r4 := HJ.out.2.2.2.2.2.1 hd.2.2.2.2.2.2.1
          have e5 := HJ.out.2.2.2.2.2.2.1 hd.2.2.2.2.2.2.2.1
          have r6 := HJ.out.2.2.2.2.2.2.2.1 hd.2.2.2.2.2.2.2.2.1
          simp only [ovr, Act.put, List.setIfInBounds_toArray, List.set_cons_zero, List.set_cons_succ, e7, e0, e2, e5] at hK ⊢
          have HK := Lib.hid hK
          clear hK
          refine wpOp_want rfl rfl ?_
          go_simp
          obtain ⟨hb, f0, f1, f2, f3, f4, f5, f6, f7, f8, f10, c8⟩ := HJ.out
          exact HK.out _ _ ⟨hb, fun h => f0 (h.resolve_left (by decide)), fun h => f1 (h.resolve_left (by decide)), fun h => f2 (h.resolve_left (by decide)), fun h => f3 (h.resolve_left (by decide)), fun h => f4 (h.resolve_left (by decide)), fun h => f5 (h.resolve_left (by decide)), fun h => f6 (h.resolve_left (by decide)), fun h => f7 (h.resolve_left (by decide)), fun h => ((f8 (h.resolve_left (by decide)))).congr ⟨fun h => .inr h, fun h => h.resolve_left (by decide)⟩, fun _ => rfl, fun h => .inr (c8 (h.resolve_left (by decide)))⟩
        case he =>
          rintro T W ⟨hb, f0, f1, f2, f3, f4, f5, f6, f7, f8, f10, c8⟩
          simp only [ovr, List.setIfInBounds_toArray, List.set_cons_zero, List.set_cons_succ]
          have hr0 := (f8 (by decide)).zbox (by decide)
          go_wp2_with fail
          go_meet
          exact ⟨hr0, rfl, hb⟩
      case rest =>
        obtain ⟨⟨g8, rfl, hg8, X8⟩, rfl, hb⟩ := hcut
        have u1 := u1.mono hb
        have u2 := u2.mono hb
        have X1 := X1.mono hb
        have X2 := X2.mono hb
        have X5 := X5.mono hb
        have X6 := X6.mono hb
        have hE := hE.mono hb
        have hbw := Below.step hbw hb (Nat.le_refl _)
        clear hb
        obtain ⟨wy, rfl⟩ : ∃ wy : World, wy = wc := ⟨_, rfl⟩
        go_upto_region 6 with fail
        go_cut [10, 11] (fun s10 s11 wc => ZBox wy wc s10 ∧ s11 = .int .i64 1 ∧ Below wy.heap.size wy wc)
        case first =>
          refine wp_region_flow (fun L T W => Below wy.heap.size wy W ∧ (L 0 → T 63 = .agg #[.bool x1, .slice a1 l1.length c1]) ∧ (L 1 → (OwnR x1 l1) W (T 64)) ∧ (L 2 → T 65 = .agg #[.bool x2, .slice a2 l2.length c2]) ∧ (L 3 → (OwnR x2 l2) W (T 66)) ∧ (L 4 → (IsV (.tuple #[.agg #[.bool false, .slice none 0 0], .int .i64 1])) W (T 67)) ∧ (L 5 → T 62 = .tuple #[.agg #[.bool false, .slice none 0 0], .int .i64 1]) ∧ (L 6 → (ZeroI) W (T 68)) ∧ (L 7 → T 69 = .int .i64 1) ∧ (L 8 → Slot W wy.heap.size (ZeroI) (L 9) (T 10)) ∧ (L 10 → T 11 = .int .i64 1) ∧ (L 9 → L 8)) [63, 64, 65, 66, 67, 62, 68, 69, 10, 11] (by kernel_rfl) (by kernel_rfl) (by kernel_rfl) ?h0 ⟨?s0, ?s1, ?s2, ?s3, ?s4, ?s5, ?s6, ?s7, ?s8, ?s9, ?s10, trivial⟩ ?he ?hm
          case h0 => exact fun T => ⟨(Below.refl _ _).drew, fun h => h.elim, fun h => h.elim, fun h => h.elim, fun h => h.elim, fun h => h.elim, fun h => h.elim, fun h => h.elim, fun h => h.elim, fun h => h.elim, fun h => h.elim, fun h => h.elim⟩
          case hm =>
            rintro L T W hL ⟨hb, f0, f1, f2, f3, f4, f5, f6, f7, f8, f10, c8⟩
            exact ⟨hb, fun _ => f0 (hL _ (by decide)), fun _ => f1 (hL _ (by decide)), fun _ => f2 (hL _ (by decide)), fun _ => f3 (hL _ (by decide)), fun _ => f4 (hL _ (by decide)), fun _ => f5 (hL _ (by decide)), fun _ => f6 (hL _ (by decide)), fun _ => f7 (hL _ (by decide)), fun _ => (f8 (hL _ (by decide))).congr ⟨fun _ => by decide, fun _ => hL _ (by decide)⟩, fun _ => f10 (hL _ (by decide)), fun _ => by decide⟩
          case s0 =>
            rintro L T W hd hn hJ K hK
            have HJ := Lib.hid hJ
            clear hJ
            have hb := HJ.out.1
            simp only [ovr, Act.put, List.setIfInBounds_toArray, List.set_cons_zero, List.set_cons_succ] at hK ⊢
            have HK := Lib.hid hK
            clear hK
            obtain ⟨c0, c1, c2, c3⟩ := (fun W => S2 (W := W) X1 X2) W hb
            refine wpOp_want rfl rfl ?_
            go_simp
            obtain ⟨hb, f0, f1, f2, f3, f4, f5, f6, f7, f8, f10, c8⟩ := HJ.out
            exact HK.out _ _ ⟨hb, fun _ => rfl, fun h => f1 (h.resolve_left (by decide)), fun h => f2 (h.resolve_left (by decide)), fun h => f3 (h.resolve_left (by decide)), fun h => f4 (h.resolve_left (by decide)), fun h => f5 (h.resolve_left (by decide)), fun h => f6 (h.resolve_left (by decide)), fun h => f7 (h.resolve_left (by decide)), fun h => ((f8 (h.resolve_left (by decide)))).congr ⟨fun h => .inr h, fun h => h.resolve_left (by decide)⟩, fun h => f10 (h.resolve_left (by decide)), fun h => .inr (c8 (h.resolve_left (by decide)))⟩
          case s1 =>
            rintro L T W hd hn hJ K hK
            have HJ := Lib.hid hJ
            clear hJ
            have hb := HJ.out.1
            have e0 := HJ.out.2.1 hd.1
            simp only [ovr, Act.put, List.setIfInBounds_toArray, List.set_cons_zero, List.set_cons_succ, e0] at hK ⊢
            have HK := Lib.hid hK
            clear hK
            refine wpOp_want rfl rfl ?_
            go_simp
            (with_reducible refine (own_any x1 l1 a1 c1 _ m1 (u1.mono hb)).mono ?_)
            rintro e w1 ⟨⟨a3, c3, rfl, hu3, _⟩, hb1⟩
            have hr : OwnR x1 l1 w1 (.agg #[.bool x1, .slice a3 l1.length c3]) := ⟨a3, c3, rfl, hu3.out⟩
            dsimp only
            obtain ⟨hb, f0, f1, f2, f3, f4, f5, f6, f7, f8, f10, c8⟩ := HJ.out
            exact HK.out _ _ ⟨Below.step hb hb1 (Nat.le_refl _), fun h => f0 (h.resolve_left (by decide)), fun _ => hr, fun h => f2 (h.resolve_left (by decide)), fun h => (stay_ownR x2 l2).mono (f3 (h.resolve_left (by decide))) hb1, fun h => (stay_isV _).mono (f4 (h.resolve_left (by decide))) hb1, fun h => f5 (h.resolve_left (by decide)), fun h => (stay_zeroI).mono (f6 (h.resolve_left (by decide))) hb1, fun h => f7 (h.resolve_left (by decide)), fun h => ((f8 (h.resolve_left (by decide))).mono (stay_zeroI) hb1).congr ⟨fun h => .inr h, fun h => h.resolve_left (by decide)⟩, fun h => f10 (h.resolve_left (by decide)), fun h => .inr (c8 (h.resolve_left (by decide)))⟩
          case s2 =>
            rintro L T W hd hn hJ K hK
            have HJ := Lib.hid hJ
            clear hJ
            have hb := HJ.out.1
            simp only [ovr, Act.put, List.setIfInBounds_toArray, List.set_cons_zero, List.set_cons_succ] at hK ⊢
            have HK := Lib.hid hK
            clear hK
            obtain ⟨c0, c1, c2, c3⟩ := (fun W => S2 (W := W) X1 X2) W hb
            refine wpOp_want rfl rfl ?_
            go_simp
            obtain ⟨hb, f0, f1, f2, f3, f4, f5, f6, f7, f8, f10, c8⟩ := HJ.out
            exact HK.out _ _ ⟨hb, fun h => f0 (h.resolve_left (by decide)), fun h => f1 (h.resolve_left (by decide)), fun _ => rfl, fun h => f3 (h.resolve_left (by decide)), fun h => f4 (h.resolve_left (by decide)), fun h => f5 (h.resolve_left (by decide)), fun h => f6 (h.resolve_left (by decide)), fun h => f7 (h.resolve_left (by decide)), fun h => ((f8 (h.resolve_left (by decide)))).congr ⟨fun h => .inr h, fun h => h.resolve_left (by decide)⟩, fun h => f10 (h.resolve_left (by decide)), fun h => .inr (c8 (h.resolve_left (by decide)))⟩
          case s3 =>
            rintro L T W hd hn hJ K hK
            have HJ := Lib.hid hJ
            clear hJ
            have hb := HJ.out.1
            have e2 := HJ.out.2.2.2.1 hd.1
            have r1 := HJ.out.2.2.1 hd.2.1
            simp only [ovr, Act.put, List.setIfInBounds_toArray, List.set_cons_zero, List.set_cons_succ, e2] at hK ⊢
            have HK := Lib.hid hK
            clear hK
            refine wpOp_want rfl rfl ?_
            go_simp
            (with_reducible refine (own_any x2 l2 a2 c2 _ m2 (u2.mono hb)).mono ?_)
            rintro e w1 ⟨⟨a3, c3, rfl, hu3, _⟩, hb1⟩
            have hr : OwnR x2 l2 w1 (.agg #[.bool x2, .slice a3 l2.length c3]) := ⟨a3, c3, rfl, hu3.out⟩
            dsimp only
            obtain ⟨hb, f0, f1, f2, f3, f4, f5, f6, f7, f8, f10, c8⟩ := HJ.out
            exact HK.out _ _ ⟨Below.step hb hb1 (Nat.le_refl _), fun h => f0 (h.resolve_left (by decide)), fun h => (stay_ownR x1 l1).mono (f1 (h.resolve_left (by decide))) hb1, fun h => f2 (h.resolve_left (by decide)), fun _ => hr, fun h => (stay_isV _).mono (f4 (h.resolve_left (by decide))) hb1, fun h => f5 (h.resolve_left (by decide)), fun h => (stay_zeroI).mono (f6 (h.resolve_left (by decide))) hb1, fun h => f7 (h.resolve_left (by decide)), fun h => ((f8 (h.resolve_left (by decide))).mono (stay_zeroI) hb1).congr ⟨fun h => .inr h, fun h => h.resolve_left (by decide)⟩, fun h => f10 (h.resolve_left (by decide)), fun h => .inr (c8 (h.resolve_left (by decide)))⟩
          case s4 =>
            rintro L T W hd hn hJ K hK
            have HJ := Lib.hid hJ
            clear hJ
            have hb := HJ.out.1
            have r1 := HJ.out.2.2.1 hd.1
            have r3 := HJ.out.2.2.2.2.1 hd.2.1
            obtain ⟨a3, c3, ev1, hu1⟩ := r1
            obtain ⟨a4, c4, ev2, hu2⟩ := r3
            simp only [ovr, Act.put, List.setIfInBounds_toArray, List.set_cons_zero, List.set_cons_succ, ev1, ev2] at hK ⊢
            have HK := Lib.hid hK
            clear hK
            refine wpOp_want rfl rfl ?_
            go_simp
            (with_reducible refine (Mul_inv x1 x2 l1 l2 a3 a4 c3 c4 _ hu1 hu2 m1 m2 hbad (hE.mono hb)).mono ?_)
            rintro e w1 ⟨rfl, hb1⟩
            have hr : IsV (.tuple #[.agg #[.bool false, .slice none 0 0], .int .i64 1]) w1 (.tuple #[.agg #[.bool false, .slice none 0 0], .int .i64 1]) := rfl
            dsimp only
            obtain ⟨hb, f0, f1, f2, f3, f4, f5, f6, f7, f8, f10, c8⟩ := HJ.out
            exact HK.out _ _ ⟨Below.step hb hb1 (Nat.le_refl _), fun h => f0 (h.resolve_left (by decide)), fun h => (stay_ownR x1 l1).mono (f1 (h.resolve_left (by decide))) hb1, fun h => f2 (h.resolve_left (by decide)), fun h => (stay_ownR x2 l2).mono (f3 (h.resolve_left (by decide))) hb1, fun _ => hr, fun h => f5 (h.resolve_left (by decide)), fun h => (stay_zeroI).mono (f6 (h.resolve_left (by decide))) hb1, fun h => f7 (h.resolve_left (by decide)), fun h => ((f8 (h.resolve_left (by decide))).mono (stay_zeroI) hb1).congr ⟨fun h => .inr h, fun h => h.resolve_left (by decide)⟩, fun h => f10 (h.resolve_left (by decide)), fun h => .inr (c8 (h.resolve_left (by decide)))⟩
          case s5 =>
            rintro L T W hd hn hJ K hK
            have HJ := Lib.hid hJ
            clear hJ
            have hb := HJ.out.1
            have r4 := HJ.out.2.2.2.2.2.1 hd.1
            have ev : T 67 = .tuple #[.agg #[.bool false, .slice none 0 0], .int .i64 1] := r4
            simp only [ovr, Act.put, List.setIfInBounds_toArray, List.set_cons_zero, List.set_cons_succ, ev] at hK ⊢
            have HK := Lib.hid hK
            clear hK
            refine wpOp_want rfl rfl ?_
            go_simp
            obtain ⟨hb, f0, f1, f2, f3, f4, f5, f6, f7, f8, f10, c8⟩ := HJ.out
            exact HK.out _ _ ⟨hb, fun h => f0 (h.resolve_left (by decide)), fun h => f1 (h.resolve_left (by decide)), fun h => f2 (h.resolve_left (by decide)), fun h => f3 (h.resolve_left (by decide)), fun h => f4 (h.resolve_left (by decide)), fun _ => rfl, fun h => f6 (h.resolve_left (by decide)), fun h => f7 (h.resolve_left (by decide)), fun h => ((f8 (h.resolve_left (by decide)))).congr ⟨fun h => .inr h, fun h => h.resolve_left (by decide)⟩, fun h => f10 (h.resolve_left (by decide)), fun h => .inr (c8 (h.resolve_left (by decide)))⟩
          case s6 =>
            rintro L T W hd hn hJ K hK
            have HJ := Lib.hid hJ
            clear hJ
            have hb := HJ.out.1
            have e5 := HJ.out.2.2.2.2.2.2.1 hd.1
            simp only [ovr, Act.put, List.setIfInBounds_toArray, List.set_cons_zero, List.set_cons_succ, e5] at hK ⊢
            have HK := Lib.hid hK
            clear hK
            refine wpOp_want rfl rfl ?_
            go_simp
            obtain ⟨hb, f0, f1, f2, f3, f4, f5, f6, f7, f8, f10, c8⟩ := HJ.out
            exact HK.out _ _ ⟨hb, fun h => f0 (h.resolve_left (by decide)), fun h => f1 (h.resolve_left (by decide)), fun h => f2 (h.resolve_left (by decide)), fun h => f3 (h.resolve_left (by decide)), fun h => f4 (h.resolve_left (by decide)), fun h => f5 (h.resolve_left (by decide)), fun _ => rfl, fun h => f7 (h.resolve_left (by decide)), fun h => ((f8 (h.resolve_left (by decide)))).congr ⟨fun h => .inr h, fun h => h.resolve_left (by decide)⟩, fun h => f10 (h.resolve_left (by decide)), fun h => .inr (c8 (h.resolve_left (by decide)))⟩
          case s7 =>
            rintro L T W hd hn hJ K hK
            have HJ := Lib.hid hJ
            clear hJ
            have hb := HJ.out.1
            have e5 := HJ.out.2.2.2.2.2.2.1 hd.1
            simp only [ovr, Act.put, List.setIfInBounds_toArray, List.set_cons_zero, List.set_cons_succ, e5] at hK ⊢
            have HK := Lib.hid hK
            clear hK
            refine wpOp_want rfl rfl ?_
            go_simp
            obtain ⟨hb, f0, f1, f2, f3, f4, f5, f6, f7, f8, f10, c8⟩ := HJ.out
            exact HK.out _ _ ⟨hb, fun h => f0 (h.resolve_left (by decide)), fun h => f1 (h.resolve_left (by decide)), fun h => f2 (h.resolve_left (by decide)), fun h => f3 (h.resolve_left (by decide)), fun h => f4 (h.resolve_left (by decide)), fun h => f5 (h.resolve_left (by decide)), fun h => f6 (h.resolve_left (by decide)), fun _ => rfl, fun h => ((f8 (h.resolve_left (by decide)))).congr ⟨fun h => .inr h, fun h => h.resolve_left (by decide)⟩, fun h => f10 (h.resolve_left (by decide)), fun h => .inr (c8 (h.resolve_left (by decide)))⟩
          case s8 =>
            rintro L T W hd hn hJ K hK
            have HJ := Lib.hid hJ
            clear hJ
            have hb := HJ.out.1
            simp only [ovr, Act.put, List.setIfInBounds_toArray, List.set_cons_zero, List.set_cons_succ] at hK ⊢
            have HK := Lib.hid hK
            clear hK
            refine wpOp_want rfl rfl ?_
            go_simp
            have hb1 := below_alloc W (.cells #[.bool false, .slice none 0 0] 24)
            obtain ⟨hb, f0, f1, f2, f3, f4, f5, f6, f7, f8, f10, c8⟩ := HJ.out
            exact HK.out _ _ ⟨Below.step hb hb1 (Nat.le_refl _), fun h => f0 (h.resolve_left (by decide)), fun h => (stay_ownR x1 l1).mono (f1 (h.resolve_left (by decide))) hb1, fun h => f2 (h.resolve_left (by decide)), fun h => (stay_ownR x2 l2).mono (f3 (h.resolve_left (by decide))) hb1, fun h => (stay_isV _).mono (f4 (h.resolve_left (by decide))) hb1, fun h => f5 (h.resolve_left (by decide)), fun h => (stay_zeroI).mono (f6 (h.resolve_left (by decide))) hb1, fun h => f7 (h.resolve_left (by decide)), fun _ => Slot.new W (fun h => hn (c8 (h.resolve_left (by decide)))) _ hb.size, fun h => f10 (h.resolve_left (by decide)), fun _ => .inl (by decide)⟩
          case s9 =>
            rintro L T W hd hn hJ K hK
            have HJ := Lib.hid hJ
            clear hJ
            have hb := HJ.out.1
            have r6 := HJ.out.2.2.2.2.2.2.2.1 hd.2.1
            have r4 := HJ.out.2.2.2.2.2.1 hd.2.2.1
            have e0 := HJ.out.2.1 hd.2.2.2.1
            have r1 := HJ.out.2.2.1 hd.2.2.2.2.1
            have e2 := HJ.out.2.2.2.1 hd.2.2.2.2.2.1
            have r3 := HJ.out.2.2.2.2.1 hd.2.2.2.2.2.2.1
            have e5 := HJ.out.2.2.2.2.2.2.1 hd.2.2.2.2.2.2.2.2.1
            have da := hd.1
            have hr := r6
            obtain ⟨m, em, hm1, hm2, hB⟩ := (HJ.out.2.2.2.2.2.2.2.2.2.1 da).open hn
            obtain ⟨ng, ao, nn, cap, ev⟩ := ZeroI.parts hr
            rw [ev] at hr
            obtain ⟨b0, b1, b2, b3⟩ := id hB
            simp only [ovr, Act.put, List.setIfInBounds_toArray, List.set_cons_zero, List.set_cons_succ, e0, e2, e5, em, ev] at hK ⊢
            have HK := Lib.hid hK
            clear hK
            refine wpOp_want rfl rfl ?_
            go_simp
            obtain ⟨hb, f0, f1, f2, f3, f4, f5, f6, f7, f8, f10, c8⟩ := HJ.out
            exact HK.out undef _ ⟨Below.put2 hb hm1 _ _, fun h => f0 (h.resolve_left (by decide)), fun h => (stay_ownR x1 l1).put (f1 (h.resolve_left (by decide))) hB, fun h => f2 (h.resolve_left (by decide)), fun h => (stay_ownR x2 l2).put (f3 (h.resolve_left (by decide))) hB, fun h => (stay_isV _).put (f4 (h.resolve_left (by decide))) hB, fun h => f5 (h.resolve_left (by decide)), fun h => (stay_zeroI).put (f6 (h.resolve_left (by decide))) hB, fun h => f7 (h.resolve_left (by decide)), fun h => by show Slot _ _ _ _ (T 10); rw [em]; exact Slot.stored (stay_zeroI) hm1 hB (.inl (by decide)) hr, fun h => f10 (h.resolve_left (by decide)), fun _ => .inr da⟩
          case s10 =>
            rintro L T W hd hn hJ K hK
            have HJ := Lib.hid hJ
            clear hJ
            have hb := HJ.out.1
            have e7 := HJ.out.2.2.2.2.2.2.2.2.1 hd.1
            have e0 := HJ.out.2.1 hd.2.2.1
            have r1 := HJ.out.2.2.1 hd.2.2.2.1
            have e2 := HJ.out.2.2.2.1 hd.2.2.2.2.1
            have r3 := HJ.out.2.2.2.2.1 hd.2.2.2.2.2.1
            have r4 := HJ.out.2.2.2.2.2.1 hd.2.2.2.2.2.2.1
            have e5 := HJ.out.2.2.2.2.2.2.1 hd.2.2.2.2.2.2.2.1
            have r6 := HJ.out.2.2.2.2.2.2.2.1 hd.2.2.2.2.2.2.2.2.1
            simp only [ovr, Act.put, List.setIfInBounds_toArray, List.set_cons_zero, List.set_cons_succ, e7, e0, e2, e5] at hK ⊢
            have HK := Lib.hid hK
            clear hK
            refine wpOp_want rfl rfl ?_
            go_simp
            obtain ⟨hb, f0, f1, f2, f3, f4, f5, f6, f7, f8, f10, c8⟩ := HJ.out
            exact HK.out _ _ ⟨hb, fun h => f0 (h.resolve_left (by decide)), fun h => f1 (h.resolve_left (by decide)), fun h => f2 (h.resolve_left (by decide)), fun h => f3 (h.resolve_left (by decide)), fun h => f4 (h.resolve_left (by decide)), fun h => f5 (h.resolve_left (by decide)), fun h => f6 (h.resolve_left (by decide)), fun h => f7 (h.resolve_left (by decide)), fun h => ((f8 (h.resolve_left (by decide)))).congr ⟨fun h => .inr h, fun h => h.resolve_left (by decide)⟩, fun _ => rfl, fun h => .inr (c8 (h.resolve_left (by decide)))⟩
          case he =>
            rintro T W ⟨hb, f0, f1, f2, f3, f4, f5, f6, f7, f8, f10, c8⟩
            simp only [ovr, List.setIfInBounds_toArray, List.set_cons_zero, List.set_cons_succ]
            have hr0 := (f8 (by decide)).zbox (by decide)
            go_wp2_with fail
            go_meet
            exact ⟨hr0, rfl, hb⟩
        case rest =>
          obtain ⟨⟨g10, rfl, hg10, X10⟩, rfl, hb⟩ := hcut
          have u1 := u1.mono hb
          have u2 := u2.mono hb
          have X1 := X1.mono hb
          have X2 := X2.mono hb
          have X5 := X5.mono hb
          have X6 := X6.mono hb
          have X8 := X8.mono hb
          have hE := hE.mono hb
          have hbw := Below.step hbw hb (Nat.le_refl _)
          clear hb
          obtain ⟨wy, rfl⟩ : ∃ wy : World, wy = wc := ⟨_, rfl⟩
          go_upto_region 7 with fail
          go_cut [12, 13, 14] (fun s12 s13 s14 wc => ZBox wy wc s12 ∧ ZBox wy wc s13 ∧ s14 = .int .i64 1 ∧ Below wy.heap.size wy wc)
          case first =>
            refine wp_region_flow (fun L T W => Below wy.heap.size wy W ∧ (L 0 → T 71 = .agg #[.bool x1, .slice a1 l1.length c1]) ∧ (L 1 → (OwnR x1 l1) W (T 72)) ∧ (L 2 → T 73 = .agg #[.bool x2, .slice a2 l2.length c2]) ∧ (L 3 → (OwnR x2 l2) W (T 74)) ∧ (L 4 → (IsV (.tuple #[.agg #[.bool false, .slice none 0 0], .agg #[.bool false, .slice none 0 0], .int .i64 1])) W (T 75)) ∧ (L 5 → T 70 = .tuple #[.agg #[.bool false, .slice none 0 0], .agg #[.bool false, .slice none 0 0], .int .i64 1]) ∧ (L 6 → (ZeroI) W (T 76)) ∧ (L 7 → (ZeroI) W (T 77)) ∧ (L 8 → T 78 = .int .i64 1) ∧ (L 9 → Slot W wy.heap.size (ZeroI) (L 11) (T 12)) ∧ (L 10 → Slot W wy.heap.size (ZeroI) (L 12) (T 13)) ∧ (L 13 → T 14 = .int .i64 1) ∧ (L 9 → L 10 → T 12 ≠ T 13) ∧ (L 11 → L 9) ∧ (L 12 → L 10)) [71, 72, 73, 74, 75, 70, 76, 77, 78, 12, 13, 14] (by kernel_rfl) (by kernel_rfl) (by kernel_rfl) ?h0 ⟨?s0, ?s1, ?s2, ?s3, ?s4, ?s5, ?s6, ?s7, ?s8, ?s9, ?s10, ?s11, ?s12, ?s13, trivial⟩ ?he ?hm
            case h0 => exact fun T => ⟨(Below.refl _ _).drew, fun h => h.elim, fun h => h.elim, fun h => h.elim, fun h => h.elim, fun h => h.elim, fun h => h.elim, fun h => h.elim, fun h => h.elim, fun h => h.elim, fun h => h.elim, fun h => h.elim, fun h => h.elim, fun h => h.elim, fun h => h.elim, fun h => h.elim⟩
            case hm =>
              rintro L T W hL ⟨hb, f0, f1, f2, f3, f4, f5, f6, f7, f8, f9, f10, f13, n9_10, c9, c10⟩
              exact ⟨hb, fun _ => f0 (hL _ (by decide)), fun _ => f1 (hL _ (by decide)), fun _ => f2 (hL _ (by decide)), fun _ => f3 (hL _ (by decide)), fun _ => f4 (hL _ (by decide)), fun _ => f5 (hL _ (by decide)), fun _ => f6 (hL _ (by decide)), fun _ => f7 (hL _ (by decide)), fun _ => f8 (hL _ (by decide)), fun _ => (f9 (hL _ (by decide))).congr ⟨fun _ => by decide, fun _ => hL _ (by decide)⟩, fun _ => (f10 (hL _ (by decide))).congr ⟨fun _ => by decide, fun _ => hL _ (by decide)⟩, fun _ => f13 (hL _ (by decide)), fun _ _ => n9_10 (hL _ (by decide)) (hL _ (by decide)), fun _ => by decide, fun _ => by decide⟩
            case s0 =>
              rintro L T W hd hn hJ K hK
              have HJ := Lib.hid hJ
              clear hJ
              have hb := HJ.out.1
              simp only [ovr, Act.put, List.setIfInBounds_toArray, List.set_cons_zero, List.set_cons_succ] at hK ⊢
              have HK := Lib.hid hK
              clear hK
              obtain ⟨c0, c1, c2, c3⟩ := (fun W => S2 (W := W) X1 X2) W hb
              refine wpOp_want rfl rfl ?_
              go_simp
              obtain ⟨hb, f0, f1, f2, f3, f4, f5, f6, f7, f8, f9, f10, f13, n9_10, c9, c10⟩ := HJ.out
              exact HK.out _ _ ⟨hb, fun _ => rfl, fun h => f1 (h.resolve_left (by decide)), fun h => f2 (h.resolve_left (by decide)), fun h => f3 (h.resolve_left (by decide)), fun h => f4 (h.resolve_left (by decide)), fun h => f5 (h.resolve_left (by decide)), fun h => f6 (h.resolve_left (by decide)), fun h => f7 (h.resolve_left (by decide)), fun h => f8 (h.resolve_left (by decide)), fun h => ((f9 (h.resolve_left (by decide)))).congr ⟨fun h => .inr h, fun h => h.resolve_left (by decide)⟩, fun h => ((f10 (h.resolve_left (by decide)))).congr ⟨fun h => .inr h, fun h => h.resolve_left (by decide)⟩, fun h => f13 (h.resolve_left (by decide)), fun h1 h2 => n9_10 (h1.resolve_left (by decide)) (h2.resolve_left (by decide)), fun h => .inr (c9 (h.resolve_left (by decide))), fun h => .inr (c10 (h.resolve_left (by decide)))⟩
            case s1 =>
              rintro L T W hd hn hJ K hK
              have HJ := Lib.hid hJ
              clear hJ
              have hb := HJ.out.1
              have e0 := HJ.out.2.1 hd.1
              simp only [ovr, Act.put, List.setIfInBounds_toArray, List.set_cons_zero, List.set_cons_succ, e0] at hK ⊢
              have HK := Lib.hid hK
              clear hK
              refine wpOp_want rfl rfl ?_
              go_simp
              (with_reducible refine (own_any x1 l1 a1 c1 _ m1 (u1.mono hb)).mono ?_)
              rintro e w1 ⟨⟨a3, c3, rfl, hu3, _⟩, hb1⟩
              have hr : OwnR x1 l1 w1 (.agg #[.bool x1, .slice a3 l1.length c3]) := ⟨a3, c3, rfl, hu3.out⟩
              dsimp only
              obtain ⟨hb, f0, f1, f2, f3, f4, f5, f6, f7, f8, f9, f10, f13, n9_10, c9, c10⟩ := HJ.out
              exact HK.out _ _ ⟨Below.step hb hb1 (Nat.le_refl _), fun h => f0 (h.resolve_left (by decide)), fun _ => hr, fun h => f2 (h.resolve_left (by decide)), fun h => (stay_ownR x2 l2).mono (f3 (h.resolve_left (by decide))) hb1, fun h => (stay_isV _).mono (f4 (h.resolve_left (by decide))) hb1, fun h => f5 (h.resolve_left (by decide)), fun h => (stay_zeroI).mono (f6 (h.resolve_left (by decide))) hb1, fun h => (stay_zeroI).mono (f7 (h.resolve_left (by decide))) hb1, fun h => f8 (h.resolve_left (by decide)), fun h => ((f9 (h.resolve_left (by decide))).mono (stay_zeroI) hb1).congr ⟨fun h => .inr h, fun h => h.resolve_left (by decide)⟩, fun h => ((f10 (h.resolve_left (by decide))).mono (stay_zeroI) hb1).congr ⟨fun h => .inr h, fun h => h.resolve_left (by decide)⟩, fun h => f13 (h.resolve_left (by decide)), fun h1 h2 => n9_10 (h1.resolve_left (by decide)) (h2.resolve_left (by decide)), fun h => .inr (c9 (h.resolve_left (by decide))), fun h => .inr (c10 (h.resolve_left (by decide)))⟩
            case s2 =>
              rintro L T W hd hn hJ K hK
              have HJ := Lib.hid hJ
              clear hJ
              have hb := HJ.out.1
              simp only [ovr, Act.put, List.setIfInBounds_toArray, List.set_cons_zero, List.set_cons_succ] at hK ⊢
              have HK := Lib.hid hK
              clear hK
              obtain ⟨c0, c1, c2, c3⟩ := (fun W => S2 (W := W) X1 X2) W hb
              refine wpOp_want rfl rfl ?_
              go_simp
              obtain ⟨hb, f0, f1, f2, f3, f4, f5, f6, f7, f8, f9, f10, f13, n9_10, c9, c10⟩ := HJ.out
              exact HK.out _ _ ⟨hb, fun h => f0 (h.resolve_left (by decide)), fun h => f1 (h.resolve_left (by decide)), fun _ => rfl, fun h => f3 (h.resolve_left (by decide)), fun h => f4 (h.resolve_left (by decide)), fun h => f5 (h.resolve_left (by decide)), fun h => f6 (h.resolve_left (by decide)), fun h => f7 (h.resolve_left (by decide)), fun h => f8 (h.resolve_left (by decide)), fun h => ((f9 (h.resolve_left (by decide)))).congr ⟨fun h => .inr h, fun h => h.resolve_left (by decide)⟩, fun h => ((f10 (h.resolve_left (by decide)))).congr ⟨fun h => .inr h, fun h => h.resolve_left (by decide)⟩, fun h => f13 (h.resolve_left (by decide)), fun h1 h2 => n9_10 (h1.resolve_left (by decide)) (h2.resolve_left (by decide)), fun h => .inr (c9 (h.resolve_left (by decide))), fun h => .inr (c10 (h.resolve_left (by decide)))⟩
            case s3 =>
              rintro L T W hd hn hJ K hK
              have HJ := Lib.hid hJ
              clear hJ
              have hb := HJ.out.1
              have e2 := HJ.out.2.2.2.1 hd.1
              have r1 := HJ.out.2.2.1 hd.2.1
              simp only [ovr, Act.put, List.setIfInBounds_toArray, List.set_cons_zero, List.set_cons_succ, e2] at hK ⊢
              have HK := Lib.hid hK
              clear hK
              refine wpOp_want rfl rfl ?_
              go_simp
              (with_reducible refine (own_any x2 l2 a2 c2 _ m2 (u2.mono hb)).mono ?_)
              rintro e w1 ⟨⟨a3, c3, rfl, hu3, _⟩, hb1⟩
              have hr : OwnR x2 l2 w1 (.agg #[.bool x2, .slice a3 l2.length c3]) := ⟨a3, c3, rfl, hu3.out⟩
              dsimp only
              obtain ⟨hb, f0, f1, f2, f3, f4, f5, f6, f7, f8, f9, f10, f13, n9_10, c9, c10⟩ := HJ.out
              exact HK.out _ _ ⟨Below.step hb hb1 (Nat.le_refl _), fun h => f0 (h.resolve_left (by decide)), fun h => (stay_ownR x1 l1).mono (f1 (h.resolve_left (by decide))) hb1, fun h => f2 (h.resolve_left (by decide)), fun _ => hr, fun h => (stay_isV _).mono (f4 (h.resolve_left (by decide))) hb1, fun h => f5 (h.resolve_left (by decide)), fun h => (stay_zeroI).mono (f6 (h.resolve_left (by decide))) hb1, fun h => (stay_zeroI).mono (f7 (h.resolve_left (by decide))) hb1, fun h => f8 (h.resolve_left (by decide)), fun h => ((f9 (h.resolve_left (by decide))).mono (stay_zeroI) hb1).congr ⟨fun h => .inr h, fun h => h.resolve_left (by decide)⟩, fun h => ((f10 (h.resolve_left (by decide))).mono (stay_zeroI) hb1).congr ⟨fun h => .inr h, fun h => h.resolve_left (by decide)⟩, fun h => f13 (h.resolve_left (by decide)), fun h1 h2 => n9_10 (h1.resolve_left (by decide)) (h2.resolve_left (by decide)), fun h => .inr (c9 (h.resolve_left (by decide))), fun h => .inr (c10 (h.resolve_left (by decide)))⟩
            case s4 =>
              rintro L T W hd hn hJ K hK
              have HJ := Lib.hid hJ
              clear hJ
              have hb := HJ.out.1
              have r1 := HJ.out.2.2.1 hd.1
              have r3 := HJ.out.2.2.2.2.1 hd.2.1
              obtain ⟨a3, c3, ev1, hu1⟩ := r1
              obtain ⟨a4, c4, ev2, hu2⟩ := r3
              simp only [ovr, Act.put, List.setIfInBounds_toArray, List.set_cons_zero, List.set_cons_succ, ev1, ev2] at hK ⊢
              have HK := Lib.hid hK
              clear hK
              refine wpOp_want rfl rfl ?_
              go_simp
              (with_reducible refine (Div_inv x1 x2 l1 l2 a3 a4 c3 c4 _ hu1 hu2 m1 m2 hbad (hE.mono hb)).mono ?_)
              rintro e w1 ⟨rfl, hb1⟩
              have hr : IsV (.tuple #[.agg #[.bool false, .slice none 0 0], .agg #[.bool false, .slice none 0 0], .int .i64 1]) w1 (.tuple #[.agg #[.bool false, .slice none 0 0], .agg #[.bool false, .slice none 0 0], .int .i64 1]) := rfl
              dsimp only
              obtain ⟨hb, f0, f1, f2, f3, f4, f5, f6, f7, f8, f9, f10, f13, n9_10, c9, c10⟩ := HJ.out
              exact HK.out _ _ ⟨Below.step hb hb1 (Nat.le_refl _), fun h => f0 (h.resolve_left (by decide)), fun h => (stay_ownR x1 l1).mono (f1 (h.resolve_left (by decide))) hb1, fun h => f2 (h.resolve_left (by decide)), fun h => (stay_ownR x2 l2).mono (f3 (h.resolve_left (by decide))) hb1, fun _ => hr, fun h => f5 (h.resolve_left (by decide)), fun h => (stay_zeroI).mono (f6 (h.resolve_left (by decide))) hb1, fun h => (stay_zeroI).mono (f7 (h.resolve_left (by decide))) hb1, fun h => f8 (h.resolve_left (by decide)), fun h => ((f9 (h.resolve_left (by decide))).mono (stay_zeroI) hb1).congr ⟨fun h => .inr h, fun h => h.resolve_left (by decide)⟩, fun h => ((f10 (h.resolve_left (by decide))).mono (stay_zeroI) hb1).congr ⟨fun h => .inr h, fun h => h.resolve_left (by decide)⟩, fun h => f13 (h.resolve_left (by decide)), fun h1 h2 => n9_10 (h1.resolve_left (by decide)) (h2.resolve_left (by decide)), fun h => .inr (c9 (h.resolve_left (by decide))), fun h => .inr (c10 (h.resolve_left (by decide)))⟩
            case s5 =>
              rintro L T W hd hn hJ K hK
              have HJ := Lib.hid hJ
              clear hJ
              have hb := HJ.out.1
              have r4 := HJ.out.2.2.2.2.2.1 hd.1
              have ev : T 75 = .tuple #[.agg #[.bool false, .slice none 0 0], .agg #[.bool false, .slice none 0 0], .int .i64 1] := r4
              simp only [ovr, Act.put, List.setIfInBounds_toArray, List.set_cons_zero, List.set_cons_succ, ev] at hK ⊢
              have HK := Lib.hid hK
              clear hK
              refine wpOp_want rfl rfl ?_
              go_simp
              obtain ⟨hb, f0, f1, f2, f3, f4, f5, f6, f7, f8, f9, f10, f13, n9_10, c9, c10⟩ := HJ.out
              exact HK.out _ _ ⟨hb, fun h => f0 (h.resolve_left (by decide)), fun h => f1 (h.resolve_left (by decide)), fun h => f2 (h.resolve_left (by decide)), fun h => f3 (h.resolve_left (by decide)), fun h => f4 (h.resolve_left (by decide)), fun _ => rfl, fun h => f6 (h.resolve_left (by decide)), fun h => f7 (h.resolve_left (by decide)), fun h => f8 (h.resolve_left (by decide)), fun h => ((f9 (h.resolve_left (by decide)))).congr ⟨fun h => .inr h, fun h => h.resolve_left (by decide)⟩, fun h => ((f10 (h.resolve_left (by decide)))).congr ⟨fun h => .inr h, fun h => h.resolve_left (by decide)⟩, fun h => f13 (h.resolve_left (by decide)), fun h1 h2 => n9_10 (h1.resolve_left (by decide)) (h2.resolve_left (by decide)), fun h => .inr (c9 (h.resolve_left (by decide))), fun h => .inr (c10 (h.resolve_left (by decide)))⟩
            case s6 =>
              rintro L T W hd hn hJ K hK
              have HJ := Lib.hid hJ
              clear hJ
              have hb := HJ.out.1
              have e5 := HJ.out.2.2.2.2.2.2.1 hd.1
              simp only [ovr, Act.put, List.setIfInBounds_toArray, List.set_cons_zero, List.set_cons_succ, e5] at hK ⊢
              have HK := Lib.hid hK
              clear hK
              refine wpOp_want rfl rfl ?_
              go_simp
              obtain ⟨hb, f0, f1, f2, f3, f4, f5, f6, f7, f8, f9, f10, f13, n9_10, c9, c10⟩ := HJ.out
              exact HK.out _ _ ⟨hb, fun h => f0 (h.resolve_left (by decide)), fun h => f1 (h.resolve_left (by decide)), fun h => f2 (h.resolve_left (by decide)), fun h => f3 (h.resolve_left (by decide)), fun h => f4 (h.resolve_left (by decide)), fun h => f5 (h.resolve_left (by decide)), fun _ => rfl, fun h => f7 (h.resolve_left (by decide)), fun h => f8 (h.resolve_left (by decide)), fun h => ((f9 (h.resolve_left (by decide)))).congr ⟨fun h => .inr h, fun h => h.resolve_left (by decide)⟩, fun h => ((f10 (h.resolve_left (by decide)))).congr ⟨fun h => .inr h, fun h => h.resolve_left (by decide)⟩, fun h => f13 (h.resolve_left (by decide)), fun h1 h2 => n9_10 (h1.resolve_left (by decide)) (h2.resolve_left (by decide)), fun h => .inr (c9 (h.resolve_left (by decide))), fun h => .inr (c10 (h.resolve_left (by decide)))⟩
            case s7 =>
              rintro L T W hd hn hJ K hK
              have HJ := Lib.hid hJ
              clear hJ
              have hb := HJ.out.1
              have e5 := HJ.out.2.2.2.2.2.2.1 hd.1
              simp only [ovr, Act.put, List.setIfInBounds_toArray, List.set_cons_zero, List.set_cons_succ, e5] at hK ⊢
              have HK := Lib.hid hK
              clear hK
              refine wpOp_want rfl rfl ?_
              go_simp
              obtain ⟨hb, f0, f1, f2, f3, f4, f5, f6, f7, f8, f9, f10, f13, n9_10, c9, c10⟩ := HJ.out
              exact HK.out _ _ ⟨hb, fun h => f0 (h.resolve_left (by decide)), fun h => f1 (h.resolve_left (by decide)), fun h => f2 (h.resolve_left (by decide)), fun h => f3 (h.resolve_left (by decide)), fun h => f4 (h.resolve_left (by decide)), fun h => f5 (h.resolve_left (by decide)), fun h => f6 (h.resolve_left (by decide)), fun _ => rfl, fun h => f8 (h.resolve_left (by decide)), fun h => ((f9 (h.resolve_left (by decide)))).congr ⟨fun h => .inr h, fun h => h.resolve_left (by decide)⟩, fun h => ((f10 (h.resolve_left (by decide)))).congr ⟨fun h => .inr h, fun h => h.resolve_left (by decide)⟩, fun h => f13 (h.resolve_left (by decide)), fun h1 h2 => n9_10 (h1.resolve_left (by decide)) (h2.resolve_left (by decide)), fun h => .inr (c9 (h.resolve_left (by decide))), fun h => .inr (c10 (h.resolve_left (by decide)))⟩
            case s8 =>
              rintro L T W hd hn hJ K hK
              have HJ := Lib.hid hJ
              clear hJ
              have hb := HJ.out.1
              have e5 := HJ.out.2.2.2.2.2.2.1 hd.1
              simp only [ovr, Act.put, List.setIfInBounds_toArray, List.set_cons_zero, List.set_cons_succ, e5] at hK ⊢
              have HK := Lib.hid hK
              clear hK
              refine wpOp_want rfl rfl ?_
              go_simp
              obtain ⟨hb, f0, f1, f2, f3, f4, f5, f6, f7, f8, f9, f10, f13, n9_10, c9, c10⟩ := HJ.out
              exact HK.out _ _ ⟨hb, fun h => f0 (h.resolve_left (by decide)), fun h => f1 (h.resolve_left (by decide)), fun h => f2 (h.resolve_left (by decide)), fun h => f3 (h.resolve_left (by decide)), fun h => f4 (h.resolve_left (by decide)), fun h => f5 (h.resolve_left (by decide)), fun h => f6 (h.resolve_left (by decide)), fun h => f7 (h.resolve_left (by decide)), fun _ => rfl, fun h => ((f9 (h.resolve_left (by decide)))).congr ⟨fun h => .inr h, fun h => h.resolve_left (by decide)⟩, fun h => ((f10 (h.resolve_left (by decide)))).congr ⟨fun h => .inr h, fun h => h.resolve_left (by decide)⟩, fun h => f13 (h.resolve_left (by decide)), fun h1 h2 => n9_10 (h1.resolve_left (by decide)) (h2.resolve_left (by decide)), fun h => .inr (c9 (h.resolve_left (by decide))), fun h => .inr (c10 (h.resolve_left (by decide)))⟩
            case s9 =>
              rintro L T W hd hn hJ K hK
              have HJ := Lib.hid hJ
              clear hJ
              have hb := HJ.out.1
              simp only [ovr, Act.put, List.setIfInBounds_toArray, List.set_cons_zero, List.set_cons_succ] at hK ⊢
              have HK := Lib.hid hK
              clear hK
              refine wpOp_want rfl rfl ?_
              go_simp
              have hb1 := below_alloc W (.cells #[.bool false, .slice none 0 0] 24)
              obtain ⟨hb, f0, f1, f2, f3, f4, f5, f6, f7, f8, f9, f10, f13, n9_10, c9, c10⟩ := HJ.out
              exact HK.out _ _ ⟨Below.step hb hb1 (Nat.le_refl _), fun h => f0 (h.resolve_left (by decide)), fun h => (stay_ownR x1 l1).mono (f1 (h.resolve_left (by decide))) hb1, fun h => f2 (h.resolve_left (by decide)), fun h => (stay_ownR x2 l2).mono (f3 (h.resolve_left (by decide))) hb1, fun h => (stay_isV _).mono (f4 (h.resolve_left (by decide))) hb1, fun h => f5 (h.resolve_left (by decide)), fun h => (stay_zeroI).mono (f6 (h.resolve_left (by decide))) hb1, fun h => (stay_zeroI).mono (f7 (h.resolve_left (by decide))) hb1, fun h => f8 (h.resolve_left (by decide)), fun _ => Slot.new W (fun h => hn (c9 (h.resolve_left (by decide)))) _ hb.size, fun h => ((f10 (h.resolve_left (by decide))).mono (stay_zeroI) hb1).congr ⟨fun h => .inr h, fun h => h.resolve_left (by decide)⟩, fun h => f13 (h.resolve_left (by decide)), fun _ h2 => (f10 (h2.resolve_left (by decide))).ne_new.symm, fun _ => .inl (by decide), fun h => .inr (c10 (h.resolve_left (by decide)))⟩
            case s10 =>
              rintro L T W hd hn hJ K hK
              have HJ := Lib.hid hJ
              clear hJ
              have hb := HJ.out.1
              simp only [ovr, Act.put, List.setIfInBounds_toArray, List.set_cons_zero, List.set_cons_succ] at hK ⊢
              have HK := Lib.hid hK
              clear hK
              refine wpOp_want rfl rfl ?_
              go_simp
              have hb1 := below_alloc W (.cells #[.bool false, .slice none 0 0] 24)
              obtain ⟨hb, f0, f1, f2, f3, f4, f5, f6, f7, f8, f9, f10, f13, n9_10, c9, c10⟩ := HJ.out
              exact HK.out _ _ ⟨Below.step hb hb1 (Nat.le_refl _), fun h => f0 (h.resolve_left (by decide)), fun h => (stay_ownR x1 l1).mono (f1 (h.resolve_left (by decide))) hb1, fun h => f2 (h.resolve_left (by decide)), fun h => (stay_ownR x2 l2).mono (f3 (h.resolve_left (by decide))) hb1, fun h => (stay_isV _).mono (f4 (h.resolve_left (by decide))) hb1, fun h => f5 (h.resolve_left (by decide)), fun h => (stay_zeroI).mono (f6 (h.resolve_left (by decide))) hb1, fun h => (stay_zeroI).mono (f7 (h.resolve_left (by decide))) hb1, fun h => f8 (h.resolve_left (by decide)), fun h => ((f9 (h.resolve_left (by decide))).mono (stay_zeroI) hb1).congr ⟨fun h => .inr h, fun h => h.resolve_left (by decide)⟩, fun _ => Slot.new W (fun h => hn (c10 (h.resolve_left (by decide)))) _ hb.size, fun h => f13 (h.resolve_left (by decide)), fun h1 _ => (f9 (h1.resolve_left (by decide))).ne_new, fun h => .inr (c9 (h.resolve_left (by decide))), fun _ => .inl (by decide)⟩
            case s11 =>
              rintro L T W hd hn hJ K hK
              have HJ := Lib.hid hJ
              clear hJ
              have hb := HJ.out.1
              have r6 := HJ.out.2.2.2.2.2.2.2.1 hd.2.1
              have r4 := HJ.out.2.2.2.2.2.1 hd.2.2.1
              have e0 := HJ.out.2.1 hd.2.2.2.1
              have r1 := HJ.out.2.2.1 hd.2.2.2.2.1
              have e2 := HJ.out.2.2.2.1 hd.2.2.2.2.2.1
              have r3 := HJ.out.2.2.2.2.1 hd.2.2.2.2.2.2.1
              have e5 := HJ.out.2.2.2.2.2.2.1 hd.2.2.2.2.2.2.2.2.1
              have da := hd.1
              have hr := r6
              obtain ⟨m, em, hm1, hm2, hB⟩ := (HJ.out.2.2.2.2.2.2.2.2.2.2.1 da).open hn
              obtain ⟨ng, ao, nn, cap, ev⟩ := ZeroI.parts hr
              rw [ev] at hr
              obtain ⟨b0, b1, b2, b3⟩ := id hB
              simp only [ovr, Act.put, List.setIfInBounds_toArray, List.set_cons_zero, List.set_cons_succ, e0, e2, e5, em, ev] at hK ⊢
              have HK := Lib.hid hK
              clear hK
              refine wpOp_want rfl rfl ?_
              go_simp
              obtain ⟨hb, f0, f1, f2, f3, f4, f5, f6, f7, f8, f9, f10, f13, n9_10, c9, c10⟩ := HJ.out
              exact HK.out undef _ ⟨Below.put2 hb hm1 _ _, fun h => f0 (h.resolve_left (by decide)), fun h => (stay_ownR x1 l1).put (f1 (h.resolve_left (by decide))) hB, fun h => f2 (h.resolve_left (by decide)), fun h => (stay_ownR x2 l2).put (f3 (h.resolve_left (by decide))) hB, fun h => (stay_isV _).put (f4 (h.resolve_left (by decide))) hB, fun h => f5 (h.resolve_left (by decide)), fun h => (stay_zeroI).put (f6 (h.resolve_left (by decide))) hB, fun h => (stay_zeroI).put (f7 (h.resolve_left (by decide))) hB, fun h => f8 (h.resolve_left (by decide)), fun h => by show Slot _ _ _ _ (T 12); rw [em]; exact Slot.stored (stay_zeroI) hm1 hB (.inl (by decide)) hr, fun h => ((f10 (h.resolve_left (by decide))).other (stay_zeroI) (by rw [← em]; exact (n9_10 da (h.resolve_left (by decide))).symm) hB).congr ⟨fun h => .inr h, fun h => h.resolve_left (by decide)⟩, fun h => f13 (h.resolve_left (by decide)), fun h1 h2 => n9_10 (h1.resolve_left (by decide)) (h2.resolve_left (by decide)), fun _ => .inr da, fun h => .inr (c10 (h.resolve_left (by decide)))⟩
            case s12 =>
              rintro L T W hd hn hJ K hK
              have HJ := Lib.hid hJ
              clear hJ
              have hb := HJ.out.1
              have r7 := HJ.out.2.2.2.2.2.2.2.2.1 hd.2.1
              have e0 := HJ.out.2.1 hd.2.2.2.1
              have r1 := HJ.out.2.2.1 hd.2.2.2.2.1
              have e2 := HJ.out.2.2.2.1 hd.2.2.2.2.2.1
              have r3 := HJ.out.2.2.2.2.1 hd.2.2.2.2.2.2.1
              have r4 := HJ.out.2.2.2.2.2.1 hd.2.2.2.2.2.2.2.1
              have e5 := HJ.out.2.2.2.2.2.2.1 hd.2.2.2.2.2.2.2.2.1
              have r6 := HJ.out.2.2.2.2.2.2.2.1 hd.2.2.2.2.2.2.2.2.2.1
              have da := hd.1
              have hr := r7
              obtain ⟨m, em, hm1, hm2, hB⟩ := (HJ.out.2.2.2.2.2.2.2.2.2.2.2.1 da).open hn
              obtain ⟨ng, ao, nn, cap, ev⟩ := ZeroI.parts hr
              rw [ev] at hr
              obtain ⟨b0, b1, b2, b3⟩ := id hB
              simp only [ovr, Act.put, List.setIfInBounds_toArray, List.set_cons_zero, List.set_cons_succ, e0, e2, e5, em, ev] at hK ⊢
              have HK := Lib.hid hK
              clear hK
              refine wpOp_want rfl rfl ?_
              go_simp
              obtain ⟨hb, f0, f1, f2, f3, f4, f5, f6, f7, f8, f9, f10, f13, n9_10, c9, c10⟩ := HJ.out
              exact HK.out undef _ ⟨Below.put2 hb hm1 _ _, fun h => f0 (h.resolve_left (by decide)), fun h => (stay_ownR x1 l1).put (f1 (h.resolve_left (by decide))) hB, fun h => f2 (h.resolve_left (by decide)), fun h => (stay_ownR x2 l2).put (f3 (h.resolve_left (by decide))) hB, fun h => (stay_isV _).put (f4 (h.resolve_left (by decide))) hB, fun h => f5 (h.resolve_left (by decide)), fun h => (stay_zeroI).put (f6 (h.resolve_left (by decide))) hB, fun h => (stay_zeroI).put (f7 (h.resolve_left (by decide))) hB, fun h => f8 (h.resolve_left (by decide)), fun h => ((f9 (h.resolve_left (by decide))).other (stay_zeroI) (by rw [← em]; exact n9_10 (h.resolve_left (by decide)) da) hB).congr ⟨fun h => .inr h, fun h => h.resolve_left (by decide)⟩, fun h => by show Slot _ _ _ _ (T 13); rw [em]; exact Slot.stored (stay_zeroI) hm1 hB (.inl (by decide)) hr, fun h => f13 (h.resolve_left (by decide)), fun h1 h2 => n9_10 (h1.resolve_left (by decide)) (h2.resolve_left (by decide)), fun h => .inr (c9 (h.resolve_left (by decide))), fun _ => .inr da⟩
            case s13 =>
              rintro L T W hd hn hJ K hK
              have HJ := Lib.hid hJ
              clear hJ
              have hb := HJ.out.1
              have e8 := HJ.out.2.2.2.2.2.2.2.2.2.1 hd.1
              have e0 := HJ.out.2.1 hd.2.2.1
              have r1 := HJ.out.2.2.1 hd.2.2.2.1
              have e2 := HJ.out.2.2.2.1 hd.2.2.2.2.1
              have r3 := HJ.out.2.2.2.2.1 hd.2.2.2.2.2.1
              have r4 := HJ.out.2.2.2.2.2.1 hd.2.2.2.2.2.2.1
              have e5 := HJ.out.2.2.2.2.2.2.1 hd.2.2.2.2.2.2.2.1
              have r6 := HJ.out.2.2.2.2.2.2.2.1 hd.2.2.2.2.2.2.2.2.1
              have r7 := HJ.out.2.2.2.2.2.2.2.2.1 hd.2.2.2.2.2.2.2.2.2.1
              simp only [ovr, Act.put, List.setIfInBounds_toArray, List.set_cons_zero, List.set_cons_succ, e8, e0, e2, e5] at hK ⊢
              have HK := Lib.hid hK
              clear hK
              refine wpOp_want rfl rfl ?_
              go_simp
              obtain ⟨hb, f0, f1, f2, f3, f4, f5, f6, f7, f8, f9, f10, f13, n9_10, c9, c10⟩ := HJ.out
              exact HK.out _ _ ⟨hb, fun h => f0 (h.resolve_left (by decide)), fun h => f1 (h.resolve_left (by decide)), fun h => f2 (h.resolve_left (by decide)), fun h => f3 (h.resolve_left (by decide)), fun h => f4 (h.resolve_left (by decide)), fun h => f5 (h.resolve_left (by decide)), fun h => f6 (h.resolve_left (by decide)), fun h => f7 (h.resolve_left (by decide)), fun h => f8 (h.resolve_left (by decide)), fun h => ((f9 (h.resolve_left (by decide)))).congr ⟨fun h => .inr h, fun h => h.resolve_left (by decide)⟩, fun h => ((f10 (h.resolve_left (by decide)))).congr ⟨fun h => .inr h, fun h => h.resolve_left (by decide)⟩, fun _ => rfl, fun h1 h2 => n9_10 (h1.resolve_left (by decide)) (h2.resolve_left (by decide)), fun h => .inr (c9 (h.resolve_left (by decide))), fun h => .inr (c10 (h.resolve_left (by decide)))⟩
            case he =>
              rintro T W ⟨hb, f0, f1, f2, f3, f4, f5, f6, f7, f8, f9, f10, f13, n9_10, c9, c10⟩
              simp only [ovr, List.setIfInBounds_toArray, List.set_cons_zero, List.set_cons_succ]
              have hr0 := (f9 (by decide)).zbox (by decide)
              have hr1 := (f10 (by decide)).zbox (by decide)
              go_wp2_with fail
              go_meet
              exact ⟨hr0, hr1, rfl, hb⟩
          case rest =>
            obtain ⟨⟨g12, rfl, hg12, X12⟩, ⟨g13, rfl, hg13, X13⟩, rfl, hb⟩ := hcut
            have u1 := u1.mono hb
            have u2 := u2.mono hb
            have X1 := X1.mono hb
            have X2 := X2.mono hb
            have X5 := X5.mono hb
            have X6 := X6.mono hb
            have X8 := X8.mono hb
            have X10 := X10.mono hb
            have hE := hE.mono hb
            have hbw := Below.step hbw hb (Nat.le_refl _)
            clear hb
            obtain ⟨wy, rfl⟩ : ∃ wy : World, wy = wc := ⟨_, rfl⟩
            go_upto_region 8 with fail
            go_cut [15, 16] (fun s15 s16 wc => ZBox wy wc s15 ∧ s16 = .int .i64 1 ∧ Below wy.heap.size wy wc)
            case first =>
              refine wp_region_flow (fun L T W => Below wy.heap.size wy W ∧ (L 0 → T 80 = .agg #[.bool x1, .slice a1 l1.length c1]) ∧ (L 1 → (OwnR x1 l1) W (T 81)) ∧ (L 2 → T 82 = .agg #[.bool x2, .slice a2 l2.length c2]) ∧ (L 3 → (OwnR x2 l2) W (T 83)) ∧ (L 4 → (IsV (.tuple #[.agg #[.bool false, .slice none 0 0], .int .i64 1])) W (T 84)) ∧ (L 5 → T 79 = .tuple #[.agg #[.bool false, .slice none 0 0], .int .i64 1]) ∧ (L 6 → (ZeroI) W (T 85)) ∧ (L 7 → T 86 = .int .i64 1) ∧ (L 8 → Slot W wy.heap.size (ZeroI) (L 9) (T 15)) ∧ (L 10 → T 16 = .int .i64 1) ∧ (L 9 → L 8)) [80, 81, 82, 83, 84, 79, 85, 86, 15, 16] (by kernel_rfl) (by kernel_rfl) (by kernel_rfl) ?h0 ⟨?s0, ?s1, ?s2, ?s3, ?s4, ?s5, ?s6, ?s7, ?s8, ?s9, ?s10, trivial⟩ ?he ?hm
              case h0 => exact fun T => ⟨(Below.refl _ _).drew, fun h => h.elim, fun h => h.elim, fun h => h.elim, fun h => h.elim, fun h => h.elim, fun h => h.elim, fun h => h.elim, fun h => h.elim, fun h => h.elim, fun h => h.elim, fun h => h.elim⟩
              case hm =>
                rintro L T W hL ⟨hb, f0, f1, f2, f3, f4, f5, f6, f7, f8, f10, c8⟩
                exact ⟨hb, fun _ => f0 (hL _ (by decide)), fun _ => f1 (hL _ (by decide)), fun _ => f2 (hL _ (by decide)), fun _ => f3 (hL _ (by decide)), fun _ => f4 (hL _ (by decide)), fun _ => f5 (hL _ (by decide)), fun _ => f6 (hL _ (by decide)), fun _ => f7 (hL _ (by decide)), fun _ => (f8 (hL _ (by decide))).congr ⟨fun _ => by decide, fun _ => hL _ (by decide)⟩, fun _ => f10 (hL _ (by decide)), fun _ => by decide⟩
              case s0 =>
                rintro L T W hd hn hJ K hK
                have HJ := Lib.hid hJ
                clear hJ
                have hb := HJ.out.1
                simp only [ovr, Act.put, List.setIfInBounds_toArray, List.set_cons_zero, List.set_cons_succ] at hK ⊢
                have HK := Lib.hid hK
                clear hK
                obtain ⟨c0, c1, c2, c3⟩ := (fun W => S2 (W := W) X1 X2) W hb
                refine wpOp_want rfl rfl ?_
                go_simp
                obtain ⟨hb, f0, f1, f2, f3, f4, f5, f6, f7, f8, f10, c8⟩ := HJ.out
                exact HK.out _ _ ⟨hb, fun _ => rfl, fun h => f1 (h.resolve_left (by decide)), fun h => f2 (h.resolve_left (by decide)), fun h => f3 (h.resolve_left (by decide)), fun h => f4 (h.resolve_left (by decide)), fun h => f5 (h.resolve_left (by decide)), fun h => f6 (h.resolve_left (by decide)), fun h => f7 (h.resolve_left (by decide)), fun h => ((f8 (h.resolve_left (by decide)))).congr ⟨fun h => .inr h, fun h => h.resolve_left (by decide)⟩, fun h => f10 (h.resolve_left (by decide)), fun h => .inr (c8 (h.resolve_left (by decide)))⟩
              case s1 =>
                rintro L T W hd hn hJ K hK
                have HJ := Lib.hid hJ
                clear hJ
                have hb := HJ.out.1
                have e0 := HJ.out.2.1 hd.1
                simp only [ovr, Act.put, List.setIfInBounds_toArray, List.set_cons_zero, List.set_cons_succ, e0] at hK ⊢
                have HK := Lib.hid hK
                clear hK
                refine wpOp_want rfl rfl ?_
                go_simp
                (with_reducible refine (own_any x1 l1 a1 c1 _ m1 (u1.mono hb)).mono ?_)
                rintro e w1 ⟨⟨a3, c3, rfl, hu3, _⟩, hb1⟩
                have hr : OwnR x1 l1 w1 (.agg #[.bool x1, .slice a3 l1.length c3]) := ⟨a3, c3, rfl, hu3.out⟩
                dsimp only
                obtain ⟨hb, f0, f1, f2, f3, f4, f5, f6, f7, f8, f10, c8⟩ := HJ.out
                exact HK.out _ _ ⟨Below.step hb hb1 (Nat.le_refl _), fun h => f0 (h.resolve_left (by decide)), fun _ => hr, fun h => f2 (h.resolve_left (by decide)), fun h => (stay_ownR x2 l2).mono (f3 (h.resolve_left (by decide))) hb1, fun h => (stay_isV _).mono (f4 (h.resolve_left (by decide))) hb1, fun h => f5 (h.resolve_left (by decide)), fun h => (stay_zeroI).mono (f6 (h.resolve_left (by decide))) hb1, fun h => f7 (h.resolve_left (by decide)), fun h => ((f8 (h.resolve_left (by decide))).mono (stay_zeroI) hb1).congr ⟨fun h => .inr h, fun h => h.resolve_left (by decide)⟩, fun h => f10 (h.resolve_left (by decide)), fun h => .inr (c8 (h.resolve_left (by decide)))⟩
              case s2 =>
                rintro L T W hd hn hJ K hK
                have HJ := Lib.hid hJ
                clear hJ
                have hb := HJ.out.1
                simp only [ovr, Act.put, List.setIfInBounds_toArray, List.set_cons_zero, List.set_cons_succ] at hK ⊢
                have HK := Lib.hid hK
                clear hK
                obtain ⟨c0, c1, c2, c3⟩ := (fun W => S2 (W := W) X1 X2) W hb
                refine wpOp_want rfl rfl ?_
                go_simp
                obtain ⟨hb, f0, f1, f2, f3, f4, f5, f6, f7, f8, f10, c8⟩ := HJ.out
                exact HK.out _ _ ⟨hb, fun h => f0 (h.resolve_left (by decide)), fun h => f1 (h.resolve_left (by decide)), fun _ => rfl, fun h => f3 (h.resolve_left (by decide)), fun h => f4 (h.resolve_left (by decide)), fun h => f5 (h.resolve_left (by decide)), fun h => f6 (h.resolve_left (by decide)), fun h => f7 (h.resolve_left (by decide)), fun h => ((f8 (h.resolve_left (by decide)))).congr ⟨fun h => .inr h, fun h => h.resolve_left (by decide)⟩, fun h => f10 (h.resolve_left (by decide)), fun h => .inr (c8 (h.resolve_left (by decide)))⟩
              case s3 =>
                rintro L T W hd hn hJ K hK
                have HJ := Lib.hid hJ
                clear hJ
                have hb := HJ.out.1
                have e2 := HJ.out.2.2.2.1 hd.1
                have r1 := HJ.out.2.2.1 hd.2.1
                simp only [ovr, Act.put, List.setIfInBounds_toArray, List.set_cons_zero, List.set_cons_succ, e2] at hK ⊢
                have HK := Lib.hid hK
                clear hK
                refine wpOp_want rfl rfl ?_
                go_simp
                (with_reducible refine (own_any x2 l2 a2 c2 _ m2 (u2.mono hb)).mono ?_)
                rintro e w1 ⟨⟨a3, c3, rfl, hu3, _⟩, hb1⟩
                have hr : OwnR x2 l2 w1 (.agg #[.bool x2, .slice a3 l2.length c3]) := ⟨a3, c3, rfl, hu3.out⟩
                dsimp only
                obtain ⟨hb, f0, f1, f2, f3, f4, f5, f6, f7, f8, f10, c8⟩ := HJ.out
                exact HK.out _ _ ⟨Below.step hb hb1 (Nat.le_refl _), fun h => f0 (h.resolve_left (by decide)), fun h => (stay_ownR x1 l1).mono (f1 (h.resolve_left (by decide))) hb1, fun h => f2 (h.resolve_left (by decide)), fun _ => hr, fun h => (stay_isV _).mono (f4 (h.resolve_left (by decide))) hb1, fun h => f5 (h.resolve_left (by decide)), fun h => (stay_zeroI).mono (f6 (h.resolve_left (by decide))) hb1, fun h => f7 (h.resolve_left (by decide)), fun h => ((f8 (h.resolve_left (by decide))).mono (stay_zeroI) hb1).congr ⟨fun h => .inr h, fun h => h.resolve_left (by decide)⟩, fun h => f10 (h.resolve_left (by decide)), fun h => .inr (c8 (h.resolve_left (by decide)))⟩
              case s4 =>
                rintro L T W hd hn hJ K hK
                have HJ := Lib.hid hJ
                clear hJ
                have hb := HJ.out.1
                have r1 := HJ.out.2.2.1 hd.1
                have r3 := HJ.out.2.2.2.2.1 hd.2.1
                obtain ⟨a3, c3, ev1, hu1⟩ := r1
                obtain ⟨a4, c4, ev2, hu2⟩ := r3
                simp only [ovr, Act.put, List.setIfInBounds_toArray, List.set_cons_zero, List.set_cons_succ, ev1, ev2] at hK ⊢
                have HK := Lib.hid hK
                clear hK
                refine wpOp_want rfl rfl ?_
                go_simp
                (with_reducible refine (Gcd_inv x1 x2 l1 l2 a3 a4 c3 c4 _ hu1 hu2 m1 m2 hbad (hE.mono hb)).mono ?_)
                rintro e w1 ⟨rfl, hb1⟩
                have hr : IsV (.tuple #[.agg #[.bool false, .slice none 0 0], .int .i64 1]) w1 (.tuple #[.agg #[.bool false, .slice none 0 0], .int .i64 1]) := rfl
                dsimp only
                obtain ⟨hb, f0, f1, f2, f3, f4, f5, f6, f7, f8, f10, c8⟩ := HJ.out
                exact HK.out _ _ ⟨Below.step hb hb1 (Nat.le_refl _), fun h => f0 (h.resolve_left (by decide)), fun h => (stay_ownR x1 l1).mono (f1 (h.resolve_left (by decide))) hb1, fun h => f2 (h.resolve_left (by decide)), fun h => (stay_ownR x2 l2).mono (f3 (h.resolve_left (by decide))) hb1, fun _ => hr, fun h => f5 (h.resolve_left (by decide)), fun h => (stay_zeroI).mono (f6 (h.resolve_left (by decide))) hb1, fun h => f7 (h.resolve_left (by decide)), fun h => ((f8 (h.resolve_left (by decide))).mono (stay_zeroI) hb1).congr ⟨fun h => .inr h, fun h => h.resolve_left (by decide)⟩, fun h => f10 (h.resolve_left (by decide)), fun h => .inr (c8 (h.resolve_left (by decide)))⟩
              case s5 =>
                rintro L T W hd hn hJ K hK
                have HJ := Lib.hid hJ
                clear hJ
                have hb := HJ.out.1
                have r4 := HJ.out.2.2.2.2.2.1 hd.1
                have ev : T 84 = .tuple #[.agg #[.bool false, .slice none 0 0], .int .i64 1] := r4
                simp only [ovr, Act.put, List.setIfInBounds_toArray, List.set_cons_zero, List.set_cons_succ, ev] at hK ⊢
                have HK := Lib.hid hK
                clear hK
                refine wpOp_want rfl rfl ?_
                go_simp
                obtain ⟨hb, f0, f1, f2, f3, f4, f5, f6, f7, f8, f10, c8⟩ := HJ.out
                exact HK.out _ _ ⟨hb, fun h => f0 (h.resolve_left (by decide)), fun h => f1 (h.resolve_left (by decide)), fun h => f2 (h.resolve_left (by decide)), fun h => f3 (h.resolve_left (by decide)), fun h => f4 (h.resolve_left (by decide)), fun _ => rfl, fun h => f6 (h.resolve_left (by decide)), fun h => f7 (h.resolve_left (by decide)), fun h => ((f8 (h.resolve_left (by decide)))).congr ⟨fun h => .inr h, fun h => h.resolve_left (by decide)⟩, fun h => f10 (h.resolve_left (by decide)), fun h => .inr (c8 (h.resolve_left (by decide)))⟩
              case s6 =>
                rintro L T W hd hn hJ K hK
                have HJ := Lib.hid hJ
                clear hJ
                have hb := HJ.out.1
                have e5 := HJ.out.2.2.2.2.2.2.1 hd.1
                simp only [ovr, Act.put, List.setIfInBounds_toArray, List.set_cons_zero, List.set_cons_succ, e5] at hK ⊢
                have HK := Lib.hid hK
                clear hK
                refine wpOp_want rfl rfl ?_
                go_simp
                obtain ⟨hb, f0, f1, f2, f3, f4, f5, f6, f7, f8, f10, c8⟩ := HJ.out
                exact HK.out _ _ ⟨hb, fun h => f0 (h.resolve_left (by decide)), fun h => f1 (h.resolve_left (by decide)), fun h => f2 (h.resolve_left (by decide)), fun h => f3 (h.resolve_left (by decide)), fun h => f4 (h.resolve_left (by decide)), fun h => f5 (h.resolve_left (by decide)), fun _ => rfl, fun h => f7 (h.resolve_left (by decide)), fun h => ((f8 (h.resolve_left (by decide)))).congr ⟨fun h => .inr h, fun h => h.resolve_left (by decide)⟩, fun h => f10 (h.resolve_left (by decide)), fun h => .inr (c8 (h.resolve_left (by decide)))⟩
              case s7 =>
                rintro L T W hd hn hJ K hK
                have HJ := Lib.hid hJ
                clear hJ
                have hb := HJ.out.1
                have e5 := HJ.out.2.2.2.2.2.2.1 hd.1
                simp only [ovr, Act.put, List.setIfInBounds_toArray, List.set_cons_zero, List.set_cons_succ, e5] at hK ⊢
                have HK := Lib.hid hK
                clear hK
                refine wpOp_want rfl rfl ?_
                go_simp
                obtain ⟨hb, f0, f1, f2, f3, f4, f5, f6, f7, f8, f10, c8⟩ := HJ.out
                exact HK.out _ _ ⟨hb, fun h => f0 (h.resolve_left (by decide)), fun h => f1 (h.resolve_left (by decide)), fun h => f2 (h.resolve_left (by decide)), fun h => f3 (h.resolve_left (by decide)), fun h => f4 (h.resolve_left (by decide)), fun h => f5 (h.resolve_left (by decide)), fun h => f6 (h.resolve_left (by decide)), fun _ => rfl, fun h => ((f8 (h.resolve_left (by decide)))).congr ⟨fun h => .inr h, fun h => h.resolve_left (by decide)⟩, fun h => f10 (h.resolve_left (by decide)), fun h => .inr (c8 (h.resolve_left (by decide)))⟩
              case s8 =>
                rintro L T W hd hn hJ K hK
                have HJ := Lib.hid hJ
                clear hJ
                have hb := HJ.out.1
                simp only [ovr, Act.put, List.setIfInBounds_toArray, List.set_cons_zero, List.set_cons_succ] at hK ⊢
                have HK := Lib.hid hK
                clear hK
                refine wpOp_want rfl rfl ?_
                go_simp
                have hb1 := below_alloc W (.cells #[.bool false, .slice none 0 0] 24)
                obtain ⟨hb, f0, f1, f2, f3, f4, f5, f6, f7, f8, f10, c8⟩ := HJ.out
                exact HK.out _ _ ⟨Below.step hb hb1 (Nat.le_refl _), fun h => f0 (h.resolve_left (by decide)), fun h => (stay_ownR x1 l1).mono (f1 (h.resolve_left (by decide))) hb1, fun h => f2 (h.resolve_left (by decide)), fun h => (stay_ownR x2 l2).mono (f3 (h.resolve_left (by decide))) hb1, fun h => (stay_isV _).mono (f4 (h.resolve_left (by decide))) hb1, fun h => f5 (h.resolve_left (by decide)), fun h => (stay_zeroI).mono (f6 (h.resolve_left (by decide))) hb1, fun h => f7 (h.resolve_left (by decide)), fun _ => Slot.new W (fun h => hn (c8 (h.resolve_left (by decide)))) _ hb.size, fun h => f10 (h.resolve_left (by decide)), fun _ => .inl (by decide)⟩
              case s9 =>
                rintro L T W hd hn hJ K hK
                have HJ := Lib.hid hJ
                clear hJ
                have hb := HJ.out.1
                have r6 := HJ.out.2.2.2.2.2.2.2.1 hd.2.1
                have r4 := HJ.out.2.2.2.2.2.1 hd.2.2.1
                have e0 := HJ.out.2.1 hd.2.2.2.1
                have r1 := HJ.out.2.2.1 hd.2.2.2.2.1
                have e2 := HJ.out.2.2.2.1 hd.2.2.2.2.2.1
                have r3 := HJ.out.2.2.2.2.1 hd.2.2.2.2.2.2.1
                have e5 := HJ.out.2.2.2.2.2.2.1 hd.2.2.2.2.2.2.2.2.1
                have da := hd.1
                have hr := r6
                obtain ⟨m, em, hm1, hm2, hB⟩ := (HJ.out.2.2.2.2.2.2.2.2.2.1 da).open hn
                obtain ⟨ng, ao, nn, cap, ev⟩ := ZeroI.parts hr
                rw [ev] at hr
                obtain ⟨b0, b1, b2, b3⟩ := id hB
                simp only [ovr, Act.put, List.setIfInBounds_toArray, List.set_cons_zero, List.set_cons_succ, e0, e2, e5, em, ev] at hK ⊢
                have HK := Lib.hid hK
                clear hK
                refine wpOp_want rfl rfl ?_
                go_simp
                obtain ⟨hb, f0, f1, f2, f3, f4, f5, f6, f7, f8, f10, c8⟩ := HJ.out
                exact HK.out undef _ ⟨Below.put2 hb hm1 _ _, fun h => f0 (h.resolve_left (by decide)), fun h => (stay_ownR x1 l1).put (f1 (h.resolve_left (by decide))) hB, fun h => f2 (h.resolve_left (by decide)), fun h => (stay_ownR x2 l2).put (f3 (h.resolve_left (by decide))) hB, fun h => (stay_isV _).put (f4 (h.resolve_left (by decide))) hB, fun h => f5 (h.resolve_left (by decide)), fun h => (stay_zeroI).put (f6 (h.resolve_left (by decide))) hB, fun h => f7 (h.resolve_left (by decide)), fun h => by show Slot _ _ _ _ (T 15); rw [em]; exact Slot.stored (stay_zeroI) hm1 hB (.inl (by decide)) hr, fun h => f10 (h.resolve_left (by decide)), fun _ => .inr da⟩
              case s10 =>
                rintro L T W hd hn hJ K hK
                have HJ := Lib.hid hJ
                clear hJ
                have hb := HJ.out.1
                have e7 := HJ.out.2.2.2.2.2.2.2.2.1 hd.1
                have e0 := HJ.out.2.1 hd.2.2.1
                have r1 := HJ.out.2.2.1 hd.2.2.2.1
                have e2 := HJ.out.2.2.2.1 hd.2.2.2.2.1
                have r3 := HJ.out.2.2.2.2.1 hd.2.2.2.2.2.1
                have r4 := HJ.out.2.2.2.2.2.1 hd.2.2.2.2.2.2.1
                have e5 := HJ.out.2.2.2.2.2.2.1 hd.2.2.2.2.2.2.2.1
                have r6 := HJ.out.2.2.2.2.2.2.2.1 hd.2.2.2.2.2.2.2.2.1
                simp only [ovr, Act.put, List.setIfInBounds_toArray, List.set_cons_zero, List.set_cons_succ, e7, e0, e2, e5] at hK ⊢
                have HK := Lib.hid hK
                clear hK
                refine wpOp_want rfl rfl ?_
                go_simp
                obtain ⟨hb, f0, f1, f2, f3, f4, f5, f6, f7, f8, f10, c8⟩ := HJ.out
                exact HK.out _ _ ⟨hb, fun h => f0 (h.resolve_left (by decide)), fun h => f1 (h.resolve_left (by decide)), fun h => f2 (h.resolve_left (by decide)), fun h => f3 (h.resolve_left (by decide)), fun h => f4 (h.resolve_left (by decide)), fun h => f5 (h.resolve_left (by decide)), fun h => f6 (h.resolve_left (by decide)), fun h => f7 (h.resolve_left (by decide)), fun h => ((f8 (h.resolve_left (by decide)))).congr ⟨fun h => .inr h, fun h => h.resolve_left (by decide)⟩, fun _ => rfl, fun h => .inr (c8 (h.resolve_left (by decide)))⟩
              case he =>
                rintro T W ⟨hb, f0, f1, f2, f3, f4, f5, f6, f7, f8, f10, c8⟩
                simp only [ovr, List.setIfInBounds_toArray, List.set_cons_zero, List.set_cons_succ]
                have hr0 := (f8 (by decide)).zbox (by decide)
                go_wp2_with fail
                go_meet
                exact ⟨hr0, rfl, hb⟩
            case rest =>
              obtain ⟨⟨g15, rfl, hg15, X15⟩, rfl, hb⟩ := hcut
              have u1 := u1.mono hb
              have u2 := u2.mono hb
              have X1 := X1.mono hb
              have X2 := X2.mono hb
              have X5 := X5.mono hb
              have X6 := X6.mono hb
              have X8 := X8.mono hb
              have X10 := X10.mono hb
              have X12 := X12.mono hb
              have X13 := X13.mono hb
              have hE := hE.mono hb
              have hbw := Below.step hbw hb (Nat.le_refl _)
              clear hb
              obtain ⟨cX6_0, cX6_1, _, _⟩ := id X6
              obtain ⟨cX8_0, cX8_1, _, _⟩ := id X8
              obtain ⟨cX10_0, cX10_1, _, _⟩ := id X10
              obtain ⟨cX12_0, cX12_1, _, _⟩ := id X12
              obtain ⟨cX13_0, cX13_1, _, _⟩ := id X13
              obtain ⟨cX15_0, cX15_1, _, _⟩ := id X15
              go_wp2_with fail
              clear cX6_0 cX6_1 cX8_0 cX8_1 cX10_0 cX10_1 cX12_0 cX12_1 cX13_0 cX13_1 cX15_0 cX15_1
              have hZ := zero12 wc 24
              have hb := below_alloc wc (.cells #[.bool false, .slice none 0 0, .bool false, .slice none 0 0, .bool false, .slice none 0 0, .bool false, .slice none 0 0, .bool false, .slice none 0 0, .bool false, .slice none 0 0] 24)
              have lg : wc.heap.size < (wc.alloc (.cells #[.bool false, .slice none 0 0, .bool false, .slice none 0 0, .bool false, .slice none 0 0, .bool false, .slice none 0 0, .bool false, .slice none 0 0, .bool false, .slice none 0 0] 24)).heap.size := by simp
              obtain ⟨g, hg⟩ : ∃ g, g = wc.heap.size := ⟨_, rfl⟩
              rw [← hg] at hZ lg ⊢
              generalize wc.alloc (.cells #[.bool false, .slice none 0 0, .bool false, .slice none 0 0, .bool false, .slice none 0 0, .bool false, .slice none 0 0, .bool false, .slice none 0 0, .bool false, .slice none 0 0] 24) = wz at *
              have u1 := u1.mono hb
              have u2 := u2.mono hb
              have X1 := X1.mono hb
              have X2 := X2.mono hb
              have X5 := X5.mono hb
              have X6 := X6.mono hb
              have X8 := X8.mono hb
              have X10 := X10.mono hb
              have X12 := X12.mono hb
              have X13 := X13.mono hb
              have X15 := X15.mono hb
              have hE := hE.mono hb
              have hbw := Below.step hbw hb (Nat.le_refl _)
              clear hb
              clear hg
              go_loopw [95] (fun s wr => ∃ k : Nat, k ≤ 6 ∧ s = .int .i64 k ∧ Below wz.heap.size wz wr) (fun s _ => 6 - (intOf s).toNat)
              case atStart => exact ⟨0, by omega, rfl, Below.refl _ _⟩
              case round =>
                obtain ⟨k, hk, rfl, hbr⟩ := hrel
                by_cases hlt : k < 6
                · obtain ⟨z0, z1⟩ := hZ k hlt
                  have q0 := (hbr.cell (p := ⟨g, k * 2, none⟩) lg).trans z0
                  have q1 := (hbr.cell (p := ⟨g, k * 2 + 1, none⟩) lg).trans z1
                  clear z0 z1 hZ
                  have X5r := X5.mono hbr
                  clear X6 X8 X10 X12 X13 X15
                  have l5 := X5r.lt
                  obtain ⟨y0, y1, _, _⟩ := id X5r
                  go_wp2_with fail
                  (with_reducible refine (eqV_same 0 _ _ _ (IntV.zero _) (IntV.zero _)).mono ?_)
                  rintro e w2 ⟨rfl, hb2⟩
                  have hb3 := Below.step hbr (Below.step (below_alloc wr _) hb2 (Nat.le_refl _)) (Nat.le_refl _)
                  go_wp2
                  go_roundw
                  case rel => exact ⟨k + 1, by omega, by go_num, hb3⟩
                  case measure => simp [intOf]; omega
                · obtain rfl : k = 6 := by omega
                  clear hZ
                  have hb := hbr
                  clear hbr
                  have u1 := u1.mono hb
                  have u2 := u2.mono hb
                  have X1 := X1.mono hb
                  have X2 := X2.mono hb
                  have X5 := X5.mono hb
                  have X6 := X6.mono hb
                  have X8 := X8.mono hb
                  have X10 := X10.mono hb
                  have X12 := X12.mono hb
                  have X13 := X13.mono hb
                  have X15 := X15.mono hb
                  have hE := hE.mono hb
                  have hbw := Below.step hbw hb (Nat.le_refl _)
                  clear hb
                  by_cases vv1 : validP x1 l1
                  · have vv2 : ¬ validP x2 l2 := fun h => hbad.out ⟨vv1, h⟩
                    have V1 := Lib.hid vv1
                    have V := Lib.hid vv2
                    clear vv1 vv2
                    obtain ⟨cX1_0, cX1_1, _, _⟩ := id X1
                    go_wp2_with fail
                    (with_reducible refine (rvalid_yes x1 l1 a1 c1 wr m1 V1 u1).mono ?_)
                    rintro e v3 ⟨rfl, hb⟩
                    have u1 := u1.mono hb
                    have u2 := u2.mono hb
                    have X1 := X1.mono hb
                    have X2 := X2.mono hb
                    have X5 := X5.mono hb
                    have X6 := X6.mono hb
                    have X8 := X8.mono hb
                    have X10 := X10.mono hb
                    have X12 := X12.mono hb
                    have X13 := X13.mono hb
                    have X15 := X15.mono hb
                    have hE := hE.mono hb
                    have hbw := Below.step hbw hb (Nat.le_refl _)
                    clear hb
                    clear cX1_0 cX1_1
                    clear X6 X8 X10 X12 X13 X15
                    clear X5
                    have lX1 := X1.lt
                    have lX2 := X2.lt
                    have hX12 : w.heap.size + 1 ≠ w.heap.size := by omega
                    obtain ⟨cX1_0, cX1_1, _, _⟩ := id X1
                    obtain ⟨cX2_0, cX2_1, _, _⟩ := id X2
                    go_upto_region 17 with fail
                    clear cX1_0 cX1_1 cX2_0 cX2_1
                    have u1 := u1.put2B X1 (.bool x2) (.slice a2 l2.length c2)
                    have u2 := u2.put2B X1 (.bool x2) (.slice a2 l2.length c2)
                    have X2 := X2.other2 (u := .bool x2) (v := .slice a2 l2.length c2) (show w.heap.size + 1 ≠ w.heap.size by omega)
                    have X1 := X1.set2I (.bool x2) (.slice a2 l2.length c2)
                    have hbw := Below.put2 hbw (n := w.heap.size) (by omega) (.bool x2) (.slice a2 l2.length c2)
                    have hE := hE0.mono hbw
                    generalize ((v3.setCell ⟨w.heap.size, 0, none⟩ (.bool x2)).setCell ⟨w.heap.size, 1, none⟩ (.slice a2 l2.length c2)) = v4 at *
                    obtain ⟨cX1_0, cX1_1, _, _⟩ := id X1
                    go_wp2_with fail
                    (with_reducible refine (own_any x2 l2 a2 c2 v4 m2 u2).mono ?_)
                    rintro e v5 ⟨⟨a3, c3, rfl, U3, _⟩, hb⟩
                    have u1 := u1.mono hb
                    have u2 := u2.mono hb
                    have X1 := X1.mono hb
                    have X2 := X2.mono hb
                    have hE := hE.mono hb
                    have hbw := Below.step hbw hb (Nat.le_refl _)
                    clear hb
                    clear cX1_0 cX1_1
                    go_wp2_with fail
                    (with_reducible refine (Small_inv x2 l2 a3 c3 v5 U3.out m2 V hE).mono ?_)
                    rintro e v6 ⟨rfl, hb⟩
                    have u1 := u1.mono hb
                    have u2 := u2.mono hb
                    have X1 := X1.mono hb
                    have X2 := X2.mono hb
                    have U3 := Lib.hid (U3.out.mono hb)
                    have hE := hE.mono hb
                    have hbw := Below.step hbw hb (Nat.le_refl _)
                    clear hb
                    clear U3
                    obtain ⟨cX1_0, cX1_1, _, _⟩ := id X1
                    go_wp2_with fail
                    (with_reducible refine (own_any x2 l2 a2 c2 v6 m2 u2).mono ?_)
                    rintro e v7 ⟨⟨a3, c3, rfl, U3, _⟩, hb⟩
                    have u1 := u1.mono hb
                    have u2 := u2.mono hb
                    have X1 := X1.mono hb
                    have X2 := X2.mono hb
                    have hE := hE.mono hb
                    have hbw := Below.step hbw hb (Nat.le_refl _)
                    clear hb
                    clear cX1_0 cX1_1
                    go_wp2_with fail
                    (with_reducible refine (Format_inv x2 l2 a3 c3 v7 U3.out m2 V hE).mono ?_)
                    rintro e v8 ⟨rfl, hb⟩
                    have u1 := u1.mono hb
                    have u2 := u2.mono hb
                    have X1 := X1.mono hb
                    have X2 := X2.mono hb
                    have U3 := Lib.hid (U3.out.mono hb)
                    have hE := hE.mono hb
                    have hbw := Below.step hbw hb (Nat.le_refl _)
                    clear hb
                    go_wp2
                    go_ret
                    exact ⟨rfl, hbw⟩
                  · have V := Lib.hid vv1
                    clear vv1
                    obtain ⟨cX1_0, cX1_1, _, _⟩ := id X1
                    go_wp2_with fail
                    (with_reducible refine (rvalid_no x1 l1 a1 c1 wr m1 V u1).mono ?_)
                    rintro e v3 ⟨rfl, hb⟩
                    have u1 := u1.mono hb
                    have u2 := u2.mono hb
                    have X1 := X1.mono hb
                    have X2 := X2.mono hb
                    have X5 := X5.mono hb
                    have X6 := X6.mono hb
                    have X8 := X8.mono hb
                    have X10 := X10.mono hb
                    have X12 := X12.mono hb
                    have X13 := X13.mono hb
                    have X15 := X15.mono hb
                    have hE := hE.mono hb
                    have hbw := Below.step hbw hb (Nat.le_refl _)
                    clear hb
                    clear cX1_0 cX1_1
                    clear X6 X8 X10 X12 X13 X15
                    clear X5
                    obtain ⟨cX1_0, cX1_1, _, _⟩ := id X1
                    go_wp2_with fail
                    (with_reducible refine (own_any x1 l1 a1 c1 v3 m1 u1).mono ?_)
                    rintro e v4 ⟨⟨a3, c3, rfl, U3, _⟩, hb⟩
                    have u1 := u1.mono hb
                    have u2 := u2.mono hb
                    have X1 := X1.mono hb
                    have X2 := X2.mono hb
                    have hE := hE.mono hb
                    have hbw := Below.step hbw hb (Nat.le_refl _)
                    clear hb
                    clear cX1_0 cX1_1
                    go_wp2_with fail
                    (with_reducible refine (Small_inv x1 l1 a3 c3 v4 U3.out m1 V hE).mono ?_)
                    rintro e v5 ⟨rfl, hb⟩
                    have u1 := u1.mono hb
                    have u2 := u2.mono hb
                    have X1 := X1.mono hb
                    have X2 := X2.mono hb
                    have U3 := Lib.hid (U3.out.mono hb)
                    have hE := hE.mono hb
                    have hbw := Below.step hbw hb (Nat.le_refl _)
                    clear hb
                    clear U3
                    obtain ⟨cX1_0, cX1_1, _, _⟩ := id X1
                    go_wp2_with fail
                    (with_reducible refine (own_any x1 l1 a1 c1 v5 m1 u1).mono ?_)
                    rintro e v6 ⟨⟨a3, c3, rfl, U3, _⟩, hb⟩
                    have u1 := u1.mono hb
                    have u2 := u2.mono hb
                    have X1 := X1.mono hb
                    have X2 := X2.mono hb
                    have hE := hE.mono hb
                    have hbw := Below.step hbw hb (Nat.le_refl _)
                    clear hb
                    clear cX1_0 cX1_1
                    go_wp2_with fail
                    (with_reducible refine (Format_inv x1 l1 a3 c3 v6 U3.out m1 V hE).mono ?_)
                    rintro e v7 ⟨rfl, hb⟩
                    have u1 := u1.mono hb
                    have u2 := u2.mono hb
                    have X1 := X1.mono hb
                    have X2 := X2.mono hb
                    have U3 := Lib.hid (U3.out.mono hb)
                    have hE := hE.mono hb
                    have hbw := Below.step hbw hb (Nat.le_refl _)
                    clear hb
                    go_wp2
                    go_ret
                    exact ⟨rfl, hbw⟩

theorem errs_law (x y : Value) (w : World) (hx : DraftV w x) (hy : DraftV w y) (hE : Env w) :
    Calls Tryz.prog 12 #[x, y] w fun e w' => e = .returned (.bool true) ∧ Below w.heap.size w w' := by
  obtain ⟨x1, a1, l1, c1, rfl, _, u1, _⟩ := hx
  obtain ⟨x2, a2, l2, c2, rfl, _, u2, _⟩ := hy
  by_cases h1 : (l1.length : Int) ≤ 60
  · by_cases h2 : (l2.length : Int) ≤ 60
    · by_cases hv : validP x1 l1 ∧ validP x2 l2
      · exact errs_valid x1 x2 l1 l2 a1 a2 c1 c2 w u1 u2 hE h1 h2 (Lib.hid hv.1) (Lib.hid hv.2)
      · exact errs_bad x1 x2 l1 l2 a1 a2 c1 c2 w u1 u2 hE h1 h2 (Lib.hid hv)
    · exact errs_few2 x1 x2 l1 l2 a1 a2 c1 c2 w u1 u2 hE h1 h2
  · exact errs_few1 x1 x2 l1 l2 a1 a2 c1 c2 w u1 u2 hE h1

end Go.Proofs.YtgenhkakcbedaaaGreatDoor
