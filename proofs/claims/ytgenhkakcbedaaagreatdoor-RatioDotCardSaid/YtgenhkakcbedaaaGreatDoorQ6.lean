import Derived.Test.YtgenhkakcbedaaaGreatDoorQ4
namespace Go.Proofs.YtgenhkakcbedaaaGreatDoor
open Go.RowKit

theorem rValidI (v : Value) (z : Int) (w : World) (h : IntV w v z) :
    Calls Tryz.prog 45 #[v] w fun e w' => e = .returned (.bool true) ∧ Below w.heap.size w w' := by
  obtain ⟨n1, ao1, L1, c1, rfl, Hn1, HL1, HB1, hc1, hl1, hU1⟩ := h
  exact rvalid_yes n1 L1 ao1 c1 w (by omega) (Lib.hid (validP_of z n1 L1 Hn1.out HL1.out HB1.out)) hU1

theorem rSign_eq (a : Value) (x s : Int) (w : World) (hs : Hid (sgnI x = s)) (ha : IntV w a x) :
    Calls Tryz.prog 31 #[a] w fun e w' => e = .returned (.int .i64 s) ∧ Below w.heap.size w w' := by
  obtain ⟨n1, ao1, L1, c1, rfl, Hn1, HL1, HB1, hc1, hl1, hU1⟩ := ha
  rw [← hs.out]; exact rSign_raw n1 L1 ao1 c1 x w Hn1 HL1

theorem eqI_eq (a b : Value) (x y : Int) (r : Bool) (w : World) (hr : Hid (decide (x = y) = r)) (ha : IntV w a x) (hb : IntV w b y) :
    Calls Tryz.prog 52 #[a, b] w fun e w' => e = .returned (.bool r) ∧ Below w.heap.size w w' := by
  rw [← hr.out]; exact eqV_any a b x y w ha hb

/-- some integer, in parts, with some error -/
def GotU (w' : World) (e : Ending) : Prop :=
  ∃ (ng : Bool) (ao : Option Addr) (n cap : Nat) (k z : Int), e = .returned (.tuple #[.agg #[.bool ng, .slice ao n cap], .int .i64 k]) ∧ Hid (IntV w' (.agg #[.bool ng, .slice ao n cap]) z)

theorem rMul_u (a b : Value) (x y : Int) (w : World) (ha : IntV w a x) (hb : IntV w b y) :
    Calls Tryz.prog 74 #[a, b] w fun e w' => GotU w' e ∧ Below w.heap.size w w' := by
  refine (rMul_any a b x y w ha hb).mono fun e w' ⟨h, hb⟩ => ⟨?_, hb⟩
  obtain ⟨ng, ao, n, cap, k, he, HK⟩ := h
  rcases HK.out with ⟨_, _, hV⟩ | ⟨_, _, h3⟩
  · exact ⟨ng, ao, n, cap, k, _, he, Lib.hid hV⟩
  · exact ⟨ng, ao, n, cap, k, 0, he, Lib.hid (by rw [h3]; exact IntV.zero _)⟩

set_option maxRecDepth 100000 in
set_option maxHeartbeats 1600000 in
theorem rValid_len {ng1 : Bool} {ao1 : Option Addr} {n1 cap1 : Nat} {ng2 : Bool} {ao2 : Option Addr} {n2 cap2 : Nat} (p d : Int) (w : World) (hq : Hid (d < 0)) (h1 : IntV w (.agg #[.bool ng1, .slice ao1 n1 cap1]) p) (h2 : IntV w (.agg #[.bool ng2, .slice ao2 n2 cap2]) d) (hE : Env w) :
    Calls Tryz.prog 43 #[.agg #[.bool ng1, .slice ao1 n1 cap1, .bool ng2, .slice ao2 n2 cap2]] w fun e w' => e = .returned (.bool false) ∧ Below w.heap.size w w' := by
  have HV1 := Lib.hid h1
  have HV2 := Lib.hid h2
  clear h1 h2
  have HS : Hid (sgnI d = -1) := Lib.hid (by have := hq.out; unfold sgnI; split <;> (try split) <;> omega)
  have hE0 := hE
  have hbw := Below.refl w.heap.size w
  go_enter Tryz.func43, Tryz.ntmps43
  go_upto_region 1 with fail
  have X0 := Box4.new w (.bool ng1) (.slice ao1 n1 cap1) (.bool ng2) (.slice ao2 n2 cap2) 29
  have hb := below_alloc w (.cells #[.bool ng1, .slice ao1 n1 cap1, .bool ng2, .slice ao2 n2 cap2] 29)
  generalize w.alloc (.cells #[.bool ng1, .slice ao1 n1 cap1, .bool ng2, .slice ao2 n2 cap2] 29) = v1 at *
  have HV1 := Lib.hid (HV1.out.mono hb)
  have HV2 := Lib.hid (HV2.out.mono hb)
  have hE := hE.mono hb
  have hbw := Below.step hbw hb (Nat.le_refl _)
  clear hb
  obtain ⟨cX0_0, cX0_1, cX0_2, cX0_3, _, _, _, _⟩ := id X0
  go_wp2_with fail
  (with_reducible refine (rValidI _ p v1 HV1.out).mono ?_)
  rintro e v2 ⟨rfl, hb⟩
  have HV1 := Lib.hid (HV1.out.mono hb)
  have HV2 := Lib.hid (HV2.out.mono hb)
  have X0 := X0.mono hb
  have hE := hE.mono hb
  have hbw := Below.step hbw hb (Nat.le_refl _)
  clear hb
  clear cX0_0 cX0_1 cX0_2 cX0_3
  obtain ⟨cX0_0, cX0_1, cX0_2, cX0_3, _, _, _, _⟩ := id X0
  go_wp2_with fail
  (with_reducible refine (rValidI _ d v2 HV2.out).mono ?_)
  rintro e v3 ⟨rfl, hb⟩
  have HV1 := Lib.hid (HV1.out.mono hb)
  have HV2 := Lib.hid (HV2.out.mono hb)
  have X0 := X0.mono hb
  have hE := hE.mono hb
  have hbw := Below.step hbw hb (Nat.le_refl _)
  clear hb
  clear cX0_0 cX0_1 cX0_2 cX0_3
  obtain ⟨cX0_0, cX0_1, cX0_2, cX0_3, _, _, _, _⟩ := id X0
  go_wp2_with fail
  (with_reducible refine (rSign_eq _ d (-1) v3 HS HV2.out).mono ?_)
  rintro e v4 ⟨rfl, hb⟩
  have HV1 := Lib.hid (HV1.out.mono hb)
  have HV2 := Lib.hid (HV2.out.mono hb)
  have X0 := X0.mono hb
  have hE := hE.mono hb
  have hbw := Below.step hbw hb (Nat.le_refl _)
  clear hb
  clear cX0_0 cX0_1 cX0_2 cX0_3
  go_wp2
  go_ret
  exact ⟨rfl, hbw⟩

set_option maxRecDepth 100000 in
set_option maxHeartbeats 1600000 in
theorem rValid_lez {ng1 : Bool} {ao1 : Option Addr} {n1 cap1 : Nat} {ng2 : Bool} {ao2 : Option Addr} {n2 cap2 : Nat} (p d : Int) (w : World) (hq : Hid (d = 0)) (h1 : IntV w (.agg #[.bool ng1, .slice ao1 n1 cap1]) p) (h2 : IntV w (.agg #[.bool ng2, .slice ao2 n2 cap2]) d) (hE : Env w) :
    Calls Tryz.prog 43 #[.agg #[.bool ng1, .slice ao1 n1 cap1, .bool ng2, .slice ao2 n2 cap2]] w fun e w' => e = .returned (.bool false) ∧ Below w.heap.size w w' := by
  have HV1 := Lib.hid h1
  have HV2 := Lib.hid h2
  clear h1 h2
  have HS : Hid (sgnI d = 0) := Lib.hid (by have := hq.out; unfold sgnI; split <;> (try split) <;> omega)
  have hE0 := hE
  have hbw := Below.refl w.heap.size w
  go_enter Tryz.func43, Tryz.ntmps43
  go_upto_region 1 with fail
  have X0 := Box4.new w (.bool ng1) (.slice ao1 n1 cap1) (.bool ng2) (.slice ao2 n2 cap2) 29
  have hb := below_alloc w (.cells #[.bool ng1, .slice ao1 n1 cap1, .bool ng2, .slice ao2 n2 cap2] 29)
  generalize w.alloc (.cells #[.bool ng1, .slice ao1 n1 cap1, .bool ng2, .slice ao2 n2 cap2] 29) = v1 at *
  have HV1 := Lib.hid (HV1.out.mono hb)
  have HV2 := Lib.hid (HV2.out.mono hb)
  have hE := hE.mono hb
  have hbw := Below.step hbw hb (Nat.le_refl _)
  clear hb
  obtain ⟨cX0_0, cX0_1, cX0_2, cX0_3, _, _, _, _⟩ := id X0
  go_wp2_with fail
  (with_reducible refine (rValidI _ p v1 HV1.out).mono ?_)
  rintro e v2 ⟨rfl, hb⟩
  have HV1 := Lib.hid (HV1.out.mono hb)
  have HV2 := Lib.hid (HV2.out.mono hb)
  have X0 := X0.mono hb
  have hE := hE.mono hb
  have hbw := Below.step hbw hb (Nat.le_refl _)
  clear hb
  clear cX0_0 cX0_1 cX0_2 cX0_3
  obtain ⟨cX0_0, cX0_1, cX0_2, cX0_3, _, _, _, _⟩ := id X0
  go_wp2_with fail
  (with_reducible refine (rValidI _ d v2 HV2.out).mono ?_)
  rintro e v3 ⟨rfl, hb⟩
  have HV1 := Lib.hid (HV1.out.mono hb)
  have HV2 := Lib.hid (HV2.out.mono hb)
  have X0 := X0.mono hb
  have hE := hE.mono hb
  have hbw := Below.step hbw hb (Nat.le_refl _)
  clear hb
  clear cX0_0 cX0_1 cX0_2 cX0_3
  obtain ⟨cX0_0, cX0_1, cX0_2, cX0_3, _, _, _, _⟩ := id X0
  go_wp2_with fail
  (with_reducible refine (rSign_eq _ d (0) v3 HS HV2.out).mono ?_)
  rintro e v4 ⟨rfl, hb⟩
  have HV1 := Lib.hid (HV1.out.mono hb)
  have HV2 := Lib.hid (HV2.out.mono hb)
  have X0 := X0.mono hb
  have hE := hE.mono hb
  have hbw := Below.step hbw hb (Nat.le_refl _)
  clear hb
  clear cX0_0 cX0_1 cX0_2 cX0_3
  go_wp2
  go_ret
  exact ⟨rfl, hbw⟩

set_option maxRecDepth 100000 in
set_option maxHeartbeats 1600000 in
theorem rValid_yes {ng1 : Bool} {ao1 : Option Addr} {n1 cap1 : Nat} {ng2 : Bool} {ao2 : Option Addr} {n2 cap2 : Nat} (p d : Int) (w : World) (hq : Hid (0 < d ∧ Int.gcd p d = 1)) (h1 : IntV w (.agg #[.bool ng1, .slice ao1 n1 cap1]) p) (h2 : IntV w (.agg #[.bool ng2, .slice ao2 n2 cap2]) d) (hE : Env w) :
    Calls Tryz.prog 43 #[.agg #[.bool ng1, .slice ao1 n1 cap1, .bool ng2, .slice ao2 n2 cap2]] w fun e w' => e = .returned (.bool true) ∧ Below w.heap.size w w' := by
  have HV1 := Lib.hid h1
  have HV2 := Lib.hid h2
  clear h1 h2
  have HS : Hid (sgnI d = 1) := Lib.hid (by have := hq.out; unfold sgnI; split <;> (try split) <;> omega)
  have hE0 := hE
  have hbw := Below.refl w.heap.size w
  go_enter Tryz.func43, Tryz.ntmps43
  go_upto_region 1 with fail
  have X0 := Box4.new w (.bool ng1) (.slice ao1 n1 cap1) (.bool ng2) (.slice ao2 n2 cap2) 29
  have hb := below_alloc w (.cells #[.bool ng1, .slice ao1 n1 cap1, .bool ng2, .slice ao2 n2 cap2] 29)
  generalize w.alloc (.cells #[.bool ng1, .slice ao1 n1 cap1, .bool ng2, .slice ao2 n2 cap2] 29) = v1 at *
  have HV1 := Lib.hid (HV1.out.mono hb)
  have HV2 := Lib.hid (HV2.out.mono hb)
  have hE := hE.mono hb
  have hbw := Below.step hbw hb (Nat.le_refl _)
  clear hb
  obtain ⟨cX0_0, cX0_1, cX0_2, cX0_3, _, _, _, _⟩ := id X0
  go_wp2_with fail
  (with_reducible refine (rValidI _ p v1 HV1.out).mono ?_)
  rintro e v2 ⟨rfl, hb⟩
  have HV1 := Lib.hid (HV1.out.mono hb)
  have HV2 := Lib.hid (HV2.out.mono hb)
  have X0 := X0.mono hb
  have hE := hE.mono hb
  have hbw := Below.step hbw hb (Nat.le_refl _)
  clear hb
  clear cX0_0 cX0_1 cX0_2 cX0_3
  obtain ⟨cX0_0, cX0_1, cX0_2, cX0_3, _, _, _, _⟩ := id X0
  go_wp2_with fail
  (with_reducible refine (rValidI _ d v2 HV2.out).mono ?_)
  rintro e v3 ⟨rfl, hb⟩
  have HV1 := Lib.hid (HV1.out.mono hb)
  have HV2 := Lib.hid (HV2.out.mono hb)
  have X0 := X0.mono hb
  have hE := hE.mono hb
  have hbw := Below.step hbw hb (Nat.le_refl _)
  clear hb
  clear cX0_0 cX0_1 cX0_2 cX0_3
  obtain ⟨cX0_0, cX0_1, cX0_2, cX0_3, _, _, _, _⟩ := id X0
  go_wp2_with fail
  (with_reducible refine (rSign_eq _ d (1) v3 HS HV2.out).mono ?_)
  rintro e v4 ⟨rfl, hb⟩
  have HV1 := Lib.hid (HV1.out.mono hb)
  have HV2 := Lib.hid (HV2.out.mono hb)
  have X0 := X0.mono hb
  have hE := hE.mono hb
  have hbw := Below.step hbw hb (Nat.le_refl _)
  clear hb
  clear cX0_0 cX0_1 cX0_2 cX0_3
  obtain ⟨cX0_0, cX0_1, cX0_2, cX0_3, _, _, _, _⟩ := id X0
  go_wp2_with fail
  (with_reducible refine (rGcd_any _ _ p d v4 HV1.out HV2.out).mono ?_)
  rintro e v5 ⟨⟨ng3, ao3, n3, cap3, rfl, HV3⟩, hb⟩
  have HV1 := Lib.hid (HV1.out.mono hb)
  have HV2 := Lib.hid (HV2.out.mono hb)
  have X0 := X0.mono hb
  have hE := hE.mono hb
  have hbw := Below.step hbw hb (Nat.le_refl _)
  clear hb
  clear cX0_0 cX0_1 cX0_2 cX0_3
  obtain ⟨cX0_0, cX0_1, cX0_2, cX0_3, _, _, _, _⟩ := id X0
  go_wp2_with fail
  (with_reducible refine (rof_any 1 (by decide) (by decide) v5 hE).mono ?_)
  rintro e v6 ⟨⟨ng4, ao4, n4, cap4, rfl, HV4⟩, hb⟩
  have HV1 := Lib.hid (HV1.out.mono hb)
  have HV2 := Lib.hid (HV2.out.mono hb)
  have X0 := X0.mono hb
  have HV3 := Lib.hid (HV3.out.mono hb)
  have hE := hE.mono hb
  have hbw := Below.step hbw hb (Nat.le_refl _)
  clear hb
  clear cX0_0 cX0_1 cX0_2 cX0_3
  obtain ⟨cX0_0, cX0_1, cX0_2, cX0_3, _, _, _, _⟩ := id X0
  go_wp2_with fail
  (with_reducible refine (eqI_eq _ _ ((Int.gcd p d : Nat) : Int) 1 true v6 (Lib.hid (by have := hq.out; simp; omega)) HV3.out HV4.out).mono ?_)
  rintro e v7 ⟨rfl, hb⟩
  have HV1 := Lib.hid (HV1.out.mono hb)
  have HV2 := Lib.hid (HV2.out.mono hb)
  have X0 := X0.mono hb
  have HV3 := Lib.hid (HV3.out.mono hb)
  have HV4 := Lib.hid (HV4.out.mono hb)
  have hE := hE.mono hb
  have hbw := Below.step hbw hb (Nat.le_refl _)
  clear hb
  clear cX0_0 cX0_1 cX0_2 cX0_3
  go_wp2
  go_ret
  exact ⟨rfl, hbw⟩

set_option maxRecDepth 100000 in
set_option maxHeartbeats 1600000 in
theorem rValid_gcd {ng1 : Bool} {ao1 : Option Addr} {n1 cap1 : Nat} {ng2 : Bool} {ao2 : Option Addr} {n2 cap2 : Nat} (p d : Int) (w : World) (hq : Hid (0 < d ∧ Int.gcd p d ≠ 1)) (h1 : IntV w (.agg #[.bool ng1, .slice ao1 n1 cap1]) p) (h2 : IntV w (.agg #[.bool ng2, .slice ao2 n2 cap2]) d) (hE : Env w) :
    Calls Tryz.prog 43 #[.agg #[.bool ng1, .slice ao1 n1 cap1, .bool ng2, .slice ao2 n2 cap2]] w fun e w' => e = .returned (.bool false) ∧ Below w.heap.size w w' := by
  have HV1 := Lib.hid h1
  have HV2 := Lib.hid h2
  clear h1 h2
  have HS : Hid (sgnI d = 1) := Lib.hid (by have := hq.out; unfold sgnI; split <;> (try split) <;> omega)
  have hE0 := hE
  have hbw := Below.refl w.heap.size w
  go_enter Tryz.func43, Tryz.ntmps43
  go_upto_region 1 with fail
  have X0 := Box4.new w (.bool ng1) (.slice ao1 n1 cap1) (.bool ng2) (.slice ao2 n2 cap2) 29
  have hb := below_alloc w (.cells #[.bool ng1, .slice ao1 n1 cap1, .bool ng2, .slice ao2 n2 cap2] 29)
  generalize w.alloc (.cells #[.bool ng1, .slice ao1 n1 cap1, .bool ng2, .slice ao2 n2 cap2] 29) = v1 at *
  have HV1 := Lib.hid (HV1.out.mono hb)
  have HV2 := Lib.hid (HV2.out.mono hb)
  have hE := hE.mono hb
  have hbw := Below.step hbw hb (Nat.le_refl _)
  clear hb
  obtain ⟨cX0_0, cX0_1, cX0_2, cX0_3, _, _, _, _⟩ := id X0
  go_wp2_with fail
  (with_reducible refine (rValidI _ p v1 HV1.out).mono ?_)
  rintro e v2 ⟨rfl, hb⟩
  have HV1 := Lib.hid (HV1.out.mono hb)
  have HV2 := Lib.hid (HV2.out.mono hb)
  have X0 := X0.mono hb
  have hE := hE.mono hb
  have hbw := Below.step hbw hb (Nat.le_refl _)
  clear hb
  clear cX0_0 cX0_1 cX0_2 cX0_3
  obtain ⟨cX0_0, cX0_1, cX0_2, cX0_3, _, _, _, _⟩ := id X0
  go_wp2_with fail
  (with_reducible refine (rValidI _ d v2 HV2.out).mono ?_)
  rintro e v3 ⟨rfl, hb⟩
  have HV1 := Lib.hid (HV1.out.mono hb)
  have HV2 := Lib.hid (HV2.out.mono hb)
  have X0 := X0.mono hb
  have hE := hE.mono hb
  have hbw := Below.step hbw hb (Nat.le_refl _)
  clear hb
  clear cX0_0 cX0_1 cX0_2 cX0_3
  obtain ⟨cX0_0, cX0_1, cX0_2, cX0_3, _, _, _, _⟩ := id X0
  go_wp2_with fail
  (with_reducible refine (rSign_eq _ d (1) v3 HS HV2.out).mono ?_)
  rintro e v4 ⟨rfl, hb⟩
  have HV1 := Lib.hid (HV1.out.mono hb)
  have HV2 := Lib.hid (HV2.out.mono hb)
  have X0 := X0.mono hb
  have hE := hE.mono hb
  have hbw := Below.step hbw hb (Nat.le_refl _)
  clear hb
  clear cX0_0 cX0_1 cX0_2 cX0_3
  obtain ⟨cX0_0, cX0_1, cX0_2, cX0_3, _, _, _, _⟩ := id X0
  go_wp2_with fail
  (with_reducible refine (rGcd_any _ _ p d v4 HV1.out HV2.out).mono ?_)
  rintro e v5 ⟨⟨ng3, ao3, n3, cap3, rfl, HV3⟩, hb⟩
  have HV1 := Lib.hid (HV1.out.mono hb)
  have HV2 := Lib.hid (HV2.out.mono hb)
  have X0 := X0.mono hb
  have hE := hE.mono hb
  have hbw := Below.step hbw hb (Nat.le_refl _)
  clear hb
  clear cX0_0 cX0_1 cX0_2 cX0_3
  obtain ⟨cX0_0, cX0_1, cX0_2, cX0_3, _, _, _, _⟩ := id X0
  go_wp2_with fail
  (with_reducible refine (rof_any 1 (by decide) (by decide) v5 hE).mono ?_)
  rintro e v6 ⟨⟨ng4, ao4, n4, cap4, rfl, HV4⟩, hb⟩
  have HV1 := Lib.hid (HV1.out.mono hb)
  have HV2 := Lib.hid (HV2.out.mono hb)
  have X0 := X0.mono hb
  have HV3 := Lib.hid (HV3.out.mono hb)
  have hE := hE.mono hb
  have hbw := Below.step hbw hb (Nat.le_refl _)
  clear hb
  clear cX0_0 cX0_1 cX0_2 cX0_3
  obtain ⟨cX0_0, cX0_1, cX0_2, cX0_3, _, _, _, _⟩ := id X0
  go_wp2_with fail
  (with_reducible refine (eqI_eq _ _ ((Int.gcd p d : Nat) : Int) 1 false v6 (Lib.hid (by have := hq.out; simp; omega)) HV3.out HV4.out).mono ?_)
  rintro e v7 ⟨rfl, hb⟩
  have HV1 := Lib.hid (HV1.out.mono hb)
  have HV2 := Lib.hid (HV2.out.mono hb)
  have X0 := X0.mono hb
  have HV3 := Lib.hid (HV3.out.mono hb)
  have HV4 := Lib.hid (HV4.out.mono hb)
  have hE := hE.mono hb
  have hbw := Below.step hbw hb (Nat.le_refl _)
  clear hb
  clear cX0_0 cX0_1 cX0_2 cX0_3
  go_wp2
  go_ret
  exact ⟨rfl, hbw⟩

set_option maxRecDepth 100000 in
set_option maxHeartbeats 1600000 in
theorem rValid_num (x1 x2 : Bool) (l1 l2 : List Nat) (a1 a2 : Option Addr) (c1 c2 : Nat) (w : World) (m1 : l1.length ≤ 1000000000) (_m2 : l2.length ≤ 1000000000) (u1 : U w a1 l1) (u2 : U w a2 l2) (hv : Hid (¬ validP x1 l1)) (hE : Env w) :
    Calls Tryz.prog 43 #[.agg #[.bool x1, .slice a1 l1.length c1, .bool x2, .slice a2 l2.length c2]] w fun e w' => e = .returned (.bool false) ∧ Below w.heap.size w w' := by
  have hE0 := hE
  have hbw := Below.refl w.heap.size w
  go_enter Tryz.func43, Tryz.ntmps43
  go_upto_region 1 with fail
  have X0 := Box4.new w (.bool x1) (.slice a1 l1.length c1) (.bool x2) (.slice a2 l2.length c2) 29
  have hb := below_alloc w (.cells #[.bool x1, .slice a1 l1.length c1, .bool x2, .slice a2 l2.length c2] 29)
  generalize w.alloc (.cells #[.bool x1, .slice a1 l1.length c1, .bool x2, .slice a2 l2.length c2] 29) = v1 at *
  have u1 := u1.mono hb
  have u2 := u2.mono hb
  have hE := hE.mono hb
  have hbw := Below.step hbw hb (Nat.le_refl _)
  clear hb
  obtain ⟨cX0_0, cX0_1, cX0_2, cX0_3, _, _, _, _⟩ := id X0
  go_wp2_with fail
  (with_reducible refine (rvalid_no x1 l1 a1 c1 v1 m1 hv u1).mono ?_)
  rintro e v2 ⟨rfl, hb⟩
  have u1 := u1.mono hb
  have u2 := u2.mono hb
  have X0 := X0.mono hb
  have hE := hE.mono hb
  have hbw := Below.step hbw hb (Nat.le_refl _)
  clear hb
  clear cX0_0 cX0_1 cX0_2 cX0_3
  go_wp2
  go_ret
  exact ⟨rfl, hbw⟩

set_option maxRecDepth 100000 in
set_option maxHeartbeats 1600000 in
theorem rValid_den (x1 x2 : Bool) (l1 l2 : List Nat) (a1 a2 : Option Addr) (c1 c2 : Nat) (w : World) (m1 : l1.length ≤ 1000000000) (m2 : l2.length ≤ 1000000000) (u1 : U w a1 l1) (u2 : U w a2 l2) (hv : Hid (Hid (validP x1 l1) ∧ Hid (¬ validP x2 l2))) (hE : Env w) :
    Calls Tryz.prog 43 #[.agg #[.bool x1, .slice a1 l1.length c1, .bool x2, .slice a2 l2.length c2]] w fun e w' => e = .returned (.bool false) ∧ Below w.heap.size w w' := by
  have hE0 := hE
  have hbw := Below.refl w.heap.size w
  go_enter Tryz.func43, Tryz.ntmps43
  go_upto_region 1 with fail
  have X0 := Box4.new w (.bool x1) (.slice a1 l1.length c1) (.bool x2) (.slice a2 l2.length c2) 29
  have hb := below_alloc w (.cells #[.bool x1, .slice a1 l1.length c1, .bool x2, .slice a2 l2.length c2] 29)
  generalize w.alloc (.cells #[.bool x1, .slice a1 l1.length c1, .bool x2, .slice a2 l2.length c2] 29) = v1 at *
  have u1 := u1.mono hb
  have u2 := u2.mono hb
  have hE := hE.mono hb
  have hbw := Below.step hbw hb (Nat.le_refl _)
  clear hb
  obtain ⟨cX0_0, cX0_1, cX0_2, cX0_3, _, _, _, _⟩ := id X0
  go_wp2_with fail
  (with_reducible refine (rvalid_yes x1 l1 a1 c1 v1 m1 hv.out.1 u1).mono ?_)
  rintro e v2 ⟨rfl, hb⟩
  have u1 := u1.mono hb
  have u2 := u2.mono hb
  have X0 := X0.mono hb
  have hE := hE.mono hb
  have hbw := Below.step hbw hb (Nat.le_refl _)
  clear hb
  clear cX0_0 cX0_1 cX0_2 cX0_3
  obtain ⟨cX0_0, cX0_1, cX0_2, cX0_3, _, _, _, _⟩ := id X0
  go_wp2_with fail
  (with_reducible refine (rvalid_no x2 l2 a2 c2 v2 m2 hv.out.2 u2).mono ?_)
  rintro e v3 ⟨rfl, hb⟩
  have u1 := u1.mono hb
  have u2 := u2.mono hb
  have X0 := X0.mono hb
  have hE := hE.mono hb
  have hbw := Below.step hbw hb (Nat.le_refl _)
  clear hb
  clear cX0_0 cX0_1 cX0_2 cX0_3
  go_wp2
  go_ret
  exact ⟨rfl, hbw⟩

/-- 'Valid' of a fraction that is none -/
theorem rValid_false (v : Value) (w : World) (h : VQ w v false) (hE : Env w) :
    Calls Tryz.prog 43 #[v] w fun e w' => e = .returned (.bool false) ∧ Below w.heap.size w w' := by
  obtain ⟨x1, x2, l1, l2, a1, a2, c1, c2, rfl, h1, h2, k1, k2, h3, h4, h5⟩ := h
  have hn : ¬ ValidR x1 l1 x2 l2 := fun h => by simpa using h5.out.2 h
  by_cases v1 : validP x1 l1
  · by_cases v2 : validP x2 l2
    · obtain ⟨p, hp, p1, p2, p3⟩ := int_of v1 k1 h3
      obtain ⟨d, hd, d1, d2, d3⟩ := int_of v2 k2 h4
      rcases Int.lt_trichotomy d 0 with hd0 | hd0 | hd0
      · exact rValid_len p d w (Lib.hid hd0) hp hd hE
      · exact rValid_lez p d w (Lib.hid hd0) hp hd hE
      · exact rValid_gcd p d w (Lib.hid ⟨hd0, fun hg => hn (validR_of p1 p2 p3 d1 d2 d3 ⟨hd0, hg⟩)⟩) hp hd hE
    · exact rValid_den x1 x2 l1 l2 a1 a2 c1 c2 w h1 h2 h3 h4 (Lib.hid ⟨Lib.hid v1, Lib.hid v2⟩) hE
  · exact rValid_num x1 x2 l1 l2 a1 a2 c1 c2 w h1 h2 h3 h4 (Lib.hid v1) hE

theorem rValid_true (v : Value) (r : Rat) (w : World) (h : RatV w v r) (hE : Env w) :
    Calls Tryz.prog 43 #[v] w fun e w' => e = .returned (.bool true) ∧ Below w.heap.size w w' := by
  obtain ⟨n1, a1, l1, c1, n2, a2, l2, c2, rfl, h1, h2⟩ := h
  exact rValid_yes r.num (r.den : Int) w (Lib.hid (Rq.vp_rat r)) h1 h2 hE

theorem rValid_v (v : Value) (b : Bool) (w : World) (h : VQ w v b) (hE : Env w) :
    Calls Tryz.prog 43 #[v] w fun e w' => e = .returned (.bool b) ∧ Below w.heap.size w w' := by
  cases b
  · exact rValid_false v w h hE
  · obtain ⟨r, hr⟩ := h.rat
    exact rValid_true v r w hr hE

set_option maxRecDepth 100000 in
set_option maxHeartbeats 1600000 in
theorem rMake_zero (a b : Value) (p q : Int) (w : World) (ha : IntV w a p) (hb : IntV w b q) (hq : Hid (q = 0)) (hE : Env w) :
    Calls Tryz.prog 16 #[a, b] w fun e w' => NoQ 8 e ∧ Below w.heap.size w w' := by
  have HS : Hid (sgnI q = 0) := Lib.hid (by have := hq.out; unfold sgnI; split <;> (try split) <;> omega)
  have hE0 := hE
  have hbw := Below.refl w.heap.size w
  obtain ⟨ng1, ao1, n1, cap1, rfl⟩ := ha.parts
  have HV1 := Lib.hid ha
  clear ha
  obtain ⟨ng2, ao2, n2, cap2, rfl⟩ := hb.parts
  have HV2 := Lib.hid hb
  clear hb
  go_enter Tryz.func16, Tryz.ntmps16
  go_upto_region 1 with fail
  obtain ⟨wx, hwx, hszx, X1, X2, X3, hb⟩ := boxes_224 w (.bool ng1) (.slice ao1 n1 cap1) 24 (.bool ng2) (.slice ao2 n2 cap2) 24 (.bool false) (.slice none 0 0) (.bool false) (.slice none 0 0) 29
  rw [← hwx]
  clear hwx
  obtain ⟨v1, rfl⟩ : ∃ v1 : World, v1 = wx := ⟨_, rfl⟩
  have HV1 := Lib.hid (HV1.out.mono hb)
  have HV2 := Lib.hid (HV2.out.mono hb)
  have hE := hE.mono hb
  have hbw := Below.step hbw hb (Nat.le_refl _)
  clear hb
  obtain ⟨cX1_0, cX1_1, _, _⟩ := id X1
  go_wp2_with fail
  (with_reducible refine (rValidI _ p v1 HV1.out).mono ?_)
  rintro e v2 ⟨rfl, hb⟩
  have HV1 := Lib.hid (HV1.out.mono hb)
  have HV2 := Lib.hid (HV2.out.mono hb)
  have X1 := X1.mono hb
  have X2 := X2.mono hb
  have X3 := X3.mono hb
  have hE := hE.mono hb
  have hbw := Below.step hbw hb (Nat.le_refl _)
  clear hb
  clear cX1_0 cX1_1
  obtain ⟨cX2_0, cX2_1, _, _⟩ := id X2
  go_wp2_with fail
  (with_reducible refine (rValidI _ q v2 HV2.out).mono ?_)
  rintro e v3 ⟨rfl, hb⟩
  have HV1 := Lib.hid (HV1.out.mono hb)
  have HV2 := Lib.hid (HV2.out.mono hb)
  have X1 := X1.mono hb
  have X2 := X2.mono hb
  have X3 := X3.mono hb
  have hE := hE.mono hb
  have hbw := Below.step hbw hb (Nat.le_refl _)
  clear hb
  clear cX2_0 cX2_1
  obtain ⟨cX2_0, cX2_1, _, _⟩ := id X2
  go_wp2_with fail
  (with_reducible refine (rSign_eq _ q (0) v3 HS HV2.out).mono ?_)
  rintro e v4 ⟨rfl, hb⟩
  have HV1 := Lib.hid (HV1.out.mono hb)
  have HV2 := Lib.hid (HV2.out.mono hb)
  have X1 := X1.mono hb
  have X2 := X2.mono hb
  have X3 := X3.mono hb
  have hE := hE.mono hb
  have hbw := Below.step hbw hb (Nat.le_refl _)
  clear hb
  clear cX2_0 cX2_1
  obtain ⟨cX3_0, cX3_1, cX3_2, cX3_3, _, _, _, _⟩ := id X3
  go_wp2
  refine bodyPost_ret (v := .tuple #[.agg #[.bool false, .slice none 0 0, .bool false, .slice none 0 0], .int .i64 8]) (by simp [results, Tryz.results16, go_sem, cX3_0, cX3_1, cX3_2, cX3_3]) rfl ⟨rfl, Below.put4 hbw (by omega) (.bool false) (.slice none 0 0) (.bool false) (.slice none 0 0)⟩

set_option maxRecDepth 100000 in
set_option maxHeartbeats 1600000 in
theorem rMake_neg (a b : Value) (p q : Int) (w : World) (ha : IntV w a p) (hb : IntV w b q) (hq : Hid (q < 0)) (hE : Env w) :
    Calls Tryz.prog 16 #[a, b] w fun e w' => GotQ w' (Rat.divInt p q) e ∧ Below w.heap.size w w' := by
  have HS : Hid (sgnI q = -1) := Lib.hid (by have := hq.out; unfold sgnI; split <;> (try split) <;> omega)
  have hE0 := hE
  have hbw := Below.refl w.heap.size w
  obtain ⟨ng1, ao1, n1, cap1, rfl⟩ := ha.parts
  have HV1 := Lib.hid ha
  clear ha
  obtain ⟨ng2, ao2, n2, cap2, rfl⟩ := hb.parts
  have HV2 := Lib.hid hb
  clear hb
  go_enter Tryz.func16, Tryz.ntmps16
  go_upto_region 1 with fail
  obtain ⟨wx, hwx, hszx, X1, X2, X3, hb⟩ := boxes_224 w (.bool ng1) (.slice ao1 n1 cap1) 24 (.bool ng2) (.slice ao2 n2 cap2) 24 (.bool false) (.slice none 0 0) (.bool false) (.slice none 0 0) 29
  rw [← hwx]
  clear hwx
  obtain ⟨v1, rfl⟩ : ∃ v1 : World, v1 = wx := ⟨_, rfl⟩
  have HV1 := Lib.hid (HV1.out.mono hb)
  have HV2 := Lib.hid (HV2.out.mono hb)
  have hE := hE.mono hb
  have hbw := Below.step hbw hb (Nat.le_refl _)
  clear hb
  obtain ⟨cX1_0, cX1_1, _, _⟩ := id X1
  go_wp2_with fail
  (with_reducible refine (rValidI _ p v1 HV1.out).mono ?_)
  rintro e v2 ⟨rfl, hb⟩
  have HV1 := Lib.hid (HV1.out.mono hb)
  have HV2 := Lib.hid (HV2.out.mono hb)
  have X1 := X1.mono hb
  have X2 := X2.mono hb
  have X3 := X3.mono hb
  have hE := hE.mono hb
  have hbw := Below.step hbw hb (Nat.le_refl _)
  clear hb
  clear cX1_0 cX1_1
  obtain ⟨cX2_0, cX2_1, _, _⟩ := id X2
  go_wp2_with fail
  (with_reducible refine (rValidI _ q v2 HV2.out).mono ?_)
  rintro e v3 ⟨rfl, hb⟩
  have HV1 := Lib.hid (HV1.out.mono hb)
  have HV2 := Lib.hid (HV2.out.mono hb)
  have X1 := X1.mono hb
  have X2 := X2.mono hb
  have X3 := X3.mono hb
  have hE := hE.mono hb
  have hbw := Below.step hbw hb (Nat.le_refl _)
  clear hb
  clear cX2_0 cX2_1
  obtain ⟨cX2_0, cX2_1, _, _⟩ := id X2
  go_wp2_with fail
  (with_reducible refine (rSign_eq _ q (-1) v3 HS HV2.out).mono ?_)
  rintro e v4 ⟨rfl, hb⟩
  have HV1 := Lib.hid (HV1.out.mono hb)
  have HV2 := Lib.hid (HV2.out.mono hb)
  have X1 := X1.mono hb
  have X2 := X2.mono hb
  have X3 := X3.mono hb
  have hE := hE.mono hb
  have hbw := Below.step hbw hb (Nat.le_refl _)
  clear hb
  clear cX2_0 cX2_1
  obtain ⟨cX2_0, cX2_1, _, _⟩ := id X2
  go_wp2_with fail
  (with_reducible refine (rSign_eq _ q (-1) v4 HS HV2.out).mono ?_)
  rintro e v5 ⟨rfl, hb⟩
  have HV1 := Lib.hid (HV1.out.mono hb)
  have HV2 := Lib.hid (HV2.out.mono hb)
  have X1 := X1.mono hb
  have X2 := X2.mono hb
  have X3 := X3.mono hb
  have hE := hE.mono hb
  have hbw := Below.step hbw hb (Nat.le_refl _)
  clear hb
  clear cX2_0 cX2_1
  go_upto_region 6 with fail
  obtain ⟨cX1_0, cX1_1, _, _⟩ := id X1
  obtain ⟨cX2_0, cX2_1, _, _⟩ := id X2
  obtain ⟨wy, rfl⟩ : ∃ wy : World, wy = v5 := ⟨_, rfl⟩
  go_cut [] (fun wc => NegK wy wc w.heap.size (w.heap.size + 1) (-p) (-q))
  case first =>
    go_region_with (first
      | (go_at_call 59; ((with_reducible refine (neg_any (.agg #[.bool ng1, .slice ao1 n1 cap1]) p _ (HV1.out.mono ?_)).mono ?_); ((repeat' (first | with_reducible assumption | with_reducible exact Below.refl _ _ | with_reducible refine Below.drew ?_ | with_reducible refine Below.alloc ?_ ?_ _ | with_reducible refine Below.setCell ?_ ?_ _ | with_reducible refine Below.step ?_ he2 ?_ | with_reducible refine Below.step ?_ he1 ?_ | (first | exact Nat.le_refl _ | omega | (simp; done) | (simp; omega) | (unfold World.setCell; simp; done) | (unfold World.setCell; simp; omega)))))); rintro e t1 ⟨⟨ng5, ao5, n5, cap5, rfl, HV5⟩, he1⟩; have HT1 : Below wy.heap.size wy t1 := (by (repeat' (first | with_reducible assumption | with_reducible exact Below.refl _ _ | with_reducible refine Below.drew ?_ | with_reducible refine Below.alloc ?_ ?_ _ | with_reducible refine Below.setCell ?_ ?_ _ | with_reducible refine Below.step ?_ he2 ?_ | with_reducible refine Below.step ?_ he1 ?_ | (first | exact Nat.le_refl _ | omega | (simp; done) | (simp; omega) | (unfold World.setCell; simp; done) | (unfold World.setCell; simp; omega))))); have ht1 := HT1.size; have hX1 := X1.mono HT1; have hX2 := X2.mono HT1; obtain ⟨_, _, _, _⟩ := id hX1; obtain ⟨_, _, _, _⟩ := id hX2)
      | (go_at_call 59; ((with_reducible refine (neg_any (.agg #[.bool ng2, .slice ao2 n2 cap2]) q _ (HV2.out.mono ?_)).mono ?_); ((repeat' (first | with_reducible assumption | with_reducible exact Below.refl _ _ | with_reducible refine Below.drew ?_ | with_reducible refine Below.alloc ?_ ?_ _ | with_reducible refine Below.setCell ?_ ?_ _ | with_reducible refine Below.step ?_ he2 ?_ | with_reducible refine Below.step ?_ he1 ?_ | (first | exact Nat.le_refl _ | omega | (simp; done) | (simp; omega) | (unfold World.setCell; simp; done) | (unfold World.setCell; simp; omega)))))); rintro e t2 ⟨⟨ng6, ao6, n6, cap6, rfl, HV6⟩, he2⟩; have HT2 : Below wy.heap.size wy t2 := (by (repeat' (first | with_reducible assumption | with_reducible exact Below.refl _ _ | with_reducible refine Below.drew ?_ | with_reducible refine Below.alloc ?_ ?_ _ | with_reducible refine Below.setCell ?_ ?_ _ | with_reducible refine Below.step ?_ he2 ?_ | with_reducible refine Below.step ?_ he1 ?_ | (first | exact Nat.le_refl _ | omega | (simp; done) | (simp; omega) | (unfold World.setCell; simp; done) | (unfold World.setCell; simp; omega))))); have ht2 := HT2.size; have hX1' := X1.mono HT2; have hX2' := X2.mono HT2; obtain ⟨_, _, _, _⟩ := id hX1'; obtain ⟨_, _, _, _⟩ := id hX2'))
    all_goals (go_wp2_with fail; go_meet; exact ⟨t2, ng5, ao5, n5, cap5, ng6, ao6, n6, cap6, Lib.hid (HV5.out.mono he2), HV6, HT2, rfl⟩)
  case rest =>
    obtain ⟨v20, ng5, ao5, n5, cap5, ng6, ao6, n6, cap6, HV5, HV6, hb, rfl⟩ := hcut
    have HV1 := Lib.hid (HV1.out.mono hb)
    have HV2 := Lib.hid (HV2.out.mono hb)
    have X1 := X1.mono hb
    have X2 := X2.mono hb
    have X3 := X3.mono hb
    have hE := hE.mono hb
    have hbw := Below.step hbw hb (Nat.le_refl _)
    clear hb
    have HV1 := Lib.hid (HV1.out.put2B X1 (.bool ng5) (.slice ao5 n5 cap5))
    have HV2 := Lib.hid (HV2.out.put2B X1 (.bool ng5) (.slice ao5 n5 cap5))
    have X2 := X2.other2 (u := .bool ng5) (v := .slice ao5 n5 cap5) (show w.heap.size + 1 ≠ w.heap.size by omega)
    have X3 := X3.other2 (u := .bool ng5) (v := .slice ao5 n5 cap5) (show w.heap.size + 1 + 1 ≠ w.heap.size by omega)
    have HV5 := Lib.hid (HV5.out.put2B X1 (.bool ng5) (.slice ao5 n5 cap5))
    have HV6 := Lib.hid (HV6.out.put2B X1 (.bool ng5) (.slice ao5 n5 cap5))
    have X1 := X1.set2I (.bool ng5) (.slice ao5 n5 cap5)
    have hbw := Below.put2 hbw (n := w.heap.size) (by omega) (.bool ng5) (.slice ao5 n5 cap5)
    have hE := hE0.mono hbw
    generalize ((v20.setCell ⟨w.heap.size, 0, none⟩ (.bool ng5)).setCell ⟨w.heap.size, 1, none⟩ (.slice ao5 n5 cap5)) = v21 at *
    have HV1 := Lib.hid (HV1.out.put2B X2 (.bool ng6) (.slice ao6 n6 cap6))
    have HV2 := Lib.hid (HV2.out.put2B X2 (.bool ng6) (.slice ao6 n6 cap6))
    have X1 := X1.other2 (u := .bool ng6) (v := .slice ao6 n6 cap6) (show w.heap.size ≠ w.heap.size + 1 by omega)
    have X3 := X3.other2 (u := .bool ng6) (v := .slice ao6 n6 cap6) (show w.heap.size + 1 + 1 ≠ w.heap.size + 1 by omega)
    have HV5 := Lib.hid (HV5.out.put2B X2 (.bool ng6) (.slice ao6 n6 cap6))
    have HV6 := Lib.hid (HV6.out.put2B X2 (.bool ng6) (.slice ao6 n6 cap6))
    have X2 := X2.set2I (.bool ng6) (.slice ao6 n6 cap6)
    have hbw := Below.put2 hbw (n := w.heap.size + 1) (by omega) (.bool ng6) (.slice ao6 n6 cap6)
    have hE := hE0.mono hbw
    generalize ((v21.setCell ⟨w.heap.size + 1, 0, none⟩ (.bool ng6)).setCell ⟨w.heap.size + 1, 1, none⟩ (.slice ao6 n6 cap6)) = v22 at *
    obtain ⟨cX1_0, cX1_1, _, _⟩ := id X1
    obtain ⟨cX2_0, cX2_1, _, _⟩ := id X2
    go_wp2_with fail
    (with_reducible refine (rGcd_any _ _ (-p) (-q) v22 HV5.out HV6.out).mono ?_)
    rintro e v23 ⟨⟨ng7, ao7, n7, cap7, rfl, HV7⟩, hb⟩
    have HV1 := Lib.hid (HV1.out.mono hb)
    have HV2 := Lib.hid (HV2.out.mono hb)
    have X1 := X1.mono hb
    have X2 := X2.mono hb
    have X3 := X3.mono hb
    have HV5 := Lib.hid (HV5.out.mono hb)
    have HV6 := Lib.hid (HV6.out.mono hb)
    have hE := hE.mono hb
    have hbw := Below.step hbw hb (Nat.le_refl _)
    clear hb
    clear cX1_0 cX1_1 cX2_0 cX2_1
    go_upto_region 8 with fail
    have lX7X1 := X1.lt
    have lX7X2 := X2.lt
    have lX7X3 := X3.lt
    have X7 := Box.new v23 (.bool ng7) (.slice ao7 n7 cap7) 24
    have hb := below_alloc v23 (.cells #[.bool ng7, .slice ao7 n7 cap7] 24)
    generalize v23.alloc (.cells #[.bool ng7, .slice ao7 n7 cap7] 24) = v24 at *
    have HV1 := Lib.hid (HV1.out.mono hb)
    have HV2 := Lib.hid (HV2.out.mono hb)
    have X1 := X1.mono hb
    have X2 := X2.mono hb
    have X3 := X3.mono hb
    have HV5 := Lib.hid (HV5.out.mono hb)
    have HV6 := Lib.hid (HV6.out.mono hb)
    have HV7 := Lib.hid (HV7.out.mono hb)
    have hE := hE.mono hb
    have hbw := Below.step hbw hb (Nat.le_refl _)
    clear hb
    have HG0 : Hid (((Int.gcd (-p) (-q) : Nat) : Int) ≠ 0) := Lib.hid (by have := Rq.gcd_pos (p := (-p)) (q := (-q)) (by have := hq.out; omega); omega)
    obtain ⟨cX1_0, cX1_1, _, _⟩ := id X1
    obtain ⟨cX7_0, cX7_1, _, _⟩ := id X7
    go_wp2_with fail
    (with_reducible refine (rDiv_ok _ _ (-p) ((Int.gcd (-p) (-q) : Nat) : Int) v24 HV5.out HV7.out HG0).mono ?_)
    rintro e v25 ⟨⟨ng8, ao8, n8, cap8, ng9, ao9, n9, cap9, rfl, HV8⟩, hb⟩
    have HV1 := Lib.hid (HV1.out.mono hb)
    have HV2 := Lib.hid (HV2.out.mono hb)
    have X1 := X1.mono hb
    have X2 := X2.mono hb
    have X3 := X3.mono hb
    have HV5 := Lib.hid (HV5.out.mono hb)
    have HV6 := Lib.hid (HV6.out.mono hb)
    have HV7 := Lib.hid (HV7.out.mono hb)
    have X7 := X7.mono hb
    have hE := hE.mono hb
    have hbw := Below.step hbw hb (Nat.le_refl _)
    clear hb
    clear cX1_0 cX1_1 cX7_0 cX7_1
    go_upto_region 9 with fail
    have lX8X1 := X1.lt
    have lX8X2 := X2.lt
    have lX8X3 := X3.lt
    have lX8X7 := X7.lt
    obtain ⟨wx, hwx, hszx, X8, X9, hb⟩ := boxes_22 v25 (.bool ng8) (.slice ao8 n8 cap8) 24 (.bool ng9) (.slice ao9 n9 cap9) 24
    rw [← hwx]
    clear hwx
    obtain ⟨v26, rfl⟩ : ∃ v26 : World, v26 = wx := ⟨_, rfl⟩
    have HV1 := Lib.hid (HV1.out.mono hb)
    have HV2 := Lib.hid (HV2.out.mono hb)
    have X1 := X1.mono hb
    have X2 := X2.mono hb
    have X3 := X3.mono hb
    have HV5 := Lib.hid (HV5.out.mono hb)
    have HV6 := Lib.hid (HV6.out.mono hb)
    have HV7 := Lib.hid (HV7.out.mono hb)
    have X7 := X7.mono hb
    have HV8 := Lib.hid (HV8.out.mono hb)
    have hE := hE.mono hb
    have hbw := Below.step hbw hb (Nat.le_refl _)
    clear hb
    obtain ⟨cX2_0, cX2_1, _, _⟩ := id X2
    obtain ⟨cX7_0, cX7_1, _, _⟩ := id X7
    go_wp2_with fail
    (with_reducible refine (rDiv_ok _ _ (-q) ((Int.gcd (-p) (-q) : Nat) : Int) v26 HV6.out HV7.out HG0).mono ?_)
    rintro e v27 ⟨⟨ngA, aoA, nA, capA, ngB, aoB, nB, capB, rfl, HVA⟩, hb⟩
    have HV1 := Lib.hid (HV1.out.mono hb)
    have HV2 := Lib.hid (HV2.out.mono hb)
    have X1 := X1.mono hb
    have X2 := X2.mono hb
    have X3 := X3.mono hb
    have HV5 := Lib.hid (HV5.out.mono hb)
    have HV6 := Lib.hid (HV6.out.mono hb)
    have HV7 := Lib.hid (HV7.out.mono hb)
    have X7 := X7.mono hb
    have HV8 := Lib.hid (HV8.out.mono hb)
    have X8 := X8.mono hb
    have X9 := X9.mono hb
    have hE := hE.mono hb
    have hbw := Below.step hbw hb (Nat.le_refl _)
    clear hb
    clear cX2_0 cX2_1 cX7_0 cX7_1
    go_upto_region 10 with fail
    have lXAX1 := X1.lt
    have lXAX2 := X2.lt
    have lXAX3 := X3.lt
    have lXAX7 := X7.lt
    have lXAX8 := X8.lt
    have lXAX9 := X9.lt
    obtain ⟨wx, hwx, hszx, XA, XB, hb⟩ := boxes_22 v27 (.bool ngA) (.slice aoA nA capA) 24 (.bool ngB) (.slice aoB nB capB) 24
    rw [← hwx]
    clear hwx
    obtain ⟨v28, rfl⟩ : ∃ v28 : World, v28 = wx := ⟨_, rfl⟩
    have HV1 := Lib.hid (HV1.out.mono hb)
    have HV2 := Lib.hid (HV2.out.mono hb)
    have X1 := X1.mono hb
    have X2 := X2.mono hb
    have X3 := X3.mono hb
    have HV5 := Lib.hid (HV5.out.mono hb)
    have HV6 := Lib.hid (HV6.out.mono hb)
    have HV7 := Lib.hid (HV7.out.mono hb)
    have X7 := X7.mono hb
    have HV8 := Lib.hid (HV8.out.mono hb)
    have X8 := X8.mono hb
    have X9 := X9.mono hb
    have HVA := Lib.hid (HVA.out.mono hb)
    have hE := hE.mono hb
    have hbw := Below.step hbw hb (Nat.le_refl _)
    clear hb
    have HN : Hid ((-p).tdiv ((Int.gcd (-p) (-q) : Nat) : Int) = (Rat.divInt p q).num ∧ (-q).tdiv ((Int.gcd (-p) (-q) : Nat) : Int) = ((Rat.divInt p q).den : Int)) := Lib.hid ⟨Rq.rnum_of hq.out, Rq.rden_of hq.out⟩
    rw [HN.out.1] at HV8
    rw [HN.out.2] at HVA
    obtain ⟨cX8_0, cX8_1, _, _⟩ := id X8
    obtain ⟨cXA_0, cXA_1, _, _⟩ := id XA
    obtain ⟨cX3_0, cX3_1, cX3_2, cX3_3, _, _, _, _⟩ := id X3
    go_wp2
    refine bodyPost_ret (v := .tuple #[.agg #[.bool ng8, .slice ao8 n8 cap8, .bool ngA, .slice aoA nA capA], .int .i64 0]) (by simp [results, Tryz.results16, go_sem, cX3_0, cX3_1, cX3_2, cX3_3]) rfl ⟨⟨ng8, ao8, n8, cap8, ngA, aoA, nA, capA, rfl, Lib.hid (HV8.out.put4B X3 (.bool ng8) (.slice ao8 n8 cap8) (.bool ngA) (.slice aoA nA capA)), Lib.hid (HVA.out.put4B X3 (.bool ng8) (.slice ao8 n8 cap8) (.bool ngA) (.slice aoA nA capA))⟩, Below.put4 hbw (by omega) (.bool ng8) (.slice ao8 n8 cap8) (.bool ngA) (.slice aoA nA capA)⟩

set_option maxRecDepth 100000 in
set_option maxHeartbeats 1600000 in
theorem rMake_pos (a b : Value) (p q : Int) (w : World) (ha : IntV w a p) (hb : IntV w b q) (hq : Hid (0 < q)) (hE : Env w) :
    Calls Tryz.prog 16 #[a, b] w fun e w' => GotQ w' (Rat.divInt p q) e ∧ Below w.heap.size w w' := by
  have HS : Hid (sgnI q = 1) := Lib.hid (by have := hq.out; unfold sgnI; split <;> (try split) <;> omega)
  have hE0 := hE
  have hbw := Below.refl w.heap.size w
  obtain ⟨ng1, ao1, n1, cap1, rfl⟩ := ha.parts
  have HV1 := Lib.hid ha
  clear ha
  obtain ⟨ng2, ao2, n2, cap2, rfl⟩ := hb.parts
  have HV2 := Lib.hid hb
  clear hb
  go_enter Tryz.func16, Tryz.ntmps16
  go_upto_region 1 with fail
  obtain ⟨wx, hwx, hszx, X1, X2, X3, hb⟩ := boxes_224 w (.bool ng1) (.slice ao1 n1 cap1) 24 (.bool ng2) (.slice ao2 n2 cap2) 24 (.bool false) (.slice none 0 0) (.bool false) (.slice none 0 0) 29
  rw [← hwx]
  clear hwx
  obtain ⟨v1, rfl⟩ : ∃ v1 : World, v1 = wx := ⟨_, rfl⟩
  have HV1 := Lib.hid (HV1.out.mono hb)
  have HV2 := Lib.hid (HV2.out.mono hb)
  have hE := hE.mono hb
  have hbw := Below.step hbw hb (Nat.le_refl _)
  clear hb
  obtain ⟨cX1_0, cX1_1, _, _⟩ := id X1
  go_wp2_with fail
  (with_reducible refine (rValidI _ p v1 HV1.out).mono ?_)
  rintro e v2 ⟨rfl, hb⟩
  have HV1 := Lib.hid (HV1.out.mono hb)
  have HV2 := Lib.hid (HV2.out.mono hb)
  have X1 := X1.mono hb
  have X2 := X2.mono hb
  have X3 := X3.mono hb
  have hE := hE.mono hb
  have hbw := Below.step hbw hb (Nat.le_refl _)
  clear hb
  clear cX1_0 cX1_1
  obtain ⟨cX2_0, cX2_1, _, _⟩ := id X2
  go_wp2_with fail
  (with_reducible refine (rValidI _ q v2 HV2.out).mono ?_)
  rintro e v3 ⟨rfl, hb⟩
  have HV1 := Lib.hid (HV1.out.mono hb)
  have HV2 := Lib.hid (HV2.out.mono hb)
  have X1 := X1.mono hb
  have X2 := X2.mono hb
  have X3 := X3.mono hb
  have hE := hE.mono hb
  have hbw := Below.step hbw hb (Nat.le_refl _)
  clear hb
  clear cX2_0 cX2_1
  obtain ⟨cX2_0, cX2_1, _, _⟩ := id X2
  go_wp2_with fail
  (with_reducible refine (rSign_eq _ q (1) v3 HS HV2.out).mono ?_)
  rintro e v4 ⟨rfl, hb⟩
  have HV1 := Lib.hid (HV1.out.mono hb)
  have HV2 := Lib.hid (HV2.out.mono hb)
  have X1 := X1.mono hb
  have X2 := X2.mono hb
  have X3 := X3.mono hb
  have hE := hE.mono hb
  have hbw := Below.step hbw hb (Nat.le_refl _)
  clear hb
  clear cX2_0 cX2_1
  obtain ⟨cX2_0, cX2_1, _, _⟩ := id X2
  go_wp2_with fail
  (with_reducible refine (rSign_eq _ q (1) v4 HS HV2.out).mono ?_)
  rintro e v5 ⟨rfl, hb⟩
  have HV1 := Lib.hid (HV1.out.mono hb)
  have HV2 := Lib.hid (HV2.out.mono hb)
  have X1 := X1.mono hb
  have X2 := X2.mono hb
  have X3 := X3.mono hb
  have hE := hE.mono hb
  have hbw := Below.step hbw hb (Nat.le_refl _)
  clear hb
  clear cX2_0 cX2_1
  obtain ⟨cX1_0, cX1_1, _, _⟩ := id X1
  obtain ⟨cX2_0, cX2_1, _, _⟩ := id X2
  go_wp2_with fail
  (with_reducible refine (rGcd_any _ _ p q v5 HV1.out HV2.out).mono ?_)
  rintro e v6 ⟨⟨ng7, ao7, n7, cap7, rfl, HV7⟩, hb⟩
  have HV1 := Lib.hid (HV1.out.mono hb)
  have HV2 := Lib.hid (HV2.out.mono hb)
  have X1 := X1.mono hb
  have X2 := X2.mono hb
  have X3 := X3.mono hb
  have hE := hE.mono hb
  have hbw := Below.step hbw hb (Nat.le_refl _)
  clear hb
  clear cX1_0 cX1_1 cX2_0 cX2_1
  go_upto_region 8 with fail
  have lX7X1 := X1.lt
  have lX7X2 := X2.lt
  have lX7X3 := X3.lt
  have X7 := Box.new v6 (.bool ng7) (.slice ao7 n7 cap7) 24
  have hb := below_alloc v6 (.cells #[.bool ng7, .slice ao7 n7 cap7] 24)
  generalize v6.alloc (.cells #[.bool ng7, .slice ao7 n7 cap7] 24) = v7 at *
  have HV1 := Lib.hid (HV1.out.mono hb)
  have HV2 := Lib.hid (HV2.out.mono hb)
  have X1 := X1.mono hb
  have X2 := X2.mono hb
  have X3 := X3.mono hb
  have HV7 := Lib.hid (HV7.out.mono hb)
  have hE := hE.mono hb
  have hbw := Below.step hbw hb (Nat.le_refl _)
  clear hb
  have HG0 : Hid (((Int.gcd p q : Nat) : Int) ≠ 0) := Lib.hid (by have := Rq.gcd_pos (p := p) (q := q) (by have := hq.out; omega); omega)
  obtain ⟨cX1_0, cX1_1, _, _⟩ := id X1
  obtain ⟨cX7_0, cX7_1, _, _⟩ := id X7
  go_wp2_with fail
  (with_reducible refine (rDiv_ok _ _ p ((Int.gcd p q : Nat) : Int) v7 HV1.out HV7.out HG0).mono ?_)
  rintro e v8 ⟨⟨ng8, ao8, n8, cap8, ng9, ao9, n9, cap9, rfl, HV8⟩, hb⟩
  have HV1 := Lib.hid (HV1.out.mono hb)
  have HV2 := Lib.hid (HV2.out.mono hb)
  have X1 := X1.mono hb
  have X2 := X2.mono hb
  have X3 := X3.mono hb
  have HV7 := Lib.hid (HV7.out.mono hb)
  have X7 := X7.mono hb
  have hE := hE.mono hb
  have hbw := Below.step hbw hb (Nat.le_refl _)
  clear hb
  clear cX1_0 cX1_1 cX7_0 cX7_1
  go_upto_region 9 with fail
  have lX8X1 := X1.lt
  have lX8X2 := X2.lt
  have lX8X3 := X3.lt
  have lX8X7 := X7.lt
  obtain ⟨wx, hwx, hszx, X8, X9, hb⟩ := boxes_22 v8 (.bool ng8) (.slice ao8 n8 cap8) 24 (.bool ng9) (.slice ao9 n9 cap9) 24
  rw [← hwx]
  clear hwx
  obtain ⟨v9, rfl⟩ : ∃ v9 : World, v9 = wx := ⟨_, rfl⟩
  have HV1 := Lib.hid (HV1.out.mono hb)
  have HV2 := Lib.hid (HV2.out.mono hb)
  have X1 := X1.mono hb
  have X2 := X2.mono hb
  have X3 := X3.mono hb
  have HV7 := Lib.hid (HV7.out.mono hb)
  have X7 := X7.mono hb
  have HV8 := Lib.hid (HV8.out.mono hb)
  have hE := hE.mono hb
  have hbw := Below.step hbw hb (Nat.le_refl _)
  clear hb
  obtain ⟨cX2_0, cX2_1, _, _⟩ := id X2
  obtain ⟨cX7_0, cX7_1, _, _⟩ := id X7
  go_wp2_with fail
  (with_reducible refine (rDiv_ok _ _ q ((Int.gcd p q : Nat) : Int) v9 HV2.out HV7.out HG0).mono ?_)
  rintro e v10 ⟨⟨ngA, aoA, nA, capA, ngB, aoB, nB, capB, rfl, HVA⟩, hb⟩
  have HV1 := Lib.hid (HV1.out.mono hb)
  have HV2 := Lib.hid (HV2.out.mono hb)
  have X1 := X1.mono hb
  have X2 := X2.mono hb
  have X3 := X3.mono hb
  have HV7 := Lib.hid (HV7.out.mono hb)
  have X7 := X7.mono hb
  have HV8 := Lib.hid (HV8.out.mono hb)
  have X8 := X8.mono hb
  have X9 := X9.mono hb
  have hE := hE.mono hb
  have hbw := Below.step hbw hb (Nat.le_refl _)
  clear hb
  clear cX2_0 cX2_1 cX7_0 cX7_1
  go_upto_region 10 with fail
  have lXAX1 := X1.lt
  have lXAX2 := X2.lt
  have lXAX3 := X3.lt
  have lXAX7 := X7.lt
  have lXAX8 := X8.lt
  have lXAX9 := X9.lt
  obtain ⟨wx, hwx, hszx, XA, XB, hb⟩ := boxes_22 v10 (.bool ngA) (.slice aoA nA capA) 24 (.bool ngB) (.slice aoB nB capB) 24
  rw [← hwx]
  clear hwx
  obtain ⟨v11, rfl⟩ : ∃ v11 : World, v11 = wx := ⟨_, rfl⟩
  have HV1 := Lib.hid (HV1.out.mono hb)
  have HV2 := Lib.hid (HV2.out.mono hb)
  have X1 := X1.mono hb
  have X2 := X2.mono hb
  have X3 := X3.mono hb
  have HV7 := Lib.hid (HV7.out.mono hb)
  have X7 := X7.mono hb
  have HV8 := Lib.hid (HV8.out.mono hb)
  have X8 := X8.mono hb
  have X9 := X9.mono hb
  have HVA := Lib.hid (HVA.out.mono hb)
  have hE := hE.mono hb
  have hbw := Below.step hbw hb (Nat.le_refl _)
  clear hb
  have HN : Hid (p.tdiv ((Int.gcd p q : Nat) : Int) = (Rat.divInt p q).num ∧ q.tdiv ((Int.gcd p q : Nat) : Int) = ((Rat.divInt p q).den : Int)) := Lib.hid ⟨Rq.num_pos hq.out, Rq.den_pos hq.out⟩
  rw [HN.out.1] at HV8
  rw [HN.out.2] at HVA
  obtain ⟨cX8_0, cX8_1, _, _⟩ := id X8
  obtain ⟨cXA_0, cXA_1, _, _⟩ := id XA
  obtain ⟨cX3_0, cX3_1, cX3_2, cX3_3, _, _, _, _⟩ := id X3
  go_wp2
  refine bodyPost_ret (v := .tuple #[.agg #[.bool ng8, .slice ao8 n8 cap8, .bool ngA, .slice aoA nA capA], .int .i64 0]) (by simp [results, Tryz.results16, go_sem, cX3_0, cX3_1, cX3_2, cX3_3]) rfl ⟨⟨ng8, ao8, n8, cap8, ngA, aoA, nA, capA, rfl, Lib.hid (HV8.out.put4B X3 (.bool ng8) (.slice ao8 n8 cap8) (.bool ngA) (.slice aoA nA capA)), Lib.hid (HVA.out.put4B X3 (.bool ng8) (.slice ao8 n8 cap8) (.bool ngA) (.slice aoA nA capA))⟩, Below.put4 hbw (by omega) (.bool ng8) (.slice ao8 n8 cap8) (.bool ngA) (.slice aoA nA capA)⟩

theorem rMake_ok (a b : Value) (p q : Int) (w : World) (ha : IntV w a p) (hb : IntV w b q) (hq : Hid (q ≠ 0)) (hE : Env w) :
    Calls Tryz.prog 16 #[a, b] w fun e w' => GotQ w' (Rat.divInt p q) e ∧ Below w.heap.size w w' := by
  rcases Int.lt_trichotomy q 0 with h | h | h
  · exact rMake_neg a b p q w ha hb (Lib.hid h) hE
  · exact absurd h hq.out
  · exact rMake_pos a b p q w ha hb (Lib.hid h) hE

set_option maxRecDepth 100000 in
set_option maxHeartbeats 1600000 in
theorem rMake_inv1 (x1 x2 : Bool) (l1 l2 : List Nat) (a1 a2 : Option Addr) (c1 c2 : Nat) (w : World) (m1 : l1.length ≤ 1000000000) (_m2 : l2.length ≤ 1000000000) (u1 : U w a1 l1) (u2 : U w a2 l2) (hv : Hid (¬ validP x1 l1)) (hE : Env w) :
    Calls Tryz.prog 16 #[.agg #[.bool x1, .slice a1 l1.length c1], .agg #[.bool x2, .slice a2 l2.length c2]] w fun e w' => NoQ 1 e ∧ Below w.heap.size w w' := by
  have hE0 := hE
  have hbw := Below.refl w.heap.size w
  go_enter Tryz.func16, Tryz.ntmps16
  go_upto_region 1 with fail
  obtain ⟨wx, hwx, hszx, X1, X2, X3, hb⟩ := boxes_224 w (.bool x1) (.slice a1 l1.length c1) 24 (.bool x2) (.slice a2 l2.length c2) 24 (.bool false) (.slice none 0 0) (.bool false) (.slice none 0 0) 29
  rw [← hwx]
  clear hwx
  obtain ⟨v1, rfl⟩ : ∃ v1 : World, v1 = wx := ⟨_, rfl⟩
  have u1 := u1.mono hb
  have u2 := u2.mono hb
  have hE := hE.mono hb
  have hbw := Below.step hbw hb (Nat.le_refl _)
  clear hb
  obtain ⟨cX1_0, cX1_1, _, _⟩ := id X1
  go_wp2_with fail
  (with_reducible refine (rvalid_no x1 l1 a1 c1 v1 m1 hv u1).mono ?_)
  rintro e v2 ⟨rfl, hb⟩
  have u1 := u1.mono hb
  have u2 := u2.mono hb
  have X1 := X1.mono hb
  have X2 := X2.mono hb
  have X3 := X3.mono hb
  have hE := hE.mono hb
  have hbw := Below.step hbw hb (Nat.le_refl _)
  clear hb
  clear cX1_0 cX1_1
  obtain ⟨cX3_0, cX3_1, cX3_2, cX3_3, _, _, _, _⟩ := id X3
  go_wp2
  refine bodyPost_ret (v := .tuple #[.agg #[.bool false, .slice none 0 0, .bool false, .slice none 0 0], .int .i64 1]) (by simp [results, Tryz.results16, go_sem, cX3_0, cX3_1, cX3_2, cX3_3]) rfl ⟨rfl, Below.put4 hbw (by omega) (.bool false) (.slice none 0 0) (.bool false) (.slice none 0 0)⟩

set_option maxRecDepth 100000 in
set_option maxHeartbeats 1600000 in
theorem rMake_inv2 (x1 x2 : Bool) (l1 l2 : List Nat) (a1 a2 : Option Addr) (c1 c2 : Nat) (w : World) (m1 : l1.length ≤ 1000000000) (m2 : l2.length ≤ 1000000000) (u1 : U w a1 l1) (u2 : U w a2 l2) (hv : Hid (Hid (validP x1 l1) ∧ Hid (¬ validP x2 l2))) (hE : Env w) :
    Calls Tryz.prog 16 #[.agg #[.bool x1, .slice a1 l1.length c1], .agg #[.bool x2, .slice a2 l2.length c2]] w fun e w' => NoQ 1 e ∧ Below w.heap.size w w' := by
  have hE0 := hE
  have hbw := Below.refl w.heap.size w
  go_enter Tryz.func16, Tryz.ntmps16
  go_upto_region 1 with fail
  obtain ⟨wx, hwx, hszx, X1, X2, X3, hb⟩ := boxes_224 w (.bool x1) (.slice a1 l1.length c1) 24 (.bool x2) (.slice a2 l2.length c2) 24 (.bool false) (.slice none 0 0) (.bool false) (.slice none 0 0) 29
  rw [← hwx]
  clear hwx
  obtain ⟨v1, rfl⟩ : ∃ v1 : World, v1 = wx := ⟨_, rfl⟩
  have u1 := u1.mono hb
  have u2 := u2.mono hb
  have hE := hE.mono hb
  have hbw := Below.step hbw hb (Nat.le_refl _)
  clear hb
  obtain ⟨cX1_0, cX1_1, _, _⟩ := id X1
  go_wp2_with fail
  (with_reducible refine (rvalid_yes x1 l1 a1 c1 v1 m1 hv.out.1 u1).mono ?_)
  rintro e v2 ⟨rfl, hb⟩
  have u1 := u1.mono hb
  have u2 := u2.mono hb
  have X1 := X1.mono hb
  have X2 := X2.mono hb
  have X3 := X3.mono hb
  have hE := hE.mono hb
  have hbw := Below.step hbw hb (Nat.le_refl _)
  clear hb
  clear cX1_0 cX1_1
  obtain ⟨cX2_0, cX2_1, _, _⟩ := id X2
  go_wp2_with fail
  (with_reducible refine (rvalid_no x2 l2 a2 c2 v2 m2 hv.out.2 u2).mono ?_)
  rintro e v3 ⟨rfl, hb⟩
  have u1 := u1.mono hb
  have u2 := u2.mono hb
  have X1 := X1.mono hb
  have X2 := X2.mono hb
  have X3 := X3.mono hb
  have hE := hE.mono hb
  have hbw := Below.step hbw hb (Nat.le_refl _)
  clear hb
  clear cX2_0 cX2_1
  obtain ⟨cX3_0, cX3_1, cX3_2, cX3_3, _, _, _, _⟩ := id X3
  go_wp2
  refine bodyPost_ret (v := .tuple #[.agg #[.bool false, .slice none 0 0, .bool false, .slice none 0 0], .int .i64 1]) (by simp [results, Tryz.results16, go_sem, cX3_0, cX3_1, cX3_2, cX3_3]) rfl ⟨rfl, Below.put4 hbw (by omega) (.bool false) (.slice none 0 0) (.bool false) (.slice none 0 0)⟩

set_option maxRecDepth 100000 in
set_option maxHeartbeats 1600000 in
theorem rOf_ok (n d : Int) (w : World) (hn1 : -9223372036854775808 ≤ n) (hn2 : n ≤ 9223372036854775807) (hd1 : -9223372036854775808 ≤ d) (hd2 : d ≤ 9223372036854775807) (hd : Hid (d ≠ 0)) (hE : Env w) :
    Calls Tryz.prog 18 #[.int .i64 n, .int .i64 d] w fun e w' => GotQ w' (Rat.divInt n d) e ∧ Below w.heap.size w w' := by
  have hE0 := hE
  have hbw := Below.refl w.heap.size w
  go_enter Tryz.func18, Tryz.ntmps18
  go_upto_region 1 with fail
  have X3 := Box4.new w (.bool false) (.slice none 0 0) (.bool false) (.slice none 0 0) 29
  have hb := below_alloc w (.cells #[.bool false, .slice none 0 0, .bool false, .slice none 0 0] 29)
  generalize w.alloc (.cells #[.bool false, .slice none 0 0, .bool false, .slice none 0 0] 29) = v1 at *
  have hE := hE.mono hb
  have hbw := Below.step hbw hb (Nat.le_refl _)
  clear hb
  go_wp2_with fail
  (with_reducible refine (rof_any n hn1 hn2 v1 hE).mono ?_)
  rintro e v2 ⟨⟨ng1, ao1, n1, cap1, rfl, HV1⟩, hb⟩
  have X3 := X3.mono hb
  have hE := hE.mono hb
  have hbw := Below.step hbw hb (Nat.le_refl _)
  clear hb
  go_wp2_with fail
  (with_reducible refine (rof_any d hd1 hd2 v2 hE).mono ?_)
  rintro e v3 ⟨⟨ng2, ao2, n2, cap2, rfl, HV2⟩, hb⟩
  have X3 := X3.mono hb
  have HV1 := Lib.hid (HV1.out.mono hb)
  have hE := hE.mono hb
  have hbw := Below.step hbw hb (Nat.le_refl _)
  clear hb
  go_wp2_with fail
  (with_reducible refine (rMake_ok _ _ n d v3 HV1.out HV2.out hd hE).mono ?_)
  rintro e v4 ⟨⟨ng3, ao3, n3, cap3, ng4, ao4, n4, cap4, rfl, HV3, HV4⟩, hb⟩
  have X3 := X3.mono hb
  have HV1 := Lib.hid (HV1.out.mono hb)
  have HV2 := Lib.hid (HV2.out.mono hb)
  have hE := hE.mono hb
  have hbw := Below.step hbw hb (Nat.le_refl _)
  clear hb
  obtain ⟨cX3_0, cX3_1, cX3_2, cX3_3, _, _, _, _⟩ := id X3
  go_wp2
  refine bodyPost_ret (v := .tuple #[.agg #[.bool ng3, .slice ao3 n3 cap3, .bool ng4, .slice ao4 n4 cap4], .int .i64 0]) (by simp [results, Tryz.results18, go_sem, cX3_0, cX3_1, cX3_2, cX3_3]) rfl ⟨⟨ng3, ao3, n3, cap3, ng4, ao4, n4, cap4, rfl, Lib.hid (HV3.out.put4B X3 (.bool ng3) (.slice ao3 n3 cap3) (.bool ng4) (.slice ao4 n4 cap4)), Lib.hid (HV4.out.put4B X3 (.bool ng3) (.slice ao3 n3 cap3) (.bool ng4) (.slice ao4 n4 cap4))⟩, Below.put4 hbw (by omega) (.bool ng3) (.slice ao3 n3 cap3) (.bool ng4) (.slice ao4 n4 cap4)⟩

set_option maxRecDepth 100000 in
set_option maxHeartbeats 1600000 in
theorem rOf_zero (n d : Int) (w : World) (hn1 : -9223372036854775808 ≤ n) (hn2 : n ≤ 9223372036854775807) (hd1 : -9223372036854775808 ≤ d) (hd2 : d ≤ 9223372036854775807) (hd : Hid (d = 0)) (hE : Env w) :
    Calls Tryz.prog 18 #[.int .i64 n, .int .i64 d] w fun e w' => NoQ 8 e ∧ Below w.heap.size w w' := by
  have hE0 := hE
  have hbw := Below.refl w.heap.size w
  go_enter Tryz.func18, Tryz.ntmps18
  go_upto_region 1 with fail
  have X3 := Box4.new w (.bool false) (.slice none 0 0) (.bool false) (.slice none 0 0) 29
  have hb := below_alloc w (.cells #[.bool false, .slice none 0 0, .bool false, .slice none 0 0] 29)
  generalize w.alloc (.cells #[.bool false, .slice none 0 0, .bool false, .slice none 0 0] 29) = v1 at *
  have hE := hE.mono hb
  have hbw := Below.step hbw hb (Nat.le_refl _)
  clear hb
  go_wp2_with fail
  (with_reducible refine (rof_any n hn1 hn2 v1 hE).mono ?_)
  rintro e v2 ⟨⟨ng1, ao1, n1, cap1, rfl, HV1⟩, hb⟩
  have X3 := X3.mono hb
  have hE := hE.mono hb
  have hbw := Below.step hbw hb (Nat.le_refl _)
  clear hb
  go_wp2_with fail
  (with_reducible refine (rof_any d hd1 hd2 v2 hE).mono ?_)
  rintro e v3 ⟨⟨ng2, ao2, n2, cap2, rfl, HV2⟩, hb⟩
  have X3 := X3.mono hb
  have HV1 := Lib.hid (HV1.out.mono hb)
  have hE := hE.mono hb
  have hbw := Below.step hbw hb (Nat.le_refl _)
  clear hb
  go_wp2_with fail
  (with_reducible refine (rMake_zero _ _ n d v3 HV1.out HV2.out hd hE).mono ?_)
  rintro e v4 ⟨rfl, hb⟩
  have X3 := X3.mono hb
  have HV1 := Lib.hid (HV1.out.mono hb)
  have HV2 := Lib.hid (HV2.out.mono hb)
  have hE := hE.mono hb
  have hbw := Below.step hbw hb (Nat.le_refl _)
  clear hb
  obtain ⟨cX3_0, cX3_1, cX3_2, cX3_3, _, _, _, _⟩ := id X3
  go_wp2
  refine bodyPost_ret (v := .tuple #[.agg #[.bool false, .slice none 0 0, .bool false, .slice none 0 0], .int .i64 8]) (by simp [results, Tryz.results18, go_sem, cX3_0, cX3_1, cX3_2, cX3_3]) rfl ⟨rfl, Below.put4 hbw (by omega) (.bool false) (.slice none 0 0) (.bool false) (.slice none 0 0)⟩

set_option maxRecDepth 100000 in
set_option maxHeartbeats 1600000 in
theorem eqQ_same {ng1 : Bool} {ao1 : Option Addr} {n1 cap1 : Nat} {ng2 : Bool} {ao2 : Option Addr} {n2 cap2 : Nat} {ng3 : Bool} {ao3 : Option Addr} {n3 cap3 : Nat} {ng4 : Bool} {ao4 : Option Addr} {n4 cap4 : Nat} (p d x y : Int) (w : World) (hs : Hid (p = x ∧ d = y)) (h1 : IntV w (.agg #[.bool ng1, .slice ao1 n1 cap1]) p) (h2 : IntV w (.agg #[.bool ng2, .slice ao2 n2 cap2]) d) (h3 : IntV w (.agg #[.bool ng3, .slice ao3 n3 cap3]) x) (h4 : IntV w (.agg #[.bool ng4, .slice ao4 n4 cap4]) y) (hE : Env w) :
    Calls Tryz.prog 19 #[.agg #[.bool ng1, .slice ao1 n1 cap1, .bool ng2, .slice ao2 n2 cap2], .agg #[.bool ng3, .slice ao3 n3 cap3, .bool ng4, .slice ao4 n4 cap4]] w fun e w' => e = .returned (.bool true) ∧ Below w.heap.size w w' := by
  have hE0 := hE
  have hbw := Below.refl w.heap.size w
  go_enter Tryz.func19, Tryz.ntmps19
  have HV1 := Lib.hid h1
  have HV2 := Lib.hid h2
  have HV3 := Lib.hid h3
  have HV4 := Lib.hid h4
  clear h1 h2 h3 h4
  go_upto_region 1 with fail
  obtain ⟨wx, hwx, hszx, X1, X2, hb⟩ := boxes_44 w (.bool ng1) (.slice ao1 n1 cap1) (.bool ng2) (.slice ao2 n2 cap2) 29 (.bool ng3) (.slice ao3 n3 cap3) (.bool ng4) (.slice ao4 n4 cap4) 29
  rw [← hwx]
  clear hwx
  obtain ⟨v1, rfl⟩ : ∃ v1 : World, v1 = wx := ⟨_, rfl⟩
  have HV1 := Lib.hid (HV1.out.mono hb)
  have HV2 := Lib.hid (HV2.out.mono hb)
  have HV3 := Lib.hid (HV3.out.mono hb)
  have HV4 := Lib.hid (HV4.out.mono hb)
  have hE := hE.mono hb
  have hbw := Below.step hbw hb (Nat.le_refl _)
  clear hb
  obtain ⟨cX1_0, cX1_1, cX1_2, cX1_3, _, _, _, _⟩ := id X1
  obtain ⟨cX2_0, cX2_1, cX2_2, cX2_3, _, _, _, _⟩ := id X2
  go_wp2_with fail
  (with_reducible refine (eqI_eq _ _ p x true v1 (Lib.hid (by have := hs.out; simp; omega)) HV1.out HV3.out).mono ?_)
  rintro e v2 ⟨rfl, hb⟩
  have HV1 := Lib.hid (HV1.out.mono hb)
  have HV2 := Lib.hid (HV2.out.mono hb)
  have HV3 := Lib.hid (HV3.out.mono hb)
  have HV4 := Lib.hid (HV4.out.mono hb)
  have X1 := X1.mono hb
  have X2 := X2.mono hb
  have hE := hE.mono hb
  have hbw := Below.step hbw hb (Nat.le_refl _)
  clear hb
  clear cX1_0 cX1_1 cX1_2 cX1_3 cX2_0 cX2_1 cX2_2 cX2_3
  obtain ⟨cX1_0, cX1_1, cX1_2, cX1_3, _, _, _, _⟩ := id X1
  obtain ⟨cX2_0, cX2_1, cX2_2, cX2_3, _, _, _, _⟩ := id X2
  go_wp2_with fail
  (with_reducible refine (eqI_eq _ _ d y true v2 (Lib.hid (by have := hs.out; simp; omega)) HV2.out HV4.out).mono ?_)
  rintro e v3 ⟨rfl, hb⟩
  have HV1 := Lib.hid (HV1.out.mono hb)
  have HV2 := Lib.hid (HV2.out.mono hb)
  have HV3 := Lib.hid (HV3.out.mono hb)
  have HV4 := Lib.hid (HV4.out.mono hb)
  have X1 := X1.mono hb
  have X2 := X2.mono hb
  have hE := hE.mono hb
  have hbw := Below.step hbw hb (Nat.le_refl _)
  clear hb
  clear cX1_0 cX1_1 cX1_2 cX1_3 cX2_0 cX2_1 cX2_2 cX2_3
  go_wp2
  go_ret
  exact ⟨rfl, hbw⟩

set_option maxRecDepth 100000 in
set_option maxHeartbeats 1600000 in
theorem eqQ_num {ng1 : Bool} {ao1 : Option Addr} {n1 cap1 : Nat} {ng2 : Bool} {ao2 : Option Addr} {n2 cap2 : Nat} {ng3 : Bool} {ao3 : Option Addr} {n3 cap3 : Nat} {ng4 : Bool} {ao4 : Option Addr} {n4 cap4 : Nat} (p d x y : Int) (w : World) (hs : Hid (p ≠ x)) (h1 : IntV w (.agg #[.bool ng1, .slice ao1 n1 cap1]) p) (h2 : IntV w (.agg #[.bool ng2, .slice ao2 n2 cap2]) d) (h3 : IntV w (.agg #[.bool ng3, .slice ao3 n3 cap3]) x) (h4 : IntV w (.agg #[.bool ng4, .slice ao4 n4 cap4]) y) (hE : Env w) :
    Calls Tryz.prog 19 #[.agg #[.bool ng1, .slice ao1 n1 cap1, .bool ng2, .slice ao2 n2 cap2], .agg #[.bool ng3, .slice ao3 n3 cap3, .bool ng4, .slice ao4 n4 cap4]] w fun e w' => e = .returned (.bool false) ∧ Below w.heap.size w w' := by
  have hE0 := hE
  have hbw := Below.refl w.heap.size w
  go_enter Tryz.func19, Tryz.ntmps19
  have HV1 := Lib.hid h1
  have HV2 := Lib.hid h2
  have HV3 := Lib.hid h3
  have HV4 := Lib.hid h4
  clear h1 h2 h3 h4
  go_upto_region 1 with fail
  obtain ⟨wx, hwx, hszx, X1, X2, hb⟩ := boxes_44 w (.bool ng1) (.slice ao1 n1 cap1) (.bool ng2) (.slice ao2 n2 cap2) 29 (.bool ng3) (.slice ao3 n3 cap3) (.bool ng4) (.slice ao4 n4 cap4) 29
  rw [← hwx]
  clear hwx
  obtain ⟨v1, rfl⟩ : ∃ v1 : World, v1 = wx := ⟨_, rfl⟩
  have HV1 := Lib.hid (HV1.out.mono hb)
  have HV2 := Lib.hid (HV2.out.mono hb)
  have HV3 := Lib.hid (HV3.out.mono hb)
  have HV4 := Lib.hid (HV4.out.mono hb)
  have hE := hE.mono hb
  have hbw := Below.step hbw hb (Nat.le_refl _)
  clear hb
  obtain ⟨cX1_0, cX1_1, cX1_2, cX1_3, _, _, _, _⟩ := id X1
  obtain ⟨cX2_0, cX2_1, cX2_2, cX2_3, _, _, _, _⟩ := id X2
  go_wp2_with fail
  (with_reducible refine (eqI_eq _ _ p x false v1 (Lib.hid (by have := hs.out; simp; omega)) HV1.out HV3.out).mono ?_)
  rintro e v2 ⟨rfl, hb⟩
  have HV1 := Lib.hid (HV1.out.mono hb)
  have HV2 := Lib.hid (HV2.out.mono hb)
  have HV3 := Lib.hid (HV3.out.mono hb)
  have HV4 := Lib.hid (HV4.out.mono hb)
  have X1 := X1.mono hb
  have X2 := X2.mono hb
  have hE := hE.mono hb
  have hbw := Below.step hbw hb (Nat.le_refl _)
  clear hb
  clear cX1_0 cX1_1 cX1_2 cX1_3 cX2_0 cX2_1 cX2_2 cX2_3
  go_wp2
  go_ret
  exact ⟨rfl, hbw⟩

set_option maxRecDepth 100000 in
set_option maxHeartbeats 1600000 in
theorem eqQ_den {ng1 : Bool} {ao1 : Option Addr} {n1 cap1 : Nat} {ng2 : Bool} {ao2 : Option Addr} {n2 cap2 : Nat} {ng3 : Bool} {ao3 : Option Addr} {n3 cap3 : Nat} {ng4 : Bool} {ao4 : Option Addr} {n4 cap4 : Nat} (p d x y : Int) (w : World) (hs : Hid (p = x ∧ d ≠ y)) (h1 : IntV w (.agg #[.bool ng1, .slice ao1 n1 cap1]) p) (h2 : IntV w (.agg #[.bool ng2, .slice ao2 n2 cap2]) d) (h3 : IntV w (.agg #[.bool ng3, .slice ao3 n3 cap3]) x) (h4 : IntV w (.agg #[.bool ng4, .slice ao4 n4 cap4]) y) (hE : Env w) :
    Calls Tryz.prog 19 #[.agg #[.bool ng1, .slice ao1 n1 cap1, .bool ng2, .slice ao2 n2 cap2], .agg #[.bool ng3, .slice ao3 n3 cap3, .bool ng4, .slice ao4 n4 cap4]] w fun e w' => e = .returned (.bool false) ∧ Below w.heap.size w w' := by
  have hE0 := hE
  have hbw := Below.refl w.heap.size w
  go_enter Tryz.func19, Tryz.ntmps19
  have HV1 := Lib.hid h1
  have HV2 := Lib.hid h2
  have HV3 := Lib.hid h3
  have HV4 := Lib.hid h4
  clear h1 h2 h3 h4
  go_upto_region 1 with fail
  obtain ⟨wx, hwx, hszx, X1, X2, hb⟩ := boxes_44 w (.bool ng1) (.slice ao1 n1 cap1) (.bool ng2) (.slice ao2 n2 cap2) 29 (.bool ng3) (.slice ao3 n3 cap3) (.bool ng4) (.slice ao4 n4 cap4) 29
  rw [← hwx]
  clear hwx
  obtain ⟨v1, rfl⟩ : ∃ v1 : World, v1 = wx := ⟨_, rfl⟩
  have HV1 := Lib.hid (HV1.out.mono hb)
  have HV2 := Lib.hid (HV2.out.mono hb)
  have HV3 := Lib.hid (HV3.out.mono hb)
  have HV4 := Lib.hid (HV4.out.mono hb)
  have hE := hE.mono hb
  have hbw := Below.step hbw hb (Nat.le_refl _)
  clear hb
  obtain ⟨cX1_0, cX1_1, cX1_2, cX1_3, _, _, _, _⟩ := id X1
  obtain ⟨cX2_0, cX2_1, cX2_2, cX2_3, _, _, _, _⟩ := id X2
  go_wp2_with fail
  (with_reducible refine (eqI_eq _ _ p x true v1 (Lib.hid (by have := hs.out; simp; omega)) HV1.out HV3.out).mono ?_)
  rintro e v2 ⟨rfl, hb⟩
  have HV1 := Lib.hid (HV1.out.mono hb)
  have HV2 := Lib.hid (HV2.out.mono hb)
  have HV3 := Lib.hid (HV3.out.mono hb)
  have HV4 := Lib.hid (HV4.out.mono hb)
  have X1 := X1.mono hb
  have X2 := X2.mono hb
  have hE := hE.mono hb
  have hbw := Below.step hbw hb (Nat.le_refl _)
  clear hb
  clear cX1_0 cX1_1 cX1_2 cX1_3 cX2_0 cX2_1 cX2_2 cX2_3
  obtain ⟨cX1_0, cX1_1, cX1_2, cX1_3, _, _, _, _⟩ := id X1
  obtain ⟨cX2_0, cX2_1, cX2_2, cX2_3, _, _, _, _⟩ := id X2
  go_wp2_with fail
  (with_reducible refine (eqI_eq _ _ d y false v2 (Lib.hid (by have := hs.out; simp; omega)) HV2.out HV4.out).mono ?_)
  rintro e v3 ⟨rfl, hb⟩
  have HV1 := Lib.hid (HV1.out.mono hb)
  have HV2 := Lib.hid (HV2.out.mono hb)
  have HV3 := Lib.hid (HV3.out.mono hb)
  have HV4 := Lib.hid (HV4.out.mono hb)
  have X1 := X1.mono hb
  have X2 := X2.mono hb
  have hE := hE.mono hb
  have hbw := Below.step hbw hb (Nat.le_refl _)
  clear hb
  clear cX1_0 cX1_1 cX1_2 cX1_3 cX2_0 cX2_1 cX2_2 cX2_3
  go_wp2
  go_ret
  exact ⟨rfl, hbw⟩

end Go.Proofs.YtgenhkakcbedaaaGreatDoor
