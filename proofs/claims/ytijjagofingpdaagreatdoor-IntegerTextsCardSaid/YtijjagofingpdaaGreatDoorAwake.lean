import Derived.Test.YtijjagofingpdaaGreatDoorParseB
namespace Go.Proofs.YtijjagofingpdaaGreatDoor
open Go.RowKit

/-- two integers with a value each are equal where the values are -/
theorem eqV_any (a b : Value) (x y : Int) (w : World) (ha : IntV w a x) (hb : IntV w b y) :
    Calls Tryz.prog 13 #[a, b] w fun e w' => e = .returned (.bool (decide (x = y))) ∧ Below w.heap.size w w' := by
  obtain ⟨n1, ao1, L1, c1, rfl, Hn1, HL1, HB1, hc1, hl1, hU1⟩ := ha
  obtain ⟨n2, ao2, L2, c2, rfl, Hn2, HL2, HB2, hc2, hl2, hU2⟩ := hb
  refine (equal_any n1 n2 L1 L2 ao1 ao2 c1 c2 w (by omega) (by omega) hU1 hU2).mono ?_
  rintro e w' ⟨⟨r, HR, rfl⟩, hb⟩
  refine ⟨ret_bool ?_, hb⟩
  have h := HR.out
  have e1 := sgn_of x n1 Hn1.out
  have e2 := sgn_of y n2 Hn2.out
  by_cases hxy : x = y
  · subst hxy
    rw [h.2 ⟨by rw [Hn1.out, Hn2.out], by rw [HL1.out, HL2.out]⟩]; simp
  · cases r with
    | false => simp [hxy]
    | true =>
      obtain ⟨h1, h2⟩ := h.1 rfl
      rw [HL1.out, HL2.out] at h2
      have := Bi.limbs_inj h2
      rw [← e1, ← e2, h1, this] at hxy
      exact absurd rfl hxy

theorem eqV_same (x : Int) (a b : Value) (w : World) (ha : IntV w a x) (hb : IntV w b x) :
    Calls Tryz.prog 13 #[a, b] w fun e w' => e = .returned (.bool true) ∧ Below w.heap.size w w' := by
  have := eqV_any a b x x w ha hb
  simpa using this

theorem U.lit2 (w : World) (Y0 Y1 : Int) (y0 y1 : Nat) (t : TypeId) (h0 : Y0 = (y0 : Int)) (h1 : Y1 = (y1 : Int)) : U (w.alloc (.cells #[.int .u32 Y0, .int .u32 Y1] t)) (some ⟨w.heap.size, 0, none⟩) [y0, y1] := by
  subst h0 h1
  intro i h
  match i, h with
  | 0, _ => exact ⟨w.heap.size, 0, rfl, by simp [go_sem]⟩
  | 1, _ => exact ⟨w.heap.size, 0, rfl, by simp [go_sem]⟩
  | i + 2, h => simp at h; omega

theorem big_small {k : Nat} (h : k ≤ 9223372036854775808) : k < Bi.Big := small_big h

theorem Parse_minus0 (w : World) : Calls Tryz.prog 9 #[.string ⟨#[45, 48]⟩] w fun e w' => e = .returned (.tuple #[.agg #[.bool false, .slice none 0 0], .int .i64 2]) ∧ Below w.heap.size w w' :=
  Parse_bad [45, 48] w (by simp) (Lib.hid (by
    have h1 : Lib.hasPrefix [45, 48] [45] = true := by decide
    have h2 : Lib.trimPrefix [45, 48] [45] = [48] := by decide
    rw [h1, h2]; unfold Bi.textP; simp))

theorem Parse_007 (w : World) : Calls Tryz.prog 9 #[.string ⟨#[48, 48, 55]⟩] w fun e w' => e = .returned (.tuple #[.agg #[.bool false, .slice none 0 0], .int .i64 2]) ∧ Below w.heap.size w w' :=
  Parse_bad [48, 48, 55] w (by simp) (Lib.hid (by
    have h1 : Lib.hasPrefix [48, 48, 55] [45] = false := by decide
    have h2 : Lib.trimPrefix [48, 48, 55] [45] = [48, 48, 55] := by decide
    rw [h1, h2]; unfold Bi.textP; simp))

set_option maxRecDepth 100000 in
set_option maxHeartbeats 3200000 in
theorem awake_any (w : World) (hE : Env w) : Calls Tryz.prog 6 #[] w fun e w' => e = .returned (.bool true) ∧ Below w.heap.size w w' := by
  have hbw := Below.refl w.heap.size w
  go_enter Tryz.func6, Tryz.ntmps6
  go_wp2_with fail
  (with_reducible refine (of_any (-1000000007) (by decide) (by decide) w hE).mono ?_)
  rintro e w1 ⟨⟨ng1, ao1, n1, cap1, rfl, HV1⟩, hb⟩
  have hE := hE.mono hb
  have hbw := Below.step hbw hb (Nat.le_refl _)
  clear hb
  go_wp2_with fail
  have X1 := Box.new w1 (.bool ng1) (.slice ao1 n1 cap1) 25
  have hb := below_alloc w1 (.cells #[.bool ng1, .slice ao1 n1 cap1] 25)
  generalize w1.alloc (.cells #[.bool ng1, .slice ao1 n1 cap1] 25) = w2 at *
  have HV1 := Lib.hid (HV1.out.mono hb)
  have hE := hE.mono hb
  have hbw := Below.step hbw hb (Nat.le_refl _)
  clear hb
  go_wp2_with fail
  (with_reducible refine (of_any (-7) (by decide) (by decide) w2 hE).mono ?_)
  rintro e w3 ⟨⟨ng2, ao2, n2, cap2, rfl, HV2⟩, hb⟩
  have HV1 := Lib.hid (HV1.out.mono hb)
  have X1 := X1.mono hb
  have hE := hE.mono hb
  have hbw := Below.step hbw hb (Nat.le_refl _)
  clear hb
  go_wp2_with fail
  (with_reducible refine (of_any (2) (by decide) (by decide) w3 hE).mono ?_)
  rintro e w4 ⟨⟨ng3, ao3, n3, cap3, rfl, HV3⟩, hb⟩
  have HV1 := Lib.hid (HV1.out.mono hb)
  have HV2 := Lib.hid (HV2.out.mono hb)
  have X1 := X1.mono hb
  have hE := hE.mono hb
  have hbw := Below.step hbw hb (Nat.le_refl _)
  clear hb
  go_wp2_with fail
  (with_reducible refine (Div_any _ _ (-7) 2 w4 HV2.out HV3.out (Lib.hid (by decide)) hE).mono ?_)
  rintro e w5 ⟨⟨ng4, ao4, n4, cap4, ng5, ao5, n5, cap5, rfl, HV4, HV5⟩, hb⟩
  have HV1 := Lib.hid (HV1.out.mono hb)
  have HV2 := Lib.hid (HV2.out.mono hb)
  have HV3 := Lib.hid (HV3.out.mono hb)
  have X1 := X1.mono hb
  have hE := hE.mono hb
  have hbw := Below.step hbw hb (Nat.le_refl _)
  clear hb
  clear HV2 HV3
  go_wp2_with fail
  obtain ⟨wx, hwx, hszx, X4, X5, hb⟩ := boxes2 w5 (.bool ng4) (.slice ao4 n4 cap4) (.bool ng5) (.slice ao5 n5 cap5) 25
  rw [← hwx]
  clear hwx hszx
  obtain ⟨w6, rfl⟩ : ∃ w6 : World, w6 = wx := ⟨_, rfl⟩
  have HV1 := Lib.hid (HV1.out.mono hb)
  have HV4 := Lib.hid (HV4.out.mono hb)
  have HV5 := Lib.hid (HV5.out.mono hb)
  have X1 := X1.mono hb
  have hE := hE.mono hb
  have hbw := Below.step hbw hb (Nat.le_refl _)
  clear hb
  go_wp2_with fail
  (with_reducible refine (of_any (-12) (by decide) (by decide) w6 hE).mono ?_)
  rintro e w7 ⟨⟨ng6, ao6, n6, cap6, rfl, HV6⟩, hb⟩
  have HV1 := Lib.hid (HV1.out.mono hb)
  have HV4 := Lib.hid (HV4.out.mono hb)
  have HV5 := Lib.hid (HV5.out.mono hb)
  have X1 := X1.mono hb
  have X4 := X4.mono hb
  have X5 := X5.mono hb
  have hE := hE.mono hb
  have hbw := Below.step hbw hb (Nat.le_refl _)
  clear hb
  go_wp2_with fail
  (with_reducible refine (of_any (18) (by decide) (by decide) w7 hE).mono ?_)
  rintro e w8 ⟨⟨ng7, ao7, n7, cap7, rfl, HV7⟩, hb⟩
  have HV1 := Lib.hid (HV1.out.mono hb)
  have HV4 := Lib.hid (HV4.out.mono hb)
  have HV5 := Lib.hid (HV5.out.mono hb)
  have HV6 := Lib.hid (HV6.out.mono hb)
  have X1 := X1.mono hb
  have X4 := X4.mono hb
  have X5 := X5.mono hb
  have hE := hE.mono hb
  have hbw := Below.step hbw hb (Nat.le_refl _)
  clear hb
  go_wp2_with fail
  (with_reducible refine (Gcd_any _ _ (-12) 18 w8 HV6.out HV7.out hE).mono ?_)
  rintro e w9 ⟨⟨ng8, ao8, n8, cap8, k8, rfl, HR8⟩, hb⟩
  have HV1 := Lib.hid (HV1.out.mono hb)
  have HV4 := Lib.hid (HV4.out.mono hb)
  have HV5 := Lib.hid (HV5.out.mono hb)
  have HV6 := Lib.hid (HV6.out.mono hb)
  have HV7 := Lib.hid (HV7.out.mono hb)
  have X1 := X1.mono hb
  have X4 := X4.mono hb
  have X5 := X5.mono hb
  have hE := hE.mono hb
  have hbw := Below.step hbw hb (Nat.le_refl _)
  clear hb
  clear HV6 HV7
  have HK8 : Hid (k8 = 0 ∧ IntV w9 (.agg #[.bool ng8, .slice ao8 n8 cap8]) 6) := Lib.hid (by
    rcases HR8.out with ⟨_, h1, h2⟩ | ⟨h, _⟩
    · exact ⟨h1, h2⟩
    · exact absurd (big_small (by decide)) h)
  obtain rfl := HK8.out.1
  have HV8 := Lib.hid HK8.out.2
  clear HR8 HK8
  go_wp2_with fail
  have X8 := Box.new w9 (.bool ng8) (.slice ao8 n8 cap8) 25
  have hb := below_alloc w9 (.cells #[.bool ng8, .slice ao8 n8 cap8] 25)
  generalize w9.alloc (.cells #[.bool ng8, .slice ao8 n8 cap8] 25) = w10 at *
  have HV1 := Lib.hid (HV1.out.mono hb)
  have HV4 := Lib.hid (HV4.out.mono hb)
  have HV5 := Lib.hid (HV5.out.mono hb)
  have HV8 := Lib.hid (HV8.out.mono hb)
  have X1 := X1.mono hb
  have X4 := X4.mono hb
  have X5 := X5.mono hb
  have hE := hE.mono hb
  have hbw := Below.step hbw hb (Nat.le_refl _)
  clear hb
  go_wp2_with fail
  (with_reducible refine (Parse_minus0 w10).mono ?_)
  rintro e w11 ⟨rfl, hb⟩
  have HV1 := Lib.hid (HV1.out.mono hb)
  have HV4 := Lib.hid (HV4.out.mono hb)
  have HV5 := Lib.hid (HV5.out.mono hb)
  have HV8 := Lib.hid (HV8.out.mono hb)
  have X1 := X1.mono hb
  have X4 := X4.mono hb
  have X5 := X5.mono hb
  have X8 := X8.mono hb
  have hE := hE.mono hb
  have hbw := Below.step hbw hb (Nat.le_refl _)
  clear hb
  go_wp2_with fail
  have hb := below_alloc w11 (.cells #[.bool false, .slice none 0 0] 25)
  generalize w11.alloc (.cells #[.bool false, .slice none 0 0] 25) = w12 at *
  have HV1 := Lib.hid (HV1.out.mono hb)
  have HV4 := Lib.hid (HV4.out.mono hb)
  have HV5 := Lib.hid (HV5.out.mono hb)
  have HV8 := Lib.hid (HV8.out.mono hb)
  have X1 := X1.mono hb
  have X4 := X4.mono hb
  have X5 := X5.mono hb
  have X8 := X8.mono hb
  have hE := hE.mono hb
  have hbw := Below.step hbw hb (Nat.le_refl _)
  clear hb
  go_wp2_with fail
  (with_reducible refine (Parse_007 w12).mono ?_)
  rintro e w13 ⟨rfl, hb⟩
  have HV1 := Lib.hid (HV1.out.mono hb)
  have HV4 := Lib.hid (HV4.out.mono hb)
  have HV5 := Lib.hid (HV5.out.mono hb)
  have HV8 := Lib.hid (HV8.out.mono hb)
  have X1 := X1.mono hb
  have X4 := X4.mono hb
  have X5 := X5.mono hb
  have X8 := X8.mono hb
  have hE := hE.mono hb
  have hbw := Below.step hbw hb (Nat.le_refl _)
  clear hb
  go_wp2_with fail
  have hb := below_alloc w13 (.cells #[.bool false, .slice none 0 0] 25)
  generalize w13.alloc (.cells #[.bool false, .slice none 0 0] 25) = w14 at *
  have HV1 := Lib.hid (HV1.out.mono hb)
  have HV4 := Lib.hid (HV4.out.mono hb)
  have HV5 := Lib.hid (HV5.out.mono hb)
  have HV8 := Lib.hid (HV8.out.mono hb)
  have X1 := X1.mono hb
  have X4 := X4.mono hb
  have X5 := X5.mono hb
  have X8 := X8.mono hb
  have hE := hE.mono hb
  have hbw := Below.step hbw hb (Nat.le_refl _)
  clear hb
  go_wp2_with fail
  have hLB := (below_alloc w14 (.cells #[.int .u32 7, .int .u32 1] 45)).drew
  have HL : Hid (IntV (w14.alloc (.cells #[.int .u32 7, .int .u32 1] 45)).drew (.agg #[.bool true, .slice (some ⟨w14.heap.size, 0, none⟩) 2 2]) (-1000000007)) := Lib.hid ⟨true, _, [7, 1], 2, rfl, Lib.hid (by decide), Lib.hid (by rw [show ((-1000000007 : Int)).natAbs = 7 + 1000000000 * 1 by decide, Bi.limbs_cons (by decide) (by decide)]; rfl), Lib.hid (big_small (by decide)), by simp, by simp, (U.lit2 w14 7 1 7 1 45 rfl rfl).mono ((Below.refl _ _).drew)⟩
  have HV1 := Lib.hid (HV1.out.mono hLB)
  have HV4 := Lib.hid (HV4.out.mono hLB)
  have HV5 := Lib.hid (HV5.out.mono hLB)
  have HV8 := Lib.hid (HV8.out.mono hLB)
  have Z1 := X1.mono ((Below.refl w14.heap.size w14).drew)
  have Z4 := X4.mono ((Below.refl w14.heap.size w14).drew)
  have Z5 := X5.mono ((Below.refl w14.heap.size w14).drew)
  have Z8 := X8.mono ((Below.refl w14.heap.size w14).drew)
  have Y1 := X1.mono hLB
  have Y4 := X4.mono hLB
  have Y5 := X5.mono hLB
  have Y8 := X8.mono hLB
  have hE := hE.mono hLB
  have hbw := Below.step hbw hLB (Nat.le_refl _)
  have hE0 := hE
  have hbw0 := hbw
  go_region_held3 (fun w' => w'.cell? ⟨w1.heap.size, 0, none⟩ = some (.bool ng1) ∧ w'.cell? ⟨w1.heap.size, 1, none⟩ = some (.slice ao1 n1 cap1) ∧ w'.cell? ⟨w5.heap.size, 0, none⟩ = some (.bool ng4) ∧ w'.cell? ⟨w5.heap.size, 1, none⟩ = some (.slice ao4 n4 cap4) ∧ w'.cell? ⟨w5.heap.size + 1, 0, none⟩ = some (.bool ng5) ∧ w'.cell? ⟨w5.heap.size + 1, 1, none⟩ = some (.slice ao5 n5 cap5) ∧ w'.cell? ⟨w9.heap.size, 0, none⟩ = some (.bool ng8) ∧ w'.cell? ⟨w9.heap.size, 1, none⟩ = some (.slice ao8 n8 cap8))
    (first | (with_reducible exact ⟨X1.c0, X1.c1, X4.c0, X4.c1, X5.c0, X5.c1, X8.c0, X8.c1⟩) | (with_reducible exact ⟨Z1.c0, Z1.c1, Z4.c0, Z4.c1, Z5.c0, Z5.c1, Z8.c0, Z8.c1⟩) | (with_reducible exact ⟨Y1.c0, Y1.c1, Y4.c0, Y4.c1, Y5.c0, Y5.c1, Y8.c0, Y8.c1⟩) | (with_reducible exact ⟨C1x1.c0, C1x1.c1, C1x4.c0, C1x4.c1, C1x5.c0, C1x5.c1, C1x8.c0, C1x8.c1⟩) | (with_reducible exact ⟨C2x1.c0, C2x1.c1, C2x4.c0, C2x4.c1, C2x5.c0, C2x5.c1, C2x8.c0, C2x8.c1⟩) | (with_reducible exact ⟨C3x1.c0, C3x1.c1, C3x4.c0, C3x4.c1, C3x5.c0, C3x5.c1, C3x8.c0, C3x8.c1⟩) | (with_reducible exact ⟨C4x1.c0, C4x1.c1, C4x4.c0, C4x4.c1, C4x5.c0, C4x5.c1, C4x8.c0, C4x8.c1⟩) | (with_reducible exact ⟨C5x1.c0, C5x1.c1, C5x4.c0, C5x4.c1, C5x5.c0, C5x5.c1, C5x8.c0, C5x8.c1⟩) | (with_reducible exact ⟨C6x1.c0, C6x1.c1, C6x4.c0, C6x4.c1, C6x5.c0, C6x5.c1, C6x8.c0, C6x8.c1⟩) | (with_reducible exact ⟨C7x1.c0, C7x1.c1, C7x4.c0, C7x4.c1, C7x5.c0, C7x5.c1, C7x8.c0, C7x8.c1⟩) | (simp [*, go_sem]; done))
    (first
      | (go_at_call 13; (with_reducible refine (eqV_same (-1000000007) _ _ _ HV1.out HL.out).mono ?_); rintro e u1 ⟨rfl, hb1⟩; have C1x1 := Y1.mono hb1; have C1x4 := Y4.mono hb1; have C1x5 := Y5.mono hb1; have C1x8 := Y8.mono hb1; have hE1 := hE0.mono hb1; have hbw1 := Below.step hbw0 hb1 (Nat.le_refl _); have HV4a := Lib.hid (HV4.out.mono hb1); have HV5a := Lib.hid (HV5.out.mono hb1); have HV8a := Lib.hid (HV8.out.mono hb1))
      | (go_at_call 23; (with_reducible refine (rof_any (-3) (by decide) (by decide) _ hE1).mono ?_); rintro e u2 ⟨⟨nga, aoa, na, capa, rfl, HVa⟩, hb2⟩; have C2x1 := C1x1.mono hb2; have C2x4 := C1x4.mono hb2; have C2x5 := C1x5.mono hb2; have C2x8 := C1x8.mono hb2; have hE2 := hE1.mono hb2; have hbw2 := Below.step hbw1 hb2 (Nat.le_refl _); have HV4b := Lib.hid (HV4a.out.mono hb2); have HV5b := Lib.hid (HV5a.out.mono hb2); have HV8b := Lib.hid (HV8a.out.mono hb2))
      | (go_at_call 13; (with_reducible refine (eqV_same (-3) _ _ _ HV4b.out HVa.out).mono ?_); rintro e u3 ⟨rfl, hb3⟩; have C3x1 := C2x1.mono hb3; have C3x4 := C2x4.mono hb3; have C3x5 := C2x5.mono hb3; have C3x8 := C2x8.mono hb3; have hE3 := hE2.mono hb3; have hbw3 := Below.step hbw2 hb3 (Nat.le_refl _); have HV5c := Lib.hid (HV5b.out.mono hb3); have HV8c := Lib.hid (HV8b.out.mono hb3))
      | (go_at_call 23; (with_reducible refine (rof_any (-1) (by decide) (by decide) _ hE3).mono ?_); rintro e u4 ⟨⟨ngb, aob, nb, capb, rfl, HVb⟩, hb4⟩; have C4x1 := C3x1.mono hb4; have C4x4 := C3x4.mono hb4; have C4x5 := C3x5.mono hb4; have C4x8 := C3x8.mono hb4; have hE4 := hE3.mono hb4; have hbw4 := Below.step hbw3 hb4 (Nat.le_refl _); have HV5d := Lib.hid (HV5c.out.mono hb4); have HV8d := Lib.hid (HV8c.out.mono hb4))
      | (go_at_call 13; (with_reducible refine (eqV_same (-1) _ _ _ HV5d.out HVb.out).mono ?_); rintro e u5 ⟨rfl, hb5⟩; have C5x1 := C4x1.mono hb5; have C5x4 := C4x4.mono hb5; have C5x5 := C4x5.mono hb5; have C5x8 := C4x8.mono hb5; have hE5 := hE4.mono hb5; have hbw5 := Below.step hbw4 hb5 (Nat.le_refl _); have HV8e := Lib.hid (HV8d.out.mono hb5))
      | (go_at_call 23; (with_reducible refine (rof_any 6 (by decide) (by decide) _ hE5).mono ?_); rintro e u6 ⟨⟨ngc, aoc, nc, capc, rfl, HVc⟩, hb6⟩; have C6x1 := C5x1.mono hb6; have C6x4 := C5x4.mono hb6; have C6x5 := C5x5.mono hb6; have C6x8 := C5x8.mono hb6; have hE6 := hE5.mono hb6; have hbw6 := Below.step hbw5 hb6 (Nat.le_refl _); have HV8f := Lib.hid (HV8e.out.mono hb6))
      | (go_at_call 13; (with_reducible refine (eqV_same 6 _ _ _ HV8f.out HVc.out).mono ?_); rintro e u7 ⟨rfl, hb7⟩; have C7x1 := C6x1.mono hb7; have C7x4 := C6x4.mono hb7; have C7x5 := C6x5.mono hb7; have C7x8 := C6x8.mono hb7; have hE7 := hE6.mono hb7; have hbw7 := Below.step hbw6 hb7 (Nat.le_refl _)))
  go_wp2
  go_ret
  exact ⟨rfl, hbw7⟩

end Go.Proofs.YtijjagofingpdaaGreatDoor
