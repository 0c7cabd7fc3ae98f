import Derived.Test.YtgenhkakcbedaaaGreatDoorQ5
import Derived.Test.YtgenhkakcbedaaaGreatDoorQ9
import Derived.Test.YtgenhkakcbedaaaGreatDoorQA
namespace Go.Proofs.YtgenhkakcbedaaaGreatDoor
open Go.RowKit

/-- a fraction alone -/
def GotR (w' : World) (r : Rat) (e : Ending) : Prop :=
  ∃ (n1 : Bool) (a1 : Option Addr) (l1 c1 : Nat) (n2 : Bool) (a2 : Option Addr) (l2 c2 : Nat), e = .returned (.agg #[.bool n1, .slice a1 l1 c1, .bool n2, .slice a2 l2 c2]) ∧
    Hid (IntV w' (.agg #[.bool n1, .slice a1 l1 c1]) r.num) ∧ Hid (IntV w' (.agg #[.bool n2, .slice a2 l2 c2]) (r.den : Int))

theorem S44 {wx W : World} {n m : Nat} {x0 x1 x2 x3 y0 y1 y2 y3 : Value} (B1 : Box4 wx n x0 x1 x2 x3) (B2 : Box4 wx m y0 y1 y2 y3) (h : Below wx.heap.size wx W) :
    W.cell? ⟨n, 0, none⟩ = some x0 ∧ W.cell? ⟨n, 1, none⟩ = some x1 ∧ W.cell? ⟨n, 2, none⟩ = some x2 ∧ W.cell? ⟨n, 3, none⟩ = some x3 ∧
    W.cell? ⟨m, 0, none⟩ = some y0 ∧ W.cell? ⟨m, 1, none⟩ = some y1 ∧ W.cell? ⟨m, 2, none⟩ = some y2 ∧ W.cell? ⟨m, 3, none⟩ = some y3 :=
  ⟨(B1.mono h).c0, (B1.mono h).c1, (B1.mono h).c2, (B1.mono h).c3, (B2.mono h).c0, (B2.mono h).c1, (B2.mono h).c2, (B2.mono h).c3⟩

theorem sm_of {z : Int} (h1 : -9223372036854775808 ≤ z) (h2 : z ≤ 9223372036854775808) : Rq.Sm z := small_big (by omega)

set_option maxRecDepth 100000 in
set_option maxHeartbeats 1600000 in
theorem lof_ok (n d : Int) (w : World) (hn1 : -9223372036854775808 ≤ n) (hn2 : n ≤ 9223372036854775807) (hd1 : -9223372036854775808 ≤ d) (hd2 : d ≤ 9223372036854775807) (hd : Hid (d ≠ 0)) (hE : Env w) :
    Calls Tryz.prog 55 #[.int .i64 n, .int .i64 d] w fun e w' => GotR w' (Rat.divInt n d) e ∧ Below w.heap.size w w' := by
  have hE0 := hE
  have hbw := Below.refl w.heap.size w
  go_enter Tryz.func55, Tryz.ntmps55
  go_upto_region 1 with fail
  have X4 := Box4.new w (.bool false) (.slice none 0 0) (.bool false) (.slice none 0 0) 29
  have hb := below_alloc w (.cells #[.bool false, .slice none 0 0, .bool false, .slice none 0 0] 29)
  generalize w.alloc (.cells #[.bool false, .slice none 0 0, .bool false, .slice none 0 0] 29) = v1 at *
  have hE := hE.mono hb
  have hbw := Below.step hbw hb (Nat.le_refl _)
  clear hb
  go_wp2_with fail
  (with_reducible refine (rOf_ok n d v1 hn1 hn2 hd1 hd2 hd hE).mono ?_)
  rintro e v2 ⟨⟨ng1, ao1, n1, cap1, ng2, ao2, n2, cap2, rfl, HV1, HV2⟩, hb⟩
  have X4 := X4.mono hb
  have hE := hE.mono hb
  have hbw := Below.step hbw hb (Nat.le_refl _)
  clear hb
  go_upto_region 2 with fail
  have lX5X4 := X4.lt
  have X5 := Box4.new v2 (.bool ng1) (.slice ao1 n1 cap1) (.bool ng2) (.slice ao2 n2 cap2) 29
  have hb := below_alloc v2 (.cells #[.bool ng1, .slice ao1 n1 cap1, .bool ng2, .slice ao2 n2 cap2] 29)
  generalize v2.alloc (.cells #[.bool ng1, .slice ao1 n1 cap1, .bool ng2, .slice ao2 n2 cap2] 29) = v3 at *
  have X4 := X4.mono hb
  have HV1 := Lib.hid (HV1.out.mono hb)
  have HV2 := Lib.hid (HV2.out.mono hb)
  have hE := hE.mono hb
  have hbw := Below.step hbw hb (Nat.le_refl _)
  clear hb
  obtain ⟨cX5_0, cX5_1, cX5_2, cX5_3, _, _, _, _⟩ := id X5
  obtain ⟨cX4_0, cX4_1, cX4_2, cX4_3, _, _, _, _⟩ := id X4
  go_wp2
  refine bodyPost_ret (v := .agg #[.bool ng1, .slice ao1 n1 cap1, .bool ng2, .slice ao2 n2 cap2]) (by simp [results, Tryz.results55, go_sem, cX4_0, cX4_1, cX4_2, cX4_3]) rfl ⟨⟨ng1, ao1, n1, cap1, ng2, ao2, n2, cap2, rfl, Lib.hid (HV1.out.put4B X4 (.bool ng1) (.slice ao1 n1 cap1) (.bool ng2) (.slice ao2 n2 cap2)), Lib.hid (HV2.out.put4B X4 (.bool ng1) (.slice ao1 n1 cap1) (.bool ng2) (.slice ao2 n2 cap2))⟩, Below.put4 hbw (by omega) (.bool ng1) (.slice ao1 n1 cap1) (.bool ng2) (.slice ao2 n2 cap2)⟩

set_option maxRecDepth 100000 in
set_option maxHeartbeats 1600000 in
theorem small_ok (n d : Int) (w : World) (hn1 : -32768 ≤ n) (hn2 : n ≤ 32767) (hd1 : 0 ≤ d) (hd2 : d ≤ 255) (hE : Env w) :
    Calls Tryz.prog 28 #[.int .i16 n, .int .u8 d] w fun e w' => GotR w' (Rat.divInt n (d + 1)) e ∧ Below w.heap.size w w' := by
  have hw : IntKind.i64.wrap (d + 1) = d + 1 := IntWalk.i64_in _ (by omega)
  have hD : Hid (d + 1 ≠ 0) := Lib.hid (by omega)
  have hE0 := hE
  have hbw := Below.refl w.heap.size w
  go_enter Tryz.func28, Tryz.ntmps28
  go_upto_region 1 with fail
  have X4 := Box4.new w (.bool false) (.slice none 0 0) (.bool false) (.slice none 0 0) 29
  have hb := below_alloc w (.cells #[.bool false, .slice none 0 0, .bool false, .slice none 0 0] 29)
  generalize w.alloc (.cells #[.bool false, .slice none 0 0, .bool false, .slice none 0 0] 29) = v1 at *
  have hE := hE.mono hb
  have hbw := Below.step hbw hb (Nat.le_refl _)
  clear hb
  go_wp2_with fail
  (with_reducible refine (rOf_ok n (d + 1) v1 (by omega) (by omega) (by omega) (by omega) hD hE).mono ?_)
  rintro e v2 ⟨⟨ng1, ao1, n1, cap1, ng2, ao2, n2, cap2, rfl, HV1, HV2⟩, hb⟩
  have X4 := X4.mono hb
  have hE := hE.mono hb
  have hbw := Below.step hbw hb (Nat.le_refl _)
  clear hb
  go_upto_region 2 with fail
  have lX5X4 := X4.lt
  have X5 := Box4.new v2 (.bool ng1) (.slice ao1 n1 cap1) (.bool ng2) (.slice ao2 n2 cap2) 29
  have hb := below_alloc v2 (.cells #[.bool ng1, .slice ao1 n1 cap1, .bool ng2, .slice ao2 n2 cap2] 29)
  generalize v2.alloc (.cells #[.bool ng1, .slice ao1 n1 cap1, .bool ng2, .slice ao2 n2 cap2] 29) = v3 at *
  have X4 := X4.mono hb
  have HV1 := Lib.hid (HV1.out.mono hb)
  have HV2 := Lib.hid (HV2.out.mono hb)
  have hE := hE.mono hb
  have hbw := Below.step hbw hb (Nat.le_refl _)
  clear hb
  obtain ⟨cX5_0, cX5_1, cX5_2, cX5_3, _, _, _, _⟩ := id X5
  obtain ⟨cX4_0, cX4_1, cX4_2, cX4_3, _, _, _, _⟩ := id X4
  go_wp2
  refine bodyPost_ret (v := .agg #[.bool ng1, .slice ao1 n1 cap1, .bool ng2, .slice ao2 n2 cap2]) (by simp [results, Tryz.results28, go_sem, cX4_0, cX4_1, cX4_2, cX4_3]) rfl ⟨⟨ng1, ao1, n1, cap1, ng2, ao2, n2, cap2, rfl, Lib.hid (HV1.out.put4B X4 (.bool ng1) (.slice ao1 n1 cap1) (.bool ng2) (.slice ao2 n2 cap2)), Lib.hid (HV2.out.put4B X4 (.bool ng1) (.slice ao1 n1 cap1) (.bool ng2) (.slice ao2 n2 cap2))⟩, Below.put4 hbw (by omega) (.bool ng1) (.slice ao1 n1 cap1) (.bool ng2) (.slice ao2 n2 cap2)⟩

set_option maxRecDepth 100000 in
set_option maxHeartbeats 1600000 in
theorem zero_ok (w : World) (hE : Env w) :
    Calls Tryz.prog 81 #[] w fun e w' => GotR w' 0 e ∧ Below w.heap.size w w' := by
  have hE0 := hE
  have hbw := Below.refl w.heap.size w
  go_enter Tryz.func81, Tryz.ntmps81
  go_upto_region 1 with fail
  have X0 := Box4.new w (.bool false) (.slice none 0 0) (.bool false) (.slice none 0 0) 29
  have hb := below_alloc w (.cells #[.bool false, .slice none 0 0, .bool false, .slice none 0 0] 29)
  generalize w.alloc (.cells #[.bool false, .slice none 0 0, .bool false, .slice none 0 0] 29) = v1 at *
  have hE := hE.mono hb
  have hbw := Below.step hbw hb (Nat.le_refl _)
  clear hb
  go_wp2_with fail
  (with_reducible refine (rof_any 1 (by decide) (by decide) v1 hE).mono ?_)
  rintro e v2 ⟨⟨ng1, ao1, n1, cap1, rfl, HV1⟩, hb⟩
  have X0 := X0.mono hb
  have hE := hE.mono hb
  have hbw := Below.step hbw hb (Nat.le_refl _)
  clear hb
  obtain ⟨cX0_0, cX0_1, cX0_2, cX0_3, _, _, _, _⟩ := id X0
  go_wp2
  refine bodyPost_ret (v := .agg #[.bool false, .slice none 0 0, .bool ng1, .slice ao1 n1 cap1]) (by simp [results, Tryz.results81, go_sem, cX0_0, cX0_1, cX0_2, cX0_3]) rfl ⟨⟨false, none, 0, 0, ng1, ao1, n1, cap1, rfl, Lib.hid ((IntV.zero _).put4B X0 (.bool false) (.slice none 0 0) (.bool ng1) (.slice ao1 n1 cap1)), Lib.hid (HV1.out.put4B X0 (.bool false) (.slice none 0 0) (.bool ng1) (.slice ao1 n1 cap1))⟩, Below.put4 hbw (by omega) (.bool false) (.slice none 0 0) (.bool ng1) (.slice ao1 n1 cap1)⟩

theorem d1 {n : Nat} (h : n < 10) : Lib.decDigits n = [UInt8.ofNat (48 + n)] := Lib.decDigits_one h

theorem cat_text (a b : List UInt8) (h : a = b) : Hid (a = b) := Lib.hid h

theorem dec666 : Lib.decDigits 666 = [54, 54, 54] := by
  rw [Lib.decDigits, dif_neg (by decide), Lib.decDigits_two (by decide) (by decide)]; rfl

/-- the text of an integer is one -/
theorem goodT_itoa {z : Int} (h : Rq.Sm z) : GoodT (Lib.itoa z) ∧ z = sgn (Lib.hasPrefix (Lib.itoa z) [45]) (Bi.decVal (Lib.trimPrefix (Lib.itoa z) [45])) := by
  obtain ⟨neg, t, h1, h2, h3, h4, h5⟩ := Bi.itoa_parts h
  have h5' : sgn neg (Bi.decVal t) = z := h5
  unfold GoodT
  rw [h2, h3, h5']
  exact ⟨⟨h4.2.2.1, h4.1, h4.2.1, rfl⟩, rfl⟩

theorem itoa_one (n : Nat) (h : n < 10) : Lib.itoa (n : Int) = [UInt8.ofNat (48 + n)] := by
  rw [itoa_nat, Lib.decDigits_one h]

theorem DecimalL (v : Value) (r : Rat) (k : Nat) (K : Int) (hK : K = (k : Int)) (w : World) (hr : RatV w v r) (hk : k ≤ 20) (hs : Hid (Rq.Sm (r.num * 10 ^ k))) (hE : Env w) :
    Calls Tryz.prog 26 #[v, .int .i64 K] w fun e w' => e = .returned (.tuple #[.string ⟨(Rq.decT ((r.num * 10 ^ k).tdiv (r.den : Int)) k).toArray⟩, .int .i64 0]) ∧ Below w.heap.size w w' := by
  subst hK; exact DecimalQ v r k w hr hk hs hE

set_option maxRecDepth 100000 in
set_option maxHeartbeats 6400000 in
theorem awakeQ (w : World) (hE : Env w) (hM : MaxV w) :
    Calls Tryz.prog 13 #[] w fun e w' => e = .returned (.bool true) ∧ Below w.heap.size w w' := by
  have hM0 := hM
  have N1 : (Rat.divInt 6 (-4)).num = -3 := by rw [Rat.num_divInt]; decide
  have D1 : ((Rat.divInt 6 (-4)).den : Int) = 2 := by rw [Rat.den_divInt]; decide
  have T1 : Hid (Rq.textQ (Rat.divInt 6 (-4)) = [45, 51, 47, 50]) := Lib.hid (by
    rw [Rq.textQ_two (by have := D1; omega), N1, D1]
    unfold Lib.itoa
    rw [if_pos (by decide), if_neg (by decide), show (-3 : Int).natAbs = 3 from rfl, show (2 : Int).toNat = 2 from rfl, Lib.decDigits_one (by decide), Lib.decDigits_one (by decide)]
    rfl)
  have HN1 := Lib.hid N1
  have HD1 := Lib.hid D1
  have Q1 : Hid ((Rat.divInt (-3) 2).num = -3 ∧ ((Rat.divInt (-3) 2).den : Int) = 2) := Lib.hid ⟨by rw [Rat.num_divInt]; decide, by rw [Rat.den_divInt]; decide⟩
  have Q2 : Hid ((Rat.divInt 1 2).num = 1 ∧ ((Rat.divInt 1 2).den : Int) = 2) := Lib.hid ⟨by rw [Rat.num_divInt]; decide, by rw [Rat.den_divInt]; decide⟩
  have Q3 : Hid ((Rat.divInt 1 3).num = 1 ∧ ((Rat.divInt 1 3).den : Int) = 3) := Lib.hid ⟨by rw [Rat.num_divInt]; decide, by rw [Rat.den_divInt]; decide⟩
  have Q4 : Hid ((Rat.divInt (-2) 3).num = -2 ∧ ((Rat.divInt (-2) 3).den : Int) = 3) := Lib.hid ⟨by rw [Rat.num_divInt]; decide, by rw [Rat.den_divInt]; decide⟩
  have Q5 : Hid ((Rat.divInt (-1) 1000).num = -1 ∧ ((Rat.divInt (-1) 1000).den : Int) = 1000) := Lib.hid ⟨by rw [Rat.num_divInt]; decide, by rw [Rat.den_divInt]; decide⟩
  have Q6 : Hid (Rat.divInt 1 2 + Rat.divInt 1 3 = Rat.divInt 5 6) := Lib.hid (by rw [Rat.divInt_add_divInt 1 1 (by decide) (by decide)]; rfl)
  have A1 : Hid (AddS (Rat.divInt 1 2) (Rat.divInt 1 3)) := Lib.hid (by
    unfold AddS CrS
    rw [Q2.out.1, Q2.out.2, Q3.out.1, Q3.out.2]
    exact ⟨⟨sm_of (by decide) (by decide), sm_of (by decide) (by decide)⟩, sm_of (by decide) (by decide), sm_of (by decide) (by decide)⟩)
  have M4 : Hid (Rq.Sm ((Rat.divInt (-2) 3).num * 10 ^ 3)) := Lib.hid (by rw [Q4.out.1]; exact sm_of (by decide) (by decide))
  have M5 : Hid (Rq.Sm ((Rat.divInt (-1) 1000).num * 10 ^ 2)) := Lib.hid (by rw [Q5.out.1]; exact sm_of (by decide) (by decide))
  have T4 : Hid (Rq.decT (((Rat.divInt (-2) 3).num * 10 ^ 3).tdiv ((Rat.divInt (-2) 3).den : Int)) 3 = [45, 48, 46, 54, 54, 54]) := Lib.hid (by
    rw [Q4.out.1, Q4.out.2, show Int.tdiv ((-2 : Int) * 10 ^ 3) 3 = -666 from rfl]
    unfold Rq.decT Rq.padT Rq.pointT
    rw [show (-666 : Int).natAbs = 666 from rfl, dec666]
    rfl)
  have T5 : Hid (Rq.decT (((Rat.divInt (-1) 1000).num * 10 ^ 2).tdiv ((Rat.divInt (-1) 1000).den : Int)) 2 = [48, 46, 48, 48]) := Lib.hid (by
    rw [Q5.out.1, Q5.out.2, show Int.tdiv ((-1 : Int) * 10 ^ 2) 1000 = 0 from rfl]
    unfold Rq.decT Rq.padT Rq.pointT
    rw [show (0 : Int).natAbs = 0 from rfl, Lib.decDigits_one (by decide)]
    rfl)
  have CU : Hid (Lib.cut [50, 47, 52] [47] = ([50], [52], true)) := Lib.hid (Rq.cut_split (n := [50]) (d := [52]) (by decide))
  have G2 : Hid (GoodT [50]) := Lib.hid (by have := (goodT_itoa (z := 2) (sm_of (by decide) (by decide))).1; rwa [show ((2 : Int)) = ((2 : Nat) : Int) from rfl, itoa_one 2 (by decide)] at this)
  have G4 : Hid (GoodT [52]) := Lib.hid (by have := (goodT_itoa (z := 4) (sm_of (by decide) (by decide))).1; rwa [show ((4 : Int)) = ((4 : Nat) : Int) from rfl, itoa_one 4 (by decide)] at this)
  have Z2 : Hid ((2 : Int) = sgn (Lib.hasPrefix [50] [45]) (Bi.decVal (Lib.trimPrefix [50] [45]))) := Lib.hid (by decide)
  have Z4 : Hid ((4 : Int) = sgn (Lib.hasPrefix [52] [45]) (Bi.decVal (Lib.trimPrefix [52] [45]))) := Lib.hid (by decide)
  have HPC : PCase true [52] 2 none := .inr (.inr (.inr (.inl ⟨rfl, rfl, G4, 4, Z4, Lib.hid ⟨by decide, by decide⟩⟩)))
  clear N1 D1
  have hE0 := hE
  have hbw := Below.refl w.heap.size w
  go_enter Tryz.func13, Tryz.ntmps13
  go_wp2_with fail
  (with_reducible refine (Of_ok 6 (-4) w (by decide) (by decide) (by decide) (by decide) (Lib.hid (by decide)) hE).mono ?_)
  rintro e v1 ⟨⟨ng1, ao1, n1, cap1, ng2, ao2, n2, cap2, rfl, HV1, HV2⟩, hb⟩
  have hM := hM.mono hb
  have hE := hE.mono hb
  have hbw := Below.step hbw hb (Nat.le_refl _)
  clear hb
  go_upto_region 2 with fail
  have X1 := Box4.new v1 (.bool ng1) (.slice ao1 n1 cap1) (.bool ng2) (.slice ao2 n2 cap2) 29
  have hb := below_alloc v1 (.cells #[.bool ng1, .slice ao1 n1 cap1, .bool ng2, .slice ao2 n2 cap2] 29)
  generalize v1.alloc (.cells #[.bool ng1, .slice ao1 n1 cap1, .bool ng2, .slice ao2 n2 cap2] 29) = v2 at *
  have hM := hM.mono hb
  have HV1 := Lib.hid (HV1.out.mono hb)
  have HV2 := Lib.hid (HV2.out.mono hb)
  have hE := hE.mono hb
  have hbw := Below.step hbw hb (Nat.le_refl _)
  clear hb
  obtain ⟨cX1_0, cX1_1, cX1_2, cX1_3, _, _, _, _⟩ := id X1
  go_wp2_with fail
  (with_reducible refine (FormatQ _ (Rat.divInt 6 (-4)) v2 (RatV.mk' HV1 HV2) hE).mono ?_)
  rintro e v3 ⟨rfl, hb⟩
  have hM := hM.mono hb
  have HV1 := Lib.hid (HV1.out.mono hb)
  have HV2 := Lib.hid (HV2.out.mono hb)
  have X1 := X1.mono hb
  have hE := hE.mono hb
  have hbw := Below.step hbw hb (Nat.le_refl _)
  clear hb
  rw [T1.out]
  clear cX1_0 cX1_1 cX1_2 cX1_3
  go_wp2_with fail
  (with_reducible refine (lof_ok (1) 2 v3 (by decide) (by decide) (by decide) (by decide) (Lib.hid (by decide)) hE).mono ?_)
  rintro e v4 ⟨⟨ng3, ao3, n3, cap3, ng4, ao4, n4, cap4, rfl, HV3, HV4⟩, hb⟩
  have hM := hM.mono hb
  have HV1 := Lib.hid (HV1.out.mono hb)
  have HV2 := Lib.hid (HV2.out.mono hb)
  have X1 := X1.mono hb
  have hE := hE.mono hb
  have hbw := Below.step hbw hb (Nat.le_refl _)
  clear hb
  go_wp2_with fail
  (with_reducible refine (lof_ok (1) 3 v4 (by decide) (by decide) (by decide) (by decide) (Lib.hid (by decide)) hE).mono ?_)
  rintro e v5 ⟨⟨ng5, ao5, n5, cap5, ng6, ao6, n6, cap6, rfl, HV5, HV6⟩, hb⟩
  have hM := hM.mono hb
  have HV1 := Lib.hid (HV1.out.mono hb)
  have HV2 := Lib.hid (HV2.out.mono hb)
  have X1 := X1.mono hb
  have HV3 := Lib.hid (HV3.out.mono hb)
  have HV4 := Lib.hid (HV4.out.mono hb)
  have hE := hE.mono hb
  have hbw := Below.step hbw hb (Nat.le_refl _)
  clear hb
  go_wp2_with fail
  (with_reducible refine (Add_q _ _ (Rat.divInt 1 2) (Rat.divInt 1 3) v5 (RatV.mk' HV3 HV4) (RatV.mk' HV5 HV6) A1 hE).mono ?_)
  rintro e v6 ⟨⟨ng7, ao7, n7, cap7, ng8, ao8, n8, cap8, rfl, HV7, HV8⟩, hb⟩
  have hM := hM.mono hb
  have HV1 := Lib.hid (HV1.out.mono hb)
  have HV2 := Lib.hid (HV2.out.mono hb)
  have X1 := X1.mono hb
  have HV3 := Lib.hid (HV3.out.mono hb)
  have HV4 := Lib.hid (HV4.out.mono hb)
  have HV5 := Lib.hid (HV5.out.mono hb)
  have HV6 := Lib.hid (HV6.out.mono hb)
  have hE := hE.mono hb
  have hbw := Below.step hbw hb (Nat.le_refl _)
  clear hb
  clear HV3 HV4 HV5 HV6
  go_upto_region 4 with fail
  have lX5X1 := X1.lt
  have X5 := Box4.new v6 (.bool ng7) (.slice ao7 n7 cap7) (.bool ng8) (.slice ao8 n8 cap8) 29
  have hb := below_alloc v6 (.cells #[.bool ng7, .slice ao7 n7 cap7, .bool ng8, .slice ao8 n8 cap8] 29)
  generalize v6.alloc (.cells #[.bool ng7, .slice ao7 n7 cap7, .bool ng8, .slice ao8 n8 cap8] 29) = v7 at *
  have hM := hM.mono hb
  have HV1 := Lib.hid (HV1.out.mono hb)
  have HV2 := Lib.hid (HV2.out.mono hb)
  have X1 := X1.mono hb
  have HV7 := Lib.hid (HV7.out.mono hb)
  have HV8 := Lib.hid (HV8.out.mono hb)
  have hE := hE.mono hb
  have hbw := Below.step hbw hb (Nat.le_refl _)
  clear hb
  go_wp2_with fail
  (with_reducible refine (lof_ok (-2) 3 v7 (by decide) (by decide) (by decide) (by decide) (Lib.hid (by decide)) hE).mono ?_)
  rintro e v8 ⟨⟨ng3, ao3, n3, cap3, ng4, ao4, n4, cap4, rfl, HV3, HV4⟩, hb⟩
  have hM := hM.mono hb
  have HV1 := Lib.hid (HV1.out.mono hb)
  have HV2 := Lib.hid (HV2.out.mono hb)
  have X1 := X1.mono hb
  have HV7 := Lib.hid (HV7.out.mono hb)
  have HV8 := Lib.hid (HV8.out.mono hb)
  have X5 := X5.mono hb
  have hE := hE.mono hb
  have hbw := Below.step hbw hb (Nat.le_refl _)
  clear hb
  go_wp2_with fail
  (with_reducible refine (DecimalL _ (Rat.divInt (-2) 3) 3 3 rfl v8 (RatV.mk' HV3 HV4) (by decide) M4 hE).mono ?_)
  rintro e v9 ⟨rfl, hb⟩
  have hM := hM.mono hb
  have HV1 := Lib.hid (HV1.out.mono hb)
  have HV2 := Lib.hid (HV2.out.mono hb)
  have X1 := X1.mono hb
  have HV7 := Lib.hid (HV7.out.mono hb)
  have HV8 := Lib.hid (HV8.out.mono hb)
  have X5 := X5.mono hb
  have HV3 := Lib.hid (HV3.out.mono hb)
  have HV4 := Lib.hid (HV4.out.mono hb)
  have hE := hE.mono hb
  have hbw := Below.step hbw hb (Nat.le_refl _)
  clear hb
  rw [T4.out]
  clear HV3 HV4
  go_wp2_with fail
  (with_reducible refine (lof_ok (-1) 1000 v9 (by decide) (by decide) (by decide) (by decide) (Lib.hid (by decide)) hE).mono ?_)
  rintro e v10 ⟨⟨ng3, ao3, n3, cap3, ng4, ao4, n4, cap4, rfl, HV3, HV4⟩, hb⟩
  have hM := hM.mono hb
  have HV1 := Lib.hid (HV1.out.mono hb)
  have HV2 := Lib.hid (HV2.out.mono hb)
  have X1 := X1.mono hb
  have HV7 := Lib.hid (HV7.out.mono hb)
  have HV8 := Lib.hid (HV8.out.mono hb)
  have X5 := X5.mono hb
  have hE := hE.mono hb
  have hbw := Below.step hbw hb (Nat.le_refl _)
  clear hb
  go_wp2_with fail
  (with_reducible refine (DecimalL _ (Rat.divInt (-1) 1000) 2 2 rfl v10 (RatV.mk' HV3 HV4) (by decide) M5 hE).mono ?_)
  rintro e v11 ⟨rfl, hb⟩
  have hM := hM.mono hb
  have HV1 := Lib.hid (HV1.out.mono hb)
  have HV2 := Lib.hid (HV2.out.mono hb)
  have X1 := X1.mono hb
  have HV7 := Lib.hid (HV7.out.mono hb)
  have HV8 := Lib.hid (HV8.out.mono hb)
  have X5 := X5.mono hb
  have HV3 := Lib.hid (HV3.out.mono hb)
  have HV4 := Lib.hid (HV4.out.mono hb)
  have hE := hE.mono hb
  have hbw := Below.step hbw hb (Nat.le_refl _)
  clear hb
  rw [T5.out]
  clear HV3 HV4
  go_wp2_with fail
  (with_reducible refine (ParseQ_tail [50, 47, 52] [50] [52] true 2 none v11 (by decide) (by decide) (by decide) CU G2 Z2 HPC hE hM).mono ?_)
  rintro e v12 ⟨hres, hb⟩
  have hM := hM.mono hb
  have HV1 := Lib.hid (HV1.out.mono hb)
  have HV2 := Lib.hid (HV2.out.mono hb)
  have X1 := X1.mono hb
  have HV7 := Lib.hid (HV7.out.mono hb)
  have HV8 := Lib.hid (HV8.out.mono hb)
  have X5 := X5.mono hb
  have hE := hE.mono hb
  have hbw := Below.step hbw hb (Nat.le_refl _)
  clear hb
  obtain rfl : e = .returned (.tuple #[.agg #[.bool false, .slice none 0 0, .bool false, .slice none 0 0], .int .i64 2]) := hres
  go_upto_region 7 with fail
  have lX11X1 := X1.lt
  have lX11X5 := X5.lt
  have X11 := Box4.new v12 (.bool false) (.slice none 0 0) (.bool false) (.slice none 0 0) 29
  have hb := below_alloc v12 (.cells #[.bool false, .slice none 0 0, .bool false, .slice none 0 0] 29)
  generalize v12.alloc (.cells #[.bool false, .slice none 0 0, .bool false, .slice none 0 0] 29) = v13 at *
  have hM := hM.mono hb
  have HV1 := Lib.hid (HV1.out.mono hb)
  have HV2 := Lib.hid (HV2.out.mono hb)
  have X1 := X1.mono hb
  have HV7 := Lib.hid (HV7.out.mono hb)
  have HV8 := Lib.hid (HV8.out.mono hb)
  have X5 := X5.mono hb
  have hE := hE.mono hb
  have hbw := Below.step hbw hb (Nat.le_refl _)
  clear hb
  have HE1 : Hid ((Rat.divInt 6 (-4)).num = (Rat.divInt (-3) 2).num ∧ ((Rat.divInt 6 (-4)).den : Int) = ((Rat.divInt (-3) 2).den : Int)) := Lib.hid ⟨by rw [HN1.out, Q1.out.1], by rw [HD1.out, Q1.out.2]⟩
  have HE2 : Hid ((Rat.divInt 1 2 + Rat.divInt 1 3).num = (Rat.divInt 5 6).num ∧ ((Rat.divInt 1 2 + Rat.divInt 1 3).den : Int) = ((Rat.divInt 5 6).den : Int)) := Lib.hid (by rw [Q6.out]; exact ⟨rfl, rfl⟩)
  obtain ⟨wy, rfl⟩ : ∃ wy : World, wy = v13 := ⟨_, rfl⟩
  have hS := fun W => S44 (W := W) X1 X5
  go_cut [0] (fun s0 wc => s0 = .bool true ∧ Below wy.heap.size wy wc)
  case first =>
    refine wp_region_vals (wx := wy) [(fun _ v => v = .int .i64 0), (fun _ v => v = .bool true), (fun _ v => v = .bool true), (fun _ v => v = .agg #[.bool ng1, .slice ao1 n1 cap1, .bool ng2, .slice ao2 n2 cap2]), (fun W v => RatV W v (Rat.divInt (-3) 2)), (fun _ v => v = .bool true), (fun _ v => v = .bool true), (fun _ v => v = .bool true), (fun _ v => v = .int .i64 0), (fun _ v => v = .bool true), (fun _ v => v = .bool true), (fun _ v => v = .bool true), (fun _ v => v = .string ⟨#[45, 51, 47, 50]⟩), (fun _ v => v = .bool true), (fun _ v => v = .bool true), (fun _ v => v = .bool true), (fun _ v => v = .int .i64 0), (fun _ v => v = .bool true), (fun _ v => v = .bool true), (fun _ v => v = .bool true), (fun _ v => v = .agg #[.bool ng7, .slice ao7 n7 cap7, .bool ng8, .slice ao8 n8 cap8]), (fun W v => RatV W v (Rat.divInt 5 6)), (fun _ v => v = .bool true), (fun _ v => v = .bool true), (fun _ v => v = .bool true), (fun _ v => v = .int .i64 0), (fun _ v => v = .bool true), (fun _ v => v = .bool true), (fun _ v => v = .bool true), (fun _ v => v = .string ⟨#[45, 48, 46, 54, 54, 54]⟩), (fun _ v => v = .bool true), (fun _ v => v = .bool true), (fun _ v => v = .bool true), (fun _ v => v = .int .i64 0), (fun _ v => v = .bool true), (fun _ v => v = .bool true), (fun _ v => v = .bool true), (fun _ v => v = .string ⟨#[48, 46, 48, 48]⟩), (fun _ v => v = .bool true), (fun _ v => v = .bool true), (fun _ v => v = .bool true), (fun _ v => v = .int .i64 2), (fun _ v => v = .bool true), (fun _ v => v = .bool true), (fun _ v => v = .bool true)] [42, 43, 44, 45, 46, 47, 48, 49, 50, 51, 52, 53, 54, 55, 56, 57, 58, 59, 60, 61, 62, 63, 64, 65, 66, 67, 68, 69, 70, 71, 72, 73, 74, 75, 76, 77, 78, 79, 80, 81, 82, 83, 84, 85, 0] (by kernel_rfl) (by kernel_rfl) (by kernel_rfl) (of_decide_eq_true (by kernel_rfl)) (Below.refl _ _) ⟨stayB_val _, stayB_val _, stayB_val _, stayB_val _, (fun _ _ _ h hb => h.mono hb), stayB_val _, stayB_val _, stayB_val _, stayB_val _, stayB_val _, stayB_val _, stayB_val _, stayB_val _, stayB_val _, stayB_val _, stayB_val _, stayB_val _, stayB_val _, stayB_val _, stayB_val _, stayB_val _, (fun _ _ _ h hb => h.mono hb), stayB_val _, stayB_val _, stayB_val _, stayB_val _, stayB_val _, stayB_val _, stayB_val _, stayB_val _, stayB_val _, stayB_val _, stayB_val _, stayB_val _, stayB_val _, stayB_val _, stayB_val _, stayB_val _, stayB_val _, stayB_val _, stayB_val _, stayB_val _, stayB_val _, stayB_val _, stayB_val _, trivial⟩ ⟨?s0, ?s1, ?s2, ?s3, ?s4, ?s5, ?s6, ?s7, ?s8, ?s9, ?s10, ?s11, ?s12, ?s13, ?s14, ?s15, ?s16, ?s17, ?s18, ?s19, ?s20, ?s21, ?s22, ?s23, ?s24, ?s25, ?s26, ?s27, ?s28, ?s29, ?s30, ?s31, ?s32, ?s33, ?s34, ?s35, ?s36, ?s37, ?s38, ?s39, ?s40, ?s41, ?s42, ?s43, ?s44, trivial⟩ ?he
    case s0 =>
      rintro T W hb hA K hK
      simp only [ovr, Act.put, List.setIfInBounds_toArray, List.set_cons_zero, List.set_cons_succ] at hK ⊢
      have HK := Lib.hid hK
      clear hK hA
      refine wpOp_want rfl (by rfl) ?_
      go_simp
      exact HK.out _ _ (Below.refl _ _) rfl
    case s1 =>
      rintro T W hb hA K hK
      have e0 : T 42 = .int .i64 0 := hA.1
      simp only [ovr, Act.put, List.setIfInBounds_toArray, List.set_cons_zero, List.set_cons_succ, e0] at hK ⊢
      have HK := Lib.hid hK
      clear hK hA
      refine wpOp_want rfl (by rfl) ?_
      go_simp
      exact HK.out _ _ (Below.refl _ _) rfl
    case s2 =>
      rintro T W hb hA K hK
      have e1 : T 43 = .bool true := hA.1
      simp only [ovr, Act.put, List.setIfInBounds_toArray, List.set_cons_zero, List.set_cons_succ, e1] at hK ⊢
      have HK := Lib.hid hK
      clear hK hA
      refine wpOp_want rfl (by rfl) ?_
      go_simp
      exact HK.out _ _ (Below.refl _ _) rfl
    case s3 =>
      rintro T W hb hA K hK
      have e2 : T 44 = .bool true := hA.1
      simp only [ovr, Act.put, List.setIfInBounds_toArray, List.set_cons_zero, List.set_cons_succ, e2] at hK ⊢
      have HK := Lib.hid hK
      clear hK hA
      obtain ⟨c0, c1, c2, c3, c4, c5, c6, c7⟩ := hS W hb
      refine wpOp_want rfl (by rfl) ?_
      go_simp
      exact HK.out _ _ (Below.refl _ _) rfl
    case s4 =>
      rintro T W hb hA K hK
      have e2 : T 44 = .bool true := hA.1
      simp only [ovr, Act.put, List.setIfInBounds_toArray, List.set_cons_zero, List.set_cons_succ, e2] at hK ⊢
      have HK := Lib.hid hK
      clear hK hA
      refine wpOp_want rfl (by rfl) ?_
      go_simp
      (with_reducible refine (lof_ok (-3) 2 _ (by decide) (by decide) (by decide) (by decide) (Lib.hid (by decide)) (hE.mono hb)).mono ?_)
      rintro e w1 ⟨⟨nga, aoa, na, capa, ngb, aob, nb, capb, rfl, HVa, HVb⟩, hb1⟩
      have hr : RatV w1 (.agg #[.bool nga, .slice aoa na capa, .bool ngb, .slice aob nb capb]) (Rat.divInt (-3) 2) := RatV.mk' HVa HVb
      dsimp only
      exact HK.out _ _ hb1 hr
    case s5 =>
      rintro T W hb hA K hK
      have e3 : T 45 = .agg #[.bool ng1, .slice ao1 n1 cap1, .bool ng2, .slice ao2 n2 cap2] := hA.1
      have r4 : (fun W v => RatV W v (Rat.divInt (-3) 2)) W (T 46) := hA.2.1
      have e2 : T 44 = .bool true := hA.2.2.2.1
      simp only [ovr, Act.put, List.setIfInBounds_toArray, List.set_cons_zero, List.set_cons_succ, e3, e2] at hK ⊢
      have HK := Lib.hid hK
      clear hK hA
      refine wpOp_want rfl (by rfl) ?_
      go_simp
      obtain ⟨nga, aoa, na, capa, ngb, aob, nb, capb, ev, h1, h2⟩ := r4
      rw [ev] at HK ⊢
      (with_reducible refine (eqQ_same _ _ _ _ _ HE1 (HV1.out.mono hb) (HV2.out.mono hb) h1 h2 (hE.mono hb)).mono ?_)
      rintro e w1 ⟨rfl, hb1⟩
      dsimp only
      exact HK.out _ _ hb1 rfl
    case s6 =>
      rintro T W hb hA K hK
      have e2 : T 44 = .bool true := hA.1
      have e5 : T 47 = .bool true := hA.2.1
      simp only [ovr, Act.put, List.setIfInBounds_toArray, List.set_cons_zero, List.set_cons_succ, e2, e5] at hK ⊢
      have HK := Lib.hid hK
      clear hK hA
      refine wpOp_want rfl (by rfl) ?_
      go_simp
      exact HK.out _ _ (Below.refl _ _) rfl
    case s7 =>
      rintro T W hb hA K hK
      have e6 : T 48 = .bool true := hA.1
      have e5 : T 47 = .bool true := hA.2.1
      simp only [ovr, Act.put, List.setIfInBounds_toArray, List.set_cons_zero, List.set_cons_succ, e6, e5] at hK ⊢
      have HK := Lib.hid hK
      clear hK hA
      refine wpOp_want rfl (by rfl) ?_
      go_simp
      exact HK.out _ _ (Below.refl _ _) rfl
    case s8 =>
      rintro T W hb hA K hK
      have e7 : T 49 = .bool true := hA.1
      simp only [ovr, Act.put, List.setIfInBounds_toArray, List.set_cons_zero, List.set_cons_succ, e7] at hK ⊢
      have HK := Lib.hid hK
      clear hK hA
      refine wpOp_want rfl (by rfl) ?_
      go_simp
      exact HK.out _ _ (Below.refl _ _) rfl
    case s9 =>
      rintro T W hb hA K hK
      have e8 : T 50 = .int .i64 0 := hA.1
      have e7 : T 49 = .bool true := hA.2.1
      simp only [ovr, Act.put, List.setIfInBounds_toArray, List.set_cons_zero, List.set_cons_succ, e8, e7] at hK ⊢
      have HK := Lib.hid hK
      clear hK hA
      refine wpOp_want rfl (by rfl) ?_
      go_simp
      exact HK.out _ _ (Below.refl _ _) rfl
    case s10 =>
      rintro T W hb hA K hK
      have e7 : T 49 = .bool true := hA.1
      have e9 : T 51 = .bool true := hA.2.1
      simp only [ovr, Act.put, List.setIfInBounds_toArray, List.set_cons_zero, List.set_cons_succ, e7, e9] at hK ⊢
      have HK := Lib.hid hK
      clear hK hA
      refine wpOp_want rfl (by rfl) ?_
      go_simp
      exact HK.out _ _ (Below.refl _ _) rfl
    case s11 =>
      rintro T W hb hA K hK
      have e10 : T 52 = .bool true := hA.1
      have e7 : T 49 = .bool true := hA.2.1
      simp only [ovr, Act.put, List.setIfInBounds_toArray, List.set_cons_zero, List.set_cons_succ, e10, e7] at hK ⊢
      have HK := Lib.hid hK
      clear hK hA
      refine wpOp_want rfl (by rfl) ?_
      go_simp
      exact HK.out _ _ (Below.refl _ _) rfl
    case s12 =>
      rintro T W hb hA K hK
      have e11 : T 53 = .bool true := hA.1
      simp only [ovr, Act.put, List.setIfInBounds_toArray, List.set_cons_zero, List.set_cons_succ, e11] at hK ⊢
      have HK := Lib.hid hK
      clear hK hA
      refine wpOp_want rfl (by rfl) ?_
      go_simp
      exact HK.out _ _ (Below.refl _ _) rfl
    case s13 =>
      rintro T W hb hA K hK
      have e12 : T 54 = .string ⟨#[45, 51, 47, 50]⟩ := hA.1
      have e11 : T 53 = .bool true := hA.2.1
      simp only [ovr, Act.put, List.setIfInBounds_toArray, List.set_cons_zero, List.set_cons_succ, e12, e11] at hK ⊢
      have HK := Lib.hid hK
      clear hK hA
      refine wpOp_want rfl (by rfl) ?_
      go_simp
      exact HK.out _ _ (Below.refl _ _) rfl
    case s14 =>
      rintro T W hb hA K hK
      have e11 : T 53 = .bool true := hA.1
      have e13 : T 55 = .bool true := hA.2.1
      simp only [ovr, Act.put, List.setIfInBounds_toArray, List.set_cons_zero, List.set_cons_succ, e11, e13] at hK ⊢
      have HK := Lib.hid hK
      clear hK hA
      refine wpOp_want rfl (by rfl) ?_
      go_simp
      exact HK.out _ _ (Below.refl _ _) rfl
    case s15 =>
      rintro T W hb hA K hK
      have e14 : T 56 = .bool true := hA.1
      have e11 : T 53 = .bool true := hA.2.1
      simp only [ovr, Act.put, List.setIfInBounds_toArray, List.set_cons_zero, List.set_cons_succ, e14, e11] at hK ⊢
      have HK := Lib.hid hK
      clear hK hA
      refine wpOp_want rfl (by rfl) ?_
      go_simp
      exact HK.out _ _ (Below.refl _ _) rfl
    case s16 =>
      rintro T W hb hA K hK
      have e15 : T 57 = .bool true := hA.1
      simp only [ovr, Act.put, List.setIfInBounds_toArray, List.set_cons_zero, List.set_cons_succ, e15] at hK ⊢
      have HK := Lib.hid hK
      clear hK hA
      refine wpOp_want rfl (by rfl) ?_
      go_simp
      exact HK.out _ _ (Below.refl _ _) rfl
    case s17 =>
      rintro T W hb hA K hK
      have e16 : T 58 = .int .i64 0 := hA.1
      have e15 : T 57 = .bool true := hA.2.1
      simp only [ovr, Act.put, List.setIfInBounds_toArray, List.set_cons_zero, List.set_cons_succ, e16, e15] at hK ⊢
      have HK := Lib.hid hK
      clear hK hA
      refine wpOp_want rfl (by rfl) ?_
      go_simp
      exact HK.out _ _ (Below.refl _ _) rfl
    case s18 =>
      rintro T W hb hA K hK
      have e15 : T 57 = .bool true := hA.1
      have e17 : T 59 = .bool true := hA.2.1
      simp only [ovr, Act.put, List.setIfInBounds_toArray, List.set_cons_zero, List.set_cons_succ, e15, e17] at hK ⊢
      have HK := Lib.hid hK
      clear hK hA
      refine wpOp_want rfl (by rfl) ?_
      go_simp
      exact HK.out _ _ (Below.refl _ _) rfl
    case s19 =>
      rintro T W hb hA K hK
      have e18 : T 60 = .bool true := hA.1
      have e15 : T 57 = .bool true := hA.2.1
      simp only [ovr, Act.put, List.setIfInBounds_toArray, List.set_cons_zero, List.set_cons_succ, e18, e15] at hK ⊢
      have HK := Lib.hid hK
      clear hK hA
      refine wpOp_want rfl (by rfl) ?_
      go_simp
      exact HK.out _ _ (Below.refl _ _) rfl
    case s20 =>
      rintro T W hb hA K hK
      have e19 : T 61 = .bool true := hA.1
      simp only [ovr, Act.put, List.setIfInBounds_toArray, List.set_cons_zero, List.set_cons_succ, e19] at hK ⊢
      have HK := Lib.hid hK
      clear hK hA
      obtain ⟨c0, c1, c2, c3, c4, c5, c6, c7⟩ := hS W hb
      refine wpOp_want rfl (by rfl) ?_
      go_simp
      exact HK.out _ _ (Below.refl _ _) rfl
    case s21 =>
      rintro T W hb hA K hK
      have e19 : T 61 = .bool true := hA.1
      simp only [ovr, Act.put, List.setIfInBounds_toArray, List.set_cons_zero, List.set_cons_succ, e19] at hK ⊢
      have HK := Lib.hid hK
      clear hK hA
      refine wpOp_want rfl (by rfl) ?_
      go_simp
      (with_reducible refine (lof_ok (5) 6 _ (by decide) (by decide) (by decide) (by decide) (Lib.hid (by decide)) (hE.mono hb)).mono ?_)
      rintro e w1 ⟨⟨nga, aoa, na, capa, ngb, aob, nb, capb, rfl, HVa, HVb⟩, hb1⟩
      have hr : RatV w1 (.agg #[.bool nga, .slice aoa na capa, .bool ngb, .slice aob nb capb]) (Rat.divInt 5 6) := RatV.mk' HVa HVb
      dsimp only
      exact HK.out _ _ hb1 hr
    case s22 =>
      rintro T W hb hA K hK
      have e20 : T 62 = .agg #[.bool ng7, .slice ao7 n7 cap7, .bool ng8, .slice ao8 n8 cap8] := hA.1
      have r21 : (fun W v => RatV W v (Rat.divInt 5 6)) W (T 63) := hA.2.1
      have e19 : T 61 = .bool true := hA.2.2.2.1
      simp only [ovr, Act.put, List.setIfInBounds_toArray, List.set_cons_zero, List.set_cons_succ, e20, e19] at hK ⊢
      have HK := Lib.hid hK
      clear hK hA
      refine wpOp_want rfl (by rfl) ?_
      go_simp
      obtain ⟨nga, aoa, na, capa, ngb, aob, nb, capb, ev, h1, h2⟩ := r21
      rw [ev] at HK ⊢
      (with_reducible refine (eqQ_same _ _ _ _ _ HE2 (HV7.out.mono hb) (HV8.out.mono hb) h1 h2 (hE.mono hb)).mono ?_)
      rintro e w1 ⟨rfl, hb1⟩
      dsimp only
      exact HK.out _ _ hb1 rfl
    case s23 =>
      rintro T W hb hA K hK
      have e19 : T 61 = .bool true := hA.1
      have e22 : T 64 = .bool true := hA.2.1
      simp only [ovr, Act.put, List.setIfInBounds_toArray, List.set_cons_zero, List.set_cons_succ, e19, e22] at hK ⊢
      have HK := Lib.hid hK
      clear hK hA
      refine wpOp_want rfl (by rfl) ?_
      go_simp
      exact HK.out _ _ (Below.refl _ _) rfl
    case s24 =>
      rintro T W hb hA K hK
      have e23 : T 65 = .bool true := hA.1
      have e22 : T 64 = .bool true := hA.2.1
      simp only [ovr, Act.put, List.setIfInBounds_toArray, List.set_cons_zero, List.set_cons_succ, e23, e22] at hK ⊢
      have HK := Lib.hid hK
      clear hK hA
      refine wpOp_want rfl (by rfl) ?_
      go_simp
      exact HK.out _ _ (Below.refl _ _) rfl
    case s25 =>
      rintro T W hb hA K hK
      have e24 : T 66 = .bool true := hA.1
      simp only [ovr, Act.put, List.setIfInBounds_toArray, List.set_cons_zero, List.set_cons_succ, e24] at hK ⊢
      have HK := Lib.hid hK
      clear hK hA
      refine wpOp_want rfl (by rfl) ?_
      go_simp
      exact HK.out _ _ (Below.refl _ _) rfl
    case s26 =>
      rintro T W hb hA K hK
      have e25 : T 67 = .int .i64 0 := hA.1
      have e24 : T 66 = .bool true := hA.2.1
      simp only [ovr, Act.put, List.setIfInBounds_toArray, List.set_cons_zero, List.set_cons_succ, e25, e24] at hK ⊢
      have HK := Lib.hid hK
      clear hK hA
      refine wpOp_want rfl (by rfl) ?_
      go_simp
      exact HK.out _ _ (Below.refl _ _) rfl
    case s27 =>
      rintro T W hb hA K hK
      have e24 : T 66 = .bool true := hA.1
      have e26 : T 68 = .bool true := hA.2.1
      simp only [ovr, Act.put, List.setIfInBounds_toArray, List.set_cons_zero, List.set_cons_succ, e24, e26] at hK ⊢
      have HK := Lib.hid hK
      clear hK hA
      refine wpOp_want rfl (by rfl) ?_
      go_simp
      exact HK.out _ _ (Below.refl _ _) rfl
    case s28 =>
      rintro T W hb hA K hK
      have e27 : T 69 = .bool true := hA.1
      have e24 : T 66 = .bool true := hA.2.1
      simp only [ovr, Act.put, List.setIfInBounds_toArray, List.set_cons_zero, List.set_cons_succ, e27, e24] at hK ⊢
      have HK := Lib.hid hK
      clear hK hA
      refine wpOp_want rfl (by rfl) ?_
      go_simp
      exact HK.out _ _ (Below.refl _ _) rfl
    case s29 =>
      rintro T W hb hA K hK
      have e28 : T 70 = .bool true := hA.1
      simp only [ovr, Act.put, List.setIfInBounds_toArray, List.set_cons_zero, List.set_cons_succ, e28] at hK ⊢
      have HK := Lib.hid hK
      clear hK hA
      refine wpOp_want rfl (by rfl) ?_
      go_simp
      exact HK.out _ _ (Below.refl _ _) rfl
    case s30 =>
      rintro T W hb hA K hK
      have e29 : T 71 = .string ⟨#[45, 48, 46, 54, 54, 54]⟩ := hA.1
      have e28 : T 70 = .bool true := hA.2.1
      simp only [ovr, Act.put, List.setIfInBounds_toArray, List.set_cons_zero, List.set_cons_succ, e29, e28] at hK ⊢
      have HK := Lib.hid hK
      clear hK hA
      refine wpOp_want rfl (by rfl) ?_
      go_simp
      exact HK.out _ _ (Below.refl _ _) rfl
    case s31 =>
      rintro T W hb hA K hK
      have e28 : T 70 = .bool true := hA.1
      have e30 : T 72 = .bool true := hA.2.1
      simp only [ovr, Act.put, List.setIfInBounds_toArray, List.set_cons_zero, List.set_cons_succ, e28, e30] at hK ⊢
      have HK := Lib.hid hK
      clear hK hA
      refine wpOp_want rfl (by rfl) ?_
      go_simp
      exact HK.out _ _ (Below.refl _ _) rfl
    case s32 =>
      rintro T W hb hA K hK
      have e31 : T 73 = .bool true := hA.1
      have e28 : T 70 = .bool true := hA.2.1
      simp only [ovr, Act.put, List.setIfInBounds_toArray, List.set_cons_zero, List.set_cons_succ, e31, e28] at hK ⊢
      have HK := Lib.hid hK
      clear hK hA
      refine wpOp_want rfl (by rfl) ?_
      go_simp
      exact HK.out _ _ (Below.refl _ _) rfl
    case s33 =>
      rintro T W hb hA K hK
      have e32 : T 74 = .bool true := hA.1
      simp only [ovr, Act.put, List.setIfInBounds_toArray, List.set_cons_zero, List.set_cons_succ, e32] at hK ⊢
      have HK := Lib.hid hK
      clear hK hA
      refine wpOp_want rfl (by rfl) ?_
      go_simp
      exact HK.out _ _ (Below.refl _ _) rfl
    case s34 =>
      rintro T W hb hA K hK
      have e33 : T 75 = .int .i64 0 := hA.1
      have e32 : T 74 = .bool true := hA.2.1
      simp only [ovr, Act.put, List.setIfInBounds_toArray, List.set_cons_zero, List.set_cons_succ, e33, e32] at hK ⊢
      have HK := Lib.hid hK
      clear hK hA
      refine wpOp_want rfl (by rfl) ?_
      go_simp
      exact HK.out _ _ (Below.refl _ _) rfl
    case s35 =>
      rintro T W hb hA K hK
      have e32 : T 74 = .bool true := hA.1
      have e34 : T 76 = .bool true := hA.2.1
      simp only [ovr, Act.put, List.setIfInBounds_toArray, List.set_cons_zero, List.set_cons_succ, e32, e34] at hK ⊢
      have HK := Lib.hid hK
      clear hK hA
      refine wpOp_want rfl (by rfl) ?_
      go_simp
      exact HK.out _ _ (Below.refl _ _) rfl
    case s36 =>
      rintro T W hb hA K hK
      have e35 : T 77 = .bool true := hA.1
      have e32 : T 74 = .bool true := hA.2.1
      simp only [ovr, Act.put, List.setIfInBounds_toArray, List.set_cons_zero, List.set_cons_succ, e35, e32] at hK ⊢
      have HK := Lib.hid hK
      clear hK hA
      refine wpOp_want rfl (by rfl) ?_
      go_simp
      exact HK.out _ _ (Below.refl _ _) rfl
    case s37 =>
      rintro T W hb hA K hK
      have e36 : T 78 = .bool true := hA.1
      simp only [ovr, Act.put, List.setIfInBounds_toArray, List.set_cons_zero, List.set_cons_succ, e36] at hK ⊢
      have HK := Lib.hid hK
      clear hK hA
      refine wpOp_want rfl (by rfl) ?_
      go_simp
      exact HK.out _ _ (Below.refl _ _) rfl
    case s38 =>
      rintro T W hb hA K hK
      have e37 : T 79 = .string ⟨#[48, 46, 48, 48]⟩ := hA.1
      have e36 : T 78 = .bool true := hA.2.1
      simp only [ovr, Act.put, List.setIfInBounds_toArray, List.set_cons_zero, List.set_cons_succ, e37, e36] at hK ⊢
      have HK := Lib.hid hK
      clear hK hA
      refine wpOp_want rfl (by rfl) ?_
      go_simp
      exact HK.out _ _ (Below.refl _ _) rfl
    case s39 =>
      rintro T W hb hA K hK
      have e36 : T 78 = .bool true := hA.1
      have e38 : T 80 = .bool true := hA.2.1
      simp only [ovr, Act.put, List.setIfInBounds_toArray, List.set_cons_zero, List.set_cons_succ, e36, e38] at hK ⊢
      have HK := Lib.hid hK
      clear hK hA
      refine wpOp_want rfl (by rfl) ?_
      go_simp
      exact HK.out _ _ (Below.refl _ _) rfl
    case s40 =>
      rintro T W hb hA K hK
      have e39 : T 81 = .bool true := hA.1
      have e36 : T 78 = .bool true := hA.2.1
      simp only [ovr, Act.put, List.setIfInBounds_toArray, List.set_cons_zero, List.set_cons_succ, e39, e36] at hK ⊢
      have HK := Lib.hid hK
      clear hK hA
      refine wpOp_want rfl (by rfl) ?_
      go_simp
      exact HK.out _ _ (Below.refl _ _) rfl
    case s41 =>
      rintro T W hb hA K hK
      have e40 : T 82 = .bool true := hA.1
      simp only [ovr, Act.put, List.setIfInBounds_toArray, List.set_cons_zero, List.set_cons_succ, e40] at hK ⊢
      have HK := Lib.hid hK
      clear hK hA
      refine wpOp_want rfl (by rfl) ?_
      go_simp
      exact HK.out _ _ (Below.refl _ _) rfl
    case s42 =>
      rintro T W hb hA K hK
      have e41 : T 83 = .int .i64 2 := hA.1
      have e40 : T 82 = .bool true := hA.2.1
      simp only [ovr, Act.put, List.setIfInBounds_toArray, List.set_cons_zero, List.set_cons_succ, e41, e40] at hK ⊢
      have HK := Lib.hid hK
      clear hK hA
      refine wpOp_want rfl (by rfl) ?_
      go_simp
      exact HK.out _ _ (Below.refl _ _) rfl
    case s43 =>
      rintro T W hb hA K hK
      have e40 : T 82 = .bool true := hA.1
      have e42 : T 84 = .bool true := hA.2.1
      simp only [ovr, Act.put, List.setIfInBounds_toArray, List.set_cons_zero, List.set_cons_succ, e40, e42] at hK ⊢
      have HK := Lib.hid hK
      clear hK hA
      refine wpOp_want rfl (by rfl) ?_
      go_simp
      exact HK.out _ _ (Below.refl _ _) rfl
    case s44 =>
      rintro T W hb hA K hK
      have e43 : T 85 = .bool true := hA.1
      have e40 : T 82 = .bool true := hA.2.1
      have e0 : T 42 = .int .i64 0 := hA.2.2.1
      have e1 : T 43 = .bool true := hA.2.2.2.1
      have e2 : T 44 = .bool true := hA.2.2.2.2.1
      have e3 : T 45 = .agg #[.bool ng1, .slice ao1 n1 cap1, .bool ng2, .slice ao2 n2 cap2] := hA.2.2.2.2.2.1
      have r4 : (fun W v => RatV W v (Rat.divInt (-3) 2)) W (T 46) := hA.2.2.2.2.2.2.1
      have e5 : T 47 = .bool true := hA.2.2.2.2.2.2.2.1
      have e6 : T 48 = .bool true := hA.2.2.2.2.2.2.2.2.1
      have e7 : T 49 = .bool true := hA.2.2.2.2.2.2.2.2.2.1
      have e8 : T 50 = .int .i64 0 := hA.2.2.2.2.2.2.2.2.2.2.1
      have e9 : T 51 = .bool true := hA.2.2.2.2.2.2.2.2.2.2.2.1
      have e10 : T 52 = .bool true := hA.2.2.2.2.2.2.2.2.2.2.2.2.1
      have e11 : T 53 = .bool true := hA.2.2.2.2.2.2.2.2.2.2.2.2.2.1
      have e12 : T 54 = .string ⟨#[45, 51, 47, 50]⟩ := hA.2.2.2.2.2.2.2.2.2.2.2.2.2.2.1
      have e13 : T 55 = .bool true := hA.2.2.2.2.2.2.2.2.2.2.2.2.2.2.2.1
      have e14 : T 56 = .bool true := hA.2.2.2.2.2.2.2.2.2.2.2.2.2.2.2.2.1
      have e15 : T 57 = .bool true := hA.2.2.2.2.2.2.2.2.2.2.2.2.2.2.2.2.2.1
      have e16 : T 58 = .int .i64 0 := hA.2.2.2.2.2.2.2.2.2.2.2.2.2.2.2.2.2.2.1
      have e17 : T 59 = .bool true := hA.2.2.2.2.2.2.2.2.2.2.2.2.2.2.2.2.2.2.2.1
      have e18 : T 60 = .bool true := hA.2.2.2.2.2.2.2.2.2.2.2.2.2.2.2.2.2.2.2.2.1
      have e19 : T 61 = .bool true := hA.2.2.2.2.2.2.2.2.2.2.2.2.2.2.2.2.2.2.2.2.2.1
      have e20 : T 62 = .agg #[.bool ng7, .slice ao7 n7 cap7, .bool ng8, .slice ao8 n8 cap8] := hA.2.2.2.2.2.2.2.2.2.2.2.2.2.2.2.2.2.2.2.2.2.2.1
      have r21 : (fun W v => RatV W v (Rat.divInt 5 6)) W (T 63) := hA.2.2.2.2.2.2.2.2.2.2.2.2.2.2.2.2.2.2.2.2.2.2.2.1
      have e22 : T 64 = .bool true := hA.2.2.2.2.2.2.2.2.2.2.2.2.2.2.2.2.2.2.2.2.2.2.2.2.1
      have e23 : T 65 = .bool true := hA.2.2.2.2.2.2.2.2.2.2.2.2.2.2.2.2.2.2.2.2.2.2.2.2.2.1
      have e24 : T 66 = .bool true := hA.2.2.2.2.2.2.2.2.2.2.2.2.2.2.2.2.2.2.2.2.2.2.2.2.2.2.1
      have e25 : T 67 = .int .i64 0 := hA.2.2.2.2.2.2.2.2.2.2.2.2.2.2.2.2.2.2.2.2.2.2.2.2.2.2.2.1
      have e26 : T 68 = .bool true := hA.2.2.2.2.2.2.2.2.2.2.2.2.2.2.2.2.2.2.2.2.2.2.2.2.2.2.2.2.1
      have e27 : T 69 = .bool true := hA.2.2.2.2.2.2.2.2.2.2.2.2.2.2.2.2.2.2.2.2.2.2.2.2.2.2.2.2.2.1
      have e28 : T 70 = .bool true := hA.2.2.2.2.2.2.2.2.2.2.2.2.2.2.2.2.2.2.2.2.2.2.2.2.2.2.2.2.2.2.1
      have e29 : T 71 = .string ⟨#[45, 48, 46, 54, 54, 54]⟩ := hA.2.2.2.2.2.2.2.2.2.2.2.2.2.2.2.2.2.2.2.2.2.2.2.2.2.2.2.2.2.2.2.1
      have e30 : T 72 = .bool true := hA.2.2.2.2.2.2.2.2.2.2.2.2.2.2.2.2.2.2.2.2.2.2.2.2.2.2.2.2.2.2.2.2.1
      have e31 : T 73 = .bool true := hA.2.2.2.2.2.2.2.2.2.2.2.2.2.2.2.2.2.2.2.2.2.2.2.2.2.2.2.2.2.2.2.2.2.1
      have e32 : T 74 = .bool true := hA.2.2.2.2.2.2.2.2.2.2.2.2.2.2.2.2.2.2.2.2.2.2.2.2.2.2.2.2.2.2.2.2.2.2.1
      have e33 : T 75 = .int .i64 0 := hA.2.2.2.2.2.2.2.2.2.2.2.2.2.2.2.2.2.2.2.2.2.2.2.2.2.2.2.2.2.2.2.2.2.2.2.1
      have e34 : T 76 = .bool true := hA.2.2.2.2.2.2.2.2.2.2.2.2.2.2.2.2.2.2.2.2.2.2.2.2.2.2.2.2.2.2.2.2.2.2.2.2.1
      have e35 : T 77 = .bool true := hA.2.2.2.2.2.2.2.2.2.2.2.2.2.2.2.2.2.2.2.2.2.2.2.2.2.2.2.2.2.2.2.2.2.2.2.2.2.1
      have e36 : T 78 = .bool true := hA.2.2.2.2.2.2.2.2.2.2.2.2.2.2.2.2.2.2.2.2.2.2.2.2.2.2.2.2.2.2.2.2.2.2.2.2.2.2.1
      have e37 : T 79 = .string ⟨#[48, 46, 48, 48]⟩ := hA.2.2.2.2.2.2.2.2.2.2.2.2.2.2.2.2.2.2.2.2.2.2.2.2.2.2.2.2.2.2.2.2.2.2.2.2.2.2.2.1
      have e38 : T 80 = .bool true := hA.2.2.2.2.2.2.2.2.2.2.2.2.2.2.2.2.2.2.2.2.2.2.2.2.2.2.2.2.2.2.2.2.2.2.2.2.2.2.2.2.1
      have e39 : T 81 = .bool true := hA.2.2.2.2.2.2.2.2.2.2.2.2.2.2.2.2.2.2.2.2.2.2.2.2.2.2.2.2.2.2.2.2.2.2.2.2.2.2.2.2.2.1
      have e41 : T 83 = .int .i64 2 := hA.2.2.2.2.2.2.2.2.2.2.2.2.2.2.2.2.2.2.2.2.2.2.2.2.2.2.2.2.2.2.2.2.2.2.2.2.2.2.2.2.2.2.2.1
      have e42 : T 84 = .bool true := hA.2.2.2.2.2.2.2.2.2.2.2.2.2.2.2.2.2.2.2.2.2.2.2.2.2.2.2.2.2.2.2.2.2.2.2.2.2.2.2.2.2.2.2.2.1
      simp only [ovr, Act.put, List.setIfInBounds_toArray, List.set_cons_zero, List.set_cons_succ, e43, e40, e0, e1, e2, e3, e5, e6, e7, e8, e9, e10, e11, e12, e13, e14, e15, e16, e17, e18, e19, e20, e22, e23, e24, e25, e26, e27, e28, e29, e30, e31, e32, e33, e34, e35, e36, e37, e38, e39, e41, e42] at hK ⊢
      have HK := Lib.hid hK
      clear hK hA
      refine wpOp_want rfl (by rfl) ?_
      go_simp
      exact HK.out _ _ (Below.refl _ _) rfl
    case he =>
      rintro T W hb hA
      have hend : T 0 = .bool true := hA.at 44 (by decide)
      simp only [ovr, List.setIfInBounds_toArray, List.set_cons_zero, List.set_cons_succ, hend]
      go_wp2_with fail
      go_meet
      exact ⟨rfl, hb⟩
  case rest =>
    obtain ⟨rfl, hb⟩ := hcut
    have hM := hM.mono hb
    have HV1 := Lib.hid (HV1.out.mono hb)
    have HV2 := Lib.hid (HV2.out.mono hb)
    have X1 := X1.mono hb
    have HV7 := Lib.hid (HV7.out.mono hb)
    have HV8 := Lib.hid (HV8.out.mono hb)
    have X5 := X5.mono hb
    have X11 := X11.mono hb
    have hE := hE.mono hb
    have hbw := Below.step hbw hb (Nat.le_refl _)
    clear hb
    go_wp2
    go_ret
    exact ⟨rfl, hbw⟩

end Go.Proofs.YtgenhkakcbedaaaGreatDoor
