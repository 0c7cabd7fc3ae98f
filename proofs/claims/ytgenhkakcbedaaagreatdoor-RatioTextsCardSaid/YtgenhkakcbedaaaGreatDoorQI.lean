import Derived.Test.YtgenhkakcbedaaaGreatDoorQD
import Derived.Test.YtgenhkakcbedaaaGreatDoorQE
namespace Go.Proofs.YtgenhkakcbedaaaGreatDoor
open Go.RowKit

/-- the text of a fraction leads to it again -/
theorem Parse_text (r : Rat) (s : List UInt8) (w : World) (hs : Hid (Rq.textQ r = s)) (h1 : Rq.Sm r.num) (h2 : Rq.Sm (r.den : Int)) (hE : Env w) (hM : MaxV w) :
    Calls Tryz.prog 24 #[.string ⟨s.toArray⟩] w fun e w' => GotQ w' r e ∧ Below w.heap.size w w' := by
  rw [← hs.out]
  have hl := Rq.textQ_len h1 h2
  obtain ⟨g1, g2⟩ := goodT_itoa h1
  by_cases hd : r.den = 1
  · rw [Rq.textQ_one hd] at hl ⊢
    exact ParseQ_tail (Lib.itoa r.num) (Lib.itoa r.num) [] false r.num (some r) w (by omega) (by omega) (by simp) (Lib.hid (Rq.cut_none (Rq.itoa_noslash h1))) (Lib.hid g1) (Lib.hid g2) (.inl ⟨rfl, r, rfl, Lib.hid rfl, Lib.hid (by rw [hd]; rfl)⟩) hE hM
  · rw [Rq.textQ_two hd] at hl ⊢
    obtain ⟨g3, g4⟩ := goodT_itoa h2
    simp at hl
    exact ParseQ_tail _ (Lib.itoa r.num) (Lib.itoa (r.den : Int)) true r.num (some r) w (by simp; omega) (by omega) (by omega) (Lib.hid (Rq.cut_split (Rq.itoa_noslash h1))) (Lib.hid g1) (Lib.hid g2)
      (.inr (.inr (.inr (.inr ⟨rfl, Lib.hid g3, (r.den : Int), r, rfl, Lib.hid g4, Lib.hid (by have := Rq.den_gt r; omega), Lib.hid rfl, Lib.hid rfl⟩)))) hE hM

theorem FormatQ_eq (v : Value) (r : Rat) (t : List UInt8) (w : World) (ht : Hid (Rq.textQ r = t)) (hr : RatV w v r) (hE : Env w) :
    Calls Tryz.prog 22 #[v] w fun e w' => e = .returned (.tuple #[.string ⟨t.toArray⟩, .int .i64 0]) ∧ Below w.heap.size w w' := by
  rw [← ht.out]; exact FormatQ v r w hr hE

set_option maxRecDepth 100000 in
set_option maxHeartbeats 1600000 in
theorem texts_lawQ (x : Value) (w : World) (hx : DraftQ w x) (hE : Env w) (hM : MaxV w) :
    Calls Tryz.prog 4 #[x] w fun e w' => e = .returned (.bool true) ∧ Below w.heap.size w w' := by
  obtain ⟨ng1, ao1, n1, cap1, ng2, ao2, n2, cap2, rfl, D1, D2⟩ := hx
  have DX : DraftQ w (.agg #[.bool ng1, .slice ao1 n1 cap1, .bool ng2, .slice ao2 n2 cap2]) := ⟨_, _, _, _, _, _, _, _, rfl, D1, D2⟩
  clear D1 D2
  have hE0 := hE
  have hbw := Below.refl w.heap.size w
  go_enter Tryz.func4, Tryz.ntmps4
  go_upto_region 1 with fail
  have X1 := Box4.new w (.bool ng1) (.slice ao1 n1 cap1) (.bool ng2) (.slice ao2 n2 cap2) 39
  have hb := below_alloc w (.cells #[.bool ng1, .slice ao1 n1 cap1, .bool ng2, .slice ao2 n2 cap2] 39)
  generalize w.alloc (.cells #[.bool ng1, .slice ao1 n1 cap1, .bool ng2, .slice ao2 n2 cap2] 39) = v1 at *
  have DX := DX.mono hb
  have hM := hM.mono hb
  have hE := hE.mono hb
  have hbw := Below.step hbw hb (Nat.le_refl _)
  clear hb
  go_wp2_with fail
  (with_reducible refine (awakeQ v1 hE hM).mono ?_)
  rintro e v2 ⟨rfl, hb⟩
  have DX := DX.mono hb
  have hM := hM.mono hb
  have X1 := X1.mono hb
  have hE := hE.mono hb
  have hbw := Below.step hbw hb (Nat.le_refl _)
  clear hb
  obtain ⟨cX1_0, cX1_1, cX1_2, cX1_3, _, _, _, _⟩ := id X1
  go_wp2_with fail
  (with_reducible refine (MadeQ _ v2 DX hE).mono ?_)
  rintro e v3 ⟨⟨r, nga, aoa, na, capa, ngb, aob, nb, capb, rfl, HVa, HVb⟩, hb⟩
  have DX := DX.mono hb
  have hM := hM.mono hb
  have X1 := X1.mono hb
  have hE := hE.mono hb
  have hbw := Below.step hbw hb (Nat.le_refl _)
  clear hb
  clear cX1_0 cX1_1 cX1_2 cX1_3
  go_upto_region 4 with fail
  have lX3X1 := X1.lt
  have X3 := Box4.new v3 (.bool nga) (.slice aoa na capa) (.bool ngb) (.slice aob nb capb) 29
  have hb := below_alloc v3 (.cells #[.bool nga, .slice aoa na capa, .bool ngb, .slice aob nb capb] 29)
  generalize v3.alloc (.cells #[.bool nga, .slice aoa na capa, .bool ngb, .slice aob nb capb] 29) = v4 at *
  have DX := DX.mono hb
  have hM := hM.mono hb
  have X1 := X1.mono hb
  have HVa := Lib.hid (HVa.out.mono hb)
  have HVb := Lib.hid (HVb.out.mono hb)
  have hE := hE.mono hb
  have hbw := Below.step hbw hb (Nat.le_refl _)
  clear hb
  obtain ⟨t, ht⟩ : ∃ t, Rq.textQ r = t := ⟨_, rfl⟩
  have HT := Lib.hid ht
  have S1 := HVa.out.small
  have S2 := HVb.out.small
  have HS1 : Hid (Rq.Sm r.num) := Lib.hid S1
  have HS2 : Hid (Rq.Sm (r.den : Int)) := Lib.hid S2
  have htt : (t == t) = true := by simp
  clear ht S1 S2
  obtain ⟨cX3_0, cX3_1, cX3_2, cX3_3, _, _, _, _⟩ := id X3
  go_wp2_with fail
  (with_reducible refine (FormatQ_eq _ r t v4 HT (RatV.mk' HVa HVb) hE).mono ?_)
  rintro e v5 ⟨rfl, hb⟩
  have DX := DX.mono hb
  have hM := hM.mono hb
  have X1 := X1.mono hb
  have HVa := Lib.hid (HVa.out.mono hb)
  have HVb := Lib.hid (HVb.out.mono hb)
  have X3 := X3.mono hb
  have hE := hE.mono hb
  have hbw := Below.step hbw hb (Nat.le_refl _)
  clear hb
  clear cX3_0 cX3_1 cX3_2 cX3_3
  obtain ⟨cX3_0, cX3_1, cX3_2, cX3_3, _, _, _, _⟩ := id X3
  go_wp2_with fail
  (with_reducible refine (rFormatQ_eq _ r t v5 HT (RatV.mk' HVa HVb) hE).mono ?_)
  rintro e v6 ⟨rfl, hb⟩
  have DX := DX.mono hb
  have hM := hM.mono hb
  have X1 := X1.mono hb
  have HVa := Lib.hid (HVa.out.mono hb)
  have HVb := Lib.hid (HVb.out.mono hb)
  have X3 := X3.mono hb
  have hE := hE.mono hb
  have hbw := Below.step hbw hb (Nat.le_refl _)
  clear hb
  clear cX3_0 cX3_1 cX3_2 cX3_3
  go_wp2_with fail
  (with_reducible refine (Parse_text r t v6 HT HS1.out HS2.out hE hM).mono ?_)
  rintro e v7 ⟨⟨ng3, ao3, n3, cap3, ng4, ao4, n4, cap4, rfl, HV3, HV4⟩, hb⟩
  have DX := DX.mono hb
  have hM := hM.mono hb
  have X1 := X1.mono hb
  have HVa := Lib.hid (HVa.out.mono hb)
  have HVb := Lib.hid (HVb.out.mono hb)
  have X3 := X3.mono hb
  have hE := hE.mono hb
  have hbw := Below.step hbw hb (Nat.le_refl _)
  clear hb
  go_upto_region 7 with fail
  have lX8X1 := X1.lt
  have lX8X3 := X3.lt
  have X8 := Box4.new v7 (.bool ng3) (.slice ao3 n3 cap3) (.bool ng4) (.slice ao4 n4 cap4) 29
  have hb := below_alloc v7 (.cells #[.bool ng3, .slice ao3 n3 cap3, .bool ng4, .slice ao4 n4 cap4] 29)
  generalize v7.alloc (.cells #[.bool ng3, .slice ao3 n3 cap3, .bool ng4, .slice ao4 n4 cap4] 29) = v8 at *
  have DX := DX.mono hb
  have hM := hM.mono hb
  have X1 := X1.mono hb
  have HVa := Lib.hid (HVa.out.mono hb)
  have HVb := Lib.hid (HVb.out.mono hb)
  have X3 := X3.mono hb
  have HV3 := Lib.hid (HV3.out.mono hb)
  have HV4 := Lib.hid (HV4.out.mono hb)
  have hE := hE.mono hb
  have hbw := Below.step hbw hb (Nat.le_refl _)
  clear hb
  obtain ⟨cX8_0, cX8_1, cX8_2, cX8_3, _, _, _, _⟩ := id X8
  obtain ⟨cX3_0, cX3_1, cX3_2, cX3_3, _, _, _, _⟩ := id X3
  go_wp2_with fail
  (with_reducible refine (eqQ_same _ _ _ _ v8 (Lib.hid ⟨rfl, rfl⟩) HV3.out HV4.out HVa.out HVb.out hE).mono ?_)
  rintro e v9 ⟨rfl, hb⟩
  have DX := DX.mono hb
  have hM := hM.mono hb
  have X1 := X1.mono hb
  have HVa := Lib.hid (HVa.out.mono hb)
  have HVb := Lib.hid (HVb.out.mono hb)
  have X3 := X3.mono hb
  have HV3 := Lib.hid (HV3.out.mono hb)
  have HV4 := Lib.hid (HV4.out.mono hb)
  have X8 := X8.mono hb
  have hE := hE.mono hb
  have hbw := Below.step hbw hb (Nat.le_refl _)
  clear hb
  clear cX8_0 cX8_1 cX8_2 cX8_3 cX3_0 cX3_1 cX3_2 cX3_3
  go_wp2
  go_ret
  exact ⟨rfl, hbw⟩

end Go.Proofs.YtgenhkakcbedaaaGreatDoor
