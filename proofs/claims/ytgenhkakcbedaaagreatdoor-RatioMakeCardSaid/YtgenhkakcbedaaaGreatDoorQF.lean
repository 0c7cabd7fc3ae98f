import Derived.Test.YtgenhkakcbedaaaGreatDoorQD
import Derived.Test.YtgenhkakcbedaaaGreatDoorQE
import Derived.Test.YtgenhkakcbedaaaGreatDoorQ7
namespace Go.Proofs.YtgenhkakcbedaaaGreatDoor
open Go.RowKit

theorem NoQ.p {w' : World} {k : Int} {e : Ending} (h : NoQ k e) : ResP w' k 0 0 e :=
  ⟨false, none, 0, 0, false, none, 0, 0, h, Lib.hid (IntV.zero _), Lib.hid (IntV.zero _)⟩

/-- 'Add' of both come to the same -/
theorem add_two (a b : Rat) : ∃ k p d : Int,
    (∀ (va vb : Value) (w : World), RatV w va a → RatV w vb b → Env w → Calls Tryz.prog 32 #[va, vb] w fun e w' => ResP w' k p d e ∧ Below w.heap.size w w') ∧
    (∀ (va vb : Value) (w : World), RatV w va a → RatV w vb b → Env w → Calls Tryz.prog 35 #[va, vb] w fun e w' => ResP w' k p d e ∧ Below w.heap.size w w') := by
  by_cases h : AddS a b
  · exact ⟨0, _, _, fun va vb w ha hb hE => Add_q va vb a b w ha hb (Lib.hid h) hE, fun va vb w ha hb hE => rAdd_q va vb a b w ha hb (Lib.hid h) hE⟩
  · exact ⟨3, 0, 0, fun va vb w ha hb hE => (Add_qbig va vb a b w ha hb (Lib.hid h) hE).mono fun _ _ ⟨h, h2⟩ => ⟨h.p, h2⟩, fun va vb w ha hb hE => (rAdd_qbig va vb a b w ha hb (Lib.hid h) hE).mono fun _ _ ⟨h, h2⟩ => ⟨h.p, h2⟩⟩

/-- 'Sub' of both come to the same -/
theorem sub_two (a b : Rat) : ∃ k p d : Int,
    (∀ (va vb : Value) (w : World), RatV w va a → RatV w vb b → Env w → Calls Tryz.prog 30 #[va, vb] w fun e w' => ResP w' k p d e ∧ Below w.heap.size w w') ∧
    (∀ (va vb : Value) (w : World), RatV w va a → RatV w vb b → Env w → Calls Tryz.prog 36 #[va, vb] w fun e w' => ResP w' k p d e ∧ Below w.heap.size w w') := by
  by_cases h : SubS a b
  · exact ⟨0, _, _, fun va vb w ha hb hE => Sub_q va vb a b w ha hb (Lib.hid h) hE, fun va vb w ha hb hE => rSub_q va vb a b w ha hb (Lib.hid h) hE⟩
  · exact ⟨3, 0, 0, fun va vb w ha hb hE => (Sub_qbig va vb a b w ha hb (Lib.hid h) hE).mono fun _ _ ⟨h, h2⟩ => ⟨h.p, h2⟩, fun va vb w ha hb hE => (rSub_qbig va vb a b w ha hb (Lib.hid h) hE).mono fun _ _ ⟨h, h2⟩ => ⟨h.p, h2⟩⟩

/-- 'Mul' of both come to the same -/
theorem mul_two (a b : Rat) : ∃ k p d : Int,
    (∀ (va vb : Value) (w : World), RatV w va a → RatV w vb b → Env w → Calls Tryz.prog 33 #[va, vb] w fun e w' => ResP w' k p d e ∧ Below w.heap.size w w') ∧
    (∀ (va vb : Value) (w : World), RatV w va a → RatV w vb b → Env w → Calls Tryz.prog 37 #[va, vb] w fun e w' => ResP w' k p d e ∧ Below w.heap.size w w') := by
  by_cases h : MulS a b
  · exact ⟨0, _, _, fun va vb w ha hb hE => Mul_q va vb a b w ha hb (Lib.hid h) hE, fun va vb w ha hb hE => rMul_q va vb a b w ha hb (Lib.hid h) hE⟩
  · exact ⟨3, 0, 0, fun va vb w ha hb hE => (Mul_qbig va vb a b w ha hb (Lib.hid h) hE).mono fun _ _ ⟨h, h2⟩ => ⟨h.p, h2⟩, fun va vb w ha hb hE => (rMul_qbig va vb a b w ha hb (Lib.hid h) hE).mono fun _ _ ⟨h, h2⟩ => ⟨h.p, h2⟩⟩

/-- 'Div' of both come to the same -/
theorem div_two (a b : Rat) : ∃ k p d : Int,
    (∀ (va vb : Value) (w : World), RatV w va a → RatV w vb b → Env w → Calls Tryz.prog 34 #[va, vb] w fun e w' => ResP w' k p d e ∧ Below w.heap.size w w') ∧
    (∀ (va vb : Value) (w : World), RatV w va a → RatV w vb b → Env w → Calls Tryz.prog 38 #[va, vb] w fun e w' => ResP w' k p d e ∧ Below w.heap.size w w') := by
  by_cases hz : b.num = 0
  · exact ⟨8, 0, 0, fun va vb w ha hb hE => (Div_qzero va vb a b w ha hb (Lib.hid hz) hE).mono fun _ _ ⟨h, h2⟩ => ⟨h.p, h2⟩, fun va vb w ha hb hE => (rDiv_zero va vb a b w ha hb (Lib.hid hz) hE).mono fun _ _ ⟨h, h2⟩ => ⟨h.p, h2⟩⟩
  by_cases h : DivS a b
  · exact ⟨0, _, _, fun va vb w ha hb hE => Div_q va vb a b w ha hb (Lib.hid ⟨h, hz⟩) hE, fun va vb w ha hb hE => rDiv_q va vb a b w ha hb (Lib.hid ⟨h, hz⟩) hE⟩
  · exact ⟨3, 0, 0, fun va vb w ha hb hE => (Div_qbig va vb a b w ha hb (Lib.hid ⟨h, hz⟩) hE).mono fun _ _ ⟨h, h2⟩ => ⟨h.p, h2⟩, fun va vb w ha hb hE => (rDiv_qbig va vb a b w ha hb (Lib.hid ⟨h, hz⟩) hE).mono fun _ _ ⟨h, h2⟩ => ⟨h.p, h2⟩⟩

theorem cmp_two (a b : Rat) : ∃ c k : Int,
    (∀ (va vb : Value) (w : World), RatV w va a → RatV w vb b → Env w → Calls Tryz.prog 29 #[va, vb] w fun e w' => e = .returned (.tuple #[.int .i64 c, .int .i64 k]) ∧ Below w.heap.size w w') ∧
    (∀ (va vb : Value) (w : World), RatV w va a → RatV w vb b → Env w → Calls Tryz.prog 39 #[va, vb] w fun e w' => e = .returned (.tuple #[.int .i64 c, .int .i64 k]) ∧ Below w.heap.size w w') := by
  by_cases h : CrS a b
  · exact ⟨_, 0, fun va vb w ha hb hE => Cmp_q va vb a b w ha hb (Lib.hid h) hE, fun va vb w ha hb hE => rCmp_q va vb a b w ha hb (Lib.hid h) hE⟩
  · exact ⟨0, 3, fun va vb w ha hb hE => Cmp_qbig va vb a b w ha hb (Lib.hid h) hE, fun va vb w ha hb hE => rCmp_qbig va vb a b w ha hb (Lib.hid h) hE⟩

set_option maxRecDepth 100000 in
set_option maxHeartbeats 12800000 in
theorem arith_law (x y : Value) (w : World) (hx : DraftQ w x) (hy : DraftQ w y) (hE : Env w) (hM : MaxV w) :
    Calls Tryz.prog 9 #[x, y] w fun e w' => e = .returned (.bool true) ∧ Below w.heap.size w w' := by
  obtain ⟨ng1, ao1, n1, cap1, ng2, ao2, n2, cap2, rfl, D1, D2⟩ := hx
  obtain ⟨ng3, ao3, n3, cap3, ng4, ao4, n4, cap4, rfl, D3, D4⟩ := hy
  have DX : DraftQ w (.agg #[.bool ng1, .slice ao1 n1 cap1, .bool ng2, .slice ao2 n2 cap2]) := ⟨_, _, _, _, _, _, _, _, rfl, D1, D2⟩
  have DY : DraftQ w (.agg #[.bool ng3, .slice ao3 n3 cap3, .bool ng4, .slice ao4 n4 cap4]) := ⟨_, _, _, _, _, _, _, _, rfl, D3, D4⟩
  clear D1 D2 D3 D4
  have hE0 := hE
  have hbw := Below.refl w.heap.size w
  go_enter Tryz.func9, Tryz.ntmps9
  go_upto_region 1 with fail
  obtain ⟨wx, hwx, hszx, X1, X2, hb⟩ := boxes_44 w (.bool ng1) (.slice ao1 n1 cap1) (.bool ng2) (.slice ao2 n2 cap2) 39 (.bool ng3) (.slice ao3 n3 cap3) (.bool ng4) (.slice ao4 n4 cap4) 39
  rw [← hwx]
  clear hwx
  obtain ⟨v1, rfl⟩ : ∃ v1 : World, v1 = wx := ⟨_, rfl⟩
  have DX := DX.mono hb
  have DY := DY.mono hb
  have hM := hM.mono hb
  have hE := hE.mono hb
  have hbw := Below.step hbw hb (Nat.le_refl _)
  clear hb
  go_wp2_with fail
  (with_reducible refine (awakeQ v1 hE hM).mono ?_)
  rintro e v2 ⟨rfl, hb⟩
  have DX := DX.mono hb
  have DY := DY.mono hb
  have hM := hM.mono hb
  have X1 := X1.mono hb
  have X2 := X2.mono hb
  have hE := hE.mono hb
  have hbw := Below.step hbw hb (Nat.le_refl _)
  clear hb
  go_upto_region 3 with fail
  obtain ⟨wy, rfl⟩ : ∃ wy : World, wy = v2 := ⟨_, rfl⟩
  go_cut [5, 6] (fun s5 s6 wc => (∃ r, BoxQ wc wy.heap.size s5 r) ∧ (∃ r, BoxQ wc wy.heap.size s6 r) ∧ Below wy.heap.size wy wc)
  case first =>
    refine wp_region_flow (fun L T W => Below wy.heap.size wy W ∧ (L 0 → T 29 = .agg #[.bool ng1, .slice ao1 n1 cap1, .bool ng2, .slice ao2 n2 cap2]) ∧ (L 1 → (SomeQ) W (T 30)) ∧ (L 2 → T 31 = .agg #[.bool ng3, .slice ao3 n3 cap3, .bool ng4, .slice ao4 n4 cap4]) ∧ (L 3 → (SomeQ) W (T 32)) ∧ (L 4 → Slot4 W wy.heap.size (SomeQ) (L 6) (T 5)) ∧ (L 5 → Slot4 W wy.heap.size (SomeQ) (L 7) (T 6)) ∧ (L 4 → L 5 → T 5 ≠ T 6) ∧ (L 6 → L 4) ∧ (L 7 → L 5)) [29, 30, 31, 32, 5, 6] (by kernel_rfl) (by kernel_rfl) (by kernel_rfl) ?h0 ⟨?s0, ?s1, ?s2, ?s3, ?s4, ?s5, ?s6, ?s7, trivial⟩ ?he ?hm
    case h0 => exact fun T => ⟨(Below.refl _ _).drew, fun h => h.elim, fun h => h.elim, fun h => h.elim, fun h => h.elim, fun h => h.elim, fun h => h.elim, fun h => h.elim, fun h => h.elim, fun h => h.elim⟩
    case hm =>
      rintro L T W hL ⟨hb, f0, f1, f2, f3, f4, f5, n4_5, c4, c5⟩
      exact ⟨hb, fun _ => f0 (hL _ (by decide)), fun _ => f1 (hL _ (by decide)), fun _ => f2 (hL _ (by decide)), fun _ => f3 (hL _ (by decide)), fun _ => (f4 (hL _ (by decide))).congr ⟨fun _ => by decide, fun _ => hL _ (by decide)⟩, fun _ => (f5 (hL _ (by decide))).congr ⟨fun _ => by decide, fun _ => hL _ (by decide)⟩, fun _ _ => n4_5 (hL _ (by decide)) (hL _ (by decide)), fun _ => by decide, fun _ => by decide⟩
    case s0 =>
      rintro L T W hd hn hJ K hK
      have HJ := Lib.hid hJ
      clear hJ
      have hb := HJ.out.1
      simp only [ovr, Act.put, List.setIfInBounds_toArray, List.set_cons_zero, List.set_cons_succ] at hK ⊢
      have HK := Lib.hid hK
      clear hK
      obtain ⟨c0, c1, c2, c3, c4, c5, c6, c7⟩ := (fun W => S44 (W := W) X1 X2) W hb
      refine wpOp_want rfl rfl ?_
      go_simp
      obtain ⟨hb, f0, f1, f2, f3, f4, f5, n4_5, c4, c5⟩ := HJ.out
      exact HK.out _ _ ⟨hb, fun _ => rfl, fun h => f1 (h.resolve_left (by decide)), fun h => f2 (h.resolve_left (by decide)), fun h => f3 (h.resolve_left (by decide)), fun h => ((f4 (h.resolve_left (by decide)))).congr ⟨fun h => .inr h, fun h => h.resolve_left (by decide)⟩, fun h => ((f5 (h.resolve_left (by decide)))).congr ⟨fun h => .inr h, fun h => h.resolve_left (by decide)⟩, fun h1 h2 => n4_5 (h1.resolve_left (by decide)) (h2.resolve_left (by decide)), fun h => .inr (c4 (h.resolve_left (by decide))), fun h => .inr (c5 (h.resolve_left (by decide)))⟩
    case s1 =>
      rintro L T W hd hn hJ K hK
      have HJ := Lib.hid hJ
      clear hJ
      have hb := HJ.out.1
      have e0 := HJ.out.2.1 hd.1
      simp only [ovr, Act.put, List.setIfInBounds_toArray, List.set_cons_zero, List.set_cons_succ, e0] at hK ⊢
      have HK := Lib.hid hK
      clear hK
      refine wpOp_want rfl rfl ?_
      go_simp
      (with_reducible refine (MadeQ _ _ (DX.mono hb) (hE.mono hb)).mono ?_)
      rintro e w1 ⟨⟨r0, nga, aoa, na, capa, ngb, aob, nb, capb, rfl, HVa, HVb⟩, hb1⟩
      have hr : SomeQ w1 (.agg #[.bool nga, .slice aoa na capa, .bool ngb, .slice aob nb capb]) := ⟨r0, RatV.mk' HVa HVb⟩
      dsimp only
      obtain ⟨hb, f0, f1, f2, f3, f4, f5, n4_5, c4, c5⟩ := HJ.out
      exact HK.out _ _ ⟨Below.step hb hb1 (Nat.le_refl _), fun h => f0 (h.resolve_left (by decide)), fun _ => hr, fun h => f2 (h.resolve_left (by decide)), fun h => (stay4_someQ).mono (f3 (h.resolve_left (by decide))) hb1, fun h => ((f4 (h.resolve_left (by decide))).mono (stay4_someQ) hb1).congr ⟨fun h => .inr h, fun h => h.resolve_left (by decide)⟩, fun h => ((f5 (h.resolve_left (by decide))).mono (stay4_someQ) hb1).congr ⟨fun h => .inr h, fun h => h.resolve_left (by decide)⟩, fun h1 h2 => n4_5 (h1.resolve_left (by decide)) (h2.resolve_left (by decide)), fun h => .inr (c4 (h.resolve_left (by decide))), fun h => .inr (c5 (h.resolve_left (by decide)))⟩
    case s2 =>
      rintro L T W hd hn hJ K hK
      have HJ := Lib.hid hJ
      clear hJ
      have hb := HJ.out.1
      simp only [ovr, Act.put, List.setIfInBounds_toArray, List.set_cons_zero, List.set_cons_succ] at hK ⊢
      have HK := Lib.hid hK
      clear hK
      obtain ⟨c0, c1, c2, c3, c4, c5, c6, c7⟩ := (fun W => S44 (W := W) X1 X2) W hb
      refine wpOp_want rfl rfl ?_
      go_simp
      obtain ⟨hb, f0, f1, f2, f3, f4, f5, n4_5, c4, c5⟩ := HJ.out
      exact HK.out _ _ ⟨hb, fun h => f0 (h.resolve_left (by decide)), fun h => f1 (h.resolve_left (by decide)), fun _ => rfl, fun h => f3 (h.resolve_left (by decide)), fun h => ((f4 (h.resolve_left (by decide)))).congr ⟨fun h => .inr h, fun h => h.resolve_left (by decide)⟩, fun h => ((f5 (h.resolve_left (by decide)))).congr ⟨fun h => .inr h, fun h => h.resolve_left (by decide)⟩, fun h1 h2 => n4_5 (h1.resolve_left (by decide)) (h2.resolve_left (by decide)), fun h => .inr (c4 (h.resolve_left (by decide))), fun h => .inr (c5 (h.resolve_left (by decide)))⟩
    case s3 =>
      rintro L T W hd hn hJ K hK
      have HJ := Lib.hid hJ
      clear hJ
      have hb := HJ.out.1
      have e2 := HJ.out.2.2.2.1 hd.1
      have r1 := HJ.out.2.2.1 hd.2.1
      simp only [ovr, Act.put, List.setIfInBounds_toArray, List.set_cons_zero, List.set_cons_succ, e2] at hK ⊢
      have HK := Lib.hid hK
      clear hK
      refine wpOp_want rfl rfl ?_
      go_simp
      (with_reducible refine (MadeQ _ _ (DY.mono hb) (hE.mono hb)).mono ?_)
      rintro e w1 ⟨⟨r0, nga, aoa, na, capa, ngb, aob, nb, capb, rfl, HVa, HVb⟩, hb1⟩
      have hr : SomeQ w1 (.agg #[.bool nga, .slice aoa na capa, .bool ngb, .slice aob nb capb]) := ⟨r0, RatV.mk' HVa HVb⟩
      dsimp only
      obtain ⟨hb, f0, f1, f2, f3, f4, f5, n4_5, c4, c5⟩ := HJ.out
      exact HK.out _ _ ⟨Below.step hb hb1 (Nat.le_refl _), fun h => f0 (h.resolve_left (by decide)), fun h => (stay4_someQ).mono (f1 (h.resolve_left (by decide))) hb1, fun h => f2 (h.resolve_left (by decide)), fun _ => hr, fun h => ((f4 (h.resolve_left (by decide))).mono (stay4_someQ) hb1).congr ⟨fun h => .inr h, fun h => h.resolve_left (by decide)⟩, fun h => ((f5 (h.resolve_left (by decide))).mono (stay4_someQ) hb1).congr ⟨fun h => .inr h, fun h => h.resolve_left (by decide)⟩, fun h1 h2 => n4_5 (h1.resolve_left (by decide)) (h2.resolve_left (by decide)), fun h => .inr (c4 (h.resolve_left (by decide))), fun h => .inr (c5 (h.resolve_left (by decide)))⟩
    case s4 =>
      rintro L T W hd hn hJ K hK
      have HJ := Lib.hid hJ
      clear hJ
      have hb := HJ.out.1
      simp only [ovr, Act.put, List.setIfInBounds_toArray, List.set_cons_zero, List.set_cons_succ] at hK ⊢
      have HK := Lib.hid hK
      clear hK
      refine wpOp_want rfl rfl ?_
      go_simp
      have hb1 := below_alloc W (.cells #[.bool false, .slice none 0 0, .bool false, .slice none 0 0] 29)
      obtain ⟨hb, f0, f1, f2, f3, f4, f5, n4_5, c4, c5⟩ := HJ.out
      exact HK.out _ _ ⟨Below.step hb hb1 (Nat.le_refl _), fun h => f0 (h.resolve_left (by decide)), fun h => (stay4_someQ).mono (f1 (h.resolve_left (by decide))) hb1, fun h => f2 (h.resolve_left (by decide)), fun h => (stay4_someQ).mono (f3 (h.resolve_left (by decide))) hb1, fun _ => Slot4.new W (fun h => hn (c4 (h.resolve_left (by decide)))) _ hb.size, fun h => ((f5 (h.resolve_left (by decide))).mono (stay4_someQ) hb1).congr ⟨fun h => .inr h, fun h => h.resolve_left (by decide)⟩, fun _ h2 => (f5 (h2.resolve_left (by decide))).ne_new.symm, fun _ => .inl (by decide), fun h => .inr (c5 (h.resolve_left (by decide)))⟩
    case s5 =>
      rintro L T W hd hn hJ K hK
      have HJ := Lib.hid hJ
      clear hJ
      have hb := HJ.out.1
      simp only [ovr, Act.put, List.setIfInBounds_toArray, List.set_cons_zero, List.set_cons_succ] at hK ⊢
      have HK := Lib.hid hK
      clear hK
      refine wpOp_want rfl rfl ?_
      go_simp
      have hb1 := below_alloc W (.cells #[.bool false, .slice none 0 0, .bool false, .slice none 0 0] 29)
      obtain ⟨hb, f0, f1, f2, f3, f4, f5, n4_5, c4, c5⟩ := HJ.out
      exact HK.out _ _ ⟨Below.step hb hb1 (Nat.le_refl _), fun h => f0 (h.resolve_left (by decide)), fun h => (stay4_someQ).mono (f1 (h.resolve_left (by decide))) hb1, fun h => f2 (h.resolve_left (by decide)), fun h => (stay4_someQ).mono (f3 (h.resolve_left (by decide))) hb1, fun h => ((f4 (h.resolve_left (by decide))).mono (stay4_someQ) hb1).congr ⟨fun h => .inr h, fun h => h.resolve_left (by decide)⟩, fun _ => Slot4.new W (fun h => hn (c5 (h.resolve_left (by decide)))) _ hb.size, fun h1 _ => (f4 (h1.resolve_left (by decide))).ne_new, fun h => .inr (c4 (h.resolve_left (by decide))), fun _ => .inl (by decide)⟩
    case s6 =>
      rintro L T W hd hn hJ K hK
      have HJ := Lib.hid hJ
      clear hJ
      have hb := HJ.out.1
      have r1 := HJ.out.2.2.1 hd.2.1
      have r3 := HJ.out.2.2.2.2.1 hd.2.2.1
      have e0 := HJ.out.2.1 hd.2.2.2.1
      have da := hd.1
      have hr := r1
      obtain ⟨m, em, hm1, hm2, hB⟩ := (HJ.out.2.2.2.2.2.1 da).open hn
      obtain ⟨ng, ao, nn, cap, ng2, ao2, nn2, cap2, ev⟩ := SomeQ.parts hr
      rw [ev] at hr
      obtain ⟨b0, b1, b2, b3, b4, b5, b6, b7⟩ := id hB
      simp only [ovr, Act.put, List.setIfInBounds_toArray, List.set_cons_zero, List.set_cons_succ, e0, em, ev] at hK ⊢
      have HK := Lib.hid hK
      clear hK
      refine wpOp_want rfl rfl ?_
      go_simp
      obtain ⟨hb, f0, f1, f2, f3, f4, f5, n4_5, c4, c5⟩ := HJ.out
      exact HK.out undef _ ⟨Below.put4 hb hm1 _ _ _ _, fun h => f0 (h.resolve_left (by decide)), fun h => (stay4_someQ).put (f1 (h.resolve_left (by decide))) hB, fun h => f2 (h.resolve_left (by decide)), fun h => (stay4_someQ).put (f3 (h.resolve_left (by decide))) hB, fun h => by show Slot4 _ _ _ _ (T 5); rw [em]; exact Slot4.stored (stay4_someQ) hm1 hB (.inl (by decide)) hr, fun h => ((f5 (h.resolve_left (by decide))).other (stay4_someQ) (by rw [← em]; exact (n4_5 da (h.resolve_left (by decide))).symm) hB).congr ⟨fun h => .inr h, fun h => h.resolve_left (by decide)⟩, fun h1 h2 => n4_5 (h1.resolve_left (by decide)) (h2.resolve_left (by decide)), fun _ => .inr da, fun h => .inr (c5 (h.resolve_left (by decide)))⟩
    case s7 =>
      rintro L T W hd hn hJ K hK
      have HJ := Lib.hid hJ
      clear hJ
      have hb := HJ.out.1
      have r3 := HJ.out.2.2.2.2.1 hd.2.1
      have e0 := HJ.out.2.1 hd.2.2.2.1
      have r1 := HJ.out.2.2.1 hd.2.2.2.2.1
      have e2 := HJ.out.2.2.2.1 hd.2.2.2.2.2.1
      have da := hd.1
      have hr := r3
      obtain ⟨m, em, hm1, hm2, hB⟩ := (HJ.out.2.2.2.2.2.2.1 da).open hn
      obtain ⟨ng, ao, nn, cap, ng2, ao2, nn2, cap2, ev⟩ := SomeQ.parts hr
      rw [ev] at hr
      obtain ⟨b0, b1, b2, b3, b4, b5, b6, b7⟩ := id hB
      simp only [ovr, Act.put, List.setIfInBounds_toArray, List.set_cons_zero, List.set_cons_succ, e0, e2, em, ev] at hK ⊢
      have HK := Lib.hid hK
      clear hK
      refine wpOp_want rfl rfl ?_
      go_simp
      obtain ⟨hb, f0, f1, f2, f3, f4, f5, n4_5, c4, c5⟩ := HJ.out
      exact HK.out undef _ ⟨Below.put4 hb hm1 _ _ _ _, fun h => f0 (h.resolve_left (by decide)), fun h => (stay4_someQ).put (f1 (h.resolve_left (by decide))) hB, fun h => f2 (h.resolve_left (by decide)), fun h => (stay4_someQ).put (f3 (h.resolve_left (by decide))) hB, fun h => ((f4 (h.resolve_left (by decide))).other (stay4_someQ) (by rw [← em]; exact n4_5 (h.resolve_left (by decide)) da) hB).congr ⟨fun h => .inr h, fun h => h.resolve_left (by decide)⟩, fun h => by show Slot4 _ _ _ _ (T 6); rw [em]; exact Slot4.stored (stay4_someQ) hm1 hB (.inl (by decide)) hr, fun h1 h2 => n4_5 (h1.resolve_left (by decide)) (h2.resolve_left (by decide)), fun h => .inr (c4 (h.resolve_left (by decide))), fun _ => .inr da⟩
    case he =>
      rintro T W ⟨hb, f0, f1, f2, f3, f4, f5, n4_5, c4, c5⟩
      simp only [ovr, List.setIfInBounds_toArray, List.set_cons_zero, List.set_cons_succ]
      obtain ⟨r1, hr1⟩ := (f4 (by decide)).boxQ (by decide)
      obtain ⟨r2, hr2⟩ := (f5 (by decide)).boxQ (by decide)
      go_wp2_with fail
      go_meet
      exact ⟨⟨r1, hr1⟩, ⟨r2, hr2⟩, hb⟩
  case rest =>
    clear X1 X2 DX DY
    obtain ⟨⟨r1, g5, nga, aoa, na, capa, ngb, aob, nb, capb, rfl, hg5, X3, HVa, HVb⟩, ⟨r2, g6, ngc, aoc, nc, capc, ngd, aod, nd, capd, rfl, hg6, X4, HVc, HVd⟩, hb⟩ := hcut
    have hM := hM.mono hb
    have hE := hE.mono hb
    have hbw := Below.step hbw hb (Nat.le_refl _)
    clear hb
    obtain ⟨kk0, pp0, dd0, h1, h2⟩ := add_two r1 r2
    have HA0 := Lib.hid h1
    have HB0 := Lib.hid h2
    clear h1 h2
    have hkk0 : (kk0 == kk0) = true := by simp
    obtain ⟨cX3_0, cX3_1, cX3_2, cX3_3, _, _, _, _⟩ := id X3
    obtain ⟨cX4_0, cX4_1, cX4_2, cX4_3, _, _, _, _⟩ := id X4
    go_wp2_with fail
    (with_reducible refine (HA0.out _ _ wc (RatV.mk' HVa HVb) (RatV.mk' HVc HVd) hE).mono ?_)
    rintro e v3 ⟨⟨ngA0x, aoA0x, nA0x, capA0x, ngA0y, aoA0y, nA0y, capA0y, rfl, HVA0x, HVA0y⟩, hb⟩
    have hM := hM.mono hb
    have X3 := X3.mono hb
    have X4 := X4.mono hb
    have HVa := Lib.hid (HVa.out.mono hb)
    have HVb := Lib.hid (HVb.out.mono hb)
    have HVc := Lib.hid (HVc.out.mono hb)
    have HVd := Lib.hid (HVd.out.mono hb)
    have hE := hE.mono hb
    have hbw := Below.step hbw hb (Nat.le_refl _)
    clear hb
    clear cX3_0 cX3_1 cX3_2 cX3_3 cX4_0 cX4_1 cX4_2 cX4_3
    go_upto_region 5 with fail
    have lYA0X3 := X3.lt
    have lYA0X4 := X4.lt
    have YA0 := Box4.new v3 (.bool ngA0x) (.slice aoA0x nA0x capA0x) (.bool ngA0y) (.slice aoA0y nA0y capA0y) 29
    have hb := below_alloc v3 (.cells #[.bool ngA0x, .slice aoA0x nA0x capA0x, .bool ngA0y, .slice aoA0y nA0y capA0y] 29)
    generalize v3.alloc (.cells #[.bool ngA0x, .slice aoA0x nA0x capA0x, .bool ngA0y, .slice aoA0y nA0y capA0y] 29) = v4 at *
    have hM := hM.mono hb
    have X3 := X3.mono hb
    have X4 := X4.mono hb
    have HVa := Lib.hid (HVa.out.mono hb)
    have HVb := Lib.hid (HVb.out.mono hb)
    have HVc := Lib.hid (HVc.out.mono hb)
    have HVd := Lib.hid (HVd.out.mono hb)
    have HVA0x := Lib.hid (HVA0x.out.mono hb)
    have HVA0y := Lib.hid (HVA0y.out.mono hb)
    have hE := hE.mono hb
    have hbw := Below.step hbw hb (Nat.le_refl _)
    clear hb
    obtain ⟨cX3_0, cX3_1, cX3_2, cX3_3, _, _, _, _⟩ := id X3
    obtain ⟨cX4_0, cX4_1, cX4_2, cX4_3, _, _, _, _⟩ := id X4
    go_wp2_with fail
    (with_reducible refine (HB0.out _ _ v4 (RatV.mk' HVa HVb) (RatV.mk' HVc HVd) hE).mono ?_)
    rintro e v5 ⟨⟨ngB0x, aoB0x, nB0x, capB0x, ngB0y, aoB0y, nB0y, capB0y, rfl, HVB0x, HVB0y⟩, hb⟩
    have hM := hM.mono hb
    have X3 := X3.mono hb
    have X4 := X4.mono hb
    have HVa := Lib.hid (HVa.out.mono hb)
    have HVb := Lib.hid (HVb.out.mono hb)
    have HVc := Lib.hid (HVc.out.mono hb)
    have HVd := Lib.hid (HVd.out.mono hb)
    have HVA0x := Lib.hid (HVA0x.out.mono hb)
    have HVA0y := Lib.hid (HVA0y.out.mono hb)
    have YA0 := YA0.mono hb
    have hE := hE.mono hb
    have hbw := Below.step hbw hb (Nat.le_refl _)
    clear hb
    clear cX3_0 cX3_1 cX3_2 cX3_3 cX4_0 cX4_1 cX4_2 cX4_3
    go_upto_region 6 with fail
    have lYB0X3 := X3.lt
    have lYB0X4 := X4.lt
    have lYB0YA0 := YA0.lt
    have YB0 := Box4.new v5 (.bool ngB0x) (.slice aoB0x nB0x capB0x) (.bool ngB0y) (.slice aoB0y nB0y capB0y) 29
    have hb := below_alloc v5 (.cells #[.bool ngB0x, .slice aoB0x nB0x capB0x, .bool ngB0y, .slice aoB0y nB0y capB0y] 29)
    generalize v5.alloc (.cells #[.bool ngB0x, .slice aoB0x nB0x capB0x, .bool ngB0y, .slice aoB0y nB0y capB0y] 29) = v6 at *
    have hM := hM.mono hb
    have X3 := X3.mono hb
    have X4 := X4.mono hb
    have HVa := Lib.hid (HVa.out.mono hb)
    have HVb := Lib.hid (HVb.out.mono hb)
    have HVc := Lib.hid (HVc.out.mono hb)
    have HVd := Lib.hid (HVd.out.mono hb)
    have HVA0x := Lib.hid (HVA0x.out.mono hb)
    have HVA0y := Lib.hid (HVA0y.out.mono hb)
    have YA0 := YA0.mono hb
    have HVB0x := Lib.hid (HVB0x.out.mono hb)
    have HVB0y := Lib.hid (HVB0y.out.mono hb)
    have hE := hE.mono hb
    have hbw := Below.step hbw hb (Nat.le_refl _)
    clear hb
    obtain ⟨kk1, pp1, dd1, h1, h2⟩ := sub_two r1 r2
    have HA1 := Lib.hid h1
    have HB1 := Lib.hid h2
    clear h1 h2
    have hkk1 : (kk1 == kk1) = true := by simp
    obtain ⟨cX3_0, cX3_1, cX3_2, cX3_3, _, _, _, _⟩ := id X3
    obtain ⟨cX4_0, cX4_1, cX4_2, cX4_3, _, _, _, _⟩ := id X4
    go_wp2_with fail
    (with_reducible refine (HA1.out _ _ v6 (RatV.mk' HVa HVb) (RatV.mk' HVc HVd) hE).mono ?_)
    rintro e v7 ⟨⟨ngA1x, aoA1x, nA1x, capA1x, ngA1y, aoA1y, nA1y, capA1y, rfl, HVA1x, HVA1y⟩, hb⟩
    have hM := hM.mono hb
    have X3 := X3.mono hb
    have X4 := X4.mono hb
    have HVa := Lib.hid (HVa.out.mono hb)
    have HVb := Lib.hid (HVb.out.mono hb)
    have HVc := Lib.hid (HVc.out.mono hb)
    have HVd := Lib.hid (HVd.out.mono hb)
    have HVA0x := Lib.hid (HVA0x.out.mono hb)
    have HVA0y := Lib.hid (HVA0y.out.mono hb)
    have YA0 := YA0.mono hb
    have HVB0x := Lib.hid (HVB0x.out.mono hb)
    have HVB0y := Lib.hid (HVB0y.out.mono hb)
    have YB0 := YB0.mono hb
    have hE := hE.mono hb
    have hbw := Below.step hbw hb (Nat.le_refl _)
    clear hb
    clear cX3_0 cX3_1 cX3_2 cX3_3 cX4_0 cX4_1 cX4_2 cX4_3
    go_upto_region 7 with fail
    have lYA1X3 := X3.lt
    have lYA1X4 := X4.lt
    have lYA1YA0 := YA0.lt
    have lYA1YB0 := YB0.lt
    have YA1 := Box4.new v7 (.bool ngA1x) (.slice aoA1x nA1x capA1x) (.bool ngA1y) (.slice aoA1y nA1y capA1y) 29
    have hb := below_alloc v7 (.cells #[.bool ngA1x, .slice aoA1x nA1x capA1x, .bool ngA1y, .slice aoA1y nA1y capA1y] 29)
    generalize v7.alloc (.cells #[.bool ngA1x, .slice aoA1x nA1x capA1x, .bool ngA1y, .slice aoA1y nA1y capA1y] 29) = v8 at *
    have hM := hM.mono hb
    have X3 := X3.mono hb
    have X4 := X4.mono hb
    have HVa := Lib.hid (HVa.out.mono hb)
    have HVb := Lib.hid (HVb.out.mono hb)
    have HVc := Lib.hid (HVc.out.mono hb)
    have HVd := Lib.hid (HVd.out.mono hb)
    have HVA0x := Lib.hid (HVA0x.out.mono hb)
    have HVA0y := Lib.hid (HVA0y.out.mono hb)
    have YA0 := YA0.mono hb
    have HVB0x := Lib.hid (HVB0x.out.mono hb)
    have HVB0y := Lib.hid (HVB0y.out.mono hb)
    have YB0 := YB0.mono hb
    have HVA1x := Lib.hid (HVA1x.out.mono hb)
    have HVA1y := Lib.hid (HVA1y.out.mono hb)
    have hE := hE.mono hb
    have hbw := Below.step hbw hb (Nat.le_refl _)
    clear hb
    obtain ⟨cX3_0, cX3_1, cX3_2, cX3_3, _, _, _, _⟩ := id X3
    obtain ⟨cX4_0, cX4_1, cX4_2, cX4_3, _, _, _, _⟩ := id X4
    go_wp2_with fail
    (with_reducible refine (HB1.out _ _ v8 (RatV.mk' HVa HVb) (RatV.mk' HVc HVd) hE).mono ?_)
    rintro e v9 ⟨⟨ngB1x, aoB1x, nB1x, capB1x, ngB1y, aoB1y, nB1y, capB1y, rfl, HVB1x, HVB1y⟩, hb⟩
    have hM := hM.mono hb
    have X3 := X3.mono hb
    have X4 := X4.mono hb
    have HVa := Lib.hid (HVa.out.mono hb)
    have HVb := Lib.hid (HVb.out.mono hb)
    have HVc := Lib.hid (HVc.out.mono hb)
    have HVd := Lib.hid (HVd.out.mono hb)
    have HVA0x := Lib.hid (HVA0x.out.mono hb)
    have HVA0y := Lib.hid (HVA0y.out.mono hb)
    have YA0 := YA0.mono hb
    have HVB0x := Lib.hid (HVB0x.out.mono hb)
    have HVB0y := Lib.hid (HVB0y.out.mono hb)
    have YB0 := YB0.mono hb
    have HVA1x := Lib.hid (HVA1x.out.mono hb)
    have HVA1y := Lib.hid (HVA1y.out.mono hb)
    have YA1 := YA1.mono hb
    have hE := hE.mono hb
    have hbw := Below.step hbw hb (Nat.le_refl _)
    clear hb
    clear cX3_0 cX3_1 cX3_2 cX3_3 cX4_0 cX4_1 cX4_2 cX4_3
    go_upto_region 8 with fail
    have lYB1X3 := X3.lt
    have lYB1X4 := X4.lt
    have lYB1YA0 := YA0.lt
    have lYB1YB0 := YB0.lt
    have lYB1YA1 := YA1.lt
    have YB1 := Box4.new v9 (.bool ngB1x) (.slice aoB1x nB1x capB1x) (.bool ngB1y) (.slice aoB1y nB1y capB1y) 29
    have hb := below_alloc v9 (.cells #[.bool ngB1x, .slice aoB1x nB1x capB1x, .bool ngB1y, .slice aoB1y nB1y capB1y] 29)
    generalize v9.alloc (.cells #[.bool ngB1x, .slice aoB1x nB1x capB1x, .bool ngB1y, .slice aoB1y nB1y capB1y] 29) = v10 at *
    have hM := hM.mono hb
    have X3 := X3.mono hb
    have X4 := X4.mono hb
    have HVa := Lib.hid (HVa.out.mono hb)
    have HVb := Lib.hid (HVb.out.mono hb)
    have HVc := Lib.hid (HVc.out.mono hb)
    have HVd := Lib.hid (HVd.out.mono hb)
    have HVA0x := Lib.hid (HVA0x.out.mono hb)
    have HVA0y := Lib.hid (HVA0y.out.mono hb)
    have YA0 := YA0.mono hb
    have HVB0x := Lib.hid (HVB0x.out.mono hb)
    have HVB0y := Lib.hid (HVB0y.out.mono hb)
    have YB0 := YB0.mono hb
    have HVA1x := Lib.hid (HVA1x.out.mono hb)
    have HVA1y := Lib.hid (HVA1y.out.mono hb)
    have YA1 := YA1.mono hb
    have HVB1x := Lib.hid (HVB1x.out.mono hb)
    have HVB1y := Lib.hid (HVB1y.out.mono hb)
    have hE := hE.mono hb
    have hbw := Below.step hbw hb (Nat.le_refl _)
    clear hb
    obtain ⟨kk2, pp2, dd2, h1, h2⟩ := mul_two r1 r2
    have HA2 := Lib.hid h1
    have HB2 := Lib.hid h2
    clear h1 h2
    have hkk2 : (kk2 == kk2) = true := by simp
    obtain ⟨cX3_0, cX3_1, cX3_2, cX3_3, _, _, _, _⟩ := id X3
    obtain ⟨cX4_0, cX4_1, cX4_2, cX4_3, _, _, _, _⟩ := id X4
    go_wp2_with fail
    (with_reducible refine (HA2.out _ _ v10 (RatV.mk' HVa HVb) (RatV.mk' HVc HVd) hE).mono ?_)
    rintro e v11 ⟨⟨ngA2x, aoA2x, nA2x, capA2x, ngA2y, aoA2y, nA2y, capA2y, rfl, HVA2x, HVA2y⟩, hb⟩
    have hM := hM.mono hb
    have X3 := X3.mono hb
    have X4 := X4.mono hb
    have HVa := Lib.hid (HVa.out.mono hb)
    have HVb := Lib.hid (HVb.out.mono hb)
    have HVc := Lib.hid (HVc.out.mono hb)
    have HVd := Lib.hid (HVd.out.mono hb)
    have HVA0x := Lib.hid (HVA0x.out.mono hb)
    have HVA0y := Lib.hid (HVA0y.out.mono hb)
    have YA0 := YA0.mono hb
    have HVB0x := Lib.hid (HVB0x.out.mono hb)
    have HVB0y := Lib.hid (HVB0y.out.mono hb)
    have YB0 := YB0.mono hb
    have HVA1x := Lib.hid (HVA1x.out.mono hb)
    have HVA1y := Lib.hid (HVA1y.out.mono hb)
    have YA1 := YA1.mono hb
    have HVB1x := Lib.hid (HVB1x.out.mono hb)
    have HVB1y := Lib.hid (HVB1y.out.mono hb)
    have YB1 := YB1.mono hb
    have hE := hE.mono hb
    have hbw := Below.step hbw hb (Nat.le_refl _)
    clear hb
    clear cX3_0 cX3_1 cX3_2 cX3_3 cX4_0 cX4_1 cX4_2 cX4_3
    go_upto_region 9 with fail
    have lYA2X3 := X3.lt
    have lYA2X4 := X4.lt
    have lYA2YA0 := YA0.lt
    have lYA2YB0 := YB0.lt
    have lYA2YA1 := YA1.lt
    have lYA2YB1 := YB1.lt
    have YA2 := Box4.new v11 (.bool ngA2x) (.slice aoA2x nA2x capA2x) (.bool ngA2y) (.slice aoA2y nA2y capA2y) 29
    have hb := below_alloc v11 (.cells #[.bool ngA2x, .slice aoA2x nA2x capA2x, .bool ngA2y, .slice aoA2y nA2y capA2y] 29)
    generalize v11.alloc (.cells #[.bool ngA2x, .slice aoA2x nA2x capA2x, .bool ngA2y, .slice aoA2y nA2y capA2y] 29) = v12 at *
    have hM := hM.mono hb
    have X3 := X3.mono hb
    have X4 := X4.mono hb
    have HVa := Lib.hid (HVa.out.mono hb)
    have HVb := Lib.hid (HVb.out.mono hb)
    have HVc := Lib.hid (HVc.out.mono hb)
    have HVd := Lib.hid (HVd.out.mono hb)
    have HVA0x := Lib.hid (HVA0x.out.mono hb)
    have HVA0y := Lib.hid (HVA0y.out.mono hb)
    have YA0 := YA0.mono hb
    have HVB0x := Lib.hid (HVB0x.out.mono hb)
    have HVB0y := Lib.hid (HVB0y.out.mono hb)
    have YB0 := YB0.mono hb
    have HVA1x := Lib.hid (HVA1x.out.mono hb)
    have HVA1y := Lib.hid (HVA1y.out.mono hb)
    have YA1 := YA1.mono hb
    have HVB1x := Lib.hid (HVB1x.out.mono hb)
    have HVB1y := Lib.hid (HVB1y.out.mono hb)
    have YB1 := YB1.mono hb
    have HVA2x := Lib.hid (HVA2x.out.mono hb)
    have HVA2y := Lib.hid (HVA2y.out.mono hb)
    have hE := hE.mono hb
    have hbw := Below.step hbw hb (Nat.le_refl _)
    clear hb
    obtain ⟨cX3_0, cX3_1, cX3_2, cX3_3, _, _, _, _⟩ := id X3
    obtain ⟨cX4_0, cX4_1, cX4_2, cX4_3, _, _, _, _⟩ := id X4
    go_wp2_with fail
    (with_reducible refine (HB2.out _ _ v12 (RatV.mk' HVa HVb) (RatV.mk' HVc HVd) hE).mono ?_)
    rintro e v13 ⟨⟨ngB2x, aoB2x, nB2x, capB2x, ngB2y, aoB2y, nB2y, capB2y, rfl, HVB2x, HVB2y⟩, hb⟩
    have hM := hM.mono hb
    have X3 := X3.mono hb
    have X4 := X4.mono hb
    have HVa := Lib.hid (HVa.out.mono hb)
    have HVb := Lib.hid (HVb.out.mono hb)
    have HVc := Lib.hid (HVc.out.mono hb)
    have HVd := Lib.hid (HVd.out.mono hb)
    have HVA0x := Lib.hid (HVA0x.out.mono hb)
    have HVA0y := Lib.hid (HVA0y.out.mono hb)
    have YA0 := YA0.mono hb
    have HVB0x := Lib.hid (HVB0x.out.mono hb)
    have HVB0y := Lib.hid (HVB0y.out.mono hb)
    have YB0 := YB0.mono hb
    have HVA1x := Lib.hid (HVA1x.out.mono hb)
    have HVA1y := Lib.hid (HVA1y.out.mono hb)
    have YA1 := YA1.mono hb
    have HVB1x := Lib.hid (HVB1x.out.mono hb)
    have HVB1y := Lib.hid (HVB1y.out.mono hb)
    have YB1 := YB1.mono hb
    have HVA2x := Lib.hid (HVA2x.out.mono hb)
    have HVA2y := Lib.hid (HVA2y.out.mono hb)
    have YA2 := YA2.mono hb
    have hE := hE.mono hb
    have hbw := Below.step hbw hb (Nat.le_refl _)
    clear hb
    clear cX3_0 cX3_1 cX3_2 cX3_3 cX4_0 cX4_1 cX4_2 cX4_3
    go_upto_region 10 with fail
    have lYB2X3 := X3.lt
    have lYB2X4 := X4.lt
    have lYB2YA0 := YA0.lt
    have lYB2YB0 := YB0.lt
    have lYB2YA1 := YA1.lt
    have lYB2YB1 := YB1.lt
    have lYB2YA2 := YA2.lt
    have YB2 := Box4.new v13 (.bool ngB2x) (.slice aoB2x nB2x capB2x) (.bool ngB2y) (.slice aoB2y nB2y capB2y) 29
    have hb := below_alloc v13 (.cells #[.bool ngB2x, .slice aoB2x nB2x capB2x, .bool ngB2y, .slice aoB2y nB2y capB2y] 29)
    generalize v13.alloc (.cells #[.bool ngB2x, .slice aoB2x nB2x capB2x, .bool ngB2y, .slice aoB2y nB2y capB2y] 29) = v14 at *
    have hM := hM.mono hb
    have X3 := X3.mono hb
    have X4 := X4.mono hb
    have HVa := Lib.hid (HVa.out.mono hb)
    have HVb := Lib.hid (HVb.out.mono hb)
    have HVc := Lib.hid (HVc.out.mono hb)
    have HVd := Lib.hid (HVd.out.mono hb)
    have HVA0x := Lib.hid (HVA0x.out.mono hb)
    have HVA0y := Lib.hid (HVA0y.out.mono hb)
    have YA0 := YA0.mono hb
    have HVB0x := Lib.hid (HVB0x.out.mono hb)
    have HVB0y := Lib.hid (HVB0y.out.mono hb)
    have YB0 := YB0.mono hb
    have HVA1x := Lib.hid (HVA1x.out.mono hb)
    have HVA1y := Lib.hid (HVA1y.out.mono hb)
    have YA1 := YA1.mono hb
    have HVB1x := Lib.hid (HVB1x.out.mono hb)
    have HVB1y := Lib.hid (HVB1y.out.mono hb)
    have YB1 := YB1.mono hb
    have HVA2x := Lib.hid (HVA2x.out.mono hb)
    have HVA2y := Lib.hid (HVA2y.out.mono hb)
    have YA2 := YA2.mono hb
    have HVB2x := Lib.hid (HVB2x.out.mono hb)
    have HVB2y := Lib.hid (HVB2y.out.mono hb)
    have hE := hE.mono hb
    have hbw := Below.step hbw hb (Nat.le_refl _)
    clear hb
    obtain ⟨kk3, pp3, dd3, h1, h2⟩ := div_two r1 r2
    have HA3 := Lib.hid h1
    have HB3 := Lib.hid h2
    clear h1 h2
    have hkk3 : (kk3 == kk3) = true := by simp
    obtain ⟨cX3_0, cX3_1, cX3_2, cX3_3, _, _, _, _⟩ := id X3
    obtain ⟨cX4_0, cX4_1, cX4_2, cX4_3, _, _, _, _⟩ := id X4
    go_wp2_with fail
    (with_reducible refine (HA3.out _ _ v14 (RatV.mk' HVa HVb) (RatV.mk' HVc HVd) hE).mono ?_)
    rintro e v15 ⟨⟨ngA3x, aoA3x, nA3x, capA3x, ngA3y, aoA3y, nA3y, capA3y, rfl, HVA3x, HVA3y⟩, hb⟩
    have hM := hM.mono hb
    have X3 := X3.mono hb
    have X4 := X4.mono hb
    have HVa := Lib.hid (HVa.out.mono hb)
    have HVb := Lib.hid (HVb.out.mono hb)
    have HVc := Lib.hid (HVc.out.mono hb)
    have HVd := Lib.hid (HVd.out.mono hb)
    have HVA0x := Lib.hid (HVA0x.out.mono hb)
    have HVA0y := Lib.hid (HVA0y.out.mono hb)
    have YA0 := YA0.mono hb
    have HVB0x := Lib.hid (HVB0x.out.mono hb)
    have HVB0y := Lib.hid (HVB0y.out.mono hb)
    have YB0 := YB0.mono hb
    have HVA1x := Lib.hid (HVA1x.out.mono hb)
    have HVA1y := Lib.hid (HVA1y.out.mono hb)
    have YA1 := YA1.mono hb
    have HVB1x := Lib.hid (HVB1x.out.mono hb)
    have HVB1y := Lib.hid (HVB1y.out.mono hb)
    have YB1 := YB1.mono hb
    have HVA2x := Lib.hid (HVA2x.out.mono hb)
    have HVA2y := Lib.hid (HVA2y.out.mono hb)
    have YA2 := YA2.mono hb
    have HVB2x := Lib.hid (HVB2x.out.mono hb)
    have HVB2y := Lib.hid (HVB2y.out.mono hb)
    have YB2 := YB2.mono hb
    have hE := hE.mono hb
    have hbw := Below.step hbw hb (Nat.le_refl _)
    clear hb
    clear cX3_0 cX3_1 cX3_2 cX3_3 cX4_0 cX4_1 cX4_2 cX4_3
    go_upto_region 11 with fail
    have lYA3X3 := X3.lt
    have lYA3X4 := X4.lt
    have lYA3YA0 := YA0.lt
    have lYA3YB0 := YB0.lt
    have lYA3YA1 := YA1.lt
    have lYA3YB1 := YB1.lt
    have lYA3YA2 := YA2.lt
    have lYA3YB2 := YB2.lt
    have YA3 := Box4.new v15 (.bool ngA3x) (.slice aoA3x nA3x capA3x) (.bool ngA3y) (.slice aoA3y nA3y capA3y) 29
    have hb := below_alloc v15 (.cells #[.bool ngA3x, .slice aoA3x nA3x capA3x, .bool ngA3y, .slice aoA3y nA3y capA3y] 29)
    generalize v15.alloc (.cells #[.bool ngA3x, .slice aoA3x nA3x capA3x, .bool ngA3y, .slice aoA3y nA3y capA3y] 29) = v16 at *
    have hM := hM.mono hb
    have X3 := X3.mono hb
    have X4 := X4.mono hb
    have HVa := Lib.hid (HVa.out.mono hb)
    have HVb := Lib.hid (HVb.out.mono hb)
    have HVc := Lib.hid (HVc.out.mono hb)
    have HVd := Lib.hid (HVd.out.mono hb)
    have HVA0x := Lib.hid (HVA0x.out.mono hb)
    have HVA0y := Lib.hid (HVA0y.out.mono hb)
    have YA0 := YA0.mono hb
    have HVB0x := Lib.hid (HVB0x.out.mono hb)
    have HVB0y := Lib.hid (HVB0y.out.mono hb)
    have YB0 := YB0.mono hb
    have HVA1x := Lib.hid (HVA1x.out.mono hb)
    have HVA1y := Lib.hid (HVA1y.out.mono hb)
    have YA1 := YA1.mono hb
    have HVB1x := Lib.hid (HVB1x.out.mono hb)
    have HVB1y := Lib.hid (HVB1y.out.mono hb)
    have YB1 := YB1.mono hb
    have HVA2x := Lib.hid (HVA2x.out.mono hb)
    have HVA2y := Lib.hid (HVA2y.out.mono hb)
    have YA2 := YA2.mono hb
    have HVB2x := Lib.hid (HVB2x.out.mono hb)
    have HVB2y := Lib.hid (HVB2y.out.mono hb)
    have YB2 := YB2.mono hb
    have HVA3x := Lib.hid (HVA3x.out.mono hb)
    have HVA3y := Lib.hid (HVA3y.out.mono hb)
    have hE := hE.mono hb
    have hbw := Below.step hbw hb (Nat.le_refl _)
    clear hb
    obtain ⟨cX3_0, cX3_1, cX3_2, cX3_3, _, _, _, _⟩ := id X3
    obtain ⟨cX4_0, cX4_1, cX4_2, cX4_3, _, _, _, _⟩ := id X4
    go_wp2_with fail
    (with_reducible refine (HB3.out _ _ v16 (RatV.mk' HVa HVb) (RatV.mk' HVc HVd) hE).mono ?_)
    rintro e v17 ⟨⟨ngB3x, aoB3x, nB3x, capB3x, ngB3y, aoB3y, nB3y, capB3y, rfl, HVB3x, HVB3y⟩, hb⟩
    have hM := hM.mono hb
    have X3 := X3.mono hb
    have X4 := X4.mono hb
    have HVa := Lib.hid (HVa.out.mono hb)
    have HVb := Lib.hid (HVb.out.mono hb)
    have HVc := Lib.hid (HVc.out.mono hb)
    have HVd := Lib.hid (HVd.out.mono hb)
    have HVA0x := Lib.hid (HVA0x.out.mono hb)
    have HVA0y := Lib.hid (HVA0y.out.mono hb)
    have YA0 := YA0.mono hb
    have HVB0x := Lib.hid (HVB0x.out.mono hb)
    have HVB0y := Lib.hid (HVB0y.out.mono hb)
    have YB0 := YB0.mono hb
    have HVA1x := Lib.hid (HVA1x.out.mono hb)
    have HVA1y := Lib.hid (HVA1y.out.mono hb)
    have YA1 := YA1.mono hb
    have HVB1x := Lib.hid (HVB1x.out.mono hb)
    have HVB1y := Lib.hid (HVB1y.out.mono hb)
    have YB1 := YB1.mono hb
    have HVA2x := Lib.hid (HVA2x.out.mono hb)
    have HVA2y := Lib.hid (HVA2y.out.mono hb)
    have YA2 := YA2.mono hb
    have HVB2x := Lib.hid (HVB2x.out.mono hb)
    have HVB2y := Lib.hid (HVB2y.out.mono hb)
    have YB2 := YB2.mono hb
    have HVA3x := Lib.hid (HVA3x.out.mono hb)
    have HVA3y := Lib.hid (HVA3y.out.mono hb)
    have YA3 := YA3.mono hb
    have hE := hE.mono hb
    have hbw := Below.step hbw hb (Nat.le_refl _)
    clear hb
    clear cX3_0 cX3_1 cX3_2 cX3_3 cX4_0 cX4_1 cX4_2 cX4_3
    go_upto_region 12 with fail
    have lYB3X3 := X3.lt
    have lYB3X4 := X4.lt
    have lYB3YA0 := YA0.lt
    have lYB3YB0 := YB0.lt
    have lYB3YA1 := YA1.lt
    have lYB3YB1 := YB1.lt
    have lYB3YA2 := YA2.lt
    have lYB3YB2 := YB2.lt
    have lYB3YA3 := YA3.lt
    have YB3 := Box4.new v17 (.bool ngB3x) (.slice aoB3x nB3x capB3x) (.bool ngB3y) (.slice aoB3y nB3y capB3y) 29
    have hb := below_alloc v17 (.cells #[.bool ngB3x, .slice aoB3x nB3x capB3x, .bool ngB3y, .slice aoB3y nB3y capB3y] 29)
    generalize v17.alloc (.cells #[.bool ngB3x, .slice aoB3x nB3x capB3x, .bool ngB3y, .slice aoB3y nB3y capB3y] 29) = v18 at *
    have hM := hM.mono hb
    have X3 := X3.mono hb
    have X4 := X4.mono hb
    have HVa := Lib.hid (HVa.out.mono hb)
    have HVb := Lib.hid (HVb.out.mono hb)
    have HVc := Lib.hid (HVc.out.mono hb)
    have HVd := Lib.hid (HVd.out.mono hb)
    have HVA0x := Lib.hid (HVA0x.out.mono hb)
    have HVA0y := Lib.hid (HVA0y.out.mono hb)
    have YA0 := YA0.mono hb
    have HVB0x := Lib.hid (HVB0x.out.mono hb)
    have HVB0y := Lib.hid (HVB0y.out.mono hb)
    have YB0 := YB0.mono hb
    have HVA1x := Lib.hid (HVA1x.out.mono hb)
    have HVA1y := Lib.hid (HVA1y.out.mono hb)
    have YA1 := YA1.mono hb
    have HVB1x := Lib.hid (HVB1x.out.mono hb)
    have HVB1y := Lib.hid (HVB1y.out.mono hb)
    have YB1 := YB1.mono hb
    have HVA2x := Lib.hid (HVA2x.out.mono hb)
    have HVA2y := Lib.hid (HVA2y.out.mono hb)
    have YA2 := YA2.mono hb
    have HVB2x := Lib.hid (HVB2x.out.mono hb)
    have HVB2y := Lib.hid (HVB2y.out.mono hb)
    have YB2 := YB2.mono hb
    have HVA3x := Lib.hid (HVA3x.out.mono hb)
    have HVA3y := Lib.hid (HVA3y.out.mono hb)
    have YA3 := YA3.mono hb
    have HVB3x := Lib.hid (HVB3x.out.mono hb)
    have HVB3y := Lib.hid (HVB3y.out.mono hb)
    have hE := hE.mono hb
    have hbw := Below.step hbw hb (Nat.le_refl _)
    clear hb
    obtain ⟨cc, kk4, h1, h2⟩ := cmp_two r1 r2
    have HA4 := Lib.hid h1
    have HB4 := Lib.hid h2
    clear h1 h2
    have hkk4 : (kk4 == kk4) = true := by simp
    have hkk5 : (cc == cc) = true := by simp
    obtain ⟨cX3_0, cX3_1, cX3_2, cX3_3, _, _, _, _⟩ := id X3
    obtain ⟨cX4_0, cX4_1, cX4_2, cX4_3, _, _, _, _⟩ := id X4
    go_wp2_with fail
    (with_reducible refine (HA4.out _ _ v18 (RatV.mk' HVa HVb) (RatV.mk' HVc HVd) hE).mono ?_)
    rintro e v19 ⟨rfl, hb⟩
    have hM := hM.mono hb
    have X3 := X3.mono hb
    have X4 := X4.mono hb
    have HVa := Lib.hid (HVa.out.mono hb)
    have HVb := Lib.hid (HVb.out.mono hb)
    have HVc := Lib.hid (HVc.out.mono hb)
    have HVd := Lib.hid (HVd.out.mono hb)
    have HVA0x := Lib.hid (HVA0x.out.mono hb)
    have HVA0y := Lib.hid (HVA0y.out.mono hb)
    have YA0 := YA0.mono hb
    have HVB0x := Lib.hid (HVB0x.out.mono hb)
    have HVB0y := Lib.hid (HVB0y.out.mono hb)
    have YB0 := YB0.mono hb
    have HVA1x := Lib.hid (HVA1x.out.mono hb)
    have HVA1y := Lib.hid (HVA1y.out.mono hb)
    have YA1 := YA1.mono hb
    have HVB1x := Lib.hid (HVB1x.out.mono hb)
    have HVB1y := Lib.hid (HVB1y.out.mono hb)
    have YB1 := YB1.mono hb
    have HVA2x := Lib.hid (HVA2x.out.mono hb)
    have HVA2y := Lib.hid (HVA2y.out.mono hb)
    have YA2 := YA2.mono hb
    have HVB2x := Lib.hid (HVB2x.out.mono hb)
    have HVB2y := Lib.hid (HVB2y.out.mono hb)
    have YB2 := YB2.mono hb
    have HVA3x := Lib.hid (HVA3x.out.mono hb)
    have HVA3y := Lib.hid (HVA3y.out.mono hb)
    have YA3 := YA3.mono hb
    have HVB3x := Lib.hid (HVB3x.out.mono hb)
    have HVB3y := Lib.hid (HVB3y.out.mono hb)
    have YB3 := YB3.mono hb
    have hE := hE.mono hb
    have hbw := Below.step hbw hb (Nat.le_refl _)
    clear hb
    clear cX3_0 cX3_1 cX3_2 cX3_3 cX4_0 cX4_1 cX4_2 cX4_3
    obtain ⟨cX3_0, cX3_1, cX3_2, cX3_3, _, _, _, _⟩ := id X3
    obtain ⟨cX4_0, cX4_1, cX4_2, cX4_3, _, _, _, _⟩ := id X4
    go_wp2_with fail
    (with_reducible refine (HB4.out _ _ v19 (RatV.mk' HVa HVb) (RatV.mk' HVc HVd) hE).mono ?_)
    rintro e v20 ⟨rfl, hb⟩
    have hM := hM.mono hb
    have X3 := X3.mono hb
    have X4 := X4.mono hb
    have HVa := Lib.hid (HVa.out.mono hb)
    have HVb := Lib.hid (HVb.out.mono hb)
    have HVc := Lib.hid (HVc.out.mono hb)
    have HVd := Lib.hid (HVd.out.mono hb)
    have HVA0x := Lib.hid (HVA0x.out.mono hb)
    have HVA0y := Lib.hid (HVA0y.out.mono hb)
    have YA0 := YA0.mono hb
    have HVB0x := Lib.hid (HVB0x.out.mono hb)
    have HVB0y := Lib.hid (HVB0y.out.mono hb)
    have YB0 := YB0.mono hb
    have HVA1x := Lib.hid (HVA1x.out.mono hb)
    have HVA1y := Lib.hid (HVA1y.out.mono hb)
    have YA1 := YA1.mono hb
    have HVB1x := Lib.hid (HVB1x.out.mono hb)
    have HVB1y := Lib.hid (HVB1y.out.mono hb)
    have YB1 := YB1.mono hb
    have HVA2x := Lib.hid (HVA2x.out.mono hb)
    have HVA2y := Lib.hid (HVA2y.out.mono hb)
    have YA2 := YA2.mono hb
    have HVB2x := Lib.hid (HVB2x.out.mono hb)
    have HVB2y := Lib.hid (HVB2y.out.mono hb)
    have YB2 := YB2.mono hb
    have HVA3x := Lib.hid (HVA3x.out.mono hb)
    have HVA3y := Lib.hid (HVA3y.out.mono hb)
    have YA3 := YA3.mono hb
    have HVB3x := Lib.hid (HVB3x.out.mono hb)
    have HVB3y := Lib.hid (HVB3y.out.mono hb)
    have YB3 := YB3.mono hb
    have hE := hE.mono hb
    have hbw := Below.step hbw hb (Nat.le_refl _)
    clear hb
    clear cX3_0 cX3_1 cX3_2 cX3_3 cX4_0 cX4_1 cX4_2 cX4_3
    obtain ⟨cYA0_0, cYA0_1, cYA0_2, cYA0_3, _, _, _, _⟩ := id YA0
    obtain ⟨cYB0_0, cYB0_1, cYB0_2, cYB0_3, _, _, _, _⟩ := id YB0
    go_wp2_with fail
    (with_reducible refine (eqQ_same pp0 dd0 pp0 dd0 v20 (Lib.hid ⟨rfl, rfl⟩) HVA0x.out HVA0y.out HVB0x.out HVB0y.out hE).mono ?_)
    rintro e v21 ⟨rfl, hb⟩
    have hM := hM.mono hb
    have X3 := X3.mono hb
    have X4 := X4.mono hb
    have HVa := Lib.hid (HVa.out.mono hb)
    have HVb := Lib.hid (HVb.out.mono hb)
    have HVc := Lib.hid (HVc.out.mono hb)
    have HVd := Lib.hid (HVd.out.mono hb)
    have HVA0x := Lib.hid (HVA0x.out.mono hb)
    have HVA0y := Lib.hid (HVA0y.out.mono hb)
    have YA0 := YA0.mono hb
    have HVB0x := Lib.hid (HVB0x.out.mono hb)
    have HVB0y := Lib.hid (HVB0y.out.mono hb)
    have YB0 := YB0.mono hb
    have HVA1x := Lib.hid (HVA1x.out.mono hb)
    have HVA1y := Lib.hid (HVA1y.out.mono hb)
    have YA1 := YA1.mono hb
    have HVB1x := Lib.hid (HVB1x.out.mono hb)
    have HVB1y := Lib.hid (HVB1y.out.mono hb)
    have YB1 := YB1.mono hb
    have HVA2x := Lib.hid (HVA2x.out.mono hb)
    have HVA2y := Lib.hid (HVA2y.out.mono hb)
    have YA2 := YA2.mono hb
    have HVB2x := Lib.hid (HVB2x.out.mono hb)
    have HVB2y := Lib.hid (HVB2y.out.mono hb)
    have YB2 := YB2.mono hb
    have HVA3x := Lib.hid (HVA3x.out.mono hb)
    have HVA3y := Lib.hid (HVA3y.out.mono hb)
    have YA3 := YA3.mono hb
    have HVB3x := Lib.hid (HVB3x.out.mono hb)
    have HVB3y := Lib.hid (HVB3y.out.mono hb)
    have YB3 := YB3.mono hb
    have hE := hE.mono hb
    have hbw := Below.step hbw hb (Nat.le_refl _)
    clear hb
    clear cYA0_0 cYA0_1 cYA0_2 cYA0_3 cYB0_0 cYB0_1 cYB0_2 cYB0_3
    obtain ⟨cYA1_0, cYA1_1, cYA1_2, cYA1_3, _, _, _, _⟩ := id YA1
    obtain ⟨cYB1_0, cYB1_1, cYB1_2, cYB1_3, _, _, _, _⟩ := id YB1
    go_wp2_with fail
    (with_reducible refine (eqQ_same pp1 dd1 pp1 dd1 v21 (Lib.hid ⟨rfl, rfl⟩) HVA1x.out HVA1y.out HVB1x.out HVB1y.out hE).mono ?_)
    rintro e v22 ⟨rfl, hb⟩
    have hM := hM.mono hb
    have X3 := X3.mono hb
    have X4 := X4.mono hb
    have HVa := Lib.hid (HVa.out.mono hb)
    have HVb := Lib.hid (HVb.out.mono hb)
    have HVc := Lib.hid (HVc.out.mono hb)
    have HVd := Lib.hid (HVd.out.mono hb)
    have HVA0x := Lib.hid (HVA0x.out.mono hb)
    have HVA0y := Lib.hid (HVA0y.out.mono hb)
    have YA0 := YA0.mono hb
    have HVB0x := Lib.hid (HVB0x.out.mono hb)
    have HVB0y := Lib.hid (HVB0y.out.mono hb)
    have YB0 := YB0.mono hb
    have HVA1x := Lib.hid (HVA1x.out.mono hb)
    have HVA1y := Lib.hid (HVA1y.out.mono hb)
    have YA1 := YA1.mono hb
    have HVB1x := Lib.hid (HVB1x.out.mono hb)
    have HVB1y := Lib.hid (HVB1y.out.mono hb)
    have YB1 := YB1.mono hb
    have HVA2x := Lib.hid (HVA2x.out.mono hb)
    have HVA2y := Lib.hid (HVA2y.out.mono hb)
    have YA2 := YA2.mono hb
    have HVB2x := Lib.hid (HVB2x.out.mono hb)
    have HVB2y := Lib.hid (HVB2y.out.mono hb)
    have YB2 := YB2.mono hb
    have HVA3x := Lib.hid (HVA3x.out.mono hb)
    have HVA3y := Lib.hid (HVA3y.out.mono hb)
    have YA3 := YA3.mono hb
    have HVB3x := Lib.hid (HVB3x.out.mono hb)
    have HVB3y := Lib.hid (HVB3y.out.mono hb)
    have YB3 := YB3.mono hb
    have hE := hE.mono hb
    have hbw := Below.step hbw hb (Nat.le_refl _)
    clear hb
    clear cYA1_0 cYA1_1 cYA1_2 cYA1_3 cYB1_0 cYB1_1 cYB1_2 cYB1_3
    obtain ⟨cYA2_0, cYA2_1, cYA2_2, cYA2_3, _, _, _, _⟩ := id YA2
    obtain ⟨cYB2_0, cYB2_1, cYB2_2, cYB2_3, _, _, _, _⟩ := id YB2
    go_wp2_with fail
    (with_reducible refine (eqQ_same pp2 dd2 pp2 dd2 v22 (Lib.hid ⟨rfl, rfl⟩) HVA2x.out HVA2y.out HVB2x.out HVB2y.out hE).mono ?_)
    rintro e v23 ⟨rfl, hb⟩
    have hM := hM.mono hb
    have X3 := X3.mono hb
    have X4 := X4.mono hb
    have HVa := Lib.hid (HVa.out.mono hb)
    have HVb := Lib.hid (HVb.out.mono hb)
    have HVc := Lib.hid (HVc.out.mono hb)
    have HVd := Lib.hid (HVd.out.mono hb)
    have HVA0x := Lib.hid (HVA0x.out.mono hb)
    have HVA0y := Lib.hid (HVA0y.out.mono hb)
    have YA0 := YA0.mono hb
    have HVB0x := Lib.hid (HVB0x.out.mono hb)
    have HVB0y := Lib.hid (HVB0y.out.mono hb)
    have YB0 := YB0.mono hb
    have HVA1x := Lib.hid (HVA1x.out.mono hb)
    have HVA1y := Lib.hid (HVA1y.out.mono hb)
    have YA1 := YA1.mono hb
    have HVB1x := Lib.hid (HVB1x.out.mono hb)
    have HVB1y := Lib.hid (HVB1y.out.mono hb)
    have YB1 := YB1.mono hb
    have HVA2x := Lib.hid (HVA2x.out.mono hb)
    have HVA2y := Lib.hid (HVA2y.out.mono hb)
    have YA2 := YA2.mono hb
    have HVB2x := Lib.hid (HVB2x.out.mono hb)
    have HVB2y := Lib.hid (HVB2y.out.mono hb)
    have YB2 := YB2.mono hb
    have HVA3x := Lib.hid (HVA3x.out.mono hb)
    have HVA3y := Lib.hid (HVA3y.out.mono hb)
    have YA3 := YA3.mono hb
    have HVB3x := Lib.hid (HVB3x.out.mono hb)
    have HVB3y := Lib.hid (HVB3y.out.mono hb)
    have YB3 := YB3.mono hb
    have hE := hE.mono hb
    have hbw := Below.step hbw hb (Nat.le_refl _)
    clear hb
    clear cYA2_0 cYA2_1 cYA2_2 cYA2_3 cYB2_0 cYB2_1 cYB2_2 cYB2_3
    obtain ⟨cYA3_0, cYA3_1, cYA3_2, cYA3_3, _, _, _, _⟩ := id YA3
    obtain ⟨cYB3_0, cYB3_1, cYB3_2, cYB3_3, _, _, _, _⟩ := id YB3
    go_wp2_with fail
    (with_reducible refine (eqQ_same pp3 dd3 pp3 dd3 v23 (Lib.hid ⟨rfl, rfl⟩) HVA3x.out HVA3y.out HVB3x.out HVB3y.out hE).mono ?_)
    rintro e v24 ⟨rfl, hb⟩
    have hM := hM.mono hb
    have X3 := X3.mono hb
    have X4 := X4.mono hb
    have HVa := Lib.hid (HVa.out.mono hb)
    have HVb := Lib.hid (HVb.out.mono hb)
    have HVc := Lib.hid (HVc.out.mono hb)
    have HVd := Lib.hid (HVd.out.mono hb)
    have HVA0x := Lib.hid (HVA0x.out.mono hb)
    have HVA0y := Lib.hid (HVA0y.out.mono hb)
    have YA0 := YA0.mono hb
    have HVB0x := Lib.hid (HVB0x.out.mono hb)
    have HVB0y := Lib.hid (HVB0y.out.mono hb)
    have YB0 := YB0.mono hb
    have HVA1x := Lib.hid (HVA1x.out.mono hb)
    have HVA1y := Lib.hid (HVA1y.out.mono hb)
    have YA1 := YA1.mono hb
    have HVB1x := Lib.hid (HVB1x.out.mono hb)
    have HVB1y := Lib.hid (HVB1y.out.mono hb)
    have YB1 := YB1.mono hb
    have HVA2x := Lib.hid (HVA2x.out.mono hb)
    have HVA2y := Lib.hid (HVA2y.out.mono hb)
    have YA2 := YA2.mono hb
    have HVB2x := Lib.hid (HVB2x.out.mono hb)
    have HVB2y := Lib.hid (HVB2y.out.mono hb)
    have YB2 := YB2.mono hb
    have HVA3x := Lib.hid (HVA3x.out.mono hb)
    have HVA3y := Lib.hid (HVA3y.out.mono hb)
    have YA3 := YA3.mono hb
    have HVB3x := Lib.hid (HVB3x.out.mono hb)
    have HVB3y := Lib.hid (HVB3y.out.mono hb)
    have YB3 := YB3.mono hb
    have hE := hE.mono hb
    have hbw := Below.step hbw hb (Nat.le_refl _)
    clear hb
    clear cYA3_0 cYA3_1 cYA3_2 cYA3_3 cYB3_0 cYB3_1 cYB3_2 cYB3_3
    go_wp2
    go_ret
    exact ⟨rfl, hbw⟩

end Go.Proofs.YtgenhkakcbedaaaGreatDoor
