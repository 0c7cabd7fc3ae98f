import Derived.Test.YtijjagofingpdaaDoorFlowI
import Derived.RegionTactic
import Derived.BigRegion
namespace Go.Proofs.YtijjagofingpdaaDoor
open Go.RowKit

/-- quotient and remainder, and an error's number, as one value -/
def DivT (zq zr k : Int) (W : World) (v : Value) : Prop := ∃ q r, v = .tuple #[q, r, .int .i64 k] ∧ IntV W q zq ∧ IntV W r zr
theorem stay_div (zq zr k : Int) : Stay (DivT zq zr k) :=
  ⟨fun ⟨q, r, e, h1, h2⟩ hb => ⟨q, r, e, h1.mono hb, h2.mono hb⟩, fun ⟨q, r, e, h1, h2⟩ hB => ⟨q, r, e, h1.putFN hB, h2.putFN hB⟩⟩
theorem Slot.boxZ {W : World} {base : Nat} {z : Int} {st : Prop} {p : Value} (h : Slot W base (fun W v => IntV W v z) st p) (hs : st) : BoxV W p z := by
  obtain ⟨b, e, _, _, h3, _⟩ := h
  obtain ⟨x, y, B, hr⟩ := h3 hs
  obtain ⟨ng, ao, n, cap, e2⟩ := IntV.parts hr
  simp only [Value.agg.injEq, Array.mk.injEq, List.cons.injEq, and_true] at e2
  obtain ⟨rfl, rfl⟩ := e2
  exact ⟨b, ng, ao, n, cap, e, B, Lib.hid hr⟩

theorem sgn_cases {r a : Int} (h : r ≠ 0 → sgnI r = sgnI a) : sgnI r = 0 ∨ (sgnI r = 1 ∧ sgnI a = 1) ∨ (sgnI r = -1 ∧ sgnI a = -1) := by
  by_cases hr : r = 0
  · left; rw [hr]; decide
  · right
    have e := h hr
    have : sgnI r = 1 ∨ sgnI r = -1 := by
      unfold sgnI; rw [if_neg hr]; split
      · exact .inr rfl
      · exact .inl rfl
    rcases this with h1 | h1
    · exact .inl ⟨h1, by rw [← e]; exact h1⟩
    · exact .inr ⟨h1, by rw [← e]; exact h1⟩

theorem rSign_eq (v : Value) (z c : Int) (w : World) (hc : Hid (sgnI z = c)) (h : IntV w v z) :
    Calls Tryd.prog 19 #[v] w fun e w' => e = .returned (.int .i64 c) ∧ Below w.heap.size w w' := by
  rw [← hc.out]; exact rSign_any v z w h

set_option maxRecDepth 100000 in
set_option maxHeartbeats 6400000 in
theorem division_law (c d : Value) (w : World) (hc : DraftV w c) (hd : DraftV w d) (hE : Env w) :
    Calls Tryd.prog 8 #[c, d] w fun e w' => e = .returned (.bool true) ∧ Below w.heap.size w w' := by
  obtain ⟨ncg, aoc, lc, capc, rfl, hc1, hc2, hc3⟩ := id hc
  clear hc1 hc2 hc3
  obtain ⟨ndg, aod, ld, capd, rfl, hd1, hd2, hd3⟩ := id hd
  clear hd1 hd2 hd3
  go_enter Tryd.func8, Tryd.ntmps8
  go_upto_region 1 with fail
  obtain ⟨wx, hwx, hszx, B1, B2, hbw⟩ := boxes2 w (.bool ncg) (.slice aoc lc.length capc) (.bool ndg) (.slice aod ld.length capd) 24
  rw [← hwx]
  clear hwx hszx
  have hc0 := hc.mono hbw
  have hd0 := hd.mono hbw
  have hzw := hbw.size
  clear hc hd
  go_cut [5, 6] (fun s5 s6 wc => Two w wc s5 s6)
  case first =>
    have hS := fun W => S2 (W := W) B1 B2
    refine wp_region_flow (fun L T W => Below wx.heap.size wx W ∧ (L 0 → T 17 = .agg #[.bool ncg, .slice aoc lc.length capc]) ∧ (L 1 → (SomeI) W (T 18)) ∧ (L 2 → T 19 = .agg #[.bool ndg, .slice aod ld.length capd]) ∧ (L 3 → (SomeI) W (T 20)) ∧ (L 4 → Slot W wx.heap.size (SomeI) (L 6) (T 5)) ∧ (L 5 → Slot W wx.heap.size (SomeI) (L 7) (T 6)) ∧ (L 4 → L 5 → T 5 ≠ T 6) ∧ (L 6 → L 4) ∧ (L 7 → L 5)) [17, 18, 19, 20, 5, 6] (by kernel_rfl) (by kernel_rfl) (by kernel_rfl) ?h0 ⟨?s0, ?s1, ?s2, ?s3, ?s4, ?s5, ?s6, ?s7, trivial⟩ ?he ?hm
    case h0 => exact fun T => ⟨(Below.refl _ _).drew, fun h => h.elim, fun h => h.elim, fun h => h.elim, fun h => h.elim, fun h => h.elim, fun h => h.elim, fun h => h.elim, fun h => h.elim, fun h => h.elim⟩
    case hm =>
      rintro L T W hL ⟨hb, f0, f1, f2, f3, f4, f5, n4_5, c4, c5⟩
      exact ⟨hb, fun _ => f0 (hL _ (by decide)), fun _ => f1 (hL _ (by decide)), fun _ => f2 (hL _ (by decide)), fun _ => f3 (hL _ (by decide)), fun _ => (f4 (hL _ (by decide))).congr ⟨fun _ => by decide, fun _ => hL _ (by decide)⟩, fun _ => (f5 (hL _ (by decide))).congr ⟨fun _ => by decide, fun _ => hL _ (by decide)⟩, fun _ _ => n4_5 (hL _ (by decide)) (hL _ (by decide)), fun _ => by decide, fun _ => by decide⟩
    case s0 =>
      rintro L T W hd hn hJ K hK
      have HJ := Lib.hid hJ
      clear hJ
      have hb := HJ.out.1
      simp only [ovr, Act.put, List.setIfInBounds_toArray, List.set_cons_zero, List.set_cons_succ] at hK ⊢
      have HK := Lib.hid hK
      clear hK
      obtain ⟨c0, c1, c2, c3⟩ := hS W hb
      refine wpOp_want rfl rfl ?_
      go_simp
      obtain ⟨hb, f0, f1, f2, f3, f4, f5, n4_5, c4, c5⟩ := HJ.out
      exact HK.out _ _ ⟨hb, fun _ => rfl, fun h => f1 (h.resolve_left (by decide)), fun h => f2 (h.resolve_left (by decide)), fun h => f3 (h.resolve_left (by decide)), fun h => ((f4 (h.resolve_left (by decide)))).congr ⟨fun h => .inr h, fun h => h.resolve_left (by decide)⟩, fun h => ((f5 (h.resolve_left (by decide)))).congr ⟨fun h => .inr h, fun h => h.resolve_left (by decide)⟩, fun h1 h2 => n4_5 (h1.resolve_left (by decide)) (h2.resolve_left (by decide)), fun h => .inr (c4 (h.resolve_left (by decide))), fun h => .inr (c5 (h.resolve_left (by decide)))⟩
    case s1 =>
      rintro L T W hd hn hJ K hK
      have HJ := Lib.hid hJ
      clear hJ
      have hb := HJ.out.1
      have e0 := HJ.out.2.1 hd.1
      simp only [ovr, Act.put, List.setIfInBounds_toArray, List.set_cons_zero, List.set_cons_succ, e0] at hK ⊢
      have HK := Lib.hid hK
      clear hK
      refine wpOp_want rfl rfl ?_
      go_simp
      (with_reducible refine (madeV ncg aoc _ capc _ (hc0.mono hb)).mono ?_)
      rintro e w1 ⟨⟨zz, ng1, ao1, n1, cap1, rfl, HV1⟩, hb1⟩
      have hr : SomeI w1 (.agg #[.bool ng1, .slice ao1 n1 cap1]) := ⟨zz, HV1.out⟩
      dsimp only
      obtain ⟨hb, f0, f1, f2, f3, f4, f5, n4_5, c4, c5⟩ := HJ.out
      exact HK.out _ _ ⟨Below.step hb hb1 (Nat.le_refl _), fun h => f0 (h.resolve_left (by decide)), fun _ => hr, fun h => f2 (h.resolve_left (by decide)), fun h => (stay_some).mono (f3 (h.resolve_left (by decide))) hb1, fun h => ((f4 (h.resolve_left (by decide))).mono (stay_some) hb1).congr ⟨fun h => .inr h, fun h => h.resolve_left (by decide)⟩, fun h => ((f5 (h.resolve_left (by decide))).mono (stay_some) hb1).congr ⟨fun h => .inr h, fun h => h.resolve_left (by decide)⟩, fun h1 h2 => n4_5 (h1.resolve_left (by decide)) (h2.resolve_left (by decide)), fun h => .inr (c4 (h.resolve_left (by decide))), fun h => .inr (c5 (h.resolve_left (by decide)))⟩
    case s2 =>
      rintro L T W hd hn hJ K hK
      have HJ := Lib.hid hJ
      clear hJ
      have hb := HJ.out.1
      simp only [ovr, Act.put, List.setIfInBounds_toArray, List.set_cons_zero, List.set_cons_succ] at hK ⊢
      have HK := Lib.hid hK
      clear hK
      obtain ⟨c0, c1, c2, c3⟩ := hS W hb
      refine wpOp_want rfl rfl ?_
      go_simp
      obtain ⟨hb, f0, f1, f2, f3, f4, f5, n4_5, c4, c5⟩ := HJ.out
      exact HK.out _ _ ⟨hb, fun h => f0 (h.resolve_left (by decide)), fun h => f1 (h.resolve_left (by decide)), fun _ => rfl, fun h => f3 (h.resolve_left (by decide)), fun h => ((f4 (h.resolve_left (by decide)))).congr ⟨fun h => .inr h, fun h => h.resolve_left (by decide)⟩, fun h => ((f5 (h.resolve_left (by decide)))).congr ⟨fun h => .inr h, fun h => h.resolve_left (by decide)⟩, fun h1 h2 => n4_5 (h1.resolve_left (by decide)) (h2.resolve_left (by decide)), fun h => .inr (c4 (h.resolve_left (by decide))), fun h => .inr (c5 (h.resolve_left (by decide)))⟩
    case s3 =>
      rintro L T W hd hn hJ K hK
      have HJ := Lib.hid hJ
      clear hJ
      have hb := HJ.out.1
      have e2 := HJ.out.2.2.2.1 hd.1
      have r1 := HJ.out.2.2.1 hd.2.1
      simp only [ovr, Act.put, List.setIfInBounds_toArray, List.set_cons_zero, List.set_cons_succ, e2] at hK ⊢
      have HK := Lib.hid hK
      clear hK
      refine wpOp_want rfl rfl ?_
      go_simp
      (with_reducible refine (madeV ndg aod _ capd _ (hd0.mono hb)).mono ?_)
      rintro e w1 ⟨⟨zz, ng1, ao1, n1, cap1, rfl, HV1⟩, hb1⟩
      have hr : SomeI w1 (.agg #[.bool ng1, .slice ao1 n1 cap1]) := ⟨zz, HV1.out⟩
      dsimp only
      obtain ⟨hb, f0, f1, f2, f3, f4, f5, n4_5, c4, c5⟩ := HJ.out
      exact HK.out _ _ ⟨Below.step hb hb1 (Nat.le_refl _), fun h => f0 (h.resolve_left (by decide)), fun h => (stay_some).mono (f1 (h.resolve_left (by decide))) hb1, fun h => f2 (h.resolve_left (by decide)), fun _ => hr, fun h => ((f4 (h.resolve_left (by decide))).mono (stay_some) hb1).congr ⟨fun h => .inr h, fun h => h.resolve_left (by decide)⟩, fun h => ((f5 (h.resolve_left (by decide))).mono (stay_some) hb1).congr ⟨fun h => .inr h, fun h => h.resolve_left (by decide)⟩, fun h1 h2 => n4_5 (h1.resolve_left (by decide)) (h2.resolve_left (by decide)), fun h => .inr (c4 (h.resolve_left (by decide))), fun h => .inr (c5 (h.resolve_left (by decide)))⟩
    case s4 =>
      rintro L T W hd hn hJ K hK
      have HJ := Lib.hid hJ
      clear hJ
      have hb := HJ.out.1
      simp only [ovr, Act.put, List.setIfInBounds_toArray, List.set_cons_zero, List.set_cons_succ] at hK ⊢
      have HK := Lib.hid hK
      clear hK
      refine wpOp_want rfl rfl ?_
      go_simp
      have hb1 := below_alloc W (.cells #[.bool false, .slice none 0 0] 25)
      obtain ⟨hb, f0, f1, f2, f3, f4, f5, n4_5, c4, c5⟩ := HJ.out
      exact HK.out _ _ ⟨Below.step hb hb1 (Nat.le_refl _), fun h => f0 (h.resolve_left (by decide)), fun h => (stay_some).mono (f1 (h.resolve_left (by decide))) hb1, fun h => f2 (h.resolve_left (by decide)), fun h => (stay_some).mono (f3 (h.resolve_left (by decide))) hb1, fun _ => Slot.new W (fun h => hn (c4 (h.resolve_left (by decide)))) _ hb.size, fun h => ((f5 (h.resolve_left (by decide))).mono (stay_some) hb1).congr ⟨fun h => .inr h, fun h => h.resolve_left (by decide)⟩, fun _ h2 => (f5 (h2.resolve_left (by decide))).ne_new.symm, fun _ => .inl (by decide), fun h => .inr (c5 (h.resolve_left (by decide)))⟩
    case s5 =>
      rintro L T W hd hn hJ K hK
      have HJ := Lib.hid hJ
      clear hJ
      have hb := HJ.out.1
      simp only [ovr, Act.put, List.setIfInBounds_toArray, List.set_cons_zero, List.set_cons_succ] at hK ⊢
      have HK := Lib.hid hK
      clear hK
      refine wpOp_want rfl rfl ?_
      go_simp
      have hb1 := below_alloc W (.cells #[.bool false, .slice none 0 0] 25)
      obtain ⟨hb, f0, f1, f2, f3, f4, f5, n4_5, c4, c5⟩ := HJ.out
      exact HK.out _ _ ⟨Below.step hb hb1 (Nat.le_refl _), fun h => f0 (h.resolve_left (by decide)), fun h => (stay_some).mono (f1 (h.resolve_left (by decide))) hb1, fun h => f2 (h.resolve_left (by decide)), fun h => (stay_some).mono (f3 (h.resolve_left (by decide))) hb1, fun h => ((f4 (h.resolve_left (by decide))).mono (stay_some) hb1).congr ⟨fun h => .inr h, fun h => h.resolve_left (by decide)⟩, fun _ => Slot.new W (fun h => hn (c5 (h.resolve_left (by decide)))) _ hb.size, fun h1 _ => (f4 (h1.resolve_left (by decide))).ne_new, fun h => .inr (c4 (h.resolve_left (by decide))), fun _ => .inl (by decide)⟩
    case s6 =>
      rintro L T W hd hn hJ K hK
      have HJ := Lib.hid hJ
      clear hJ
      have hb := HJ.out.1
      have r1 := HJ.out.2.2.1 hd.2.1
      have r3 := HJ.out.2.2.2.2.1 hd.2.2.1
      have e0 := HJ.out.2.1 hd.2.2.2.1
      have da := hd.1
      have hr := r1
      obtain ⟨m, em, hm1, hm2, hB⟩ := (HJ.out.2.2.2.2.2.1 da).open hn
      obtain ⟨ng, ao, nn, cap, ev⟩ := SomeI.parts hr
      rw [ev] at hr
      obtain ⟨b0, b1, b2, b3⟩ := id hB
      simp only [ovr, Act.put, List.setIfInBounds_toArray, List.set_cons_zero, List.set_cons_succ, e0, em, ev] at hK ⊢
      have HK := Lib.hid hK
      clear hK
      refine wpOp_want rfl rfl ?_
      go_simp
      obtain ⟨hb, f0, f1, f2, f3, f4, f5, n4_5, c4, c5⟩ := HJ.out
      exact HK.out undef _ ⟨Below.put2 hb hm1 _ _, fun h => f0 (h.resolve_left (by decide)), fun h => (stay_some).put (f1 (h.resolve_left (by decide))) hB, fun h => f2 (h.resolve_left (by decide)), fun h => (stay_some).put (f3 (h.resolve_left (by decide))) hB, fun h => by show Slot _ _ _ _ (T 5); rw [em]; exact Slot.stored (stay_some) hm1 hB (.inl (by decide)) hr, fun h => ((f5 (h.resolve_left (by decide))).other (stay_some) (by rw [← em]; exact (n4_5 da (h.resolve_left (by decide))).symm) hB).congr ⟨fun h => .inr h, fun h => h.resolve_left (by decide)⟩, fun h1 h2 => n4_5 (h1.resolve_left (by decide)) (h2.resolve_left (by decide)), fun _ => .inr da, fun h => .inr (c5 (h.resolve_left (by decide)))⟩
    case s7 =>
      rintro L T W hd hn hJ K hK
      have HJ := Lib.hid hJ
      clear hJ
      have hb := HJ.out.1
      have r3 := HJ.out.2.2.2.2.1 hd.2.1
      have e0 := HJ.out.2.1 hd.2.2.2.1
      have r1 := HJ.out.2.2.1 hd.2.2.2.2.1
      have e2 := HJ.out.2.2.2.1 hd.2.2.2.2.2.1
      have da := hd.1
      have hr := r3
      obtain ⟨m, em, hm1, hm2, hB⟩ := (HJ.out.2.2.2.2.2.2.1 da).open hn
      obtain ⟨ng, ao, nn, cap, ev⟩ := SomeI.parts hr
      rw [ev] at hr
      obtain ⟨b0, b1, b2, b3⟩ := id hB
      simp only [ovr, Act.put, List.setIfInBounds_toArray, List.set_cons_zero, List.set_cons_succ, e0, e2, em, ev] at hK ⊢
      have HK := Lib.hid hK
      clear hK
      refine wpOp_want rfl rfl ?_
      go_simp
      obtain ⟨hb, f0, f1, f2, f3, f4, f5, n4_5, c4, c5⟩ := HJ.out
      exact HK.out undef _ ⟨Below.put2 hb hm1 _ _, fun h => f0 (h.resolve_left (by decide)), fun h => (stay_some).put (f1 (h.resolve_left (by decide))) hB, fun h => f2 (h.resolve_left (by decide)), fun h => (stay_some).put (f3 (h.resolve_left (by decide))) hB, fun h => ((f4 (h.resolve_left (by decide))).other (stay_some) (by rw [← em]; exact n4_5 (h.resolve_left (by decide)) da) hB).congr ⟨fun h => .inr h, fun h => h.resolve_left (by decide)⟩, fun h => by show Slot _ _ _ _ (T 6); rw [em]; exact Slot.stored (stay_some) hm1 hB (.inl (by decide)) hr, fun h1 h2 => n4_5 (h1.resolve_left (by decide)) (h2.resolve_left (by decide)), fun h => .inr (c4 (h.resolve_left (by decide))), fun _ => .inr da⟩
    case he =>
      rintro T W ⟨hb, f0, f1, f2, f3, f4, f5, n4_5, c4, c5⟩
      simp only [ovr, List.setIfInBounds_toArray, List.set_cons_zero, List.set_cons_succ]
      obtain ⟨z1, X1⟩ := (f4 (by decide)).boxV (by decide) (fun _ h => h)
      obtain ⟨z2, X2⟩ := (f5 (by decide)).boxV (by decide) (fun _ h => h)
      go_wp2_with fail
      go_meet
      exact ⟨z1, z2, X1, X2, Below.step hbw hb (Nat.le_refl _)⟩
  case rest =>
    clear B1 B2 hc0 hd0 hzw hbw
    obtain ⟨z1, z2, ⟨g1, ng1, ao1, n1, cap1, rfl, X1, HV1⟩, ⟨g2, ng2, ao2, n2, cap2, rfl, X2, HV2⟩, hbw⟩ := hcut
    have hE := hE.mono hbw
    have l1 := X1.lt
    have l2 := X2.lt
    obtain ⟨x0, x1, _, _⟩ := id X1
    obtain ⟨y0, y1, _, _⟩ := id X2
    go_wp2_with fail
    (with_reducible refine (awake_any _ hE).mono ?_)
    rintro e wa ⟨rfl, hba⟩
    have X1 := X1.mono hba
    have X2 := X2.mono hba
    have HV1 := Lib.hid (HV1.out.mono hba)
    have HV2 := Lib.hid (HV2.out.mono hba)
    have hE := hE.mono hba
    have hbw := Below.step hbw hba (Nat.le_refl _)
    have l1 := X1.lt
    have l2 := X2.lt
    clear hba x0 x1 y0 y1
    obtain ⟨x0, x1, _, _⟩ := id X1
    obtain ⟨y0, y1, _, _⟩ := id X2
    go_upto_region 4 with fail
    by_cases hz0 : z2 = 0
    · subst hz0
      obtain ⟨wx, rfl⟩ : ∃ wx : World, wx = wa := ⟨_, rfl⟩
      go_cut [7, 8, 9] (fun s7 s8 s9 wc => TwoR wx wc s7 s8 s9 (0) (0) 8)
      case first =>
        have hS := fun W => S2 (W := W) X1 X2
        refine wp_region_flow (fun L T W => Below wx.heap.size wx W ∧ (L 0 → T 24 = .agg #[.bool ng1, .slice ao1 n1 cap1]) ∧ (L 1 → (fun W v => IntV W v z1) W (T 25)) ∧ (L 2 → T 26 = .agg #[.bool ng2, .slice ao2 n2 cap2]) ∧ (L 3 → (fun W v => IntV W v 0) W (T 27)) ∧ (L 4 → (DivT (0) (0) 8) W (T 28)) ∧ (L 5 → (DivT (0) (0) 8) W (T 23)) ∧ (L 6 → (fun W v => IntV W v (0)) W (T 29)) ∧ (L 7 → (fun W v => IntV W v (0)) W (T 30)) ∧ (L 8 → T 31 = .int .i64 8) ∧ (L 9 → Slot W wx.heap.size (fun W v => IntV W v (0)) (L 11) (T 7)) ∧ (L 10 → Slot W wx.heap.size (fun W v => IntV W v (0)) (L 12) (T 8)) ∧ (L 13 → T 9 = .int .i64 8) ∧ (L 9 → L 10 → T 7 ≠ T 8) ∧ (L 11 → L 9) ∧ (L 12 → L 10)) [24, 25, 26, 27, 28, 23, 29, 30, 31, 7, 8, 9] (by kernel_rfl) (by kernel_rfl) (by kernel_rfl) ?h0 ⟨?s0, ?s1, ?s2, ?s3, ?s4, ?s5, ?s6, ?s7, ?s8, ?s9, ?s10, ?s11, ?s12, ?s13, trivial⟩ ?he ?hm
        case h0 => exact fun T => ⟨(Below.refl _ _).drew, fun h => h.elim, fun h => h.elim, fun h => h.elim, fun h => h.elim, fun h => h.elim, fun h => h.elim, fun h => h.elim, fun h => h.elim, fun h => h.elim, fun h => h.elim, fun h => h.elim, fun h => h.elim, fun h => h.elim, fun h => h.elim, fun h => h.elim⟩
        case hm =>
          rintro L T W hL ⟨hb, f0, f1, f2, f3, f4, f5, f6, f7, f8, f9, f10, f13, n9_10, c9, c10⟩
          exact ⟨hb, fun _ => f0 (hL _ (by decide)), fun _ => f1 (hL _ (by decide)), fun _ => f2 (hL _ (by decide)), fun _ => f3 (hL _ (by decide)), fun _ => f4 (hL _ (by decide)), fun _ => f5 (hL _ (by decide)), fun _ => f6 (hL _ (by decide)), fun _ => f7 (hL _ (by decide)), fun _ => f8 (hL _ (by decide)), fun _ => (f9 (hL _ (by decide))).congr ⟨fun _ => by decide, fun _ => hL _ (by decide)⟩, fun _ => (f10 (hL _ (by decide))).congr ⟨fun _ => by decide, fun _ => hL _ (by decide)⟩, fun _ => f13 (hL _ (by decide)), fun _ _ => n9_10 (hL _ (by decide)) (hL _ (by decide)), fun _ => by decide, fun _ => by decide⟩
        case s0 =>
          rintro L T W hd hn hJ K hK
          have HJ := Lib.hid hJ
          clear hJ
          have hb := HJ.out.1
          simp only [ovr, Act.put, List.setIfInBounds_toArray, List.set_cons_zero, List.set_cons_succ] at hK ⊢
          have HK := Lib.hid hK
          clear hK
          obtain ⟨c0, c1, c2, c3⟩ := hS W hb
          refine wpOp_want rfl rfl ?_
          go_simp
          obtain ⟨hb, f0, f1, f2, f3, f4, f5, f6, f7, f8, f9, f10, f13, n9_10, c9, c10⟩ := HJ.out
          exact HK.out _ _ ⟨hb, fun _ => rfl, fun h => f1 (h.resolve_left (by decide)), fun h => f2 (h.resolve_left (by decide)), fun h => f3 (h.resolve_left (by decide)), fun h => f4 (h.resolve_left (by decide)), fun h => f5 (h.resolve_left (by decide)), fun h => f6 (h.resolve_left (by decide)), fun h => f7 (h.resolve_left (by decide)), fun h => f8 (h.resolve_left (by decide)), fun h => ((f9 (h.resolve_left (by decide)))).congr ⟨fun h => .inr h, fun h => h.resolve_left (by decide)⟩, fun h => ((f10 (h.resolve_left (by decide)))).congr ⟨fun h => .inr h, fun h => h.resolve_left (by decide)⟩, fun h => f13 (h.resolve_left (by decide)), fun h1 h2 => n9_10 (h1.resolve_left (by decide)) (h2.resolve_left (by decide)), fun h => .inr (c9 (h.resolve_left (by decide))), fun h => .inr (c10 (h.resolve_left (by decide)))⟩
        case s1 =>
          rintro L T W hd hn hJ K hK
          have HJ := Lib.hid hJ
          clear hJ
          have hb := HJ.out.1
          have e0 := HJ.out.2.1 hd.1
          simp only [ovr, Act.put, List.setIfInBounds_toArray, List.set_cons_zero, List.set_cons_succ, e0] at hK ⊢
          have HK := Lib.hid hK
          clear hK
          refine wpOp_want rfl rfl ?_
          go_simp
          (with_reducible refine (ownV (.agg #[.bool ng1, .slice ao1 n1 cap1]) z1 _ (HV1.out.mono hb)).mono ?_)
          rintro e w1 ⟨⟨mg, bb, qq, pp, rfl, HO⟩, hb1⟩
          have hr := HO.out
          dsimp only
          obtain ⟨hb, f0, f1, f2, f3, f4, f5, f6, f7, f8, f9, f10, f13, n9_10, c9, c10⟩ := HJ.out
          exact HK.out _ _ ⟨Below.step hb hb1 (Nat.le_refl _), fun h => f0 (h.resolve_left (by decide)), fun _ => hr, fun h => f2 (h.resolve_left (by decide)), fun h => (stay_int _).mono (f3 (h.resolve_left (by decide))) hb1, fun h => (stay_div _ _ _).mono (f4 (h.resolve_left (by decide))) hb1, fun h => (stay_div _ _ _).mono (f5 (h.resolve_left (by decide))) hb1, fun h => (stay_int _).mono (f6 (h.resolve_left (by decide))) hb1, fun h => (stay_int _).mono (f7 (h.resolve_left (by decide))) hb1, fun h => f8 (h.resolve_left (by decide)), fun h => ((f9 (h.resolve_left (by decide))).mono (stay_int _) hb1).congr ⟨fun h => .inr h, fun h => h.resolve_left (by decide)⟩, fun h => ((f10 (h.resolve_left (by decide))).mono (stay_int _) hb1).congr ⟨fun h => .inr h, fun h => h.resolve_left (by decide)⟩, fun h => f13 (h.resolve_left (by decide)), fun h1 h2 => n9_10 (h1.resolve_left (by decide)) (h2.resolve_left (by decide)), fun h => .inr (c9 (h.resolve_left (by decide))), fun h => .inr (c10 (h.resolve_left (by decide)))⟩
        case s2 =>
          rintro L T W hd hn hJ K hK
          have HJ := Lib.hid hJ
          clear hJ
          have hb := HJ.out.1
          simp only [ovr, Act.put, List.setIfInBounds_toArray, List.set_cons_zero, List.set_cons_succ] at hK ⊢
          have HK := Lib.hid hK
          clear hK
          obtain ⟨c0, c1, c2, c3⟩ := hS W hb
          refine wpOp_want rfl rfl ?_
          go_simp
          obtain ⟨hb, f0, f1, f2, f3, f4, f5, f6, f7, f8, f9, f10, f13, n9_10, c9, c10⟩ := HJ.out
          exact HK.out _ _ ⟨hb, fun h => f0 (h.resolve_left (by decide)), fun h => f1 (h.resolve_left (by decide)), fun _ => rfl, fun h => f3 (h.resolve_left (by decide)), fun h => f4 (h.resolve_left (by decide)), fun h => f5 (h.resolve_left (by decide)), fun h => f6 (h.resolve_left (by decide)), fun h => f7 (h.resolve_left (by decide)), fun h => f8 (h.resolve_left (by decide)), fun h => ((f9 (h.resolve_left (by decide)))).congr ⟨fun h => .inr h, fun h => h.resolve_left (by decide)⟩, fun h => ((f10 (h.resolve_left (by decide)))).congr ⟨fun h => .inr h, fun h => h.resolve_left (by decide)⟩, fun h => f13 (h.resolve_left (by decide)), fun h1 h2 => n9_10 (h1.resolve_left (by decide)) (h2.resolve_left (by decide)), fun h => .inr (c9 (h.resolve_left (by decide))), fun h => .inr (c10 (h.resolve_left (by decide)))⟩
        case s3 =>
          rintro L T W hd hn hJ K hK
          have HJ := Lib.hid hJ
          clear hJ
          have hb := HJ.out.1
          have e2 := HJ.out.2.2.2.1 hd.1
          have r1 := HJ.out.2.2.1 hd.2.1
          simp only [ovr, Act.put, List.setIfInBounds_toArray, List.set_cons_zero, List.set_cons_succ, e2] at hK ⊢
          have HK := Lib.hid hK
          clear hK
          refine wpOp_want rfl rfl ?_
          go_simp
          (with_reducible refine (ownV (.agg #[.bool ng2, .slice ao2 n2 cap2]) 0 _ (HV2.out.mono hb)).mono ?_)
          rintro e w1 ⟨⟨mg, bb, qq, pp, rfl, HO⟩, hb1⟩
          have hr := HO.out
          dsimp only
          obtain ⟨hb, f0, f1, f2, f3, f4, f5, f6, f7, f8, f9, f10, f13, n9_10, c9, c10⟩ := HJ.out
          exact HK.out _ _ ⟨Below.step hb hb1 (Nat.le_refl _), fun h => f0 (h.resolve_left (by decide)), fun h => (stay_int _).mono (f1 (h.resolve_left (by decide))) hb1, fun h => f2 (h.resolve_left (by decide)), fun _ => hr, fun h => (stay_div _ _ _).mono (f4 (h.resolve_left (by decide))) hb1, fun h => (stay_div _ _ _).mono (f5 (h.resolve_left (by decide))) hb1, fun h => (stay_int _).mono (f6 (h.resolve_left (by decide))) hb1, fun h => (stay_int _).mono (f7 (h.resolve_left (by decide))) hb1, fun h => f8 (h.resolve_left (by decide)), fun h => ((f9 (h.resolve_left (by decide))).mono (stay_int _) hb1).congr ⟨fun h => .inr h, fun h => h.resolve_left (by decide)⟩, fun h => ((f10 (h.resolve_left (by decide))).mono (stay_int _) hb1).congr ⟨fun h => .inr h, fun h => h.resolve_left (by decide)⟩, fun h => f13 (h.resolve_left (by decide)), fun h1 h2 => n9_10 (h1.resolve_left (by decide)) (h2.resolve_left (by decide)), fun h => .inr (c9 (h.resolve_left (by decide))), fun h => .inr (c10 (h.resolve_left (by decide)))⟩
        case s4 =>
          rintro L T W hd hn hJ K hK
          have HJ := Lib.hid hJ
          clear hJ
          have hb := HJ.out.1
          have r1 := HJ.out.2.2.1 hd.1
          have r3 := HJ.out.2.2.2.2.1 hd.2.1
          simp only [ovr, Act.put, List.setIfInBounds_toArray, List.set_cons_zero, List.set_cons_succ] at hK ⊢
          have HK := Lib.hid hK
          clear hK
          refine wpOp_want rfl rfl ?_
          go_simp
          (with_reducible refine (Div_zero _ _ z1 _ r1 r3 (hE.mono hb)).mono ?_)
          rintro e w1 ⟨rfl, hb1⟩
          have hr : DivT 0 0 8 w1 (.tuple #[.agg #[.bool false, .slice none 0 0], .agg #[.bool false, .slice none 0 0], .int .i64 8]) := ⟨_, _, rfl, IntV.zero _, IntV.zero _⟩
          dsimp only
          obtain ⟨hb, f0, f1, f2, f3, f4, f5, f6, f7, f8, f9, f10, f13, n9_10, c9, c10⟩ := HJ.out
          exact HK.out _ _ ⟨Below.step hb hb1 (Nat.le_refl _), fun h => f0 (h.resolve_left (by decide)), fun h => (stay_int _).mono (f1 (h.resolve_left (by decide))) hb1, fun h => f2 (h.resolve_left (by decide)), fun h => (stay_int _).mono (f3 (h.resolve_left (by decide))) hb1, fun _ => hr, fun h => (stay_div _ _ _).mono (f5 (h.resolve_left (by decide))) hb1, fun h => (stay_int _).mono (f6 (h.resolve_left (by decide))) hb1, fun h => (stay_int _).mono (f7 (h.resolve_left (by decide))) hb1, fun h => f8 (h.resolve_left (by decide)), fun h => ((f9 (h.resolve_left (by decide))).mono (stay_int _) hb1).congr ⟨fun h => .inr h, fun h => h.resolve_left (by decide)⟩, fun h => ((f10 (h.resolve_left (by decide))).mono (stay_int _) hb1).congr ⟨fun h => .inr h, fun h => h.resolve_left (by decide)⟩, fun h => f13 (h.resolve_left (by decide)), fun h1 h2 => n9_10 (h1.resolve_left (by decide)) (h2.resolve_left (by decide)), fun h => .inr (c9 (h.resolve_left (by decide))), fun h => .inr (c10 (h.resolve_left (by decide)))⟩
        case s5 =>
          rintro L T W hd hn hJ K hK
          have HJ := Lib.hid hJ
          clear hJ
          have hb := HJ.out.1
          have r4 := HJ.out.2.2.2.2.2.1 hd.1
          simp only [ovr, Act.put, List.setIfInBounds_toArray, List.set_cons_zero, List.set_cons_succ] at hK ⊢
          have HK := Lib.hid hK
          clear hK
          refine wpOp_want rfl rfl ?_
          go_simp
          obtain ⟨hb, f0, f1, f2, f3, f4, f5, f6, f7, f8, f9, f10, f13, n9_10, c9, c10⟩ := HJ.out
          exact HK.out _ _ ⟨hb, fun h => f0 (h.resolve_left (by decide)), fun h => f1 (h.resolve_left (by decide)), fun h => f2 (h.resolve_left (by decide)), fun h => f3 (h.resolve_left (by decide)), fun h => f4 (h.resolve_left (by decide)), fun _ => r4, fun h => f6 (h.resolve_left (by decide)), fun h => f7 (h.resolve_left (by decide)), fun h => f8 (h.resolve_left (by decide)), fun h => ((f9 (h.resolve_left (by decide)))).congr ⟨fun h => .inr h, fun h => h.resolve_left (by decide)⟩, fun h => ((f10 (h.resolve_left (by decide)))).congr ⟨fun h => .inr h, fun h => h.resolve_left (by decide)⟩, fun h => f13 (h.resolve_left (by decide)), fun h1 h2 => n9_10 (h1.resolve_left (by decide)) (h2.resolve_left (by decide)), fun h => .inr (c9 (h.resolve_left (by decide))), fun h => .inr (c10 (h.resolve_left (by decide)))⟩
        case s6 =>
          rintro L T W hd hn hJ K hK
          have HJ := Lib.hid hJ
          clear hJ
          have hb := HJ.out.1
          have r5 := HJ.out.2.2.2.2.2.2.1 hd.1
          obtain ⟨qv, rv, eT, hq, hr⟩ := r5
          simp only [ovr, Act.put, List.setIfInBounds_toArray, List.set_cons_zero, List.set_cons_succ, eT] at hK ⊢
          have HK := Lib.hid hK
          clear hK
          refine wpOp_want rfl rfl ?_
          go_simp
          obtain ⟨hb, f0, f1, f2, f3, f4, f5, f6, f7, f8, f9, f10, f13, n9_10, c9, c10⟩ := HJ.out
          exact HK.out _ _ ⟨hb, fun h => f0 (h.resolve_left (by decide)), fun h => f1 (h.resolve_left (by decide)), fun h => f2 (h.resolve_left (by decide)), fun h => f3 (h.resolve_left (by decide)), fun h => f4 (h.resolve_left (by decide)), fun h => f5 (h.resolve_left (by decide)), fun _ => hq, fun h => f7 (h.resolve_left (by decide)), fun h => f8 (h.resolve_left (by decide)), fun h => ((f9 (h.resolve_left (by decide)))).congr ⟨fun h => .inr h, fun h => h.resolve_left (by decide)⟩, fun h => ((f10 (h.resolve_left (by decide)))).congr ⟨fun h => .inr h, fun h => h.resolve_left (by decide)⟩, fun h => f13 (h.resolve_left (by decide)), fun h1 h2 => n9_10 (h1.resolve_left (by decide)) (h2.resolve_left (by decide)), fun h => .inr (c9 (h.resolve_left (by decide))), fun h => .inr (c10 (h.resolve_left (by decide)))⟩
        case s7 =>
          rintro L T W hd hn hJ K hK
          have HJ := Lib.hid hJ
          clear hJ
          have hb := HJ.out.1
          have r5 := HJ.out.2.2.2.2.2.2.1 hd.1
          obtain ⟨qv, rv, eT, hq, hr⟩ := r5
          simp only [ovr, Act.put, List.setIfInBounds_toArray, List.set_cons_zero, List.set_cons_succ, eT] at hK ⊢
          have HK := Lib.hid hK
          clear hK
          refine wpOp_want rfl rfl ?_
          go_simp
          obtain ⟨hb, f0, f1, f2, f3, f4, f5, f6, f7, f8, f9, f10, f13, n9_10, c9, c10⟩ := HJ.out
          exact HK.out _ _ ⟨hb, fun h => f0 (h.resolve_left (by decide)), fun h => f1 (h.resolve_left (by decide)), fun h => f2 (h.resolve_left (by decide)), fun h => f3 (h.resolve_left (by decide)), fun h => f4 (h.resolve_left (by decide)), fun h => f5 (h.resolve_left (by decide)), fun h => f6 (h.resolve_left (by decide)), fun _ => hr, fun h => f8 (h.resolve_left (by decide)), fun h => ((f9 (h.resolve_left (by decide)))).congr ⟨fun h => .inr h, fun h => h.resolve_left (by decide)⟩, fun h => ((f10 (h.resolve_left (by decide)))).congr ⟨fun h => .inr h, fun h => h.resolve_left (by decide)⟩, fun h => f13 (h.resolve_left (by decide)), fun h1 h2 => n9_10 (h1.resolve_left (by decide)) (h2.resolve_left (by decide)), fun h => .inr (c9 (h.resolve_left (by decide))), fun h => .inr (c10 (h.resolve_left (by decide)))⟩
        case s8 =>
          rintro L T W hd hn hJ K hK
          have HJ := Lib.hid hJ
          clear hJ
          have hb := HJ.out.1
          have r5 := HJ.out.2.2.2.2.2.2.1 hd.1
          obtain ⟨qv, rv, eT, hq, hr⟩ := r5
          simp only [ovr, Act.put, List.setIfInBounds_toArray, List.set_cons_zero, List.set_cons_succ, eT] at hK ⊢
          have HK := Lib.hid hK
          clear hK
          refine wpOp_want rfl rfl ?_
          go_simp
          obtain ⟨hb, f0, f1, f2, f3, f4, f5, f6, f7, f8, f9, f10, f13, n9_10, c9, c10⟩ := HJ.out
          exact HK.out _ _ ⟨hb, fun h => f0 (h.resolve_left (by decide)), fun h => f1 (h.resolve_left (by decide)), fun h => f2 (h.resolve_left (by decide)), fun h => f3 (h.resolve_left (by decide)), fun h => f4 (h.resolve_left (by decide)), fun h => f5 (h.resolve_left (by decide)), fun h => f6 (h.resolve_left (by decide)), fun h => f7 (h.resolve_left (by decide)), fun _ => rfl, fun h => ((f9 (h.resolve_left (by decide)))).congr ⟨fun h => .inr h, fun h => h.resolve_left (by decide)⟩, fun h => ((f10 (h.resolve_left (by decide)))).congr ⟨fun h => .inr h, fun h => h.resolve_left (by decide)⟩, fun h => f13 (h.resolve_left (by decide)), fun h1 h2 => n9_10 (h1.resolve_left (by decide)) (h2.resolve_left (by decide)), fun h => .inr (c9 (h.resolve_left (by decide))), fun h => .inr (c10 (h.resolve_left (by decide)))⟩
        case s9 =>
          rintro L T W hd hn hJ K hK
          have HJ := Lib.hid hJ
          clear hJ
          have hb := HJ.out.1
          simp only [ovr, Act.put, List.setIfInBounds_toArray, List.set_cons_zero, List.set_cons_succ] at hK ⊢
          have HK := Lib.hid hK
          clear hK
          refine wpOp_want rfl rfl ?_
          go_simp
          have hb1 := below_alloc W (.cells #[.bool false, .slice none 0 0] 25)
          obtain ⟨hb, f0, f1, f2, f3, f4, f5, f6, f7, f8, f9, f10, f13, n9_10, c9, c10⟩ := HJ.out
          exact HK.out _ _ ⟨Below.step hb hb1 (Nat.le_refl _), fun h => f0 (h.resolve_left (by decide)), fun h => (stay_int _).mono (f1 (h.resolve_left (by decide))) hb1, fun h => f2 (h.resolve_left (by decide)), fun h => (stay_int _).mono (f3 (h.resolve_left (by decide))) hb1, fun h => (stay_div _ _ _).mono (f4 (h.resolve_left (by decide))) hb1, fun h => (stay_div _ _ _).mono (f5 (h.resolve_left (by decide))) hb1, fun h => (stay_int _).mono (f6 (h.resolve_left (by decide))) hb1, fun h => (stay_int _).mono (f7 (h.resolve_left (by decide))) hb1, fun h => f8 (h.resolve_left (by decide)), fun _ => Slot.new W (fun h => hn (c9 (h.resolve_left (by decide)))) _ hb.size, fun h => ((f10 (h.resolve_left (by decide))).mono (stay_int _) hb1).congr ⟨fun h => .inr h, fun h => h.resolve_left (by decide)⟩, fun h => f13 (h.resolve_left (by decide)), fun _ h2 => (f10 (h2.resolve_left (by decide))).ne_new.symm, fun _ => .inl (by decide), fun h => .inr (c10 (h.resolve_left (by decide)))⟩
        case s10 =>
          rintro L T W hd hn hJ K hK
          have HJ := Lib.hid hJ
          clear hJ
          have hb := HJ.out.1
          simp only [ovr, Act.put, List.setIfInBounds_toArray, List.set_cons_zero, List.set_cons_succ] at hK ⊢
          have HK := Lib.hid hK
          clear hK
          refine wpOp_want rfl rfl ?_
          go_simp
          have hb1 := below_alloc W (.cells #[.bool false, .slice none 0 0] 25)
          obtain ⟨hb, f0, f1, f2, f3, f4, f5, f6, f7, f8, f9, f10, f13, n9_10, c9, c10⟩ := HJ.out
          exact HK.out _ _ ⟨Below.step hb hb1 (Nat.le_refl _), fun h => f0 (h.resolve_left (by decide)), fun h => (stay_int _).mono (f1 (h.resolve_left (by decide))) hb1, fun h => f2 (h.resolve_left (by decide)), fun h => (stay_int _).mono (f3 (h.resolve_left (by decide))) hb1, fun h => (stay_div _ _ _).mono (f4 (h.resolve_left (by decide))) hb1, fun h => (stay_div _ _ _).mono (f5 (h.resolve_left (by decide))) hb1, fun h => (stay_int _).mono (f6 (h.resolve_left (by decide))) hb1, fun h => (stay_int _).mono (f7 (h.resolve_left (by decide))) hb1, fun h => f8 (h.resolve_left (by decide)), fun h => ((f9 (h.resolve_left (by decide))).mono (stay_int _) hb1).congr ⟨fun h => .inr h, fun h => h.resolve_left (by decide)⟩, fun _ => Slot.new W (fun h => hn (c10 (h.resolve_left (by decide)))) _ hb.size, fun h => f13 (h.resolve_left (by decide)), fun h1 _ => (f9 (h1.resolve_left (by decide))).ne_new, fun h => .inr (c9 (h.resolve_left (by decide))), fun _ => .inl (by decide)⟩
        case s11 =>
          rintro L T W hd hn hJ K hK
          have HJ := Lib.hid hJ
          clear hJ
          have hb := HJ.out.1
          have r6 := HJ.out.2.2.2.2.2.2.2.1 hd.2.1
          have r4 := HJ.out.2.2.2.2.2.1 hd.2.2.1
          have e0 := HJ.out.2.1 hd.2.2.2.1
          have r1 := HJ.out.2.2.1 hd.2.2.2.2.1
          have e2 := HJ.out.2.2.2.1 hd.2.2.2.2.2.1
          have r3 := HJ.out.2.2.2.2.1 hd.2.2.2.2.2.2.1
          have r5 := HJ.out.2.2.2.2.2.2.1 hd.2.2.2.2.2.2.2.2.1
          have da := hd.1
          have hr := r6
          obtain ⟨m, em, hm1, hm2, hB⟩ := (HJ.out.2.2.2.2.2.2.2.2.2.2.1 da).open hn
          obtain ⟨ng, ao, nn, cap, ev⟩ := IntV.parts hr
          rw [ev] at hr
          obtain ⟨b0, b1, b2, b3⟩ := id hB
          simp only [ovr, Act.put, List.setIfInBounds_toArray, List.set_cons_zero, List.set_cons_succ, e0, e2, em, ev] at hK ⊢
          have HK := Lib.hid hK
          clear hK
          refine wpOp_want rfl rfl ?_
          go_simp
          obtain ⟨hb, f0, f1, f2, f3, f4, f5, f6, f7, f8, f9, f10, f13, n9_10, c9, c10⟩ := HJ.out
          exact HK.out undef _ ⟨Below.put2 hb hm1 _ _, fun h => f0 (h.resolve_left (by decide)), fun h => (stay_int _).put (f1 (h.resolve_left (by decide))) hB, fun h => f2 (h.resolve_left (by decide)), fun h => (stay_int _).put (f3 (h.resolve_left (by decide))) hB, fun h => (stay_div _ _ _).put (f4 (h.resolve_left (by decide))) hB, fun h => (stay_div _ _ _).put (f5 (h.resolve_left (by decide))) hB, fun h => (stay_int _).put (f6 (h.resolve_left (by decide))) hB, fun h => (stay_int _).put (f7 (h.resolve_left (by decide))) hB, fun h => f8 (h.resolve_left (by decide)), fun h => by show Slot _ _ _ _ (T 7); rw [em]; exact Slot.stored (stay_int _) hm1 hB (.inl (by decide)) hr, fun h => ((f10 (h.resolve_left (by decide))).other (stay_int _) (by rw [← em]; exact (n9_10 da (h.resolve_left (by decide))).symm) hB).congr ⟨fun h => .inr h, fun h => h.resolve_left (by decide)⟩, fun h => f13 (h.resolve_left (by decide)), fun h1 h2 => n9_10 (h1.resolve_left (by decide)) (h2.resolve_left (by decide)), fun _ => .inr da, fun h => .inr (c10 (h.resolve_left (by decide)))⟩
        case s12 =>
          rintro L T W hd hn hJ K hK
          have HJ := Lib.hid hJ
          clear hJ
          have hb := HJ.out.1
          have r7 := HJ.out.2.2.2.2.2.2.2.2.1 hd.2.1
          have e0 := HJ.out.2.1 hd.2.2.2.1
          have r1 := HJ.out.2.2.1 hd.2.2.2.2.1
          have e2 := HJ.out.2.2.2.1 hd.2.2.2.2.2.1
          have r3 := HJ.out.2.2.2.2.1 hd.2.2.2.2.2.2.1
          have r4 := HJ.out.2.2.2.2.2.1 hd.2.2.2.2.2.2.2.1
          have r5 := HJ.out.2.2.2.2.2.2.1 hd.2.2.2.2.2.2.2.2.1
          have r6 := HJ.out.2.2.2.2.2.2.2.1 hd.2.2.2.2.2.2.2.2.2.1
          have da := hd.1
          have hr := r7
          obtain ⟨m, em, hm1, hm2, hB⟩ := (HJ.out.2.2.2.2.2.2.2.2.2.2.2.1 da).open hn
          obtain ⟨ng, ao, nn, cap, ev⟩ := IntV.parts hr
          rw [ev] at hr
          obtain ⟨b0, b1, b2, b3⟩ := id hB
          simp only [ovr, Act.put, List.setIfInBounds_toArray, List.set_cons_zero, List.set_cons_succ, e0, e2, em, ev] at hK ⊢
          have HK := Lib.hid hK
          clear hK
          refine wpOp_want rfl rfl ?_
          go_simp
          obtain ⟨hb, f0, f1, f2, f3, f4, f5, f6, f7, f8, f9, f10, f13, n9_10, c9, c10⟩ := HJ.out
          exact HK.out undef _ ⟨Below.put2 hb hm1 _ _, fun h => f0 (h.resolve_left (by decide)), fun h => (stay_int _).put (f1 (h.resolve_left (by decide))) hB, fun h => f2 (h.resolve_left (by decide)), fun h => (stay_int _).put (f3 (h.resolve_left (by decide))) hB, fun h => (stay_div _ _ _).put (f4 (h.resolve_left (by decide))) hB, fun h => (stay_div _ _ _).put (f5 (h.resolve_left (by decide))) hB, fun h => (stay_int _).put (f6 (h.resolve_left (by decide))) hB, fun h => (stay_int _).put (f7 (h.resolve_left (by decide))) hB, fun h => f8 (h.resolve_left (by decide)), fun h => ((f9 (h.resolve_left (by decide))).other (stay_int _) (by rw [← em]; exact n9_10 (h.resolve_left (by decide)) da) hB).congr ⟨fun h => .inr h, fun h => h.resolve_left (by decide)⟩, fun h => by show Slot _ _ _ _ (T 8); rw [em]; exact Slot.stored (stay_int _) hm1 hB (.inl (by decide)) hr, fun h => f13 (h.resolve_left (by decide)), fun h1 h2 => n9_10 (h1.resolve_left (by decide)) (h2.resolve_left (by decide)), fun h => .inr (c9 (h.resolve_left (by decide))), fun _ => .inr da⟩
        case s13 =>
          rintro L T W hd hn hJ K hK
          have HJ := Lib.hid hJ
          clear hJ
          have hb := HJ.out.1
          have e8 := HJ.out.2.2.2.2.2.2.2.2.2.1 hd.1
          have e0 := HJ.out.2.1 hd.2.2.1
          have r1 := HJ.out.2.2.1 hd.2.2.2.1
          have e2 := HJ.out.2.2.2.1 hd.2.2.2.2.1
          have r3 := HJ.out.2.2.2.2.1 hd.2.2.2.2.2.1
          have r4 := HJ.out.2.2.2.2.2.1 hd.2.2.2.2.2.2.1
          have r5 := HJ.out.2.2.2.2.2.2.1 hd.2.2.2.2.2.2.2.1
          have r6 := HJ.out.2.2.2.2.2.2.2.1 hd.2.2.2.2.2.2.2.2.1
          have r7 := HJ.out.2.2.2.2.2.2.2.2.1 hd.2.2.2.2.2.2.2.2.2.1
          simp only [ovr, Act.put, List.setIfInBounds_toArray, List.set_cons_zero, List.set_cons_succ, e8, e0, e2] at hK ⊢
          have HK := Lib.hid hK
          clear hK
          refine wpOp_want rfl rfl ?_
          go_simp
          obtain ⟨hb, f0, f1, f2, f3, f4, f5, f6, f7, f8, f9, f10, f13, n9_10, c9, c10⟩ := HJ.out
          exact HK.out _ _ ⟨hb, fun h => f0 (h.resolve_left (by decide)), fun h => f1 (h.resolve_left (by decide)), fun h => f2 (h.resolve_left (by decide)), fun h => f3 (h.resolve_left (by decide)), fun h => f4 (h.resolve_left (by decide)), fun h => f5 (h.resolve_left (by decide)), fun h => f6 (h.resolve_left (by decide)), fun h => f7 (h.resolve_left (by decide)), fun h => f8 (h.resolve_left (by decide)), fun h => ((f9 (h.resolve_left (by decide)))).congr ⟨fun h => .inr h, fun h => h.resolve_left (by decide)⟩, fun h => ((f10 (h.resolve_left (by decide)))).congr ⟨fun h => .inr h, fun h => h.resolve_left (by decide)⟩, fun _ => rfl, fun h1 h2 => n9_10 (h1.resolve_left (by decide)) (h2.resolve_left (by decide)), fun h => .inr (c9 (h.resolve_left (by decide))), fun h => .inr (c10 (h.resolve_left (by decide)))⟩
        case he =>
          rintro T W ⟨hb, f0, f1, f2, f3, f4, f5, f6, f7, f8, f9, f10, f13, n9_10, c9, c10⟩
          simp only [ovr, List.setIfInBounds_toArray, List.set_cons_zero, List.set_cons_succ]
          have e9 := f13 (by decide)
          have Y1 := (f9 (by decide)).boxZ (by decide)
          have Y2 := (f10 (by decide)).boxZ (by decide)
          go_wp2_with fail
          go_meet
          exact ⟨Y1, Y2, rfl, hb⟩
      case rest =>
        obtain ⟨⟨g3, ng3, ao3, n3, cap3, rfl, X3, HV3⟩, ⟨g4, ng4, ao4, n4, cap4, rfl, X4, HV4⟩, rfl, hba⟩ := hcut
        clear x0 x1 y0 y1
        have X2 := X2.mono hba
        have HV2 := Lib.hid (HV2.out.mono hba)
        have hE := hE.mono hba
        have hbw := Below.step hbw hba (Nat.le_refl _)
        clear hba
        obtain ⟨x0, x1, _, _⟩ := id X2
        have hs0 : sgnI 0 = 0 := by decide
        go_wp2_with fail
        (with_reducible refine (rSign_any _ 0 _ HV2.out).mono ?_)
        rintro e w5 ⟨rfl, hb⟩
        clear x0 x1
        have X3 := X3.mono hb
        have X4 := X4.mono hb
        have HV3 := Lib.hid (HV3.out.mono hb)
        have HV4 := Lib.hid (HV4.out.mono hb)
        have hE := hE.mono hb
        have hbw := Below.step hbw hb (Nat.le_refl _)
        clear hb
        obtain ⟨x0, x1, _, _⟩ := id X3
        obtain ⟨y0, y1, _, _⟩ := id X4
        go_wp2_with fail
        (with_reducible refine (eqV_same 0 _ _ _ HV3.out (IntV.zero _)).mono ?_)
        rintro e w6 ⟨rfl, hb⟩
        clear x0 x1 y0 y1
        have X4 := X4.mono hb
        have HV4 := Lib.hid (HV4.out.mono hb)
        have hE := hE.mono hb
        have hbw := Below.step hbw hb (Nat.le_refl _)
        clear hb
        obtain ⟨y0, y1, _, _⟩ := id X4
        go_wp2_with fail
        (with_reducible refine (eqV_same 0 _ _ _ HV4.out (IntV.zero _)).mono ?_)
        rintro e w7 ⟨rfl, hb⟩
        have hbw := Below.step hbw hb (Nat.le_refl _)
        clear y0 y1
        go_wp2
        go_ret
        exact ⟨rfl, hbw⟩
    · have HZ := Lib.hid hz0
      clear hz0
      obtain ⟨wx, rfl⟩ : ∃ wx : World, wx = wa := ⟨_, rfl⟩
      go_cut [7, 8, 9] (fun s7 s8 s9 wc => TwoR wx wc s7 s8 s9 (z1.tdiv z2) (z1.tmod z2) 0)
      case first =>
        have hS := fun W => S2 (W := W) X1 X2
        refine wp_region_flow (fun L T W => Below wx.heap.size wx W ∧ (L 0 → T 24 = .agg #[.bool ng1, .slice ao1 n1 cap1]) ∧ (L 1 → (fun W v => IntV W v z1) W (T 25)) ∧ (L 2 → T 26 = .agg #[.bool ng2, .slice ao2 n2 cap2]) ∧ (L 3 → (fun W v => IntV W v z2) W (T 27)) ∧ (L 4 → (DivT (z1.tdiv z2) (z1.tmod z2) 0) W (T 28)) ∧ (L 5 → (DivT (z1.tdiv z2) (z1.tmod z2) 0) W (T 23)) ∧ (L 6 → (fun W v => IntV W v (z1.tdiv z2)) W (T 29)) ∧ (L 7 → (fun W v => IntV W v (z1.tmod z2)) W (T 30)) ∧ (L 8 → T 31 = .int .i64 0) ∧ (L 9 → Slot W wx.heap.size (fun W v => IntV W v (z1.tdiv z2)) (L 11) (T 7)) ∧ (L 10 → Slot W wx.heap.size (fun W v => IntV W v (z1.tmod z2)) (L 12) (T 8)) ∧ (L 13 → T 9 = .int .i64 0) ∧ (L 9 → L 10 → T 7 ≠ T 8) ∧ (L 11 → L 9) ∧ (L 12 → L 10)) [24, 25, 26, 27, 28, 23, 29, 30, 31, 7, 8, 9] (by kernel_rfl) (by kernel_rfl) (by kernel_rfl) ?h0 ⟨?s0, ?s1, ?s2, ?s3, ?s4, ?s5, ?s6, ?s7, ?s8, ?s9, ?s10, ?s11, ?s12, ?s13, trivial⟩ ?he ?hm
        case h0 => exact fun T => ⟨(Below.refl _ _).drew, fun h => h.elim, fun h => h.elim, fun h => h.elim, fun h => h.elim, fun h => h.elim, fun h => h.elim, fun h => h.elim, fun h => h.elim, fun h => h.elim, fun h => h.elim, fun h => h.elim, fun h => h.elim, fun h => h.elim, fun h => h.elim, fun h => h.elim⟩
        case hm =>
          rintro L T W hL ⟨hb, f0, f1, f2, f3, f4, f5, f6, f7, f8, f9, f10, f13, n9_10, c9, c10⟩
          exact ⟨hb, fun _ => f0 (hL _ (by decide)), fun _ => f1 (hL _ (by decide)), fun _ => f2 (hL _ (by decide)), fun _ => f3 (hL _ (by decide)), fun _ => f4 (hL _ (by decide)), fun _ => f5 (hL _ (by decide)), fun _ => f6 (hL _ (by decide)), fun _ => f7 (hL _ (by decide)), fun _ => f8 (hL _ (by decide)), fun _ => (f9 (hL _ (by decide))).congr ⟨fun _ => by decide, fun _ => hL _ (by decide)⟩, fun _ => (f10 (hL _ (by decide))).congr ⟨fun _ => by decide, fun _ => hL _ (by decide)⟩, fun _ => f13 (hL _ (by decide)), fun _ _ => n9_10 (hL _ (by decide)) (hL _ (by decide)), fun _ => by decide, fun _ => by decide⟩
        case s0 =>
          rintro L T W hd hn hJ K hK
          have HJ := Lib.hid hJ
          clear hJ
          have hb := HJ.out.1
          simp only [ovr, Act.put, List.setIfInBounds_toArray, List.set_cons_zero, List.set_cons_succ] at hK ⊢
          have HK := Lib.hid hK
          clear hK
          obtain ⟨c0, c1, c2, c3⟩ := hS W hb
          refine wpOp_want rfl rfl ?_
          go_simp
          obtain ⟨hb, f0, f1, f2, f3, f4, f5, f6, f7, f8, f9, f10, f13, n9_10, c9, c10⟩ := HJ.out
          exact HK.out _ _ ⟨hb, fun _ => rfl, fun h => f1 (h.resolve_left (by decide)), fun h => f2 (h.resolve_left (by decide)), fun h => f3 (h.resolve_left (by decide)), fun h => f4 (h.resolve_left (by decide)), fun h => f5 (h.resolve_left (by decide)), fun h => f6 (h.resolve_left (by decide)), fun h => f7 (h.resolve_left (by decide)), fun h => f8 (h.resolve_left (by decide)), fun h => ((f9 (h.resolve_left (by decide)))).congr ⟨fun h => .inr h, fun h => h.resolve_left (by decide)⟩, fun h => ((f10 (h.resolve_left (by decide)))).congr ⟨fun h => .inr h, fun h => h.resolve_left (by decide)⟩, fun h => f13 (h.resolve_left (by decide)), fun h1 h2 => n9_10 (h1.resolve_left (by decide)) (h2.resolve_left (by decide)), fun h => .inr (c9 (h.resolve_left (by decide))), fun h => .inr (c10 (h.resolve_left (by decide)))⟩
        case s1 =>
          rintro L T W hd hn hJ K hK
          have HJ := Lib.hid hJ
          clear hJ
          have hb := HJ.out.1
          have e0 := HJ.out.2.1 hd.1
          simp only [ovr, Act.put, List.setIfInBounds_toArray, List.set_cons_zero, List.set_cons_succ, e0] at hK ⊢
          have HK := Lib.hid hK
          clear hK
          refine wpOp_want rfl rfl ?_
          go_simp
          (with_reducible refine (ownV (.agg #[.bool ng1, .slice ao1 n1 cap1]) z1 _ (HV1.out.mono hb)).mono ?_)
          rintro e w1 ⟨⟨mg, bb, qq, pp, rfl, HO⟩, hb1⟩
          have hr := HO.out
          dsimp only
          obtain ⟨hb, f0, f1, f2, f3, f4, f5, f6, f7, f8, f9, f10, f13, n9_10, c9, c10⟩ := HJ.out
          exact HK.out _ _ ⟨Below.step hb hb1 (Nat.le_refl _), fun h => f0 (h.resolve_left (by decide)), fun _ => hr, fun h => f2 (h.resolve_left (by decide)), fun h => (stay_int _).mono (f3 (h.resolve_left (by decide))) hb1, fun h => (stay_div _ _ _).mono (f4 (h.resolve_left (by decide))) hb1, fun h => (stay_div _ _ _).mono (f5 (h.resolve_left (by decide))) hb1, fun h => (stay_int _).mono (f6 (h.resolve_left (by decide))) hb1, fun h => (stay_int _).mono (f7 (h.resolve_left (by decide))) hb1, fun h => f8 (h.resolve_left (by decide)), fun h => ((f9 (h.resolve_left (by decide))).mono (stay_int _) hb1).congr ⟨fun h => .inr h, fun h => h.resolve_left (by decide)⟩, fun h => ((f10 (h.resolve_left (by decide))).mono (stay_int _) hb1).congr ⟨fun h => .inr h, fun h => h.resolve_left (by decide)⟩, fun h => f13 (h.resolve_left (by decide)), fun h1 h2 => n9_10 (h1.resolve_left (by decide)) (h2.resolve_left (by decide)), fun h => .inr (c9 (h.resolve_left (by decide))), fun h => .inr (c10 (h.resolve_left (by decide)))⟩
        case s2 =>
          rintro L T W hd hn hJ K hK
          have HJ := Lib.hid hJ
          clear hJ
          have hb := HJ.out.1
          simp only [ovr, Act.put, List.setIfInBounds_toArray, List.set_cons_zero, List.set_cons_succ] at hK ⊢
          have HK := Lib.hid hK
          clear hK
          obtain ⟨c0, c1, c2, c3⟩ := hS W hb
          refine wpOp_want rfl rfl ?_
          go_simp
          obtain ⟨hb, f0, f1, f2, f3, f4, f5, f6, f7, f8, f9, f10, f13, n9_10, c9, c10⟩ := HJ.out
          exact HK.out _ _ ⟨hb, fun h => f0 (h.resolve_left (by decide)), fun h => f1 (h.resolve_left (by decide)), fun _ => rfl, fun h => f3 (h.resolve_left (by decide)), fun h => f4 (h.resolve_left (by decide)), fun h => f5 (h.resolve_left (by decide)), fun h => f6 (h.resolve_left (by decide)), fun h => f7 (h.resolve_left (by decide)), fun h => f8 (h.resolve_left (by decide)), fun h => ((f9 (h.resolve_left (by decide)))).congr ⟨fun h => .inr h, fun h => h.resolve_left (by decide)⟩, fun h => ((f10 (h.resolve_left (by decide)))).congr ⟨fun h => .inr h, fun h => h.resolve_left (by decide)⟩, fun h => f13 (h.resolve_left (by decide)), fun h1 h2 => n9_10 (h1.resolve_left (by decide)) (h2.resolve_left (by decide)), fun h => .inr (c9 (h.resolve_left (by decide))), fun h => .inr (c10 (h.resolve_left (by decide)))⟩
        case s3 =>
          rintro L T W hd hn hJ K hK
          have HJ := Lib.hid hJ
          clear hJ
          have hb := HJ.out.1
          have e2 := HJ.out.2.2.2.1 hd.1
          have r1 := HJ.out.2.2.1 hd.2.1
          simp only [ovr, Act.put, List.setIfInBounds_toArray, List.set_cons_zero, List.set_cons_succ, e2] at hK ⊢
          have HK := Lib.hid hK
          clear hK
          refine wpOp_want rfl rfl ?_
          go_simp
          (with_reducible refine (ownV (.agg #[.bool ng2, .slice ao2 n2 cap2]) z2 _ (HV2.out.mono hb)).mono ?_)
          rintro e w1 ⟨⟨mg, bb, qq, pp, rfl, HO⟩, hb1⟩
          have hr := HO.out
          dsimp only
          obtain ⟨hb, f0, f1, f2, f3, f4, f5, f6, f7, f8, f9, f10, f13, n9_10, c9, c10⟩ := HJ.out
          exact HK.out _ _ ⟨Below.step hb hb1 (Nat.le_refl _), fun h => f0 (h.resolve_left (by decide)), fun h => (stay_int _).mono (f1 (h.resolve_left (by decide))) hb1, fun h => f2 (h.resolve_left (by decide)), fun _ => hr, fun h => (stay_div _ _ _).mono (f4 (h.resolve_left (by decide))) hb1, fun h => (stay_div _ _ _).mono (f5 (h.resolve_left (by decide))) hb1, fun h => (stay_int _).mono (f6 (h.resolve_left (by decide))) hb1, fun h => (stay_int _).mono (f7 (h.resolve_left (by decide))) hb1, fun h => f8 (h.resolve_left (by decide)), fun h => ((f9 (h.resolve_left (by decide))).mono (stay_int _) hb1).congr ⟨fun h => .inr h, fun h => h.resolve_left (by decide)⟩, fun h => ((f10 (h.resolve_left (by decide))).mono (stay_int _) hb1).congr ⟨fun h => .inr h, fun h => h.resolve_left (by decide)⟩, fun h => f13 (h.resolve_left (by decide)), fun h1 h2 => n9_10 (h1.resolve_left (by decide)) (h2.resolve_left (by decide)), fun h => .inr (c9 (h.resolve_left (by decide))), fun h => .inr (c10 (h.resolve_left (by decide)))⟩
        case s4 =>
          rintro L T W hd hn hJ K hK
          have HJ := Lib.hid hJ
          clear hJ
          have hb := HJ.out.1
          have r1 := HJ.out.2.2.1 hd.1
          have r3 := HJ.out.2.2.2.2.1 hd.2.1
          simp only [ovr, Act.put, List.setIfInBounds_toArray, List.set_cons_zero, List.set_cons_succ] at hK ⊢
          have HK := Lib.hid hK
          clear hK
          refine wpOp_want rfl rfl ?_
          go_simp
          (with_reducible refine (Div_any _ _ z1 z2 _ r1 r3 HZ (hE.mono hb)).mono ?_)
          rintro e w1 ⟨⟨ng4, ao4, n4, cap4, ng5, ao5, n5, cap5, rfl, HV4, HV5⟩, hb1⟩
          have hr : DivT (z1.tdiv z2) (z1.tmod z2) 0 w1 (.tuple #[.agg #[.bool ng4, .slice ao4 n4 cap4], .agg #[.bool ng5, .slice ao5 n5 cap5], .int .i64 0]) := ⟨_, _, rfl, HV4.out, HV5.out⟩
          dsimp only
          obtain ⟨hb, f0, f1, f2, f3, f4, f5, f6, f7, f8, f9, f10, f13, n9_10, c9, c10⟩ := HJ.out
          exact HK.out _ _ ⟨Below.step hb hb1 (Nat.le_refl _), fun h => f0 (h.resolve_left (by decide)), fun h => (stay_int _).mono (f1 (h.resolve_left (by decide))) hb1, fun h => f2 (h.resolve_left (by decide)), fun h => (stay_int _).mono (f3 (h.resolve_left (by decide))) hb1, fun _ => hr, fun h => (stay_div _ _ _).mono (f5 (h.resolve_left (by decide))) hb1, fun h => (stay_int _).mono (f6 (h.resolve_left (by decide))) hb1, fun h => (stay_int _).mono (f7 (h.resolve_left (by decide))) hb1, fun h => f8 (h.resolve_left (by decide)), fun h => ((f9 (h.resolve_left (by decide))).mono (stay_int _) hb1).congr ⟨fun h => .inr h, fun h => h.resolve_left (by decide)⟩, fun h => ((f10 (h.resolve_left (by decide))).mono (stay_int _) hb1).congr ⟨fun h => .inr h, fun h => h.resolve_left (by decide)⟩, fun h => f13 (h.resolve_left (by decide)), fun h1 h2 => n9_10 (h1.resolve_left (by decide)) (h2.resolve_left (by decide)), fun h => .inr (c9 (h.resolve_left (by decide))), fun h => .inr (c10 (h.resolve_left (by decide)))⟩
        case s5 =>
          rintro L T W hd hn hJ K hK
          have HJ := Lib.hid hJ
          clear hJ
          have hb := HJ.out.1
          have r4 := HJ.out.2.2.2.2.2.1 hd.1
          simp only [ovr, Act.put, List.setIfInBounds_toArray, List.set_cons_zero, List.set_cons_succ] at hK ⊢
          have HK := Lib.hid hK
          clear hK
          refine wpOp_want rfl rfl ?_
          go_simp
          obtain ⟨hb, f0, f1, f2, f3, f4, f5, f6, f7, f8, f9, f10, f13, n9_10, c9, c10⟩ := HJ.out
          exact HK.out _ _ ⟨hb, fun h => f0 (h.resolve_left (by decide)), fun h => f1 (h.resolve_left (by decide)), fun h => f2 (h.resolve_left (by decide)), fun h => f3 (h.resolve_left (by decide)), fun h => f4 (h.resolve_left (by decide)), fun _ => r4, fun h => f6 (h.resolve_left (by decide)), fun h => f7 (h.resolve_left (by decide)), fun h => f8 (h.resolve_left (by decide)), fun h => ((f9 (h.resolve_left (by decide)))).congr ⟨fun h => .inr h, fun h => h.resolve_left (by decide)⟩, fun h => ((f10 (h.resolve_left (by decide)))).congr ⟨fun h => .inr h, fun h => h.resolve_left (by decide)⟩, fun h => f13 (h.resolve_left (by decide)), fun h1 h2 => n9_10 (h1.resolve_left (by decide)) (h2.resolve_left (by decide)), fun h => .inr (c9 (h.resolve_left (by decide))), fun h => .inr (c10 (h.resolve_left (by decide)))⟩
        case s6 =>
          rintro L T W hd hn hJ K hK
          have HJ := Lib.hid hJ
          clear hJ
          have hb := HJ.out.1
          have r5 := HJ.out.2.2.2.2.2.2.1 hd.1
          obtain ⟨qv, rv, eT, hq, hr⟩ := r5
          simp only [ovr, Act.put, List.setIfInBounds_toArray, List.set_cons_zero, List.set_cons_succ, eT] at hK ⊢
          have HK := Lib.hid hK
          clear hK
          refine wpOp_want rfl rfl ?_
          go_simp
          obtain ⟨hb, f0, f1, f2, f3, f4, f5, f6, f7, f8, f9, f10, f13, n9_10, c9, c10⟩ := HJ.out
          exact HK.out _ _ ⟨hb, fun h => f0 (h.resolve_left (by decide)), fun h => f1 (h.resolve_left (by decide)), fun h => f2 (h.resolve_left (by decide)), fun h => f3 (h.resolve_left (by decide)), fun h => f4 (h.resolve_left (by decide)), fun h => f5 (h.resolve_left (by decide)), fun _ => hq, fun h => f7 (h.resolve_left (by decide)), fun h => f8 (h.resolve_left (by decide)), fun h => ((f9 (h.resolve_left (by decide)))).congr ⟨fun h => .inr h, fun h => h.resolve_left (by decide)⟩, fun h => ((f10 (h.resolve_left (by decide)))).congr ⟨fun h => .inr h, fun h => h.resolve_left (by decide)⟩, fun h => f13 (h.resolve_left (by decide)), fun h1 h2 => n9_10 (h1.resolve_left (by decide)) (h2.resolve_left (by decide)), fun h => .inr (c9 (h.resolve_left (by decide))), fun h => .inr (c10 (h.resolve_left (by decide)))⟩
        case s7 =>
          rintro L T W hd hn hJ K hK
          have HJ := Lib.hid hJ
          clear hJ
          have hb := HJ.out.1
          have r5 := HJ.out.2.2.2.2.2.2.1 hd.1
          obtain ⟨qv, rv, eT, hq, hr⟩ := r5
          simp only [ovr, Act.put, List.setIfInBounds_toArray, List.set_cons_zero, List.set_cons_succ, eT] at hK ⊢
          have HK := Lib.hid hK
          clear hK
          refine wpOp_want rfl rfl ?_
          go_simp
          obtain ⟨hb, f0, f1, f2, f3, f4, f5, f6, f7, f8, f9, f10, f13, n9_10, c9, c10⟩ := HJ.out
          exact HK.out _ _ ⟨hb, fun h => f0 (h.resolve_left (by decide)), fun h => f1 (h.resolve_left (by decide)), fun h => f2 (h.resolve_left (by decide)), fun h => f3 (h.resolve_left (by decide)), fun h => f4 (h.resolve_left (by decide)), fun h => f5 (h.resolve_left (by decide)), fun h => f6 (h.resolve_left (by decide)), fun _ => hr, fun h => f8 (h.resolve_left (by decide)), fun h => ((f9 (h.resolve_left (by decide)))).congr ⟨fun h => .inr h, fun h => h.resolve_left (by decide)⟩, fun h => ((f10 (h.resolve_left (by decide)))).congr ⟨fun h => .inr h, fun h => h.resolve_left (by decide)⟩, fun h => f13 (h.resolve_left (by decide)), fun h1 h2 => n9_10 (h1.resolve_left (by decide)) (h2.resolve_left (by decide)), fun h => .inr (c9 (h.resolve_left (by decide))), fun h => .inr (c10 (h.resolve_left (by decide)))⟩
        case s8 =>
          rintro L T W hd hn hJ K hK
          have HJ := Lib.hid hJ
          clear hJ
          have hb := HJ.out.1
          have r5 := HJ.out.2.2.2.2.2.2.1 hd.1
          obtain ⟨qv, rv, eT, hq, hr⟩ := r5
          simp only [ovr, Act.put, List.setIfInBounds_toArray, List.set_cons_zero, List.set_cons_succ, eT] at hK ⊢
          have HK := Lib.hid hK
          clear hK
          refine wpOp_want rfl rfl ?_
          go_simp
          obtain ⟨hb, f0, f1, f2, f3, f4, f5, f6, f7, f8, f9, f10, f13, n9_10, c9, c10⟩ := HJ.out
          exact HK.out _ _ ⟨hb, fun h => f0 (h.resolve_left (by decide)), fun h => f1 (h.resolve_left (by decide)), fun h => f2 (h.resolve_left (by decide)), fun h => f3 (h.resolve_left (by decide)), fun h => f4 (h.resolve_left (by decide)), fun h => f5 (h.resolve_left (by decide)), fun h => f6 (h.resolve_left (by decide)), fun h => f7 (h.resolve_left (by decide)), fun _ => rfl, fun h => ((f9 (h.resolve_left (by decide)))).congr ⟨fun h => .inr h, fun h => h.resolve_left (by decide)⟩, fun h => ((f10 (h.resolve_left (by decide)))).congr ⟨fun h => .inr h, fun h => h.resolve_left (by decide)⟩, fun h => f13 (h.resolve_left (by decide)), fun h1 h2 => n9_10 (h1.resolve_left (by decide)) (h2.resolve_left (by decide)), fun h => .inr (c9 (h.resolve_left (by decide))), fun h => .inr (c10 (h.resolve_left (by decide)))⟩
        case s9 =>
          rintro L T W hd hn hJ K hK
          have HJ := Lib.hid hJ
          clear hJ
          have hb := HJ.out.1
          simp only [ovr, Act.put, List.setIfInBounds_toArray, List.set_cons_zero, List.set_cons_succ] at hK ⊢
          have HK := Lib.hid hK
          clear hK
          refine wpOp_want rfl rfl ?_
          go_simp
          have hb1 := below_alloc W (.cells #[.bool false, .slice none 0 0] 25)
          obtain ⟨hb, f0, f1, f2, f3, f4, f5, f6, f7, f8, f9, f10, f13, n9_10, c9, c10⟩ := HJ.out
          exact HK.out _ _ ⟨Below.step hb hb1 (Nat.le_refl _), fun h => f0 (h.resolve_left (by decide)), fun h => (stay_int _).mono (f1 (h.resolve_left (by decide))) hb1, fun h => f2 (h.resolve_left (by decide)), fun h => (stay_int _).mono (f3 (h.resolve_left (by decide))) hb1, fun h => (stay_div _ _ _).mono (f4 (h.resolve_left (by decide))) hb1, fun h => (stay_div _ _ _).mono (f5 (h.resolve_left (by decide))) hb1, fun h => (stay_int _).mono (f6 (h.resolve_left (by decide))) hb1, fun h => (stay_int _).mono (f7 (h.resolve_left (by decide))) hb1, fun h => f8 (h.resolve_left (by decide)), fun _ => Slot.new W (fun h => hn (c9 (h.resolve_left (by decide)))) _ hb.size, fun h => ((f10 (h.resolve_left (by decide))).mono (stay_int _) hb1).congr ⟨fun h => .inr h, fun h => h.resolve_left (by decide)⟩, fun h => f13 (h.resolve_left (by decide)), fun _ h2 => (f10 (h2.resolve_left (by decide))).ne_new.symm, fun _ => .inl (by decide), fun h => .inr (c10 (h.resolve_left (by decide)))⟩
        case s10 =>
          rintro L T W hd hn hJ K hK
          have HJ := Lib.hid hJ
          clear hJ
          have hb := HJ.out.1
          simp only [ovr, Act.put, List.setIfInBounds_toArray, List.set_cons_zero, List.set_cons_succ] at hK ⊢
          have HK := Lib.hid hK
          clear hK
          refine wpOp_want rfl rfl ?_
          go_simp
          have hb1 := below_alloc W (.cells #[.bool false, .slice none 0 0] 25)
          obtain ⟨hb, f0, f1, f2, f3, f4, f5, f6, f7, f8, f9, f10, f13, n9_10, c9, c10⟩ := HJ.out
          exact HK.out _ _ ⟨Below.step hb hb1 (Nat.le_refl _), fun h => f0 (h.resolve_left (by decide)), fun h => (stay_int _).mono (f1 (h.resolve_left (by decide))) hb1, fun h => f2 (h.resolve_left (by decide)), fun h => (stay_int _).mono (f3 (h.resolve_left (by decide))) hb1, fun h => (stay_div _ _ _).mono (f4 (h.resolve_left (by decide))) hb1, fun h => (stay_div _ _ _).mono (f5 (h.resolve_left (by decide))) hb1, fun h => (stay_int _).mono (f6 (h.resolve_left (by decide))) hb1, fun h => (stay_int _).mono (f7 (h.resolve_left (by decide))) hb1, fun h => f8 (h.resolve_left (by decide)), fun h => ((f9 (h.resolve_left (by decide))).mono (stay_int _) hb1).congr ⟨fun h => .inr h, fun h => h.resolve_left (by decide)⟩, fun _ => Slot.new W (fun h => hn (c10 (h.resolve_left (by decide)))) _ hb.size, fun h => f13 (h.resolve_left (by decide)), fun h1 _ => (f9 (h1.resolve_left (by decide))).ne_new, fun h => .inr (c9 (h.resolve_left (by decide))), fun _ => .inl (by decide)⟩
        case s11 =>
          rintro L T W hd hn hJ K hK
          have HJ := Lib.hid hJ
          clear hJ
          have hb := HJ.out.1
          have r6 := HJ.out.2.2.2.2.2.2.2.1 hd.2.1
          have r4 := HJ.out.2.2.2.2.2.1 hd.2.2.1
          have e0 := HJ.out.2.1 hd.2.2.2.1
          have r1 := HJ.out.2.2.1 hd.2.2.2.2.1
          have e2 := HJ.out.2.2.2.1 hd.2.2.2.2.2.1
          have r3 := HJ.out.2.2.2.2.1 hd.2.2.2.2.2.2.1
          have r5 := HJ.out.2.2.2.2.2.2.1 hd.2.2.2.2.2.2.2.2.1
          have da := hd.1
          have hr := r6
          obtain ⟨m, em, hm1, hm2, hB⟩ := (HJ.out.2.2.2.2.2.2.2.2.2.2.1 da).open hn
          obtain ⟨ng, ao, nn, cap, ev⟩ := IntV.parts hr
          rw [ev] at hr
          obtain ⟨b0, b1, b2, b3⟩ := id hB
          simp only [ovr, Act.put, List.setIfInBounds_toArray, List.set_cons_zero, List.set_cons_succ, e0, e2, em, ev] at hK ⊢
          have HK := Lib.hid hK
          clear hK
          refine wpOp_want rfl rfl ?_
          go_simp
          obtain ⟨hb, f0, f1, f2, f3, f4, f5, f6, f7, f8, f9, f10, f13, n9_10, c9, c10⟩ := HJ.out
          exact HK.out undef _ ⟨Below.put2 hb hm1 _ _, fun h => f0 (h.resolve_left (by decide)), fun h => (stay_int _).put (f1 (h.resolve_left (by decide))) hB, fun h => f2 (h.resolve_left (by decide)), fun h => (stay_int _).put (f3 (h.resolve_left (by decide))) hB, fun h => (stay_div _ _ _).put (f4 (h.resolve_left (by decide))) hB, fun h => (stay_div _ _ _).put (f5 (h.resolve_left (by decide))) hB, fun h => (stay_int _).put (f6 (h.resolve_left (by decide))) hB, fun h => (stay_int _).put (f7 (h.resolve_left (by decide))) hB, fun h => f8 (h.resolve_left (by decide)), fun h => by show Slot _ _ _ _ (T 7); rw [em]; exact Slot.stored (stay_int _) hm1 hB (.inl (by decide)) hr, fun h => ((f10 (h.resolve_left (by decide))).other (stay_int _) (by rw [← em]; exact (n9_10 da (h.resolve_left (by decide))).symm) hB).congr ⟨fun h => .inr h, fun h => h.resolve_left (by decide)⟩, fun h => f13 (h.resolve_left (by decide)), fun h1 h2 => n9_10 (h1.resolve_left (by decide)) (h2.resolve_left (by decide)), fun _ => .inr da, fun h => .inr (c10 (h.resolve_left (by decide)))⟩
        case s12 =>
          rintro L T W hd hn hJ K hK
          have HJ := Lib.hid hJ
          clear hJ
          have hb := HJ.out.1
          have r7 := HJ.out.2.2.2.2.2.2.2.2.1 hd.2.1
          have e0 := HJ.out.2.1 hd.2.2.2.1
          have r1 := HJ.out.2.2.1 hd.2.2.2.2.1
          have e2 := HJ.out.2.2.2.1 hd.2.2.2.2.2.1
          have r3 := HJ.out.2.2.2.2.1 hd.2.2.2.2.2.2.1
          have r4 := HJ.out.2.2.2.2.2.1 hd.2.2.2.2.2.2.2.1
          have r5 := HJ.out.2.2.2.2.2.2.1 hd.2.2.2.2.2.2.2.2.1
          have r6 := HJ.out.2.2.2.2.2.2.2.1 hd.2.2.2.2.2.2.2.2.2.1
          have da := hd.1
          have hr := r7
          obtain ⟨m, em, hm1, hm2, hB⟩ := (HJ.out.2.2.2.2.2.2.2.2.2.2.2.1 da).open hn
          obtain ⟨ng, ao, nn, cap, ev⟩ := IntV.parts hr
          rw [ev] at hr
          obtain ⟨b0, b1, b2, b3⟩ := id hB
          simp only [ovr, Act.put, List.setIfInBounds_toArray, List.set_cons_zero, List.set_cons_succ, e0, e2, em, ev] at hK ⊢
          have HK := Lib.hid hK
          clear hK
          refine wpOp_want rfl rfl ?_
          go_simp
          obtain ⟨hb, f0, f1, f2, f3, f4, f5, f6, f7, f8, f9, f10, f13, n9_10, c9, c10⟩ := HJ.out
          exact HK.out undef _ ⟨Below.put2 hb hm1 _ _, fun h => f0 (h.resolve_left (by decide)), fun h => (stay_int _).put (f1 (h.resolve_left (by decide))) hB, fun h => f2 (h.resolve_left (by decide)), fun h => (stay_int _).put (f3 (h.resolve_left (by decide))) hB, fun h => (stay_div _ _ _).put (f4 (h.resolve_left (by decide))) hB, fun h => (stay_div _ _ _).put (f5 (h.resolve_left (by decide))) hB, fun h => (stay_int _).put (f6 (h.resolve_left (by decide))) hB, fun h => (stay_int _).put (f7 (h.resolve_left (by decide))) hB, fun h => f8 (h.resolve_left (by decide)), fun h => ((f9 (h.resolve_left (by decide))).other (stay_int _) (by rw [← em]; exact n9_10 (h.resolve_left (by decide)) da) hB).congr ⟨fun h => .inr h, fun h => h.resolve_left (by decide)⟩, fun h => by show Slot _ _ _ _ (T 8); rw [em]; exact Slot.stored (stay_int _) hm1 hB (.inl (by decide)) hr, fun h => f13 (h.resolve_left (by decide)), fun h1 h2 => n9_10 (h1.resolve_left (by decide)) (h2.resolve_left (by decide)), fun h => .inr (c9 (h.resolve_left (by decide))), fun _ => .inr da⟩
        case s13 =>
          rintro L T W hd hn hJ K hK
          have HJ := Lib.hid hJ
          clear hJ
          have hb := HJ.out.1
          have e8 := HJ.out.2.2.2.2.2.2.2.2.2.1 hd.1
          have e0 := HJ.out.2.1 hd.2.2.1
          have r1 := HJ.out.2.2.1 hd.2.2.2.1
          have e2 := HJ.out.2.2.2.1 hd.2.2.2.2.1
          have r3 := HJ.out.2.2.2.2.1 hd.2.2.2.2.2.1
          have r4 := HJ.out.2.2.2.2.2.1 hd.2.2.2.2.2.2.1
          have r5 := HJ.out.2.2.2.2.2.2.1 hd.2.2.2.2.2.2.2.1
          have r6 := HJ.out.2.2.2.2.2.2.2.1 hd.2.2.2.2.2.2.2.2.1
          have r7 := HJ.out.2.2.2.2.2.2.2.2.1 hd.2.2.2.2.2.2.2.2.2.1
          simp only [ovr, Act.put, List.setIfInBounds_toArray, List.set_cons_zero, List.set_cons_succ, e8, e0, e2] at hK ⊢
          have HK := Lib.hid hK
          clear hK
          refine wpOp_want rfl rfl ?_
          go_simp
          obtain ⟨hb, f0, f1, f2, f3, f4, f5, f6, f7, f8, f9, f10, f13, n9_10, c9, c10⟩ := HJ.out
          exact HK.out _ _ ⟨hb, fun h => f0 (h.resolve_left (by decide)), fun h => f1 (h.resolve_left (by decide)), fun h => f2 (h.resolve_left (by decide)), fun h => f3 (h.resolve_left (by decide)), fun h => f4 (h.resolve_left (by decide)), fun h => f5 (h.resolve_left (by decide)), fun h => f6 (h.resolve_left (by decide)), fun h => f7 (h.resolve_left (by decide)), fun h => f8 (h.resolve_left (by decide)), fun h => ((f9 (h.resolve_left (by decide)))).congr ⟨fun h => .inr h, fun h => h.resolve_left (by decide)⟩, fun h => ((f10 (h.resolve_left (by decide)))).congr ⟨fun h => .inr h, fun h => h.resolve_left (by decide)⟩, fun _ => rfl, fun h1 h2 => n9_10 (h1.resolve_left (by decide)) (h2.resolve_left (by decide)), fun h => .inr (c9 (h.resolve_left (by decide))), fun h => .inr (c10 (h.resolve_left (by decide)))⟩
        case he =>
          rintro T W ⟨hb, f0, f1, f2, f3, f4, f5, f6, f7, f8, f9, f10, f13, n9_10, c9, c10⟩
          simp only [ovr, List.setIfInBounds_toArray, List.set_cons_zero, List.set_cons_succ]
          have e9 := f13 (by decide)
          have Y1 := (f9 (by decide)).boxZ (by decide)
          have Y2 := (f10 (by decide)).boxZ (by decide)
          go_wp2_with fail
          go_meet
          exact ⟨Y1, Y2, rfl, hb⟩
      case rest =>
        obtain ⟨⟨g3, ng3, ao3, n3, cap3, rfl, X3, HV3⟩, ⟨g4, ng4, ao4, n4, cap4, rfl, X4, HV4⟩, rfl, hba⟩ := hcut
        clear x0 x1 y0 y1
        have X1 := X1.mono hba
        have X2 := X2.mono hba
        have HV1 := Lib.hid (HV1.out.mono hba)
        have HV2 := Lib.hid (HV2.out.mono hba)
        have hE := hE.mono hba
        have hbw := Below.step hbw hba (Nat.le_refl _)
        clear hba
        obtain ⟨x0, x1, _, _⟩ := id X2
        have hs0 : (sgnI z2 == 0) = false := by rw [beq_eq_false_iff_ne]; have := HZ.out; unfold sgnI; rw [if_neg this]; split <;> decide
        go_wp2_with fail
        (with_reducible refine (rSign_any _ z2 _ HV2.out).mono ?_)
        rintro e w5 ⟨rfl, hb⟩
        clear x0 x1
        have X1 := X1.mono hb
        have X2 := X2.mono hb
        have X3 := X3.mono hb
        have X4 := X4.mono hb
        have HV1 := Lib.hid (HV1.out.mono hb)
        have HV2 := Lib.hid (HV2.out.mono hb)
        have HV3 := Lib.hid (HV3.out.mono hb)
        have HV4 := Lib.hid (HV4.out.mono hb)
        have hE := hE.mono hb
        have hbw := Below.step hbw hb (Nat.le_refl _)
        clear hb
        obtain ⟨x0, x1, _, _⟩ := id X1
        obtain ⟨y0, y1, _, _⟩ := id X2
        go_wp2_with fail
        (with_reducible refine (rDiv_any _ _ z1 z2 _ HV1.out HV2.out HZ).mono ?_)
        rintro e w6 ⟨⟨ng5, ao5, n5, cap5, ng6, ao6, n6, cap6, rfl, HV5, HV6⟩, hb⟩
        clear x0 x1 y0 y1 hs0
        have X1 := X1.mono hb
        have X2 := X2.mono hb
        have X3 := X3.mono hb
        have X4 := X4.mono hb
        have HV1 := Lib.hid (HV1.out.mono hb)
        have HV2 := Lib.hid (HV2.out.mono hb)
        have HV3 := Lib.hid (HV3.out.mono hb)
        have HV4 := Lib.hid (HV4.out.mono hb)
        have hE := hE.mono hb
        have hbw := Below.step hbw hb (Nat.le_refl _)
        clear hb
        go_upto_region 8 with fail
        obtain ⟨wy, hwy, hszy, X5, X6, hb⟩ := boxes2 w6 (.bool ng5) (.slice ao5 n5 cap5) (.bool ng6) (.slice ao6 n6 cap6) 25
        rw [← hwy]
        clear hwy hszy
        have X1 := X1.mono hb
        have X2 := X2.mono hb
        have X3 := X3.mono hb
        have X4 := X4.mono hb
        have HV1 := Lib.hid (HV1.out.mono hb)
        have HV2 := Lib.hid (HV2.out.mono hb)
        have HV3 := Lib.hid (HV3.out.mono hb)
        have HV4 := Lib.hid (HV4.out.mono hb)
        have HV5 := Lib.hid (HV5.out.mono hb)
        have HV6 := Lib.hid (HV6.out.mono hb)
        have hE := hE.mono hb
        have hbw := Below.step hbw hb (Nat.le_refl _)
        clear hb
        obtain ⟨wx, rfl⟩ : ∃ wx : World, wx = wy := ⟨_, rfl⟩
        go_cut [13, 14] (fun s13 s14 wc => OneK wx wc s13 s14 (z1.tdiv z2 * z2))
        case first =>
          go_region_held3 (fun w' => w'.cell? ⟨g3, 0, none⟩ = some (.bool ng3) ∧ w'.cell? ⟨g3, 1, none⟩ = some (.slice ao3 n3 cap3) ∧ w'.cell? ⟨g2, 0, none⟩ = some (.bool ng2) ∧ w'.cell? ⟨g2, 1, none⟩ = some (.slice ao2 n2 cap2))
            ((refine S2 X3 X2 ?_; (repeat' (first | with_reducible assumption | with_reducible exact Below.refl _ _ | with_reducible refine Below.drew ?_ | with_reducible refine Below.alloc ?_ ?_ _ | with_reducible refine Below.setCell ?_ ?_ _ | with_reducible refine Below.step ?_ hd2 ?_ | with_reducible refine Below.step ?_ hd1 ?_ | (first | exact Nat.le_refl _ | omega | (simp; done) | (simp; omega) | (unfold World.setCell; simp; done) | (unfold World.setCell; simp; omega))))))
            (first
              | (go_at_call 15; ((with_reducible refine (ownV (.agg #[.bool ng2, .slice ao2 n2 cap2]) z2 _ (HV2.out.mono ?_)).mono ?_); ((repeat' (first | with_reducible assumption | with_reducible exact Below.refl _ _ | with_reducible refine Below.drew ?_ | with_reducible refine Below.alloc ?_ ?_ _ | with_reducible refine Below.setCell ?_ ?_ _ | with_reducible refine Below.step ?_ hd2 ?_ | with_reducible refine Below.step ?_ hd1 ?_ | (first | exact Nat.le_refl _ | omega | (simp; done) | (simp; omega) | (unfold World.setCell; simp; done) | (unfold World.setCell; simp; omega)))))); rintro e u1 ⟨⟨m1g, b1, q1, p1, rfl, HO1⟩, hd1⟩; have HU1 : Below wx.heap.size wx u1 := (by (repeat' (first | with_reducible assumption | with_reducible exact Below.refl _ _ | with_reducible refine Below.drew ?_ | with_reducible refine Below.alloc ?_ ?_ _ | with_reducible refine Below.setCell ?_ ?_ _ | with_reducible refine Below.step ?_ hd2 ?_ | with_reducible refine Below.step ?_ hd1 ?_ | (first | exact Nat.le_refl _ | omega | (simp; done) | (simp; omega) | (unfold World.setCell; simp; done) | (unfold World.setCell; simp; omega))))); have hu1 := HU1.size; (try ((have Nu10 : Box u1 (wx.heap.size) (.bool false) (.slice none 0 0) := ?_); rotate_left; (· (refine Box.mono ?_ hd1; (repeat' (first | with_reducible assumption | with_reducible exact Box.new _ _ _ _ | with_reducible exact Box.new2 _ _ _ _ _ | with_reducible refine Box.mono ?_ (below_alloc _ _) | with_reducible refine Box.mono ?_ (Below.drew (Below.refl _ _)) | exact Box.new _ _ _ _ | exact Box.new2 _ _ _ _ _)); done)); have Nu10l := Nu10.lt; have Nu10b := Nu10; obtain ⟨Nu100, Nu101, Nu102, Nu103⟩ := Nu10)))
              | (go_at_call 22; ((with_reducible refine (Mul_any _ _ (z1.tdiv z2) z2 _ (HV3.out.mono ?_) (HO1.out.mono ?_) (hE.mono ?_)).mono ?_); ((repeat' (first | with_reducible assumption | with_reducible exact Below.refl _ _ | with_reducible refine Below.drew ?_ | with_reducible refine Below.alloc ?_ ?_ _ | with_reducible refine Below.setCell ?_ ?_ _ | with_reducible refine Below.step ?_ hd2 ?_ | with_reducible refine Below.step ?_ hd1 ?_ | (first | exact Nat.le_refl _ | omega | (simp; done) | (simp; omega) | (unfold World.setCell; simp; done) | (unfold World.setCell; simp; omega))))); ((repeat' (first | with_reducible assumption | with_reducible exact Below.refl _ _ | with_reducible refine Below.drew ?_ | with_reducible refine Below.alloc ?_ ?_ _ | with_reducible refine Below.setCell ?_ ?_ _ | with_reducible refine Below.step ?_ hd2 ?_ | with_reducible refine Below.step ?_ hd1 ?_ | (first | exact Nat.le_refl _ | omega | (simp; done) | (simp; omega) | (unfold World.setCell; simp; done) | (unfold World.setCell; simp; omega))))); ((repeat' (first | with_reducible assumption | with_reducible exact Below.refl _ _ | with_reducible refine Below.drew ?_ | with_reducible refine Below.alloc ?_ ?_ _ | with_reducible refine Below.setCell ?_ ?_ _ | with_reducible refine Below.step ?_ hd2 ?_ | with_reducible refine Below.step ?_ hd1 ?_ | (first | exact Nat.le_refl _ | omega | (simp; done) | (simp; omega) | (unfold World.setCell; simp; done) | (unfold World.setCell; simp; omega)))))); rintro e u2 ⟨⟨m3g, b3, q3, p3, k3, rfl, HK⟩, hd2⟩; have HU2 : Below wx.heap.size wx u2 := (by (repeat' (first | with_reducible assumption | with_reducible exact Below.refl _ _ | with_reducible refine Below.drew ?_ | with_reducible refine Below.alloc ?_ ?_ _ | with_reducible refine Below.setCell ?_ ?_ _ | with_reducible refine Below.step ?_ hd2 ?_ | with_reducible refine Below.step ?_ hd1 ?_ | (first | exact Nat.le_refl _ | omega | (simp; done) | (simp; omega) | (unfold World.setCell; simp; done) | (unfold World.setCell; simp; omega))))); have hu2 := HU2.size; have hv2 : u1.heap.size ≤ u2.heap.size := (by refine Nat.le_trans ?_ hd2.size; (first | exact Nat.le_refl _ | omega | (simp; done) | (simp; omega) | (unfold World.setCell; simp; done) | (unfold World.setCell; simp; omega))); (try ((have Nu20 : Box u2 (wx.heap.size) (.bool false) (.slice none 0 0) := ?_); rotate_left; (· (refine Box.mono ?_ hd2; (repeat' (first | with_reducible assumption | with_reducible exact Box.new _ _ _ _ | with_reducible exact Box.new2 _ _ _ _ _ | with_reducible refine Box.mono ?_ (below_alloc _ _) | with_reducible refine Box.mono ?_ (Below.drew (Below.refl _ _)) | exact Box.new _ _ _ _ | exact Box.new2 _ _ _ _ _)); done)); have Nu20l := Nu20.lt; have Nu20b := Nu20; obtain ⟨Nu200, Nu201, Nu202, Nu203⟩ := Nu20)); (try ((have Nu21 : Box u2 (u1.heap.size) (.bool false) (.slice none 0 0) := ?_); rotate_left; (· (refine Box.mono ?_ hd2; (repeat' (first | with_reducible assumption | with_reducible exact Box.new _ _ _ _ | with_reducible exact Box.new2 _ _ _ _ _ | with_reducible refine Box.mono ?_ (below_alloc _ _) | with_reducible refine Box.mono ?_ (Below.drew (Below.refl _ _)) | exact Box.new _ _ _ _ | exact Box.new2 _ _ _ _ _)); done)); have Nu21l := Nu21.lt; have Nu21b := Nu21; obtain ⟨Nu210, Nu211, Nu212, Nu213⟩ := Nu21))))
          all_goals (go_wp2_with fail; go_meet; exact ⟨⟨_, m3g, b3, q3, p3, k3, rfl, rfl, by (repeat' (first | with_reducible assumption | with_reducible exact Box.new _ _ _ _ | with_reducible exact Box.new2 _ _ _ _ _ | (with_reducible refine Box.new' _ _ ?_ _ _ _; first | rfl | (simp; done) | (unfold World.setCell; simp; done)) | with_reducible refine Box.set2Z ?_ _ _ | with_reducible refine Box.put2 ?_ ?_ _ _ | with_reducible refine Box.mono ?_ (below_alloc _ _) | with_reducible refine Box.mono ?_ (Below.drew (Below.refl _ _)) | with_reducible refine Box.mono ?_ hd2 | omega | (unfold World.setCell; simp; done))), Lib.hid (by (repeat' (first | with_reducible exact HK.out | with_reducible refine ResK.putFN ?_ ?_ | with_reducible refine ResK.mono ?_ (below_alloc _ _) | with_reducible refine ResK.mono ?_ (Below.drew (Below.refl _ _)) | with_reducible refine ResK.mono ?_ hd2 | (repeat' (first | with_reducible assumption | with_reducible exact Box.new _ _ _ _ | with_reducible exact Box.new2 _ _ _ _ _ | (with_reducible refine Box.new' _ _ ?_ _ _ _; first | rfl | (simp; done) | (unfold World.setCell; simp; done)) | with_reducible refine Box.set2Z ?_ _ _ | with_reducible refine Box.put2 ?_ ?_ _ _ | with_reducible refine Box.mono ?_ (below_alloc _ _) | with_reducible refine Box.mono ?_ (Below.drew (Below.refl _ _)) | with_reducible refine Box.mono ?_ hd2 | omega | (unfold World.setCell; simp; done))))))⟩, by (repeat' (first | with_reducible assumption | with_reducible exact Below.refl _ _ | with_reducible refine Below.drew ?_ | with_reducible refine Below.alloc ?_ ?_ _ | with_reducible refine Below.setCell ?_ ?_ _ | with_reducible refine Below.step ?_ hd2 ?_ | with_reducible refine Below.step ?_ hd1 ?_ | (first | exact Nat.le_refl _ | omega | (simp; done) | (simp; omega) | (unfold World.setCell; simp; done) | (unfold World.setCell; simp; omega))))⟩)
        case rest =>
          obtain ⟨⟨g7, ng7, ao7, n7, cap7, k7, rfl, rfl, X7, HR7⟩, hba⟩ := hcut
          obtain ⟨rfl, hV7⟩ := HR7.out.fits (tdiv_mul_small HV1.out.small)
          have HV7 := Lib.hid hV7
          clear HR7 hV7
          have X1 := X1.mono hba
          have X2 := X2.mono hba
          have X3 := X3.mono hba
          have X4 := X4.mono hba
          have X5 := X5.mono hba
          have X6 := X6.mono hba
          have HV1 := Lib.hid (HV1.out.mono hba)
          have HV2 := Lib.hid (HV2.out.mono hba)
          have HV3 := Lib.hid (HV3.out.mono hba)
          have HV4 := Lib.hid (HV4.out.mono hba)
          have HV5 := Lib.hid (HV5.out.mono hba)
          have HV6 := Lib.hid (HV6.out.mono hba)
          have hE := hE.mono hba
          have hbw := Below.step hbw hba (Nat.le_refl _)
          clear hba
          obtain ⟨x0, x1, _, _⟩ := id X7
          obtain ⟨y0, y1, _, _⟩ := id X4
          go_wp2_with fail
          (with_reducible refine (Add_any _ _ (z1.tdiv z2 * z2) (z1.tmod z2) _ HV7.out HV4.out hE).mono ?_)
          rintro e w8 ⟨⟨ng8, ao8, n8, cap8, k8, rfl, HR8⟩, hb⟩
          rw [rem_sum] at HR8
          obtain ⟨rfl, hV8⟩ := HR8.out.fits HV1.out.small
          have HV8 := Lib.hid hV8
          clear HR8 hV8 x0 x1 y0 y1
          have X1 := X1.mono hb
          have X2 := X2.mono hb
          have X3 := X3.mono hb
          have X4 := X4.mono hb
          have X5 := X5.mono hb
          have X6 := X6.mono hb
          have HV1 := Lib.hid (HV1.out.mono hb)
          have HV2 := Lib.hid (HV2.out.mono hb)
          have HV3 := Lib.hid (HV3.out.mono hb)
          have HV4 := Lib.hid (HV4.out.mono hb)
          have HV5 := Lib.hid (HV5.out.mono hb)
          have HV6 := Lib.hid (HV6.out.mono hb)
          have hE := hE.mono hb
          have hbw := Below.step hbw hb (Nat.le_refl _)
          clear hb
          go_upto_region 10 with fail
          have X8 := Box.new w8 (.bool ng8) (.slice ao8 n8 cap8) 25
          have hb := below_alloc w8 (.cells #[.bool ng8, .slice ao8 n8 cap8] 25)
          generalize w8.alloc (.cells #[.bool ng8, .slice ao8 n8 cap8] 25) = w9 at *
          have X1 := X1.mono hb
          have X2 := X2.mono hb
          have X3 := X3.mono hb
          have X4 := X4.mono hb
          have X5 := X5.mono hb
          have X6 := X6.mono hb
          have HV1 := Lib.hid (HV1.out.mono hb)
          have HV2 := Lib.hid (HV2.out.mono hb)
          have HV3 := Lib.hid (HV3.out.mono hb)
          have HV4 := Lib.hid (HV4.out.mono hb)
          have HV5 := Lib.hid (HV5.out.mono hb)
          have HV6 := Lib.hid (HV6.out.mono hb)
          have HV8 := Lib.hid (HV8.out.mono hb)
          have hE := hE.mono hb
          have hbw := Below.step hbw hb (Nat.le_refl _)
          clear hb
          have HCM : Hid (cmpZ ((z1.tmod z2).natAbs : Int) (z2.natAbs : Int) = -1) := Lib.hid (tmod_cmp (a := z1) HZ.out)
          rcases sgn_cases (tmod_sgn (a := z1) (b := z2)) with hsr | ⟨hsr, hsa⟩ | ⟨hsr, hsa⟩
          · have HSR := Lib.hid hsr
            clear hsr
            have hS := fun W => S7 (W := W) X3 X4 X5 X6 X8 X1 X2
            refine wp_region_vals (wx := w9) [(fun _ v => v = .int .i64 0), (fun _ v => v = .bool true), (fun _ v => v = .bool true), (fun _ v => v = .int .i64 0), (fun _ v => v = .bool true), (fun _ v => v = .bool true), (fun _ v => v = .bool true), (fun _ v => v = .int .i64 0), (fun _ v => v = .bool true), (fun _ v => v = .bool true), (fun _ v => v = .bool true), (fun _ v => v = .agg #[.bool ng3, .slice ao3 n3 cap3]), (fun _ v => v = .agg #[.bool ng5, .slice ao5 n5 cap5]), (fun _ v => v = .bool true), (fun _ v => v = .bool true), (fun _ v => v = .bool true), (fun _ v => v = .agg #[.bool ng4, .slice ao4 n4 cap4]), (fun _ v => v = .agg #[.bool ng6, .slice ao6 n6 cap6]), (fun _ v => v = .bool true), (fun _ v => v = .bool true), (fun _ v => v = .bool true), (fun _ v => v = .agg #[.bool ng8, .slice ao8 n8 cap8]), (fun _ v => v = .agg #[.bool ng1, .slice ao1 n1 cap1]), (fun _ v => v = .bool true), (fun _ v => v = .bool true), (fun _ v => v = .bool true), (fun _ v => v = .agg #[.bool ng4, .slice ao4 n4 cap4]), (fun W v => IntV W v ((z1.tmod z2).natAbs : Int)), (fun _ v => v = .agg #[.bool ng2, .slice ao2 n2 cap2]), (fun W v => IntV W v (z2.natAbs : Int)), (fun _ v => v = .int .i64 (-1)), (fun _ v => v = .bool true), (fun _ v => v = .bool true), (fun _ v => v = .bool true), (fun _ v => v = .agg #[.bool ng4, .slice ao4 n4 cap4]), (fun _ v => v = .int .i64 0), (fun _ v => v = .bool true), (fun _ v => v = .bool true), (fun _ v => v = undef), (fun _ v => v = undef), (fun _ v => v = undef), (fun _ v => v = undef), (fun _ v => v = undef), (fun _ v => v = .bool true), (fun _ v => v = .bool true), (fun _ v => v = .bool true)] [67, 68, 69, 70, 71, 72, 73, 74, 75, 76, 77, 78, 79, 80, 81, 82, 83, 84, 85, 86, 87, 88, 89, 90, 91, 92, 93, 94, 95, 96, 97, 98, 99, 100, 101, 102, 103, 104, 105, 106, 107, 108, 109, 110, 111, 4] (by kernel_rfl) (by kernel_rfl) (by kernel_rfl) (of_decide_eq_true (by kernel_rfl)) (Below.refl _ _) ⟨stayB_val _, stayB_val _, stayB_val _, stayB_val _, stayB_val _, stayB_val _, stayB_val _, stayB_val _, stayB_val _, stayB_val _, stayB_val _, stayB_val _, stayB_val _, stayB_val _, stayB_val _, stayB_val _, stayB_val _, stayB_val _, stayB_val _, stayB_val _, stayB_val _, stayB_val _, stayB_val _, stayB_val _, stayB_val _, stayB_val _, stayB_val _, (fun _ _ _ h hb => h.mono hb), stayB_val _, (fun _ _ _ h hb => h.mono hb), stayB_val _, stayB_val _, stayB_val _, stayB_val _, stayB_val _, stayB_val _, stayB_val _, stayB_val _, stayB_val _, stayB_val _, stayB_val _, stayB_val _, stayB_val _, stayB_val _, stayB_val _, stayB_val _, trivial⟩ ⟨?s0, ?s1, ?s2, ?s3, ?s4, ?s5, ?s6, ?s7, ?s8, ?s9, ?s10, ?s11, ?s12, ?s13, ?s14, ?s15, ?s16, ?s17, ?s18, ?s19, ?s20, ?s21, ?s22, ?s23, ?s24, ?s25, ?s26, ?s27, ?s28, ?s29, ?s30, ?s31, ?s32, ?s33, ?s34, ?s35, ?s36, ?s37, ?s38, ?s39, ?s40, ?s41, ?s42, ?s43, ?s44, ?s45, trivial⟩ ?he
            case s0 =>
              rintro T W hb hA K hK
              simp only [ovr, Act.put, List.setIfInBounds_toArray, List.set_cons_zero, List.set_cons_succ] at hK ⊢
              have HK := Lib.hid hK
              clear hK hA
              refine wpOp_want rfl (by rfl) ?_
              go_simp
              exact HK.out _ _ (Below.refl _ _) rfl
            case s1 =>
              rintro T W hb hA K hK
              have e0 : T 67 = .int .i64 0 := hA.1
              simp only [ovr, Act.put, List.setIfInBounds_toArray, List.set_cons_zero, List.set_cons_succ, e0] at hK ⊢
              have HK := Lib.hid hK
              clear hK hA
              refine wpOp_want rfl (by rfl) ?_
              go_simp
              exact HK.out _ _ (Below.refl _ _) rfl
            case s2 =>
              rintro T W hb hA K hK
              have e1 : T 68 = .bool true := hA.1
              simp only [ovr, Act.put, List.setIfInBounds_toArray, List.set_cons_zero, List.set_cons_succ, e1] at hK ⊢
              have HK := Lib.hid hK
              clear hK hA
              refine wpOp_want rfl (by rfl) ?_
              go_simp
              exact HK.out _ _ (Below.refl _ _) rfl
            case s3 =>
              rintro T W hb hA K hK
              have e2 : T 69 = .bool true := hA.1
              simp only [ovr, Act.put, List.setIfInBounds_toArray, List.set_cons_zero, List.set_cons_succ, e2] at hK ⊢
              have HK := Lib.hid hK
              clear hK hA
              refine wpOp_want rfl (by rfl) ?_
              go_simp
              exact HK.out _ _ (Below.refl _ _) rfl
            case s4 =>
              rintro T W hb hA K hK
              have e3 : T 70 = .int .i64 0 := hA.1
              have e2 : T 69 = .bool true := hA.2.1
              simp only [ovr, Act.put, List.setIfInBounds_toArray, List.set_cons_zero, List.set_cons_succ, e3, e2] at hK ⊢
              have HK := Lib.hid hK
              clear hK hA
              refine wpOp_want rfl (by rfl) ?_
              go_simp
              exact HK.out _ _ (Below.refl _ _) rfl
            case s5 =>
              rintro T W hb hA K hK
              have e2 : T 69 = .bool true := hA.1
              have e4 : T 71 = .bool true := hA.2.1
              simp only [ovr, Act.put, List.setIfInBounds_toArray, List.set_cons_zero, List.set_cons_succ, e2, e4] at hK ⊢
              have HK := Lib.hid hK
              clear hK hA
              refine wpOp_want rfl (by rfl) ?_
              go_simp
              exact HK.out _ _ (Below.refl _ _) rfl
            case s6 =>
              rintro T W hb hA K hK
              have e5 : T 72 = .bool true := hA.1
              have e2 : T 69 = .bool true := hA.2.1
              simp only [ovr, Act.put, List.setIfInBounds_toArray, List.set_cons_zero, List.set_cons_succ, e5, e2] at hK ⊢
              have HK := Lib.hid hK
              clear hK hA
              refine wpOp_want rfl (by rfl) ?_
              go_simp
              exact HK.out _ _ (Below.refl _ _) rfl
            case s7 =>
              rintro T W hb hA K hK
              have e6 : T 73 = .bool true := hA.1
              simp only [ovr, Act.put, List.setIfInBounds_toArray, List.set_cons_zero, List.set_cons_succ, e6] at hK ⊢
              have HK := Lib.hid hK
              clear hK hA
              refine wpOp_want rfl (by rfl) ?_
              go_simp
              exact HK.out _ _ (Below.refl _ _) rfl
            case s8 =>
              rintro T W hb hA K hK
              have e7 : T 74 = .int .i64 0 := hA.1
              have e6 : T 73 = .bool true := hA.2.1
              simp only [ovr, Act.put, List.setIfInBounds_toArray, List.set_cons_zero, List.set_cons_succ, e7, e6] at hK ⊢
              have HK := Lib.hid hK
              clear hK hA
              refine wpOp_want rfl (by rfl) ?_
              go_simp
              exact HK.out _ _ (Below.refl _ _) rfl
            case s9 =>
              rintro T W hb hA K hK
              have e6 : T 73 = .bool true := hA.1
              have e8 : T 75 = .bool true := hA.2.1
              simp only [ovr, Act.put, List.setIfInBounds_toArray, List.set_cons_zero, List.set_cons_succ, e6, e8] at hK ⊢
              have HK := Lib.hid hK
              clear hK hA
              refine wpOp_want rfl (by rfl) ?_
              go_simp
              exact HK.out _ _ (Below.refl _ _) rfl
            case s10 =>
              rintro T W hb hA K hK
              have e9 : T 76 = .bool true := hA.1
              have e6 : T 73 = .bool true := hA.2.1
              simp only [ovr, Act.put, List.setIfInBounds_toArray, List.set_cons_zero, List.set_cons_succ, e9, e6] at hK ⊢
              have HK := Lib.hid hK
              clear hK hA
              refine wpOp_want rfl (by rfl) ?_
              go_simp
              exact HK.out _ _ (Below.refl _ _) rfl
            case s11 =>
              rintro T W hb hA K hK
              have e10 : T 77 = .bool true := hA.1
              simp only [ovr, Act.put, List.setIfInBounds_toArray, List.set_cons_zero, List.set_cons_succ, e10] at hK ⊢
              have HK := Lib.hid hK
              clear hK hA
              obtain ⟨c0, c1, c2, c3, c4, c5, c6, c7, c8, c9, c10, c11, c12, c13⟩ := hS W hb
              refine wpOp_want rfl (by rfl) ?_
              go_simp
              exact HK.out _ _ (Below.refl _ _) rfl
            case s12 =>
              rintro T W hb hA K hK
              have e10 : T 77 = .bool true := hA.1
              simp only [ovr, Act.put, List.setIfInBounds_toArray, List.set_cons_zero, List.set_cons_succ, e10] at hK ⊢
              have HK := Lib.hid hK
              clear hK hA
              obtain ⟨c0, c1, c2, c3, c4, c5, c6, c7, c8, c9, c10, c11, c12, c13⟩ := hS W hb
              refine wpOp_want rfl (by rfl) ?_
              go_simp
              exact HK.out _ _ (Below.refl _ _) rfl
            case s13 =>
              rintro T W hb hA K hK
              have e11 : T 78 = .agg #[.bool ng3, .slice ao3 n3 cap3] := hA.1
              have e12 : T 79 = .agg #[.bool ng5, .slice ao5 n5 cap5] := hA.2.1
              have e10 : T 77 = .bool true := hA.2.2.1
              simp only [ovr, Act.put, List.setIfInBounds_toArray, List.set_cons_zero, List.set_cons_succ, e11, e12, e10] at hK ⊢
              have HK := Lib.hid hK
              clear hK hA
              refine wpOp_want rfl (by rfl) ?_
              go_simp
              (with_reducible refine (eqV_same (z1.tdiv z2) (.agg #[.bool ng3, .slice ao3 n3 cap3]) (.agg #[.bool ng5, .slice ao5 n5 cap5]) _ (HV3.out.mono hb) (HV5.out.mono hb)).mono ?_)
              rintro e w1 ⟨rfl, hb1⟩
              dsimp only
              exact HK.out _ _ hb1 rfl
            case s14 =>
              rintro T W hb hA K hK
              have e10 : T 77 = .bool true := hA.1
              have e13 : T 80 = .bool true := hA.2.1
              simp only [ovr, Act.put, List.setIfInBounds_toArray, List.set_cons_zero, List.set_cons_succ, e10, e13] at hK ⊢
              have HK := Lib.hid hK
              clear hK hA
              refine wpOp_want rfl (by rfl) ?_
              go_simp
              exact HK.out _ _ (Below.refl _ _) rfl
            case s15 =>
              rintro T W hb hA K hK
              have e14 : T 81 = .bool true := hA.1
              have e13 : T 80 = .bool true := hA.2.1
              simp only [ovr, Act.put, List.setIfInBounds_toArray, List.set_cons_zero, List.set_cons_succ, e14, e13] at hK ⊢
              have HK := Lib.hid hK
              clear hK hA
              refine wpOp_want rfl (by rfl) ?_
              go_simp
              exact HK.out _ _ (Below.refl _ _) rfl
            case s16 =>
              rintro T W hb hA K hK
              have e15 : T 82 = .bool true := hA.1
              simp only [ovr, Act.put, List.setIfInBounds_toArray, List.set_cons_zero, List.set_cons_succ, e15] at hK ⊢
              have HK := Lib.hid hK
              clear hK hA
              obtain ⟨c0, c1, c2, c3, c4, c5, c6, c7, c8, c9, c10, c11, c12, c13⟩ := hS W hb
              refine wpOp_want rfl (by rfl) ?_
              go_simp
              exact HK.out _ _ (Below.refl _ _) rfl
            case s17 =>
              rintro T W hb hA K hK
              have e15 : T 82 = .bool true := hA.1
              simp only [ovr, Act.put, List.setIfInBounds_toArray, List.set_cons_zero, List.set_cons_succ, e15] at hK ⊢
              have HK := Lib.hid hK
              clear hK hA
              obtain ⟨c0, c1, c2, c3, c4, c5, c6, c7, c8, c9, c10, c11, c12, c13⟩ := hS W hb
              refine wpOp_want rfl (by rfl) ?_
              go_simp
              exact HK.out _ _ (Below.refl _ _) rfl
            case s18 =>
              rintro T W hb hA K hK
              have e16 : T 83 = .agg #[.bool ng4, .slice ao4 n4 cap4] := hA.1
              have e17 : T 84 = .agg #[.bool ng6, .slice ao6 n6 cap6] := hA.2.1
              have e15 : T 82 = .bool true := hA.2.2.1
              simp only [ovr, Act.put, List.setIfInBounds_toArray, List.set_cons_zero, List.set_cons_succ, e16, e17, e15] at hK ⊢
              have HK := Lib.hid hK
              clear hK hA
              refine wpOp_want rfl (by rfl) ?_
              go_simp
              (with_reducible refine (eqV_same (z1.tmod z2) (.agg #[.bool ng4, .slice ao4 n4 cap4]) (.agg #[.bool ng6, .slice ao6 n6 cap6]) _ (HV4.out.mono hb) (HV6.out.mono hb)).mono ?_)
              rintro e w1 ⟨rfl, hb1⟩
              dsimp only
              exact HK.out _ _ hb1 rfl
            case s19 =>
              rintro T W hb hA K hK
              have e15 : T 82 = .bool true := hA.1
              have e18 : T 85 = .bool true := hA.2.1
              simp only [ovr, Act.put, List.setIfInBounds_toArray, List.set_cons_zero, List.set_cons_succ, e15, e18] at hK ⊢
              have HK := Lib.hid hK
              clear hK hA
              refine wpOp_want rfl (by rfl) ?_
              go_simp
              exact HK.out _ _ (Below.refl _ _) rfl
            case s20 =>
              rintro T W hb hA K hK
              have e19 : T 86 = .bool true := hA.1
              have e18 : T 85 = .bool true := hA.2.1
              simp only [ovr, Act.put, List.setIfInBounds_toArray, List.set_cons_zero, List.set_cons_succ, e19, e18] at hK ⊢
              have HK := Lib.hid hK
              clear hK hA
              refine wpOp_want rfl (by rfl) ?_
              go_simp
              exact HK.out _ _ (Below.refl _ _) rfl
            case s21 =>
              rintro T W hb hA K hK
              have e20 : T 87 = .bool true := hA.1
              simp only [ovr, Act.put, List.setIfInBounds_toArray, List.set_cons_zero, List.set_cons_succ, e20] at hK ⊢
              have HK := Lib.hid hK
              clear hK hA
              obtain ⟨c0, c1, c2, c3, c4, c5, c6, c7, c8, c9, c10, c11, c12, c13⟩ := hS W hb
              refine wpOp_want rfl (by rfl) ?_
              go_simp
              exact HK.out _ _ (Below.refl _ _) rfl
            case s22 =>
              rintro T W hb hA K hK
              have e20 : T 87 = .bool true := hA.1
              simp only [ovr, Act.put, List.setIfInBounds_toArray, List.set_cons_zero, List.set_cons_succ, e20] at hK ⊢
              have HK := Lib.hid hK
              clear hK hA
              obtain ⟨c0, c1, c2, c3, c4, c5, c6, c7, c8, c9, c10, c11, c12, c13⟩ := hS W hb
              refine wpOp_want rfl (by rfl) ?_
              go_simp
              exact HK.out _ _ (Below.refl _ _) rfl
            case s23 =>
              rintro T W hb hA K hK
              have e21 : T 88 = .agg #[.bool ng8, .slice ao8 n8 cap8] := hA.1
              have e22 : T 89 = .agg #[.bool ng1, .slice ao1 n1 cap1] := hA.2.1
              have e20 : T 87 = .bool true := hA.2.2.1
              simp only [ovr, Act.put, List.setIfInBounds_toArray, List.set_cons_zero, List.set_cons_succ, e21, e22, e20] at hK ⊢
              have HK := Lib.hid hK
              clear hK hA
              refine wpOp_want rfl (by rfl) ?_
              go_simp
              (with_reducible refine (eqV_same z1 (.agg #[.bool ng8, .slice ao8 n8 cap8]) (.agg #[.bool ng1, .slice ao1 n1 cap1]) _ (HV8.out.mono hb) (HV1.out.mono hb)).mono ?_)
              rintro e w1 ⟨rfl, hb1⟩
              dsimp only
              exact HK.out _ _ hb1 rfl
            case s24 =>
              rintro T W hb hA K hK
              have e20 : T 87 = .bool true := hA.1
              have e23 : T 90 = .bool true := hA.2.1
              simp only [ovr, Act.put, List.setIfInBounds_toArray, List.set_cons_zero, List.set_cons_succ, e20, e23] at hK ⊢
              have HK := Lib.hid hK
              clear hK hA
              refine wpOp_want rfl (by rfl) ?_
              go_simp
              exact HK.out _ _ (Below.refl _ _) rfl
            case s25 =>
              rintro T W hb hA K hK
              have e24 : T 91 = .bool true := hA.1
              have e23 : T 90 = .bool true := hA.2.1
              simp only [ovr, Act.put, List.setIfInBounds_toArray, List.set_cons_zero, List.set_cons_succ, e24, e23] at hK ⊢
              have HK := Lib.hid hK
              clear hK hA
              refine wpOp_want rfl (by rfl) ?_
              go_simp
              exact HK.out _ _ (Below.refl _ _) rfl
            case s26 =>
              rintro T W hb hA K hK
              have e25 : T 92 = .bool true := hA.1
              simp only [ovr, Act.put, List.setIfInBounds_toArray, List.set_cons_zero, List.set_cons_succ, e25] at hK ⊢
              have HK := Lib.hid hK
              clear hK hA
              obtain ⟨c0, c1, c2, c3, c4, c5, c6, c7, c8, c9, c10, c11, c12, c13⟩ := hS W hb
              refine wpOp_want rfl (by rfl) ?_
              go_simp
              exact HK.out _ _ (Below.refl _ _) rfl
            case s27 =>
              rintro T W hb hA K hK
              have e26 : T 93 = .agg #[.bool ng4, .slice ao4 n4 cap4] := hA.1
              have e25 : T 92 = .bool true := hA.2.1
              simp only [ovr, Act.put, List.setIfInBounds_toArray, List.set_cons_zero, List.set_cons_succ, e26, e25] at hK ⊢
              have HK := Lib.hid hK
              clear hK hA
              refine wpOp_want rfl (by rfl) ?_
              go_simp
              (with_reducible refine (abs_any (.agg #[.bool ng4, .slice ao4 n4 cap4]) (z1.tmod z2) _ (HV4.out.mono hb)).mono ?_)
              rintro e w1 ⟨⟨ngA, aoA, nA, capA, rfl, HVA⟩, hb1⟩
              have hr := HVA.out
              dsimp only
              exact HK.out _ _ hb1 hr
            case s28 =>
              rintro T W hb hA K hK
              have e25 : T 92 = .bool true := hA.1
              simp only [ovr, Act.put, List.setIfInBounds_toArray, List.set_cons_zero, List.set_cons_succ, e25] at hK ⊢
              have HK := Lib.hid hK
              clear hK hA
              obtain ⟨c0, c1, c2, c3, c4, c5, c6, c7, c8, c9, c10, c11, c12, c13⟩ := hS W hb
              refine wpOp_want rfl (by rfl) ?_
              go_simp
              exact HK.out _ _ (Below.refl _ _) rfl
            case s29 =>
              rintro T W hb hA K hK
              have e28 : T 95 = .agg #[.bool ng2, .slice ao2 n2 cap2] := hA.1
              have r27 : (fun W v => IntV W v ((z1.tmod z2).natAbs : Int)) W (T 94) := hA.2.1
              have e25 : T 92 = .bool true := hA.2.2.1
              simp only [ovr, Act.put, List.setIfInBounds_toArray, List.set_cons_zero, List.set_cons_succ, e28, e25] at hK ⊢
              have HK := Lib.hid hK
              clear hK hA
              refine wpOp_want rfl (by rfl) ?_
              go_simp
              (with_reducible refine (abs_any (.agg #[.bool ng2, .slice ao2 n2 cap2]) z2 _ (HV2.out.mono hb)).mono ?_)
              rintro e w1 ⟨⟨ngA, aoA, nA, capA, rfl, HVA⟩, hb1⟩
              have hr := HVA.out
              dsimp only
              exact HK.out _ _ hb1 hr
            case s30 =>
              rintro T W hb hA K hK
              have r27 : (fun W v => IntV W v ((z1.tmod z2).natAbs : Int)) W (T 94) := hA.1
              have r29 : (fun W v => IntV W v (z2.natAbs : Int)) W (T 96) := hA.2.1
              have e25 : T 92 = .bool true := hA.2.2.2.1
              simp only [ovr, Act.put, List.setIfInBounds_toArray, List.set_cons_zero, List.set_cons_succ, e25] at hK ⊢
              have HK := Lib.hid hK
              clear hK hA
              refine wpOp_want rfl (by rfl) ?_
              go_simp
              (with_reducible refine (rCmp_eq _ _ ((z1.tmod z2).natAbs : Int) (z2.natAbs : Int) (-1) _ HCM r27 r29).mono ?_)
              rintro e w1 ⟨rfl, hb1⟩
              dsimp only
              exact HK.out _ _ hb1 rfl
            case s31 =>
              rintro T W hb hA K hK
              have e30 : T 97 = .int .i64 (-1) := hA.1
              have e25 : T 92 = .bool true := hA.2.1
              simp only [ovr, Act.put, List.setIfInBounds_toArray, List.set_cons_zero, List.set_cons_succ, e30, e25] at hK ⊢
              have HK := Lib.hid hK
              clear hK hA
              refine wpOp_want rfl (by rfl) ?_
              go_simp
              exact HK.out _ _ (Below.refl _ _) rfl
            case s32 =>
              rintro T W hb hA K hK
              have e25 : T 92 = .bool true := hA.1
              have e31 : T 98 = .bool true := hA.2.1
              simp only [ovr, Act.put, List.setIfInBounds_toArray, List.set_cons_zero, List.set_cons_succ, e25, e31] at hK ⊢
              have HK := Lib.hid hK
              clear hK hA
              refine wpOp_want rfl (by rfl) ?_
              go_simp
              exact HK.out _ _ (Below.refl _ _) rfl
            case s33 =>
              rintro T W hb hA K hK
              have e32 : T 99 = .bool true := hA.1
              have e30 : T 97 = .int .i64 (-1) := hA.2.1
              simp only [ovr, Act.put, List.setIfInBounds_toArray, List.set_cons_zero, List.set_cons_succ, e32, e30] at hK ⊢
              have HK := Lib.hid hK
              clear hK hA
              refine wpOp_want rfl (by rfl) ?_
              go_simp
              exact HK.out _ _ (Below.refl _ _) rfl
            case s34 =>
              rintro T W hb hA K hK
              have e33 : T 100 = .bool true := hA.1
              simp only [ovr, Act.put, List.setIfInBounds_toArray, List.set_cons_zero, List.set_cons_succ, e33] at hK ⊢
              have HK := Lib.hid hK
              clear hK hA
              obtain ⟨c0, c1, c2, c3, c4, c5, c6, c7, c8, c9, c10, c11, c12, c13⟩ := hS W hb
              refine wpOp_want rfl (by rfl) ?_
              go_simp
              exact HK.out _ _ (Below.refl _ _) rfl
            case s35 =>
              rintro T W hb hA K hK
              have e34 : T 101 = .agg #[.bool ng4, .slice ao4 n4 cap4] := hA.1
              have e33 : T 100 = .bool true := hA.2.1
              simp only [ovr, Act.put, List.setIfInBounds_toArray, List.set_cons_zero, List.set_cons_succ, e34, e33] at hK ⊢
              have HK := Lib.hid hK
              clear hK hA
              refine wpOp_want rfl (by rfl) ?_
              go_simp
              (with_reducible refine (rSign_eq (.agg #[.bool ng4, .slice ao4 n4 cap4]) (z1.tmod z2) 0 _ HSR (HV4.out.mono hb)).mono ?_)
              rintro e w1 ⟨rfl, hb1⟩
              dsimp only
              exact HK.out _ _ hb1 rfl
            case s36 =>
              rintro T W hb hA K hK
              have e35 : T 102 = .int .i64 0 := hA.1
              have e33 : T 100 = .bool true := hA.2.1
              simp only [ovr, Act.put, List.setIfInBounds_toArray, List.set_cons_zero, List.set_cons_succ, e35, e33] at hK ⊢
              have HK := Lib.hid hK
              clear hK hA
              refine wpOp_want rfl (by rfl) ?_
              go_simp
              exact HK.out _ _ (Below.refl _ _) rfl
            case s37 =>
              rintro T W hb hA K hK
              have e36 : T 103 = .bool true := hA.1
              have e35 : T 102 = .int .i64 0 := hA.2.1
              have e33 : T 100 = .bool true := hA.2.2.1
              simp only [ovr, Act.put, List.setIfInBounds_toArray, List.set_cons_zero, List.set_cons_succ, e36, e35, e33] at hK ⊢
              have HK := Lib.hid hK
              clear hK hA
              refine wpOp_want rfl (by rfl) ?_
              go_simp
              exact HK.out _ _ (Below.refl _ _) rfl
            case s38 =>
              rintro T W hb hA K hK
              have e37 : T 104 = .bool true := hA.1
              simp only [ovr, Act.put, List.setIfInBounds_toArray, List.set_cons_zero, List.set_cons_succ, e37] at hK ⊢
              have HK := Lib.hid hK
              clear hK hA
              refine wpOp_pass rfl (by rfl) ?_
              simp only [Act.put, List.setIfInBounds_toArray]
              exact HK.out _ _ (Below.refl _ _) rfl
            case s39 =>
              rintro T W hb hA K hK
              have e38 : T 105 = undef := hA.1
              have e37 : T 104 = .bool true := hA.2.1
              simp only [ovr, Act.put, List.setIfInBounds_toArray, List.set_cons_zero, List.set_cons_succ, e38, e37] at hK ⊢
              have HK := Lib.hid hK
              clear hK hA
              refine wpOp_pass rfl (by rfl) ?_
              simp only [Act.put, List.setIfInBounds_toArray]
              exact HK.out _ _ (Below.refl _ _) rfl
            case s40 =>
              rintro T W hb hA K hK
              have e37 : T 104 = .bool true := hA.1
              simp only [ovr, Act.put, List.setIfInBounds_toArray, List.set_cons_zero, List.set_cons_succ, e37] at hK ⊢
              have HK := Lib.hid hK
              clear hK hA
              refine wpOp_pass rfl (by rfl) ?_
              simp only [Act.put, List.setIfInBounds_toArray]
              exact HK.out _ _ (Below.refl _ _) rfl
            case s41 =>
              rintro T W hb hA K hK
              have e40 : T 107 = undef := hA.1
              have e39 : T 106 = undef := hA.2.1
              have e37 : T 104 = .bool true := hA.2.2.1
              simp only [ovr, Act.put, List.setIfInBounds_toArray, List.set_cons_zero, List.set_cons_succ, e40, e39, e37] at hK ⊢
              have HK := Lib.hid hK
              clear hK hA
              refine wpOp_pass rfl (by rfl) ?_
              simp only [Act.put, List.setIfInBounds_toArray]
              exact HK.out _ _ (Below.refl _ _) rfl
            case s42 =>
              rintro T W hb hA K hK
              have e39 : T 106 = undef := hA.1
              have e41 : T 108 = undef := hA.2.1
              have e37 : T 104 = .bool true := hA.2.2.1
              simp only [ovr, Act.put, List.setIfInBounds_toArray, List.set_cons_zero, List.set_cons_succ, e39, e41, e37] at hK ⊢
              have HK := Lib.hid hK
              clear hK hA
              refine wpOp_pass rfl (by rfl) ?_
              simp only [Act.put, List.setIfInBounds_toArray]
              exact HK.out _ _ (Below.refl _ _) rfl
            case s43 =>
              rintro T W hb hA K hK
              have e37 : T 104 = .bool true := hA.1
              have e42 : T 109 = undef := hA.2.1
              have e33 : T 100 = .bool true := hA.2.2.1
              simp only [ovr, Act.put, List.setIfInBounds_toArray, List.set_cons_zero, List.set_cons_succ, e37, e42, e33] at hK ⊢
              have HK := Lib.hid hK
              clear hK hA
              refine wpOp_want rfl (by rfl) ?_
              go_simp
              exact HK.out _ _ (Below.refl _ _) rfl
            case s44 =>
              rintro T W hb hA K hK
              have e33 : T 100 = .bool true := hA.1
              have e43 : T 110 = .bool true := hA.2.1
              simp only [ovr, Act.put, List.setIfInBounds_toArray, List.set_cons_zero, List.set_cons_succ, e33, e43] at hK ⊢
              have HK := Lib.hid hK
              clear hK hA
              refine wpOp_want rfl (by rfl) ?_
              go_simp
              exact HK.out _ _ (Below.refl _ _) rfl
            case s45 =>
              rintro T W hb hA K hK
              have e44 : T 111 = .bool true := hA.1
              have e41 : T 108 = undef := hA.2.1
              have e0 : T 67 = .int .i64 0 := hA.2.2.1
              have e1 : T 68 = .bool true := hA.2.2.2.1
              have e2 : T 69 = .bool true := hA.2.2.2.2.1
              have e3 : T 70 = .int .i64 0 := hA.2.2.2.2.2.1
              have e4 : T 71 = .bool true := hA.2.2.2.2.2.2.1
              have e5 : T 72 = .bool true := hA.2.2.2.2.2.2.2.1
              have e6 : T 73 = .bool true := hA.2.2.2.2.2.2.2.2.1
              have e7 : T 74 = .int .i64 0 := hA.2.2.2.2.2.2.2.2.2.1
              have e8 : T 75 = .bool true := hA.2.2.2.2.2.2.2.2.2.2.1
              have e9 : T 76 = .bool true := hA.2.2.2.2.2.2.2.2.2.2.2.1
              have e10 : T 77 = .bool true := hA.2.2.2.2.2.2.2.2.2.2.2.2.1
              have e11 : T 78 = .agg #[.bool ng3, .slice ao3 n3 cap3] := hA.2.2.2.2.2.2.2.2.2.2.2.2.2.1
              have e12 : T 79 = .agg #[.bool ng5, .slice ao5 n5 cap5] := hA.2.2.2.2.2.2.2.2.2.2.2.2.2.2.1
              have e13 : T 80 = .bool true := hA.2.2.2.2.2.2.2.2.2.2.2.2.2.2.2.1
              have e14 : T 81 = .bool true := hA.2.2.2.2.2.2.2.2.2.2.2.2.2.2.2.2.1
              have e15 : T 82 = .bool true := hA.2.2.2.2.2.2.2.2.2.2.2.2.2.2.2.2.2.1
              have e16 : T 83 = .agg #[.bool ng4, .slice ao4 n4 cap4] := hA.2.2.2.2.2.2.2.2.2.2.2.2.2.2.2.2.2.2.1
              have e17 : T 84 = .agg #[.bool ng6, .slice ao6 n6 cap6] := hA.2.2.2.2.2.2.2.2.2.2.2.2.2.2.2.2.2.2.2.1
              have e18 : T 85 = .bool true := hA.2.2.2.2.2.2.2.2.2.2.2.2.2.2.2.2.2.2.2.2.1
              have e19 : T 86 = .bool true := hA.2.2.2.2.2.2.2.2.2.2.2.2.2.2.2.2.2.2.2.2.2.1
              have e20 : T 87 = .bool true := hA.2.2.2.2.2.2.2.2.2.2.2.2.2.2.2.2.2.2.2.2.2.2.1
              have e21 : T 88 = .agg #[.bool ng8, .slice ao8 n8 cap8] := hA.2.2.2.2.2.2.2.2.2.2.2.2.2.2.2.2.2.2.2.2.2.2.2.1
              have e22 : T 89 = .agg #[.bool ng1, .slice ao1 n1 cap1] := hA.2.2.2.2.2.2.2.2.2.2.2.2.2.2.2.2.2.2.2.2.2.2.2.2.1
              have e23 : T 90 = .bool true := hA.2.2.2.2.2.2.2.2.2.2.2.2.2.2.2.2.2.2.2.2.2.2.2.2.2.1
              have e24 : T 91 = .bool true := hA.2.2.2.2.2.2.2.2.2.2.2.2.2.2.2.2.2.2.2.2.2.2.2.2.2.2.1
              have e25 : T 92 = .bool true := hA.2.2.2.2.2.2.2.2.2.2.2.2.2.2.2.2.2.2.2.2.2.2.2.2.2.2.2.1
              have e26 : T 93 = .agg #[.bool ng4, .slice ao4 n4 cap4] := hA.2.2.2.2.2.2.2.2.2.2.2.2.2.2.2.2.2.2.2.2.2.2.2.2.2.2.2.2.1
              have r27 : (fun W v => IntV W v ((z1.tmod z2).natAbs : Int)) W (T 94) := hA.2.2.2.2.2.2.2.2.2.2.2.2.2.2.2.2.2.2.2.2.2.2.2.2.2.2.2.2.2.1
              have e28 : T 95 = .agg #[.bool ng2, .slice ao2 n2 cap2] := hA.2.2.2.2.2.2.2.2.2.2.2.2.2.2.2.2.2.2.2.2.2.2.2.2.2.2.2.2.2.2.1
              have r29 : (fun W v => IntV W v (z2.natAbs : Int)) W (T 96) := hA.2.2.2.2.2.2.2.2.2.2.2.2.2.2.2.2.2.2.2.2.2.2.2.2.2.2.2.2.2.2.2.1
              have e30 : T 97 = .int .i64 (-1) := hA.2.2.2.2.2.2.2.2.2.2.2.2.2.2.2.2.2.2.2.2.2.2.2.2.2.2.2.2.2.2.2.2.1
              have e31 : T 98 = .bool true := hA.2.2.2.2.2.2.2.2.2.2.2.2.2.2.2.2.2.2.2.2.2.2.2.2.2.2.2.2.2.2.2.2.2.1
              have e32 : T 99 = .bool true := hA.2.2.2.2.2.2.2.2.2.2.2.2.2.2.2.2.2.2.2.2.2.2.2.2.2.2.2.2.2.2.2.2.2.2.1
              have e33 : T 100 = .bool true := hA.2.2.2.2.2.2.2.2.2.2.2.2.2.2.2.2.2.2.2.2.2.2.2.2.2.2.2.2.2.2.2.2.2.2.2.1
              have e34 : T 101 = .agg #[.bool ng4, .slice ao4 n4 cap4] := hA.2.2.2.2.2.2.2.2.2.2.2.2.2.2.2.2.2.2.2.2.2.2.2.2.2.2.2.2.2.2.2.2.2.2.2.2.1
              have e35 : T 102 = .int .i64 0 := hA.2.2.2.2.2.2.2.2.2.2.2.2.2.2.2.2.2.2.2.2.2.2.2.2.2.2.2.2.2.2.2.2.2.2.2.2.2.1
              have e36 : T 103 = .bool true := hA.2.2.2.2.2.2.2.2.2.2.2.2.2.2.2.2.2.2.2.2.2.2.2.2.2.2.2.2.2.2.2.2.2.2.2.2.2.2.1
              have e37 : T 104 = .bool true := hA.2.2.2.2.2.2.2.2.2.2.2.2.2.2.2.2.2.2.2.2.2.2.2.2.2.2.2.2.2.2.2.2.2.2.2.2.2.2.2.1
              have e38 : T 105 = undef := hA.2.2.2.2.2.2.2.2.2.2.2.2.2.2.2.2.2.2.2.2.2.2.2.2.2.2.2.2.2.2.2.2.2.2.2.2.2.2.2.2.1
              have e39 : T 106 = undef := hA.2.2.2.2.2.2.2.2.2.2.2.2.2.2.2.2.2.2.2.2.2.2.2.2.2.2.2.2.2.2.2.2.2.2.2.2.2.2.2.2.2.1
              have e40 : T 107 = undef := hA.2.2.2.2.2.2.2.2.2.2.2.2.2.2.2.2.2.2.2.2.2.2.2.2.2.2.2.2.2.2.2.2.2.2.2.2.2.2.2.2.2.2.1
              have e42 : T 109 = undef := hA.2.2.2.2.2.2.2.2.2.2.2.2.2.2.2.2.2.2.2.2.2.2.2.2.2.2.2.2.2.2.2.2.2.2.2.2.2.2.2.2.2.2.2.2.1
              have e43 : T 110 = .bool true := hA.2.2.2.2.2.2.2.2.2.2.2.2.2.2.2.2.2.2.2.2.2.2.2.2.2.2.2.2.2.2.2.2.2.2.2.2.2.2.2.2.2.2.2.2.2.1
              simp only [ovr, Act.put, List.setIfInBounds_toArray, List.set_cons_zero, List.set_cons_succ, e44, e41, e0, e1, e2, e3, e4, e5, e6, e7, e8, e9, e10, e11, e12, e13, e14, e15, e16, e17, e18, e19, e20, e21, e22, e23, e24, e25, e26, e28, e30, e31, e32, e33, e34, e35, e36, e37, e38, e39, e40, e42, e43] at hK ⊢
              have HK := Lib.hid hK
              clear hK hA
              refine wpOp_want rfl (by rfl) ?_
              go_simp
              exact HK.out _ _ (Below.refl _ _) rfl
            case he =>
              rintro T W hb hA
              have e45 : T 4 = .bool true := hA.at 45 (by decide)
              simp only [ovr, List.setIfInBounds_toArray, List.set_cons_zero, List.set_cons_succ, e45]
              go_wp2
              go_ret
              exact ⟨rfl, Below.step hbw hb (Nat.le_refl _)⟩
          · have HSR := Lib.hid hsr
            have HSA := Lib.hid hsa
            clear hsr hsa
            as_aux_lemma =>
              go_region_held3 (fun w' => w'.cell? ⟨g3, 0, none⟩ = some (.bool ng3) ∧ w'.cell? ⟨g3, 1, none⟩ = some (.slice ao3 n3 cap3) ∧ w'.cell? ⟨g4, 0, none⟩ = some (.bool ng4) ∧ w'.cell? ⟨g4, 1, none⟩ = some (.slice ao4 n4 cap4) ∧ w'.cell? ⟨w6.heap.size, 0, none⟩ = some (.bool ng5) ∧ w'.cell? ⟨w6.heap.size, 1, none⟩ = some (.slice ao5 n5 cap5) ∧ w'.cell? ⟨w6.heap.size + 1, 0, none⟩ = some (.bool ng6) ∧ w'.cell? ⟨w6.heap.size + 1, 1, none⟩ = some (.slice ao6 n6 cap6) ∧ w'.cell? ⟨w8.heap.size, 0, none⟩ = some (.bool ng8) ∧ w'.cell? ⟨w8.heap.size, 1, none⟩ = some (.slice ao8 n8 cap8) ∧ w'.cell? ⟨g1, 0, none⟩ = some (.bool ng1) ∧ w'.cell? ⟨g1, 1, none⟩ = some (.slice ao1 n1 cap1) ∧ w'.cell? ⟨g2, 0, none⟩ = some (.bool ng2) ∧ w'.cell? ⟨g2, 1, none⟩ = some (.slice ao2 n2 cap2))
                ((refine S7 X3 X4 X5 X6 X8 X1 X2 ?_; (repeat' (first | with_reducible assumption | with_reducible exact Below.refl _ _ | with_reducible refine Below.drew ?_ | with_reducible refine Below.alloc ?_ ?_ _ | with_reducible refine Below.setCell ?_ ?_ _ | with_reducible refine Below.step ?_ he9 ?_ | with_reducible refine Below.step ?_ he8 ?_ | with_reducible refine Below.step ?_ he7 ?_ | with_reducible refine Below.step ?_ he6 ?_ | with_reducible refine Below.step ?_ he5 ?_ | with_reducible refine Below.step ?_ he4 ?_ | with_reducible refine Below.step ?_ he3 ?_ | with_reducible refine Below.step ?_ he2 ?_ | with_reducible refine Below.step ?_ he1 ?_ | (first | exact Nat.le_refl _ | omega | (simp; done) | (simp; omega) | (unfold World.setCell; simp; done) | (unfold World.setCell; simp; omega))))))
                (first
                  | (go_at_call 16; ((with_reducible refine (eqV_same (z1.tdiv z2) (.agg #[.bool ng3, .slice ao3 n3 cap3]) (.agg #[.bool ng5, .slice ao5 n5 cap5]) _ (HV3.out.mono ?_) (HV5.out.mono ?_)).mono ?_); ((repeat' (first | with_reducible assumption | with_reducible exact Below.refl _ _ | with_reducible refine Below.drew ?_ | with_reducible refine Below.alloc ?_ ?_ _ | with_reducible refine Below.setCell ?_ ?_ _ | with_reducible refine Below.step ?_ he9 ?_ | with_reducible refine Below.step ?_ he8 ?_ | with_reducible refine Below.step ?_ he7 ?_ | with_reducible refine Below.step ?_ he6 ?_ | with_reducible refine Below.step ?_ he5 ?_ | with_reducible refine Below.step ?_ he4 ?_ | with_reducible refine Below.step ?_ he3 ?_ | with_reducible refine Below.step ?_ he2 ?_ | with_reducible refine Below.step ?_ he1 ?_ | (first | exact Nat.le_refl _ | omega | (simp; done) | (simp; omega) | (unfold World.setCell; simp; done) | (unfold World.setCell; simp; omega))))); ((repeat' (first | with_reducible assumption | with_reducible exact Below.refl _ _ | with_reducible refine Below.drew ?_ | with_reducible refine Below.alloc ?_ ?_ _ | with_reducible refine Below.setCell ?_ ?_ _ | with_reducible refine Below.step ?_ he9 ?_ | with_reducible refine Below.step ?_ he8 ?_ | with_reducible refine Below.step ?_ he7 ?_ | with_reducible refine Below.step ?_ he6 ?_ | with_reducible refine Below.step ?_ he5 ?_ | with_reducible refine Below.step ?_ he4 ?_ | with_reducible refine Below.step ?_ he3 ?_ | with_reducible refine Below.step ?_ he2 ?_ | with_reducible refine Below.step ?_ he1 ?_ | (first | exact Nat.le_refl _ | omega | (simp; done) | (simp; omega) | (unfold World.setCell; simp; done) | (unfold World.setCell; simp; omega)))))); rintro e t1 ⟨rfl, he1⟩; have HT1 : Below w9.heap.size w9 t1 := (by (repeat' (first | with_reducible assumption | with_reducible exact Below.refl _ _ | with_reducible refine Below.drew ?_ | with_reducible refine Below.alloc ?_ ?_ _ | with_reducible refine Below.setCell ?_ ?_ _ | with_reducible refine Below.step ?_ he9 ?_ | with_reducible refine Below.step ?_ he8 ?_ | with_reducible refine Below.step ?_ he7 ?_ | with_reducible refine Below.step ?_ he6 ?_ | with_reducible refine Below.step ?_ he5 ?_ | with_reducible refine Below.step ?_ he4 ?_ | with_reducible refine Below.step ?_ he3 ?_ | with_reducible refine Below.step ?_ he2 ?_ | with_reducible refine Below.step ?_ he1 ?_ | (first | exact Nat.le_refl _ | omega | (simp; done) | (simp; omega) | (unfold World.setCell; simp; done) | (unfold World.setCell; simp; omega))))); have ht1 := HT1.size)
                  | (go_at_call 16; ((with_reducible refine (eqV_same (z1.tmod z2) (.agg #[.bool ng4, .slice ao4 n4 cap4]) (.agg #[.bool ng6, .slice ao6 n6 cap6]) _ (HV4.out.mono ?_) (HV6.out.mono ?_)).mono ?_); ((repeat' (first | with_reducible assumption | with_reducible exact Below.refl _ _ | with_reducible refine Below.drew ?_ | with_reducible refine Below.alloc ?_ ?_ _ | with_reducible refine Below.setCell ?_ ?_ _ | with_reducible refine Below.step ?_ he9 ?_ | with_reducible refine Below.step ?_ he8 ?_ | with_reducible refine Below.step ?_ he7 ?_ | with_reducible refine Below.step ?_ he6 ?_ | with_reducible refine Below.step ?_ he5 ?_ | with_reducible refine Below.step ?_ he4 ?_ | with_reducible refine Below.step ?_ he3 ?_ | with_reducible refine Below.step ?_ he2 ?_ | with_reducible refine Below.step ?_ he1 ?_ | (first | exact Nat.le_refl _ | omega | (simp; done) | (simp; omega) | (unfold World.setCell; simp; done) | (unfold World.setCell; simp; omega))))); ((repeat' (first | with_reducible assumption | with_reducible exact Below.refl _ _ | with_reducible refine Below.drew ?_ | with_reducible refine Below.alloc ?_ ?_ _ | with_reducible refine Below.setCell ?_ ?_ _ | with_reducible refine Below.step ?_ he9 ?_ | with_reducible refine Below.step ?_ he8 ?_ | with_reducible refine Below.step ?_ he7 ?_ | with_reducible refine Below.step ?_ he6 ?_ | with_reducible refine Below.step ?_ he5 ?_ | with_reducible refine Below.step ?_ he4 ?_ | with_reducible refine Below.step ?_ he3 ?_ | with_reducible refine Below.step ?_ he2 ?_ | with_reducible refine Below.step ?_ he1 ?_ | (first | exact Nat.le_refl _ | omega | (simp; done) | (simp; omega) | (unfold World.setCell; simp; done) | (unfold World.setCell; simp; omega)))))); rintro e t2 ⟨rfl, he2⟩; have HT2 : Below w9.heap.size w9 t2 := (by (repeat' (first | with_reducible assumption | with_reducible exact Below.refl _ _ | with_reducible refine Below.drew ?_ | with_reducible refine Below.alloc ?_ ?_ _ | with_reducible refine Below.setCell ?_ ?_ _ | with_reducible refine Below.step ?_ he9 ?_ | with_reducible refine Below.step ?_ he8 ?_ | with_reducible refine Below.step ?_ he7 ?_ | with_reducible refine Below.step ?_ he6 ?_ | with_reducible refine Below.step ?_ he5 ?_ | with_reducible refine Below.step ?_ he4 ?_ | with_reducible refine Below.step ?_ he3 ?_ | with_reducible refine Below.step ?_ he2 ?_ | with_reducible refine Below.step ?_ he1 ?_ | (first | exact Nat.le_refl _ | omega | (simp; done) | (simp; omega) | (unfold World.setCell; simp; done) | (unfold World.setCell; simp; omega))))); have ht2 := HT2.size)
                  | (go_at_call 16; ((with_reducible refine (eqV_same z1 (.agg #[.bool ng8, .slice ao8 n8 cap8]) (.agg #[.bool ng1, .slice ao1 n1 cap1]) _ (HV8.out.mono ?_) (HV1.out.mono ?_)).mono ?_); ((repeat' (first | with_reducible assumption | with_reducible exact Below.refl _ _ | with_reducible refine Below.drew ?_ | with_reducible refine Below.alloc ?_ ?_ _ | with_reducible refine Below.setCell ?_ ?_ _ | with_reducible refine Below.step ?_ he9 ?_ | with_reducible refine Below.step ?_ he8 ?_ | with_reducible refine Below.step ?_ he7 ?_ | with_reducible refine Below.step ?_ he6 ?_ | with_reducible refine Below.step ?_ he5 ?_ | with_reducible refine Below.step ?_ he4 ?_ | with_reducible refine Below.step ?_ he3 ?_ | with_reducible refine Below.step ?_ he2 ?_ | with_reducible refine Below.step ?_ he1 ?_ | (first | exact Nat.le_refl _ | omega | (simp; done) | (simp; omega) | (unfold World.setCell; simp; done) | (unfold World.setCell; simp; omega))))); ((repeat' (first | with_reducible assumption | with_reducible exact Below.refl _ _ | with_reducible refine Below.drew ?_ | with_reducible refine Below.alloc ?_ ?_ _ | with_reducible refine Below.setCell ?_ ?_ _ | with_reducible refine Below.step ?_ he9 ?_ | with_reducible refine Below.step ?_ he8 ?_ | with_reducible refine Below.step ?_ he7 ?_ | with_reducible refine Below.step ?_ he6 ?_ | with_reducible refine Below.step ?_ he5 ?_ | with_reducible refine Below.step ?_ he4 ?_ | with_reducible refine Below.step ?_ he3 ?_ | with_reducible refine Below.step ?_ he2 ?_ | with_reducible refine Below.step ?_ he1 ?_ | (first | exact Nat.le_refl _ | omega | (simp; done) | (simp; omega) | (unfold World.setCell; simp; done) | (unfold World.setCell; simp; omega)))))); rintro e t3 ⟨rfl, he3⟩; have HT3 : Below w9.heap.size w9 t3 := (by (repeat' (first | with_reducible assumption | with_reducible exact Below.refl _ _ | with_reducible refine Below.drew ?_ | with_reducible refine Below.alloc ?_ ?_ _ | with_reducible refine Below.setCell ?_ ?_ _ | with_reducible refine Below.step ?_ he9 ?_ | with_reducible refine Below.step ?_ he8 ?_ | with_reducible refine Below.step ?_ he7 ?_ | with_reducible refine Below.step ?_ he6 ?_ | with_reducible refine Below.step ?_ he5 ?_ | with_reducible refine Below.step ?_ he4 ?_ | with_reducible refine Below.step ?_ he3 ?_ | with_reducible refine Below.step ?_ he2 ?_ | with_reducible refine Below.step ?_ he1 ?_ | (first | exact Nat.le_refl _ | omega | (simp; done) | (simp; omega) | (unfold World.setCell; simp; done) | (unfold World.setCell; simp; omega))))); have ht3 := HT3.size)
                  | (go_at_call 35; ((with_reducible refine (abs_any (.agg #[.bool ng4, .slice ao4 n4 cap4]) (z1.tmod z2) _ (HV4.out.mono ?_)).mono ?_); ((repeat' (first | with_reducible assumption | with_reducible exact Below.refl _ _ | with_reducible refine Below.drew ?_ | with_reducible refine Below.alloc ?_ ?_ _ | with_reducible refine Below.setCell ?_ ?_ _ | with_reducible refine Below.step ?_ he9 ?_ | with_reducible refine Below.step ?_ he8 ?_ | with_reducible refine Below.step ?_ he7 ?_ | with_reducible refine Below.step ?_ he6 ?_ | with_reducible refine Below.step ?_ he5 ?_ | with_reducible refine Below.step ?_ he4 ?_ | with_reducible refine Below.step ?_ he3 ?_ | with_reducible refine Below.step ?_ he2 ?_ | with_reducible refine Below.step ?_ he1 ?_ | (first | exact Nat.le_refl _ | omega | (simp; done) | (simp; omega) | (unfold World.setCell; simp; done) | (unfold World.setCell; simp; omega)))))); rintro e t4 ⟨⟨ngA, aoA, nA, capA, rfl, HVA⟩, he4⟩; have HT4 : Below w9.heap.size w9 t4 := (by (repeat' (first | with_reducible assumption | with_reducible exact Below.refl _ _ | with_reducible refine Below.drew ?_ | with_reducible refine Below.alloc ?_ ?_ _ | with_reducible refine Below.setCell ?_ ?_ _ | with_reducible refine Below.step ?_ he9 ?_ | with_reducible refine Below.step ?_ he8 ?_ | with_reducible refine Below.step ?_ he7 ?_ | with_reducible refine Below.step ?_ he6 ?_ | with_reducible refine Below.step ?_ he5 ?_ | with_reducible refine Below.step ?_ he4 ?_ | with_reducible refine Below.step ?_ he3 ?_ | with_reducible refine Below.step ?_ he2 ?_ | with_reducible refine Below.step ?_ he1 ?_ | (first | exact Nat.le_refl _ | omega | (simp; done) | (simp; omega) | (unfold World.setCell; simp; done) | (unfold World.setCell; simp; omega))))); have ht4 := HT4.size)
                  | (go_at_call 35; ((with_reducible refine (abs_any (.agg #[.bool ng2, .slice ao2 n2 cap2]) z2 _ (HV2.out.mono ?_)).mono ?_); ((repeat' (first | with_reducible assumption | with_reducible exact Below.refl _ _ | with_reducible refine Below.drew ?_ | with_reducible refine Below.alloc ?_ ?_ _ | with_reducible refine Below.setCell ?_ ?_ _ | with_reducible refine Below.step ?_ he9 ?_ | with_reducible refine Below.step ?_ he8 ?_ | with_reducible refine Below.step ?_ he7 ?_ | with_reducible refine Below.step ?_ he6 ?_ | with_reducible refine Below.step ?_ he5 ?_ | with_reducible refine Below.step ?_ he4 ?_ | with_reducible refine Below.step ?_ he3 ?_ | with_reducible refine Below.step ?_ he2 ?_ | with_reducible refine Below.step ?_ he1 ?_ | (first | exact Nat.le_refl _ | omega | (simp; done) | (simp; omega) | (unfold World.setCell; simp; done) | (unfold World.setCell; simp; omega)))))); rintro e t5 ⟨⟨ngB, aoB, nB, capB, rfl, HVB⟩, he5⟩; have HT5 : Below w9.heap.size w9 t5 := (by (repeat' (first | with_reducible assumption | with_reducible exact Below.refl _ _ | with_reducible refine Below.drew ?_ | with_reducible refine Below.alloc ?_ ?_ _ | with_reducible refine Below.setCell ?_ ?_ _ | with_reducible refine Below.step ?_ he9 ?_ | with_reducible refine Below.step ?_ he8 ?_ | with_reducible refine Below.step ?_ he7 ?_ | with_reducible refine Below.step ?_ he6 ?_ | with_reducible refine Below.step ?_ he5 ?_ | with_reducible refine Below.step ?_ he4 ?_ | with_reducible refine Below.step ?_ he3 ?_ | with_reducible refine Below.step ?_ he2 ?_ | with_reducible refine Below.step ?_ he1 ?_ | (first | exact Nat.le_refl _ | omega | (simp; done) | (simp; omega) | (unfold World.setCell; simp; done) | (unfold World.setCell; simp; omega))))); have ht5 := HT5.size)
                  | (go_at_call 34; ((with_reducible refine (rCmp_eq (.agg #[.bool ngA, .slice aoA nA capA]) (.agg #[.bool ngB, .slice aoB nB capB]) ((z1.tmod z2).natAbs : Int) (z2.natAbs : Int) (-1) _ HCM (HVA.out.mono ?_) (HVB.out.mono ?_)).mono ?_); ((repeat' (first | with_reducible assumption | with_reducible exact Below.refl _ _ | with_reducible refine Below.drew ?_ | with_reducible refine Below.alloc ?_ ?_ _ | with_reducible refine Below.setCell ?_ ?_ _ | with_reducible refine Below.step ?_ he9 ?_ | with_reducible refine Below.step ?_ he8 ?_ | with_reducible refine Below.step ?_ he7 ?_ | with_reducible refine Below.step ?_ he6 ?_ | with_reducible refine Below.step ?_ he5 ?_ | with_reducible refine Below.step ?_ he4 ?_ | with_reducible refine Below.step ?_ he3 ?_ | with_reducible refine Below.step ?_ he2 ?_ | with_reducible refine Below.step ?_ he1 ?_ | (first | exact Nat.le_refl _ | omega | (simp; done) | (simp; omega) | (unfold World.setCell; simp; done) | (unfold World.setCell; simp; omega))))); ((repeat' (first | with_reducible assumption | with_reducible exact Below.refl _ _ | with_reducible refine Below.drew ?_ | with_reducible refine Below.alloc ?_ ?_ _ | with_reducible refine Below.setCell ?_ ?_ _ | with_reducible refine Below.step ?_ he9 ?_ | with_reducible refine Below.step ?_ he8 ?_ | with_reducible refine Below.step ?_ he7 ?_ | with_reducible refine Below.step ?_ he6 ?_ | with_reducible refine Below.step ?_ he5 ?_ | with_reducible refine Below.step ?_ he4 ?_ | with_reducible refine Below.step ?_ he3 ?_ | with_reducible refine Below.step ?_ he2 ?_ | with_reducible refine Below.step ?_ he1 ?_ | (first | exact Nat.le_refl _ | omega | (simp; done) | (simp; omega) | (unfold World.setCell; simp; done) | (unfold World.setCell; simp; omega)))))); rintro e t6 ⟨rfl, he6⟩; have HT6 : Below w9.heap.size w9 t6 := (by (repeat' (first | with_reducible assumption | with_reducible exact Below.refl _ _ | with_reducible refine Below.drew ?_ | with_reducible refine Below.alloc ?_ ?_ _ | with_reducible refine Below.setCell ?_ ?_ _ | with_reducible refine Below.step ?_ he9 ?_ | with_reducible refine Below.step ?_ he8 ?_ | with_reducible refine Below.step ?_ he7 ?_ | with_reducible refine Below.step ?_ he6 ?_ | with_reducible refine Below.step ?_ he5 ?_ | with_reducible refine Below.step ?_ he4 ?_ | with_reducible refine Below.step ?_ he3 ?_ | with_reducible refine Below.step ?_ he2 ?_ | with_reducible refine Below.step ?_ he1 ?_ | (first | exact Nat.le_refl _ | omega | (simp; done) | (simp; omega) | (unfold World.setCell; simp; done) | (unfold World.setCell; simp; omega))))); have ht6 := HT6.size)
                  | ((fail_if_success (have _t := he7)); go_at_call 19; ((with_reducible refine (rSign_eq (.agg #[.bool ng4, .slice ao4 n4 cap4]) (z1.tmod z2) (1) _ HSR (HV4.out.mono ?_)).mono ?_); ((repeat' (first | with_reducible assumption | with_reducible exact Below.refl _ _ | with_reducible refine Below.drew ?_ | with_reducible refine Below.alloc ?_ ?_ _ | with_reducible refine Below.setCell ?_ ?_ _ | with_reducible refine Below.step ?_ he9 ?_ | with_reducible refine Below.step ?_ he8 ?_ | with_reducible refine Below.step ?_ he7 ?_ | with_reducible refine Below.step ?_ he6 ?_ | with_reducible refine Below.step ?_ he5 ?_ | with_reducible refine Below.step ?_ he4 ?_ | with_reducible refine Below.step ?_ he3 ?_ | with_reducible refine Below.step ?_ he2 ?_ | with_reducible refine Below.step ?_ he1 ?_ | (first | exact Nat.le_refl _ | omega | (simp; done) | (simp; omega) | (unfold World.setCell; simp; done) | (unfold World.setCell; simp; omega)))))); rintro e t7 ⟨rfl, he7⟩; have HT7 : Below w9.heap.size w9 t7 := (by (repeat' (first | with_reducible assumption | with_reducible exact Below.refl _ _ | with_reducible refine Below.drew ?_ | with_reducible refine Below.alloc ?_ ?_ _ | with_reducible refine Below.setCell ?_ ?_ _ | with_reducible refine Below.step ?_ he9 ?_ | with_reducible refine Below.step ?_ he8 ?_ | with_reducible refine Below.step ?_ he7 ?_ | with_reducible refine Below.step ?_ he6 ?_ | with_reducible refine Below.step ?_ he5 ?_ | with_reducible refine Below.step ?_ he4 ?_ | with_reducible refine Below.step ?_ he3 ?_ | with_reducible refine Below.step ?_ he2 ?_ | with_reducible refine Below.step ?_ he1 ?_ | (first | exact Nat.le_refl _ | omega | (simp; done) | (simp; omega) | (unfold World.setCell; simp; done) | (unfold World.setCell; simp; omega))))); have ht7 := HT7.size)
                  | ((fail_if_success (have _t := he8)); go_at_call 19; ((with_reducible refine (rSign_eq (.agg #[.bool ng4, .slice ao4 n4 cap4]) (z1.tmod z2) (1) _ HSR (HV4.out.mono ?_)).mono ?_); ((repeat' (first | with_reducible assumption | with_reducible exact Below.refl _ _ | with_reducible refine Below.drew ?_ | with_reducible refine Below.alloc ?_ ?_ _ | with_reducible refine Below.setCell ?_ ?_ _ | with_reducible refine Below.step ?_ he9 ?_ | with_reducible refine Below.step ?_ he8 ?_ | with_reducible refine Below.step ?_ he7 ?_ | with_reducible refine Below.step ?_ he6 ?_ | with_reducible refine Below.step ?_ he5 ?_ | with_reducible refine Below.step ?_ he4 ?_ | with_reducible refine Below.step ?_ he3 ?_ | with_reducible refine Below.step ?_ he2 ?_ | with_reducible refine Below.step ?_ he1 ?_ | (first | exact Nat.le_refl _ | omega | (simp; done) | (simp; omega) | (unfold World.setCell; simp; done) | (unfold World.setCell; simp; omega)))))); rintro e t8 ⟨rfl, he8⟩; have HT8 : Below w9.heap.size w9 t8 := (by (repeat' (first | with_reducible assumption | with_reducible exact Below.refl _ _ | with_reducible refine Below.drew ?_ | with_reducible refine Below.alloc ?_ ?_ _ | with_reducible refine Below.setCell ?_ ?_ _ | with_reducible refine Below.step ?_ he9 ?_ | with_reducible refine Below.step ?_ he8 ?_ | with_reducible refine Below.step ?_ he7 ?_ | with_reducible refine Below.step ?_ he6 ?_ | with_reducible refine Below.step ?_ he5 ?_ | with_reducible refine Below.step ?_ he4 ?_ | with_reducible refine Below.step ?_ he3 ?_ | with_reducible refine Below.step ?_ he2 ?_ | with_reducible refine Below.step ?_ he1 ?_ | (first | exact Nat.le_refl _ | omega | (simp; done) | (simp; omega) | (unfold World.setCell; simp; done) | (unfold World.setCell; simp; omega))))); have ht8 := HT8.size)
                  | (go_at_call 19; ((with_reducible refine (rSign_eq (.agg #[.bool ng1, .slice ao1 n1 cap1]) z1 (1) _ HSA (HV1.out.mono ?_)).mono ?_); ((repeat' (first | with_reducible assumption | with_reducible exact Below.refl _ _ | with_reducible refine Below.drew ?_ | with_reducible refine Below.alloc ?_ ?_ _ | with_reducible refine Below.setCell ?_ ?_ _ | with_reducible refine Below.step ?_ he9 ?_ | with_reducible refine Below.step ?_ he8 ?_ | with_reducible refine Below.step ?_ he7 ?_ | with_reducible refine Below.step ?_ he6 ?_ | with_reducible refine Below.step ?_ he5 ?_ | with_reducible refine Below.step ?_ he4 ?_ | with_reducible refine Below.step ?_ he3 ?_ | with_reducible refine Below.step ?_ he2 ?_ | with_reducible refine Below.step ?_ he1 ?_ | (first | exact Nat.le_refl _ | omega | (simp; done) | (simp; omega) | (unfold World.setCell; simp; done) | (unfold World.setCell; simp; omega)))))); rintro e t9 ⟨rfl, he9⟩; have HT9 : Below w9.heap.size w9 t9 := (by (repeat' (first | with_reducible assumption | with_reducible exact Below.refl _ _ | with_reducible refine Below.drew ?_ | with_reducible refine Below.alloc ?_ ?_ _ | with_reducible refine Below.setCell ?_ ?_ _ | with_reducible refine Below.step ?_ he9 ?_ | with_reducible refine Below.step ?_ he8 ?_ | with_reducible refine Below.step ?_ he7 ?_ | with_reducible refine Below.step ?_ he6 ?_ | with_reducible refine Below.step ?_ he5 ?_ | with_reducible refine Below.step ?_ he4 ?_ | with_reducible refine Below.step ?_ he3 ?_ | with_reducible refine Below.step ?_ he2 ?_ | with_reducible refine Below.step ?_ he1 ?_ | (first | exact Nat.le_refl _ | omega | (simp; done) | (simp; omega) | (unfold World.setCell; simp; done) | (unfold World.setCell; simp; omega))))); have ht9 := HT9.size))
              go_wp2
              go_ret
              exact ⟨rfl, Below.step hbw HT9 (Nat.le_refl _)⟩
          · have HSR := Lib.hid hsr
            have HSA := Lib.hid hsa
            clear hsr hsa
            as_aux_lemma =>
              go_region_held3 (fun w' => w'.cell? ⟨g3, 0, none⟩ = some (.bool ng3) ∧ w'.cell? ⟨g3, 1, none⟩ = some (.slice ao3 n3 cap3) ∧ w'.cell? ⟨g4, 0, none⟩ = some (.bool ng4) ∧ w'.cell? ⟨g4, 1, none⟩ = some (.slice ao4 n4 cap4) ∧ w'.cell? ⟨w6.heap.size, 0, none⟩ = some (.bool ng5) ∧ w'.cell? ⟨w6.heap.size, 1, none⟩ = some (.slice ao5 n5 cap5) ∧ w'.cell? ⟨w6.heap.size + 1, 0, none⟩ = some (.bool ng6) ∧ w'.cell? ⟨w6.heap.size + 1, 1, none⟩ = some (.slice ao6 n6 cap6) ∧ w'.cell? ⟨w8.heap.size, 0, none⟩ = some (.bool ng8) ∧ w'.cell? ⟨w8.heap.size, 1, none⟩ = some (.slice ao8 n8 cap8) ∧ w'.cell? ⟨g1, 0, none⟩ = some (.bool ng1) ∧ w'.cell? ⟨g1, 1, none⟩ = some (.slice ao1 n1 cap1) ∧ w'.cell? ⟨g2, 0, none⟩ = some (.bool ng2) ∧ w'.cell? ⟨g2, 1, none⟩ = some (.slice ao2 n2 cap2))
                ((refine S7 X3 X4 X5 X6 X8 X1 X2 ?_; (repeat' (first | with_reducible assumption | with_reducible exact Below.refl _ _ | with_reducible refine Below.drew ?_ | with_reducible refine Below.alloc ?_ ?_ _ | with_reducible refine Below.setCell ?_ ?_ _ | with_reducible refine Below.step ?_ he9 ?_ | with_reducible refine Below.step ?_ he8 ?_ | with_reducible refine Below.step ?_ he7 ?_ | with_reducible refine Below.step ?_ he6 ?_ | with_reducible refine Below.step ?_ he5 ?_ | with_reducible refine Below.step ?_ he4 ?_ | with_reducible refine Below.step ?_ he3 ?_ | with_reducible refine Below.step ?_ he2 ?_ | with_reducible refine Below.step ?_ he1 ?_ | (first | exact Nat.le_refl _ | omega | (simp; done) | (simp; omega) | (unfold World.setCell; simp; done) | (unfold World.setCell; simp; omega))))))
                (first
                  | (go_at_call 16; ((with_reducible refine (eqV_same (z1.tdiv z2) (.agg #[.bool ng3, .slice ao3 n3 cap3]) (.agg #[.bool ng5, .slice ao5 n5 cap5]) _ (HV3.out.mono ?_) (HV5.out.mono ?_)).mono ?_); ((repeat' (first | with_reducible assumption | with_reducible exact Below.refl _ _ | with_reducible refine Below.drew ?_ | with_reducible refine Below.alloc ?_ ?_ _ | with_reducible refine Below.setCell ?_ ?_ _ | with_reducible refine Below.step ?_ he9 ?_ | with_reducible refine Below.step ?_ he8 ?_ | with_reducible refine Below.step ?_ he7 ?_ | with_reducible refine Below.step ?_ he6 ?_ | with_reducible refine Below.step ?_ he5 ?_ | with_reducible refine Below.step ?_ he4 ?_ | with_reducible refine Below.step ?_ he3 ?_ | with_reducible refine Below.step ?_ he2 ?_ | with_reducible refine Below.step ?_ he1 ?_ | (first | exact Nat.le_refl _ | omega | (simp; done) | (simp; omega) | (unfold World.setCell; simp; done) | (unfold World.setCell; simp; omega))))); ((repeat' (first | with_reducible assumption | with_reducible exact Below.refl _ _ | with_reducible refine Below.drew ?_ | with_reducible refine Below.alloc ?_ ?_ _ | with_reducible refine Below.setCell ?_ ?_ _ | with_reducible refine Below.step ?_ he9 ?_ | with_reducible refine Below.step ?_ he8 ?_ | with_reducible refine Below.step ?_ he7 ?_ | with_reducible refine Below.step ?_ he6 ?_ | with_reducible refine Below.step ?_ he5 ?_ | with_reducible refine Below.step ?_ he4 ?_ | with_reducible refine Below.step ?_ he3 ?_ | with_reducible refine Below.step ?_ he2 ?_ | with_reducible refine Below.step ?_ he1 ?_ | (first | exact Nat.le_refl _ | omega | (simp; done) | (simp; omega) | (unfold World.setCell; simp; done) | (unfold World.setCell; simp; omega)))))); rintro e t1 ⟨rfl, he1⟩; have HT1 : Below w9.heap.size w9 t1 := (by (repeat' (first | with_reducible assumption | with_reducible exact Below.refl _ _ | with_reducible refine Below.drew ?_ | with_reducible refine Below.alloc ?_ ?_ _ | with_reducible refine Below.setCell ?_ ?_ _ | with_reducible refine Below.step ?_ he9 ?_ | with_reducible refine Below.step ?_ he8 ?_ | with_reducible refine Below.step ?_ he7 ?_ | with_reducible refine Below.step ?_ he6 ?_ | with_reducible refine Below.step ?_ he5 ?_ | with_reducible refine Below.step ?_ he4 ?_ | with_reducible refine Below.step ?_ he3 ?_ | with_reducible refine Below.step ?_ he2 ?_ | with_reducible refine Below.step ?_ he1 ?_ | (first | exact Nat.le_refl _ | omega | (simp; done) | (simp; omega) | (unfold World.setCell; simp; done) | (unfold World.setCell; simp; omega))))); have ht1 := HT1.size)
                  | (go_at_call 16; ((with_reducible refine (eqV_same (z1.tmod z2) (.agg #[.bool ng4, .slice ao4 n4 cap4]) (.agg #[.bool ng6, .slice ao6 n6 cap6]) _ (HV4.out.mono ?_) (HV6.out.mono ?_)).mono ?_); ((repeat' (first | with_reducible assumption | with_reducible exact Below.refl _ _ | with_reducible refine Below.drew ?_ | with_reducible refine Below.alloc ?_ ?_ _ | with_reducible refine Below.setCell ?_ ?_ _ | with_reducible refine Below.step ?_ he9 ?_ | with_reducible refine Below.step ?_ he8 ?_ | with_reducible refine Below.step ?_ he7 ?_ | with_reducible refine Below.step ?_ he6 ?_ | with_reducible refine Below.step ?_ he5 ?_ | with_reducible refine Below.step ?_ he4 ?_ | with_reducible refine Below.step ?_ he3 ?_ | with_reducible refine Below.step ?_ he2 ?_ | with_reducible refine Below.step ?_ he1 ?_ | (first | exact Nat.le_refl _ | omega | (simp; done) | (simp; omega) | (unfold World.setCell; simp; done) | (unfold World.setCell; simp; omega))))); ((repeat' (first | with_reducible assumption | with_reducible exact Below.refl _ _ | with_reducible refine Below.drew ?_ | with_reducible refine Below.alloc ?_ ?_ _ | with_reducible refine Below.setCell ?_ ?_ _ | with_reducible refine Below.step ?_ he9 ?_ | with_reducible refine Below.step ?_ he8 ?_ | with_reducible refine Below.step ?_ he7 ?_ | with_reducible refine Below.step ?_ he6 ?_ | with_reducible refine Below.step ?_ he5 ?_ | with_reducible refine Below.step ?_ he4 ?_ | with_reducible refine Below.step ?_ he3 ?_ | with_reducible refine Below.step ?_ he2 ?_ | with_reducible refine Below.step ?_ he1 ?_ | (first | exact Nat.le_refl _ | omega | (simp; done) | (simp; omega) | (unfold World.setCell; simp; done) | (unfold World.setCell; simp; omega)))))); rintro e t2 ⟨rfl, he2⟩; have HT2 : Below w9.heap.size w9 t2 := (by (repeat' (first | with_reducible assumption | with_reducible exact Below.refl _ _ | with_reducible refine Below.drew ?_ | with_reducible refine Below.alloc ?_ ?_ _ | with_reducible refine Below.setCell ?_ ?_ _ | with_reducible refine Below.step ?_ he9 ?_ | with_reducible refine Below.step ?_ he8 ?_ | with_reducible refine Below.step ?_ he7 ?_ | with_reducible refine Below.step ?_ he6 ?_ | with_reducible refine Below.step ?_ he5 ?_ | with_reducible refine Below.step ?_ he4 ?_ | with_reducible refine Below.step ?_ he3 ?_ | with_reducible refine Below.step ?_ he2 ?_ | with_reducible refine Below.step ?_ he1 ?_ | (first | exact Nat.le_refl _ | omega | (simp; done) | (simp; omega) | (unfold World.setCell; simp; done) | (unfold World.setCell; simp; omega))))); have ht2 := HT2.size)
                  | (go_at_call 16; ((with_reducible refine (eqV_same z1 (.agg #[.bool ng8, .slice ao8 n8 cap8]) (.agg #[.bool ng1, .slice ao1 n1 cap1]) _ (HV8.out.mono ?_) (HV1.out.mono ?_)).mono ?_); ((repeat' (first | with_reducible assumption | with_reducible exact Below.refl _ _ | with_reducible refine Below.drew ?_ | with_reducible refine Below.alloc ?_ ?_ _ | with_reducible refine Below.setCell ?_ ?_ _ | with_reducible refine Below.step ?_ he9 ?_ | with_reducible refine Below.step ?_ he8 ?_ | with_reducible refine Below.step ?_ he7 ?_ | with_reducible refine Below.step ?_ he6 ?_ | with_reducible refine Below.step ?_ he5 ?_ | with_reducible refine Below.step ?_ he4 ?_ | with_reducible refine Below.step ?_ he3 ?_ | with_reducible refine Below.step ?_ he2 ?_ | with_reducible refine Below.step ?_ he1 ?_ | (first | exact Nat.le_refl _ | omega | (simp; done) | (simp; omega) | (unfold World.setCell; simp; done) | (unfold World.setCell; simp; omega))))); ((repeat' (first | with_reducible assumption | with_reducible exact Below.refl _ _ | with_reducible refine Below.drew ?_ | with_reducible refine Below.alloc ?_ ?_ _ | with_reducible refine Below.setCell ?_ ?_ _ | with_reducible refine Below.step ?_ he9 ?_ | with_reducible refine Below.step ?_ he8 ?_ | with_reducible refine Below.step ?_ he7 ?_ | with_reducible refine Below.step ?_ he6 ?_ | with_reducible refine Below.step ?_ he5 ?_ | with_reducible refine Below.step ?_ he4 ?_ | with_reducible refine Below.step ?_ he3 ?_ | with_reducible refine Below.step ?_ he2 ?_ | with_reducible refine Below.step ?_ he1 ?_ | (first | exact Nat.le_refl _ | omega | (simp; done) | (simp; omega) | (unfold World.setCell; simp; done) | (unfold World.setCell; simp; omega)))))); rintro e t3 ⟨rfl, he3⟩; have HT3 : Below w9.heap.size w9 t3 := (by (repeat' (first | with_reducible assumption | with_reducible exact Below.refl _ _ | with_reducible refine Below.drew ?_ | with_reducible refine Below.alloc ?_ ?_ _ | with_reducible refine Below.setCell ?_ ?_ _ | with_reducible refine Below.step ?_ he9 ?_ | with_reducible refine Below.step ?_ he8 ?_ | with_reducible refine Below.step ?_ he7 ?_ | with_reducible refine Below.step ?_ he6 ?_ | with_reducible refine Below.step ?_ he5 ?_ | with_reducible refine Below.step ?_ he4 ?_ | with_reducible refine Below.step ?_ he3 ?_ | with_reducible refine Below.step ?_ he2 ?_ | with_reducible refine Below.step ?_ he1 ?_ | (first | exact Nat.le_refl _ | omega | (simp; done) | (simp; omega) | (unfold World.setCell; simp; done) | (unfold World.setCell; simp; omega))))); have ht3 := HT3.size)
                  | (go_at_call 35; ((with_reducible refine (abs_any (.agg #[.bool ng4, .slice ao4 n4 cap4]) (z1.tmod z2) _ (HV4.out.mono ?_)).mono ?_); ((repeat' (first | with_reducible assumption | with_reducible exact Below.refl _ _ | with_reducible refine Below.drew ?_ | with_reducible refine Below.alloc ?_ ?_ _ | with_reducible refine Below.setCell ?_ ?_ _ | with_reducible refine Below.step ?_ he9 ?_ | with_reducible refine Below.step ?_ he8 ?_ | with_reducible refine Below.step ?_ he7 ?_ | with_reducible refine Below.step ?_ he6 ?_ | with_reducible refine Below.step ?_ he5 ?_ | with_reducible refine Below.step ?_ he4 ?_ | with_reducible refine Below.step ?_ he3 ?_ | with_reducible refine Below.step ?_ he2 ?_ | with_reducible refine Below.step ?_ he1 ?_ | (first | exact Nat.le_refl _ | omega | (simp; done) | (simp; omega) | (unfold World.setCell; simp; done) | (unfold World.setCell; simp; omega)))))); rintro e t4 ⟨⟨ngA, aoA, nA, capA, rfl, HVA⟩, he4⟩; have HT4 : Below w9.heap.size w9 t4 := (by (repeat' (first | with_reducible assumption | with_reducible exact Below.refl _ _ | with_reducible refine Below.drew ?_ | with_reducible refine Below.alloc ?_ ?_ _ | with_reducible refine Below.setCell ?_ ?_ _ | with_reducible refine Below.step ?_ he9 ?_ | with_reducible refine Below.step ?_ he8 ?_ | with_reducible refine Below.step ?_ he7 ?_ | with_reducible refine Below.step ?_ he6 ?_ | with_reducible refine Below.step ?_ he5 ?_ | with_reducible refine Below.step ?_ he4 ?_ | with_reducible refine Below.step ?_ he3 ?_ | with_reducible refine Below.step ?_ he2 ?_ | with_reducible refine Below.step ?_ he1 ?_ | (first | exact Nat.le_refl _ | omega | (simp; done) | (simp; omega) | (unfold World.setCell; simp; done) | (unfold World.setCell; simp; omega))))); have ht4 := HT4.size)
                  | (go_at_call 35; ((with_reducible refine (abs_any (.agg #[.bool ng2, .slice ao2 n2 cap2]) z2 _ (HV2.out.mono ?_)).mono ?_); ((repeat' (first | with_reducible assumption | with_reducible exact Below.refl _ _ | with_reducible refine Below.drew ?_ | with_reducible refine Below.alloc ?_ ?_ _ | with_reducible refine Below.setCell ?_ ?_ _ | with_reducible refine Below.step ?_ he9 ?_ | with_reducible refine Below.step ?_ he8 ?_ | with_reducible refine Below.step ?_ he7 ?_ | with_reducible refine Below.step ?_ he6 ?_ | with_reducible refine Below.step ?_ he5 ?_ | with_reducible refine Below.step ?_ he4 ?_ | with_reducible refine Below.step ?_ he3 ?_ | with_reducible refine Below.step ?_ he2 ?_ | with_reducible refine Below.step ?_ he1 ?_ | (first | exact Nat.le_refl _ | omega | (simp; done) | (simp; omega) | (unfold World.setCell; simp; done) | (unfold World.setCell; simp; omega)))))); rintro e t5 ⟨⟨ngB, aoB, nB, capB, rfl, HVB⟩, he5⟩; have HT5 : Below w9.heap.size w9 t5 := (by (repeat' (first | with_reducible assumption | with_reducible exact Below.refl _ _ | with_reducible refine Below.drew ?_ | with_reducible refine Below.alloc ?_ ?_ _ | with_reducible refine Below.setCell ?_ ?_ _ | with_reducible refine Below.step ?_ he9 ?_ | with_reducible refine Below.step ?_ he8 ?_ | with_reducible refine Below.step ?_ he7 ?_ | with_reducible refine Below.step ?_ he6 ?_ | with_reducible refine Below.step ?_ he5 ?_ | with_reducible refine Below.step ?_ he4 ?_ | with_reducible refine Below.step ?_ he3 ?_ | with_reducible refine Below.step ?_ he2 ?_ | with_reducible refine Below.step ?_ he1 ?_ | (first | exact Nat.le_refl _ | omega | (simp; done) | (simp; omega) | (unfold World.setCell; simp; done) | (unfold World.setCell; simp; omega))))); have ht5 := HT5.size)
                  | (go_at_call 34; ((with_reducible refine (rCmp_eq (.agg #[.bool ngA, .slice aoA nA capA]) (.agg #[.bool ngB, .slice aoB nB capB]) ((z1.tmod z2).natAbs : Int) (z2.natAbs : Int) (-1) _ HCM (HVA.out.mono ?_) (HVB.out.mono ?_)).mono ?_); ((repeat' (first | with_reducible assumption | with_reducible exact Below.refl _ _ | with_reducible refine Below.drew ?_ | with_reducible refine Below.alloc ?_ ?_ _ | with_reducible refine Below.setCell ?_ ?_ _ | with_reducible refine Below.step ?_ he9 ?_ | with_reducible refine Below.step ?_ he8 ?_ | with_reducible refine Below.step ?_ he7 ?_ | with_reducible refine Below.step ?_ he6 ?_ | with_reducible refine Below.step ?_ he5 ?_ | with_reducible refine Below.step ?_ he4 ?_ | with_reducible refine Below.step ?_ he3 ?_ | with_reducible refine Below.step ?_ he2 ?_ | with_reducible refine Below.step ?_ he1 ?_ | (first | exact Nat.le_refl _ | omega | (simp; done) | (simp; omega) | (unfold World.setCell; simp; done) | (unfold World.setCell; simp; omega))))); ((repeat' (first | with_reducible assumption | with_reducible exact Below.refl _ _ | with_reducible refine Below.drew ?_ | with_reducible refine Below.alloc ?_ ?_ _ | with_reducible refine Below.setCell ?_ ?_ _ | with_reducible refine Below.step ?_ he9 ?_ | with_reducible refine Below.step ?_ he8 ?_ | with_reducible refine Below.step ?_ he7 ?_ | with_reducible refine Below.step ?_ he6 ?_ | with_reducible refine Below.step ?_ he5 ?_ | with_reducible refine Below.step ?_ he4 ?_ | with_reducible refine Below.step ?_ he3 ?_ | with_reducible refine Below.step ?_ he2 ?_ | with_reducible refine Below.step ?_ he1 ?_ | (first | exact Nat.le_refl _ | omega | (simp; done) | (simp; omega) | (unfold World.setCell; simp; done) | (unfold World.setCell; simp; omega)))))); rintro e t6 ⟨rfl, he6⟩; have HT6 : Below w9.heap.size w9 t6 := (by (repeat' (first | with_reducible assumption | with_reducible exact Below.refl _ _ | with_reducible refine Below.drew ?_ | with_reducible refine Below.alloc ?_ ?_ _ | with_reducible refine Below.setCell ?_ ?_ _ | with_reducible refine Below.step ?_ he9 ?_ | with_reducible refine Below.step ?_ he8 ?_ | with_reducible refine Below.step ?_ he7 ?_ | with_reducible refine Below.step ?_ he6 ?_ | with_reducible refine Below.step ?_ he5 ?_ | with_reducible refine Below.step ?_ he4 ?_ | with_reducible refine Below.step ?_ he3 ?_ | with_reducible refine Below.step ?_ he2 ?_ | with_reducible refine Below.step ?_ he1 ?_ | (first | exact Nat.le_refl _ | omega | (simp; done) | (simp; omega) | (unfold World.setCell; simp; done) | (unfold World.setCell; simp; omega))))); have ht6 := HT6.size)
                  | ((fail_if_success (have _t := he7)); go_at_call 19; ((with_reducible refine (rSign_eq (.agg #[.bool ng4, .slice ao4 n4 cap4]) (z1.tmod z2) (-1) _ HSR (HV4.out.mono ?_)).mono ?_); ((repeat' (first | with_reducible assumption | with_reducible exact Below.refl _ _ | with_reducible refine Below.drew ?_ | with_reducible refine Below.alloc ?_ ?_ _ | with_reducible refine Below.setCell ?_ ?_ _ | with_reducible refine Below.step ?_ he9 ?_ | with_reducible refine Below.step ?_ he8 ?_ | with_reducible refine Below.step ?_ he7 ?_ | with_reducible refine Below.step ?_ he6 ?_ | with_reducible refine Below.step ?_ he5 ?_ | with_reducible refine Below.step ?_ he4 ?_ | with_reducible refine Below.step ?_ he3 ?_ | with_reducible refine Below.step ?_ he2 ?_ | with_reducible refine Below.step ?_ he1 ?_ | (first | exact Nat.le_refl _ | omega | (simp; done) | (simp; omega) | (unfold World.setCell; simp; done) | (unfold World.setCell; simp; omega)))))); rintro e t7 ⟨rfl, he7⟩; have HT7 : Below w9.heap.size w9 t7 := (by (repeat' (first | with_reducible assumption | with_reducible exact Below.refl _ _ | with_reducible refine Below.drew ?_ | with_reducible refine Below.alloc ?_ ?_ _ | with_reducible refine Below.setCell ?_ ?_ _ | with_reducible refine Below.step ?_ he9 ?_ | with_reducible refine Below.step ?_ he8 ?_ | with_reducible refine Below.step ?_ he7 ?_ | with_reducible refine Below.step ?_ he6 ?_ | with_reducible refine Below.step ?_ he5 ?_ | with_reducible refine Below.step ?_ he4 ?_ | with_reducible refine Below.step ?_ he3 ?_ | with_reducible refine Below.step ?_ he2 ?_ | with_reducible refine Below.step ?_ he1 ?_ | (first | exact Nat.le_refl _ | omega | (simp; done) | (simp; omega) | (unfold World.setCell; simp; done) | (unfold World.setCell; simp; omega))))); have ht7 := HT7.size)
                  | ((fail_if_success (have _t := he8)); go_at_call 19; ((with_reducible refine (rSign_eq (.agg #[.bool ng4, .slice ao4 n4 cap4]) (z1.tmod z2) (-1) _ HSR (HV4.out.mono ?_)).mono ?_); ((repeat' (first | with_reducible assumption | with_reducible exact Below.refl _ _ | with_reducible refine Below.drew ?_ | with_reducible refine Below.alloc ?_ ?_ _ | with_reducible refine Below.setCell ?_ ?_ _ | with_reducible refine Below.step ?_ he9 ?_ | with_reducible refine Below.step ?_ he8 ?_ | with_reducible refine Below.step ?_ he7 ?_ | with_reducible refine Below.step ?_ he6 ?_ | with_reducible refine Below.step ?_ he5 ?_ | with_reducible refine Below.step ?_ he4 ?_ | with_reducible refine Below.step ?_ he3 ?_ | with_reducible refine Below.step ?_ he2 ?_ | with_reducible refine Below.step ?_ he1 ?_ | (first | exact Nat.le_refl _ | omega | (simp; done) | (simp; omega) | (unfold World.setCell; simp; done) | (unfold World.setCell; simp; omega)))))); rintro e t8 ⟨rfl, he8⟩; have HT8 : Below w9.heap.size w9 t8 := (by (repeat' (first | with_reducible assumption | with_reducible exact Below.refl _ _ | with_reducible refine Below.drew ?_ | with_reducible refine Below.alloc ?_ ?_ _ | with_reducible refine Below.setCell ?_ ?_ _ | with_reducible refine Below.step ?_ he9 ?_ | with_reducible refine Below.step ?_ he8 ?_ | with_reducible refine Below.step ?_ he7 ?_ | with_reducible refine Below.step ?_ he6 ?_ | with_reducible refine Below.step ?_ he5 ?_ | with_reducible refine Below.step ?_ he4 ?_ | with_reducible refine Below.step ?_ he3 ?_ | with_reducible refine Below.step ?_ he2 ?_ | with_reducible refine Below.step ?_ he1 ?_ | (first | exact Nat.le_refl _ | omega | (simp; done) | (simp; omega) | (unfold World.setCell; simp; done) | (unfold World.setCell; simp; omega))))); have ht8 := HT8.size)
                  | (go_at_call 19; ((with_reducible refine (rSign_eq (.agg #[.bool ng1, .slice ao1 n1 cap1]) z1 (-1) _ HSA (HV1.out.mono ?_)).mono ?_); ((repeat' (first | with_reducible assumption | with_reducible exact Below.refl _ _ | with_reducible refine Below.drew ?_ | with_reducible refine Below.alloc ?_ ?_ _ | with_reducible refine Below.setCell ?_ ?_ _ | with_reducible refine Below.step ?_ he9 ?_ | with_reducible refine Below.step ?_ he8 ?_ | with_reducible refine Below.step ?_ he7 ?_ | with_reducible refine Below.step ?_ he6 ?_ | with_reducible refine Below.step ?_ he5 ?_ | with_reducible refine Below.step ?_ he4 ?_ | with_reducible refine Below.step ?_ he3 ?_ | with_reducible refine Below.step ?_ he2 ?_ | with_reducible refine Below.step ?_ he1 ?_ | (first | exact Nat.le_refl _ | omega | (simp; done) | (simp; omega) | (unfold World.setCell; simp; done) | (unfold World.setCell; simp; omega)))))); rintro e t9 ⟨rfl, he9⟩; have HT9 : Below w9.heap.size w9 t9 := (by (repeat' (first | with_reducible assumption | with_reducible exact Below.refl _ _ | with_reducible refine Below.drew ?_ | with_reducible refine Below.alloc ?_ ?_ _ | with_reducible refine Below.setCell ?_ ?_ _ | with_reducible refine Below.step ?_ he9 ?_ | with_reducible refine Below.step ?_ he8 ?_ | with_reducible refine Below.step ?_ he7 ?_ | with_reducible refine Below.step ?_ he6 ?_ | with_reducible refine Below.step ?_ he5 ?_ | with_reducible refine Below.step ?_ he4 ?_ | with_reducible refine Below.step ?_ he3 ?_ | with_reducible refine Below.step ?_ he2 ?_ | with_reducible refine Below.step ?_ he1 ?_ | (first | exact Nat.le_refl _ | omega | (simp; done) | (simp; omega) | (unfold World.setCell; simp; done) | (unfold World.setCell; simp; omega))))); have ht9 := HT9.size))
              go_wp2
              go_ret
              exact ⟨rfl, Below.step hbw HT9 (Nat.le_refl _)⟩

end Go.Proofs.YtijjagofingpdaaDoor
