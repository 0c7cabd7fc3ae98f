import Derived.Test.YtgenhkakcbedaaaGreatDoorFlow4
import Derived.Test.YtgenhkakcbedaaaGreatDoorQB
namespace Go.Proofs.YtgenhkakcbedaaaGreatDoor
open Go.RowKit

/-- the description of a fraction -/
def DraftQ (w : World) (v : Value) : Prop :=
  ∃ (n1 : Bool) (a1 : Option Addr) (l1 c1 : Nat) (n2 : Bool) (a2 : Option Addr) (l2 c2 : Nat), v = .agg #[.bool n1, .slice a1 l1 c1, .bool n2, .slice a2 l2 c2] ∧ DraftV w (.agg #[.bool n1, .slice a1 l1 c1]) ∧ DraftV w (.agg #[.bool n2, .slice a2 l2 c2])

theorem DraftQ.mono {w w' : World} {v : Value} (h : DraftQ w v) (hb : Below w.heap.size w w') : DraftQ w' v := by
  obtain ⟨n1, a1, l1, c1, n2, a2, l2, c2, e, h1, h2⟩ := h
  exact ⟨n1, a1, l1, c1, n2, a2, l2, c2, e, h1.mono hb, h2.mono hb⟩

/-- a box of a fraction has been made -/
def BoxQ (wc : World) (base : Nat) (s : Value) (r : Rat) : Prop :=
  ∃ (g : Nat) (n1 : Bool) (a1 : Option Addr) (l1 c1 : Nat) (n2 : Bool) (a2 : Option Addr) (l2 c2 : Nat), s = .pointer (some ⟨g, 0, none⟩) ∧ base ≤ g ∧ Box4 wc g (.bool n1) (.slice a1 l1 c1) (.bool n2) (.slice a2 l2 c2) ∧
    Hid (IntV wc (.agg #[.bool n1, .slice a1 l1 c1]) r.num) ∧ Hid (IntV wc (.agg #[.bool n2, .slice a2 l2 c2]) (r.den : Int))

theorem Slot4.boxQ {W : World} {base : Nat} {st : Prop} {p : Value} (h : Slot4 W base SomeQ st p) (hs : st) : ∃ r, BoxQ W base p r := by
  obtain ⟨g, n1, a1, l1, c1, n2, a2, l2, c2, e, hg, B, r, hr⟩ := h.at hs (fun _ h => h)
  obtain ⟨m1, b1, k1, d1, m2, b2, k2, d2, e2, h1, h2⟩ := hr
  simp only [Value.agg.injEq, Array.mk.injEq, List.cons.injEq, Value.bool.injEq, Value.slice.injEq, and_true] at e2
  obtain ⟨rfl, ⟨rfl, rfl, rfl⟩, rfl, rfl, rfl, rfl⟩ := e2
  exact ⟨r, g, _, _, _, _, _, _, _, _, e, hg, B, Lib.hid h1, Lib.hid h2⟩

theorem S42 {wx W : World} {n m : Nat} {x0 x1 x2 x3 y0 y1 : Value} (B1 : Box4 wx n x0 x1 x2 x3) (B2 : Box wx m y0 y1) (h : Below wx.heap.size wx W) :
    W.cell? ⟨n, 0, none⟩ = some x0 ∧ W.cell? ⟨n, 1, none⟩ = some x1 ∧ W.cell? ⟨m, 0, none⟩ = some y0 ∧ W.cell? ⟨m, 1, none⟩ = some y1 :=
  ⟨(B1.mono h).c0, (B1.mono h).c1, (B2.mono h).c0, (B2.mono h).c1⟩

set_option maxRecDepth 100000 in
set_option maxHeartbeats 6400000 in
theorem MadeQ (v : Value) (w : World) (hd : DraftQ w v) (hE : Env w) :
    Calls Tryz.prog 21 #[v] w fun e w' => (∃ r, GotR w' r e) ∧ Below w.heap.size w w' := by
  obtain ⟨ng1, ao1, n1, cap1, ng2, ao2, n2, cap2, rfl, D1, D2⟩ := hd
  have hE0 := hE
  have hbw := Below.refl w.heap.size w
  go_enter Tryz.func21, Tryz.ntmps21
  go_upto_region 1 with fail
  obtain ⟨wx, hwx, hszx, X1, X2, hb⟩ := boxes_44 w (.bool ng1) (.slice ao1 n1 cap1) (.bool ng2) (.slice ao2 n2 cap2) 39 (.bool false) (.slice none 0 0) (.bool false) (.slice none 0 0) 29
  rw [← hwx]
  clear hwx
  obtain ⟨v1, rfl⟩ : ∃ v1 : World, v1 = wx := ⟨_, rfl⟩
  have D1 := D1.mono hb
  have D2 := D2.mono hb
  have hE := hE.mono hb
  have hbw := Below.step hbw hb (Nat.le_refl _)
  clear hb
  obtain ⟨cX1_0, cX1_1, cX1_2, cX1_3, _, _, _, _⟩ := id X1
  go_wp2_with fail
  (with_reducible refine (madeV ng2 ao2 n2 cap2 v1 D2).mono ?_)
  rintro e v2 ⟨⟨z2, ngA, aoA, nA, capA, rfl, HVA⟩, hb⟩
  have D1 := D1.mono hb
  have D2 := D2.mono hb
  have X1 := X1.mono hb
  have X2 := X2.mono hb
  have hE := hE.mono hb
  have hbw := Below.step hbw hb (Nat.le_refl _)
  clear hb
  clear cX1_0 cX1_1 cX1_2 cX1_3
  obtain ⟨cX1_0, cX1_1, cX1_2, cX1_3, _, _, _, _⟩ := id X1
  go_wp2_with fail
  (with_reducible refine (abs_any _ z2 v2 HVA.out).mono ?_)
  rintro e v3 ⟨⟨ng3, ao3, n3, cap3, rfl, HV3⟩, hb⟩
  have D1 := D1.mono hb
  have D2 := D2.mono hb
  have X1 := X1.mono hb
  have X2 := X2.mono hb
  have HVA := Lib.hid (HVA.out.mono hb)
  have hE := hE.mono hb
  have hbw := Below.step hbw hb (Nat.le_refl _)
  clear hb
  clear cX1_0 cX1_1 cX1_2 cX1_3
  go_upto_region 2 with fail
  have lX3X1 := X1.lt
  have lX3X2 := X2.lt
  have X3 := Box.new v3 (.bool ng3) (.slice ao3 n3 cap3) 24
  have hb := below_alloc v3 (.cells #[.bool ng3, .slice ao3 n3 cap3] 24)
  generalize v3.alloc (.cells #[.bool ng3, .slice ao3 n3 cap3] 24) = v4 at *
  have D1 := D1.mono hb
  have D2 := D2.mono hb
  have X1 := X1.mono hb
  have X2 := X2.mono hb
  have HVA := Lib.hid (HVA.out.mono hb)
  have HV3 := Lib.hid (HV3.out.mono hb)
  have hE := hE.mono hb
  have hbw := Below.step hbw hb (Nat.le_refl _)
  clear hb
  by_cases hz : z2 = 0
  · obtain ⟨cX3_0, cX3_1, _, _⟩ := id X3
    go_wp2_with fail
    (with_reducible refine (rSign_eq _ (z2.natAbs : Int) 0 v4 (Lib.hid (by rw [hz]; simp [sgnI])) HV3.out).mono ?_)
    rintro e v5 ⟨rfl, hb⟩
    have D1 := D1.mono hb
    have D2 := D2.mono hb
    have X1 := X1.mono hb
    have X2 := X2.mono hb
    have HVA := Lib.hid (HVA.out.mono hb)
    have HV3 := Lib.hid (HV3.out.mono hb)
    have X3 := X3.mono hb
    have hE := hE.mono hb
    have hbw := Below.step hbw hb (Nat.le_refl _)
    clear hb
    clear cX3_0 cX3_1
    obtain ⟨cX3_0, cX3_1, _, _⟩ := id X3
    go_wp2_with fail
    (with_reducible refine (rof_any 1 (by decide) (by decide) v5 hE).mono ?_)
    rintro e v6 ⟨⟨ng5, ao5, n5, cap5, rfl, HV5⟩, hb⟩
    have D1 := D1.mono hb
    have D2 := D2.mono hb
    have X1 := X1.mono hb
    have X2 := X2.mono hb
    have HVA := Lib.hid (HVA.out.mono hb)
    have HV3 := Lib.hid (HV3.out.mono hb)
    have X3 := X3.mono hb
    have hE := hE.mono hb
    have hbw := Below.step hbw hb (Nat.le_refl _)
    clear hb
    clear cX3_0 cX3_1
    obtain ⟨cX3_0, cX3_1, _, _⟩ := id X3
    go_upto_region 4 with fail
    clear cX3_0 cX3_1
    have D1 := D1.put2B X3 (.bool ng5) (.slice ao5 n5 cap5)
    have D2 := D2.put2B X3 (.bool ng5) (.slice ao5 n5 cap5)
    have X1 := X1.other2 (u := .bool ng5) (v := .slice ao5 n5 cap5) (show w.heap.size ≠ v3.heap.size by omega)
    have X2 := X2.other2 (u := .bool ng5) (v := .slice ao5 n5 cap5) (show w.heap.size + 1 ≠ v3.heap.size by omega)
    have HVA := Lib.hid (HVA.out.put2B X3 (.bool ng5) (.slice ao5 n5 cap5))
    have HV3 := Lib.hid (HV3.out.put2B X3 (.bool ng5) (.slice ao5 n5 cap5))
    have HV5 := Lib.hid (HV5.out.put2B X3 (.bool ng5) (.slice ao5 n5 cap5))
    have X3 := X3.set2I (.bool ng5) (.slice ao5 n5 cap5)
    have hbw := Below.put2 hbw (n := v3.heap.size) (by omega) (.bool ng5) (.slice ao5 n5 cap5)
    have hE := hE0.mono hbw
    generalize ((v6.setCell ⟨v3.heap.size, 0, none⟩ (.bool ng5)).setCell ⟨v3.heap.size, 1, none⟩ (.slice ao5 n5 cap5)) = v7 at *
    have HD : Hid ((1 : Int) ≠ 0) := Lib.hid (by decide)
    obtain ⟨wy, rfl⟩ : ∃ wy : World, wy = v7 := ⟨_, rfl⟩
    go_cut [4] (fun s4 wc => (∃ r, BoxQ wc wy.heap.size s4 r) ∧ Below wy.heap.size wy wc)
    case first =>
      refine wp_region_flow (fun L T W => Below wy.heap.size wy W ∧ (L 0 → T 15 = .pointer (some ⟨w.heap.size, 0, none⟩)) ∧ (L 1 → T 16 = .agg #[.bool ng1, .slice ao1 n1 cap1]) ∧ (L 2 → (SomeI) W (T 17)) ∧ (L 3 → (fun W v => IntV W v 1) W (T 18)) ∧ (L 4 → (SomeTQ) W (T 19)) ∧ (L 5 → (SomeTQ) W (T 14)) ∧ (L 6 → (SomeQ) W (T 20)) ∧ (L 7 → T 21 = .int .i64 0) ∧ (L 8 → Slot4 W wy.heap.size (SomeQ) (L 9) (T 4)) ∧ (L 10 → T 5 = .int .i64 0) ∧ (L 9 → L 8)) [15, 16, 17, 18, 19, 14, 20, 21, 4, 5] (by kernel_rfl) (by kernel_rfl) (by kernel_rfl) ?h0 ⟨?s0, ?s1, ?s2, ?s3, ?s4, ?s5, ?s6, ?s7, ?s8, ?s9, ?s10, trivial⟩ ?he ?hm
      case h0 => exact fun T => ⟨(Below.refl _ _).drew, fun h => h.elim, fun h => h.elim, fun h => h.elim, fun h => h.elim, fun h => h.elim, fun h => h.elim, fun h => h.elim, fun h => h.elim, fun h => h.elim, fun h => h.elim, fun h => h.elim⟩
      case hm =>
        rintro L T W hL ⟨hb, f0, f1, f2, f3, f4, f5, f6, f7, f8, f10, c8⟩
        exact ⟨hb, fun _ => f0 (hL _ (by decide)), fun _ => f1 (hL _ (by decide)), fun _ => f2 (hL _ (by decide)), fun _ => f3 (hL _ (by decide)), fun _ => f4 (hL _ (by decide)), fun _ => f5 (hL _ (by decide)), fun _ => f6 (hL _ (by decide)), fun _ => f7 (hL _ (by decide)), fun _ => (f8 (hL _ (by decide))).congr ⟨fun _ => by decide, fun _ => hL _ (by decide)⟩, fun _ => f10 (hL _ (by decide)), fun _ => by decide⟩
      case s0 =>
        rintro L T W hd hn hJ K hK
        have HJ := Lib.hid hJ
        clear hJ
        have hb := HJ.out.1
        simp only [ovr, Act.put, List.setIfInBounds_toArray, List.set_cons_zero, List.set_cons_succ] at hK ⊢
        have HK := Lib.hid hK
        clear hK
        refine wpOp_want rfl rfl ?_
        go_simp
        obtain ⟨hb, f0, f1, f2, f3, f4, f5, f6, f7, f8, f10, c8⟩ := HJ.out
        exact HK.out _ _ ⟨hb, fun _ => rfl, fun h => f1 (h.resolve_left (by decide)), fun h => f2 (h.resolve_left (by decide)), fun h => f3 (h.resolve_left (by decide)), fun h => f4 (h.resolve_left (by decide)), fun h => f5 (h.resolve_left (by decide)), fun h => f6 (h.resolve_left (by decide)), fun h => f7 (h.resolve_left (by decide)), fun h => ((f8 (h.resolve_left (by decide)))).congr ⟨fun h => .inr h, fun h => h.resolve_left (by decide)⟩, fun h => f10 (h.resolve_left (by decide)), fun h => .inr (c8 (h.resolve_left (by decide)))⟩
      case s1 =>
        rintro L T W hd hn hJ K hK
        have HJ := Lib.hid hJ
        clear hJ
        have hb := HJ.out.1
        have e0 := HJ.out.2.1 hd.1
        simp only [ovr, Act.put, List.setIfInBounds_toArray, List.set_cons_zero, List.set_cons_succ, e0] at hK ⊢
        have HK := Lib.hid hK
        clear hK
        obtain ⟨c0, c1, c2, c3⟩ := (fun W => S42 (W := W) X1 X3) W hb
        refine wpOp_want rfl rfl ?_
        go_simp
        obtain ⟨hb, f0, f1, f2, f3, f4, f5, f6, f7, f8, f10, c8⟩ := HJ.out
        exact HK.out _ _ ⟨hb, fun h => f0 (h.resolve_left (by decide)), fun _ => rfl, fun h => f2 (h.resolve_left (by decide)), fun h => f3 (h.resolve_left (by decide)), fun h => f4 (h.resolve_left (by decide)), fun h => f5 (h.resolve_left (by decide)), fun h => f6 (h.resolve_left (by decide)), fun h => f7 (h.resolve_left (by decide)), fun h => ((f8 (h.resolve_left (by decide)))).congr ⟨fun h => .inr h, fun h => h.resolve_left (by decide)⟩, fun h => f10 (h.resolve_left (by decide)), fun h => .inr (c8 (h.resolve_left (by decide)))⟩
      case s2 =>
        rintro L T W hd hn hJ K hK
        have HJ := Lib.hid hJ
        clear hJ
        have hb := HJ.out.1
        have e1 := HJ.out.2.2.1 hd.1
        simp only [ovr, Act.put, List.setIfInBounds_toArray, List.set_cons_zero, List.set_cons_succ, e1] at hK ⊢
        have HK := Lib.hid hK
        clear hK
        refine wpOp_want rfl rfl ?_
        go_simp
        (with_reducible refine (madeV ng1 ao1 n1 cap1 _ (D1.mono hb)).mono ?_)
        rintro e w1 ⟨⟨zN, ngN, aoN, nN, capN, rfl, HVN⟩, hb1⟩
        have hr : SomeI w1 (.agg #[.bool ngN, .slice aoN nN capN]) := ⟨zN, HVN.out⟩
        dsimp only
        obtain ⟨hb, f0, f1, f2, f3, f4, f5, f6, f7, f8, f10, c8⟩ := HJ.out
        exact HK.out _ _ ⟨Below.step hb hb1 (Nat.le_refl _), fun h => f0 (h.resolve_left (by decide)), fun h => f1 (h.resolve_left (by decide)), fun _ => hr, fun h => (stay4_int 1).mono (f3 (h.resolve_left (by decide))) hb1, fun h => (stay4_someTQ).mono (f4 (h.resolve_left (by decide))) hb1, fun h => (stay4_someTQ).mono (f5 (h.resolve_left (by decide))) hb1, fun h => (stay4_someQ).mono (f6 (h.resolve_left (by decide))) hb1, fun h => f7 (h.resolve_left (by decide)), fun h => ((f8 (h.resolve_left (by decide))).mono (stay4_someQ) hb1).congr ⟨fun h => .inr h, fun h => h.resolve_left (by decide)⟩, fun h => f10 (h.resolve_left (by decide)), fun h => .inr (c8 (h.resolve_left (by decide)))⟩
      case s3 =>
        rintro L T W hd hn hJ K hK
        have HJ := Lib.hid hJ
        clear hJ
        have hb := HJ.out.1
        obtain ⟨c0, c1, c2, c3⟩ := S42 X1 X3 hb
        simp only [ovr, Act.put, List.setIfInBounds_toArray, List.set_cons_zero, List.set_cons_succ] at hK ⊢
        have HK := Lib.hid hK
        clear hK
        refine wpOp_want rfl rfl ?_
        go_simp
        obtain ⟨hb, f0, f1, f2, f3, f4, f5, f6, f7, f8, f10, c8⟩ := HJ.out
        exact HK.out _ _ ⟨hb, fun h => f0 (h.resolve_left (by decide)), fun h => f1 (h.resolve_left (by decide)), fun h => f2 (h.resolve_left (by decide)), fun _ => HV5.out.mono hb, fun h => f4 (h.resolve_left (by decide)), fun h => f5 (h.resolve_left (by decide)), fun h => f6 (h.resolve_left (by decide)), fun h => f7 (h.resolve_left (by decide)), fun h => ((f8 (h.resolve_left (by decide)))).congr ⟨fun h => .inr h, fun h => h.resolve_left (by decide)⟩, fun h => f10 (h.resolve_left (by decide)), fun h => .inr (c8 (h.resolve_left (by decide)))⟩
      case s4 =>
        rintro L T W hd hn hJ K hK
        have HJ := Lib.hid hJ
        clear hJ
        have hb := HJ.out.1
        have r2 := HJ.out.2.2.2.1 hd.1
        have r3 := HJ.out.2.2.2.2.1 hd.2.1
        simp only [ovr, Act.put, List.setIfInBounds_toArray, List.set_cons_zero, List.set_cons_succ] at hK ⊢
        have HK := Lib.hid hK
        clear hK
        refine wpOp_want rfl rfl ?_
        go_simp
        obtain ⟨zN, hz1⟩ := r2
        (with_reducible refine (rMake_ok _ _ zN 1 _ hz1 r3 HD (hE.mono hb)).mono ?_)
        rintro e w1 ⟨⟨nga, aoa, na, capa, ngb, aob, nb, capb, rfl, HVa, HVb⟩, hb1⟩
        have hr : SomeTQ w1 (.tuple #[.agg #[.bool nga, .slice aoa na capa, .bool ngb, .slice aob nb capb], .int .i64 0]) := ⟨_, rfl, _, RatV.mk' HVa HVb⟩
        dsimp only
        obtain ⟨hb, f0, f1, f2, f3, f4, f5, f6, f7, f8, f10, c8⟩ := HJ.out
        exact HK.out _ _ ⟨Below.step hb hb1 (Nat.le_refl _), fun h => f0 (h.resolve_left (by decide)), fun h => f1 (h.resolve_left (by decide)), fun h => (stay4_someI).mono (f2 (h.resolve_left (by decide))) hb1, fun h => (stay4_int 1).mono (f3 (h.resolve_left (by decide))) hb1, fun _ => hr, fun h => (stay4_someTQ).mono (f5 (h.resolve_left (by decide))) hb1, fun h => (stay4_someQ).mono (f6 (h.resolve_left (by decide))) hb1, fun h => f7 (h.resolve_left (by decide)), fun h => ((f8 (h.resolve_left (by decide))).mono (stay4_someQ) hb1).congr ⟨fun h => .inr h, fun h => h.resolve_left (by decide)⟩, fun h => f10 (h.resolve_left (by decide)), fun h => .inr (c8 (h.resolve_left (by decide)))⟩
      case s5 =>
        rintro L T W hd hn hJ K hK
        have HJ := Lib.hid hJ
        clear hJ
        have hb := HJ.out.1
        have r4 := HJ.out.2.2.2.2.2.1 hd.1
        simp only [ovr, Act.put, List.setIfInBounds_toArray, List.set_cons_zero, List.set_cons_succ] at hK ⊢
        have HK := Lib.hid hK
        clear hK
        refine wpOp_want rfl rfl ?_
        go_simp
        obtain ⟨hb, f0, f1, f2, f3, f4, f5, f6, f7, f8, f10, c8⟩ := HJ.out
        exact HK.out _ _ ⟨hb, fun h => f0 (h.resolve_left (by decide)), fun h => f1 (h.resolve_left (by decide)), fun h => f2 (h.resolve_left (by decide)), fun h => f3 (h.resolve_left (by decide)), fun h => f4 (h.resolve_left (by decide)), fun _ => r4, fun h => f6 (h.resolve_left (by decide)), fun h => f7 (h.resolve_left (by decide)), fun h => ((f8 (h.resolve_left (by decide)))).congr ⟨fun h => .inr h, fun h => h.resolve_left (by decide)⟩, fun h => f10 (h.resolve_left (by decide)), fun h => .inr (c8 (h.resolve_left (by decide)))⟩
      case s6 =>
        rintro L T W hd hn hJ K hK
        have HJ := Lib.hid hJ
        clear hJ
        have hb := HJ.out.1
        have r5 := HJ.out.2.2.2.2.2.2.1 hd.1
        obtain ⟨a, ev, hq⟩ := r5
        simp only [ovr, Act.put, List.setIfInBounds_toArray, List.set_cons_zero, List.set_cons_succ, ev] at hK ⊢
        have HK := Lib.hid hK
        clear hK
        refine wpOp_want rfl rfl ?_
        go_simp
        obtain ⟨hb, f0, f1, f2, f3, f4, f5, f6, f7, f8, f10, c8⟩ := HJ.out
        exact HK.out _ _ ⟨hb, fun h => f0 (h.resolve_left (by decide)), fun h => f1 (h.resolve_left (by decide)), fun h => f2 (h.resolve_left (by decide)), fun h => f3 (h.resolve_left (by decide)), fun h => f4 (h.resolve_left (by decide)), fun h => f5 (h.resolve_left (by decide)), fun _ => hq, fun h => f7 (h.resolve_left (by decide)), fun h => ((f8 (h.resolve_left (by decide)))).congr ⟨fun h => .inr h, fun h => h.resolve_left (by decide)⟩, fun h => f10 (h.resolve_left (by decide)), fun h => .inr (c8 (h.resolve_left (by decide)))⟩
      case s7 =>
        rintro L T W hd hn hJ K hK
        have HJ := Lib.hid hJ
        clear hJ
        have hb := HJ.out.1
        have r5 := HJ.out.2.2.2.2.2.2.1 hd.1
        obtain ⟨a, ev, hq⟩ := r5
        simp only [ovr, Act.put, List.setIfInBounds_toArray, List.set_cons_zero, List.set_cons_succ, ev] at hK ⊢
        have HK := Lib.hid hK
        clear hK
        refine wpOp_want rfl rfl ?_
        go_simp
        obtain ⟨hb, f0, f1, f2, f3, f4, f5, f6, f7, f8, f10, c8⟩ := HJ.out
        exact HK.out _ _ ⟨hb, fun h => f0 (h.resolve_left (by decide)), fun h => f1 (h.resolve_left (by decide)), fun h => f2 (h.resolve_left (by decide)), fun h => f3 (h.resolve_left (by decide)), fun h => f4 (h.resolve_left (by decide)), fun h => f5 (h.resolve_left (by decide)), fun h => f6 (h.resolve_left (by decide)), fun _ => rfl, fun h => ((f8 (h.resolve_left (by decide)))).congr ⟨fun h => .inr h, fun h => h.resolve_left (by decide)⟩, fun h => f10 (h.resolve_left (by decide)), fun h => .inr (c8 (h.resolve_left (by decide)))⟩
      case s8 =>
        rintro L T W hd hn hJ K hK
        have HJ := Lib.hid hJ
        clear hJ
        have hb := HJ.out.1
        simp only [ovr, Act.put, List.setIfInBounds_toArray, List.set_cons_zero, List.set_cons_succ] at hK ⊢
        have HK := Lib.hid hK
        clear hK
        refine wpOp_want rfl rfl ?_
        go_simp
        have hb1 := below_alloc W (.cells #[.bool false, .slice none 0 0, .bool false, .slice none 0 0] 29)
        obtain ⟨hb, f0, f1, f2, f3, f4, f5, f6, f7, f8, f10, c8⟩ := HJ.out
        exact HK.out _ _ ⟨Below.step hb hb1 (Nat.le_refl _), fun h => f0 (h.resolve_left (by decide)), fun h => f1 (h.resolve_left (by decide)), fun h => (stay4_someI).mono (f2 (h.resolve_left (by decide))) hb1, fun h => (stay4_int 1).mono (f3 (h.resolve_left (by decide))) hb1, fun h => (stay4_someTQ).mono (f4 (h.resolve_left (by decide))) hb1, fun h => (stay4_someTQ).mono (f5 (h.resolve_left (by decide))) hb1, fun h => (stay4_someQ).mono (f6 (h.resolve_left (by decide))) hb1, fun h => f7 (h.resolve_left (by decide)), fun _ => Slot4.new W (fun h => hn (c8 (h.resolve_left (by decide)))) _ hb.size, fun h => f10 (h.resolve_left (by decide)), fun _ => .inl (by decide)⟩
      case s9 =>
        rintro L T W hd hn hJ K hK
        have HJ := Lib.hid hJ
        clear hJ
        have hb := HJ.out.1
        have r6 := HJ.out.2.2.2.2.2.2.2.1 hd.2.1
        have r4 := HJ.out.2.2.2.2.2.1 hd.2.2.1
        have e0 := HJ.out.2.1 hd.2.2.2.1
        have e1 := HJ.out.2.2.1 hd.2.2.2.2.1
        have r2 := HJ.out.2.2.2.1 hd.2.2.2.2.2.1
        have r3 := HJ.out.2.2.2.2.1 hd.2.2.2.2.2.2.1
        have r5 := HJ.out.2.2.2.2.2.2.1 hd.2.2.2.2.2.2.2.2.1
        have da := hd.1
        have hr := r6
        obtain ⟨m, em, hm1, hm2, hB⟩ := (HJ.out.2.2.2.2.2.2.2.2.2.1 da).open hn
        obtain ⟨ng, ao, nn, cap, ng2, ao2, nn2, cap2, ev⟩ := SomeQ.parts hr
        rw [ev] at hr
        obtain ⟨b0, b1, b2, b3, b4, b5, b6, b7⟩ := id hB
        simp only [ovr, Act.put, List.setIfInBounds_toArray, List.set_cons_zero, List.set_cons_succ, e0, e1, em, ev] at hK ⊢
        have HK := Lib.hid hK
        clear hK
        refine wpOp_want rfl rfl ?_
        go_simp
        obtain ⟨hb, f0, f1, f2, f3, f4, f5, f6, f7, f8, f10, c8⟩ := HJ.out
        exact HK.out undef _ ⟨Below.put4 hb hm1 _ _ _ _, fun h => f0 (h.resolve_left (by decide)), fun h => f1 (h.resolve_left (by decide)), fun h => (stay4_someI).put (f2 (h.resolve_left (by decide))) hB, fun h => (stay4_int 1).put (f3 (h.resolve_left (by decide))) hB, fun h => (stay4_someTQ).put (f4 (h.resolve_left (by decide))) hB, fun h => (stay4_someTQ).put (f5 (h.resolve_left (by decide))) hB, fun h => (stay4_someQ).put (f6 (h.resolve_left (by decide))) hB, fun h => f7 (h.resolve_left (by decide)), fun h => by show Slot4 _ _ _ _ (T 4); rw [em]; exact Slot4.stored (stay4_someQ) hm1 hB (.inl (by decide)) hr, fun h => f10 (h.resolve_left (by decide)), fun _ => .inr da⟩
      case s10 =>
        rintro L T W hd hn hJ K hK
        have HJ := Lib.hid hJ
        clear hJ
        have hb := HJ.out.1
        have e7 := HJ.out.2.2.2.2.2.2.2.2.1 hd.1
        have e0 := HJ.out.2.1 hd.2.2.1
        have e1 := HJ.out.2.2.1 hd.2.2.2.1
        have r2 := HJ.out.2.2.2.1 hd.2.2.2.2.1
        have r3 := HJ.out.2.2.2.2.1 hd.2.2.2.2.2.1
        have r4 := HJ.out.2.2.2.2.2.1 hd.2.2.2.2.2.2.1
        have r5 := HJ.out.2.2.2.2.2.2.1 hd.2.2.2.2.2.2.2.1
        have r6 := HJ.out.2.2.2.2.2.2.2.1 hd.2.2.2.2.2.2.2.2.1
        simp only [ovr, Act.put, List.setIfInBounds_toArray, List.set_cons_zero, List.set_cons_succ, e7, e0, e1] at hK ⊢
        have HK := Lib.hid hK
        clear hK
        refine wpOp_want rfl rfl ?_
        go_simp
        obtain ⟨hb, f0, f1, f2, f3, f4, f5, f6, f7, f8, f10, c8⟩ := HJ.out
        exact HK.out _ _ ⟨hb, fun h => f0 (h.resolve_left (by decide)), fun h => f1 (h.resolve_left (by decide)), fun h => f2 (h.resolve_left (by decide)), fun h => f3 (h.resolve_left (by decide)), fun h => f4 (h.resolve_left (by decide)), fun h => f5 (h.resolve_left (by decide)), fun h => f6 (h.resolve_left (by decide)), fun h => f7 (h.resolve_left (by decide)), fun h => ((f8 (h.resolve_left (by decide)))).congr ⟨fun h => .inr h, fun h => h.resolve_left (by decide)⟩, fun _ => rfl, fun h => .inr (c8 (h.resolve_left (by decide)))⟩
      case he =>
        rintro T W ⟨hb, f0, f1, f2, f3, f4, f5, f6, f7, f8, f10, c8⟩
        simp only [ovr, List.setIfInBounds_toArray, List.set_cons_zero, List.set_cons_succ]
        obtain ⟨r, hr⟩ := (f8 (by decide)).boxQ (by decide)
        go_wp2_with fail
        go_meet
        exact ⟨⟨r, hr⟩, hb⟩
    case rest =>
      obtain ⟨⟨r, g9, ng7, ao7, n7, cap7, ng8, ao8, n8, cap8, rfl, hg9, X9, HV7, HV8⟩, hb⟩ := hcut
      have D1 := D1.mono hb
      have D2 := D2.mono hb
      have X1 := X1.mono hb
      have X2 := X2.mono hb
      have HVA := Lib.hid (HVA.out.mono hb)
      have HV3 := Lib.hid (HV3.out.mono hb)
      have X3 := X3.mono hb
      have HV5 := Lib.hid (HV5.out.mono hb)
      have hE := hE.mono hb
      have hbw := Below.step hbw hb (Nat.le_refl _)
      clear hb
      obtain ⟨cX9_0, cX9_1, cX9_2, cX9_3, _, _, _, _⟩ := id X9
      obtain ⟨cX2_0, cX2_1, cX2_2, cX2_3, _, _, _, _⟩ := id X2
      go_wp2
      refine bodyPost_ret (v := .agg #[.bool ng7, .slice ao7 n7 cap7, .bool ng8, .slice ao8 n8 cap8]) (by simp [results, Tryz.results21, go_sem, cX2_0, cX2_1, cX2_2, cX2_3]) rfl ⟨⟨r, ng7, ao7, n7, cap7, ng8, ao8, n8, cap8, rfl, Lib.hid (HV7.out.put4B X2 (.bool ng7) (.slice ao7 n7 cap7) (.bool ng8) (.slice ao8 n8 cap8)), Lib.hid (HV8.out.put4B X2 (.bool ng7) (.slice ao7 n7 cap7) (.bool ng8) (.slice ao8 n8 cap8))⟩, Below.put4 hbw (by omega) (.bool ng7) (.slice ao7 n7 cap7) (.bool ng8) (.slice ao8 n8 cap8)⟩
  · obtain ⟨cX3_0, cX3_1, _, _⟩ := id X3
    go_wp2_with fail
    (with_reducible refine (rSign_eq _ (z2.natAbs : Int) 1 v4 (Lib.hid (by unfold sgnI; rw [if_neg (by omega), if_neg (by omega)])) HV3.out).mono ?_)
    rintro e v5 ⟨rfl, hb⟩
    have D1 := D1.mono hb
    have D2 := D2.mono hb
    have X1 := X1.mono hb
    have X2 := X2.mono hb
    have HVA := Lib.hid (HVA.out.mono hb)
    have HV3 := Lib.hid (HV3.out.mono hb)
    have X3 := X3.mono hb
    have hE := hE.mono hb
    have hbw := Below.step hbw hb (Nat.le_refl _)
    clear hb
    clear cX3_0 cX3_1
    go_upto_region 4 with fail
    have HV5 := HV3
    have HD : Hid ((z2.natAbs : Int) ≠ 0) := Lib.hid (by omega)
    obtain ⟨wy, rfl⟩ : ∃ wy : World, wy = v5 := ⟨_, rfl⟩
    go_cut [4] (fun s4 wc => (∃ r, BoxQ wc wy.heap.size s4 r) ∧ Below wy.heap.size wy wc)
    case first =>
      refine wp_region_flow (fun L T W => Below wy.heap.size wy W ∧ (L 0 → T 15 = .pointer (some ⟨w.heap.size, 0, none⟩)) ∧ (L 1 → T 16 = .agg #[.bool ng1, .slice ao1 n1 cap1]) ∧ (L 2 → (SomeI) W (T 17)) ∧ (L 3 → (fun W v => IntV W v (z2.natAbs : Int)) W (T 18)) ∧ (L 4 → (SomeTQ) W (T 19)) ∧ (L 5 → (SomeTQ) W (T 14)) ∧ (L 6 → (SomeQ) W (T 20)) ∧ (L 7 → T 21 = .int .i64 0) ∧ (L 8 → Slot4 W wy.heap.size (SomeQ) (L 9) (T 4)) ∧ (L 10 → T 5 = .int .i64 0) ∧ (L 9 → L 8)) [15, 16, 17, 18, 19, 14, 20, 21, 4, 5] (by kernel_rfl) (by kernel_rfl) (by kernel_rfl) ?h0 ⟨?s0, ?s1, ?s2, ?s3, ?s4, ?s5, ?s6, ?s7, ?s8, ?s9, ?s10, trivial⟩ ?he ?hm
      case h0 => exact fun T => ⟨(Below.refl _ _).drew, fun h => h.elim, fun h => h.elim, fun h => h.elim, fun h => h.elim, fun h => h.elim, fun h => h.elim, fun h => h.elim, fun h => h.elim, fun h => h.elim, fun h => h.elim, fun h => h.elim⟩
      case hm =>
        rintro L T W hL ⟨hb, f0, f1, f2, f3, f4, f5, f6, f7, f8, f10, c8⟩
        exact ⟨hb, fun _ => f0 (hL _ (by decide)), fun _ => f1 (hL _ (by decide)), fun _ => f2 (hL _ (by decide)), fun _ => f3 (hL _ (by decide)), fun _ => f4 (hL _ (by decide)), fun _ => f5 (hL _ (by decide)), fun _ => f6 (hL _ (by decide)), fun _ => f7 (hL _ (by decide)), fun _ => (f8 (hL _ (by decide))).congr ⟨fun _ => by decide, fun _ => hL _ (by decide)⟩, fun _ => f10 (hL _ (by decide)), fun _ => by decide⟩
      case s0 =>
        rintro L T W hd hn hJ K hK
        have HJ := Lib.hid hJ
        clear hJ
        have hb := HJ.out.1
        simp only [ovr, Act.put, List.setIfInBounds_toArray, List.set_cons_zero, List.set_cons_succ] at hK ⊢
        have HK := Lib.hid hK
        clear hK
        refine wpOp_want rfl rfl ?_
        go_simp
        obtain ⟨hb, f0, f1, f2, f3, f4, f5, f6, f7, f8, f10, c8⟩ := HJ.out
        exact HK.out _ _ ⟨hb, fun _ => rfl, fun h => f1 (h.resolve_left (by decide)), fun h => f2 (h.resolve_left (by decide)), fun h => f3 (h.resolve_left (by decide)), fun h => f4 (h.resolve_left (by decide)), fun h => f5 (h.resolve_left (by decide)), fun h => f6 (h.resolve_left (by decide)), fun h => f7 (h.resolve_left (by decide)), fun h => ((f8 (h.resolve_left (by decide)))).congr ⟨fun h => .inr h, fun h => h.resolve_left (by decide)⟩, fun h => f10 (h.resolve_left (by decide)), fun h => .inr (c8 (h.resolve_left (by decide)))⟩
      case s1 =>
        rintro L T W hd hn hJ K hK
        have HJ := Lib.hid hJ
        clear hJ
        have hb := HJ.out.1
        have e0 := HJ.out.2.1 hd.1
        simp only [ovr, Act.put, List.setIfInBounds_toArray, List.set_cons_zero, List.set_cons_succ, e0] at hK ⊢
        have HK := Lib.hid hK
        clear hK
        obtain ⟨c0, c1, c2, c3⟩ := (fun W => S42 (W := W) X1 X3) W hb
        refine wpOp_want rfl rfl ?_
        go_simp
        obtain ⟨hb, f0, f1, f2, f3, f4, f5, f6, f7, f8, f10, c8⟩ := HJ.out
        exact HK.out _ _ ⟨hb, fun h => f0 (h.resolve_left (by decide)), fun _ => rfl, fun h => f2 (h.resolve_left (by decide)), fun h => f3 (h.resolve_left (by decide)), fun h => f4 (h.resolve_left (by decide)), fun h => f5 (h.resolve_left (by decide)), fun h => f6 (h.resolve_left (by decide)), fun h => f7 (h.resolve_left (by decide)), fun h => ((f8 (h.resolve_left (by decide)))).congr ⟨fun h => .inr h, fun h => h.resolve_left (by decide)⟩, fun h => f10 (h.resolve_left (by decide)), fun h => .inr (c8 (h.resolve_left (by decide)))⟩
      case s2 =>
        rintro L T W hd hn hJ K hK
        have HJ := Lib.hid hJ
        clear hJ
        have hb := HJ.out.1
        have e1 := HJ.out.2.2.1 hd.1
        simp only [ovr, Act.put, List.setIfInBounds_toArray, List.set_cons_zero, List.set_cons_succ, e1] at hK ⊢
        have HK := Lib.hid hK
        clear hK
        refine wpOp_want rfl rfl ?_
        go_simp
        (with_reducible refine (madeV ng1 ao1 n1 cap1 _ (D1.mono hb)).mono ?_)
        rintro e w1 ⟨⟨zN, ngN, aoN, nN, capN, rfl, HVN⟩, hb1⟩
        have hr : SomeI w1 (.agg #[.bool ngN, .slice aoN nN capN]) := ⟨zN, HVN.out⟩
        dsimp only
        obtain ⟨hb, f0, f1, f2, f3, f4, f5, f6, f7, f8, f10, c8⟩ := HJ.out
        exact HK.out _ _ ⟨Below.step hb hb1 (Nat.le_refl _), fun h => f0 (h.resolve_left (by decide)), fun h => f1 (h.resolve_left (by decide)), fun _ => hr, fun h => (stay4_int (z2.natAbs : Int)).mono (f3 (h.resolve_left (by decide))) hb1, fun h => (stay4_someTQ).mono (f4 (h.resolve_left (by decide))) hb1, fun h => (stay4_someTQ).mono (f5 (h.resolve_left (by decide))) hb1, fun h => (stay4_someQ).mono (f6 (h.resolve_left (by decide))) hb1, fun h => f7 (h.resolve_left (by decide)), fun h => ((f8 (h.resolve_left (by decide))).mono (stay4_someQ) hb1).congr ⟨fun h => .inr h, fun h => h.resolve_left (by decide)⟩, fun h => f10 (h.resolve_left (by decide)), fun h => .inr (c8 (h.resolve_left (by decide)))⟩
      case s3 =>
        rintro L T W hd hn hJ K hK
        have HJ := Lib.hid hJ
        clear hJ
        have hb := HJ.out.1
        obtain ⟨c0, c1, c2, c3⟩ := S42 X1 X3 hb
        simp only [ovr, Act.put, List.setIfInBounds_toArray, List.set_cons_zero, List.set_cons_succ] at hK ⊢
        have HK := Lib.hid hK
        clear hK
        refine wpOp_want rfl rfl ?_
        go_simp
        obtain ⟨hb, f0, f1, f2, f3, f4, f5, f6, f7, f8, f10, c8⟩ := HJ.out
        exact HK.out _ _ ⟨hb, fun h => f0 (h.resolve_left (by decide)), fun h => f1 (h.resolve_left (by decide)), fun h => f2 (h.resolve_left (by decide)), fun _ => HV5.out.mono hb, fun h => f4 (h.resolve_left (by decide)), fun h => f5 (h.resolve_left (by decide)), fun h => f6 (h.resolve_left (by decide)), fun h => f7 (h.resolve_left (by decide)), fun h => ((f8 (h.resolve_left (by decide)))).congr ⟨fun h => .inr h, fun h => h.resolve_left (by decide)⟩, fun h => f10 (h.resolve_left (by decide)), fun h => .inr (c8 (h.resolve_left (by decide)))⟩
      case s4 =>
        rintro L T W hd hn hJ K hK
        have HJ := Lib.hid hJ
        clear hJ
        have hb := HJ.out.1
        have r2 := HJ.out.2.2.2.1 hd.1
        have r3 := HJ.out.2.2.2.2.1 hd.2.1
        simp only [ovr, Act.put, List.setIfInBounds_toArray, List.set_cons_zero, List.set_cons_succ] at hK ⊢
        have HK := Lib.hid hK
        clear hK
        refine wpOp_want rfl rfl ?_
        go_simp
        obtain ⟨zN, hz1⟩ := r2
        (with_reducible refine (rMake_ok _ _ zN (z2.natAbs : Int) _ hz1 r3 HD (hE.mono hb)).mono ?_)
        rintro e w1 ⟨⟨nga, aoa, na, capa, ngb, aob, nb, capb, rfl, HVa, HVb⟩, hb1⟩
        have hr : SomeTQ w1 (.tuple #[.agg #[.bool nga, .slice aoa na capa, .bool ngb, .slice aob nb capb], .int .i64 0]) := ⟨_, rfl, _, RatV.mk' HVa HVb⟩
        dsimp only
        obtain ⟨hb, f0, f1, f2, f3, f4, f5, f6, f7, f8, f10, c8⟩ := HJ.out
        exact HK.out _ _ ⟨Below.step hb hb1 (Nat.le_refl _), fun h => f0 (h.resolve_left (by decide)), fun h => f1 (h.resolve_left (by decide)), fun h => (stay4_someI).mono (f2 (h.resolve_left (by decide))) hb1, fun h => (stay4_int (z2.natAbs : Int)).mono (f3 (h.resolve_left (by decide))) hb1, fun _ => hr, fun h => (stay4_someTQ).mono (f5 (h.resolve_left (by decide))) hb1, fun h => (stay4_someQ).mono (f6 (h.resolve_left (by decide))) hb1, fun h => f7 (h.resolve_left (by decide)), fun h => ((f8 (h.resolve_left (by decide))).mono (stay4_someQ) hb1).congr ⟨fun h => .inr h, fun h => h.resolve_left (by decide)⟩, fun h => f10 (h.resolve_left (by decide)), fun h => .inr (c8 (h.resolve_left (by decide)))⟩
      case s5 =>
        rintro L T W hd hn hJ K hK
        have HJ := Lib.hid hJ
        clear hJ
        have hb := HJ.out.1
        have r4 := HJ.out.2.2.2.2.2.1 hd.1
        simp only [ovr, Act.put, List.setIfInBounds_toArray, List.set_cons_zero, List.set_cons_succ] at hK ⊢
        have HK := Lib.hid hK
        clear hK
        refine wpOp_want rfl rfl ?_
        go_simp
        obtain ⟨hb, f0, f1, f2, f3, f4, f5, f6, f7, f8, f10, c8⟩ := HJ.out
        exact HK.out _ _ ⟨hb, fun h => f0 (h.resolve_left (by decide)), fun h => f1 (h.resolve_left (by decide)), fun h => f2 (h.resolve_left (by decide)), fun h => f3 (h.resolve_left (by decide)), fun h => f4 (h.resolve_left (by decide)), fun _ => r4, fun h => f6 (h.resolve_left (by decide)), fun h => f7 (h.resolve_left (by decide)), fun h => ((f8 (h.resolve_left (by decide)))).congr ⟨fun h => .inr h, fun h => h.resolve_left (by decide)⟩, fun h => f10 (h.resolve_left (by decide)), fun h => .inr (c8 (h.resolve_left (by decide)))⟩
      case s6 =>
        rintro L T W hd hn hJ K hK
        have HJ := Lib.hid hJ
        clear hJ
        have hb := HJ.out.1
        have r5 := HJ.out.2.2.2.2.2.2.1 hd.1
        obtain ⟨a, ev, hq⟩ := r5
        simp only [ovr, Act.put, List.setIfInBounds_toArray, List.set_cons_zero, List.set_cons_succ, ev] at hK ⊢
        have HK := Lib.hid hK
        clear hK
        refine wpOp_want rfl rfl ?_
        go_simp
        obtain ⟨hb, f0, f1, f2, f3, f4, f5, f6, f7, f8, f10, c8⟩ := HJ.out
        exact HK.out _ _ ⟨hb, fun h => f0 (h.resolve_left (by decide)), fun h => f1 (h.resolve_left (by decide)), fun h => f2 (h.resolve_left (by decide)), fun h => f3 (h.resolve_left (by decide)), fun h => f4 (h.resolve_left (by decide)), fun h => f5 (h.resolve_left (by decide)), fun _ => hq, fun h => f7 (h.resolve_left (by decide)), fun h => ((f8 (h.resolve_left (by decide)))).congr ⟨fun h => .inr h, fun h => h.resolve_left (by decide)⟩, fun h => f10 (h.resolve_left (by decide)), fun h => .inr (c8 (h.resolve_left (by decide)))⟩
      case s7 =>
        rintro L T W hd hn hJ K hK
        have HJ := Lib.hid hJ
        clear hJ
        have hb := HJ.out.1
        have r5 := HJ.out.2.2.2.2.2.2.1 hd.1
        obtain ⟨a, ev, hq⟩ := r5
        simp only [ovr, Act.put, List.setIfInBounds_toArray, List.set_cons_zero, List.set_cons_succ, ev] at hK ⊢
        have HK := Lib.hid hK
        clear hK
        refine wpOp_want rfl rfl ?_
        go_simp
        obtain ⟨hb, f0, f1, f2, f3, f4, f5, f6, f7, f8, f10, c8⟩ := HJ.out
        exact HK.out _ _ ⟨hb, fun h => f0 (h.resolve_left (by decide)), fun h => f1 (h.resolve_left (by decide)), fun h => f2 (h.resolve_left (by decide)), fun h => f3 (h.resolve_left (by decide)), fun h => f4 (h.resolve_left (by decide)), fun h => f5 (h.resolve_left (by decide)), fun h => f6 (h.resolve_left (by decide)), fun _ => rfl, fun h => ((f8 (h.resolve_left (by decide)))).congr ⟨fun h => .inr h, fun h => h.resolve_left (by decide)⟩, fun h => f10 (h.resolve_left (by decide)), fun h => .inr (c8 (h.resolve_left (by decide)))⟩
      case s8 =>
        rintro L T W hd hn hJ K hK
        have HJ := Lib.hid hJ
        clear hJ
        have hb := HJ.out.1
        simp only [ovr, Act.put, List.setIfInBounds_toArray, List.set_cons_zero, List.set_cons_succ] at hK ⊢
        have HK := Lib.hid hK
        clear hK
        refine wpOp_want rfl rfl ?_
        go_simp
        have hb1 := below_alloc W (.cells #[.bool false, .slice none 0 0, .bool false, .slice none 0 0] 29)
        obtain ⟨hb, f0, f1, f2, f3, f4, f5, f6, f7, f8, f10, c8⟩ := HJ.out
        exact HK.out _ _ ⟨Below.step hb hb1 (Nat.le_refl _), fun h => f0 (h.resolve_left (by decide)), fun h => f1 (h.resolve_left (by decide)), fun h => (stay4_someI).mono (f2 (h.resolve_left (by decide))) hb1, fun h => (stay4_int (z2.natAbs : Int)).mono (f3 (h.resolve_left (by decide))) hb1, fun h => (stay4_someTQ).mono (f4 (h.resolve_left (by decide))) hb1, fun h => (stay4_someTQ).mono (f5 (h.resolve_left (by decide))) hb1, fun h => (stay4_someQ).mono (f6 (h.resolve_left (by decide))) hb1, fun h => f7 (h.resolve_left (by decide)), fun _ => Slot4.new W (fun h => hn (c8 (h.resolve_left (by decide)))) _ hb.size, fun h => f10 (h.resolve_left (by decide)), fun _ => .inl (by decide)⟩
      case s9 =>
        rintro L T W hd hn hJ K hK
        have HJ := Lib.hid hJ
        clear hJ
        have hb := HJ.out.1
        have r6 := HJ.out.2.2.2.2.2.2.2.1 hd.2.1
        have r4 := HJ.out.2.2.2.2.2.1 hd.2.2.1
        have e0 := HJ.out.2.1 hd.2.2.2.1
        have e1 := HJ.out.2.2.1 hd.2.2.2.2.1
        have r2 := HJ.out.2.2.2.1 hd.2.2.2.2.2.1
        have r3 := HJ.out.2.2.2.2.1 hd.2.2.2.2.2.2.1
        have r5 := HJ.out.2.2.2.2.2.2.1 hd.2.2.2.2.2.2.2.2.1
        have da := hd.1
        have hr := r6
        obtain ⟨m, em, hm1, hm2, hB⟩ := (HJ.out.2.2.2.2.2.2.2.2.2.1 da).open hn
        obtain ⟨ng, ao, nn, cap, ng2, ao2, nn2, cap2, ev⟩ := SomeQ.parts hr
        rw [ev] at hr
        obtain ⟨b0, b1, b2, b3, b4, b5, b6, b7⟩ := id hB
        simp only [ovr, Act.put, List.setIfInBounds_toArray, List.set_cons_zero, List.set_cons_succ, e0, e1, em, ev] at hK ⊢
        have HK := Lib.hid hK
        clear hK
        refine wpOp_want rfl rfl ?_
        go_simp
        obtain ⟨hb, f0, f1, f2, f3, f4, f5, f6, f7, f8, f10, c8⟩ := HJ.out
        exact HK.out undef _ ⟨Below.put4 hb hm1 _ _ _ _, fun h => f0 (h.resolve_left (by decide)), fun h => f1 (h.resolve_left (by decide)), fun h => (stay4_someI).put (f2 (h.resolve_left (by decide))) hB, fun h => (stay4_int (z2.natAbs : Int)).put (f3 (h.resolve_left (by decide))) hB, fun h => (stay4_someTQ).put (f4 (h.resolve_left (by decide))) hB, fun h => (stay4_someTQ).put (f5 (h.resolve_left (by decide))) hB, fun h => (stay4_someQ).put (f6 (h.resolve_left (by decide))) hB, fun h => f7 (h.resolve_left (by decide)), fun h => by show Slot4 _ _ _ _ (T 4); rw [em]; exact Slot4.stored (stay4_someQ) hm1 hB (.inl (by decide)) hr, fun h => f10 (h.resolve_left (by decide)), fun _ => .inr da⟩
      case s10 =>
        rintro L T W hd hn hJ K hK
        have HJ := Lib.hid hJ
        clear hJ
        have hb := HJ.out.1
        have e7 := HJ.out.2.2.2.2.2.2.2.2.1 hd.1
        have e0 := HJ.out.2.1 hd.2.2.1
        have e1 := HJ.out.2.2.1 hd.2.2.2.1
        have r2 := HJ.out.2.2.2.1 hd.2.2.2.2.1
        have r3 := HJ.out.2.2.2.2.1 hd.2.2.2.2.2.1
        have r4 := HJ.out.2.2.2.2.2.1 hd.2.2.2.2.2.2.1
        have r5 := HJ.out.2.2.2.2.2.2.1 hd.2.2.2.2.2.2.2.1
        have r6 := HJ.out.2.2.2.2.2.2.2.1 hd.2.2.2.2.2.2.2.2.1
        simp only [ovr, Act.put, List.setIfInBounds_toArray, List.set_cons_zero, List.set_cons_succ, e7, e0, e1] at hK ⊢
        have HK := Lib.hid hK
        clear hK
        refine wpOp_want rfl rfl ?_
        go_simp
        obtain ⟨hb, f0, f1, f2, f3, f4, f5, f6, f7, f8, f10, c8⟩ := HJ.out
        exact HK.out _ _ ⟨hb, fun h => f0 (h.resolve_left (by decide)), fun h => f1 (h.resolve_left (by decide)), fun h => f2 (h.resolve_left (by decide)), fun h => f3 (h.resolve_left (by decide)), fun h => f4 (h.resolve_left (by decide)), fun h => f5 (h.resolve_left (by decide)), fun h => f6 (h.resolve_left (by decide)), fun h => f7 (h.resolve_left (by decide)), fun h => ((f8 (h.resolve_left (by decide)))).congr ⟨fun h => .inr h, fun h => h.resolve_left (by decide)⟩, fun _ => rfl, fun h => .inr (c8 (h.resolve_left (by decide)))⟩
      case he =>
        rintro T W ⟨hb, f0, f1, f2, f3, f4, f5, f6, f7, f8, f10, c8⟩
        simp only [ovr, List.setIfInBounds_toArray, List.set_cons_zero, List.set_cons_succ]
        obtain ⟨r, hr⟩ := (f8 (by decide)).boxQ (by decide)
        go_wp2_with fail
        go_meet
        exact ⟨⟨r, hr⟩, hb⟩
    case rest =>
      obtain ⟨⟨r, g9, ng7, ao7, n7, cap7, ng8, ao8, n8, cap8, rfl, hg9, X9, HV7, HV8⟩, hb⟩ := hcut
      have D1 := D1.mono hb
      have D2 := D2.mono hb
      have X1 := X1.mono hb
      have X2 := X2.mono hb
      have HVA := Lib.hid (HVA.out.mono hb)
      have HV3 := Lib.hid (HV3.out.mono hb)
      have X3 := X3.mono hb
      have hE := hE.mono hb
      have hbw := Below.step hbw hb (Nat.le_refl _)
      clear hb
      obtain ⟨cX9_0, cX9_1, cX9_2, cX9_3, _, _, _, _⟩ := id X9
      obtain ⟨cX2_0, cX2_1, cX2_2, cX2_3, _, _, _, _⟩ := id X2
      go_wp2
      refine bodyPost_ret (v := .agg #[.bool ng7, .slice ao7 n7 cap7, .bool ng8, .slice ao8 n8 cap8]) (by simp [results, Tryz.results21, go_sem, cX2_0, cX2_1, cX2_2, cX2_3]) rfl ⟨⟨r, ng7, ao7, n7, cap7, ng8, ao8, n8, cap8, rfl, Lib.hid (HV7.out.put4B X2 (.bool ng7) (.slice ao7 n7 cap7) (.bool ng8) (.slice ao8 n8 cap8)), Lib.hid (HV8.out.put4B X2 (.bool ng7) (.slice ao7 n7 cap7) (.bool ng8) (.slice ao8 n8 cap8))⟩, Below.put4 hbw (by omega) (.bool ng7) (.slice ao7 n7 cap7) (.bool ng8) (.slice ao8 n8 cap8)⟩

end Go.Proofs.YtgenhkakcbedaaaGreatDoor
