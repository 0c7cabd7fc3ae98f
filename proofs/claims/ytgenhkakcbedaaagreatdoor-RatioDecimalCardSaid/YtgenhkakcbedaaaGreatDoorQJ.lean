import Derived.Test.YtgenhkakcbedaaaGreatDoorMadeD
import Derived.Test.YtgenhkakcbedaaaGreatDoorQG
namespace Go.Proofs.YtgenhkakcbedaaaGreatDoor
open Go.RowKit

/-- 'Made' of this description of an integer is z, whenever it is called -/
def FixZ (w : World) (v : Value) (z : Int) : Prop :=
  ∀ w1 : World, Below w.heap.size w w1 → Calls Tryz.prog 67 #[v] w1 fun e w' => (∃ (ng : Bool) (ao : Option Addr) (n cap : Nat), e = .returned (.agg #[.bool ng, .slice ao n cap]) ∧ Hid (IntV w' (.agg #[.bool ng, .slice ao n cap]) z)) ∧ Below w1.heap.size w1 w'

theorem FixZ.run {w : World} {v : Value} {z : Int} (h : FixZ w v z) (w1 : World) (hb : Below w.heap.size w w1) : Calls Tryz.prog 67 #[v] w1 fun e w' => (∃ (ng : Bool) (ao : Option Addr) (n cap : Nat), e = .returned (.agg #[.bool ng, .slice ao n cap]) ∧ Hid (IntV w' (.agg #[.bool ng, .slice ao n cap]) z)) ∧ Below w1.heap.size w1 w' := h w1 hb

theorem FixZ.mono {w w' : World} {v : Value} {z : Int} (h : FixZ w v z) (hb : Below w.heap.size w w') : FixZ w' v z := fun w1 h1 => h w1 (Below.step hb h1 (Nat.le_refl _))

/-- 'Made' of this description of a fraction is r, whenever it is called -/
def FixQ (w : World) (v : Value) (r : Rat) : Prop :=
  ∀ w1 : World, Below w.heap.size w w1 → Env w1 → Calls Tryz.prog 21 #[v] w1 fun e w' => GotR w' r e ∧ Below w1.heap.size w1 w'

theorem FixQ.run {w : World} {v : Value} {r : Rat} (h : FixQ w v r) (w1 : World) (hb : Below w.heap.size w w1) (hE : Env w1) : Calls Tryz.prog 21 #[v] w1 fun e w' => GotR w' r e ∧ Below w1.heap.size w1 w' := h w1 hb hE

theorem FixQ.mono {w w' : World} {v : Value} {r : Rat} (h : FixQ w v r) (hb : Below w.heap.size w w') : FixQ w' v r := fun w1 h1 => h w1 (Below.step hb h1 (Nat.le_refl _))

/-- the fraction r and no error -/
def TupQ (r : Rat) (W : World) (v : Value) : Prop := ∃ a, v = .tuple #[a, .int .i64 0] ∧ RatV W a r
theorem stay4_tupQ (r : Rat) : Stay4 (TupQ r) := ⟨fun ⟨a, e, h⟩ hb => ⟨a, e, h.mono hb⟩, fun ⟨a, e, h⟩ hB => ⟨a, e, h.put4N hB _ _ _ _⟩⟩

theorem Slot4.boxF {W : World} {base : Nat} {st : Prop} {p : Value} {r : Rat} (h : Slot4 W base (fun W v => RatV W v r) st p) (hs : st) : BoxQ W base p r := by
  obtain ⟨g, n1, a1, l1, c1, n2, a2, l2, c2, e, hg, B, hr⟩ := h.at hs (fun _ h => ⟨r, h⟩)
  obtain ⟨m1, b1, k1, d1, m2, b2, k2, d2, e2, h1, h2⟩ := hr
  simp only [Value.agg.injEq, Array.mk.injEq, List.cons.injEq, Value.bool.injEq, Value.slice.injEq, and_true] at e2
  obtain ⟨rfl, ⟨rfl, rfl, rfl⟩, rfl, rfl, rfl, rfl⟩ := e2
  exact ⟨g, _, _, _, _, _, _, _, _, e, hg, B, Lib.hid h1, Lib.hid h2⟩

set_option maxRecDepth 100000 in
set_option maxHeartbeats 6400000 in
theorem MadeQ_z {ng1 : Bool} {ao1 : Option Addr} {n1 cap1 : Nat} {ng2 : Bool} {ao2 : Option Addr} {n2 cap2 : Nat} (z1 z2 : Int) (r : Rat) (w0 w : World) (HR0 : Hid (Rat.divInt z1 (if z2 = 0 then 1 else (z2.natAbs : Int)) = r)) (hw : Below w0.heap.size w0 w) (F1 : FixZ w0 (.agg #[.bool ng1, .slice ao1 n1 cap1]) z1) (F2 : FixZ w0 (.agg #[.bool ng2, .slice ao2 n2 cap2]) z2) (hE : Env w) :
    Calls Tryz.prog 21 #[.agg #[.bool ng1, .slice ao1 n1 cap1, .bool ng2, .slice ao2 n2 cap2]] w fun e w' => GotR w' r e ∧ Below w.heap.size w w' := by
  have hE0 := hE
  have hbw := Below.refl w.heap.size w
  go_enter Tryz.func21, Tryz.ntmps21
  go_upto_region 1 with fail
  obtain ⟨wx, hwx, hszx, X1, X2, hb⟩ := boxes_44 w (.bool ng1) (.slice ao1 n1 cap1) (.bool ng2) (.slice ao2 n2 cap2) 39 (.bool false) (.slice none 0 0) (.bool false) (.slice none 0 0) 29
  rw [← hwx]
  clear hwx
  obtain ⟨v1, rfl⟩ : ∃ v1 : World, v1 = wx := ⟨_, rfl⟩
  have hE := hE.mono hb
  have hbw := Below.step hbw hb (Nat.le_refl _)
  clear hb
  obtain ⟨cX1_0, cX1_1, cX1_2, cX1_3, _, _, _, _⟩ := id X1
  go_wp2_with fail
  (with_reducible refine (F2.run v1 (Below.step hw hbw (Nat.le_refl _))).mono ?_)
  rintro e v2 ⟨⟨ngA, aoA, nA, capA, rfl, HVA⟩, hb⟩
  have X1 := X1.mono hb
  have X2 := X2.mono hb
  have hE := hE.mono hb
  have hbw := Below.step hbw hb (Nat.le_refl _)
  clear hb
  clear cX1_0 cX1_1 cX1_2 cX1_3
  obtain ⟨cX1_0, cX1_1, cX1_2, cX1_3, _, _, _, _⟩ := id X1
  go_wp2_with fail
  (with_reducible refine (abs_any _ z2 v2 HVA.out).mono ?_)
  rintro e v3 ⟨⟨ng3, ao3, n3, cap3, rfl, HV3⟩, hb⟩
  have X1 := X1.mono hb
  have X2 := X2.mono hb
  have HVA := Lib.hid (HVA.out.mono hb)
  have hE := hE.mono hb
  have hbw := Below.step hbw hb (Nat.le_refl _)
  clear hb
  clear cX1_0 cX1_1 cX1_2 cX1_3
  go_upto_region 2 with fail
  have lX3X1 := X1.lt
  have lX3X2 := X2.lt
  have X3 := Box.new v3 (.bool ng3) (.slice ao3 n3 cap3) 24
  have hb := below_alloc v3 (.cells #[.bool ng3, .slice ao3 n3 cap3] 24)
  generalize v3.alloc (.cells #[.bool ng3, .slice ao3 n3 cap3] 24) = v4 at *
  have X1 := X1.mono hb
  have X2 := X2.mono hb
  have HVA := Lib.hid (HVA.out.mono hb)
  have HV3 := Lib.hid (HV3.out.mono hb)
  have hE := hE.mono hb
  have hbw := Below.step hbw hb (Nat.le_refl _)
  clear hb
  by_cases hz : z2 = 0
  · obtain ⟨cX3_0, cX3_1, _, _⟩ := id X3
    go_wp2_with fail
    (with_reducible refine (rSign_eq _ (z2.natAbs : Int) 0 v4 (Lib.hid (by rw [hz]; simp [sgnI])) HV3.out).mono ?_)
    rintro e v5 ⟨rfl, hb⟩
    have X1 := X1.mono hb
    have X2 := X2.mono hb
    have HVA := Lib.hid (HVA.out.mono hb)
    have HV3 := Lib.hid (HV3.out.mono hb)
    have X3 := X3.mono hb
    have hE := hE.mono hb
    have hbw := Below.step hbw hb (Nat.le_refl _)
    clear hb
    clear cX3_0 cX3_1
    obtain ⟨cX3_0, cX3_1, _, _⟩ := id X3
    go_wp2_with fail
    (with_reducible refine (rof_any 1 (by decide) (by decide) v5 hE).mono ?_)
    rintro e v6 ⟨⟨ng5, ao5, n5, cap5, rfl, HV5⟩, hb⟩
    have X1 := X1.mono hb
    have X2 := X2.mono hb
    have HVA := Lib.hid (HVA.out.mono hb)
    have HV3 := Lib.hid (HV3.out.mono hb)
    have X3 := X3.mono hb
    have hE := hE.mono hb
    have hbw := Below.step hbw hb (Nat.le_refl _)
    clear hb
    clear cX3_0 cX3_1
    obtain ⟨cX3_0, cX3_1, _, _⟩ := id X3
    go_upto_region 4 with fail
    clear cX3_0 cX3_1
    have X1 := X1.other2 (u := .bool ng5) (v := .slice ao5 n5 cap5) (show w.heap.size ≠ v3.heap.size by omega)
    have X2 := X2.other2 (u := .bool ng5) (v := .slice ao5 n5 cap5) (show w.heap.size + 1 ≠ v3.heap.size by omega)
    have HVA := Lib.hid (HVA.out.put2B X3 (.bool ng5) (.slice ao5 n5 cap5))
    have HV3 := Lib.hid (HV3.out.put2B X3 (.bool ng5) (.slice ao5 n5 cap5))
    have HV5 := Lib.hid (HV5.out.put2B X3 (.bool ng5) (.slice ao5 n5 cap5))
    have X3 := X3.set2I (.bool ng5) (.slice ao5 n5 cap5)
    have hbw := Below.put2 hbw (n := v3.heap.size) (by omega) (.bool ng5) (.slice ao5 n5 cap5)
    have hE := hE0.mono hbw
    generalize ((v6.setCell ⟨v3.heap.size, 0, none⟩ (.bool ng5)).setCell ⟨v3.heap.size, 1, none⟩ (.slice ao5 n5 cap5)) = v7 at *
    have HD : Hid ((1 : Int) ≠ 0) := Lib.hid (by decide)
    have HR : Hid (Rat.divInt z1 1 = r) := Lib.hid (by rw [← HR0.out, if_pos hz])
    clear hz HR0
    obtain ⟨wy, rfl⟩ : ∃ wy : World, wy = v7 := ⟨_, rfl⟩
    go_cut [4] (fun s4 wc => BoxQ wc wy.heap.size s4 (Rat.divInt z1 1) ∧ Below wy.heap.size wy wc)
    case first =>
      refine wp_region_flow (fun L T W => Below wy.heap.size wy W ∧ (L 0 → T 15 = .pointer (some ⟨w.heap.size, 0, none⟩)) ∧ (L 1 → T 16 = .agg #[.bool ng1, .slice ao1 n1 cap1]) ∧ (L 2 → (fun W v => IntV W v z1) W (T 17)) ∧ (L 3 → (fun W v => IntV W v 1) W (T 18)) ∧ (L 4 → (TupQ (Rat.divInt z1 1)) W (T 19)) ∧ (L 5 → (TupQ (Rat.divInt z1 1)) W (T 14)) ∧ (L 6 → (fun W v => RatV W v (Rat.divInt z1 1)) W (T 20)) ∧ (L 7 → T 21 = .int .i64 0) ∧ (L 8 → Slot4 W wy.heap.size (fun W v => RatV W v (Rat.divInt z1 1)) (L 9) (T 4)) ∧ (L 10 → T 5 = .int .i64 0) ∧ (L 9 → L 8)) [15, 16, 17, 18, 19, 14, 20, 21, 4, 5] (by kernel_rfl) (by kernel_rfl) (by kernel_rfl) ?h0 ⟨?s0, ?s1, ?s2, ?s3, ?s4, ?s5, ?s6, ?s7, ?s8, ?s9, ?s10, trivial⟩ ?he ?hm
      case h0 => exact fun T => ⟨(Below.refl _ _).drew, fun h => h.elim, fun h => h.elim, fun h => h.elim, fun h => h.elim, fun h => h.elim, fun h => h.elim, fun h => h.elim, fun h => h.elim, fun h => h.elim, fun h => h.elim, fun h => h.elim⟩
      case hm =>
        rintro L T W hL ⟨hb, f0, f1, f2, f3, f4, f5, f6, f7, f8, f10, c8⟩
        exact ⟨hb, fun _ => f0 (hL _ (by decide)), fun _ => f1 (hL _ (by decide)), fun _ => f2 (hL _ (by decide)), fun _ => f3 (hL _ (by decide)), fun _ => f4 (hL _ (by decide)), fun _ => f5 (hL _ (by decide)), fun _ => f6 (hL _ (by decide)), fun _ => f7 (hL _ (by decide)), fun _ => (f8 (hL _ (by decide))).congr ⟨fun _ => by decide, fun _ => hL _ (by decide)⟩, fun _ => f10 (hL _ (by decide)), fun _ => by decide⟩
      case s0 =>
        rintro L T W hd hn hJ K hK
        have HJ := Lib.hid hJ
        clear hJ
        have hb := HJ.out.1
        simp only [ovr, Act.put, List.setIfInBounds_toArray, List.set_cons_zero, List.set_cons_succ] at hK ⊢
        have HK := Lib.hid hK
        clear hK
        refine wpOp_want rfl rfl ?_
        go_simp
        obtain ⟨hb, f0, f1, f2, f3, f4, f5, f6, f7, f8, f10, c8⟩ := HJ.out
        exact HK.out _ _ ⟨hb, fun _ => rfl, fun h => f1 (h.resolve_left (by decide)), fun h => f2 (h.resolve_left (by decide)), fun h => f3 (h.resolve_left (by decide)), fun h => f4 (h.resolve_left (by decide)), fun h => f5 (h.resolve_left (by decide)), fun h => f6 (h.resolve_left (by decide)), fun h => f7 (h.resolve_left (by decide)), fun h => ((f8 (h.resolve_left (by decide)))).congr ⟨fun h => .inr h, fun h => h.resolve_left (by decide)⟩, fun h => f10 (h.resolve_left (by decide)), fun h => .inr (c8 (h.resolve_left (by decide)))⟩
      case s1 =>
        rintro L T W hd hn hJ K hK
        have HJ := Lib.hid hJ
        clear hJ
        have hb := HJ.out.1
        have e0 := HJ.out.2.1 hd.1
        simp only [ovr, Act.put, List.setIfInBounds_toArray, List.set_cons_zero, List.set_cons_succ, e0] at hK ⊢
        have HK := Lib.hid hK
        clear hK
        obtain ⟨c0, c1, c2, c3⟩ := (fun W => S42 (W := W) X1 X3) W hb
        refine wpOp_want rfl rfl ?_
        go_simp
        obtain ⟨hb, f0, f1, f2, f3, f4, f5, f6, f7, f8, f10, c8⟩ := HJ.out
        exact HK.out _ _ ⟨hb, fun h => f0 (h.resolve_left (by decide)), fun _ => rfl, fun h => f2 (h.resolve_left (by decide)), fun h => f3 (h.resolve_left (by decide)), fun h => f4 (h.resolve_left (by decide)), fun h => f5 (h.resolve_left (by decide)), fun h => f6 (h.resolve_left (by decide)), fun h => f7 (h.resolve_left (by decide)), fun h => ((f8 (h.resolve_left (by decide)))).congr ⟨fun h => .inr h, fun h => h.resolve_left (by decide)⟩, fun h => f10 (h.resolve_left (by decide)), fun h => .inr (c8 (h.resolve_left (by decide)))⟩
      case s2 =>
        rintro L T W hd hn hJ K hK
        have HJ := Lib.hid hJ
        clear hJ
        have hb := HJ.out.1
        have e1 := HJ.out.2.2.1 hd.1
        simp only [ovr, Act.put, List.setIfInBounds_toArray, List.set_cons_zero, List.set_cons_succ, e1] at hK ⊢
        have HK := Lib.hid hK
        clear hK
        refine wpOp_want rfl rfl ?_
        go_simp
        (with_reducible refine (F1.run _ (Below.step hw (Below.step hbw hb (Nat.le_refl _)) (Nat.le_refl _))).mono ?_)
        rintro e w1 ⟨⟨ngN, aoN, nN, capN, rfl, HVN⟩, hb1⟩
        have hr := HVN.out
        dsimp only
        obtain ⟨hb, f0, f1, f2, f3, f4, f5, f6, f7, f8, f10, c8⟩ := HJ.out
        exact HK.out _ _ ⟨Below.step hb hb1 (Nat.le_refl _), fun h => f0 (h.resolve_left (by decide)), fun h => f1 (h.resolve_left (by decide)), fun _ => hr, fun h => (stay4_int 1).mono (f3 (h.resolve_left (by decide))) hb1, fun h => (stay4_tupQ (Rat.divInt z1 1)).mono (f4 (h.resolve_left (by decide))) hb1, fun h => (stay4_tupQ (Rat.divInt z1 1)).mono (f5 (h.resolve_left (by decide))) hb1, fun h => (stay4_rat (Rat.divInt z1 1)).mono (f6 (h.resolve_left (by decide))) hb1, fun h => f7 (h.resolve_left (by decide)), fun h => ((f8 (h.resolve_left (by decide))).mono (stay4_rat (Rat.divInt z1 1)) hb1).congr ⟨fun h => .inr h, fun h => h.resolve_left (by decide)⟩, fun h => f10 (h.resolve_left (by decide)), fun h => .inr (c8 (h.resolve_left (by decide)))⟩
      case s3 =>
        rintro L T W hd hn hJ K hK
        have HJ := Lib.hid hJ
        clear hJ
        have hb := HJ.out.1
        obtain ⟨c0, c1, c2, c3⟩ := S42 X1 X3 hb
        simp only [ovr, Act.put, List.setIfInBounds_toArray, List.set_cons_zero, List.set_cons_succ] at hK ⊢
        have HK := Lib.hid hK
        clear hK
        refine wpOp_want rfl rfl ?_
        go_simp
        obtain ⟨hb, f0, f1, f2, f3, f4, f5, f6, f7, f8, f10, c8⟩ := HJ.out
        exact HK.out _ _ ⟨hb, fun h => f0 (h.resolve_left (by decide)), fun h => f1 (h.resolve_left (by decide)), fun h => f2 (h.resolve_left (by decide)), fun _ => HV5.out.mono hb, fun h => f4 (h.resolve_left (by decide)), fun h => f5 (h.resolve_left (by decide)), fun h => f6 (h.resolve_left (by decide)), fun h => f7 (h.resolve_left (by decide)), fun h => ((f8 (h.resolve_left (by decide)))).congr ⟨fun h => .inr h, fun h => h.resolve_left (by decide)⟩, fun h => f10 (h.resolve_left (by decide)), fun h => .inr (c8 (h.resolve_left (by decide)))⟩
      case s4 =>
        rintro L T W hd hn hJ K hK
        have HJ := Lib.hid hJ
        clear hJ
        have hb := HJ.out.1
        have r2 := HJ.out.2.2.2.1 hd.1
        have r3 := HJ.out.2.2.2.2.1 hd.2.1
        simp only [ovr, Act.put, List.setIfInBounds_toArray, List.set_cons_zero, List.set_cons_succ] at hK ⊢
        have HK := Lib.hid hK
        clear hK
        refine wpOp_want rfl rfl ?_
        go_simp
        (with_reducible refine (rMake_ok _ _ z1 1 _ r2 r3 HD (hE.mono hb)).mono ?_)
        rintro e w1 ⟨⟨nga, aoa, na, capa, ngb, aob, nb, capb, rfl, HVa, HVb⟩, hb1⟩
        have hr : TupQ (Rat.divInt z1 1) w1 (.tuple #[.agg #[.bool nga, .slice aoa na capa, .bool ngb, .slice aob nb capb], .int .i64 0]) := ⟨_, rfl, RatV.mk' HVa HVb⟩
        dsimp only
        obtain ⟨hb, f0, f1, f2, f3, f4, f5, f6, f7, f8, f10, c8⟩ := HJ.out
        exact HK.out _ _ ⟨Below.step hb hb1 (Nat.le_refl _), fun h => f0 (h.resolve_left (by decide)), fun h => f1 (h.resolve_left (by decide)), fun h => (stay4_int z1).mono (f2 (h.resolve_left (by decide))) hb1, fun h => (stay4_int 1).mono (f3 (h.resolve_left (by decide))) hb1, fun _ => hr, fun h => (stay4_tupQ (Rat.divInt z1 1)).mono (f5 (h.resolve_left (by decide))) hb1, fun h => (stay4_rat (Rat.divInt z1 1)).mono (f6 (h.resolve_left (by decide))) hb1, fun h => f7 (h.resolve_left (by decide)), fun h => ((f8 (h.resolve_left (by decide))).mono (stay4_rat (Rat.divInt z1 1)) hb1).congr ⟨fun h => .inr h, fun h => h.resolve_left (by decide)⟩, fun h => f10 (h.resolve_left (by decide)), fun h => .inr (c8 (h.resolve_left (by decide)))⟩
      case s5 =>
        rintro L T W hd hn hJ K hK
        have HJ := Lib.hid hJ
        clear hJ
        have hb := HJ.out.1
        have r4 := HJ.out.2.2.2.2.2.1 hd.1
        simp only [ovr, Act.put, List.setIfInBounds_toArray, List.set_cons_zero, List.set_cons_succ] at hK ⊢
        have HK := Lib.hid hK
        clear hK
        refine wpOp_want rfl rfl ?_
        go_simp
        obtain ⟨hb, f0, f1, f2, f3, f4, f5, f6, f7, f8, f10, c8⟩ := HJ.out
        exact HK.out _ _ ⟨hb, fun h => f0 (h.resolve_left (by decide)), fun h => f1 (h.resolve_left (by decide)), fun h => f2 (h.resolve_left (by decide)), fun h => f3 (h.resolve_left (by decide)), fun h => f4 (h.resolve_left (by decide)), fun _ => r4, fun h => f6 (h.resolve_left (by decide)), fun h => f7 (h.resolve_left (by decide)), fun h => ((f8 (h.resolve_left (by decide)))).congr ⟨fun h => .inr h, fun h => h.resolve_left (by decide)⟩, fun h => f10 (h.resolve_left (by decide)), fun h => .inr (c8 (h.resolve_left (by decide)))⟩
      case s6 =>
        rintro L T W hd hn hJ K hK
        have HJ := Lib.hid hJ
        clear hJ
        have hb := HJ.out.1
        have r5 := HJ.out.2.2.2.2.2.2.1 hd.1
        obtain ⟨a, ev, hq⟩ := r5
        simp only [ovr, Act.put, List.setIfInBounds_toArray, List.set_cons_zero, List.set_cons_succ, ev] at hK ⊢
        have HK := Lib.hid hK
        clear hK
        refine wpOp_want rfl rfl ?_
        go_simp
        obtain ⟨hb, f0, f1, f2, f3, f4, f5, f6, f7, f8, f10, c8⟩ := HJ.out
        exact HK.out _ _ ⟨hb, fun h => f0 (h.resolve_left (by decide)), fun h => f1 (h.resolve_left (by decide)), fun h => f2 (h.resolve_left (by decide)), fun h => f3 (h.resolve_left (by decide)), fun h => f4 (h.resolve_left (by decide)), fun h => f5 (h.resolve_left (by decide)), fun _ => hq, fun h => f7 (h.resolve_left (by decide)), fun h => ((f8 (h.resolve_left (by decide)))).congr ⟨fun h => .inr h, fun h => h.resolve_left (by decide)⟩, fun h => f10 (h.resolve_left (by decide)), fun h => .inr (c8 (h.resolve_left (by decide)))⟩
      case s7 =>
        rintro L T W hd hn hJ K hK
        have HJ := Lib.hid hJ
        clear hJ
        have hb := HJ.out.1
        have r5 := HJ.out.2.2.2.2.2.2.1 hd.1
        obtain ⟨a, ev, hq⟩ := r5
        simp only [ovr, Act.put, List.setIfInBounds_toArray, List.set_cons_zero, List.set_cons_succ, ev] at hK ⊢
        have HK := Lib.hid hK
        clear hK
        refine wpOp_want rfl rfl ?_
        go_simp
        obtain ⟨hb, f0, f1, f2, f3, f4, f5, f6, f7, f8, f10, c8⟩ := HJ.out
        exact HK.out _ _ ⟨hb, fun h => f0 (h.resolve_left (by decide)), fun h => f1 (h.resolve_left (by decide)), fun h => f2 (h.resolve_left (by decide)), fun h => f3 (h.resolve_left (by decide)), fun h => f4 (h.resolve_left (by decide)), fun h => f5 (h.resolve_left (by decide)), fun h => f6 (h.resolve_left (by decide)), fun _ => rfl, fun h => ((f8 (h.resolve_left (by decide)))).congr ⟨fun h => .inr h, fun h => h.resolve_left (by decide)⟩, fun h => f10 (h.resolve_left (by decide)), fun h => .inr (c8 (h.resolve_left (by decide)))⟩
      case s8 =>
        rintro L T W hd hn hJ K hK
        have HJ := Lib.hid hJ
        clear hJ
        have hb := HJ.out.1
        simp only [ovr, Act.put, List.setIfInBounds_toArray, List.set_cons_zero, List.set_cons_succ] at hK ⊢
        have HK := Lib.hid hK
        clear hK
        refine wpOp_want rfl rfl ?_
        go_simp
        have hb1 := below_alloc W (.cells #[.bool false, .slice none 0 0, .bool false, .slice none 0 0] 29)
        obtain ⟨hb, f0, f1, f2, f3, f4, f5, f6, f7, f8, f10, c8⟩ := HJ.out
        exact HK.out _ _ ⟨Below.step hb hb1 (Nat.le_refl _), fun h => f0 (h.resolve_left (by decide)), fun h => f1 (h.resolve_left (by decide)), fun h => (stay4_int z1).mono (f2 (h.resolve_left (by decide))) hb1, fun h => (stay4_int 1).mono (f3 (h.resolve_left (by decide))) hb1, fun h => (stay4_tupQ (Rat.divInt z1 1)).mono (f4 (h.resolve_left (by decide))) hb1, fun h => (stay4_tupQ (Rat.divInt z1 1)).mono (f5 (h.resolve_left (by decide))) hb1, fun h => (stay4_rat (Rat.divInt z1 1)).mono (f6 (h.resolve_left (by decide))) hb1, fun h => f7 (h.resolve_left (by decide)), fun _ => Slot4.new W (fun h => hn (c8 (h.resolve_left (by decide)))) _ hb.size, fun h => f10 (h.resolve_left (by decide)), fun _ => .inl (by decide)⟩
      case s9 =>
        rintro L T W hd hn hJ K hK
        have HJ := Lib.hid hJ
        clear hJ
        have hb := HJ.out.1
        have r6 := HJ.out.2.2.2.2.2.2.2.1 hd.2.1
        have r4 := HJ.out.2.2.2.2.2.1 hd.2.2.1
        have e0 := HJ.out.2.1 hd.2.2.2.1
        have e1 := HJ.out.2.2.1 hd.2.2.2.2.1
        have r2 := HJ.out.2.2.2.1 hd.2.2.2.2.2.1
        have r3 := HJ.out.2.2.2.2.1 hd.2.2.2.2.2.2.1
        have r5 := HJ.out.2.2.2.2.2.2.1 hd.2.2.2.2.2.2.2.2.1
        have da := hd.1
        have hr := r6
        obtain ⟨m, em, hm1, hm2, hB⟩ := (HJ.out.2.2.2.2.2.2.2.2.2.1 da).open hn
        obtain ⟨ng, ao, nn, cap, ng2, ao2, nn2, cap2, ev⟩ := RatV.parts hr
        rw [ev] at hr
        obtain ⟨b0, b1, b2, b3, b4, b5, b6, b7⟩ := id hB
        simp only [ovr, Act.put, List.setIfInBounds_toArray, List.set_cons_zero, List.set_cons_succ, e0, e1, em, ev] at hK ⊢
        have HK := Lib.hid hK
        clear hK
        refine wpOp_want rfl rfl ?_
        go_simp
        obtain ⟨hb, f0, f1, f2, f3, f4, f5, f6, f7, f8, f10, c8⟩ := HJ.out
        exact HK.out undef _ ⟨Below.put4 hb hm1 _ _ _ _, fun h => f0 (h.resolve_left (by decide)), fun h => f1 (h.resolve_left (by decide)), fun h => (stay4_int z1).put (f2 (h.resolve_left (by decide))) hB, fun h => (stay4_int 1).put (f3 (h.resolve_left (by decide))) hB, fun h => (stay4_tupQ (Rat.divInt z1 1)).put (f4 (h.resolve_left (by decide))) hB, fun h => (stay4_tupQ (Rat.divInt z1 1)).put (f5 (h.resolve_left (by decide))) hB, fun h => (stay4_rat (Rat.divInt z1 1)).put (f6 (h.resolve_left (by decide))) hB, fun h => f7 (h.resolve_left (by decide)), fun h => by show Slot4 _ _ _ _ (T 4); rw [em]; exact Slot4.stored (stay4_rat (Rat.divInt z1 1)) hm1 hB (.inl (by decide)) hr, fun h => f10 (h.resolve_left (by decide)), fun _ => .inr da⟩
      case s10 =>
        rintro L T W hd hn hJ K hK
        have HJ := Lib.hid hJ
        clear hJ
        have hb := HJ.out.1
        have e7 := HJ.out.2.2.2.2.2.2.2.2.1 hd.1
        have e0 := HJ.out.2.1 hd.2.2.1
        have e1 := HJ.out.2.2.1 hd.2.2.2.1
        have r2 := HJ.out.2.2.2.1 hd.2.2.2.2.1
        have r3 := HJ.out.2.2.2.2.1 hd.2.2.2.2.2.1
        have r4 := HJ.out.2.2.2.2.2.1 hd.2.2.2.2.2.2.1
        have r5 := HJ.out.2.2.2.2.2.2.1 hd.2.2.2.2.2.2.2.1
        have r6 := HJ.out.2.2.2.2.2.2.2.1 hd.2.2.2.2.2.2.2.2.1
        simp only [ovr, Act.put, List.setIfInBounds_toArray, List.set_cons_zero, List.set_cons_succ, e7, e0, e1] at hK ⊢
        have HK := Lib.hid hK
        clear hK
        refine wpOp_want rfl rfl ?_
        go_simp
        obtain ⟨hb, f0, f1, f2, f3, f4, f5, f6, f7, f8, f10, c8⟩ := HJ.out
        exact HK.out _ _ ⟨hb, fun h => f0 (h.resolve_left (by decide)), fun h => f1 (h.resolve_left (by decide)), fun h => f2 (h.resolve_left (by decide)), fun h => f3 (h.resolve_left (by decide)), fun h => f4 (h.resolve_left (by decide)), fun h => f5 (h.resolve_left (by decide)), fun h => f6 (h.resolve_left (by decide)), fun h => f7 (h.resolve_left (by decide)), fun h => ((f8 (h.resolve_left (by decide)))).congr ⟨fun h => .inr h, fun h => h.resolve_left (by decide)⟩, fun _ => rfl, fun h => .inr (c8 (h.resolve_left (by decide)))⟩
      case he =>
        rintro T W ⟨hb, f0, f1, f2, f3, f4, f5, f6, f7, f8, f10, c8⟩
        simp only [ovr, List.setIfInBounds_toArray, List.set_cons_zero, List.set_cons_succ]
        have hr := (f8 (by decide)).boxF (by decide)
        go_wp2_with fail
        go_meet
        exact ⟨hr, hb⟩
    case rest =>
      obtain ⟨⟨g9, ng7, ao7, n7, cap7, ng8, ao8, n8, cap8, rfl, hg9, X9, HV7, HV8⟩, hb⟩ := hcut
      have X1 := X1.mono hb
      have X2 := X2.mono hb
      have HVA := Lib.hid (HVA.out.mono hb)
      have HV3 := Lib.hid (HV3.out.mono hb)
      have X3 := X3.mono hb
      have HV5 := Lib.hid (HV5.out.mono hb)
      have hE := hE.mono hb
      have hbw := Below.step hbw hb (Nat.le_refl _)
      clear hb
      obtain ⟨cX9_0, cX9_1, cX9_2, cX9_3, _, _, _, _⟩ := id X9
      obtain ⟨cX2_0, cX2_1, cX2_2, cX2_3, _, _, _, _⟩ := id X2
      go_wp2
      refine bodyPost_ret (v := .agg #[.bool ng7, .slice ao7 n7 cap7, .bool ng8, .slice ao8 n8 cap8]) (by simp [results, Tryz.results21, go_sem, cX2_0, cX2_1, cX2_2, cX2_3]) rfl ⟨⟨ng7, ao7, n7, cap7, ng8, ao8, n8, cap8, rfl, Lib.hid (by rw [← HR.out]; exact HV7.out.put4B X2 (.bool ng7) (.slice ao7 n7 cap7) (.bool ng8) (.slice ao8 n8 cap8)), Lib.hid (by rw [← HR.out]; exact HV8.out.put4B X2 (.bool ng7) (.slice ao7 n7 cap7) (.bool ng8) (.slice ao8 n8 cap8))⟩, Below.put4 hbw (by omega) (.bool ng7) (.slice ao7 n7 cap7) (.bool ng8) (.slice ao8 n8 cap8)⟩
  · obtain ⟨cX3_0, cX3_1, _, _⟩ := id X3
    go_wp2_with fail
    (with_reducible refine (rSign_eq _ (z2.natAbs : Int) 1 v4 (Lib.hid (by unfold sgnI; rw [if_neg (by omega), if_neg (by omega)])) HV3.out).mono ?_)
    rintro e v5 ⟨rfl, hb⟩
    have X1 := X1.mono hb
    have X2 := X2.mono hb
    have HVA := Lib.hid (HVA.out.mono hb)
    have HV3 := Lib.hid (HV3.out.mono hb)
    have X3 := X3.mono hb
    have hE := hE.mono hb
    have hbw := Below.step hbw hb (Nat.le_refl _)
    clear hb
    clear cX3_0 cX3_1
    go_upto_region 4 with fail
    have HV5 := HV3
    have HD : Hid ((z2.natAbs : Int) ≠ 0) := Lib.hid (by omega)
    have HR : Hid (Rat.divInt z1 (z2.natAbs : Int) = r) := Lib.hid (by rw [← HR0.out, if_neg hz])
    clear hz HR0
    obtain ⟨wy, rfl⟩ : ∃ wy : World, wy = v5 := ⟨_, rfl⟩
    go_cut [4] (fun s4 wc => BoxQ wc wy.heap.size s4 (Rat.divInt z1 (z2.natAbs : Int)) ∧ Below wy.heap.size wy wc)
    case first =>
      refine wp_region_flow (fun L T W => Below wy.heap.size wy W ∧ (L 0 → T 15 = .pointer (some ⟨w.heap.size, 0, none⟩)) ∧ (L 1 → T 16 = .agg #[.bool ng1, .slice ao1 n1 cap1]) ∧ (L 2 → (fun W v => IntV W v z1) W (T 17)) ∧ (L 3 → (fun W v => IntV W v (z2.natAbs : Int)) W (T 18)) ∧ (L 4 → (TupQ (Rat.divInt z1 (z2.natAbs : Int))) W (T 19)) ∧ (L 5 → (TupQ (Rat.divInt z1 (z2.natAbs : Int))) W (T 14)) ∧ (L 6 → (fun W v => RatV W v (Rat.divInt z1 (z2.natAbs : Int))) W (T 20)) ∧ (L 7 → T 21 = .int .i64 0) ∧ (L 8 → Slot4 W wy.heap.size (fun W v => RatV W v (Rat.divInt z1 (z2.natAbs : Int))) (L 9) (T 4)) ∧ (L 10 → T 5 = .int .i64 0) ∧ (L 9 → L 8)) [15, 16, 17, 18, 19, 14, 20, 21, 4, 5] (by kernel_rfl) (by kernel_rfl) (by kernel_rfl) ?h0 ⟨?s0, ?s1, ?s2, ?s3, ?s4, ?s5, ?s6, ?s7, ?s8, ?s9, ?s10, trivial⟩ ?he ?hm
      case h0 => exact fun T => ⟨(Below.refl _ _).drew, fun h => h.elim, fun h => h.elim, fun h => h.elim, fun h => h.elim, fun h => h.elim, fun h => h.elim, fun h => h.elim, fun h => h.elim, fun h => h.elim, fun h => h.elim, fun h => h.elim⟩
      case hm =>
        rintro L T W hL ⟨hb, f0, f1, f2, f3, f4, f5, f6, f7, f8, f10, c8⟩
        exact ⟨hb, fun _ => f0 (hL _ (by decide)), fun _ => f1 (hL _ (by decide)), fun _ => f2 (hL _ (by decide)), fun _ => f3 (hL _ (by decide)), fun _ => f4 (hL _ (by decide)), fun _ => f5 (hL _ (by decide)), fun _ => f6 (hL _ (by decide)), fun _ => f7 (hL _ (by decide)), fun _ => (f8 (hL _ (by decide))).congr ⟨fun _ => by decide, fun _ => hL _ (by decide)⟩, fun _ => f10 (hL _ (by decide)), fun _ => by decide⟩
      case s0 =>
        rintro L T W hd hn hJ K hK
        have HJ := Lib.hid hJ
        clear hJ
        have hb := HJ.out.1
        simp only [ovr, Act.put, List.setIfInBounds_toArray, List.set_cons_zero, List.set_cons_succ] at hK ⊢
        have HK := Lib.hid hK
        clear hK
        refine wpOp_want rfl rfl ?_
        go_simp
        obtain ⟨hb, f0, f1, f2, f3, f4, f5, f6, f7, f8, f10, c8⟩ := HJ.out
        exact HK.out _ _ ⟨hb, fun _ => rfl, fun h => f1 (h.resolve_left (by decide)), fun h => f2 (h.resolve_left (by decide)), fun h => f3 (h.resolve_left (by decide)), fun h => f4 (h.resolve_left (by decide)), fun h => f5 (h.resolve_left (by decide)), fun h => f6 (h.resolve_left (by decide)), fun h => f7 (h.resolve_left (by decide)), fun h => ((f8 (h.resolve_left (by decide)))).congr ⟨fun h => .inr h, fun h => h.resolve_left (by decide)⟩, fun h => f10 (h.resolve_left (by decide)), fun h => .inr (c8 (h.resolve_left (by decide)))⟩
      case s1 =>
        rintro L T W hd hn hJ K hK
        have HJ := Lib.hid hJ
        clear hJ
        have hb := HJ.out.1
        have e0 := HJ.out.2.1 hd.1
        simp only [ovr, Act.put, List.setIfInBounds_toArray, List.set_cons_zero, List.set_cons_succ, e0] at hK ⊢
        have HK := Lib.hid hK
        clear hK
        obtain ⟨c0, c1, c2, c3⟩ := (fun W => S42 (W := W) X1 X3) W hb
        refine wpOp_want rfl rfl ?_
        go_simp
        obtain ⟨hb, f0, f1, f2, f3, f4, f5, f6, f7, f8, f10, c8⟩ := HJ.out
        exact HK.out _ _ ⟨hb, fun h => f0 (h.resolve_left (by decide)), fun _ => rfl, fun h => f2 (h.resolve_left (by decide)), fun h => f3 (h.resolve_left (by decide)), fun h => f4 (h.resolve_left (by decide)), fun h => f5 (h.resolve_left (by decide)), fun h => f6 (h.resolve_left (by decide)), fun h => f7 (h.resolve_left (by decide)), fun h => ((f8 (h.resolve_left (by decide)))).congr ⟨fun h => .inr h, fun h => h.resolve_left (by decide)⟩, fun h => f10 (h.resolve_left (by decide)), fun h => .inr (c8 (h.resolve_left (by decide)))⟩
      case s2 =>
        rintro L T W hd hn hJ K hK
        have HJ := Lib.hid hJ
        clear hJ
        have hb := HJ.out.1
        have e1 := HJ.out.2.2.1 hd.1
        simp only [ovr, Act.put, List.setIfInBounds_toArray, List.set_cons_zero, List.set_cons_succ, e1] at hK ⊢
        have HK := Lib.hid hK
        clear hK
        refine wpOp_want rfl rfl ?_
        go_simp
        (with_reducible refine (F1.run _ (Below.step hw (Below.step hbw hb (Nat.le_refl _)) (Nat.le_refl _))).mono ?_)
        rintro e w1 ⟨⟨ngN, aoN, nN, capN, rfl, HVN⟩, hb1⟩
        have hr := HVN.out
        dsimp only
        obtain ⟨hb, f0, f1, f2, f3, f4, f5, f6, f7, f8, f10, c8⟩ := HJ.out
        exact HK.out _ _ ⟨Below.step hb hb1 (Nat.le_refl _), fun h => f0 (h.resolve_left (by decide)), fun h => f1 (h.resolve_left (by decide)), fun _ => hr, fun h => (stay4_int (z2.natAbs : Int)).mono (f3 (h.resolve_left (by decide))) hb1, fun h => (stay4_tupQ (Rat.divInt z1 (z2.natAbs : Int))).mono (f4 (h.resolve_left (by decide))) hb1, fun h => (stay4_tupQ (Rat.divInt z1 (z2.natAbs : Int))).mono (f5 (h.resolve_left (by decide))) hb1, fun h => (stay4_rat (Rat.divInt z1 (z2.natAbs : Int))).mono (f6 (h.resolve_left (by decide))) hb1, fun h => f7 (h.resolve_left (by decide)), fun h => ((f8 (h.resolve_left (by decide))).mono (stay4_rat (Rat.divInt z1 (z2.natAbs : Int))) hb1).congr ⟨fun h => .inr h, fun h => h.resolve_left (by decide)⟩, fun h => f10 (h.resolve_left (by decide)), fun h => .inr (c8 (h.resolve_left (by decide)))⟩
      case s3 =>
        rintro L T W hd hn hJ K hK
        have HJ := Lib.hid hJ
        clear hJ
        have hb := HJ.out.1
        obtain ⟨c0, c1, c2, c3⟩ := S42 X1 X3 hb
        simp only [ovr, Act.put, List.setIfInBounds_toArray, List.set_cons_zero, List.set_cons_succ] at hK ⊢
        have HK := Lib.hid hK
        clear hK
        refine wpOp_want rfl rfl ?_
        go_simp
        obtain ⟨hb, f0, f1, f2, f3, f4, f5, f6, f7, f8, f10, c8⟩ := HJ.out
        exact HK.out _ _ ⟨hb, fun h => f0 (h.resolve_left (by decide)), fun h => f1 (h.resolve_left (by decide)), fun h => f2 (h.resolve_left (by decide)), fun _ => HV5.out.mono hb, fun h => f4 (h.resolve_left (by decide)), fun h => f5 (h.resolve_left (by decide)), fun h => f6 (h.resolve_left (by decide)), fun h => f7 (h.resolve_left (by decide)), fun h => ((f8 (h.resolve_left (by decide)))).congr ⟨fun h => .inr h, fun h => h.resolve_left (by decide)⟩, fun h => f10 (h.resolve_left (by decide)), fun h => .inr (c8 (h.resolve_left (by decide)))⟩
      case s4 =>
        rintro L T W hd hn hJ K hK
        have HJ := Lib.hid hJ
        clear hJ
        have hb := HJ.out.1
        have r2 := HJ.out.2.2.2.1 hd.1
        have r3 := HJ.out.2.2.2.2.1 hd.2.1
        simp only [ovr, Act.put, List.setIfInBounds_toArray, List.set_cons_zero, List.set_cons_succ] at hK ⊢
        have HK := Lib.hid hK
        clear hK
        refine wpOp_want rfl rfl ?_
        go_simp
        (with_reducible refine (rMake_ok _ _ z1 (z2.natAbs : Int) _ r2 r3 HD (hE.mono hb)).mono ?_)
        rintro e w1 ⟨⟨nga, aoa, na, capa, ngb, aob, nb, capb, rfl, HVa, HVb⟩, hb1⟩
        have hr : TupQ (Rat.divInt z1 (z2.natAbs : Int)) w1 (.tuple #[.agg #[.bool nga, .slice aoa na capa, .bool ngb, .slice aob nb capb], .int .i64 0]) := ⟨_, rfl, RatV.mk' HVa HVb⟩
        dsimp only
        obtain ⟨hb, f0, f1, f2, f3, f4, f5, f6, f7, f8, f10, c8⟩ := HJ.out
        exact HK.out _ _ ⟨Below.step hb hb1 (Nat.le_refl _), fun h => f0 (h.resolve_left (by decide)), fun h => f1 (h.resolve_left (by decide)), fun h => (stay4_int z1).mono (f2 (h.resolve_left (by decide))) hb1, fun h => (stay4_int (z2.natAbs : Int)).mono (f3 (h.resolve_left (by decide))) hb1, fun _ => hr, fun h => (stay4_tupQ (Rat.divInt z1 (z2.natAbs : Int))).mono (f5 (h.resolve_left (by decide))) hb1, fun h => (stay4_rat (Rat.divInt z1 (z2.natAbs : Int))).mono (f6 (h.resolve_left (by decide))) hb1, fun h => f7 (h.resolve_left (by decide)), fun h => ((f8 (h.resolve_left (by decide))).mono (stay4_rat (Rat.divInt z1 (z2.natAbs : Int))) hb1).congr ⟨fun h => .inr h, fun h => h.resolve_left (by decide)⟩, fun h => f10 (h.resolve_left (by decide)), fun h => .inr (c8 (h.resolve_left (by decide)))⟩
      case s5 =>
        rintro L T W hd hn hJ K hK
        have HJ := Lib.hid hJ
        clear hJ
        have hb := HJ.out.1
        have r4 := HJ.out.2.2.2.2.2.1 hd.1
        simp only [ovr, Act.put, List.setIfInBounds_toArray, List.set_cons_zero, List.set_cons_succ] at hK ⊢
        have HK := Lib.hid hK
        clear hK
        refine wpOp_want rfl rfl ?_
        go_simp
        obtain ⟨hb, f0, f1, f2, f3, f4, f5, f6, f7, f8, f10, c8⟩ := HJ.out
        exact HK.out _ _ ⟨hb, fun h => f0 (h.resolve_left (by decide)), fun h => f1 (h.resolve_left (by decide)), fun h => f2 (h.resolve_left (by decide)), fun h => f3 (h.resolve_left (by decide)), fun h => f4 (h.resolve_left (by decide)), fun _ => r4, fun h => f6 (h.resolve_left (by decide)), fun h => f7 (h.resolve_left (by decide)), fun h => ((f8 (h.resolve_left (by decide)))).congr ⟨fun h => .inr h, fun h => h.resolve_left (by decide)⟩, fun h => f10 (h.resolve_left (by decide)), fun h => .inr (c8 (h.resolve_left (by decide)))⟩
      case s6 =>
        rintro L T W hd hn hJ K hK
        have HJ := Lib.hid hJ
        clear hJ
        have hb := HJ.out.1
        have r5 := HJ.out.2.2.2.2.2.2.1 hd.1
        obtain ⟨a, ev, hq⟩ := r5
        simp only [ovr, Act.put, List.setIfInBounds_toArray, List.set_cons_zero, List.set_cons_succ, ev] at hK ⊢
        have HK := Lib.hid hK
        clear hK
        refine wpOp_want rfl rfl ?_
        go_simp
        obtain ⟨hb, f0, f1, f2, f3, f4, f5, f6, f7, f8, f10, c8⟩ := HJ.out
        exact HK.out _ _ ⟨hb, fun h => f0 (h.resolve_left (by decide)), fun h => f1 (h.resolve_left (by decide)), fun h => f2 (h.resolve_left (by decide)), fun h => f3 (h.resolve_left (by decide)), fun h => f4 (h.resolve_left (by decide)), fun h => f5 (h.resolve_left (by decide)), fun _ => hq, fun h => f7 (h.resolve_left (by decide)), fun h => ((f8 (h.resolve_left (by decide)))).congr ⟨fun h => .inr h, fun h => h.resolve_left (by decide)⟩, fun h => f10 (h.resolve_left (by decide)), fun h => .inr (c8 (h.resolve_left (by decide)))⟩
      case s7 =>
        rintro L T W hd hn hJ K hK
        have HJ := Lib.hid hJ
        clear hJ
        have hb := HJ.out.1
        have r5 := HJ.out.2.2.2.2.2.2.1 hd.1
        obtain ⟨a, ev, hq⟩ := r5
        simp only [ovr, Act.put, List.setIfInBounds_toArray, List.set_cons_zero, List.set_cons_succ, ev] at hK ⊢
        have HK := Lib.hid hK
        clear hK
        refine wpOp_want rfl rfl ?_
        go_simp
        obtain ⟨hb, f0, f1, f2, f3, f4, f5, f6, f7, f8, f10, c8⟩ := HJ.out
        exact HK.out _ _ ⟨hb, fun h => f0 (h.resolve_left (by decide)), fun h => f1 (h.resolve_left (by decide)), fun h => f2 (h.resolve_left (by decide)), fun h => f3 (h.resolve_left (by decide)), fun h => f4 (h.resolve_left (by decide)), fun h => f5 (h.resolve_left (by decide)), fun h => f6 (h.resolve_left (by decide)), fun _ => rfl, fun h => ((f8 (h.resolve_left (by decide)))).congr ⟨fun h => .inr h, fun h => h.resolve_left (by decide)⟩, fun h => f10 (h.resolve_left (by decide)), fun h => .inr (c8 (h.resolve_left (by decide)))⟩
      case s8 =>
        rintro L T W hd hn hJ K hK
        have HJ := Lib.hid hJ
        clear hJ
        have hb := HJ.out.1
        simp only [ovr, Act.put, List.setIfInBounds_toArray, List.set_cons_zero, List.set_cons_succ] at hK ⊢
        have HK := Lib.hid hK
        clear hK
        refine wpOp_want rfl rfl ?_
        go_simp
        have hb1 := below_alloc W (.cells #[.bool false, .slice none 0 0, .bool false, .slice none 0 0] 29)
        obtain ⟨hb, f0, f1, f2, f3, f4, f5, f6, f7, f8, f10, c8⟩ := HJ.out
        exact HK.out _ _ ⟨Below.step hb hb1 (Nat.le_refl _), fun h => f0 (h.resolve_left (by decide)), fun h => f1 (h.resolve_left (by decide)), fun h => (stay4_int z1).mono (f2 (h.resolve_left (by decide))) hb1, fun h => (stay4_int (z2.natAbs : Int)).mono (f3 (h.resolve_left (by decide))) hb1, fun h => (stay4_tupQ (Rat.divInt z1 (z2.natAbs : Int))).mono (f4 (h.resolve_left (by decide))) hb1, fun h => (stay4_tupQ (Rat.divInt z1 (z2.natAbs : Int))).mono (f5 (h.resolve_left (by decide))) hb1, fun h => (stay4_rat (Rat.divInt z1 (z2.natAbs : Int))).mono (f6 (h.resolve_left (by decide))) hb1, fun h => f7 (h.resolve_left (by decide)), fun _ => Slot4.new W (fun h => hn (c8 (h.resolve_left (by decide)))) _ hb.size, fun h => f10 (h.resolve_left (by decide)), fun _ => .inl (by decide)⟩
      case s9 =>
        rintro L T W hd hn hJ K hK
        have HJ := Lib.hid hJ
        clear hJ
        have hb := HJ.out.1
        have r6 := HJ.out.2.2.2.2.2.2.2.1 hd.2.1
        have r4 := HJ.out.2.2.2.2.2.1 hd.2.2.1
        have e0 := HJ.out.2.1 hd.2.2.2.1
        have e1 := HJ.out.2.2.1 hd.2.2.2.2.1
        have r2 := HJ.out.2.2.2.1 hd.2.2.2.2.2.1
        have r3 := HJ.out.2.2.2.2.1 hd.2.2.2.2.2.2.1
        have r5 := HJ.out.2.2.2.2.2.2.1 hd.2.2.2.2.2.2.2.2.1
        have da := hd.1
        have hr := r6
        obtain ⟨m, em, hm1, hm2, hB⟩ := (HJ.out.2.2.2.2.2.2.2.2.2.1 da).open hn
        obtain ⟨ng, ao, nn, cap, ng2, ao2, nn2, cap2, ev⟩ := RatV.parts hr
        rw [ev] at hr
        obtain ⟨b0, b1, b2, b3, b4, b5, b6, b7⟩ := id hB
        simp only [ovr, Act.put, List.setIfInBounds_toArray, List.set_cons_zero, List.set_cons_succ, e0, e1, em, ev] at hK ⊢
        have HK := Lib.hid hK
        clear hK
        refine wpOp_want rfl rfl ?_
        go_simp
        obtain ⟨hb, f0, f1, f2, f3, f4, f5, f6, f7, f8, f10, c8⟩ := HJ.out
        exact HK.out undef _ ⟨Below.put4 hb hm1 _ _ _ _, fun h => f0 (h.resolve_left (by decide)), fun h => f1 (h.resolve_left (by decide)), fun h => (stay4_int z1).put (f2 (h.resolve_left (by decide))) hB, fun h => (stay4_int (z2.natAbs : Int)).put (f3 (h.resolve_left (by decide))) hB, fun h => (stay4_tupQ (Rat.divInt z1 (z2.natAbs : Int))).put (f4 (h.resolve_left (by decide))) hB, fun h => (stay4_tupQ (Rat.divInt z1 (z2.natAbs : Int))).put (f5 (h.resolve_left (by decide))) hB, fun h => (stay4_rat (Rat.divInt z1 (z2.natAbs : Int))).put (f6 (h.resolve_left (by decide))) hB, fun h => f7 (h.resolve_left (by decide)), fun h => by show Slot4 _ _ _ _ (T 4); rw [em]; exact Slot4.stored (stay4_rat (Rat.divInt z1 (z2.natAbs : Int))) hm1 hB (.inl (by decide)) hr, fun h => f10 (h.resolve_left (by decide)), fun _ => .inr da⟩
      case s10 =>
        rintro L T W hd hn hJ K hK
        have HJ := Lib.hid hJ
        clear hJ
        have hb := HJ.out.1
        have e7 := HJ.out.2.2.2.2.2.2.2.2.1 hd.1
        have e0 := HJ.out.2.1 hd.2.2.1
        have e1 := HJ.out.2.2.1 hd.2.2.2.1
        have r2 := HJ.out.2.2.2.1 hd.2.2.2.2.1
        have r3 := HJ.out.2.2.2.2.1 hd.2.2.2.2.2.1
        have r4 := HJ.out.2.2.2.2.2.1 hd.2.2.2.2.2.2.1
        have r5 := HJ.out.2.2.2.2.2.2.1 hd.2.2.2.2.2.2.2.1
        have r6 := HJ.out.2.2.2.2.2.2.2.1 hd.2.2.2.2.2.2.2.2.1
        simp only [ovr, Act.put, List.setIfInBounds_toArray, List.set_cons_zero, List.set_cons_succ, e7, e0, e1] at hK ⊢
        have HK := Lib.hid hK
        clear hK
        refine wpOp_want rfl rfl ?_
        go_simp
        obtain ⟨hb, f0, f1, f2, f3, f4, f5, f6, f7, f8, f10, c8⟩ := HJ.out
        exact HK.out _ _ ⟨hb, fun h => f0 (h.resolve_left (by decide)), fun h => f1 (h.resolve_left (by decide)), fun h => f2 (h.resolve_left (by decide)), fun h => f3 (h.resolve_left (by decide)), fun h => f4 (h.resolve_left (by decide)), fun h => f5 (h.resolve_left (by decide)), fun h => f6 (h.resolve_left (by decide)), fun h => f7 (h.resolve_left (by decide)), fun h => ((f8 (h.resolve_left (by decide)))).congr ⟨fun h => .inr h, fun h => h.resolve_left (by decide)⟩, fun _ => rfl, fun h => .inr (c8 (h.resolve_left (by decide)))⟩
      case he =>
        rintro T W ⟨hb, f0, f1, f2, f3, f4, f5, f6, f7, f8, f10, c8⟩
        simp only [ovr, List.setIfInBounds_toArray, List.set_cons_zero, List.set_cons_succ]
        have hr := (f8 (by decide)).boxF (by decide)
        go_wp2_with fail
        go_meet
        exact ⟨hr, hb⟩
    case rest =>
      obtain ⟨⟨g9, ng7, ao7, n7, cap7, ng8, ao8, n8, cap8, rfl, hg9, X9, HV7, HV8⟩, hb⟩ := hcut
      have X1 := X1.mono hb
      have X2 := X2.mono hb
      have HVA := Lib.hid (HVA.out.mono hb)
      have HV3 := Lib.hid (HV3.out.mono hb)
      have X3 := X3.mono hb
      have hE := hE.mono hb
      have hbw := Below.step hbw hb (Nat.le_refl _)
      clear hb
      obtain ⟨cX9_0, cX9_1, cX9_2, cX9_3, _, _, _, _⟩ := id X9
      obtain ⟨cX2_0, cX2_1, cX2_2, cX2_3, _, _, _, _⟩ := id X2
      go_wp2
      refine bodyPost_ret (v := .agg #[.bool ng7, .slice ao7 n7 cap7, .bool ng8, .slice ao8 n8 cap8]) (by simp [results, Tryz.results21, go_sem, cX2_0, cX2_1, cX2_2, cX2_3]) rfl ⟨⟨ng7, ao7, n7, cap7, ng8, ao8, n8, cap8, rfl, Lib.hid (by rw [← HR.out]; exact HV7.out.put4B X2 (.bool ng7) (.slice ao7 n7 cap7) (.bool ng8) (.slice ao8 n8 cap8)), Lib.hid (by rw [← HR.out]; exact HV8.out.put4B X2 (.bool ng7) (.slice ao7 n7 cap7) (.bool ng8) (.slice ao8 n8 cap8))⟩, Below.put4 hbw (by omega) (.bool ng7) (.slice ao7 n7 cap7) (.bool ng8) (.slice ao8 n8 cap8)⟩

/-- 'Made' of one description is one fraction, whenever it is called -/
theorem madeQ_fix {w : World} {v : Value} (h : DraftQ w v) : ∃ r, FixQ w v r := by
  obtain ⟨n1, a1, l1, c1, n2, a2, l2, c2, rfl, h1, h2⟩ := h
  obtain ⟨z1, f1⟩ := made_fix h1
  obtain ⟨z2, f2⟩ := made_fix h2
  exact ⟨_, fun w1 hb hE => MadeQ_z z1 z2 _ w w1 (Lib.hid rfl) hb f1 f2 hE⟩

set_option maxRecDepth 100000 in
set_option maxHeartbeats 1600000 in
theorem decimal_lawQ (x : Value) (d : Int) (_h1 : -9223372036854775808 ≤ d) (_h2 : d ≤ 9223372036854775807) (w : World) (hx : DraftQ w x) (hE : Env w) (hM : MaxV w) :
    Calls Tryz.prog 6 #[x, .int .i64 d] w fun e w' => e = .returned (.bool true) ∧ Below w.heap.size w w' := by
  obtain ⟨ng1, ao1, n1, cap1, ng2, ao2, n2, cap2, rfl, D1, D2⟩ := hx
  obtain ⟨r, fq⟩ := madeQ_fix (show DraftQ w (.agg #[.bool ng1, .slice ao1 n1 cap1, .bool ng2, .slice ao2 n2 cap2]) from ⟨_, _, _, _, _, _, _, _, rfl, D1, D2⟩)
  have HF := Lib.hid fq
  clear D1 D2 fq
  obtain ⟨t, e0, h1, h2⟩ := decimal_two r d
  have HA := Lib.hid h1
  have HB := Lib.hid h2
  clear h1 h2
  have htt : (t == t) = true := by simp
  have hee : (e0 == e0) = true := by simp
  have hE0 := hE
  have hbw := Below.refl w.heap.size w
  go_enter Tryz.func6, Tryz.ntmps6
  go_upto_region 1 with fail
  have X1 := Box4.new w (.bool ng1) (.slice ao1 n1 cap1) (.bool ng2) (.slice ao2 n2 cap2) 39
  have hb := below_alloc w (.cells #[.bool ng1, .slice ao1 n1 cap1, .bool ng2, .slice ao2 n2 cap2] 39)
  generalize w.alloc (.cells #[.bool ng1, .slice ao1 n1 cap1, .bool ng2, .slice ao2 n2 cap2] 39) = v1 at *
  have hM := hM.mono hb
  have hE := hE.mono hb
  have hbw := Below.step hbw hb (Nat.le_refl _)
  clear hb
  go_wp2_with fail
  (with_reducible refine (awakeQ v1 hE hM).mono ?_)
  rintro e v2 ⟨rfl, hb⟩
  have hM := hM.mono hb
  have X1 := X1.mono hb
  have hE := hE.mono hb
  have hbw := Below.step hbw hb (Nat.le_refl _)
  clear hb
  obtain ⟨cX1_0, cX1_1, cX1_2, cX1_3, _, _, _, _⟩ := id X1
  go_wp2_with fail
  (with_reducible refine (HF.out.run v2 hbw hE).mono ?_)
  rintro e v3 ⟨⟨nga, aoa, na, capa, ngb, aob, nb, capb, rfl, HVa, HVb⟩, hb⟩
  have hM := hM.mono hb
  have X1 := X1.mono hb
  have hE := hE.mono hb
  have hbw := Below.step hbw hb (Nat.le_refl _)
  clear hb
  clear cX1_0 cX1_1 cX1_2 cX1_3
  go_wp2_with fail
  (with_reducible refine (HA.out _ v3 (RatV.mk' HVa HVb) hE).mono ?_)
  rintro e v4 ⟨rfl, hb⟩
  have hM := hM.mono hb
  have X1 := X1.mono hb
  have HVa := Lib.hid (HVa.out.mono hb)
  have HVb := Lib.hid (HVb.out.mono hb)
  have hE := hE.mono hb
  have hbw := Below.step hbw hb (Nat.le_refl _)
  clear hb
  obtain ⟨cX1_0, cX1_1, cX1_2, cX1_3, _, _, _, _⟩ := id X1
  go_wp2_with fail
  (with_reducible refine (HF.out.run v4 hbw hE).mono ?_)
  rintro e v5 ⟨⟨ngc, aoc, nc, capc, ngd, aod, nd, capd, rfl, HVc, HVd⟩, hb⟩
  have hM := hM.mono hb
  have X1 := X1.mono hb
  have HVa := Lib.hid (HVa.out.mono hb)
  have HVb := Lib.hid (HVb.out.mono hb)
  have hE := hE.mono hb
  have hbw := Below.step hbw hb (Nat.le_refl _)
  clear hb
  clear cX1_0 cX1_1 cX1_2 cX1_3
  go_wp2_with fail
  (with_reducible refine (HB.out _ v5 (RatV.mk' HVc HVd) hE).mono ?_)
  rintro e v6 ⟨rfl, hb⟩
  have hM := hM.mono hb
  have X1 := X1.mono hb
  have HVa := Lib.hid (HVa.out.mono hb)
  have HVb := Lib.hid (HVb.out.mono hb)
  have HVc := Lib.hid (HVc.out.mono hb)
  have HVd := Lib.hid (HVd.out.mono hb)
  have hE := hE.mono hb
  have hbw := Below.step hbw hb (Nat.le_refl _)
  clear hb
  go_wp2
  go_ret
  exact ⟨rfl, hbw⟩

theorem wf_int {n : Int} (h : (Lit.int .i64 n).wf = true) : -9223372036854775808 ≤ n ∧ n ≤ 9223372036854775807 := by
  simp [Lit.wf, IntKind.min, IntKind.max, IntKind.signed, IntKind.bits] at h
  omega

end Go.Proofs.YtgenhkakcbedaaaGreatDoor
