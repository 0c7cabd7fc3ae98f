import Derived.Test.YtgenhkakcbedaaaGreatDoorOQ
import Derived.Test.YtgenhkakcbedaaaGreatDoorQE
namespace Go.Proofs.YtgenhkakcbedaaaGreatDoor
open Go.RowKit

/-- a slice of descriptions -/
def UD (w : World) (ao : Option Addr) (n : Nat) : Prop :=
  ∀ i, i < n → ∃ (b off : Nat) (n1 : Bool) (a1 : Option Addr) (l1 c1 : Nat) (n2 : Bool) (a2 : Option Addr) (l2 c2 : Nat), ao = some ⟨b, off, none⟩ ∧ Four w b (off + i * 4) (.bool n1) (.slice a1 l1 c1) (.bool n2) (.slice a2 l2 c2) ∧ DraftQ w (.agg #[.bool n1, .slice a1 l1 c1, .bool n2, .slice a2 l2 c2])

theorem UD.mono {w w' : World} {ao : Option Addr} {n : Nat} (h : UD w ao n) (hb : Below w.heap.size w w') : UD w' ao n := by
  intro i hi
  obtain ⟨b, off, n1, a1, l1, c1, n2, a2, l2, c2, e, hf, hd⟩ := h i hi
  exact ⟨b, off, n1, a1, l1, c1, n2, a2, l2, c2, e, hf.mono hb, hd.mono hb⟩

theorem Dot_some (la lb : List Rat) (r : Rat) (aa ab : Option Addr) (ca cb : Nat) (w : World) (hm : la.length ≤ 1000000000) (hl : Hid (la.length = lb.length)) (ua : UQ w aa (la.map some)) (ub : UQ w ab (lb.map some)) (hD : Hid (DotS 0 la lb (some r))) (hE : Env w) :
    Calls Tryz.prog 40 #[.slice aa la.length ca, .slice ab lb.length cb] w fun e w' => GotQ w' r e ∧ Below w.heap.size w w' := Dot_any la lb (some r) aa ab ca cb w hm hl.out ua ub hD hE
theorem Dot_none (la lb : List Rat) (aa ab : Option Addr) (ca cb : Nat) (w : World) (hm : la.length ≤ 1000000000) (hl : Hid (la.length = lb.length)) (ua : UQ w aa (la.map some)) (ub : UQ w ab (lb.map some)) (hD : Hid (DotS 0 la lb none)) (hE : Env w) :
    Calls Tryz.prog 40 #[.slice aa la.length ca, .slice ab lb.length cb] w fun e w' => NoQ 3 e ∧ Below w.heap.size w w' := Dot_any la lb none aa ab ca cb w hm hl.out ua ub hD hE
theorem rDot_some (la lb : List Rat) (r : Rat) (aa ab : Option Addr) (ca cb : Nat) (w : World) (hm : la.length ≤ 1000000000) (hl : Hid (la.length = lb.length)) (ua : UQ w aa (la.map some)) (ub : UQ w ab (lb.map some)) (hD : Hid (DotS 0 la lb (some r))) (hE : Env w) :
    Calls Tryz.prog 41 #[.slice aa la.length ca, .slice ab lb.length cb] w fun e w' => GotQ w' r e ∧ Below w.heap.size w w' := rDot_any la lb (some r) aa ab ca cb w hm hl.out ua ub hD hE
theorem rDot_none (la lb : List Rat) (aa ab : Option Addr) (ca cb : Nat) (w : World) (hm : la.length ≤ 1000000000) (hl : Hid (la.length = lb.length)) (ua : UQ w aa (la.map some)) (ub : UQ w ab (lb.map some)) (hD : Hid (DotS 0 la lb none)) (hE : Env w) :
    Calls Tryz.prog 41 #[.slice aa la.length ca, .slice ab lb.length cb] w fun e w' => NoQ 3 e ∧ Below w.heap.size w w' := rDot_any la lb none aa ab ca cb w hm hl.out ua ub hD hE
theorem Dot_ar (la lb : List Rat) (aa ab : Option Addr) (ca cb : Nat) (w : World) (hl : Hid (la.length ≠ lb.length)) (hE : Env w) :
    Calls Tryz.prog 40 #[.slice aa la.length ca, .slice ab lb.length cb] w fun e w' => NoQ 6 e ∧ Below w.heap.size w w' := Dot_arity la lb aa ab ca cb w hl.out hE
theorem rDot_ar (la lb : List Rat) (aa ab : Option Addr) (ca cb : Nat) (w : World) (hl : Hid (la.length ≠ lb.length)) (hE : Env w) :
    Calls Tryz.prog 41 #[.slice aa la.length ca, .slice ab lb.length cb] w fun e w' => NoQ 6 e ∧ Below w.heap.size w w' := rDot_arity la lb aa ab ca cb w hl.out hE

set_option maxRecDepth 100000 in
set_option maxHeartbeats 1600000 in
theorem dot_long1 (ax ay : Option Addr) (nx cx ny cy : Nat) (w : World) (hE : Env w) (hM : MaxV w) (h1 : Hid (decide ((8 : Int) < nx) = true)) :
    Calls Tryz.prog 10 #[.slice ax nx cx, .slice ay ny cy] w fun e w' => e = .returned (.bool true) ∧ Below w.heap.size w w' := by
  have g1 := h1.out
  have hE0 := hE
  have hbw := Below.refl w.heap.size w
  go_enter Tryz.func10, Tryz.ntmps10
  go_wp2_with fail
  (with_reducible refine (awakeQ w hE hM).mono ?_)
  rintro e v1 ⟨rfl, hb⟩
  have hM := hM.mono hb
  have hE := hE.mono hb
  have hbw := Below.step hbw hb (Nat.le_refl _)
  clear hb
  go_wp2_with fail
  (with_reducible refine (awakeQ v1 hE hM).mono ?_)
  rintro e v2 ⟨rfl, hb⟩
  have hM := hM.mono hb
  have hE := hE.mono hb
  have hbw := Below.step hbw hb (Nat.le_refl _)
  clear hb
  go_wp2
  go_ret
  exact ⟨rfl, hbw⟩

set_option maxRecDepth 100000 in
set_option maxHeartbeats 1600000 in
theorem dot_long2 (ax ay : Option Addr) (nx cx ny cy : Nat) (w : World) (hE : Env w) (hM : MaxV w) (h1 : Hid (decide ((8 : Int) < nx) = false)) (h2 : Hid (decide ((8 : Int) < ny) = true)) :
    Calls Tryz.prog 10 #[.slice ax nx cx, .slice ay ny cy] w fun e w' => e = .returned (.bool true) ∧ Below w.heap.size w w' := by
  have g1 := h1.out
  have g2 := h2.out
  have hE0 := hE
  have hbw := Below.refl w.heap.size w
  go_enter Tryz.func10, Tryz.ntmps10
  go_wp2_with fail
  (with_reducible refine (awakeQ w hE hM).mono ?_)
  rintro e v1 ⟨rfl, hb⟩
  have hM := hM.mono hb
  have hE := hE.mono hb
  have hbw := Below.step hbw hb (Nat.le_refl _)
  clear hb
  go_wp2_with fail
  (with_reducible refine (awakeQ v1 hE hM).mono ?_)
  rintro e v2 ⟨rfl, hb⟩
  have hM := hM.mono hb
  have hE := hE.mono hb
  have hbw := Below.step hbw hb (Nat.le_refl _)
  clear hb
  go_wp2
  go_ret
  exact ⟨rfl, hbw⟩

set_option maxRecDepth 100000 in
set_option maxHeartbeats 6400000 in
theorem dot_short (ax ay : Option Addr) (nx cx ny cy : Nat) (w : World) (ux : UD w ax nx) (uy : UD w ay ny) (hE : Env w) (hM : MaxV w) (h1 : nx ≤ 8) (h2 : ny ≤ 8) :
    Calls Tryz.prog 10 #[.slice ax nx cx, .slice ay ny cy] w fun e w' => e = .returned (.bool true) ∧ Below w.heap.size w w' := by
  have g1 : decide ((8 : Int) < nx) = false := by simp; omega
  have g2 : decide ((8 : Int) < ny) = false := by simp; omega
  have ux0 := ux
  have uy0 := uy
  clear ux uy
  have hE0 := hE
  have hbw := Below.refl w.heap.size w
  go_enter Tryz.func10, Tryz.ntmps10
  go_wp2_with fail
  (with_reducible refine (awakeQ w hE hM).mono ?_)
  rintro e v1 ⟨rfl, hb⟩
  have hM := hM.mono hb
  have hE := hE.mono hb
  have hbw := Below.step hbw hb (Nat.le_refl _)
  clear hb
  go_wp2_with fail
  clear g1 g2
  obtain ⟨wl, rfl⟩ : ∃ wl : World, wl = v1 := ⟨_, rfl⟩
  go_loopw [5, 30] (fun s c wr => ∃ (k : Nat) (l : List Rat), k ≤ nx ∧ c = .int .i64 k ∧ l.length ≤ k ∧ k ≤ l.length ∧ OwnQ wr wl.heap.size s l ∧ Below wl.heap.size wl wr) (fun _ c _ => nx - (intOf c).toNat)
  case atStart => exact ⟨0, [], Nat.zero_le _, rfl, Nat.le_refl _, Nat.le_refl _, OwnQ.nil _ _, Below.refl _ _⟩
  case round =>
    obtain ⟨k, l, hk, rfl, hl1, hl2, hown, hbr⟩ := hrel
    by_cases hlt : k < nx
    · obtain ⟨b1, off1, ng1, ao1, n1, cap1, ng2, ao2, n2, cap2, ea, FA, hd⟩ := (ux0.mono (Below.step hbw hbr (Nat.le_refl _))) k hlt
      subst ea
      have hE := hE.mono hbr
      obtain ⟨_, _, _, _, _, _, _, _⟩ := FA
      go_wp2_with fail
      have hba := below_alloc wr (.cells #[.bool ng1, .slice ao1 n1 cap1, .bool ng2, .slice ao2 n2 cap2] 39)
      (with_reducible refine (MadeQ _ _ (hd.mono hba) (hE.mono hba)).mono ?_)
      rintro e w1 ⟨⟨r, nga, aoa, na, capa, ngb, aob, nb, capb, rfl, HVa, HVb⟩, hb1⟩
      have hb2 := Below.step hba hb1 (Nat.le_refl _)
      have hown := hown.mono hb2
      have hbel := Below.step hbr hb2 (Nat.le_refl _)
      have hsz := hbel.size
      clear hd hba hb1 hb2 hE hbr 
      go_wp2_with (at_builtin; refine app_q _ rfl _ _ rfl wl wl.heap.size _ l rfl hown hsz hbel HVa HVb rfl (by omega) ?_; intro v2 w2 hown2 hbel2 hsz2)
      go_roundw
      case rel => exact ⟨k + 1, l ++ [r], by omega, by go_num, by simp; omega, by simp; omega, hown2, hbel2⟩
      case measure => simp [intOf]; omega
    · have hlx : l.length = nx := by omega
      have HLX := Lib.hid hlx
      clear hk hl1 hl2 hlx
      obtain ⟨la, rfl⟩ : ∃ la : List Rat, la = l := ⟨_, rfl⟩
      have hownA := hown
      have hb := hbr
      clear hown hbr
      have hM := hM.mono hb
      have hE := hE.mono hb
      have hbw := Below.step hbw hb (Nat.le_refl _)
      clear hb
      obtain ⟨aa, ca, rfl, ua⟩ := hownA.read
      obtain ⟨kx, hkx⟩ : ∃ kx : Nat, kx = k := ⟨_, rfl⟩
      have hnx : ¬ kx < nx := by rw [hkx]; exact hlt
      clear hkx
      go_wp2_with fail
      clear hlt hnx hownA
      obtain ⟨wl, rfl⟩ : ∃ wl : World, wl = wr := ⟨_, rfl⟩
      go_loopw [6, 42] (fun s c wr => ∃ (k : Nat) (l : List Rat), k ≤ ny ∧ c = .int .i64 k ∧ l.length ≤ k ∧ k ≤ l.length ∧ OwnQ wr wl.heap.size s l ∧ Below wl.heap.size wl wr) (fun _ c _ => ny - (intOf c).toNat)
      case atStart => exact ⟨0, [], Nat.zero_le _, rfl, Nat.le_refl _, Nat.le_refl _, OwnQ.nil _ _, Below.refl _ _⟩
      case round =>
        obtain ⟨k, l, hk, rfl, hl1, hl2, hown, hbr⟩ := hrel
        by_cases hlt : k < ny
        · obtain ⟨b1, off1, ng1, ao1, n1, cap1, ng2, ao2, n2, cap2, ea, FA, hd⟩ := (uy0.mono (Below.step hbw hbr (Nat.le_refl _))) k hlt
          subst ea
          have hE := hE.mono hbr
          obtain ⟨_, _, _, _, _, _, _, _⟩ := FA
          go_wp2_with fail
          have hba := below_alloc wr (.cells #[.bool ng1, .slice ao1 n1 cap1, .bool ng2, .slice ao2 n2 cap2] 39)
          (with_reducible refine (MadeQ _ _ (hd.mono hba) (hE.mono hba)).mono ?_)
          rintro e w1 ⟨⟨r, nga, aoa, na, capa, ngb, aob, nb, capb, rfl, HVa, HVb⟩, hb1⟩
          have hb2 := Below.step hba hb1 (Nat.le_refl _)
          have hown := hown.mono hb2
          have hbel := Below.step hbr hb2 (Nat.le_refl _)
          have hsz := hbel.size
          clear hd hba hb1 hb2 hE hbr 
          go_wp2_with (at_builtin; refine app_q _ rfl _ _ rfl wl wl.heap.size _ l rfl hown hsz hbel HVa HVb rfl (by omega) ?_; intro v2 w2 hown2 hbel2 hsz2)
          go_roundw
          case rel => exact ⟨k + 1, l ++ [r], by omega, by go_num, by simp; omega, by simp; omega, hown2, hbel2⟩
          case measure => simp [intOf]; omega
        · have hly : l.length = ny := by omega
          have HLY := Lib.hid hly
          clear hk hl1 hl2 hly
          obtain ⟨lb, rfl⟩ : ∃ lb : List Rat, lb = l := ⟨_, rfl⟩
          have hownB := hown
          have hb := hbr
          clear hown hbr
          have hM := hM.mono hb
          have ua := ua.mono hb
          have hE := hE.mono hb
          have hbw := Below.step hbw hb (Nat.le_refl _)
          clear hb
          obtain ⟨ab, cb, rfl, ub⟩ := hownB.read
          clear hownB
          have hm : la.length ≤ 1000000000 := by have := HLX.out; omega
          by_cases hl : la.length = lb.length
          · have HL := Lib.hid hl
            clear hl
            obtain ⟨o, ho⟩ := dotS_ex la lb 0
            have HO := Lib.hid ho
            clear ho
            cases o
            · go_wp2_with fail
              (with_reducible refine (Dot_none la lb aa ab ca cb wr hm HL ua ub HO hE).mono ?_)
              rintro e v2 ⟨rfl, hb⟩
              have hM := hM.mono hb
              have ua := ua.mono hb
              have ub := ub.mono hb
              have hE := hE.mono hb
              have hbw := Below.step hbw hb (Nat.le_refl _)
              clear hb
              go_upto_region 15 with fail
              have Y1 := Box4.new v2 (.bool false) (.slice none 0 0) (.bool false) (.slice none 0 0) 29
              have hb := below_alloc v2 (.cells #[.bool false, .slice none 0 0, .bool false, .slice none 0 0] 29)
              generalize v2.alloc (.cells #[.bool false, .slice none 0 0, .bool false, .slice none 0 0] 29) = v3 at *
              have hM := hM.mono hb
              have ua := ua.mono hb
              have ub := ub.mono hb
              have hE := hE.mono hb
              have hbw := Below.step hbw hb (Nat.le_refl _)
              clear hb
              go_wp2_with fail
              (with_reducible refine (rDot_none la lb aa ab ca cb v3 hm HL ua ub HO hE).mono ?_)
              rintro e v4 ⟨rfl, hb⟩
              have hM := hM.mono hb
              have ua := ua.mono hb
              have ub := ub.mono hb
              have Y1 := Y1.mono hb
              have hE := hE.mono hb
              have hbw := Below.step hbw hb (Nat.le_refl _)
              clear hb
              go_upto_region 16 with fail
              have lY2Y1 := Y1.lt
              have Y2 := Box4.new v4 (.bool false) (.slice none 0 0) (.bool false) (.slice none 0 0) 29
              have hb := below_alloc v4 (.cells #[.bool false, .slice none 0 0, .bool false, .slice none 0 0] 29)
              generalize v4.alloc (.cells #[.bool false, .slice none 0 0, .bool false, .slice none 0 0] 29) = v5 at *
              have hM := hM.mono hb
              have ua := ua.mono hb
              have ub := ub.mono hb
              have Y1 := Y1.mono hb
              have hE := hE.mono hb
              have hbw := Below.step hbw hb (Nat.le_refl _)
              clear hb
              obtain ⟨cY1_0, cY1_1, cY1_2, cY1_3, _, _, _, _⟩ := id Y1
              obtain ⟨cY2_0, cY2_1, cY2_2, cY2_3, _, _, _, _⟩ := id Y2
              go_wp2_with fail
              (with_reducible refine (eqQ_same 0 0 0 0 v5 (Lib.hid ⟨rfl, rfl⟩) (IntV.zero _) (IntV.zero _) (IntV.zero _) (IntV.zero _) hE).mono ?_)
              rintro e v6 ⟨rfl, hb⟩
              have hM := hM.mono hb
              have ua := ua.mono hb
              have ub := ub.mono hb
              have Y1 := Y1.mono hb
              have Y2 := Y2.mono hb
              have hE := hE.mono hb
              have hbw := Below.step hbw hb (Nat.le_refl _)
              clear hb
              clear cY1_0 cY1_1 cY1_2 cY1_3 cY2_0 cY2_1 cY2_2 cY2_3
              go_wp2
              go_ret
              exact ⟨rfl, hbw⟩
            · rename_i r
              go_wp2_with fail
              (with_reducible refine (Dot_some la lb r aa ab ca cb wr hm HL ua ub HO hE).mono ?_)
              rintro e v2 ⟨⟨nga, aoa, na, capa, ngb, aob, nb, capb, rfl, HVa, HVb⟩, hb⟩
              have hM := hM.mono hb
              have ua := ua.mono hb
              have ub := ub.mono hb
              have hE := hE.mono hb
              have hbw := Below.step hbw hb (Nat.le_refl _)
              clear hb
              go_upto_region 15 with fail
              have Y1 := Box4.new v2 (.bool nga) (.slice aoa na capa) (.bool ngb) (.slice aob nb capb) 29
              have hb := below_alloc v2 (.cells #[.bool nga, .slice aoa na capa, .bool ngb, .slice aob nb capb] 29)
              generalize v2.alloc (.cells #[.bool nga, .slice aoa na capa, .bool ngb, .slice aob nb capb] 29) = v3 at *
              have hM := hM.mono hb
              have ua := ua.mono hb
              have ub := ub.mono hb
              have HVa := Lib.hid (HVa.out.mono hb)
              have HVb := Lib.hid (HVb.out.mono hb)
              have hE := hE.mono hb
              have hbw := Below.step hbw hb (Nat.le_refl _)
              clear hb
              go_wp2_with fail
              (with_reducible refine (rDot_some la lb r aa ab ca cb v3 hm HL ua ub HO hE).mono ?_)
              rintro e v4 ⟨⟨ngc, aoc, nc, capc, ngd, aod, nd, capd, rfl, HVc, HVd⟩, hb⟩
              have hM := hM.mono hb
              have ua := ua.mono hb
              have ub := ub.mono hb
              have HVa := Lib.hid (HVa.out.mono hb)
              have HVb := Lib.hid (HVb.out.mono hb)
              have Y1 := Y1.mono hb
              have hE := hE.mono hb
              have hbw := Below.step hbw hb (Nat.le_refl _)
              clear hb
              go_upto_region 16 with fail
              have lY2Y1 := Y1.lt
              have Y2 := Box4.new v4 (.bool ngc) (.slice aoc nc capc) (.bool ngd) (.slice aod nd capd) 29
              have hb := below_alloc v4 (.cells #[.bool ngc, .slice aoc nc capc, .bool ngd, .slice aod nd capd] 29)
              generalize v4.alloc (.cells #[.bool ngc, .slice aoc nc capc, .bool ngd, .slice aod nd capd] 29) = v5 at *
              have hM := hM.mono hb
              have ua := ua.mono hb
              have ub := ub.mono hb
              have HVa := Lib.hid (HVa.out.mono hb)
              have HVb := Lib.hid (HVb.out.mono hb)
              have Y1 := Y1.mono hb
              have HVc := Lib.hid (HVc.out.mono hb)
              have HVd := Lib.hid (HVd.out.mono hb)
              have hE := hE.mono hb
              have hbw := Below.step hbw hb (Nat.le_refl _)
              clear hb
              obtain ⟨cY1_0, cY1_1, cY1_2, cY1_3, _, _, _, _⟩ := id Y1
              obtain ⟨cY2_0, cY2_1, cY2_2, cY2_3, _, _, _, _⟩ := id Y2
              go_wp2_with fail
              (with_reducible refine (eqQ_same _ _ _ _ v5 (Lib.hid ⟨rfl, rfl⟩) HVa.out HVb.out HVc.out HVd.out hE).mono ?_)
              rintro e v6 ⟨rfl, hb⟩
              have hM := hM.mono hb
              have ua := ua.mono hb
              have ub := ub.mono hb
              have HVa := Lib.hid (HVa.out.mono hb)
              have HVb := Lib.hid (HVb.out.mono hb)
              have Y1 := Y1.mono hb
              have HVc := Lib.hid (HVc.out.mono hb)
              have HVd := Lib.hid (HVd.out.mono hb)
              have Y2 := Y2.mono hb
              have hE := hE.mono hb
              have hbw := Below.step hbw hb (Nat.le_refl _)
              clear hb
              clear cY1_0 cY1_1 cY1_2 cY1_3 cY2_0 cY2_1 cY2_2 cY2_3
              go_wp2
              go_ret
              exact ⟨rfl, hbw⟩
          · have HL := Lib.hid hl
            clear hl
            go_wp2_with fail
            (with_reducible refine (Dot_ar la lb aa ab ca cb wr HL hE).mono ?_)
            rintro e v2 ⟨rfl, hb⟩
            have hM := hM.mono hb
            have ua := ua.mono hb
            have ub := ub.mono hb
            have hE := hE.mono hb
            have hbw := Below.step hbw hb (Nat.le_refl _)
            clear hb
            go_upto_region 15 with fail
            have Y1 := Box4.new v2 (.bool false) (.slice none 0 0) (.bool false) (.slice none 0 0) 29
            have hb := below_alloc v2 (.cells #[.bool false, .slice none 0 0, .bool false, .slice none 0 0] 29)
            generalize v2.alloc (.cells #[.bool false, .slice none 0 0, .bool false, .slice none 0 0] 29) = v3 at *
            have hM := hM.mono hb
            have ua := ua.mono hb
            have ub := ub.mono hb
            have hE := hE.mono hb
            have hbw := Below.step hbw hb (Nat.le_refl _)
            clear hb
            go_wp2_with fail
            (with_reducible refine (rDot_ar la lb aa ab ca cb v3 HL hE).mono ?_)
            rintro e v4 ⟨rfl, hb⟩
            have hM := hM.mono hb
            have ua := ua.mono hb
            have ub := ub.mono hb
            have Y1 := Y1.mono hb
            have hE := hE.mono hb
            have hbw := Below.step hbw hb (Nat.le_refl _)
            clear hb
            go_upto_region 16 with fail
            have lY2Y1 := Y1.lt
            have Y2 := Box4.new v4 (.bool false) (.slice none 0 0) (.bool false) (.slice none 0 0) 29
            have hb := below_alloc v4 (.cells #[.bool false, .slice none 0 0, .bool false, .slice none 0 0] 29)
            generalize v4.alloc (.cells #[.bool false, .slice none 0 0, .bool false, .slice none 0 0] 29) = v5 at *
            have hM := hM.mono hb
            have ua := ua.mono hb
            have ub := ub.mono hb
            have Y1 := Y1.mono hb
            have hE := hE.mono hb
            have hbw := Below.step hbw hb (Nat.le_refl _)
            clear hb
            obtain ⟨cY1_0, cY1_1, cY1_2, cY1_3, _, _, _, _⟩ := id Y1
            obtain ⟨cY2_0, cY2_1, cY2_2, cY2_3, _, _, _, _⟩ := id Y2
            go_wp2_with fail
            (with_reducible refine (eqQ_same 0 0 0 0 v5 (Lib.hid ⟨rfl, rfl⟩) (IntV.zero _) (IntV.zero _) (IntV.zero _) (IntV.zero _) hE).mono ?_)
            rintro e v6 ⟨rfl, hb⟩
            have hM := hM.mono hb
            have ua := ua.mono hb
            have ub := ub.mono hb
            have Y1 := Y1.mono hb
            have Y2 := Y2.mono hb
            have hE := hE.mono hb
            have hbw := Below.step hbw hb (Nat.le_refl _)
            clear hb
            clear cY1_0 cY1_1 cY1_2 cY1_3 cY2_0 cY2_1 cY2_2 cY2_3
            go_wp2
            go_ret
            exact ⟨rfl, hbw⟩

/-- a slice of descriptions, as it came in -/
def DraftsQ (w : World) (v : Value) : Prop := ∃ (ao : Option Addr) (n c : Nat), v = .slice ao n c ∧ UD w ao n

theorem dot_lawQ (x y : Value) (w : World) (hx : DraftsQ w x) (hy : DraftsQ w y) (hE : Env w) (hM : MaxV w) :
    Calls Tryz.prog 10 #[x, y] w fun e w' => e = .returned (.bool true) ∧ Below w.heap.size w w' := by
  obtain ⟨ax, nx, cx, rfl, ux⟩ := hx
  obtain ⟨ay, ny, cy, rfl, uy⟩ := hy
  by_cases h1 : nx ≤ 8
  · by_cases h2 : ny ≤ 8
    · exact dot_short ax ay nx cx ny cy w ux uy hE hM h1 h2
    · exact dot_long2 ax ay nx cx ny cy w hE hM (Lib.hid (by simp; omega)) (Lib.hid (by simp; omega))
  · exact dot_long1 ax ay nx cx ny cy w hE hM (Lib.hid (by simp; omega))

end Go.Proofs.YtgenhkakcbedaaaGreatDoor
