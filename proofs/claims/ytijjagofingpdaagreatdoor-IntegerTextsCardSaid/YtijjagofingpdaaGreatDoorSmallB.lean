import Derived.Test.YtijjagofingpdaaGreatDoorSmallA
import Derived.Test.YtijjagofingpdaaGreatDoorFlowI
namespace Go.Proofs.YtijjagofingpdaaGreatDoor
open Go.RowKit

set_option maxRecDepth 100000 in
set_option maxHeartbeats 1600000 in
theorem Small_low (a : Value) (x : Int) (w : World) (hlow : Hid (x < -9223372036854775808)) (ha : IntV w a x) (hE : Env w) :
    Calls Tryz.prog 10 #[a] w fun e w' => SmallP x e ∧ Below w.heap.size w w' := by
  obtain ⟨n1, ao1, L1, c1, rfl, Hn1, HL1, HB1, hc1, hl1, hU1⟩ := id ha
  obtain ⟨mn, hmn⟩ : ∃ mn : Int, mn = -9223372036854775808 := ⟨_, rfl⟩
  obtain ⟨mx, hmx⟩ : ∃ mx : Int, mx = 9223372036854775807 := ⟨_, rfl⟩
  have HMN := Lib.hid hmn
  have HMX := Lib.hid hmx
  clear hmn hmx
  go_enter Tryz.func10, Tryz.ntmps10
  go_wp2_with fail
  have hbx := below_alloc w (.cells #[.bool n1, .slice ao1 L1.length c1] 25)
  have B1 := Box.new w (.bool n1) (.slice ao1 L1.length c1) 25
  have hsz : (w.alloc (.cells #[.bool n1, .slice ao1 L1.length c1] 25)).heap.size = w.heap.size + 1 := by simp
  have hUx := hU1.mono hbx
  have hVx := ha.mono hbx
  have hEx := hE.mono hbx
  clear hU1 hE ha
  generalize w.alloc (.cells #[.bool n1, .slice ao1 L1.length c1] 25) = wx at *
  (with_reducible refine (check1 wx _ hsz n1 ao1 L1 c1 hUx ?_ hEx).mono ?_)
  · omega
  rintro e w1 ⟨⟨r, HR, HR2, rfl⟩, hb1⟩
  obtain rfl : r = 0 := HR.out.2 (validP_of x n1 L1 Hn1.out HL1.out HB1.out)
  clear HR HR2 hsz
  have B1 := B1.mono hb1
  have hU1 := hUx.mono hb1
  have hV1 := hVx.mono hb1
  have hE1 := hEx.mono hb1
  have hbw := Below.step hbx hb1 (Nat.le_refl _)
  clear hUx hVx hEx
  go_upto_region 4 with fail
  have hlo : x < mn := by have := hlow.out; have := HMN.out; omega
  have HC1 : Hid (cmpZ x mn = -1) := Lib.hid (by unfold cmpZ; rw [if_pos hlo])
  clear hlo
  have hS := fun W => S1 (W := W) B1
  refine wp_region_vals (wx := w1) [(fun _ v => v = .agg #[.bool n1, .slice ao1 L1.length c1]), (fun W v => IntV W v mn), (fun _ v => v = .int .i64 (-1)), (fun _ v => v = .bool true), (fun _ v => v = .bool true), (fun _ v => v = undef), (fun _ v => v = undef), (fun _ v => v = undef), (fun _ v => v = undef), (fun _ v => v = .bool true)] [13, 14, 15, 16, 17, 18, 19, 20, 21, 22] (by kernel_rfl) (by kernel_rfl) (by kernel_rfl) (of_decide_eq_true (by kernel_rfl)) (Below.refl _ _) ⟨stayB_val _, (fun _ _ _ h hb => h.mono hb), stayB_val _, stayB_val _, stayB_val _, stayB_val _, stayB_val _, stayB_val _, stayB_val _, stayB_val _, trivial⟩ ⟨?s0, ?s1, ?s2, ?s3, ?s4, ?s5, ?s6, ?s7, ?s8, ?s9, trivial⟩ ?he
  case s0 =>
    rintro T W hb hA K hK
    simp only [ovr, Act.put, List.setIfInBounds_toArray, List.set_cons_zero, List.set_cons_succ] at hK ⊢
    have HK := Lib.hid hK
    clear hK hA
    obtain ⟨c0, c1⟩ := hS W hb
    refine wpOp_want rfl (by rfl) ?_
    go_simp
    exact HK.out _ _ (Below.refl _ _) rfl
  case s1 =>
    rintro T W hb hA K hK
    simp only [ovr, Act.put, List.setIfInBounds_toArray, List.set_cons_zero, List.set_cons_succ] at hK ⊢
    have HK := Lib.hid hK
    clear hK hA
    refine wpOp_want rfl (by rfl) ?_
    go_simp
    (with_reducible refine (of_any (-9223372036854775808) (by decide) (by decide) _ (hE1.mono hb)).mono ?_)
    rintro e w1' ⟨⟨ngA, aoA, nA, cA, rfl, HVA⟩, hb1⟩
    have hr := HVA.out
    rw [← HMN.out] at hr
    dsimp only
    exact HK.out _ _ hb1 hr
  case s2 =>
    rintro T W hb hA K hK
    have e0 : T 13 = .agg #[.bool n1, .slice ao1 L1.length c1] := hA.1
    have r1 : (fun W v => IntV W v mn) W (T 14) := hA.2.1
    simp only [ovr, Act.put, List.setIfInBounds_toArray, List.set_cons_zero, List.set_cons_succ, e0] at hK ⊢
    have HK := Lib.hid hK
    clear hK hA
    refine wpOp_want rfl (by rfl) ?_
    go_simp
    (with_reducible refine (Cmp_eq (.agg #[.bool n1, .slice ao1 L1.length c1]) _ x mn (-1) _ HC1 (hV1.mono hb) r1 (hE1.mono hb)).mono ?_)
    rintro e w1' ⟨rfl, hb1⟩
    dsimp only
    exact HK.out _ _ hb1 rfl
  case s3 =>
    rintro T W hb hA K hK
    have e2 : T 15 = .int .i64 (-1) := hA.1
    simp only [ovr, Act.put, List.setIfInBounds_toArray, List.set_cons_zero, List.set_cons_succ, e2] at hK ⊢
    have HK := Lib.hid hK
    clear hK hA
    refine wpOp_want rfl (by rfl) ?_
    go_simp
    exact HK.out _ _ (Below.refl _ _) rfl
  case s4 =>
    rintro T W hb hA K hK
    have e3 : T 16 = .bool true := hA.1
    have e2 : T 15 = .int .i64 (-1) := hA.2.1
    simp only [ovr, Act.put, List.setIfInBounds_toArray, List.set_cons_zero, List.set_cons_succ, e3, e2] at hK ⊢
    have HK := Lib.hid hK
    clear hK hA
    refine wpOp_want rfl (by rfl) ?_
    go_simp
    exact HK.out _ _ (Below.refl _ _) rfl
  case s5 =>
    rintro T W hb hA K hK
    have e4 : T 17 = .bool true := hA.1
    simp only [ovr, Act.put, List.setIfInBounds_toArray, List.set_cons_zero, List.set_cons_succ, e4] at hK ⊢
    have HK := Lib.hid hK
    clear hK hA
    refine wpOp_pass rfl (by rfl) ?_
    simp only [Act.put, List.setIfInBounds_toArray]
    exact HK.out _ _ (Below.refl _ _) rfl
  case s6 =>
    rintro T W hb hA K hK
    have e4 : T 17 = .bool true := hA.1
    simp only [ovr, Act.put, List.setIfInBounds_toArray, List.set_cons_zero, List.set_cons_succ, e4] at hK ⊢
    have HK := Lib.hid hK
    clear hK hA
    refine wpOp_pass rfl (by rfl) ?_
    simp only [Act.put, List.setIfInBounds_toArray]
    exact HK.out _ _ (Below.refl _ _) rfl
  case s7 =>
    rintro T W hb hA K hK
    have e5 : T 18 = undef := hA.1
    have e6 : T 19 = undef := hA.2.1
    have e4 : T 17 = .bool true := hA.2.2.2.1
    simp only [ovr, Act.put, List.setIfInBounds_toArray, List.set_cons_zero, List.set_cons_succ, e5, e6, e4] at hK ⊢
    have HK := Lib.hid hK
    clear hK hA
    refine wpOp_pass rfl (by rfl) ?_
    simp only [Act.put, List.setIfInBounds_toArray]
    exact HK.out _ _ (Below.refl _ _) rfl
  case s8 =>
    rintro T W hb hA K hK
    have e7 : T 20 = undef := hA.1
    have e4 : T 17 = .bool true := hA.2.1
    simp only [ovr, Act.put, List.setIfInBounds_toArray, List.set_cons_zero, List.set_cons_succ, e7, e4] at hK ⊢
    have HK := Lib.hid hK
    clear hK hA
    refine wpOp_pass rfl (by rfl) ?_
    simp only [Act.put, List.setIfInBounds_toArray]
    exact HK.out _ _ (Below.refl _ _) rfl
  case s9 =>
    rintro T W hb hA K hK
    have e4 : T 17 = .bool true := hA.1
    have e8 : T 21 = undef := hA.2.1
    simp only [ovr, Act.put, List.setIfInBounds_toArray, List.set_cons_zero, List.set_cons_succ, e4, e8] at hK ⊢
    have HK := Lib.hid hK
    clear hK hA
    refine wpOp_want rfl (by rfl) ?_
    go_simp
    exact HK.out _ _ (Below.refl _ _) rfl
  case he =>
    rintro T W hb hA
    have e9 : T 22 = .bool true := hA.at 9 (by decide)
    simp only [ovr, List.setIfInBounds_toArray, List.set_cons_zero, List.set_cons_succ, e9]
    go_wp2
    go_ret2
    exact ⟨⟨0, 7, rfl, Lib.hid (.inr ⟨by have := hlow.out; omega, rfl, rfl⟩)⟩, Below.step hbw hb (Nat.le_refl _)⟩

theorem Small_all (a : Value) (x : Int) (w : World) (ha : IntV w a x) (hE : Env w) :
    Calls Tryz.prog 10 #[a] w fun e w' => SmallP x e ∧ Below w.heap.size w w' := by
  by_cases h : -9223372036854775808 ≤ x
  · exact Small_any a x w (Lib.hid h) ha hE
  · exact Small_low a x w (Lib.hid (by omega)) ha hE

end Go.Proofs.YtijjagofingpdaaGreatDoor
