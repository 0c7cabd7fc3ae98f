import Derived.Test.YtijjagofingpdaaGreatDoorSmallB
import Derived.Test.YtijjagofingpdaaGreatDoorPlainF
namespace Go.Proofs.YtijjagofingpdaaGreatDoor
open Go.RowKit

def Mul9 (a b : Nat) : Prop := b = a * 1000000000 ∧ b ≤ 9223372036854775808
def Add9 (a b c : Nat) : Prop := c = a + b ∧ c ≤ 9223372036854775808
theorem Mul9.eq {a b : Nat} (h : Mul9 a b) : Value.int .u64 ((a : Int) * 1000000000 % 18446744073709551616) = .int .u64 (b : Int) := by
  obtain ⟨h1, h2⟩ := h
  congr 1; omega
theorem Add9.eq {a b c : Nat} (h : Add9 a b c) : Value.int .u64 (((a : Int) + (b : Int)) % 18446744073709551616) = .int .u64 (c : Int) := by
  obtain ⟨h1, h2⟩ := h
  congr 1; omega

theorem limbs3 {n : Nat} {L : List Nat} (_h : L = Bi.limbs n) (hb : Bi.val L ≤ 9223372036854775808) : Bi.val L = L.getD 2 0 * 1000000000 * 1000000000 + L.getD 1 0 * 1000000000 + L.getD 0 0 := by
  have key : ∀ i : Nat, Bi.val (L.drop i) = L.getD i 0 + 1000000000 * Bi.val (L.drop (i + 1)) := by
    intro i
    by_cases hi : i < L.length
    · exact Bi.drop_cons hi rfl
    · rw [List.drop_eq_nil_of_le (by omega), List.drop_eq_nil_of_le (by omega), Bi.getD_out (by omega)]
      rfl
  have k0 : Bi.val (L.drop 0) = L.getD 0 0 + 1000000000 * Bi.val (L.drop 1) := key 0
  have k1 : Bi.val (L.drop 1) = L.getD 1 0 + 1000000000 * Bi.val (L.drop 2) := key 1
  have k2 : Bi.val (L.drop 2) = L.getD 2 0 + 1000000000 * Bi.val (L.drop 3) := key 2
  rw [List.drop_zero] at k0
  have k3 : Bi.val (L.drop 3) = 0 := by
    apply Classical.byContradiction
    intro h3
    omega
  omega

theorem limb_at (l : List Nat) (k x : Nat) (K : Int) (ao : Option Addr) (cap : Nat) (w : World) (hK : K = (k : Int)) (ho : Bi.Ok l) (hx : Hid (l.getD k 0 = x)) (hU : U w ao l) (hm : l.length ≤ 1000000000000) :
    Calls Tryz.prog 36 #[.slice ao l.length cap, .int .i64 K] w fun e w' => e = .returned (.int .u64 x) ∧ w = w' := by
  subst hK
  refine (limb_any l k ao cap w hm hU ho).mono ?_
  rintro e w' ⟨⟨y, h1, _, rfl⟩, rfl⟩
  rw [hx.out] at h1
  subst h1
  exact ⟨rfl, rfl⟩

set_option maxRecDepth 100000 in
set_option maxHeartbeats 3200000 in
theorem rSmall_any (a : Value) (x : Int) (w : World) (ha : IntV w a x) (hE : Env w) :
    Calls Tryz.prog 11 #[a] w fun e w' => SmallP x e ∧ Below w.heap.size w w' := by
  obtain ⟨n1, ao1, L1, c1, rfl, Hn1, HL1, HB1, hc1, hl1, hU1⟩ := id ha
  obtain ⟨mn, hmn⟩ : ∃ mn : Int, mn = -9223372036854775808 := ⟨_, rfl⟩
  obtain ⟨mx, hmx⟩ : ∃ mx : Int, mx = 9223372036854775807 := ⟨_, rfl⟩
  have HMN := Lib.hid hmn
  have HMX := Lib.hid hmx
  obtain ⟨out, hout⟩ : ∃ out : Bool, out = decide (x < mn ∨ mx < x) := ⟨_, rfl⟩
  have HO : Hid (out = decide (x < -9223372036854775808 ∨ 9223372036854775807 < x)) := Lib.hid (by rw [hout, hmn, hmx])
  have HOM := Lib.hid hout
  have HMM : Hid (mn < mx) := Lib.hid (by omega)
  clear hmn hmx hout
  go_enter Tryz.func11, Tryz.ntmps11
  go_upto_region 1 with fail
  have hbx := below_alloc w (.cells #[.bool n1, .slice ao1 L1.length c1] 25)
  have B1 := Box.new w (.bool n1) (.slice ao1 L1.length c1) 25
  have hU1 := hU1.mono hbx
  have hV1 := ha.mono hbx
  have hE1 := hE.mono hbx
  clear hE ha
  generalize w.alloc (.cells #[.bool n1, .slice ao1 L1.length c1] 25) = w1 at *
  go_cut [14] (fun s14 wc => s14 = .bool out ∧ Below w1.heap.size w1 wc)
  case first =>
    have hS := fun W => S1 (W := W) B1
    have hcs : (out = true ∧ cmpZ x mn = -1) ∨ (out = true ∧ cmpZ x mn = 1 ∧ cmpZ x mx = 1) ∨ (out = false ∧ (cmpZ x mn = 0 ∨ cmpZ x mn = 1) ∧ (cmpZ x mx = 0 ∨ cmpZ x mx = -1)) := by
      have h1 := HOM.out
      have h2 := HMM.out
      unfold cmpZ
      by_cases c1 : x < mn
      · left; rw [if_pos c1]; exact ⟨by rw [h1]; simp [c1], rfl⟩
      · by_cases c2 : mx < x
        · right; left
          rw [if_neg c1, if_pos (show mn < x by omega), if_neg (show ¬ x < mx by omega), if_pos c2]
          exact ⟨by rw [h1]; simp [c2], rfl, rfl⟩
        · right; right
          refine ⟨by rw [h1]; simp [c1, c2], ?_, ?_⟩
          · rw [if_neg c1]
            by_cases c3 : mn < x
            · rw [if_pos c3]; exact .inr rfl
            · rw [if_neg c3]; exact .inl rfl
          · by_cases c3 : x < mx
            · rw [if_pos c3]; exact .inr rfl
            · rw [if_neg c3, if_neg c2]; exact .inl rfl
    rcases hcs with ⟨rfl, hc⟩ | ⟨rfl, hc, hd⟩ | ⟨rfl, hc, hd⟩
    · have HC1 := Lib.hid hc
      clear hc
      refine wp_region_vals (wx := w1) [(fun _ v => v = .agg #[.bool n1, .slice ao1 L1.length c1]), (fun W v => IntV W v mn), (fun _ v => v = .int .i64 (-1)), (fun _ v => v = .bool true), (fun _ v => v = .bool true), (fun _ v => v = undef), (fun _ v => v = undef), (fun _ v => v = undef), (fun _ v => v = undef), (fun _ v => v = .bool true)] [5, 6, 7, 8, 9, 10, 11, 12, 13, 14] (by kernel_rfl) (by kernel_rfl) (by kernel_rfl) (of_decide_eq_true (by kernel_rfl)) (Below.refl _ _) ⟨stayB_val _, (fun _ _ _ h hb => h.mono hb), stayB_val _, stayB_val _, stayB_val _, stayB_val _, stayB_val _, stayB_val _, stayB_val _, stayB_val _, trivial⟩ ⟨?s0, ?s1, ?s2, ?s3, ?s4, ?s5, ?s6, ?s7, ?s8, ?s9, trivial⟩ ?he
      case s0 =>
        rintro T W hb hA K hK
        simp only [ovr, Act.put, List.setIfInBounds_toArray, List.set_cons_zero, List.set_cons_succ] at hK ⊢
        have HK := Lib.hid hK
        clear hK hA
        obtain ⟨c0, c1⟩ := hS W hb
        refine wpOp_want rfl (by rfl) ?_
        go_simp
        exact HK.out _ _ (Below.refl _ _) rfl
      case s1 =>
        rintro T W hb hA K hK
        simp only [ovr, Act.put, List.setIfInBounds_toArray, List.set_cons_zero, List.set_cons_succ] at hK ⊢
        have HK := Lib.hid hK
        clear hK hA
        refine wpOp_want rfl (by rfl) ?_
        go_simp
        (with_reducible refine (rof_any (-9223372036854775808) (by decide) (by decide) _ (hE1.mono hb)).mono ?_)
        rintro e w1' ⟨⟨ngA, aoA, nA, cA, rfl, HVA⟩, hb1⟩
        have hr := HVA.out
        rw [← HMN.out] at hr
        dsimp only
        exact HK.out _ _ hb1 hr
      case s2 =>
        rintro T W hb hA K hK
        have e0 : T 5 = .agg #[.bool n1, .slice ao1 L1.length c1] := hA.1
        have r1 : (fun W v => IntV W v mn) W (T 6) := hA.2.1
        simp only [ovr, Act.put, List.setIfInBounds_toArray, List.set_cons_zero, List.set_cons_succ, e0] at hK ⊢
        have HK := Lib.hid hK
        clear hK hA
        refine wpOp_want rfl (by rfl) ?_
        go_simp
        (with_reducible refine (rCmp_eq (.agg #[.bool n1, .slice ao1 L1.length c1]) _ x mn (-1) _ HC1 (hV1.mono hb) r1).mono ?_)
        rintro e w1' ⟨rfl, hb1⟩
        dsimp only
        exact HK.out _ _ hb1 rfl
      case s3 =>
        rintro T W hb hA K hK
        have e2 : T 7 = .int .i64 (-1) := hA.1
        simp only [ovr, Act.put, List.setIfInBounds_toArray, List.set_cons_zero, List.set_cons_succ, e2] at hK ⊢
        have HK := Lib.hid hK
        clear hK hA
        refine wpOp_want rfl (by rfl) ?_
        go_simp
        exact HK.out _ _ (Below.refl _ _) rfl
      case s4 =>
        rintro T W hb hA K hK
        have e3 : T 8 = .bool true := hA.1
        have e2 : T 7 = .int .i64 (-1) := hA.2.1
        simp only [ovr, Act.put, List.setIfInBounds_toArray, List.set_cons_zero, List.set_cons_succ, e3, e2] at hK ⊢
        have HK := Lib.hid hK
        clear hK hA
        refine wpOp_want rfl (by rfl) ?_
        go_simp
        exact HK.out _ _ (Below.refl _ _) rfl
      case s5 =>
        rintro T W hb hA K hK
        have e4 : T 9 = .bool true := hA.1
        simp only [ovr, Act.put, List.setIfInBounds_toArray, List.set_cons_zero, List.set_cons_succ, e4] at hK ⊢
        have HK := Lib.hid hK
        clear hK hA
        refine wpOp_pass rfl (by rfl) ?_
        simp only [Act.put, List.setIfInBounds_toArray]
        exact HK.out _ _ (Below.refl _ _) rfl
      case s6 =>
        rintro T W hb hA K hK
        have e4 : T 9 = .bool true := hA.1
        simp only [ovr, Act.put, List.setIfInBounds_toArray, List.set_cons_zero, List.set_cons_succ, e4] at hK ⊢
        have HK := Lib.hid hK
        clear hK hA
        refine wpOp_pass rfl (by rfl) ?_
        simp only [Act.put, List.setIfInBounds_toArray]
        exact HK.out _ _ (Below.refl _ _) rfl
      case s7 =>
        rintro T W hb hA K hK
        have e5 : T 10 = undef := hA.1
        have e6 : T 11 = undef := hA.2.1
        have e4 : T 9 = .bool true := hA.2.2.2.1
        simp only [ovr, Act.put, List.setIfInBounds_toArray, List.set_cons_zero, List.set_cons_succ, e5, e6, e4] at hK ⊢
        have HK := Lib.hid hK
        clear hK hA
        refine wpOp_pass rfl (by rfl) ?_
        simp only [Act.put, List.setIfInBounds_toArray]
        exact HK.out _ _ (Below.refl _ _) rfl
      case s8 =>
        rintro T W hb hA K hK
        have e7 : T 12 = undef := hA.1
        have e4 : T 9 = .bool true := hA.2.1
        simp only [ovr, Act.put, List.setIfInBounds_toArray, List.set_cons_zero, List.set_cons_succ, e7, e4] at hK ⊢
        have HK := Lib.hid hK
        clear hK hA
        refine wpOp_pass rfl (by rfl) ?_
        simp only [Act.put, List.setIfInBounds_toArray]
        exact HK.out _ _ (Below.refl _ _) rfl
      case s9 =>
        rintro T W hb hA K hK
        have e4 : T 9 = .bool true := hA.1
        have e8 : T 13 = undef := hA.2.1
        simp only [ovr, Act.put, List.setIfInBounds_toArray, List.set_cons_zero, List.set_cons_succ, e4, e8] at hK ⊢
        have HK := Lib.hid hK
        clear hK hA
        refine wpOp_want rfl (by rfl) ?_
        go_simp
        exact HK.out _ _ (Below.refl _ _) rfl
      case he =>
        rintro T W hb hA
        have e9 : T 14 = .bool true := hA.at 9 (by decide)
        simp only [ovr, List.setIfInBounds_toArray, List.set_cons_zero, List.set_cons_succ, e9]
        go_wp2_with fail
        go_meet
        exact ⟨rfl, hb⟩
    · have HC1 := Lib.hid hc
      have HC2 := Lib.hid hd
      clear hc hd
      refine wp_region_vals (wx := w1) [(fun _ v => v = .agg #[.bool n1, .slice ao1 L1.length c1]), (fun W v => IntV W v mn), (fun _ v => v = .int .i64 (1)), (fun _ v => v = .bool false), (fun _ v => v = .bool false), (fun _ v => v = .agg #[.bool n1, .slice ao1 L1.length c1]), (fun W v => IntV W v mx), (fun _ v => v = .int .i64 (1)), (fun _ v => v = .bool true), (fun _ v => v = .bool true)] [5, 6, 7, 8, 9, 10, 11, 12, 13, 14] (by kernel_rfl) (by kernel_rfl) (by kernel_rfl) (of_decide_eq_true (by kernel_rfl)) (Below.refl _ _) ⟨stayB_val _, (fun _ _ _ h hb => h.mono hb), stayB_val _, stayB_val _, stayB_val _, stayB_val _, (fun _ _ _ h hb => h.mono hb), stayB_val _, stayB_val _, stayB_val _, trivial⟩ ⟨?s0, ?s1, ?s2, ?s3, ?s4, ?s5, ?s6, ?s7, ?s8, ?s9, trivial⟩ ?he
      case s0 =>
        rintro T W hb hA K hK
        simp only [ovr, Act.put, List.setIfInBounds_toArray, List.set_cons_zero, List.set_cons_succ] at hK ⊢
        have HK := Lib.hid hK
        clear hK hA
        obtain ⟨c0, c1⟩ := hS W hb
        refine wpOp_want rfl (by rfl) ?_
        go_simp
        exact HK.out _ _ (Below.refl _ _) rfl
      case s1 =>
        rintro T W hb hA K hK
        simp only [ovr, Act.put, List.setIfInBounds_toArray, List.set_cons_zero, List.set_cons_succ] at hK ⊢
        have HK := Lib.hid hK
        clear hK hA
        refine wpOp_want rfl (by rfl) ?_
        go_simp
        (with_reducible refine (rof_any (-9223372036854775808) (by decide) (by decide) _ (hE1.mono hb)).mono ?_)
        rintro e w1' ⟨⟨ngA, aoA, nA, cA, rfl, HVA⟩, hb1⟩
        have hr := HVA.out
        rw [← HMN.out] at hr
        dsimp only
        exact HK.out _ _ hb1 hr
      case s2 =>
        rintro T W hb hA K hK
        have e0 : T 5 = .agg #[.bool n1, .slice ao1 L1.length c1] := hA.1
        have r1 : (fun W v => IntV W v mn) W (T 6) := hA.2.1
        simp only [ovr, Act.put, List.setIfInBounds_toArray, List.set_cons_zero, List.set_cons_succ, e0] at hK ⊢
        have HK := Lib.hid hK
        clear hK hA
        refine wpOp_want rfl (by rfl) ?_
        go_simp
        (with_reducible refine (rCmp_eq (.agg #[.bool n1, .slice ao1 L1.length c1]) _ x mn (1) _ HC1 (hV1.mono hb) r1).mono ?_)
        rintro e w1' ⟨rfl, hb1⟩
        dsimp only
        exact HK.out _ _ hb1 rfl
      case s3 =>
        rintro T W hb hA K hK
        have e2 : T 7 = .int .i64 (1) := hA.1
        simp only [ovr, Act.put, List.setIfInBounds_toArray, List.set_cons_zero, List.set_cons_succ, e2] at hK ⊢
        have HK := Lib.hid hK
        clear hK hA
        refine wpOp_want rfl (by rfl) ?_
        go_simp
        exact HK.out _ _ (Below.refl _ _) rfl
      case s4 =>
        rintro T W hb hA K hK
        have e3 : T 8 = .bool false := hA.1
        have e2 : T 7 = .int .i64 (1) := hA.2.1
        simp only [ovr, Act.put, List.setIfInBounds_toArray, List.set_cons_zero, List.set_cons_succ, e3, e2] at hK ⊢
        have HK := Lib.hid hK
        clear hK hA
        refine wpOp_want rfl (by rfl) ?_
        go_simp
        exact HK.out _ _ (Below.refl _ _) rfl
      case s5 =>
        rintro T W hb hA K hK
        have e4 : T 9 = .bool false := hA.1
        simp only [ovr, Act.put, List.setIfInBounds_toArray, List.set_cons_zero, List.set_cons_succ, e4] at hK ⊢
        have HK := Lib.hid hK
        clear hK hA
        obtain ⟨c0, c1⟩ := hS W hb
        refine wpOp_want rfl (by rfl) ?_
        go_simp
        exact HK.out _ _ (Below.refl _ _) rfl
      case s6 =>
        rintro T W hb hA K hK
        have e4 : T 9 = .bool false := hA.1
        simp only [ovr, Act.put, List.setIfInBounds_toArray, List.set_cons_zero, List.set_cons_succ, e4] at hK ⊢
        have HK := Lib.hid hK
        clear hK hA
        refine wpOp_want rfl (by rfl) ?_
        go_simp
        (with_reducible refine (rof_any (9223372036854775807) (by decide) (by decide) _ (hE1.mono hb)).mono ?_)
        rintro e w1' ⟨⟨ngA, aoA, nA, cA, rfl, HVA⟩, hb1⟩
        have hr := HVA.out
        rw [← HMX.out] at hr
        dsimp only
        exact HK.out _ _ hb1 hr
      case s7 =>
        rintro T W hb hA K hK
        have e5 : T 10 = .agg #[.bool n1, .slice ao1 L1.length c1] := hA.1
        have r6 : (fun W v => IntV W v mx) W (T 11) := hA.2.1
        have e4 : T 9 = .bool false := hA.2.2.2.1
        simp only [ovr, Act.put, List.setIfInBounds_toArray, List.set_cons_zero, List.set_cons_succ, e5, e4] at hK ⊢
        have HK := Lib.hid hK
        clear hK hA
        refine wpOp_want rfl (by rfl) ?_
        go_simp
        (with_reducible refine (rCmp_eq (.agg #[.bool n1, .slice ao1 L1.length c1]) _ x mx (1) _ HC2 (hV1.mono hb) r6).mono ?_)
        rintro e w1' ⟨rfl, hb1⟩
        dsimp only
        exact HK.out _ _ hb1 rfl
      case s8 =>
        rintro T W hb hA K hK
        have e7 : T 12 = .int .i64 (1) := hA.1
        have e4 : T 9 = .bool false := hA.2.1
        simp only [ovr, Act.put, List.setIfInBounds_toArray, List.set_cons_zero, List.set_cons_succ, e7, e4] at hK ⊢
        have HK := Lib.hid hK
        clear hK hA
        refine wpOp_want rfl (by rfl) ?_
        go_simp
        exact HK.out _ _ (Below.refl _ _) rfl
      case s9 =>
        rintro T W hb hA K hK
        have e4 : T 9 = .bool false := hA.1
        have e8 : T 13 = .bool true := hA.2.1
        simp only [ovr, Act.put, List.setIfInBounds_toArray, List.set_cons_zero, List.set_cons_succ, e4, e8] at hK ⊢
        have HK := Lib.hid hK
        clear hK hA
        refine wpOp_want rfl (by rfl) ?_
        go_simp
        exact HK.out _ _ (Below.refl _ _) rfl
      case he =>
        rintro T W hb hA
        have e9 : T 14 = .bool true := hA.at 9 (by decide)
        simp only [ovr, List.setIfInBounds_toArray, List.set_cons_zero, List.set_cons_succ, e9]
        go_wp2_with fail
        go_meet
        exact ⟨rfl, hb⟩
    rcases hc with hc | hc <;> rcases hd with hd | hd
    · have HC1 := Lib.hid hc
      have HC2 := Lib.hid hd
      clear hc hd
      refine wp_region_vals (wx := w1) [(fun _ v => v = .agg #[.bool n1, .slice ao1 L1.length c1]), (fun W v => IntV W v mn), (fun _ v => v = .int .i64 (0)), (fun _ v => v = .bool false), (fun _ v => v = .bool false), (fun _ v => v = .agg #[.bool n1, .slice ao1 L1.length c1]), (fun W v => IntV W v mx), (fun _ v => v = .int .i64 (0)), (fun _ v => v = .bool false), (fun _ v => v = .bool false)] [5, 6, 7, 8, 9, 10, 11, 12, 13, 14] (by kernel_rfl) (by kernel_rfl) (by kernel_rfl) (of_decide_eq_true (by kernel_rfl)) (Below.refl _ _) ⟨stayB_val _, (fun _ _ _ h hb => h.mono hb), stayB_val _, stayB_val _, stayB_val _, stayB_val _, (fun _ _ _ h hb => h.mono hb), stayB_val _, stayB_val _, stayB_val _, trivial⟩ ⟨?s0, ?s1, ?s2, ?s3, ?s4, ?s5, ?s6, ?s7, ?s8, ?s9, trivial⟩ ?he
      case s0 =>
        rintro T W hb hA K hK
        simp only [ovr, Act.put, List.setIfInBounds_toArray, List.set_cons_zero, List.set_cons_succ] at hK ⊢
        have HK := Lib.hid hK
        clear hK hA
        obtain ⟨c0, c1⟩ := hS W hb
        refine wpOp_want rfl (by rfl) ?_
        go_simp
        exact HK.out _ _ (Below.refl _ _) rfl
      case s1 =>
        rintro T W hb hA K hK
        simp only [ovr, Act.put, List.setIfInBounds_toArray, List.set_cons_zero, List.set_cons_succ] at hK ⊢
        have HK := Lib.hid hK
        clear hK hA
        refine wpOp_want rfl (by rfl) ?_
        go_simp
        (with_reducible refine (rof_any (-9223372036854775808) (by decide) (by decide) _ (hE1.mono hb)).mono ?_)
        rintro e w1' ⟨⟨ngA, aoA, nA, cA, rfl, HVA⟩, hb1⟩
        have hr := HVA.out
        rw [← HMN.out] at hr
        dsimp only
        exact HK.out _ _ hb1 hr
      case s2 =>
        rintro T W hb hA K hK
        have e0 : T 5 = .agg #[.bool n1, .slice ao1 L1.length c1] := hA.1
        have r1 : (fun W v => IntV W v mn) W (T 6) := hA.2.1
        simp only [ovr, Act.put, List.setIfInBounds_toArray, List.set_cons_zero, List.set_cons_succ, e0] at hK ⊢
        have HK := Lib.hid hK
        clear hK hA
        refine wpOp_want rfl (by rfl) ?_
        go_simp
        (with_reducible refine (rCmp_eq (.agg #[.bool n1, .slice ao1 L1.length c1]) _ x mn (0) _ HC1 (hV1.mono hb) r1).mono ?_)
        rintro e w1' ⟨rfl, hb1⟩
        dsimp only
        exact HK.out _ _ hb1 rfl
      case s3 =>
        rintro T W hb hA K hK
        have e2 : T 7 = .int .i64 (0) := hA.1
        simp only [ovr, Act.put, List.setIfInBounds_toArray, List.set_cons_zero, List.set_cons_succ, e2] at hK ⊢
        have HK := Lib.hid hK
        clear hK hA
        refine wpOp_want rfl (by rfl) ?_
        go_simp
        exact HK.out _ _ (Below.refl _ _) rfl
      case s4 =>
        rintro T W hb hA K hK
        have e3 : T 8 = .bool false := hA.1
        have e2 : T 7 = .int .i64 (0) := hA.2.1
        simp only [ovr, Act.put, List.setIfInBounds_toArray, List.set_cons_zero, List.set_cons_succ, e3, e2] at hK ⊢
        have HK := Lib.hid hK
        clear hK hA
        refine wpOp_want rfl (by rfl) ?_
        go_simp
        exact HK.out _ _ (Below.refl _ _) rfl
      case s5 =>
        rintro T W hb hA K hK
        have e4 : T 9 = .bool false := hA.1
        simp only [ovr, Act.put, List.setIfInBounds_toArray, List.set_cons_zero, List.set_cons_succ, e4] at hK ⊢
        have HK := Lib.hid hK
        clear hK hA
        obtain ⟨c0, c1⟩ := hS W hb
        refine wpOp_want rfl (by rfl) ?_
        go_simp
        exact HK.out _ _ (Below.refl _ _) rfl
      case s6 =>
        rintro T W hb hA K hK
        have e4 : T 9 = .bool false := hA.1
        simp only [ovr, Act.put, List.setIfInBounds_toArray, List.set_cons_zero, List.set_cons_succ, e4] at hK ⊢
        have HK := Lib.hid hK
        clear hK hA
        refine wpOp_want rfl (by rfl) ?_
        go_simp
        (with_reducible refine (rof_any (9223372036854775807) (by decide) (by decide) _ (hE1.mono hb)).mono ?_)
        rintro e w1' ⟨⟨ngA, aoA, nA, cA, rfl, HVA⟩, hb1⟩
        have hr := HVA.out
        rw [← HMX.out] at hr
        dsimp only
        exact HK.out _ _ hb1 hr
      case s7 =>
        rintro T W hb hA K hK
        have e5 : T 10 = .agg #[.bool n1, .slice ao1 L1.length c1] := hA.1
        have r6 : (fun W v => IntV W v mx) W (T 11) := hA.2.1
        have e4 : T 9 = .bool false := hA.2.2.2.1
        simp only [ovr, Act.put, List.setIfInBounds_toArray, List.set_cons_zero, List.set_cons_succ, e5, e4] at hK ⊢
        have HK := Lib.hid hK
        clear hK hA
        refine wpOp_want rfl (by rfl) ?_
        go_simp
        (with_reducible refine (rCmp_eq (.agg #[.bool n1, .slice ao1 L1.length c1]) _ x mx (0) _ HC2 (hV1.mono hb) r6).mono ?_)
        rintro e w1' ⟨rfl, hb1⟩
        dsimp only
        exact HK.out _ _ hb1 rfl
      case s8 =>
        rintro T W hb hA K hK
        have e7 : T 12 = .int .i64 (0) := hA.1
        have e4 : T 9 = .bool false := hA.2.1
        simp only [ovr, Act.put, List.setIfInBounds_toArray, List.set_cons_zero, List.set_cons_succ, e7, e4] at hK ⊢
        have HK := Lib.hid hK
        clear hK hA
        refine wpOp_want rfl (by rfl) ?_
        go_simp
        exact HK.out _ _ (Below.refl _ _) rfl
      case s9 =>
        rintro T W hb hA K hK
        have e4 : T 9 = .bool false := hA.1
        have e8 : T 13 = .bool false := hA.2.1
        simp only [ovr, Act.put, List.setIfInBounds_toArray, List.set_cons_zero, List.set_cons_succ, e4, e8] at hK ⊢
        have HK := Lib.hid hK
        clear hK hA
        refine wpOp_want rfl (by rfl) ?_
        go_simp
        exact HK.out _ _ (Below.refl _ _) rfl
      case he =>
        rintro T W hb hA
        have e9 : T 14 = .bool false := hA.at 9 (by decide)
        simp only [ovr, List.setIfInBounds_toArray, List.set_cons_zero, List.set_cons_succ, e9]
        go_wp2_with fail
        go_meet
        exact ⟨rfl, hb⟩
    · have HC1 := Lib.hid hc
      have HC2 := Lib.hid hd
      clear hc hd
      refine wp_region_vals (wx := w1) [(fun _ v => v = .agg #[.bool n1, .slice ao1 L1.length c1]), (fun W v => IntV W v mn), (fun _ v => v = .int .i64 (0)), (fun _ v => v = .bool false), (fun _ v => v = .bool false), (fun _ v => v = .agg #[.bool n1, .slice ao1 L1.length c1]), (fun W v => IntV W v mx), (fun _ v => v = .int .i64 (-1)), (fun _ v => v = .bool false), (fun _ v => v = .bool false)] [5, 6, 7, 8, 9, 10, 11, 12, 13, 14] (by kernel_rfl) (by kernel_rfl) (by kernel_rfl) (of_decide_eq_true (by kernel_rfl)) (Below.refl _ _) ⟨stayB_val _, (fun _ _ _ h hb => h.mono hb), stayB_val _, stayB_val _, stayB_val _, stayB_val _, (fun _ _ _ h hb => h.mono hb), stayB_val _, stayB_val _, stayB_val _, trivial⟩ ⟨?s0, ?s1, ?s2, ?s3, ?s4, ?s5, ?s6, ?s7, ?s8, ?s9, trivial⟩ ?he
      case s0 =>
        rintro T W hb hA K hK
        simp only [ovr, Act.put, List.setIfInBounds_toArray, List.set_cons_zero, List.set_cons_succ] at hK ⊢
        have HK := Lib.hid hK
        clear hK hA
        obtain ⟨c0, c1⟩ := hS W hb
        refine wpOp_want rfl (by rfl) ?_
        go_simp
        exact HK.out _ _ (Below.refl _ _) rfl
      case s1 =>
        rintro T W hb hA K hK
        simp only [ovr, Act.put, List.setIfInBounds_toArray, List.set_cons_zero, List.set_cons_succ] at hK ⊢
        have HK := Lib.hid hK
        clear hK hA
        refine wpOp_want rfl (by rfl) ?_
        go_simp
        (with_reducible refine (rof_any (-9223372036854775808) (by decide) (by decide) _ (hE1.mono hb)).mono ?_)
        rintro e w1' ⟨⟨ngA, aoA, nA, cA, rfl, HVA⟩, hb1⟩
        have hr := HVA.out
        rw [← HMN.out] at hr
        dsimp only
        exact HK.out _ _ hb1 hr
      case s2 =>
        rintro T W hb hA K hK
        have e0 : T 5 = .agg #[.bool n1, .slice ao1 L1.length c1] := hA.1
        have r1 : (fun W v => IntV W v mn) W (T 6) := hA.2.1
        simp only [ovr, Act.put, List.setIfInBounds_toArray, List.set_cons_zero, List.set_cons_succ, e0] at hK ⊢
        have HK := Lib.hid hK
        clear hK hA
        refine wpOp_want rfl (by rfl) ?_
        go_simp
        (with_reducible refine (rCmp_eq (.agg #[.bool n1, .slice ao1 L1.length c1]) _ x mn (0) _ HC1 (hV1.mono hb) r1).mono ?_)
        rintro e w1' ⟨rfl, hb1⟩
        dsimp only
        exact HK.out _ _ hb1 rfl
      case s3 =>
        rintro T W hb hA K hK
        have e2 : T 7 = .int .i64 (0) := hA.1
        simp only [ovr, Act.put, List.setIfInBounds_toArray, List.set_cons_zero, List.set_cons_succ, e2] at hK ⊢
        have HK := Lib.hid hK
        clear hK hA
        refine wpOp_want rfl (by rfl) ?_
        go_simp
        exact HK.out _ _ (Below.refl _ _) rfl
      case s4 =>
        rintro T W hb hA K hK
        have e3 : T 8 = .bool false := hA.1
        have e2 : T 7 = .int .i64 (0) := hA.2.1
        simp only [ovr, Act.put, List.setIfInBounds_toArray, List.set_cons_zero, List.set_cons_succ, e3, e2] at hK ⊢
        have HK := Lib.hid hK
        clear hK hA
        refine wpOp_want rfl (by rfl) ?_
        go_simp
        exact HK.out _ _ (Below.refl _ _) rfl
      case s5 =>
        rintro T W hb hA K hK
        have e4 : T 9 = .bool false := hA.1
        simp only [ovr, Act.put, List.setIfInBounds_toArray, List.set_cons_zero, List.set_cons_succ, e4] at hK ⊢
        have HK := Lib.hid hK
        clear hK hA
        obtain ⟨c0, c1⟩ := hS W hb
        refine wpOp_want rfl (by rfl) ?_
        go_simp
        exact HK.out _ _ (Below.refl _ _) rfl
      case s6 =>
        rintro T W hb hA K hK
        have e4 : T 9 = .bool false := hA.1
        simp only [ovr, Act.put, List.setIfInBounds_toArray, List.set_cons_zero, List.set_cons_succ, e4] at hK ⊢
        have HK := Lib.hid hK
        clear hK hA
        refine wpOp_want rfl (by rfl) ?_
        go_simp
        (with_reducible refine (rof_any (9223372036854775807) (by decide) (by decide) _ (hE1.mono hb)).mono ?_)
        rintro e w1' ⟨⟨ngA, aoA, nA, cA, rfl, HVA⟩, hb1⟩
        have hr := HVA.out
        rw [← HMX.out] at hr
        dsimp only
        exact HK.out _ _ hb1 hr
      case s7 =>
        rintro T W hb hA K hK
        have e5 : T 10 = .agg #[.bool n1, .slice ao1 L1.length c1] := hA.1
        have r6 : (fun W v => IntV W v mx) W (T 11) := hA.2.1
        have e4 : T 9 = .bool false := hA.2.2.2.1
        simp only [ovr, Act.put, List.setIfInBounds_toArray, List.set_cons_zero, List.set_cons_succ, e5, e4] at hK ⊢
        have HK := Lib.hid hK
        clear hK hA
        refine wpOp_want rfl (by rfl) ?_
        go_simp
        (with_reducible refine (rCmp_eq (.agg #[.bool n1, .slice ao1 L1.length c1]) _ x mx (-1) _ HC2 (hV1.mono hb) r6).mono ?_)
        rintro e w1' ⟨rfl, hb1⟩
        dsimp only
        exact HK.out _ _ hb1 rfl
      case s8 =>
        rintro T W hb hA K hK
        have e7 : T 12 = .int .i64 (-1) := hA.1
        have e4 : T 9 = .bool false := hA.2.1
        simp only [ovr, Act.put, List.setIfInBounds_toArray, List.set_cons_zero, List.set_cons_succ, e7, e4] at hK ⊢
        have HK := Lib.hid hK
        clear hK hA
        refine wpOp_want rfl (by rfl) ?_
        go_simp
        exact HK.out _ _ (Below.refl _ _) rfl
      case s9 =>
        rintro T W hb hA K hK
        have e4 : T 9 = .bool false := hA.1
        have e8 : T 13 = .bool false := hA.2.1
        simp only [ovr, Act.put, List.setIfInBounds_toArray, List.set_cons_zero, List.set_cons_succ, e4, e8] at hK ⊢
        have HK := Lib.hid hK
        clear hK hA
        refine wpOp_want rfl (by rfl) ?_
        go_simp
        exact HK.out _ _ (Below.refl _ _) rfl
      case he =>
        rintro T W hb hA
        have e9 : T 14 = .bool false := hA.at 9 (by decide)
        simp only [ovr, List.setIfInBounds_toArray, List.set_cons_zero, List.set_cons_succ, e9]
        go_wp2_with fail
        go_meet
        exact ⟨rfl, hb⟩
    · have HC1 := Lib.hid hc
      have HC2 := Lib.hid hd
      clear hc hd
      refine wp_region_vals (wx := w1) [(fun _ v => v = .agg #[.bool n1, .slice ao1 L1.length c1]), (fun W v => IntV W v mn), (fun _ v => v = .int .i64 (1)), (fun _ v => v = .bool false), (fun _ v => v = .bool false), (fun _ v => v = .agg #[.bool n1, .slice ao1 L1.length c1]), (fun W v => IntV W v mx), (fun _ v => v = .int .i64 (0)), (fun _ v => v = .bool false), (fun _ v => v = .bool false)] [5, 6, 7, 8, 9, 10, 11, 12, 13, 14] (by kernel_rfl) (by kernel_rfl) (by kernel_rfl) (of_decide_eq_true (by kernel_rfl)) (Below.refl _ _) ⟨stayB_val _, (fun _ _ _ h hb => h.mono hb), stayB_val _, stayB_val _, stayB_val _, stayB_val _, (fun _ _ _ h hb => h.mono hb), stayB_val _, stayB_val _, stayB_val _, trivial⟩ ⟨?s0, ?s1, ?s2, ?s3, ?s4, ?s5, ?s6, ?s7, ?s8, ?s9, trivial⟩ ?he
      case s0 =>
        rintro T W hb hA K hK
        simp only [ovr, Act.put, List.setIfInBounds_toArray, List.set_cons_zero, List.set_cons_succ] at hK ⊢
        have HK := Lib.hid hK
        clear hK hA
        obtain ⟨c0, c1⟩ := hS W hb
        refine wpOp_want rfl (by rfl) ?_
        go_simp
        exact HK.out _ _ (Below.refl _ _) rfl
      case s1 =>
        rintro T W hb hA K hK
        simp only [ovr, Act.put, List.setIfInBounds_toArray, List.set_cons_zero, List.set_cons_succ] at hK ⊢
        have HK := Lib.hid hK
        clear hK hA
        refine wpOp_want rfl (by rfl) ?_
        go_simp
        (with_reducible refine (rof_any (-9223372036854775808) (by decide) (by decide) _ (hE1.mono hb)).mono ?_)
        rintro e w1' ⟨⟨ngA, aoA, nA, cA, rfl, HVA⟩, hb1⟩
        have hr := HVA.out
        rw [← HMN.out] at hr
        dsimp only
        exact HK.out _ _ hb1 hr
      case s2 =>
        rintro T W hb hA K hK
        have e0 : T 5 = .agg #[.bool n1, .slice ao1 L1.length c1] := hA.1
        have r1 : (fun W v => IntV W v mn) W (T 6) := hA.2.1
        simp only [ovr, Act.put, List.setIfInBounds_toArray, List.set_cons_zero, List.set_cons_succ, e0] at hK ⊢
        have HK := Lib.hid hK
        clear hK hA
        refine wpOp_want rfl (by rfl) ?_
        go_simp
        (with_reducible refine (rCmp_eq (.agg #[.bool n1, .slice ao1 L1.length c1]) _ x mn (1) _ HC1 (hV1.mono hb) r1).mono ?_)
        rintro e w1' ⟨rfl, hb1⟩
        dsimp only
        exact HK.out _ _ hb1 rfl
      case s3 =>
        rintro T W hb hA K hK
        have e2 : T 7 = .int .i64 (1) := hA.1
        simp only [ovr, Act.put, List.setIfInBounds_toArray, List.set_cons_zero, List.set_cons_succ, e2] at hK ⊢
        have HK := Lib.hid hK
        clear hK hA
        refine wpOp_want rfl (by rfl) ?_
        go_simp
        exact HK.out _ _ (Below.refl _ _) rfl
      case s4 =>
        rintro T W hb hA K hK
        have e3 : T 8 = .bool false := hA.1
        have e2 : T 7 = .int .i64 (1) := hA.2.1
        simp only [ovr, Act.put, List.setIfInBounds_toArray, List.set_cons_zero, List.set_cons_succ, e3, e2] at hK ⊢
        have HK := Lib.hid hK
        clear hK hA
        refine wpOp_want rfl (by rfl) ?_
        go_simp
        exact HK.out _ _ (Below.refl _ _) rfl
      case s5 =>
        rintro T W hb hA K hK
        have e4 : T 9 = .bool false := hA.1
        simp only [ovr, Act.put, List.setIfInBounds_toArray, List.set_cons_zero, List.set_cons_succ, e4] at hK ⊢
        have HK := Lib.hid hK
        clear hK hA
        obtain ⟨c0, c1⟩ := hS W hb
        refine wpOp_want rfl (by rfl) ?_
        go_simp
        exact HK.out _ _ (Below.refl _ _) rfl
      case s6 =>
        rintro T W hb hA K hK
        have e4 : T 9 = .bool false := hA.1
        simp only [ovr, Act.put, List.setIfInBounds_toArray, List.set_cons_zero, List.set_cons_succ, e4] at hK ⊢
        have HK := Lib.hid hK
        clear hK hA
        refine wpOp_want rfl (by rfl) ?_
        go_simp
        (with_reducible refine (rof_any (9223372036854775807) (by decide) (by decide) _ (hE1.mono hb)).mono ?_)
        rintro e w1' ⟨⟨ngA, aoA, nA, cA, rfl, HVA⟩, hb1⟩
        have hr := HVA.out
        rw [← HMX.out] at hr
        dsimp only
        exact HK.out _ _ hb1 hr
      case s7 =>
        rintro T W hb hA K hK
        have e5 : T 10 = .agg #[.bool n1, .slice ao1 L1.length c1] := hA.1
        have r6 : (fun W v => IntV W v mx) W (T 11) := hA.2.1
        have e4 : T 9 = .bool false := hA.2.2.2.1
        simp only [ovr, Act.put, List.setIfInBounds_toArray, List.set_cons_zero, List.set_cons_succ, e5, e4] at hK ⊢
        have HK := Lib.hid hK
        clear hK hA
        refine wpOp_want rfl (by rfl) ?_
        go_simp
        (with_reducible refine (rCmp_eq (.agg #[.bool n1, .slice ao1 L1.length c1]) _ x mx (0) _ HC2 (hV1.mono hb) r6).mono ?_)
        rintro e w1' ⟨rfl, hb1⟩
        dsimp only
        exact HK.out _ _ hb1 rfl
      case s8 =>
        rintro T W hb hA K hK
        have e7 : T 12 = .int .i64 (0) := hA.1
        have e4 : T 9 = .bool false := hA.2.1
        simp only [ovr, Act.put, List.setIfInBounds_toArray, List.set_cons_zero, List.set_cons_succ, e7, e4] at hK ⊢
        have HK := Lib.hid hK
        clear hK hA
        refine wpOp_want rfl (by rfl) ?_
        go_simp
        exact HK.out _ _ (Below.refl _ _) rfl
      case s9 =>
        rintro T W hb hA K hK
        have e4 : T 9 = .bool false := hA.1
        have e8 : T 13 = .bool false := hA.2.1
        simp only [ovr, Act.put, List.setIfInBounds_toArray, List.set_cons_zero, List.set_cons_succ, e4, e8] at hK ⊢
        have HK := Lib.hid hK
        clear hK hA
        refine wpOp_want rfl (by rfl) ?_
        go_simp
        exact HK.out _ _ (Below.refl _ _) rfl
      case he =>
        rintro T W hb hA
        have e9 : T 14 = .bool false := hA.at 9 (by decide)
        simp only [ovr, List.setIfInBounds_toArray, List.set_cons_zero, List.set_cons_succ, e9]
        go_wp2_with fail
        go_meet
        exact ⟨rfl, hb⟩
    · have HC1 := Lib.hid hc
      have HC2 := Lib.hid hd
      clear hc hd
      refine wp_region_vals (wx := w1) [(fun _ v => v = .agg #[.bool n1, .slice ao1 L1.length c1]), (fun W v => IntV W v mn), (fun _ v => v = .int .i64 (1)), (fun _ v => v = .bool false), (fun _ v => v = .bool false), (fun _ v => v = .agg #[.bool n1, .slice ao1 L1.length c1]), (fun W v => IntV W v mx), (fun _ v => v = .int .i64 (-1)), (fun _ v => v = .bool false), (fun _ v => v = .bool false)] [5, 6, 7, 8, 9, 10, 11, 12, 13, 14] (by kernel_rfl) (by kernel_rfl) (by kernel_rfl) (of_decide_eq_true (by kernel_rfl)) (Below.refl _ _) ⟨stayB_val _, (fun _ _ _ h hb => h.mono hb), stayB_val _, stayB_val _, stayB_val _, stayB_val _, (fun _ _ _ h hb => h.mono hb), stayB_val _, stayB_val _, stayB_val _, trivial⟩ ⟨?s0, ?s1, ?s2, ?s3, ?s4, ?s5, ?s6, ?s7, ?s8, ?s9, trivial⟩ ?he
      case s0 =>
        rintro T W hb hA K hK
        simp only [ovr, Act.put, List.setIfInBounds_toArray, List.set_cons_zero, List.set_cons_succ] at hK ⊢
        have HK := Lib.hid hK
        clear hK hA
        obtain ⟨c0, c1⟩ := hS W hb
        refine wpOp_want rfl (by rfl) ?_
        go_simp
        exact HK.out _ _ (Below.refl _ _) rfl
      case s1 =>
        rintro T W hb hA K hK
        simp only [ovr, Act.put, List.setIfInBounds_toArray, List.set_cons_zero, List.set_cons_succ] at hK ⊢
        have HK := Lib.hid hK
        clear hK hA
        refine wpOp_want rfl (by rfl) ?_
        go_simp
        (with_reducible refine (rof_any (-9223372036854775808) (by decide) (by decide) _ (hE1.mono hb)).mono ?_)
        rintro e w1' ⟨⟨ngA, aoA, nA, cA, rfl, HVA⟩, hb1⟩
        have hr := HVA.out
        rw [← HMN.out] at hr
        dsimp only
        exact HK.out _ _ hb1 hr
      case s2 =>
        rintro T W hb hA K hK
        have e0 : T 5 = .agg #[.bool n1, .slice ao1 L1.length c1] := hA.1
        have r1 : (fun W v => IntV W v mn) W (T 6) := hA.2.1
        simp only [ovr, Act.put, List.setIfInBounds_toArray, List.set_cons_zero, List.set_cons_succ, e0] at hK ⊢
        have HK := Lib.hid hK
        clear hK hA
        refine wpOp_want rfl (by rfl) ?_
        go_simp
        (with_reducible refine (rCmp_eq (.agg #[.bool n1, .slice ao1 L1.length c1]) _ x mn (1) _ HC1 (hV1.mono hb) r1).mono ?_)
        rintro e w1' ⟨rfl, hb1⟩
        dsimp only
        exact HK.out _ _ hb1 rfl
      case s3 =>
        rintro T W hb hA K hK
        have e2 : T 7 = .int .i64 (1) := hA.1
        simp only [ovr, Act.put, List.setIfInBounds_toArray, List.set_cons_zero, List.set_cons_succ, e2] at hK ⊢
        have HK := Lib.hid hK
        clear hK hA
        refine wpOp_want rfl (by rfl) ?_
        go_simp
        exact HK.out _ _ (Below.refl _ _) rfl
      case s4 =>
        rintro T W hb hA K hK
        have e3 : T 8 = .bool false := hA.1
        have e2 : T 7 = .int .i64 (1) := hA.2.1
        simp only [ovr, Act.put, List.setIfInBounds_toArray, List.set_cons_zero, List.set_cons_succ, e3, e2] at hK ⊢
        have HK := Lib.hid hK
        clear hK hA
        refine wpOp_want rfl (by rfl) ?_
        go_simp
        exact HK.out _ _ (Below.refl _ _) rfl
      case s5 =>
        rintro T W hb hA K hK
        have e4 : T 9 = .bool false := hA.1
        simp only [ovr, Act.put, List.setIfInBounds_toArray, List.set_cons_zero, List.set_cons_succ, e4] at hK ⊢
        have HK := Lib.hid hK
        clear hK hA
        obtain ⟨c0, c1⟩ := hS W hb
        refine wpOp_want rfl (by rfl) ?_
        go_simp
        exact HK.out _ _ (Below.refl _ _) rfl
      case s6 =>
        rintro T W hb hA K hK
        have e4 : T 9 = .bool false := hA.1
        simp only [ovr, Act.put, List.setIfInBounds_toArray, List.set_cons_zero, List.set_cons_succ, e4] at hK ⊢
        have HK := Lib.hid hK
        clear hK hA
        refine wpOp_want rfl (by rfl) ?_
        go_simp
        (with_reducible refine (rof_any (9223372036854775807) (by decide) (by decide) _ (hE1.mono hb)).mono ?_)
        rintro e w1' ⟨⟨ngA, aoA, nA, cA, rfl, HVA⟩, hb1⟩
        have hr := HVA.out
        rw [← HMX.out] at hr
        dsimp only
        exact HK.out _ _ hb1 hr
      case s7 =>
        rintro T W hb hA K hK
        have e5 : T 10 = .agg #[.bool n1, .slice ao1 L1.length c1] := hA.1
        have r6 : (fun W v => IntV W v mx) W (T 11) := hA.2.1
        have e4 : T 9 = .bool false := hA.2.2.2.1
        simp only [ovr, Act.put, List.setIfInBounds_toArray, List.set_cons_zero, List.set_cons_succ, e5, e4] at hK ⊢
        have HK := Lib.hid hK
        clear hK hA
        refine wpOp_want rfl (by rfl) ?_
        go_simp
        (with_reducible refine (rCmp_eq (.agg #[.bool n1, .slice ao1 L1.length c1]) _ x mx (-1) _ HC2 (hV1.mono hb) r6).mono ?_)
        rintro e w1' ⟨rfl, hb1⟩
        dsimp only
        exact HK.out _ _ hb1 rfl
      case s8 =>
        rintro T W hb hA K hK
        have e7 : T 12 = .int .i64 (-1) := hA.1
        have e4 : T 9 = .bool false := hA.2.1
        simp only [ovr, Act.put, List.setIfInBounds_toArray, List.set_cons_zero, List.set_cons_succ, e7, e4] at hK ⊢
        have HK := Lib.hid hK
        clear hK hA
        refine wpOp_want rfl (by rfl) ?_
        go_simp
        exact HK.out _ _ (Below.refl _ _) rfl
      case s9 =>
        rintro T W hb hA K hK
        have e4 : T 9 = .bool false := hA.1
        have e8 : T 13 = .bool false := hA.2.1
        simp only [ovr, Act.put, List.setIfInBounds_toArray, List.set_cons_zero, List.set_cons_succ, e4, e8] at hK ⊢
        have HK := Lib.hid hK
        clear hK hA
        refine wpOp_want rfl (by rfl) ?_
        go_simp
        exact HK.out _ _ (Below.refl _ _) rfl
      case he =>
        rintro T W hb hA
        have e9 : T 14 = .bool false := hA.at 9 (by decide)
        simp only [ovr, List.setIfInBounds_toArray, List.set_cons_zero, List.set_cons_succ, e9]
        go_wp2_with fail
        go_meet
        exact ⟨rfl, hb⟩
  case rest =>
    obtain ⟨rfl, hb⟩ := hcut
    have hbw := Below.step hbx hb (Nat.le_refl _)
    cases out
    · have hr : -9223372036854775808 ≤ x ∧ x ≤ 9223372036854775807 := by
        have h := HO.out
        have := of_decide_eq_false h.symm
        omega
      have HOK : Hid (Bi.Ok L1) := Lib.hid (by rw [HL1.out]; exact Bi.limbs_ok _)
      have hval : Bi.val L1 = x.natAbs := by rw [HL1.out, Bi.val_limbs]
      obtain ⟨l0, h0⟩ : ∃ l0, l0 = L1.getD 0 0 := ⟨_, rfl⟩
      obtain ⟨l1, h1⟩ : ∃ l1, l1 = L1.getD 1 0 := ⟨_, rfl⟩
      obtain ⟨l2, h2⟩ : ∃ l2, l2 = L1.getD 2 0 := ⟨_, rfl⟩
      obtain ⟨m, hm⟩ : ∃ m, m = x.natAbs := ⟨_, rfl⟩
      have hsum : m = l2 * 1000000000 * 1000000000 + l1 * 1000000000 + l0 := by
        rw [hm, ← hval, h0, h1, h2]
        exact limbs3 HL1.out (by rw [hval]; omega)
      obtain ⟨y18, h18⟩ : ∃ y, y = l2 * 1000000000 := ⟨_, rfl⟩
      obtain ⟨y19, h19⟩ : ∃ y, y = y18 * 1000000000 := ⟨_, rfl⟩
      obtain ⟨y23, h23⟩ : ∃ y, y = l1 * 1000000000 := ⟨_, rfl⟩
      obtain ⟨y24, h24⟩ : ∃ y, y = y19 + y23 := ⟨_, rfl⟩
      have hmb : m ≤ 9223372036854775808 := by omega
      have h28 : m = y24 + l0 := by rw [hsum, h24, h19, h18, h23]
      have W28 : Add9 y24 l0 m := ⟨h28, hmb⟩
      have W24 : Add9 y19 y23 y24 := ⟨h24, by omega⟩
      have W23 : Mul9 l1 y23 := ⟨h23, by omega⟩
      have W19 : Mul9 y18 y19 := ⟨h19, by omega⟩
      have W18 : Mul9 l2 y18 := ⟨h18, by omega⟩
      have HG0 := Lib.hid h0.symm
      have HG1 := Lib.hid h1.symm
      have HG2 := Lib.hid h2.symm
      have HM := Lib.hid hm
      have HR := Lib.hid hr
      have B1 := B1.mono hb
      have hU1 := hU1.mono hb
      clear hb hsum h18 h19 h23 h24 hmb h28 h0 h1 h2 hm hr hval hV1 hE1
      go_upto_region 3 with fail
      have hS := fun W => S1 (W := W) B1
      refine wp_region_vals (wx := wc) [(fun _ v => v = .pointer (some ⟨w.heap.size, 1, none⟩)), (fun _ v => v = .slice ao1 L1.length c1), (fun _ v => v = .int .u64 (l2 : Nat)), (fun _ v => v = .int .u64 (y18 : Nat)), (fun _ v => v = .int .u64 (y19 : Nat)), (fun _ v => v = .pointer (some ⟨w.heap.size, 1, none⟩)), (fun _ v => v = .slice ao1 L1.length c1), (fun _ v => v = .int .u64 (l1 : Nat)), (fun _ v => v = .int .u64 (y23 : Nat)), (fun _ v => v = .int .u64 (y24 : Nat)), (fun _ v => v = .pointer (some ⟨w.heap.size, 1, none⟩)), (fun _ v => v = .slice ao1 L1.length c1), (fun _ v => v = .int .u64 (l0 : Nat)), (fun _ v => v = .int .u64 (m : Nat)), (fun _ v => v = .int .u64 (m : Nat))] [15, 16, 17, 18, 19, 20, 21, 22, 23, 24, 25, 26, 27, 28, 4] (by kernel_rfl) (by kernel_rfl) (by kernel_rfl) (of_decide_eq_true (by kernel_rfl)) (Below.refl _ _) ⟨stayB_val _, stayB_val _, stayB_val _, stayB_val _, stayB_val _, stayB_val _, stayB_val _, stayB_val _, stayB_val _, stayB_val _, stayB_val _, stayB_val _, stayB_val _, stayB_val _, stayB_val _, trivial⟩ ⟨?s0, ?s1, ?s2, ?s3, ?s4, ?s5, ?s6, ?s7, ?s8, ?s9, ?s10, ?s11, ?s12, ?s13, ?s14, trivial⟩ ?he
      case s0 =>
        rintro T W hb hA K hK
        simp only [ovr, Act.put, List.setIfInBounds_toArray, List.set_cons_zero, List.set_cons_succ] at hK ⊢
        have HK := Lib.hid hK
        clear hK hA
        refine wpOp_want rfl (by rfl) ?_
        go_simp
        exact HK.out _ _ (Below.refl _ _) rfl
      case s1 =>
        rintro T W hb hA K hK
        have e0 : T 15 = .pointer (some ⟨w.heap.size, 1, none⟩) := hA.1
        simp only [ovr, Act.put, List.setIfInBounds_toArray, List.set_cons_zero, List.set_cons_succ, e0] at hK ⊢
        have HK := Lib.hid hK
        clear hK hA
        obtain ⟨c0, c1⟩ := hS W hb
        refine wpOp_want rfl (by rfl) ?_
        go_simp
        exact HK.out _ _ (Below.refl _ _) rfl
      case s2 =>
        rintro T W hb hA K hK
        have e1 : T 16 = .slice ao1 L1.length c1 := hA.1
        simp only [ovr, Act.put, List.setIfInBounds_toArray, List.set_cons_zero, List.set_cons_succ, e1] at hK ⊢
        have HK := Lib.hid hK
        clear hK hA
        refine wpOp_want rfl (by rfl) ?_
        go_simp
        (with_reducible refine (limb_at L1 2 l2 2 ao1 c1 W rfl HOK.out HG2 (hU1.mono hb) (by omega)).mono ?_)
        rintro e w1' ⟨rfl, rfl⟩
        have hb1 := Below.refl W.heap.size W
        dsimp only
        exact HK.out _ _ hb1 rfl
      case s3 =>
        rintro T W hb hA K hK
        have e2 : T 17 = .int .u64 (l2 : Nat) := hA.1
        simp only [ovr, Act.put, List.setIfInBounds_toArray, List.set_cons_zero, List.set_cons_succ, e2] at hK ⊢
        have HK := Lib.hid hK
        clear hK hA
        refine wpOp_want rfl (by rfl) ?_
        go_simp
        exact HK.out _ _ (Below.refl _ _) (Mul9.eq W18)
      case s4 =>
        rintro T W hb hA K hK
        have e3 : T 18 = .int .u64 (y18 : Nat) := hA.1
        simp only [ovr, Act.put, List.setIfInBounds_toArray, List.set_cons_zero, List.set_cons_succ, e3] at hK ⊢
        have HK := Lib.hid hK
        clear hK hA
        refine wpOp_want rfl (by rfl) ?_
        go_simp
        exact HK.out _ _ (Below.refl _ _) (Mul9.eq W19)
      case s5 =>
        rintro T W hb hA K hK
        simp only [ovr, Act.put, List.setIfInBounds_toArray, List.set_cons_zero, List.set_cons_succ] at hK ⊢
        have HK := Lib.hid hK
        clear hK hA
        refine wpOp_want rfl (by rfl) ?_
        go_simp
        exact HK.out _ _ (Below.refl _ _) rfl
      case s6 =>
        rintro T W hb hA K hK
        have e5 : T 20 = .pointer (some ⟨w.heap.size, 1, none⟩) := hA.1
        simp only [ovr, Act.put, List.setIfInBounds_toArray, List.set_cons_zero, List.set_cons_succ, e5] at hK ⊢
        have HK := Lib.hid hK
        clear hK hA
        obtain ⟨c0, c1⟩ := hS W hb
        refine wpOp_want rfl (by rfl) ?_
        go_simp
        exact HK.out _ _ (Below.refl _ _) rfl
      case s7 =>
        rintro T W hb hA K hK
        have e6 : T 21 = .slice ao1 L1.length c1 := hA.1
        have e2 : T 17 = .int .u64 (l2 : Nat) := hA.2.1
        simp only [ovr, Act.put, List.setIfInBounds_toArray, List.set_cons_zero, List.set_cons_succ, e6, e2] at hK ⊢
        have HK := Lib.hid hK
        clear hK hA
        refine wpOp_want rfl (by rfl) ?_
        go_simp
        (with_reducible refine (limb_at L1 1 l1 1 ao1 c1 W rfl HOK.out HG1 (hU1.mono hb) (by omega)).mono ?_)
        rintro e w1' ⟨rfl, rfl⟩
        have hb1 := Below.refl W.heap.size W
        dsimp only
        exact HK.out _ _ hb1 rfl
      case s8 =>
        rintro T W hb hA K hK
        have e7 : T 22 = .int .u64 (l1 : Nat) := hA.1
        simp only [ovr, Act.put, List.setIfInBounds_toArray, List.set_cons_zero, List.set_cons_succ, e7] at hK ⊢
        have HK := Lib.hid hK
        clear hK hA
        refine wpOp_want rfl (by rfl) ?_
        go_simp
        exact HK.out _ _ (Below.refl _ _) (Mul9.eq W23)
      case s9 =>
        rintro T W hb hA K hK
        have e4 : T 19 = .int .u64 (y19 : Nat) := hA.1
        have e8 : T 23 = .int .u64 (y23 : Nat) := hA.2.1
        simp only [ovr, Act.put, List.setIfInBounds_toArray, List.set_cons_zero, List.set_cons_succ, e4, e8] at hK ⊢
        have HK := Lib.hid hK
        clear hK hA
        refine wpOp_want rfl (by rfl) ?_
        go_simp
        exact HK.out _ _ (Below.refl _ _) (Add9.eq W24)
      case s10 =>
        rintro T W hb hA K hK
        simp only [ovr, Act.put, List.setIfInBounds_toArray, List.set_cons_zero, List.set_cons_succ] at hK ⊢
        have HK := Lib.hid hK
        clear hK hA
        refine wpOp_want rfl (by rfl) ?_
        go_simp
        exact HK.out _ _ (Below.refl _ _) rfl
      case s11 =>
        rintro T W hb hA K hK
        have e10 : T 25 = .pointer (some ⟨w.heap.size, 1, none⟩) := hA.1
        simp only [ovr, Act.put, List.setIfInBounds_toArray, List.set_cons_zero, List.set_cons_succ, e10] at hK ⊢
        have HK := Lib.hid hK
        clear hK hA
        obtain ⟨c0, c1⟩ := hS W hb
        refine wpOp_want rfl (by rfl) ?_
        go_simp
        exact HK.out _ _ (Below.refl _ _) rfl
      case s12 =>
        rintro T W hb hA K hK
        have e11 : T 26 = .slice ao1 L1.length c1 := hA.1
        have e7 : T 22 = .int .u64 (l1 : Nat) := hA.2.1
        simp only [ovr, Act.put, List.setIfInBounds_toArray, List.set_cons_zero, List.set_cons_succ, e11, e7] at hK ⊢
        have HK := Lib.hid hK
        clear hK hA
        refine wpOp_want rfl (by rfl) ?_
        go_simp
        (with_reducible refine (limb_at L1 0 l0 0 ao1 c1 W rfl HOK.out HG0 (hU1.mono hb) (by omega)).mono ?_)
        rintro e w1' ⟨rfl, rfl⟩
        have hb1 := Below.refl W.heap.size W
        dsimp only
        exact HK.out _ _ hb1 rfl
      case s13 =>
        rintro T W hb hA K hK
        have e9 : T 24 = .int .u64 (y24 : Nat) := hA.1
        have e12 : T 27 = .int .u64 (l0 : Nat) := hA.2.1
        simp only [ovr, Act.put, List.setIfInBounds_toArray, List.set_cons_zero, List.set_cons_succ, e9, e12] at hK ⊢
        have HK := Lib.hid hK
        clear hK hA
        refine wpOp_want rfl (by rfl) ?_
        go_simp
        exact HK.out _ _ (Below.refl _ _) (Add9.eq W28)
      case s14 =>
        rintro T W hb hA K hK
        have e13 : T 28 = .int .u64 (m : Nat) := hA.1
        have e12 : T 27 = .int .u64 (l0 : Nat) := hA.2.1
        have e0 : T 15 = .pointer (some ⟨w.heap.size, 1, none⟩) := hA.2.2.1
        have e1 : T 16 = .slice ao1 L1.length c1 := hA.2.2.2.1
        have e2 : T 17 = .int .u64 (l2 : Nat) := hA.2.2.2.2.1
        have e3 : T 18 = .int .u64 (y18 : Nat) := hA.2.2.2.2.2.1
        have e4 : T 19 = .int .u64 (y19 : Nat) := hA.2.2.2.2.2.2.1
        have e5 : T 20 = .pointer (some ⟨w.heap.size, 1, none⟩) := hA.2.2.2.2.2.2.2.1
        have e6 : T 21 = .slice ao1 L1.length c1 := hA.2.2.2.2.2.2.2.2.1
        have e7 : T 22 = .int .u64 (l1 : Nat) := hA.2.2.2.2.2.2.2.2.2.1
        have e8 : T 23 = .int .u64 (y23 : Nat) := hA.2.2.2.2.2.2.2.2.2.2.1
        have e9 : T 24 = .int .u64 (y24 : Nat) := hA.2.2.2.2.2.2.2.2.2.2.2.1
        have e10 : T 25 = .pointer (some ⟨w.heap.size, 1, none⟩) := hA.2.2.2.2.2.2.2.2.2.2.2.2.1
        have e11 : T 26 = .slice ao1 L1.length c1 := hA.2.2.2.2.2.2.2.2.2.2.2.2.2.1
        simp only [ovr, Act.put, List.setIfInBounds_toArray, List.set_cons_zero, List.set_cons_succ, e13, e12, e0, e1, e2, e3, e4, e5, e6, e7, e8, e9, e10, e11] at hK ⊢
        have HK := Lib.hid hK
        clear hK hA
        refine wpOp_want rfl (by rfl) ?_
        go_simp
        exact HK.out _ _ (Below.refl _ _) rfl
      case he =>
        rintro T W hb hA
        have e14 : T 4 = .int .u64 (m : Nat) := hA.at 14 (by decide)
        simp only [ovr, List.setIfInBounds_toArray, List.set_cons_zero, List.set_cons_succ, e14]
        have hbw := Below.step hbw hb (Nat.le_refl _)
        obtain ⟨p0, p1⟩ := hS W hb
        clear W18 W19 W23 W24 W28
        cases n1
        · have hx : x = (m : Int) := by have hh1 := Hn1.out; have hh2 := HM.out; simp at hh1; omega
          have hm2 : m ≤ 9223372036854775807 := by have := HR.out; omega
          have HX := Lib.hid hx
          clear hx hU1
          go_wp2
          go_ret2
          exact ⟨⟨(m : Int), 0, rfl, Lib.hid (.inl ⟨by have := HR.out; have := HX.out; omega, by have := HR.out; have := HX.out; omega, HX.out.symm, rfl⟩)⟩, hbw⟩
        · have hx : x = -(m : Int) := by have hh1 := Hn1.out; have hh2 := HM.out; simp at hh1; omega
          have hm1 : 1 ≤ m := by have hh1 := Hn1.out; have hh2 := HM.out; simp at hh1; omega
          obtain ⟨m2, hm2, hw1, hw2⟩ := neg_back m hm1 (by have := HR.out; omega)
          have HX := Lib.hid hx
          have HW := Lib.hid hw2
          clear hx hU1
          go_wp2
          go_ret2
          exact ⟨⟨-(m : Int), 0, rfl, Lib.hid (.inl ⟨by have := HR.out; have := HX.out; omega, by have := HR.out; have := HX.out; omega, HX.out.symm, rfl⟩)⟩, hbw⟩
    · have hr := of_decide_eq_true HO.out.symm
      go_wp2
      go_ret2
      exact ⟨⟨0, 7, rfl, Lib.hid (.inr ⟨by omega, rfl, rfl⟩)⟩, hbw⟩

end Go.Proofs.YtijjagofingpdaaGreatDoor
