import Derived.Test.YtijjagofingpdaaGreatDoorInv
import Derived.Test.YtijjagofingpdaaGreatDoorDivK
namespace Go.Proofs.YtijjagofingpdaaGreatDoor
open Go.RowKit

/-- the order of two integers -/
def cmpZ (x y : Int) : Int := if x < y then -1 else if y < x then 1 else 0

theorem gcd_step (X Y : Nat) : Nat.gcd Y (X % Y) = Nat.gcd X Y := by rw [Nat.gcd_comm X Y, Nat.gcd_rec Y X, Nat.gcd_comm]

theorem gcd_big {X Y : Nat} (h1 : X < Bi.Big) (h2 : Y < Bi.Big) : Nat.gcd X Y < Bi.Big := by
  rcases Nat.eq_zero_or_pos X with h | h
  · subst h; simpa using h2
  · exact Nat.lt_of_le_of_lt (Nat.gcd_le_left _ h) h1

set_option maxHeartbeats 1600000 in
theorem Gcd_any (a b : Value) (x y : Int) (w : World) (ha : IntV w a x) (hb : IntV w b y) (hE : Env w) :
    Calls Tryz.prog 20 #[a, b] w fun e w' => ResZ w' ((Int.gcd x y : Nat) : Int) e ∧ Below w.heap.size w w' := by
  obtain ⟨n1, ao1, L1, c1, rfl, Hn1, HL1, HB1, hc1, hl1, hU1⟩ := ha
  obtain ⟨n2, ao2, L2, c2, rfl, Hn2, HL2, HB2, hc2, hl2, hU2⟩ := hb
  go_enter Tryz.func20, Tryz.ntmps20
  go_wp2_with fail
  obtain ⟨wx, hwx, hsz, B1, B2, B3, hbx⟩ := boxes3 w (.bool n1) (.slice ao1 L1.length c1) (.bool n2) (.slice ao2 L2.length c2) (.bool false) (.slice none 0 0) 25
  rw [← hwx]
  clear hwx
  (with_reducible refine (check2 wx _ hsz n1 n2 ao1 ao2 L1 L2 c1 c2 (hU1.mono hbx) (hU2.mono hbx) ?_ ?_ (hE.mono hbx)).mono ?_)
  · omega
  · omega
  rintro e w1 ⟨⟨r, HR, HR2, rfl⟩, hb1'⟩
  obtain rfl : r = 0 := HR.out.2 ⟨validP_of x n1 L1 Hn1.out HL1.out HB1.out, validP_of y n2 L2 Hn2.out HL2.out HB2.out⟩
  clear HR HR2
  have B1 := B1.mono hb1'
  have B2 := B2.mono hb1'
  have B3 := B3.mono hb1'
  have hbw := Below.step hbx hb1' (Nat.le_refl _)
  have hbd := hbw.drew
  have hX1 := hU1.mono hbd
  have hX2 := hU2.mono hbd
  have hEx := hE.mono hbd
  have D1 := B1.mono ((Below.refl w1.heap.size w1).drew)
  have D2 := B2.mono ((Below.refl w1.heap.size w1).drew)
  have D3 := B3.mono ((Below.refl w1.heap.size w1).drew)
  clear hU1 hU2 hE hsz
  obtain ⟨a0, a1, _, _⟩ := B1
  obtain ⟨b0, b1, _, _⟩ := B2
  go_wp2_with fail
  go_region_held3 (fun w' => w'.cell? ⟨w.heap.size, 1, none⟩ = some (.slice ao1 L1.length c1) ∧ w'.cell? ⟨w.heap.size + 1, 1, none⟩ = some (.slice ao2 L2.length c2))
    (first | (with_reducible exact ⟨a1, b1⟩) | (with_reducible exact ⟨D1.c1, D2.c1⟩) | (with_reducible exact ⟨E1.c1, E2.c1⟩) | (with_reducible exact ⟨F1.c1, F2.c1⟩) | (simp [F1.c1, F2.c1, go_sem]; done))
    (first
      | (go_at_call 41; ((with_reducible refine (clone_any L1 ao1 c1 _ ?_ hX1).mono ?_); (omega)); rintro e w2 ⟨⟨a3, c3, rfl, hc3, HU3⟩, hb2⟩; have E1 := D1.mono hb2; have E2 := D2.mono hb2; have E3 := D3.mono hb2; have hY2 := hX2.mono hb2)
      | (go_at_call 41; ((with_reducible refine (clone_any L2 ao2 c2 _ ?_ hY2).mono ?_); (omega)); rintro e w3 ⟨⟨a4, c4, rfl, hc4, HU4⟩, hb3⟩; have F1 := E1.mono hb3; have F2 := E2.mono hb3; have F3 := E3.mono hb3))
  go_wp2_with fail
  have hbw3 : Below w.heap.size w w3 := Below.step (Below.step hbd hb2 (Nat.le_refl _)) hb3 (Nat.le_refl _)
  have hU3 := HU3.out.mono hb3
  have hU4 := HU4.out
  have hE3 := (hEx.mono hb2).mono hb3
  clear a0 a1 b0 b1 hX1 hX2 hEx hY2 D1 D2 D3 E1 E2 E3 F1 F2
  go_loopg [7, 8] (y.natAbs) (fun gk s7 s8 wr => ∃ (X Y : Nat) (L M : List Nat) (a5 a6 : Option Addr) (c5 c6 : Nat), Y ≤ gk ∧ s7 = .slice a5 L.length c5 ∧ s8 = .slice a6 M.length c6 ∧ Hid (L = Bi.limbs X) ∧ Hid (M = Bi.limbs Y) ∧ Hid (Nat.gcd X Y = Int.gcd x y) ∧
      Hid (X < Bi.Big ∧ Y < Bi.Big) ∧ L.length ≤ c5 ∧ M.length ≤ c6 ∧ U wr a5 L ∧ U wr a6 M ∧ Below w3.heap.size w3 wr)
  case atStart => exact ⟨x.natAbs, y.natAbs, L1, L2, a3, a4, c3, c4, Nat.le_refl _, rfl, rfl, HL1, HL2, Lib.hid rfl, Lib.hid ⟨HB1.out, HB2.out⟩, hc3, hc4, hU3, hU4, Below.refl _ _⟩
  case round =>
    clear hU3 hU4
    obtain ⟨X, Y, L, M, a5, a6, c5, c6, hY, rfl, rfl, HL, HM, HG, HXY, hc5, hc6, hUL, hUM, hbr⟩ := hrel
    have hl5 : L.length ≤ 34 := by rw [HL.out]; exact limbs_len34 HXY.out.1
    have hl6 : M.length ≤ 34 := by rw [HM.out]; exact limbs_len34 HXY.out.2
    by_cases hM0 : M = []
    · have hY0 : Y = 0 := Bi.limbs_eq_nil.1 (by rw [← HM.out]; exact hM0)
      subst hM0
      subst hY0
      have hEr := hE3.mono hbr
      have hbr0 := Below.step hbw3 hbr (Nat.le_refl _)
      have F4 := F3.mono hbr
      clear hUM hc6 hl6 hE3
      go_wp2_with fail
      (with_reducible refine (result_any false L a5 c5 wr ?_ hc5 hUL (Lib.hid ?_) hEr).mono ?_)
      · omega
      · rw [HL.out]; exact Bi.limbs_ok _
      rintro e w5 ⟨⟨ng, ao3, n3, cap3, k3, rfl, HR⟩, hb5⟩
      obtain ⟨p0, p1, q0, q1⟩ := F4.mono hb5
      go_wp2
      refine bodyPost_ret (v := .tuple #[.agg #[.bool ng, .slice ao3 n3 cap3], .int .i64 k3]) (by simp [results, Tryz.results20, go_sem, p0, p1]) rfl ⟨⟨ng, ao3, n3, cap3, k3, rfl, Lib.hid ?_⟩, ?_⟩
      · have := HR.out.put2 p0 p1 (.bool ng) (.slice ao3 n3 cap3)
        rw [HL.out, Bi.val_limbs] at this
        have e1 : sgn false X = ((Int.gcd x y : Nat) : Int) := by rw [← HG.out]; simp [sgn]
        rw [e1] at this
        exact this
      · exact Below.put2 (Below.step hbr0 hb5 (Nat.le_refl _)) (by omega) _ _
    · have hM1 : 0 < M.length := List.length_pos_iff.2 hM0
      have hY1 : 0 < Y := by
        rcases Nat.eq_zero_or_pos Y with h | h
        · exact absurd (by rw [HM.out, h]; rfl) hM0
        · exact h
      clear hM0
      go_wp2_with fail
      (with_reducible refine (divide_any X Y L M HL HM a5 a6 c5 c6 wr ?_ ?_ hY1 hUL hUM).mono ?_)
      · omega
      · omega
      rintro e w5 ⟨⟨a7, a8, Q, R, c7, c8, HQ, HR, hc7, hc8, rfl, HU7, HU8⟩, hb5⟩
      have hUM5 := hUM.mono hb5
      have hUR := HU8.out
      have hlt := Nat.mod_lt X hY1
      clear hUL hUM
      go_wp2
      go_roundg (X % Y)
      case measure => omega
      case rel => exact ⟨Y, X % Y, M, R, a6, a8, c6, c8, Nat.le_refl _, rfl, rfl, HM, HR, Lib.hid (by rw [← HG.out]; exact gcd_step X Y), Lib.hid ⟨HXY.out.2, Nat.lt_trans hlt HXY.out.2⟩, hc6, hc8, hUM5, hUR, Below.step hbr hb5 (Nat.le_refl _)⟩

/-- what 'Div' answers -/
def DivZ (w' : World) (z1 z2 : Int) (e : Ending) : Prop :=
  ∃ (n1 : Bool) (a1 : Option Addr) (m1 c1 : Nat) (n2 : Bool) (a2 : Option Addr) (m2 c2 : Nat), e = .returned (.tuple #[.agg #[.bool n1, .slice a1 m1 c1], .agg #[.bool n2, .slice a2 m2 c2], .int .i64 0]) ∧
    Hid (IntV w' (.agg #[.bool n1, .slice a1 m1 c1]) z1) ∧ Hid (IntV w' (.agg #[.bool n2, .slice a2 m2 c2]) z2)

theorem sgn_tdiv (x y : Int) (n1 n2 : Bool) (h1 : n1 = decide (x < 0)) (h2 : n2 = decide (y < 0)) : sgn (!(n1 == n2)) (x.natAbs / y.natAbs) = x.tdiv y := by
  have e1 := sgn_of x n1 h1
  have e2 := sgn_of y n2 h2
  rw [← e1, ← e2, sgn_natAbs, sgn_natAbs]
  unfold sgn
  cases n1 <;> cases n2 <;> simp [Int.tdiv_neg, Int.neg_tdiv]

theorem sgn_tmod (x y : Int) (n1 : Bool) (h1 : n1 = decide (x < 0)) : sgn n1 (x.natAbs % y.natAbs) = x.tmod y := by
  have e1 := sgn_of x n1 h1
  rw [← e1, sgn_natAbs]
  unfold sgn
  rcases Int.natAbs_eq y with h | h
  all_goals
    rw [h]
    cases n1 <;> simp [Int.neg_tmod, Int.tmod_neg, ← Int.ofNat_tmod]

end Go.Proofs.YtijjagofingpdaaGreatDoor
