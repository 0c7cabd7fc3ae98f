import Derived.Test.YtijjagofingpdaaDoorRefC
namespace Go.Proofs.YtijjagofingpdaaDoor
open Go.RowKit

set_option maxHeartbeats 1600000 in
theorem rGcd_any (a b : Value) (x y : Int) (w : World) (ha : IntV w a x) (hb : IntV w b y) :
    Calls Tryd.prog 17 #[a, b] w fun e w' => (∃ (ng : Bool) (ao : Option Addr) (n cap : Nat), e = .returned (.agg #[.bool ng, .slice ao n cap]) ∧ Hid (IntV w' (.agg #[.bool ng, .slice ao n cap]) ((Int.gcd x y : Nat) : Int))) ∧ Below w.heap.size w w' := by
  obtain ⟨n1, ao1, L1, c1, rfl, Hn1, HL1, HB1, hc1, hl1, hU1⟩ := ha
  obtain ⟨n2, ao2, L2, c2, rfl, Hn2, HL2, HB2, hc2, hl2, hU2⟩ := hb
  go_enter Tryd.func17, Tryd.ntmps17
  go_wp2_with fail
  obtain ⟨wx, hwx, hsz, B1, B2, B3, hbx⟩ := boxes3 w (.bool n1) (.slice ao1 L1.length c1) (.bool n2) (.slice ao2 L2.length c2) (.bool false) (.slice none 0 0) 25
  rw [← hwx]
  clear hwx
  obtain ⟨a0, a1, _, _⟩ := B1
  obtain ⟨b0, b1, _, _⟩ := B2
  go_quiet (fail)
  have hbq := below_drewN (Below.refl wx.heap.size wx) nq
  have B3 := B3.mono hbq
  have hbw3 := below_drewN hbx nq
  have hU3 := hU1.mono hbw3
  have hU4 := hU2.mono hbw3
  clear a0 a1 b0 b1 hU1 hU2 hsz hbq
  generalize wx.drewN nq = w3 at *
  go_wp2_with fail
  go_loopg [5, 6] (y.natAbs) (fun gk s7 s8 wr => ∃ (X Y : Nat) (L M : List Nat) (a5 a6 : Option Addr) (c5 c6 : Nat), Y ≤ gk ∧ s7 = .slice a5 L.length c5 ∧ s8 = .slice a6 M.length c6 ∧ Hid (L = Bi.limbs X) ∧ Hid (M = Bi.limbs Y) ∧ Hid (Nat.gcd X Y = Int.gcd x y) ∧
      Hid (X < Bi.Big ∧ Y < Bi.Big) ∧ U wr a5 L ∧ U wr a6 M ∧ Below w3.heap.size w3 wr)
  case atStart => exact ⟨x.natAbs, y.natAbs, L1, L2, ao1, ao2, c1, c2, Nat.le_refl _, rfl, rfl, HL1, HL2, Lib.hid rfl, Lib.hid ⟨HB1.out, HB2.out⟩, hU3, hU4, Below.refl _ _⟩
  case round =>
    clear hU3 hU4
    obtain ⟨X, Y, L, M, a5, a6, c5, c6, hY, rfl, rfl, HL, HM, HG, HXY, hUL, hUM, hbr⟩ := hrel
    have hl5 : L.length ≤ 34 := by rw [HL.out]; exact limbs_len34 HXY.out.1
    have hl6 : M.length ≤ 34 := by rw [HM.out]; exact limbs_len34 HXY.out.2
    by_cases hM0 : M = []
    · have hY0 : Y = 0 := Bi.limbs_eq_nil.1 (by rw [← HM.out]; exact hM0)
      subst hM0
      subst hY0
      have hbr0 := Below.step hbw3 hbr (Nat.le_refl _)
      have F4 := B3.mono hbr
      clear hUM hl6
      go_wp2_with fail
      (with_reducible refine (rmake_any false L a5 c5 wr ?_ hUL (Lib.hid ?_)).mono ?_)
      · omega
      · rw [HL.out]; exact Bi.limbs_ok _
      rintro e w5 ⟨⟨ng, ao3, n3, cap3, k3, rfl, HR⟩, hb5⟩
      have hB := F4.mono hb5
      have hlt := hB.lt
      obtain ⟨p0, p1, q0, q1⟩ := hB
      have hV : Hid (IntV w5 (.agg #[.bool ng, .slice ao3 n3 cap3]) ((Int.gcd x y : Nat) : Int)) := Lib.hid (by
        have e1 : sgn false (Bi.val L) = ((Int.gcd x y : Nat) : Int) := by rw [HL.out, Bi.val_limbs, ← HG.out]; simp [sgn]
        rw [e1] at HR
        rcases HR.out with ⟨_, _, h⟩ | ⟨h, _⟩
        · exact h
        · refine absurd ?_ h
          rw [Int.natAbs_natCast, ← HG.out]
          exact gcd_big HXY.out.1 HXY.out.2)
      go_wp2
      refine bodyPost_ret (v := .agg #[.bool ng, .slice ao3 n3 cap3]) (by simp [results, Tryd.results17, go_sem, p0, p1, hlt]) rfl ⟨⟨ng, ao3, n3, cap3, rfl, Lib.hid ((hV.out.put2 p0 p1 _ _).mono (below_alloc _ _))⟩, ?_⟩
      refine (Below.put2 (Below.step hbr0 hb5 (Nat.le_refl _)) (by omega) _ _).alloc ?_ _
      have := hb5.size; have := hbr.size; have := hbw3.size; simp [World.setCell]; omega
    · have hM1 : 0 < M.length := List.length_pos_iff.2 hM0
      have hY1 : 0 < Y := by
        rcases Nat.eq_zero_or_pos Y with h | h
        · exact absurd (by rw [HM.out, h]; rfl) hM0
        · exact h
      clear hM0
      go_wp2_with fail
      (with_reducible refine (rdiv_any X Y L M HL HM a5 a6 c5 c6 wr ?_ ?_ hY1 hUL hUM).mono ?_)
      · omega
      · omega
      rintro e w5 ⟨⟨a7, a8, Q, R, c7, c8, HQ, HR, hc7, hc8, rfl, HU7, HU8⟩, hb5⟩
      have hUM5 := hUM.mono hb5
      have hUR := HU8.out
      have hlt := Nat.mod_lt X hY1
      clear hUL hUM
      go_wp2
      go_roundg (X % Y)
      case measure => omega
      case rel => exact ⟨Y, X % Y, M, R, a6, a8, c6, c8, Nat.le_refl _, rfl, rfl, HM, HR, Lib.hid (by rw [← HG.out]; exact gcd_step X Y), Lib.hid ⟨HXY.out.2, Nat.lt_trans hlt HXY.out.2⟩, hUM5, hUR, Below.step hbr hb5 (Nat.le_refl _)⟩

/-- a Boolean answer -/
def BoolP (P : Prop) (e : Ending) : Prop := ∃ r : Bool, Hid (r = true ↔ P) ∧ e = .returned (.bool r)

theorem last_split {l : List Nat} {x : Nat} (hx : l[l.length - 1]? = some x) : ∃ r, l = r ++ [x] := by
  rcases List.eq_nil_or_concat l with h | ⟨r, y, h⟩
  · subst h; simp at hx
  · rw [List.concat_eq_append] at h
    subst h
    simp at hx
    exact ⟨r, by rw [hx]⟩

set_option maxHeartbeats 1600000 in
theorem rValid_any (neg : Bool) (l : List Nat) (ao : Option Addr) (cap : Nat) (w : World) (hm : l.length ≤ 1000000000) (hU : U w ao l) :
    Calls Tryd.prog 24 #[.agg #[.bool neg, .slice ao l.length cap]] w fun e w' => BoolP (validP neg l) e ∧ Below w.heap.size w w' := by
  go_enter Tryd.func24, Tryd.ntmps24
  go_wp2_with fail
  have hbx := below_alloc w (.cells #[.bool neg, .slice ao l.length cap] 25)
  have B1 := Box.new w (.bool neg) (.slice ao l.length cap) 25
  have hUx := hU.mono hbx
  clear hU
  generalize w.alloc (.cells #[.bool neg, .slice ao l.length cap] 25) = wx at *
  obtain ⟨a0, a1, _, _⟩ := B1
  go_loop [3] (fun s => ∃ k : Nat, k ≤ l.length ∧ s = .int .i64 k ∧ Hid (Bi.Ok (l.take k))) (fun s => l.length - (intOf s).toNat)
  case atStart => exact ⟨0, Nat.zero_le _, rfl, Lib.hid (by simp [Bi.Ok])⟩
  case round =>
    obtain ⟨k, hk, rfl, HK⟩ := hrel
    by_cases hlt : k < l.length
    · obtain ⟨x, hx⟩ := get_some hlt
      obtain ⟨b, off, rfl, hc⟩ := hUx.at' hx
      have HX := Lib.hid hx
      clear hx hUx
      by_cases hs : (1000000000 : Int) ≤ (x : Int)
      · have hno : ¬ validP neg l := by
          intro h
          unfold validP at h
          rw [if_neg (by rintro rfl; simp at hlt)] at h
          have := h.1.at' HX.out
          omega
        have HNO := Lib.hid hno
        clear hno
        go_wp2
        go_ret
        exact ⟨⟨false, Lib.hid (by simp [HNO.out]), rfl⟩, hbx⟩
      · go_wp2
        go_round
        case rel =>
          refine ⟨k + 1, by omega, by go_num, Lib.hid ?_⟩
          have h1 : l[k]'hlt = x := (List.getElem?_eq_some_iff.1 HX.out).2
          rw [List.take_succ_eq_append_getElem hlt, h1]
          exact HK.out.snoc (by omega)
        case measure => simp [intOf]; omega
    · obtain rfl : k = l.length := by omega
      have HO : Hid (Bi.Ok l) := Lib.hid (by have := HK.out; rwa [List.take_length] at this)
      clear HK
      by_cases hl0 : l = []
      · subst hl0
        clear hUx
        go_wp2
        go_ret
        exact ⟨⟨_, Lib.hid (by simp [validP]), rfl⟩, hbx⟩
      · have hl1 : 0 < l.length := List.length_pos_iff.2 hl0
        have hlz : ((l.length : Int) == 0) = false := by rw [beq_eq_false_iff_ne]; omega
        obtain ⟨x, hx⟩ := get_some (l := l) (k := l.length - 1) (by omega)
        obtain ⟨b, off, rfl, hc⟩ := hUx.at' hx
        have HV : Hid (validP neg l ↔ Bi.Ok l ∧ x ≠ 0 ∧ Bi.val l < Bi.Big) := Lib.hid (by
          obtain ⟨r, rfl⟩ := last_split hx
          exact valid_last)
        have HS := Lib.hid (last_split hx)
        clear hx hl0
        by_cases hx0 : x = 0
        · subst hx0
          clear hUx
          go_wp2
          go_ret
          exact ⟨⟨false, Lib.hid (by rw [HV.out]; simp), rfl⟩, hbx⟩
        · have hxb : ((x : Int) != 0) = true := by rw [bne_iff_ne]; omega
          have HL : Hid (l = Bi.limbs (Bi.val l)) := Lib.hid (by
            obtain ⟨r, hr⟩ := HS.out
            have ho := HO.out
            rw [hr] at ho ⊢
            exact canon_snoc ho hx0)
          go_wp2_with fail
          (with_reducible refine (rdigits_any _ l HL _ _ _ ?_ hUx).mono ?_)
          · omega
          rintro e w2 ⟨⟨d, HD, hd, rfl⟩, rfl⟩
          clear hUx
          go_wp2
          go_ret
          refine ⟨⟨_, Lib.hid ?_, rfl⟩, hbx⟩
          rw [HV.out, ← Bi.dlen_le, ← HD.out]
          simp [HO.out, hx0]
          omega

end Go.Proofs.YtijjagofingpdaaDoor
