import Derived.Test.YtijjagofingpdaaDoorTrim
namespace Go.Proofs.YtijjagofingpdaaDoor
open Go.RowKit

theorem limb_any (l : List Nat) (k : Nat) (ao : Option Addr) (cap : Nat) (w : World) (_hm : l.length ≤ 1000000000000) (hU : U w ao l) (ho : Bi.Ok l) :
    Calls Tryd.prog 77 #[.slice ao l.length cap, .int .i64 k] w fun e w' => (∃ x : Nat, x = l.getD k 0 ∧ x < 1000000000 ∧ e = .returned (.int .u64 x)) ∧ w = w' := by
  by_cases hk : k < l.length
  · obtain ⟨x, hx⟩ := get_some hk
    have bx := ho.at' hx
    obtain ⟨b, off, rfl, hc⟩ := hU.at' hx
    have HX := Lib.hid (Bi.getD_of hx)
    clear hx hU
    go_enter Tryd.func77, Tryd.ntmps77
    go_wp2
    go_ret
    exact ⟨⟨x, HX.out.symm, bx, rfl⟩, rfl⟩
  · have HX := Lib.hid (Bi.getD_out (l := l) (k := k) (by omega))
    clear hU
    go_enter Tryd.func77, Tryd.ntmps77
    go_wp2
    go_ret
    exact ⟨⟨0, HX.out.symm, by decide, rfl⟩, rfl⟩

set_option maxRecDepth 100000 in
set_option maxHeartbeats 400000 in
theorem minus_any (a b : List Nat) (aoa aob : Option Addr) (ca cb : Nat) (w : World) (hma : a.length ≤ 1000000000) (hmb : b.length ≤ a.length) (hle : Hid (Bi.val b ≤ Bi.val a))
    (hoa : Bi.Ok a) (hob : Bi.Ok b) (ha : U w aoa a) (hb : U w aob b) :
    Calls Tryd.prog 76 #[.slice aoa a.length ca, .slice aob b.length cb] w fun e w' => ∃ ao L cap, L = Bi.limbs (Bi.val a - Bi.val b) ∧ e = .returned (.slice ao L.length cap) ∧ L.length ≤ cap ∧
      L.length ≤ a.length ∧ U w' ao L ∧ Below w.heap.size w w' := by
  go_enter Tryd.func76, Tryd.ntmps76
  go_wp2_with (at_make; refine make_u32 _ rfl _ _ rfl w w.heap.size _ a.length rfl rfl (by omega) (by omega) (Nat.le_refl _) (Below.refl _ _) ?_; intro w0 hown0 hb0)
  go_loopw [5, 6, 15] (fun out c i wr => ∃ (k cr : Nat) (q : List Nat), k ≤ a.length ∧ i = .int .i64 k ∧ c = .int .u32 cr ∧ cr ≤ 1 ∧ OwnU wr w.heap.size out q ∧ q.length = k ∧ Bi.Ok q ∧
      Hid (Bi.val q + Bi.val (b.take k) = Bi.val (a.take k) + 1000000000 ^ k * cr) ∧ Below w.heap.size w wr) (fun _ _ i _ => a.length - (intOf i).toNat)
  case atStart => exact ⟨0, 0, [], Nat.zero_le _, rfl, rfl, by omega, hown0, rfl, Bi.Ok.nil, Lib.hid (by simp [Bi.val]), hb0⟩
  case round =>
    obtain ⟨k, cr, q, hk, rfl, rfl, hcr, hown, hql, hoq, HI, hbr⟩ := hrel
    have HQL := Lib.hid hql; have hq2 : q.length ≤ k := Nat.le_of_eq hql; clear hql
    by_cases hlt : k < a.length
    · obtain ⟨xk, hxk⟩ := get_some hlt
      have bx := hoa.at' hxk
      obtain ⟨b1, o1, rfl, hcx⟩ := (ha.mono hbr).at' hxk
      have HX := Lib.hid (Bi.getD_of hxk)
      clear hxk ha
      by_cases hly : k < b.length
      · obtain ⟨yk, hyk⟩ := get_some hly
        have by' := hob.at' hyk
        obtain ⟨b2, o2, rfl, hcy⟩ := (hb.mono hbr).at' hyk
        have HY := Lib.hid (Bi.getD_of hyk)
        clear hyk hb
        by_cases hs : (xk : Int) < (cr : Int) + (yk : Int)
        · go_wp2_with (at_builtin; refine app_u32 _ _ (xk + 1000000000 - (cr + yk)) (by omega) rfl _ _ rfl w w.heap.size _ q rfl hown hbr.size hbr rfl (by omega) ?_; intro v' w' hown' hb')
          go_roundw
          case rel => exact ⟨k + 1, 1, q ++ [xk + 1000000000 - (cr + yk)], by omega, by go_num, rfl, by omega, hown', by simp [HQL.out], hoq.snoc (by omega), Lib.hid (Bi.minus_step HQL.out HI.out (by rw [HX.out, HY.out]; omega)), hb'⟩
          case measure => simp [intOf]; omega
        · go_wp2_with (at_builtin; refine app_u32 _ _ (xk - (cr + yk)) (by omega) rfl _ _ rfl w w.heap.size _ q rfl hown hbr.size hbr rfl (by omega) ?_; intro v' w' hown' hb')
          go_roundw
          case rel => exact ⟨k + 1, 0, q ++ [xk - (cr + yk)], by omega, by go_num, rfl, by omega, hown', by simp [HQL.out], hoq.snoc (by omega), Lib.hid (Bi.minus_step HQL.out HI.out (by rw [HX.out, HY.out]; omega)), hb'⟩
          case measure => simp [intOf]; omega
      · have HY := Lib.hid (Bi.getD_out (l := b) (k := k) (by omega))
        by_cases hs : (xk : Int) < (cr : Int)
        · go_wp2_with (at_builtin; refine app_u32 _ _ (xk + 1000000000 - cr) (by omega) rfl _ _ rfl w w.heap.size _ q rfl hown hbr.size hbr rfl (by omega) ?_; intro v' w' hown' hb')
          go_roundw
          case rel => exact ⟨k + 1, 1, q ++ [xk + 1000000000 - cr], by omega, by go_num, rfl, by omega, hown', by simp [HQL.out], hoq.snoc (by omega), Lib.hid (Bi.minus_step HQL.out HI.out (by rw [HX.out, HY.out]; omega)), hb'⟩
          case measure => simp [intOf]; omega
        · go_wp2_with (at_builtin; refine app_u32 _ _ (xk - cr) (by omega) rfl _ _ rfl w w.heap.size _ q rfl hown hbr.size hbr rfl (by omega) ?_; intro v' w' hown' hb')
          go_roundw
          case rel => exact ⟨k + 1, 0, q ++ [xk - cr], by omega, by go_num, rfl, by omega, hown', by simp [HQL.out], hoq.snoc (by omega), Lib.hid (Bi.minus_step HQL.out HI.out (by rw [HX.out, HY.out]; omega)), hb'⟩
          case measure => simp [intOf]; omega
    · obtain rfl : k = a.length := by omega
      clear ha hb
      obtain ⟨ao, cap, rfl, hcap, hU⟩ := hown.read
      go_wp2_with (go_at_call 69; refine (trim_any q ao cap _ (by omega) hcap hU).mono ?_; rintro e w' ⟨L, hL, hLl, rfl, hU', rfl⟩; have HL := Lib.hid hL; clear hL)
      go_ret
      refine ⟨ao, L, cap, ?_, rfl, by omega, by omega, hU', hbr⟩
      rw [HL.out, Bi.trim_eq_limbs hoq, Bi.minus_end hoq HQL.out hle.out hmb HI.out]

set_option maxRecDepth 100000 in
set_option maxHeartbeats 400000 in
theorem radd_any (a b : List Nat) (aoa aob : Option Addr) (ca cb : Nat) (w : World) (hma : a.length ≤ 1000000000) (hmb : b.length ≤ 1000000000)
    (hoa : Bi.Ok a) (hob : Bi.Ok b) (ha : U w aoa a) (hb : U w aob b) :
    Calls Tryd.prog 54 #[.slice aoa a.length ca, .slice aob b.length cb] w fun e w' => ∃ ao L cap, L = Bi.limbs (Bi.val a + Bi.val b) ∧ e = .returned (.slice ao L.length cap) ∧ L.length ≤ cap ∧
      L.length ≤ a.length + b.length + 1 ∧ U w' ao L ∧ Below w.heap.size w w' := by
  go_enter Tryd.func54, Tryd.ntmps54
  go_wp2
  go_loopw [5, 6, 7] (fun out c i wr => ∃ (k cr : Nat) (q : List Nat), k ≤ a.length + b.length + 1 ∧ i = .int .i64 k ∧ c = .int .u64 cr ∧ cr ≤ 1 ∧ OwnU wr w.heap.size out q ∧ q.length = k ∧ Bi.Ok q ∧
      (a.length < k → b.length < k → cr = 0) ∧ Hid (Bi.val q + 1000000000 ^ k * cr = Bi.val (a.take k) + Bi.val (b.take k)) ∧ Below w.heap.size w wr) (fun _ _ i _ => a.length + b.length + 1 - (intOf i).toNat)
  case atStart => exact ⟨0, 0, [], Nat.zero_le _, rfl, rfl, by omega, OwnU.nil _ _, rfl, Bi.Ok.nil, by omega, Lib.hid (by simp [Bi.val]), Below.refl _ _⟩
  case round =>
    obtain ⟨k, cr, q, hk, rfl, rfl, hcr, hown, hql, hoq, h0, HI, hbr⟩ := hrel
    have HQL := Lib.hid hql; have hq2 : q.length ≤ k := Nat.le_of_eq hql; clear hql
    by_cases hgo : k < a.length ∨ k < b.length ∨ 0 < cr
    · have hk2 : k < a.length + b.length + 1 := by omega
      have H0 := Lib.hid h0; clear h0
      have ha' := ha.mono hbr
      have hb' := hb.mono hbr
      clear ha hb
      have hgo' : (k < a.length) ∨ (¬ k < a.length ∧ k < b.length) ∨ (¬ k < a.length ∧ ¬ k < b.length ∧ (0 : Int) < (cr : Int)) := by omega
      clear hgo
      rcases hgo' with h1 | ⟨h1, h2⟩ | ⟨h1, h2, h3⟩
      all_goals
        go_wp2_with fail
        refine (limb_any a k _ _ _ (by omega) ha' hoa).mono ?_
        rintro e w1 ⟨⟨xk, hxk, bx, rfl⟩, rfl⟩
        have HX := Lib.hid hxk; clear hxk
        go_wp2_with fail
        refine (limb_any b k _ _ _ (by omega) hb' hob).mono ?_
        rintro e w1 ⟨⟨yk, hyk, by', rfl⟩, rfl⟩
        have HY := Lib.hid hyk; clear hyk
        go_wp2_with (at_builtin; refine app_u32 _ _ ((xk + yk + cr) % 1000000000) (by omega) rfl _ _ rfl w w.heap.size _ q rfl hown hbr.size hbr rfl (by omega) ?_; intro v' w' hown' hbw)
        go_roundw
        case rel =>
          refine ⟨k + 1, (xk + yk + cr) / 1000000000, q ++ [(xk + yk + cr) % 1000000000], by omega, by go_num, by go_num, by omega, hown', by simp [HQL.out], hoq.snoc (by omega), fun h4 h5 => ?_, Lib.hid (Bi.plus_step HQL.out HI.out (by rw [← HX.out, ← HY.out]; omega)), hbw⟩
          have h6 := HX.out
          have h7 := HY.out
          rw [Bi.getD_out (by omega)] at h6 h7
          omega
        case measure => simp [intOf]; omega
    · obtain ⟨h1, h2, rfl⟩ : ¬ k < a.length ∧ ¬ k < b.length ∧ cr = 0 := by omega
      clear ha hb h0
      obtain ⟨ao, cap, rfl, hcap, hU⟩ := hown.read
      go_wp2_with (go_at_call 67; refine (rtrim_any q ao cap _ (by omega) hcap hU).mono ?_; rintro e w' ⟨L, hL, hLl, rfl, hU', rfl⟩; have HL := Lib.hid hL; clear hL)
      go_ret
      refine ⟨ao, L, cap, ?_, rfl, by omega, by omega, hU', hbr⟩
      have h3 := HI.out
      rw [Nat.mul_zero, Nat.add_zero, Bi.val_take_all (by omega), Bi.val_take_all (by omega)] at h3
      rw [HL.out, Bi.trim_eq_limbs hoq, h3]

set_option maxRecDepth 100000 in
set_option maxHeartbeats 400000 in
theorem rsub_any (a b : List Nat) (aoa aob : Option Addr) (ca cb : Nat) (w : World) (hma : a.length ≤ 1000000000) (hmb : b.length ≤ a.length) (hle : Hid (Bi.val b ≤ Bi.val a))
    (hoa : Bi.Ok a) (hob : Bi.Ok b) (ha : U w aoa a) (hb : U w aob b) :
    Calls Tryd.prog 56 #[.slice aoa a.length ca, .slice aob b.length cb] w fun e w' => ∃ ao L cap, L = Bi.limbs (Bi.val a - Bi.val b) ∧ e = .returned (.slice ao L.length cap) ∧ L.length ≤ cap ∧
      L.length ≤ a.length ∧ U w' ao L ∧ Below w.heap.size w w' := by
  go_enter Tryd.func56, Tryd.ntmps56
  go_wp2
  go_loopw [5, 6, 7] (fun out c i wr => ∃ (k cr : Nat) (q : List Nat), k ≤ a.length ∧ i = .int .i64 k ∧ c = .int .u64 cr ∧ cr ≤ 1 ∧ OwnU wr w.heap.size out q ∧ q.length = k ∧ Bi.Ok q ∧
      Hid (Bi.val q + Bi.val (b.take k) = Bi.val (a.take k) + 1000000000 ^ k * cr) ∧ Below w.heap.size w wr) (fun _ _ i _ => a.length - (intOf i).toNat)
  case atStart => exact ⟨0, 0, [], Nat.zero_le _, rfl, rfl, by omega, OwnU.nil _ _, rfl, Bi.Ok.nil, Lib.hid (by simp [Bi.val]), Below.refl _ _⟩
  case round =>
    obtain ⟨k, cr, q, hk, rfl, rfl, hcr, hown, hql, hoq, HI, hbr⟩ := hrel
    have HQL := Lib.hid hql; have hq2 : q.length ≤ k := Nat.le_of_eq hql; clear hql
    by_cases hlt : k < a.length
    · have ha' := ha.mono hbr
      have hb' := hb.mono hbr
      clear ha hb
      go_wp2_with fail
      refine (limb_any a k _ _ _ (by omega) ha' hoa).mono ?_
      rintro e w1 ⟨⟨xk, hxk, bx, rfl⟩, rfl⟩
      have HX := Lib.hid hxk; clear hxk
      go_wp2_with fail
      refine (limb_any b k _ _ _ (by omega) hb' hob).mono ?_
      rintro e w1 ⟨⟨yk, hyk, by', rfl⟩, rfl⟩
      have HY := Lib.hid hyk; clear hyk
      go_wp2_with (at_builtin; refine app_u32 _ _ ((xk + 1000000000 - yk - cr) % 1000000000) (by omega) rfl _ _ rfl w w.heap.size _ q rfl hown hbr.size hbr rfl (by omega) ?_; intro v' w' hown' hbw)
      go_roundw
      case rel =>
        exact ⟨k + 1, 1 - (xk + 1000000000 - yk - cr) / 1000000000, q ++ [(xk + 1000000000 - yk - cr) % 1000000000], by omega, by go_num, by go_num, by omega, hown', by simp [HQL.out], hoq.snoc (by omega), Lib.hid (Bi.minus_step HQL.out HI.out (by rw [← HX.out, ← HY.out]; omega)), hbw⟩
      case measure => simp [intOf]; omega
    · obtain rfl : k = a.length := by omega
      clear ha hb
      obtain ⟨ao, cap, rfl, hcap, hU⟩ := hown.read
      go_wp2_with (go_at_call 67; refine (rtrim_any q ao cap _ (by omega) hcap hU).mono ?_; rintro e w' ⟨L, hL, hLl, rfl, hU', rfl⟩; have HL := Lib.hid hL; clear hL)
      go_ret
      refine ⟨ao, L, cap, ?_, rfl, by omega, by omega, hU', hbr⟩
      rw [HL.out, Bi.trim_eq_limbs hoq, Bi.minus_end hoq HQL.out hle.out hmb HI.out]

set_option maxRecDepth 100000 in
set_option maxHeartbeats 400000 in
theorem rtimes_any (a : List Nat) (n up : Nat) (aoa : Option Addr) (ca : Nat) (w : World) (hma : a.length ≤ 1000000000) (hup : up ≤ 1000000000) (hn : n < 1000000000)
    (hoa : Bi.Ok a) (ha : U w aoa a) :
    Calls Tryd.prog 73 #[.slice aoa a.length ca, .int .u64 n, .int .i64 up] w fun e w' => ∃ ao L cap, L = Bi.limbs (1000000000 ^ up * (Bi.val a * n)) ∧ e = .returned (.slice ao L.length cap) ∧ L.length ≤ cap ∧
      L.length ≤ a.length + up + 1 ∧ U w' ao L ∧ Below w.heap.size w w' := by
  go_enter Tryd.func73, Tryd.ntmps73
  go_wp2_with (at_make; refine make_u32_full _ rfl _ _ rfl w w.heap.size _ _ up rfl rfl rfl rfl (by omega) (Nat.le_refl _) (Below.refl _ _) ?_; intro w0 hown0 hb0)
  go_loopw [7, 8, 9] (fun out c i wr => ∃ (k cr : Nat) (q : List Nat), k ≤ a.length + 1 ∧ i = .int .i64 k ∧ c = .int .u64 cr ∧ cr < 1000000000 ∧ OwnU wr w.heap.size out q ∧ q.length = up + k ∧ Bi.Ok q ∧
      (a.length < k → cr = 0) ∧ Hid (Bi.val q + 1000000000 ^ (up + k) * cr = 1000000000 ^ up * (Bi.val (a.take k) * n)) ∧ Below w.heap.size w wr) (fun _ _ i _ => a.length + 1 - (intOf i).toNat)
  case atStart => exact ⟨0, 0, List.replicate up 0, Nat.zero_le _, rfl, rfl, by omega, hown0, by simp, Bi.Ok.replicate _, by omega, Lib.hid (by simp [Bi.val, Bi.val_replicate_zero]), hb0⟩
  case round =>
    obtain ⟨k, cr, q, hk, rfl, rfl, hcr, hown, hql, hoq, h0, HI, hbr⟩ := hrel
    have HQL := Lib.hid hql; have hq2 : q.length ≤ up + k := Nat.le_of_eq hql; clear hql
    by_cases hgo : k < a.length ∨ 0 < cr
    · have hk2 : k < a.length + 1 := by omega
      clear h0
      have ha' := ha.mono hbr
      clear ha
      have hgo' : (k < a.length) ∨ (¬ k < a.length ∧ (0 : Int) < (cr : Int)) := by omega
      clear hgo
      rcases hgo' with h1 | ⟨h1, h3⟩
      all_goals
        go_wp2_with fail
        refine (limb_any a k _ _ _ (by omega) ha' hoa).mono ?_
        rintro e w1 ⟨⟨xk, hxk, bx, rfl⟩, rfl⟩
        have HX := Lib.hid hxk; clear hxk
        obtain ⟨m, hm⟩ : ∃ m : Nat, m = xk * n := ⟨_, rfl⟩
        have hm2 : m + cr < 1000000000000000000 := by rw [hm]; exact Bi.mul_lt_base bx hn hcr
        have hm3 : (xk : Int) * (n : Int) = (m : Int) := by rw [hm]; simp
        have HM := Lib.hid hm; clear hm
        go_wp2_with (at_builtin; refine app_u32 _ _ ((m + cr) % 1000000000) (by omega) rfl _ _ rfl w w.heap.size _ q rfl hown hbr.size hbr rfl (by omega) ?_; intro v' w' hown' hbw)
        go_roundw
        case rel =>
          refine ⟨k + 1, (m + cr) / 1000000000, q ++ [(m + cr) % 1000000000], by omega, by go_num, by go_num, by omega, hown', by simp [HQL.out]; omega, hoq.snoc (by omega), fun h4 => ?_, Lib.hid (Bi.rtimes_step HQL.out (by rw [← HX.out, HM.out]) HI.out), hbw⟩
          have h6 := HX.out
          rw [Bi.getD_out (by omega)] at h6
          have h7 := HM.out
          rw [h6, Nat.zero_mul] at h7
          omega
        case measure => simp [intOf]; omega
    · obtain ⟨h1, rfl⟩ : ¬ k < a.length ∧ cr = 0 := by omega
      clear ha h0
      obtain ⟨ao, cap, rfl, hcap, hU⟩ := hown.read
      go_wp2_with (go_at_call 67; refine (rtrim_any q ao cap _ (by omega) hcap hU).mono ?_; rintro e w' ⟨L, hL, hLl, rfl, hU', rfl⟩; have HL := Lib.hid hL; clear hL)
      go_ret
      refine ⟨ao, L, cap, ?_, rfl, by omega, by omega, hU', hbr⟩
      have h3 := HI.out
      rw [Nat.mul_zero, Nat.add_zero, Bi.val_take_all (by omega)] at h3
      rw [HL.out, Bi.trim_eq_limbs hoq, h3]

end Go.Proofs.YtijjagofingpdaaDoor
