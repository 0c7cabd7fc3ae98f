import Derived.Test.YtijjagofingpdaaGreatDoorTrim
namespace Go.Proofs.YtijjagofingpdaaGreatDoor
open Go.RowKit

theorem limb_any (l : List Nat) (k : Nat) (ao : Option Addr) (cap : Nat) (w : World) (_hm : l.length ≤ 1000000000000) (hU : U w ao l) (ho : Bi.Ok l) :
    Calls Tryz.prog 36 #[.slice ao l.length cap, .int .i64 k] w fun e w' => (∃ x : Nat, x = l.getD k 0 ∧ x < 1000000000 ∧ e = .returned (.int .u64 x)) ∧ w = w' := by
  by_cases hk : k < l.length
  · obtain ⟨x, hx⟩ := get_some hk
    have bx := ho.at' hx
    obtain ⟨b, off, rfl, hc⟩ := hU.at' hx
    have HX := Lib.hid (Bi.getD_of hx)
    clear hx hU
    go_enter Tryz.func36, Tryz.ntmps36
    go_wp2
    go_ret
    exact ⟨⟨x, HX.out.symm, bx, rfl⟩, rfl⟩
  · have HX := Lib.hid (Bi.getD_out (l := l) (k := k) (by omega))
    clear hU
    go_enter Tryz.func36, Tryz.ntmps36
    go_wp2
    go_ret
    exact ⟨⟨0, HX.out.symm, by decide, rfl⟩, rfl⟩

set_option maxRecDepth 100000 in
set_option maxHeartbeats 400000 in
theorem minus_any (a b : List Nat) (aoa aob : Option Addr) (ca cb : Nat) (w : World) (hma : a.length ≤ 1000000000) (hmb : b.length ≤ a.length) (hle : Hid (Bi.val b ≤ Bi.val a))
    (hoa : Bi.Ok a) (hob : Bi.Ok b) (ha : U w aoa a) (hb : U w aob b) :
    Calls Tryz.prog 67 #[.slice aoa a.length ca, .slice aob b.length cb] w fun e w' => ∃ ao L cap, L = Bi.limbs (Bi.val a - Bi.val b) ∧ e = .returned (.slice ao L.length cap) ∧ L.length ≤ cap ∧
      L.length ≤ a.length ∧ U w' ao L ∧ Below w.heap.size w w' := by
  go_enter Tryz.func67, Tryz.ntmps67
  go_wp2_with (at_make; refine make_u32 _ rfl _ _ rfl w w.heap.size _ a.length rfl rfl (by omega) (by omega) (Nat.le_refl _) (Below.refl _ _) ?_; intro w0 hown0 hb0)
  go_loopw [5, 6, 15] (fun out c i wr => ∃ (k cr : Nat) (q : List Nat), k ≤ a.length ∧ i = .int .i64 k ∧ c = .int .u32 cr ∧ cr ≤ 1 ∧ OwnU wr w.heap.size out q ∧ q.length = k ∧ Bi.Ok q ∧
      Hid (Bi.val q + Bi.val (b.take k) = Bi.val (a.take k) + 1000000000 ^ k * cr) ∧ Below w.heap.size w wr) (fun _ _ i _ => a.length - (intOf i).toNat)
  case atStart => exact ⟨0, 0, [], Nat.zero_le _, rfl, rfl, by omega, hown0, rfl, Bi.Ok.nil, Lib.hid (by simp [Bi.val]), hb0⟩
  case round =>
    obtain ⟨k, cr, q, hk, rfl, rfl, hcr, hown, hql, hoq, HI, hbr⟩ := hrel
    have HQL := Lib.hid hql; have hq2 : q.length ≤ k := Nat.le_of_eq hql; clear hql
    by_cases hlt : k < a.length
    · obtain ⟨xk, hxk⟩ := get_some hlt
      have bx := hoa.at' hxk
      obtain ⟨b1, o1, rfl, hcx⟩ := (ha.mono hbr).at' hxk
      have HX := Lib.hid (Bi.getD_of hxk)
      clear hxk ha
      by_cases hly : k < b.length
      · obtain ⟨yk, hyk⟩ := get_some hly
        have by' := hob.at' hyk
        obtain ⟨b2, o2, rfl, hcy⟩ := (hb.mono hbr).at' hyk
        have HY := Lib.hid (Bi.getD_of hyk)
        clear hyk hb
        by_cases hs : (xk : Int) < (cr : Int) + (yk : Int)
        · go_wp2_with (at_builtin; refine app_u32 _ _ (xk + 1000000000 - (cr + yk)) (by omega) rfl _ _ rfl w w.heap.size _ q rfl hown hbr.size hbr rfl (by omega) ?_; intro v' w' hown' hb')
          go_roundw
          case rel => exact ⟨k + 1, 1, q ++ [xk + 1000000000 - (cr + yk)], by omega, by go_num, rfl, by omega, hown', by simp [HQL.out], hoq.snoc (by omega), Lib.hid (Bi.minus_step HQL.out HI.out (by rw [HX.out, HY.out]; omega)), hb'⟩
          case measure => simp [intOf]; omega
        · go_wp2_with (at_builtin; refine app_u32 _ _ (xk - (cr + yk)) (by omega) rfl _ _ rfl w w.heap.size _ q rfl hown hbr.size hbr rfl (by omega) ?_; intro v' w' hown' hb')
          go_roundw
          case rel => exact ⟨k + 1, 0, q ++ [xk - (cr + yk)], by omega, by go_num, rfl, by omega, hown', by simp [HQL.out], hoq.snoc (by omega), Lib.hid (Bi.minus_step HQL.out HI.out (by rw [HX.out, HY.out]; omega)), hb'⟩
          case measure => simp [intOf]; omega
      · have HY := Lib.hid (Bi.getD_out (l := b) (k := k) (by omega))
        by_cases hs : (xk : Int) < (cr : Int)
        · go_wp2_with (at_builtin; refine app_u32 _ _ (xk + 1000000000 - cr) (by omega) rfl _ _ rfl w w.heap.size _ q rfl hown hbr.size hbr rfl (by omega) ?_; intro v' w' hown' hb')
          go_roundw
          case rel => exact ⟨k + 1, 1, q ++ [xk + 1000000000 - cr], by omega, by go_num, rfl, by omega, hown', by simp [HQL.out], hoq.snoc (by omega), Lib.hid (Bi.minus_step HQL.out HI.out (by rw [HX.out, HY.out]; omega)), hb'⟩
          case measure => simp [intOf]; omega
        · go_wp2_with (at_builtin; refine app_u32 _ _ (xk - cr) (by omega) rfl _ _ rfl w w.heap.size _ q rfl hown hbr.size hbr rfl (by omega) ?_; intro v' w' hown' hb')
          go_roundw
          case rel => exact ⟨k + 1, 0, q ++ [xk - cr], by omega, by go_num, rfl, by omega, hown', by simp [HQL.out], hoq.snoc (by omega), Lib.hid (Bi.minus_step HQL.out HI.out (by rw [HX.out, HY.out]; omega)), hb'⟩
          case measure => simp [intOf]; omega
    · obtain rfl : k = a.length := by omega
      clear ha hb
      obtain ⟨ao, cap, rfl, hcap, hU⟩ := hown.read
      go_wp2_with (go_at_call 60; refine (trim_any q ao cap _ (by omega) hcap hU).mono ?_; rintro e w' ⟨L, hL, hLl, rfl, hU', rfl⟩; have HL := Lib.hid hL; clear hL)
      go_ret
      refine ⟨ao, L, cap, ?_, rfl, by omega, by omega, hU', hbr⟩
      rw [HL.out, Bi.trim_eq_limbs hoq, Bi.minus_end hoq HQL.out hle.out hmb HI.out]

end Go.Proofs.YtijjagofingpdaaGreatDoor
