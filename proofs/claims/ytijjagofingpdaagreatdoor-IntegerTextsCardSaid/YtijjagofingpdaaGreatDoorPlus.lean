import Derived.Test.YtijjagofingpdaaGreatDoorBase
import Derived.Test.YtijjagofingpdaaGreatDoorPlain
namespace Go.Proofs.YtijjagofingpdaaGreatDoor
open Go.RowKit

set_option maxRecDepth 100000 in
set_option maxHeartbeats 400000 in
theorem plus_any (a b : List Nat) (aoa aob : Option Addr) (ca cb : Nat) (w : World) (hma : a.length ≤ 1000000000) (hmb : b.length ≤ 1000000000)
    (hoa : Bi.Ok a) (hob : Bi.Ok b) (ha : U w aoa a) (hb : U w aob b) :
    Calls Tryz.prog 66 #[.slice aoa a.length ca, .slice aob b.length cb] w fun e w' => ∃ ao L cap, e = .returned (.slice ao L.length cap) ∧ L.length ≤ cap ∧ Bi.Ok L ∧
      Bi.val L = Bi.val a + Bi.val b ∧ L.length ≤ a.length + b.length + 1 ∧ U w' ao L ∧ Below w.heap.size w w' := by
  go_enter Tryz.func66, Tryz.ntmps66
  go_upto_if 13 with (fail)
  go_cut [0, 1] (fun s0 s1 wx => ∃ (x y : List Nat) (aox aoy : Option Addr) (cx cy : Nat), s0 = .slice aox x.length cx ∧ s1 = .slice aoy y.length cy ∧ y.length ≤ x.length ∧ x.length ≤ 1000000000 ∧
    x.length ≤ a.length + b.length ∧ Bi.Ok x ∧ Bi.Ok y ∧ Bi.val x + Bi.val y = Bi.val a + Bi.val b ∧ U wx aox x ∧ U wx aoy y ∧ w = wx)
  case first =>
    go_wp2
    · go_meet
      exact ⟨b, a, aob, aoa, cb, ca, rfl, rfl, by omega, hmb, by omega, hob, hoa, Nat.add_comm _ _, hb, ha, rfl⟩
    · go_meet
      exact ⟨a, b, aoa, aob, ca, cb, rfl, rfl, by omega, hma, by omega, hoa, hob, rfl, ha, hb, rfl⟩
  case rest =>
    obtain ⟨x, y, aox, aoy, cx, cy, rfl, rfl, hle, hxm, hxl, hox, hoy, hv, hx, hy, rfl⟩ := hcut
    have HV := Lib.hid hv; clear hv
    clear ha hb hoa hob hma hmb
    go_wp2_with (at_make; refine make_u32 _ rfl _ _ rfl w w.heap.size _ (x.length + 1) rfl rfl (by omega) (by omega) (Nat.le_refl _) (Below.refl _ _) ?_; intro w0 hown0 hb0)
    go_loopw [5, 6, 22] (fun out c i wr => ∃ (k cr : Nat) (q : List Nat), k ≤ x.length ∧ i = .int .i64 k ∧ c = .int .u32 cr ∧ cr ≤ 1 ∧ OwnU wr w.heap.size out q ∧ q.length = k ∧ Bi.Ok q ∧
      Hid (Bi.val q + 1000000000 ^ k * cr = Bi.val (x.take k) + Bi.val (y.take k)) ∧ Below w.heap.size w wr) (fun _ _ i _ => x.length - (intOf i).toNat)
    case atStart => exact ⟨0, 0, [], Nat.zero_le _, rfl, rfl, by omega, hown0, rfl, Bi.Ok.nil, Lib.hid (by simp [Bi.val]), hb0⟩
    case round =>
      obtain ⟨k, cr, q, hk, rfl, rfl, hcr, hown, hql, hoq, HI, hbr⟩ := hrel
      have HQL := Lib.hid hql; have hq2 : q.length ≤ k := Nat.le_of_eq hql; clear hql
      by_cases hlt : k < x.length
      · obtain ⟨xk, hxk⟩ := get_some hlt
        have bx := hox.at' hxk
        obtain ⟨b1, o1, rfl, hcx⟩ := (hx.mono hbr).at' hxk
        have HX := Lib.hid (Bi.getD_of hxk)
        clear hxk hx
        by_cases hly : k < y.length
        · obtain ⟨yk, hyk⟩ := get_some hly
          have by' := hoy.at' hyk
          obtain ⟨b2, o2, rfl, hcy⟩ := (hy.mono hbr).at' hyk
          have HY := Lib.hid (Bi.getD_of hyk)
          clear hyk hy
          by_cases hs : (1000000000 : Int) ≤ (xk : Int) + (cr : Int) + (yk : Int)
          · go_wp2_with (at_builtin; refine app_u32 _ _ (xk + cr + yk - 1000000000) (by omega) rfl _ _ rfl w w.heap.size _ q rfl hown hbr.size hbr rfl (by omega) ?_; intro v' w' hown' hb')
            go_roundw
            case rel => exact ⟨k + 1, 1, q ++ [xk + cr + yk - 1000000000], by omega, by go_num, rfl, by omega, hown', by simp [HQL.out], hoq.snoc (by omega), Lib.hid (Bi.plus_step HQL.out HI.out (by rw [HX.out, HY.out]; omega)), hb'⟩
            case measure => simp [intOf]; omega
          · go_wp2_with (at_builtin; refine app_u32 _ _ (xk + cr + yk) (by omega) rfl _ _ rfl w w.heap.size _ q rfl hown hbr.size hbr rfl (by omega) ?_; intro v' w' hown' hb')
            go_roundw
            case rel => exact ⟨k + 1, 0, q ++ [xk + cr + yk], by omega, by go_num, rfl, by omega, hown', by simp [HQL.out], hoq.snoc (by omega), Lib.hid (Bi.plus_step HQL.out HI.out (by rw [HX.out, HY.out]; omega)), hb'⟩
            case measure => simp [intOf]; omega
        · have HY := Lib.hid (Bi.getD_out (l := y) (k := k) (by omega))
          by_cases hs : (1000000000 : Int) ≤ (xk : Int) + (cr : Int)
          · go_wp2_with (at_builtin; refine app_u32 _ _ (xk + cr - 1000000000) (by omega) rfl _ _ rfl w w.heap.size _ q rfl hown hbr.size hbr rfl (by omega) ?_; intro v' w' hown' hb')
            go_roundw
            case rel => exact ⟨k + 1, 1, q ++ [xk + cr - 1000000000], by omega, by go_num, rfl, by omega, hown', by simp [HQL.out], hoq.snoc (by omega), Lib.hid (Bi.plus_step HQL.out HI.out (by rw [HX.out, HY.out]; omega)), hb'⟩
            case measure => simp [intOf]; omega
          · go_wp2_with (at_builtin; refine app_u32 _ _ (xk + cr) (by omega) rfl _ _ rfl w w.heap.size _ q rfl hown hbr.size hbr rfl (by omega) ?_; intro v' w' hown' hb')
            go_roundw
            case rel => exact ⟨k + 1, 0, q ++ [xk + cr], by omega, by go_num, rfl, by omega, hown', by simp [HQL.out], hoq.snoc (by omega), Lib.hid (Bi.plus_step HQL.out HI.out (by rw [HX.out, HY.out]; omega)), hb'⟩
            case measure => simp [intOf]; omega
      · obtain rfl : k = x.length := by omega
        clear hx hy
        go_wp2_with (at_builtin; refine app_u32 _ _ cr rfl rfl _ _ rfl w w.heap.size _ q rfl hown hbr.size hbr rfl (by omega) ?_; intro v' w' hown' hb')
        go_ret
        obtain ⟨ao, cap, rfl, hcap, hU⟩ := hown'.read
        refine ⟨ao, q ++ [cr], cap, rfl, hcap, hoq.snoc (by omega), ?_, by simp [HQL.out]; omega, hU, hb'⟩
        have h1 := HI.out
        rw [List.take_of_length_le (by omega), List.take_of_length_le (by omega)] at h1
        rw [Bi.val_snoc, HQL.out, h1, HV.out]
end Go.Proofs.YtijjagofingpdaaGreatDoor
