import Derived.Test.YtijjagofingpdaaGreatDoorArith
namespace Go.Proofs.YtijjagofingpdaaGreatDoor
open Go.RowKit

set_option maxRecDepth 100000 in
set_option maxHeartbeats 1000000 in
theorem times_any (a b : List Nat) (aoa aob : Option Addr) (ca cb : Nat) (w : World) (hma : a.length ≤ 100000000) (hmb : b.length ≤ 100000000)
    (hoa : Bi.Ok a) (hob : Bi.Ok b) (ha : U w aoa a) (hb : U w aob b) :
    Calls Tryz.prog 39 #[.slice aoa a.length ca, .slice aob b.length cb] w fun e w' => ∃ ao L cap, L = Bi.limbs (Bi.val a * Bi.val b) ∧ e = .returned (.slice ao L.length cap) ∧ L.length ≤ cap ∧
      U w' ao L ∧ Below w.heap.size w w' := by
  go_enter Tryz.func39, Tryz.ntmps39
  go_wp2_with (at_make; refine make_u32_full _ rfl _ _ rfl w w.heap.size _ _ (a.length + b.length) rfl rfl (by omega) (by omega) (by omega) (Nat.le_refl _) (Below.refl _ _) ?_; intro w0 hown0 hb0)
  go_loopw [20] (fun i wr => ∃ (k : Nat) (q : List Nat), k ≤ a.length ∧ i = .int .i64 k ∧ OwnU wr w.heap.size (.slice (some ⟨w.heap.size, 0, none⟩) (a.length + b.length) (a.length + b.length)) q ∧ Bi.Ok q ∧
      Hid (∀ j, k + b.length ≤ j → q.getD j 0 = 0) ∧ Hid (Bi.val q = Bi.val (a.take k) * Bi.val b) ∧ Below w.heap.size w wr) (fun i _ => a.length - (intOf i).toNat)
  case atStart =>
    refine ⟨0, _, Nat.zero_le _, rfl, hown0, Bi.Ok.replicate _, Lib.hid fun j _ => ?_, Lib.hid (by simp [Bi.val, Bi.val_replicate_zero]), hb0⟩
    rw [List.getD_eq_getElem?_getD, List.getElem?_replicate]; split <;> rfl
  case round =>
    obtain ⟨k, q, hk, rfl, hown, hoq, HZ, HI, hbr⟩ := hrel
    by_cases hlt : k < a.length
    · obtain ⟨xk, hxk⟩ := get_some hlt
      have bx := hoa.at' hxk
      obtain ⟨b1, o1, rfl, hcx⟩ := (ha.mono hbr).at' hxk
      have HX := Lib.hid (Bi.getD_of hxk)
      clear hxk ha
      go_wp2_with fail
      go_loopw [8, 27] (fun c i wi => ∃ (t cr : Nat) (p : List Nat), t ≤ b.length ∧ i = .int .i64 t ∧ c = .int .u64 cr ∧ cr < 1000000000 ∧
        OwnU wi w.heap.size (.slice (some ⟨w.heap.size, 0, none⟩) (a.length + b.length) (a.length + b.length)) p ∧ Bi.Ok p ∧
        Hid (∀ j, k + b.length ≤ j → p.getD j 0 = 0) ∧ Hid (Bi.val p + 1000000000 ^ (k + t) * cr = Bi.val (a.take k) * Bi.val b + 1000000000 ^ k * (xk * Bi.val (b.take t))) ∧ Below w.heap.size w wi) (fun _ i _ => b.length - (intOf i).toNat)
      case atStart =>
        exact ⟨0, 0, q, Nat.zero_le _, rfl, rfl, by omega, hown, hoq, HZ, Lib.hid (by have := HI.out; simp [Bi.val]; exact this), hbr⟩
      case round =>
        clear hown hoq HZ HI hbr hcx
        obtain ⟨t, cr, p, ht, rfl, rfl, hcr, hown, hop, HZ, HI, hbr⟩ := hrel
        have hpl := hown.len.1
        have hpl2 : a.length + b.length ≤ p.length := Nat.le_of_eq hpl
        have HPL := Lib.hid hpl; clear hpl
        by_cases hlt2 : t < b.length
        · obtain ⟨yk, hyk⟩ := get_some hlt2
          have by' := hob.at' hyk
          obtain ⟨b2, o2, rfl, hcy⟩ := (hb.mono hbr).at' hyk
          have HY := Lib.hid (Bi.getD_of hyk)
          obtain ⟨z, hz⟩ := get_some (l := p) (k := k + t) (by omega)
          have bz := hop.at' hz
          have hcz := hown.at' hz
          have hfz := hown.free (k + t)
          have HZ2 := Lib.hid (Bi.getD_of hz)
          clear hyk hb hz
          obtain ⟨m, hm⟩ : ∃ m : Nat, m = xk * yk := ⟨_, rfl⟩
          have hm2 : m + 1999999998 < 1000000000000000000 := by
            have h1 : xk * yk ≤ 999999999 * 999999999 := Nat.mul_le_mul (by omega) (by omega)
            rw [hm]; omega
          have hm3 : (xk : Int) * (yk : Int) = (m : Int) := by rw [hm]; simp
          have HM := Lib.hid hm; clear hm
          go_wp2
          have hown' := hown.set (k + t) (((z : Int) + m + cr) % 1000000000) ((z + m + cr) % 1000000000) (by omega)
          have hb' := hbr.setCell (p := ⟨w.heap.size, k + t, none⟩) (Nat.le_refl _) (.int .u32 (((z : Int) + m + cr) % 1000000000))
          go_roundw
          case rel =>
            refine ⟨t + 1, (z + m + cr) / 1000000000, p.set (k + t) ((z + m + cr) % 1000000000), by omega, by go_num, by go_num, by omega, hown', hop.set _ (by omega), Lib.hid fun j hj => ?_, Lib.hid (Bi.times_step (by omega) (by rw [HZ2.out, HY.out, HM.out]) HI.out), hb'⟩
            rw [List.getD_eq_getElem?_getD, List.getElem?_set_ne (by omega), ← List.getD_eq_getElem?_getD]
            exact HZ.out j hj
          case measure => simp [intOf]; omega
        · obtain rfl : t = b.length := by omega
          obtain ⟨z, hz⟩ := get_some (l := p) (k := k + b.length) (by omega)
          have hcz := hown.at' hz
          have hfz := hown.free (k + b.length)
          clear hz
          go_wp2
          have hown' := hown.set (k + b.length) (cr : Int) cr rfl
          have hb' := hbr.setCell (p := ⟨w.heap.size, k + b.length, none⟩) (Nat.le_refl _) (.int .u32 (cr : Int))
          go_roundw
          case rel =>
            refine ⟨k + 1, p.set (k + b.length) cr, by omega, by go_num, hown', hop.set _ hcr, Lib.hid fun j hj => ?_, Lib.hid ?_, hb'⟩
            · rw [List.getD_eq_getElem?_getD, List.getElem?_set_ne (by omega), ← List.getD_eq_getElem?_getD]
              exact HZ.out j (by omega)
            · rw [Bi.times_row rfl (by omega) (HZ.out _ (Nat.le_refl _)) HI.out, ← HX.out, Bi.times_outer]
          case measure => simp [intOf]; omega
    · obtain rfl : k = a.length := by omega
      clear ha hb
      obtain ⟨hl1, _⟩ := hown.len
      obtain ⟨ao, cap, e1, hcap, hU⟩ := hown.read
      rw [← hl1] at e1
      simp only [Value.slice.injEq] at e1
      obtain ⟨rfl, _, rfl⟩ := e1
      have hq2 : q.length ≤ a.length + b.length := Nat.le_of_eq hl1.symm
      go_wp2_with fail
      rw [hl1]
      refine (trim_any q _ _ _ (by omega) (by omega) hU).mono ?_
      rintro e w' ⟨L, hL, hLl, rfl, hU', rfl⟩; have HL := Lib.hid hL; clear hL hl1
      go_wp2
      go_ret
      refine ⟨_, L, _, ?_, rfl, by omega, hU', hbr⟩
      rw [HL.out, Bi.trim_eq_limbs hoq, HI.out, Bi.val_take_all (Nat.le_refl _)]

end Go.Proofs.YtijjagofingpdaaGreatDoor
