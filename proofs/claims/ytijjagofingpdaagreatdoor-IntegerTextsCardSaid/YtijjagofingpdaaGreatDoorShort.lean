import Derived.Test.YtijjagofingpdaaGreatDoorOwn
namespace Go.Proofs.YtijjagofingpdaaGreatDoor
open Go.RowKit

set_option maxHeartbeats 800000 in
theorem short_any (u : List Nat) (v : Nat) (ao : Option Addr) (cap : Nat) (w : World) (hm : u.length ≤ 1000000000) (hv0 : 0 < v) (hv : v < 1000000000) (ho : Bi.Ok u) (hU : U w ao u) :
    Calls Tryz.prog 68 #[.slice ao u.length cap, .int .u32 v] w fun e w' => (∃ (ao' : Option Addr) (L : List Nat) (cap' r : Nat), Hid (L = Bi.limbs (Bi.val u / v)) ∧ Hid (r = Bi.val u % v) ∧ r < 1000000000 ∧ L.length ≤ u.length ∧ L.length ≤ cap' ∧
      e = .returned (.tuple #[.slice ao' L.length cap', .int .u32 r]) ∧ Hid (U w' ao' L)) ∧ Below w.heap.size w w' := by
  go_enter Tryz.func68, Tryz.ntmps68
  go_wp2_with (at_make; refine make_u32_full _ rfl _ _ rfl w w.heap.size _ _ u.length rfl rfl rfl rfl (by omega) (Nat.le_refl _) (Below.refl _ _) ?_; intro w0 hown0 hb0)
  go_loopw [7, 8] (fun s7 s8 wr => ∃ (i : Int) (rest : Nat) (q : List Nat), -1 ≤ i ∧ i < u.length ∧ s8 = .int .i64 i ∧ s7 = .int .u64 rest ∧ rest < v ∧ OwnU wr w.heap.size (.slice (some ⟨w.heap.size, 0, none⟩) u.length u.length) q ∧ Bi.Ok q ∧
      Hid (Bi.val (q.drop (i + 1).toNat) * v + rest = Bi.val (u.drop (i + 1).toNat)) ∧ Below w.heap.size w wr) (fun _ s8 _ => (intOf s8 + 1).toNat)
  case atStart =>
    refine ⟨_, 0, _, by omega, by omega, rfl, rfl, hv0, hown0, Bi.Ok.replicate _, Lib.hid ?_, hb0⟩
    rw [List.drop_eq_nil_of_le (by simp), List.drop_eq_nil_of_le (by omega)]
    simp [Bi.val]
  case round =>
    obtain ⟨i, rest, q, hi1, hi2, rfl, rfl, hrest, hown, hoq, HI, hbr⟩ := hrel
    have HQ := Lib.hid hown.len.1.symm
    by_cases hi : i < 0
    · obtain rfl : i = -1 := by omega
      clear hU
      obtain ⟨ao', cap', e1, hcap, hUq⟩ := hown.read
      rw [HQ.out] at e1 hcap
      simp only [Value.slice.injEq, true_and] at e1
      obtain ⟨rfl, rfl⟩ := e1
      have hql : q.length ≤ u.length := Nat.le_of_eq HQ.out
      go_wp2_with fail
      rw [← HQ.out]
      (with_reducible refine (trim_any q _ _ _ ?_ ?_ hUq).mono ?_)
      · omega
      · exact Nat.le_refl _
      rintro e w1 ⟨L, hL, hLl, rfl, hU', rfl⟩
      have HL := Lib.hid hL; clear hL
      go_wp2
      go_ret2
      have h1 := HI.out
      simp only [Int.reduceNeg, Int.reduceAdd, Int.toNat_zero, List.drop_zero] at h1
      have h2 := Bi.short_end hrest h1
      refine ⟨⟨_, L, _, rest, Lib.hid ?_, Lib.hid h2.2, by omega, by omega, hLl, rfl, Lib.hid hU'⟩, hbr⟩
      rw [HL.out, Bi.trim_eq_limbs hoq, h2.1]
    · obtain ⟨j, rfl⟩ : ∃ j : Nat, i = (j : Int) := ⟨i.toNat, by omega⟩
      have hj : j < u.length := by omega
      obtain ⟨x, hx⟩ := get_some hj
      have bx := ho.at' hx
      obtain ⟨b1, o1, rfl, hcx⟩ := (hU.mono hbr).at' hx
      have HX := Lib.hid (Bi.getD_of hx)
      obtain ⟨z, hz⟩ := get_some (l := q) (k := j) (by rw [HQ.out]; exact hj)
      have hcz := hown.at' hz
      have hfz := hown.free j
      clear hx hU hz
      have hd := Bi.short_digit hrest hv bx
      have hmod : (rest * 1000000000 + x) % v < v := Nat.mod_lt _ hv0
      have hR : (((rest : Int) * 1000000000 + x) / v) = (((rest * 1000000000 + x) / v : Nat) : Int) := by simp
      have hM : (((rest : Int) * 1000000000 + x) % v) = (((rest * 1000000000 + x) % v : Nat) : Int) := by simp
      have HS := Lib.hid (Bi.short_step hv0 hj HQ.out HX.out (by have := HI.out; rwa [show ((j : Int) + 1).toNat = j + 1 by omega] at this))
      generalize (rest * 1000000000 + x) / v = d at hd hR HS
      generalize (rest * 1000000000 + x) % v = m at hmod hM HS
      go_wp2
      have hown' := hown.set j (d : Int) d rfl
      have hb' := hbr.setCell (p := ⟨w.heap.size, j, none⟩) (Nat.le_refl _) (.int .u32 (d : Int))
      go_roundw
      case rel => exact ⟨(j : Int) - 1, m, q.set j d, by omega, by omega, rfl, by first | rfl | exact congrArg _ hM, hmod, hown', hoq.set _ hd, Lib.hid (by rw [show ((j : Int) - 1 + 1).toNat = j by omega]; exact HS.out), hb'⟩
      case measure => (simp [intOf]; try omega)

set_option maxHeartbeats 800000 in
theorem scaled_any (u : List Nat) (d n : Nat) (ao : Option Addr) (cap : Nat) (w : World) (_hm : u.length ≤ 1000000000) (hn : n ≤ 1000000000) (hd : d ≤ 1000000000) (ho : Bi.Ok u) (hU : U w ao u) (hfit : Hid (Bi.val u * d < 1000000000 ^ n)) (hun : u.length ≤ n) :
    Calls Tryz.prog 69 #[.slice ao u.length cap, .int .u64 d, .int .i64 n] w fun e w' => (∃ (L : List Nat), L.length = n ∧ Hid (Bi.val L = Bi.val u * d) ∧ Bi.Ok L ∧
      e = .returned (.slice (some ⟨w.heap.size, 0, none⟩) n n) ∧ OwnU w' w.heap.size (.slice (some ⟨w.heap.size, 0, none⟩) n n) L) ∧ Below w.heap.size w w' := by
  go_enter Tryz.func69, Tryz.ntmps69
  go_wp2_with (at_make; refine make_u32_full _ rfl _ _ rfl w w.heap.size _ _ n rfl rfl rfl rfl (by omega) (Nat.le_refl _) (Below.refl _ _) ?_; intro w0 hown0 hb0)
  go_loopw [8, 14] (fun s8 s14 wr => ∃ (k c : Nat) (q : List Nat), k ≤ n ∧ s14 = .int .i64 k ∧ s8 = .int .u64 c ∧ c ≤ 1000000000 ∧ OwnU wr w.heap.size (.slice (some ⟨w.heap.size, 0, none⟩) n n) q ∧ Bi.Ok q ∧
      Hid (Bi.val (q.take k) + 1000000000 ^ k * c = Bi.val (u.take k) * d) ∧ Below w.heap.size w wr) (fun _ s14 _ => n - (intOf s14).toNat)
  case atStart => exact ⟨0, 0, _, Nat.zero_le _, rfl, rfl, by omega, hown0, Bi.Ok.replicate _, Lib.hid (by simp [Bi.val]), hb0⟩
  case round =>
    obtain ⟨k, c, q, hk, rfl, rfl, hc, hown, hoq, HI, hbr⟩ := hrel
    have HQ := Lib.hid hown.len.1.symm
    by_cases hlt : k < n
    · obtain ⟨z, hz⟩ := get_some (l := q) (k := k) (by rw [HQ.out]; exact hlt)
      have hcz := hown.at' hz
      have hfz := hown.free k
      clear hz
      by_cases hku : k < u.length
      · obtain ⟨x, hx⟩ := get_some hku
        have bx := ho.at' hx
        obtain ⟨b1, o1, rfl, hcx⟩ := (hU.mono hbr).at' hx
        have HX := Lib.hid (Bi.getD_of hx)
        clear hx hU
        obtain ⟨m, hm'⟩ : ∃ m : Nat, m = x * d := ⟨_, rfl⟩
        have hm2 : m ≤ 999999999000000000 := by rw [hm']; exact Nat.le_trans (Nat.mul_le_mul (show x ≤ 999999999 by omega) hd) (by decide)
        have hm3 : (x : Int) * (d : Int) = (m : Int) := by rw [hm']; simp
        have HM := Lib.hid hm'; clear hm'
        go_wp2
        have hown' := hown.set k (((c : Int) + m) % 1000000000) ((c + m) % 1000000000) (by omega)
        have hb' := hbr.setCell (p := ⟨w.heap.size, k, none⟩) (Nat.le_refl _) (.int .u32 (((c : Int) + m) % 1000000000))
        go_roundw
        case rel => exact ⟨k + 1, (c + m) / 1000000000, q.set k ((c + m) % 1000000000), by omega, by go_num, by go_num, by omega, hown', hoq.set _ (by omega), Lib.hid (Bi.scaled_step (by rw [HQ.out]; exact hlt) (by rw [HX.out, HM.out]) HI.out), hb'⟩
        case measure => simp [intOf]; omega
      · have HX := Lib.hid (Bi.getD_out (l := u) (k := k) (by omega))
        clear hU
        go_wp2
        have hown' := hown.set k ((c : Int) % 1000000000) (c % 1000000000) (by omega)
        have hb' := hbr.setCell (p := ⟨w.heap.size, k, none⟩) (Nat.le_refl _) (.int .u32 ((c : Int) % 1000000000))
        go_roundw
        case rel => exact ⟨k + 1, c / 1000000000, q.set k (c % 1000000000), by omega, by go_num, by go_num, by omega, hown', hoq.set _ (by omega), Lib.hid (Bi.scaled_step (by rw [HQ.out]; exact hlt) (by rw [HX.out]; simp) HI.out), hb'⟩
        case measure => simp [intOf]; omega
    · obtain rfl : k = n := by omega
      clear hU
      go_wp2
      go_ret
      refine ⟨⟨q, HQ.out, Lib.hid ?_, hoq, rfl, hown⟩, hbr⟩
      have h1 := HI.out
      rw [List.take_of_length_le (by rw [HQ.out]; exact Nat.le_refl _), Bi.val_take_all hun] at h1
      have h2 := hfit.out
      rcases Nat.eq_zero_or_pos c with h0 | h0
      · subst h0; simpa using h1
      · have : 1000000000 ^ k * 1 ≤ 1000000000 ^ k * c := Nat.mul_le_mul_left _ h0
        omega

end Go.Proofs.YtijjagofingpdaaGreatDoor
