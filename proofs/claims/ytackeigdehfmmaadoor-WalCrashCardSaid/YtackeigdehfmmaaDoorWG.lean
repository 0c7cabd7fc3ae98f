import Derived.Test.YtackeigdehfmmaaDoorWB
import Derived.Laws.BitsAllLaws
namespace Go.Proofs.YtackeigdehfmmaaDoor
open Go.RowKit

theorem and_one (y : Nat) (h : y < 4294967296) : bits .and .u32 (y : Int) 1 = ((y % 2 : Nat) : Int) := by
  have := u32_and_nat y 1 h (by decide)
  rw [Nat.and_one_is_mod] at this
  exact this

theorem half_nat (y : Nat) : (y : Int) / 2 = ((y / 2 : Nat) : Int) := by omega

theorem cstep_bits (y : Nat) (h : y < 4294967296) : bits BinOp.xor IntKind.u32 ((y : Int) / 2) (bits BinOp.and IntKind.u32 3988292384 (-bits BinOp.and IntKind.u32 (y : Int) 1 % 4294967296)) = ((Wl.cstep y : Nat) : Int) := by
  rw [and_one y h, half_nat]
  unfold Wl.cstep
  rcases Nat.mod_two_eq_zero_or_one y with h2 | h2
  · rw [h2, if_neg (by decide)]
    have e : bits BinOp.and IntKind.u32 3988292384 (-((0 : Nat) : Int) % 4294967296) = ((0 : Nat) : Int) := by decide
    rw [e, u32_xor_nat _ _ (by omega) (by decide), Nat.xor_zero]
  · rw [h2, if_pos rfl]
    have e : bits BinOp.and IntKind.u32 3988292384 (-((1 : Nat) : Int) % 4294967296) = ((3988292384 : Nat) : Int) := by decide
    rw [e, u32_xor_nat _ _ (by omega) (by decide)]
    rfl

theorem byte_xor (x : Nat) (b : UInt8) (h : x < 4294967296) : bits BinOp.xor IntKind.u32 (x : Int) ((b.toNat : Int) % 4294967296) = ((Nat.xor x b.toNat : Nat) : Int) := by
  have hb := b.toNat_lt
  rw [show (b.toNat : Int) % 4294967296 = ((b.toNat : Nat) : Int) by omega, u32_xor_nat _ _ h (by omega)]
  rfl

theorem not_crc (x : Nat) (h : x < 4294967296) : bits BinOp.xor IntKind.u32 IntKind.u32.max (x : Int) = ((4294967295 - x : Nat) : Int) := by
  have hm : IntKind.u32.max = ((4294967295 : Nat) : Int) := by decide
  rw [hm, u32_xor_nat _ _ (by decide) h]
  have h1 : (4294967295 : Nat) ^^^ x = (BitVec.ofNat 32 4294967295 ^^^ BitVec.ofNat 32 x).toNat := by
    rw [BitVec.toNat_xor, BitVec.toNat_ofNat, BitVec.toNat_ofNat, Nat.mod_eq_of_lt (by decide), Nat.mod_eq_of_lt h]
  have h2 : BitVec.ofNat 32 4294967295 = BitVec.allOnes 32 := by decide
  rw [h1, h2, BitVec.allOnes_xor, BitVec.toNat_not, BitVec.toNat_ofNat, Nat.mod_eq_of_lt h]

theorem ret_u32 {a b : Int} (h : a = b) : Ending.returned (.int .u32 a) = .returned (.int .u32 b) := by rw [h]

theorem byte_at (l : Wl.Bs) (k : Nat) (h : k < l.length) (h' : k < (⟨l.toArray⟩ : ByteArray).size) : (⟨l.toArray⟩ : ByteArray)[k]'h' = l.getD k 0 := by
  rw [List.getD_eq_getElem?_getD, List.getElem?_eq_getElem h]; rfl

theorem crc_step (l : Wl.Bs) {k x y : Nat} (h : k < l.length) (hx : x = Wl.crcF 4294967295 (l.take k)) (hy : y = Wl.csteps 8 (Nat.xor x (l.getD k 0).toNat)) : y = Wl.crcF 4294967295 (l.take (k + 1)) := by
  rw [List.take_succ_eq_append_getElem h, Wl.crcF_snoc, ← hx, hy]
  rw [List.getD_eq_getElem?_getD, List.getElem?_eq_getElem h]
  rfl

set_option maxHeartbeats 800000 in
theorem Crc_any (l : Wl.Bs) (w : World) (hl : l.length ≤ 1000000) :
    Calls Tryd.prog 55 #[sv l] w fun e w' => e = .returned (.int .u32 (Wl.crc l : Nat)) ∧ w = w' := by
  go_enter Tryd.func55, Tryd.ntmps55
  go_wp2
  go_loop [3, 7] (fun s3 s7 => ∃ (k x : Nat), k ≤ l.length ∧ s7 = .int .i64 k ∧ s3 = .int .u32 (x : Int) ∧ x < 4294967296 ∧ Hid (x = Wl.crcF 4294967295 (l.take k))) (fun _ s7 => l.length - (intOf s7).toNat)
  case atStart => exact ⟨0, 4294967295, Nat.zero_le _, rfl, rfl, by decide, Lib.hid rfl⟩
  case round =>
    obtain ⟨k, x, hk, rfl, rfl, hx, HX⟩ := hrel
    by_cases hlt : k < l.length
    · go_wp2
      go_loop [3, 16] (fun s3 s16 => ∃ (j y : Nat), j ≤ 8 ∧ s16 = .int .i64 j ∧ s3 = .int .u32 (y : Int) ∧ y < 4294967296 ∧ Hid (y = Wl.csteps j (Nat.xor x (l.getD k 0).toNat))) (fun _ s16 => 8 - (intOf s16).toNat)
      case atStart => exact ⟨0, _, by omega, rfl, by rw [byte_at l k hlt, byte_xor x _ hx], Wl.xor_lt hx (by have := (l.getD k 0).toNat_lt; omega), Lib.hid rfl⟩
      case round =>
        obtain ⟨j, y, hj, rfl, rfl, hy, HY⟩ := hrel
        by_cases hlt2 : j < 8
        · go_wp2
          go_round
          case rel => exact ⟨j + 1, Wl.cstep y, by omega, by go_num, by rw [cstep_bits y hy], Wl.cstep_lt hy, Lib.hid (by rw [Wl.csteps_succ, ← HY.out])⟩
          case measure => simp [intOf]; omega
        · have hj8 : j = 8 := by omega
          have HS : Hid (y = Wl.crcF 4294967295 (l.take (k + 1))) := Lib.hid (crc_step l hlt HX.out (hj8 ▸ HY.out))
          clear hj8
          go_wp2
          go_round
          case rel => exact ⟨k + 1, y, by omega, by go_num, rfl, hy, HS⟩
          case measure => simp [intOf]; omega
    · have hk2 : k = l.length := by omega
      have HK : Hid (x = Wl.crcF 4294967295 l) := Lib.hid (by rw [HX.out, hk2, List.take_length])
      clear hk2
      go_wp2
      go_ret
      exact ⟨ret_u32 (by rw [not_crc x hx, HK.out]; rfl), rfl⟩

theorem cstep_odd (y : Nat) (h : y < 4294967296) (h2 : y % 2 = 1) : bits BinOp.xor IntKind.u32 ((y : Int) / 2) 3988292384 = ((Wl.cstep y : Nat) : Int) := by
  rw [half_nat]
  have := u32_xor_nat (y / 2) 3988292384 (by omega) (by decide)
  unfold Wl.cstep
  rw [if_pos h2]
  exact this

set_option maxHeartbeats 800000 in
theorem rCrc_any (l : Wl.Bs) (w : World) (hl : l.length ≤ 1000000) :
    Calls Tryd.prog 31 #[sv l] w fun e w' => e = .returned (.int .u32 (Wl.crc l : Nat)) ∧ w = w' := by
  go_enter Tryd.func31, Tryd.ntmps31
  go_wp2
  go_loop [3, 4] (fun s3 s7 => ∃ (k x : Nat), k ≤ l.length ∧ s7 = .int .i64 k ∧ s3 = .int .u32 (x : Int) ∧ x < 4294967296 ∧ Hid (x = Wl.crcF 4294967295 (l.take k))) (fun _ s7 => l.length - (intOf s7).toNat)
  case atStart => exact ⟨0, 4294967295, Nat.zero_le _, rfl, rfl, by decide, Lib.hid rfl⟩
  case round =>
    obtain ⟨k, x, hk, rfl, rfl, hx, HX⟩ := hrel
    by_cases hlt : k < l.length
    · go_wp2
      go_loop [3, 5] (fun s3 s16 => ∃ (j y : Nat), j ≤ 8 ∧ s16 = .int .i64 j ∧ s3 = .int .u32 (y : Int) ∧ y < 4294967296 ∧ Hid (y = Wl.csteps j (Nat.xor x (l.getD k 0).toNat))) (fun _ s16 => 8 - (intOf s16).toNat)
      case atStart => exact ⟨0, _, by omega, rfl, by rw [byte_at l k hlt, byte_xor x _ hx], Wl.xor_lt hx (by have := (l.getD k 0).toNat_lt; omega), Lib.hid rfl⟩
      case round =>
        obtain ⟨j, y, hj, rfl, rfl, hy, HY⟩ := hrel
        by_cases hlt2 : j < 8
        · have ha := and_one y hy
          rcases Nat.mod_two_eq_zero_or_one y with h2 | h2
          · rw [h2] at ha
            have HC : Hid (Wl.cstep y = y / 2) := Lib.hid (by unfold Wl.cstep; rw [if_neg (by omega)])
            clear h2
            go_wp2
            go_round
            case rel => exact ⟨j + 1, Wl.cstep y, by omega, by go_num, by rw [HC.out, half_nat], Wl.cstep_lt hy, Lib.hid (by rw [Wl.csteps_succ, ← HY.out])⟩
            case measure => simp [intOf]; omega
          · rw [h2] at ha
            have H2 := Lib.hid h2
            clear h2
            go_wp2
            go_round
            case rel => exact ⟨j + 1, Wl.cstep y, by omega, by go_num, by rw [cstep_odd y hy H2.out], Wl.cstep_lt hy, Lib.hid (by rw [Wl.csteps_succ, ← HY.out])⟩
            case measure => simp [intOf]; omega
        · have hj8 : j = 8 := by omega
          have HS : Hid (y = Wl.crcF 4294967295 (l.take (k + 1))) := Lib.hid (crc_step l hlt HX.out (hj8 ▸ HY.out))
          clear hj8
          go_wp2
          go_round
          case rel => exact ⟨k + 1, y, by omega, by go_num, rfl, hy, HS⟩
          case measure => simp [intOf]; omega
    · have hk2 : k = l.length := by omega
      have HK : Hid (x = Wl.crcF 4294967295 l) := Lib.hid (by rw [HX.out, hk2, List.take_length])
      clear hk2
      go_wp2
      go_ret
      exact ⟨ret_u32 (by rw [not_crc x hx, HK.out]; rfl), rfl⟩

end Go.Proofs.YtackeigdehfmmaaDoor
