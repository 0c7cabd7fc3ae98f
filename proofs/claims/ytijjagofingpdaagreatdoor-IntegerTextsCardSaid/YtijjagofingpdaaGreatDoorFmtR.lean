import Derived.Test.YtijjagofingpdaaGreatDoorFmt
namespace Go.Proofs.YtijjagofingpdaaGreatDoor
open Go.RowKit

theorem enc_digit (y : Nat) : Utf8.encode (48 + (y : Int) % 10) = ⟨[UInt8.ofNat (48 + y % 10)].toArray⟩ := by
  have key : ∀ d : Nat, d < 10 → Utf8.encode (48 + (d : Int)) = ⟨[UInt8.ofNat (48 + d)].toArray⟩ := by
    intro d hd
    have h : d = 0 ∨ d = 1 ∨ d = 2 ∨ d = 3 ∨ d = 4 ∨ d = 5 ∨ d = 6 ∨ d = 7 ∨ d = 8 ∨ d = 9 := by omega
    rcases h with rfl | rfl | rfl | rfl | rfl | rfl | rfl | rfl | rfl | rfl <;> rfl
  have := key (y % 10) (Nat.mod_lt _ (by decide))
  rw [Int.natCast_emod] at this
  exact this

theorem ba_cat (a b : List UInt8) : (⟨a.toArray⟩ : ByteArray) ++ ⟨b.toArray⟩ = ⟨(a ++ b).toArray⟩ := by
  apply ByteArray.ext
  simp

theorem fmt_rel {z k y : Nat} {low : List UInt8} (HY : y = z / 10 ^ k) : Value.string (Utf8.encode (48 + (y : Int) % 10) ++ ⟨(Bi.lastD k z ++ low).toArray⟩) = Value.string ⟨(Bi.lastD (k + 1) z ++ low).toArray⟩ := by
  rw [enc_digit, ba_cat, Bi.lastD_front, ← HY]
  rfl

theorem cat_small {y z k i : Nat} {L : List Nat} (hk : k ≤ 9) (hi : i < L.length) (hl : L.length ≤ 34) : (Utf8.encode (48 + (y : Int) % 10)).size + ((Bi.lastD k z).length + (Bi.refT L i).length) ≤ 1000 := by
  have hs1 : (Utf8.encode (48 + (y : Int) % 10)).size ≤ 1 := by
    rw [enc_digit]; exact Nat.le_refl 1
  have hs2 : (Bi.lastD k z).length ≤ 9 := by rw [Bi.lastD_length]; omega
  have hs3 : (Bi.refT L i).length ≤ 306 := by unfold Bi.refT; rw [if_pos hi, Bi.lastD_length]; omega
  omega

set_option maxRecDepth 100000 in
set_option maxHeartbeats 1600000 in
theorem rFormat_any (a : Value) (x : Int) (w : World) (ha : IntV w a x) :
    Calls Tryz.prog 12 #[a] w fun e w' => e = .returned (.string ⟨(Lib.itoa x).toArray⟩) ∧ Below w.heap.size w w' := by
  obtain ⟨n1, ao1, L1, c1, rfl, Hn1, HL1, HB1, hc1, hl1, hU1⟩ := id ha
  go_enter Tryz.func12, Tryz.ntmps12
  have hbw := below_alloc w (.cells #[.bool n1, .slice ao1 L1.length c1] 25)
  have B1 := Box.new w (.bool n1) (.slice ao1 L1.length c1) 25
  have hU := hU1.mono hbw
  clear hU1 ha
  have Hit : Hid (Lib.itoa x = (if n1 = true then [45] else []) ++ Lib.decDigits x.natAbs) := Lib.hid (by
    unfold Lib.itoa
    rw [Hn1.out]
    by_cases h : x < 0
    · simp [h]
    · simp [h, show x.toNat = x.natAbs by omega])
  obtain ⟨p0, p1, _, _⟩ := id B1
  by_cases hL : L1 = []
  · subst hL
    have hx : x.natAbs = 0 := by
      have := congrArg Bi.val HL1.out
      rw [Bi.val_limbs] at this
      exact this.symm
    have hx0 : x = 0 := by omega
    subst hx0
    have hz : Hid (Lib.itoa 0 = [48]) := Lib.hid (by
      unfold Lib.itoa
      rw [if_neg (by decide), show Int.toNat 0 = 0 from rfl, Lib.decDigits_one (by decide)]
      rfl)
    clear Hit hx hU
    go_wp2
    go_ret
    exact ⟨by rw [hz.out]; rfl, hbw⟩
  have hlen : 1 ≤ L1.length := by
    have := List.length_pos_iff.2 hL
    omega
  have HV : Hid (Bi.val L1 = x.natAbs) := Lib.hid (by rw [HL1.out, Bi.val_limbs])
  have HOK : Hid (Bi.Ok L1) := Lib.hid (by rw [HL1.out]; exact Bi.limbs_ok _)
  clear hL
  go_upto_region 3 with fail
  generalize w.alloc (.cells #[.bool n1, .slice ao1 L1.length c1] 25) = w1 at *
  go_wp2_with fail
  go_loop [3, 4, 5, 6] (fun s3 s4 _ _ => ∃ i : Nat, i ≤ L1.length ∧ s4 = .int .i64 i ∧ s3 = .string ⟨(Bi.refT L1 i).toArray⟩) (fun _ s4 _ _ => L1.length - (intOf s4).toNat)
  case atStart =>
    refine ⟨0, by omega, rfl, ?_⟩
    unfold Bi.refT
    rw [if_pos (by omega)]
    rfl
  case round =>
    obtain ⟨i, hi, rfl, rfl⟩ := hrel
    by_cases hlt : i < L1.length
    · obtain ⟨z, hz⟩ := get_some (l := L1) (k := i) (by omega)
      obtain ⟨b1, o1, rfl, hcz⟩ := hU.at' hz
      have bz := HOK.out.at' hz
      have HZ := Lib.hid (Bi.getD_of hz)
      have HBZ := Lib.hid bz
      clear hz bz
      go_wp2_with fail
      clear hcz
      go_loop [3, 5, 6] (fun s3 s5 s6 => ∃ k y : Nat, k ≤ 9 ∧ y < 1000000000 ∧ s6 = .int .i64 k ∧ s5 = .int .u32 y ∧ s3 = .string ⟨(Bi.lastD k z ++ Bi.refT L1 i).toArray⟩ ∧ Hid (y = z / 10 ^ k) ∧ Hid (i + 1 = L1.length → k = 0 ∨ z / 10 ^ (k - 1) ≠ 0)) (fun _ _ s6 => (9 - intOf s6).toNat)
      case atStart => exact ⟨0, z, by omega, by have := HBZ.out; omega, rfl, rfl, rfl, Lib.hid (by simp), Lib.hid fun _ => .inl rfl⟩
      case round =>
        obtain ⟨k, y, hk, hy, rfl, rfl, rfl, HY, HK⟩ := hrel
        by_cases hgo : k < 9 ∧ (0 < y ∨ i + 1 < L1.length)
        · obtain ⟨hk9, hor⟩ := hgo
          have HOR := Lib.hid hor
          have hrel1 := fmt_rel (low := Bi.refT L1 i) HY.out
          have hy1 : ((y : Int) / 10) = ((y / 10 : Nat) : Int) := by omega
          have HR1 := Lib.hid hrel1
          have HY1 := Lib.hid hy1
          have HY2 : Hid (y / 10 = z / 10 ^ (k + 1)) := Lib.hid (by rw [HY.out, Nat.div_div_eq_div_mul, Nat.pow_succ])
          clear hrel1 hy1
          have hyc : (0 : Int) < (y : Int) ∨ (decide (0 < y) = false ∧ (i : Int) < (L1.length : Int) - 1) := by
            by_cases h : 0 < y
            · exact .inl (by omega)
            · exact .inr ⟨by simpa using h, by rcases hor with h' | h'; omega; omega⟩
          clear hor
          rcases hyc with hy0 | ⟨hy0, hi0⟩
          all_goals
            go_wp2
            · have := cat_small (y := y) (z := z) hk hlt hl1; omega
            · refine ⟨⟨k + 1, y / 10, by omega, by omega, by go_num, by rw [← HY1.out], HR1.out, HY2, Lib.hid fun hl => .inr (by rw [Nat.add_sub_cancel, ← HY.out]; have := HOR.out; omega)⟩, ?_⟩
              simp [intOf]; omega
        · have hend : Hid (Bi.lastD k z ++ Bi.refT L1 i = Bi.refT L1 (i + 1)) := Lib.hid (by
            by_cases hl : i + 1 < L1.length
            · obtain rfl : k = 9 := by omega
              exact Bi.refT_step HOK.out hl HZ.out
            · have hl' : i + 1 = L1.length := by omega
              refine Bi.refT_last HL1.out HOK.out hl' HZ.out ?_ (HK.out hl')
              by_cases hk9 : k < 9
              · have : y = 0 := by omega
                rw [← HY.out]; exact this
              · obtain rfl : k = 9 := by omega
                exact Nat.div_eq_of_lt HBZ.out)
          have hex : decide ((k : Int) < 9) = false ∨ ((k : Int) < 9 ∧ decide (0 < y) = false ∧ decide ((i : Int) < (L1.length : Int) - 1) = false) := by
            simp only [decide_eq_false_iff_not]; omega
          clear hgo HY HK
          rcases hex with hk9 | ⟨hk9, hy0, hi0⟩
          all_goals
            go_wp2
            refine ⟨⟨i + 1, by omega, by go_num, by rw [hend.out]⟩, ?_⟩
            simp [intOf]; omega
    · obtain rfl : i = L1.length := by omega
      have HF : Hid (Bi.refT L1 L1.length = Lib.decDigits x.natAbs) := Lib.hid (by
        unfold Bi.refT
        rw [if_neg (by omega), HV.out])
      have hs3 : (Bi.refT L1 L1.length).length ≤ 300 := by
        have := Bi.outT_len (L := L1) (by rw [HV.out]; exact HB1.out) 0
        unfold Bi.outT at this
        rw [if_pos (by omega), List.drop_zero, HV.out] at this
        rw [HF.out]
        exact this
      clear HL1 HB1 hU
      cases n1
      · go_wp2
        go_ret
        exact ⟨by rw [Hit.out, HF.out]; rfl, hbw⟩
      · go_wp2
        go_ret
        exact ⟨by rw [Hit.out, HF.out]; rfl, hbw⟩

end Go.Proofs.YtijjagofingpdaaGreatDoor
