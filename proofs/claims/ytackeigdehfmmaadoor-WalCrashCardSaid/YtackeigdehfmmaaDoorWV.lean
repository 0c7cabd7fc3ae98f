import Derived.Test.YtackeigdehfmmaaDoorWU
namespace Wl
theorem dec_lt13 {t : Bs} (h : ∀ b ∈ t, Bi.isDig b) (hl : t.length ≤ 13) : Bi.decVal t < 10000000000000 := by
  have h1 := Bi.decVal_lt t h
  have h2 : 10 ^ t.length ≤ 10 ^ 13 := Nat.pow_le_pow_right (by omega) hl
  omega
theorem num_long {t : Bs} (h : 13 < t.length) : num t = none :=
  num_none.2 fun n hn e => by have := txt_len hn; rw [e] at this; omega
theorem num_other {t : Bs} {c : UInt8} (hc : c ∈ t) (h : ¬ Bi.isDig c) : num t = none :=
  num_none.2 fun n _ e => h (by rw [← e] at hc; exact txt_dig n c hc)
theorem num_end_some {t : Bs} (h : Bi.decVal t ≤ lim) (h2 : txt (Bi.decVal t) = t) : num t = some (Bi.decVal t) := num_some.2 ⟨h, h2⟩
theorem num_end_none {t : Bs} (h : ¬ (Bi.decVal t ≤ lim ∧ txt (Bi.decVal t) = t)) : num t = none := by
  unfold num; rw [if_neg h]
end Wl
namespace Go.Proofs.YtackeigdehfmmaaDoor
open Go.RowKit

/-- a number and whether it is one -/
def NumR (s : Wl.Bs) (e : Ending) : Prop := ∃ (z : Int) (ok : Bool), e = .returned (.tuple #[.int .i64 z, .bool ok]) ∧ ((ok = true ∧ ∃ n : Nat, z = n ∧ Wl.num s = some n) ∨ (ok = false ∧ Wl.num s = none))

set_option maxRecDepth 100000 in
set_option maxHeartbeats 1600000 in
theorem Number_any (s : Wl.Bs) (w : World) (hs : s.length ≤ 1000000) (hE : Env w) :
    Calls Tryd.prog 35 #[sv s] w fun e w' => NumR s e ∧ Below w.heap.size w w' := by
  go_enter Tryd.func35, Tryd.ntmps35
  go_wp2
  go_loop [4, 5] (fun s4 s5 => ∃ (k v : Nat), k ≤ s.length ∧ k ≤ 13 ∧ s5 = .int .i64 k ∧ s4 = .int .i64 v ∧ v < 10000000000000 ∧ Hid (v = Bi.decVal (s.take k)) ∧ Hid (∀ b ∈ s.take k, Bi.isDig b)) (fun _ s5 => s.length - (intOf s5).toNat)
  case atStart => exact ⟨0, 0, Nat.zero_le _, by omega, rfl, rfl, by decide, Lib.hid rfl, Lib.hid (by simp)⟩
  case round =>
    obtain ⟨k, v, hk, hk13, rfl, rfl, hv, HV, HD⟩ := hrel
    by_cases hlt : k < s.length
    · have hlt' : k < (⟨s.toArray⟩ : ByteArray).size := hlt
      obtain ⟨c, hc⟩ : ∃ c, (⟨s.toArray⟩ : ByteArray)[k]'hlt' = c := ⟨_, rfl⟩
      have hmem : c ∈ s := by rw [← hc]; exact List.getElem_mem hlt
      have hsn : s.take (k + 1) = s.take k ++ [c] := by
        rw [List.take_succ_eq_append_getElem hlt, ← hc]; rfl
      have HM := Lib.hid hmem
      have HS := Lib.hid hsn
      clear hmem hsn
      by_cases hd1 : c.toNat < 48
      · have hb : decide ((c.toNat : Int) < 48) = true := by simp <;> omega
        have HN : Hid (Wl.num s = none) := Lib.hid (Wl.num_other HM.out (fun h => by unfold Bi.isDig at h; omega))
        clear hd1
        go_wp2
        go_ret2
        exact ⟨⟨0, false, rfl, .inr ⟨rfl, HN.out⟩⟩, Below.refl _ _⟩
      · have hb : decide ((c.toNat : Int) < 48) = false := by simp <;> omega
        by_cases hd2 : 57 < c.toNat
        · have hb2 : decide ((57 : Int) < (c.toNat : Int)) = true := by simp <;> omega
          have HN : Hid (Wl.num s = none) := Lib.hid (Wl.num_other HM.out (fun h => by unfold Bi.isDig at h; omega))
          clear hd1 hd2
          go_wp2
          go_ret2
          exact ⟨⟨0, false, rfl, .inr ⟨rfl, HN.out⟩⟩, Below.refl _ _⟩
        · have hb2 : decide ((57 : Int) < (c.toNat : Int)) = false := by simp <;> omega
          by_cases h12 : 12 < k
          · have hb3 : decide ((12 : Int) < (k : Int)) = true := by simp <;> omega
            have HN : Hid (Wl.num s = none) := Lib.hid (Wl.num_long (by omega))
            clear hd1 hd2 h12
            go_wp2
            go_ret2
            exact ⟨⟨0, false, rfl, .inr ⟨rfl, HN.out⟩⟩, Below.refl _ _⟩
          · have hb3 : decide ((12 : Int) < (k : Int)) = false := by simp <;> omega
            have hD2 : ∀ b ∈ s.take (k + 1), Bi.isDig b := by
              intro b hb
              rw [HS.out] at hb
              rcases List.mem_append.1 hb with h | h
              · exact HD.out b h
              · simp only [List.mem_singleton] at h; subst h; unfold Bi.isDig; omega
            have hval : Bi.decVal (s.take (k + 1)) = 10 * v + (c.toNat - 48) := by rw [HS.out, Bi.val_snoc_dig, ← HV.out]
            have hlt13 := Wl.dec_lt13 hD2 (by simp; omega)
            rw [hval] at hlt13
            have HVal := Lib.hid hval
            have HD2 := Lib.hid hD2
            have hc48 : (48 : Int) ≤ (c.toNat : Int) := by omega
            have hc57 : (c.toNat : Int) ≤ 57 := by omega
            have hk12 : k ≤ 12 := by omega
            clear hd1 hd2 h12 hval hD2
            go_wp2
            go_round
            case rel => exact ⟨k + 1, 10 * v + (c.toNat - 48), by omega, by omega, by go_num, by go_num, hlt13, Lib.hid HVal.out.symm, HD2⟩
            case measure => simp [intOf]; omega
    · have hk2 : s.take k = s := List.take_of_length_le (by omega)
      rw [hk2] at HV HD
      by_cases hl : v ≤ 1099511627776
      · have hb : decide ((v : Int) ≤ 1099511627776) = true := by simp <;> omega
        have hI := itoa_any v (by omega) w hE
        by_cases ht : Wl.txt v = s
        · rw [ht] at hI
          have HN : Hid (Wl.num s = some v) := Lib.hid (by rw [HV.out]; exact Wl.num_end_some (by rw [← HV.out]; exact hl) (by rw [← HV.out]; exact ht))
          clear hl ht hk2 hE
          go_wp2_with fail
          (with_reducible refine hI.mono ?_)
          rintro e w1 ⟨rfl, hb1⟩
          clear hI
          go_wp2
          go_ret2
          exact ⟨⟨v, true, rfl, .inl ⟨rfl, v, rfl, HN.out⟩⟩, hb1⟩
        · have hne : (Wl.txt v == s) = false := beq_eq_false_iff_ne.2 ht
          have HN : Hid (Wl.num s = none) := Lib.hid (Wl.num_end_none (by rw [← HV.out]; exact fun h => ht h.2))
          clear hl ht hk2 hE
          generalize Wl.txt v = T at *
          go_wp2_with fail
          (with_reducible refine hI.mono ?_)
          rintro e w1 ⟨rfl, hb1⟩
          clear hI
          go_wp2
          go_ret2
          exact ⟨⟨v, false, rfl, .inr ⟨rfl, HN.out⟩⟩, hb1⟩
      · have hb : decide ((v : Int) ≤ 1099511627776) = false := by simp <;> omega
        have HN : Hid (Wl.num s = none) := Lib.hid (Wl.num_end_none (by rw [← HV.out]; exact fun h => hl h.1))
        clear hl hk2
        go_wp2
        go_ret2
        exact ⟨⟨v, false, rfl, .inr ⟨rfl, HN.out⟩⟩, Below.refl _ _⟩

end Go.Proofs.YtackeigdehfmmaaDoor
