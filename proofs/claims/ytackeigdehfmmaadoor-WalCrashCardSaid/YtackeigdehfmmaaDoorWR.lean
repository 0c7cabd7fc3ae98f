import Derived.Test.YtackeigdehfmmaaDoorWV
namespace Wl
open Go
theorem index_snoc (l : Bs) (c x : UInt8) : Lib.index (l ++ [x]) [c] = if Lib.index l [c] < 0 then (if x = c then (l.length : Int) else -1) else Lib.index l [c] := by
  rcases mem_cases c l with h | ⟨n, d, rfl, hn⟩
  · rw [index_none h, if_pos (by decide)]
    by_cases hx : x = c
    · subst hx; rw [if_pos rfl]; exact index_split h
    · rw [if_neg hx]; exact index_none (by simp [h]; exact fun e => hx e.symm)
  · rw [index_split hn, if_neg (by omega)]
    rw [List.append_assoc, List.cons_append, index_split hn]

/-- the place of the first space among the first k bytes, or -1 -/
def spc (s : Bs) (k : Nat) : Int := Lib.index (s.take k) [32]

theorem spc_zero (s : Bs) : spc s 0 = -1 := by unfold spc; rw [List.take_zero]; exact index_none (by simp)

theorem spc_le (s : Bs) (k : Nat) : -1 ≤ spc s k ∧ spc s k < k + 1 := by
  unfold spc
  rcases mem_cases 32 (s.take k) with h | ⟨n, d, h, hn⟩
  · rw [index_none h]; omega
  · rw [h, index_split hn]
    have := congrArg List.length h
    simp at this
    omega

theorem spc_succ {s : Bs} {k : Nat} {c : UInt8} (h : k < s.length) (hc : s.getD k 0 = c) : spc s (k + 1) = if spc s k < 0 then (if c = 32 then (k : Int) else -1) else spc s k := by
  unfold spc
  rw [List.take_succ_eq_append_getElem h, index_snoc]
  have : s[k] = c := by rw [← hc, List.getD_eq_getElem?_getD, List.getElem?_eq_getElem h]; rfl
  rw [this]
  simp only [List.length_take]
  rw [Nat.min_eq_left (by omega)]
end Wl
namespace Go.Proofs.YtackeigdehfmmaaDoor
open Go.RowKit

theorem byte_at' (l : Wl.Bs) (k : Nat) (h : k < (⟨l.toArray⟩ : ByteArray).size) : (⟨l.toArray⟩ : ByteArray)[k]'h = l.getD k 0 := byte_at l k h h

set_option maxRecDepth 100000 in
set_option maxHeartbeats 3200000 in
theorem rDecode_noline (s : Wl.Bs) (A : Nat) (w : World) (hs : s.length ≤ 1000000) (hA : A = s.length) (HA : Hid ((10 : UInt8) ∉ s.take A)) :
    Calls Tryd.prog 11 #[sv s] w fun e w' => Torn e ∧ w = w' := by
  have hA1 : A ≤ s.length := by omega
  have hA2 : s.length ≤ A := by omega
  clear hA
  go_enter Tryd.func11, Tryd.ntmps11
  go_wp2
  go_loop [5, 6, 7] (fun s5 s6 s7 => ∃ (k : Nat) (sp ln : Int), s7 = .int .i64 k ∧ s5 = .int .i64 sp ∧ s6 = .int .i64 ln ∧ -1 ≤ sp ∧ sp < k + 1 ∧ ((k ≤ A ∧ ln = -1 ∧ Hid (sp = Wl.spc s k)) ∨ (k = A + 1 ∧ A < s.length ∧ ln = A ∧ Hid (sp = Wl.spc s A)))) (fun _ _ s7 => s.length + 1 - (intOf s7).toNat)
  case atStart => exact ⟨0, -1, -1, rfl, rfl, rfl, by omega, by omega, .inl ⟨Nat.zero_le _, rfl, Lib.hid (Wl.spc_zero s).symm⟩⟩
  case round =>
    obtain ⟨k, sp, ln, rfl, rfl, rfl, hs1, hs2, hst⟩ := hrel
    rcases hst with ⟨hkA, rfl, HSP⟩ | ⟨rfl, hAl, rfl, HSP⟩
    · by_cases hlt : k < A
      · have hls : k < s.length := by omega
        have hls' : k < (⟨s.toArray⟩ : ByteArray).size := hls
        obtain ⟨c, hc⟩ : ∃ c, (⟨s.toArray⟩ : ByteArray)[k]'hls' = c := ⟨_, rfl⟩
        have hcg : s.getD k 0 = c := by rw [← hc, byte_at']
        have h10 : ((c.toNat : Int) == 10) = false := by
          rw [beq_eq_false_iff_ne]; intro e
          have hm : (10 : UInt8) ∈ s.take A := by
            have : c = 10 := UInt8.toNat_inj.1 (show c.toNat = 10 by omega)
            rw [← this, ← hcg, List.getD_eq_getElem?_getD, List.getElem?_eq_getElem hls]
            exact List.mem_take_iff_getElem.2 ⟨k, by omega, rfl⟩
          exact HA.out hm
        have hsu := Wl.spc_succ hls hcg
        by_cases h32 : c = 32
        · have hb : ((c.toNat : Int) == 32) = true := by rw [h32]; rfl
          by_cases hneg : sp < 0
          · have hb2 : decide (sp < 0) = true := by simpa using hneg
            have HS2 : Hid ((k : Int) = Wl.spc s (k + 1)) := Lib.hid (by rw [hsu, ← HSP.out, if_pos hneg, if_pos h32])
            clear hsu h32 hcg hneg
            go_wp2
            go_round
            case rel => exact ⟨k + 1, k, -1, by go_num, rfl, rfl, by omega, by omega, .inl ⟨by omega, rfl, HS2⟩⟩
            case measure => simp [intOf]; omega
          · have hb2 : decide (sp < 0) = false := by simpa using hneg
            have HS2 : Hid (sp = Wl.spc s (k + 1)) := Lib.hid (by rw [hsu, ← HSP.out, if_neg hneg])
            clear hsu h32 hcg hneg
            go_wp2
            go_round
            case rel => exact ⟨k + 1, sp, -1, by go_num, rfl, rfl, by omega, by omega, .inl ⟨by omega, rfl, HS2⟩⟩
            case measure => simp [intOf]; omega
        · have hb : ((c.toNat : Int) == 32) = false := by
            rw [beq_eq_false_iff_ne]; intro e; exact h32 (UInt8.toNat_inj.1 (show c.toNat = 32 by omega))
          have HS2 : Hid (sp = Wl.spc s (k + 1)) := Lib.hid (by
            rw [hsu, ← HSP.out]
            by_cases hneg : sp < 0
            · rw [if_pos hneg, if_neg h32]; omega
            · rw [if_neg hneg])
          clear hsu h32 hcg
          go_wp2
          go_round
          case rel => exact ⟨k + 1, sp, -1, by go_num, rfl, rfl, by omega, by omega, .inl ⟨by omega, rfl, HS2⟩⟩
          case measure => simp [intOf]; omega
      · obtain rfl : k = A := by omega
        go_wp2
        all_goals go_ret3
        all_goals exact ⟨rfl, rfl⟩
    · omega

set_option maxRecDepth 100000 in
set_option maxHeartbeats 3200000 in
theorem rDecode_nospace (s : Wl.Bs) (A : Nat) (w : World) (hs : s.length ≤ 1000000) (hAl : A < s.length) (HA : Hid ((10 : UInt8) ∉ s.take A)) (H10 : Hid (s.getD A 0 = 10)) (HN : Hid (Wl.spc s A < 1)) :
    Calls Tryd.prog 11 #[sv s] w fun e w' => Torn e ∧ w = w' := by
  go_enter Tryd.func11, Tryd.ntmps11
  go_wp2
  go_loop [5, 6, 7] (fun s5 s6 s7 => ∃ (k : Nat) (sp ln : Int), s7 = .int .i64 k ∧ s5 = .int .i64 sp ∧ s6 = .int .i64 ln ∧ -1 ≤ sp ∧ sp < k + 1 ∧ ((k ≤ A ∧ ln = -1 ∧ Hid (sp = Wl.spc s k)) ∨ (k = A + 1 ∧ A < s.length ∧ ln = A ∧ Hid (sp = Wl.spc s A)))) (fun _ _ s7 => s.length + 1 - (intOf s7).toNat)
  case atStart => exact ⟨0, -1, -1, rfl, rfl, rfl, by omega, by omega, .inl ⟨Nat.zero_le _, rfl, Lib.hid (Wl.spc_zero s).symm⟩⟩
  case round =>
    obtain ⟨k, sp, ln, rfl, rfl, rfl, hs1, hs2, hst⟩ := hrel
    rcases hst with ⟨hkA, rfl, HSP⟩ | ⟨rfl, hAl, rfl, HSP⟩
    · by_cases hlt : k < A
      · have hls : k < s.length := by omega
        have hls' : k < (⟨s.toArray⟩ : ByteArray).size := hls
        obtain ⟨c, hc⟩ : ∃ c, (⟨s.toArray⟩ : ByteArray)[k]'hls' = c := ⟨_, rfl⟩
        have hcg : s.getD k 0 = c := by rw [← hc, byte_at']
        have h10 : ((c.toNat : Int) == 10) = false := by
          rw [beq_eq_false_iff_ne]; intro e
          have hm : (10 : UInt8) ∈ s.take A := by
            have : c = 10 := UInt8.toNat_inj.1 (show c.toNat = 10 by omega)
            rw [← this, ← hcg, List.getD_eq_getElem?_getD, List.getElem?_eq_getElem hls]
            exact List.mem_take_iff_getElem.2 ⟨k, by omega, rfl⟩
          exact HA.out hm
        have hsu := Wl.spc_succ hls hcg
        by_cases h32 : c = 32
        · have hb : ((c.toNat : Int) == 32) = true := by rw [h32]; rfl
          by_cases hneg : sp < 0
          · have hb2 : decide (sp < 0) = true := by simpa using hneg
            have HS2 : Hid ((k : Int) = Wl.spc s (k + 1)) := Lib.hid (by rw [hsu, ← HSP.out, if_pos hneg, if_pos h32])
            clear hsu h32 hcg hneg
            go_wp2
            go_round
            case rel => exact ⟨k + 1, k, -1, by go_num, rfl, rfl, by omega, by omega, .inl ⟨by omega, rfl, HS2⟩⟩
            case measure => simp [intOf]; omega
          · have hb2 : decide (sp < 0) = false := by simpa using hneg
            have HS2 : Hid (sp = Wl.spc s (k + 1)) := Lib.hid (by rw [hsu, ← HSP.out, if_neg hneg])
            clear hsu h32 hcg hneg
            go_wp2
            go_round
            case rel => exact ⟨k + 1, sp, -1, by go_num, rfl, rfl, by omega, by omega, .inl ⟨by omega, rfl, HS2⟩⟩
            case measure => simp [intOf]; omega
        · have hb : ((c.toNat : Int) == 32) = false := by
            rw [beq_eq_false_iff_ne]; intro e; exact h32 (UInt8.toNat_inj.1 (show c.toNat = 32 by omega))
          have HS2 : Hid (sp = Wl.spc s (k + 1)) := Lib.hid (by
            rw [hsu, ← HSP.out]
            by_cases hneg : sp < 0
            · rw [if_pos hneg, if_neg h32]; omega
            · rw [if_neg hneg])
          clear hsu h32 hcg
          go_wp2
          go_round
          case rel => exact ⟨k + 1, sp, -1, by go_num, rfl, rfl, by omega, by omega, .inl ⟨by omega, rfl, HS2⟩⟩
          case measure => simp [intOf]; omega
      · obtain rfl : k = A := by omega
        have hls' : k < (⟨s.toArray⟩ : ByteArray).size := hAl
        obtain ⟨c, hc⟩ : ∃ c, (⟨s.toArray⟩ : ByteArray)[k]'hls' = c := ⟨_, rfl⟩
        have hc10 : c = 10 := by rw [← hc, byte_at', H10.out]
        have h10 : ((c.toNat : Int) == 10) = true := by rw [hc10]; rfl
        have h32 : ((c.toNat : Int) == 32) = false := by rw [hc10]; rfl
        clear hc10
        go_wp2
        go_round
        case rel => exact ⟨k + 1, sp, k, by go_num, rfl, rfl, by omega, by omega, .inr ⟨rfl, hAl, rfl, HSP⟩⟩
        case measure => simp [intOf]; omega
    · have hb : sp < 1 := by rw [HSP.out]; exact HN.out
      go_wp2
      all_goals go_ret3
      all_goals exact ⟨rfl, rfl⟩

set_option maxRecDepth 100000 in
set_option maxHeartbeats 3200000 in
theorem rDecode_nonum (s : Wl.Bs) (A P : Nat) (w : World) (hs : s.length ≤ 1000000) (hAl : A < s.length) (HA : Hid ((10 : UInt8) ∉ s.take A)) (H10 : Hid (s.getD A 0 = 10)) (HP : Hid (Wl.spc s A = P)) (hP : 1 ≤ P) (HN : Hid (Wl.num ((s.drop 1).take (P - 1)) = none)) (hE : Env w) :
    Calls Tryd.prog 11 #[sv s] w fun e w' => Torn e ∧ Below w.heap.size w w' := by
  go_enter Tryd.func11, Tryd.ntmps11
  go_wp2
  go_loop [5, 6, 7] (fun s5 s6 s7 => ∃ (k : Nat) (sp ln : Int), s7 = .int .i64 k ∧ s5 = .int .i64 sp ∧ s6 = .int .i64 ln ∧ -1 ≤ sp ∧ sp < k + 1 ∧ ((k ≤ A ∧ ln = -1 ∧ Hid (sp = Wl.spc s k)) ∨ (k = A + 1 ∧ A < s.length ∧ ln = A ∧ Hid (sp = Wl.spc s A)))) (fun _ _ s7 => s.length + 1 - (intOf s7).toNat)
  case atStart => exact ⟨0, -1, -1, rfl, rfl, rfl, by omega, by omega, .inl ⟨Nat.zero_le _, rfl, Lib.hid (Wl.spc_zero s).symm⟩⟩
  case round =>
    obtain ⟨k, sp, ln, rfl, rfl, rfl, hs1, hs2, hst⟩ := hrel
    rcases hst with ⟨hkA, rfl, HSP⟩ | ⟨rfl, hAl, rfl, HSP⟩
    · by_cases hlt : k < A
      · have hls : k < s.length := by omega
        have hls' : k < (⟨s.toArray⟩ : ByteArray).size := hls
        obtain ⟨c, hc⟩ : ∃ c, (⟨s.toArray⟩ : ByteArray)[k]'hls' = c := ⟨_, rfl⟩
        have hcg : s.getD k 0 = c := by rw [← hc, byte_at']
        have h10 : ((c.toNat : Int) == 10) = false := by
          rw [beq_eq_false_iff_ne]; intro e
          have hm : (10 : UInt8) ∈ s.take A := by
            have : c = 10 := UInt8.toNat_inj.1 (show c.toNat = 10 by omega)
            rw [← this, ← hcg, List.getD_eq_getElem?_getD, List.getElem?_eq_getElem hls]
            exact List.mem_take_iff_getElem.2 ⟨k, by omega, rfl⟩
          exact HA.out hm
        have hsu := Wl.spc_succ hls hcg
        by_cases h32 : c = 32
        · have hb : ((c.toNat : Int) == 32) = true := by rw [h32]; rfl
          by_cases hneg : sp < 0
          · have hb2 : decide (sp < 0) = true := by simpa using hneg
            have HS2 : Hid ((k : Int) = Wl.spc s (k + 1)) := Lib.hid (by rw [hsu, ← HSP.out, if_pos hneg, if_pos h32])
            clear hsu h32 hcg hneg
            go_wp2
            go_round
            case rel => exact ⟨k + 1, k, -1, by go_num, rfl, rfl, by omega, by omega, .inl ⟨by omega, rfl, HS2⟩⟩
            case measure => simp [intOf]; omega
          · have hb2 : decide (sp < 0) = false := by simpa using hneg
            have HS2 : Hid (sp = Wl.spc s (k + 1)) := Lib.hid (by rw [hsu, ← HSP.out, if_neg hneg])
            clear hsu h32 hcg hneg
            go_wp2
            go_round
            case rel => exact ⟨k + 1, sp, -1, by go_num, rfl, rfl, by omega, by omega, .inl ⟨by omega, rfl, HS2⟩⟩
            case measure => simp [intOf]; omega
        · have hb : ((c.toNat : Int) == 32) = false := by
            rw [beq_eq_false_iff_ne]; intro e; exact h32 (UInt8.toNat_inj.1 (show c.toNat = 32 by omega))
          have HS2 : Hid (sp = Wl.spc s (k + 1)) := Lib.hid (by
            rw [hsu, ← HSP.out]
            by_cases hneg : sp < 0
            · rw [if_pos hneg, if_neg h32]; omega
            · rw [if_neg hneg])
          clear hsu h32 hcg
          go_wp2
          go_round
          case rel => exact ⟨k + 1, sp, -1, by go_num, rfl, rfl, by omega, by omega, .inl ⟨by omega, rfl, HS2⟩⟩
          case measure => simp [intOf]; omega
      · obtain rfl : k = A := by omega
        have hls' : k < (⟨s.toArray⟩ : ByteArray).size := hAl
        obtain ⟨c, hc⟩ : ∃ c, (⟨s.toArray⟩ : ByteArray)[k]'hls' = c := ⟨_, rfl⟩
        have hc10 : c = 10 := by rw [← hc, byte_at', H10.out]
        have h10 : ((c.toNat : Int) == 10) = true := by rw [hc10]; rfl
        have h32 : ((c.toNat : Int) == 32) = false := by rw [hc10]; rfl
        clear hc10
        go_wp2
        go_round
        case rel => exact ⟨k + 1, sp, k, by go_num, rfl, rfl, by omega, by omega, .inr ⟨rfl, hAl, rfl, HSP⟩⟩
        case measure => simp [intOf]; omega
    · have hsP : sp = (P : Int) := by rw [HSP.out, HP.out]
      subst hsP
      have hP2 : P ≤ A := by have := (Wl.spc_le s A).2; rw [HP.out] at this; omega
      clear hs1 hs2 HSP
      obtain ⟨q, hq⟩ : ∃ q, decide ((A : Int) + 1 < (s.length : Int)) = q := ⟨_, rfl⟩
      cases q
      all_goals
        go_wp2_with fail
        rw [extract_ba]
        have hNum := Number_any ((s.drop 1).take (P - 1)) w (by simp; omega) hE
        obtain ⟨t, ht⟩ : ∃ t, t = (s.drop 1).take (P - 1) := ⟨_, rfl⟩
        rw [← ht] at hNum ⊢
        have HT := Lib.hid ht
        clear ht
        (with_reducible refine hNum.mono ?_)
        rintro e w1 ⟨⟨z, ok, rfl, hok⟩, hb1⟩
        have hE := hE.mono hb1
        clear hNum
        obtain rfl : ok = false := by
          rcases hok with ⟨_, n, _, h⟩ | ⟨h, _⟩
          · rw [HT.out, HN.out] at h; cases h
          · exact h
        clear hok hE
        go_wp2
        go_ret3
        exact ⟨rfl, hb1⟩

set_option maxRecDepth 100000 in
set_option maxHeartbeats 3200000 in
theorem rDecode_long (s : Wl.Bs) (A P : Nat) (w : World) (hs : s.length ≤ 1000000) (hAl : A < s.length) (HA : Hid ((10 : UInt8) ∉ s.take A)) (H10 : Hid (s.getD A 0 = 10)) (HP : Hid (Wl.spc s A = P)) (hP : 1 ≤ P) (n : Nat) (HN : Hid (Wl.num ((s.drop 1).take (P - 1)) = some n)) (hr : 65000 < s.length - (A + 1)) (hE : Env w) :
    Calls Tryd.prog 11 #[sv s] w fun e w' => Torn e ∧ Below w.heap.size w w' := by
  go_enter Tryd.func11, Tryd.ntmps11
  go_wp2
  go_loop [5, 6, 7] (fun s5 s6 s7 => ∃ (k : Nat) (sp ln : Int), s7 = .int .i64 k ∧ s5 = .int .i64 sp ∧ s6 = .int .i64 ln ∧ -1 ≤ sp ∧ sp < k + 1 ∧ ((k ≤ A ∧ ln = -1 ∧ Hid (sp = Wl.spc s k)) ∨ (k = A + 1 ∧ A < s.length ∧ ln = A ∧ Hid (sp = Wl.spc s A)))) (fun _ _ s7 => s.length + 1 - (intOf s7).toNat)
  case atStart => exact ⟨0, -1, -1, rfl, rfl, rfl, by omega, by omega, .inl ⟨Nat.zero_le _, rfl, Lib.hid (Wl.spc_zero s).symm⟩⟩
  case round =>
    obtain ⟨k, sp, ln, rfl, rfl, rfl, hs1, hs2, hst⟩ := hrel
    rcases hst with ⟨hkA, rfl, HSP⟩ | ⟨rfl, hAl, rfl, HSP⟩
    · by_cases hlt : k < A
      · have hls : k < s.length := by omega
        have hls' : k < (⟨s.toArray⟩ : ByteArray).size := hls
        obtain ⟨c, hc⟩ : ∃ c, (⟨s.toArray⟩ : ByteArray)[k]'hls' = c := ⟨_, rfl⟩
        have hcg : s.getD k 0 = c := by rw [← hc, byte_at']
        have h10 : ((c.toNat : Int) == 10) = false := by
          rw [beq_eq_false_iff_ne]; intro e
          have hm : (10 : UInt8) ∈ s.take A := by
            have : c = 10 := UInt8.toNat_inj.1 (show c.toNat = 10 by omega)
            rw [← this, ← hcg, List.getD_eq_getElem?_getD, List.getElem?_eq_getElem hls]
            exact List.mem_take_iff_getElem.2 ⟨k, by omega, rfl⟩
          exact HA.out hm
        have hsu := Wl.spc_succ hls hcg
        by_cases h32 : c = 32
        · have hb : ((c.toNat : Int) == 32) = true := by rw [h32]; rfl
          by_cases hneg : sp < 0
          · have hb2 : decide (sp < 0) = true := by simpa using hneg
            have HS2 : Hid ((k : Int) = Wl.spc s (k + 1)) := Lib.hid (by rw [hsu, ← HSP.out, if_pos hneg, if_pos h32])
            clear hsu h32 hcg hneg
            go_wp2
            go_round
            case rel => exact ⟨k + 1, k, -1, by go_num, rfl, rfl, by omega, by omega, .inl ⟨by omega, rfl, HS2⟩⟩
            case measure => simp [intOf]; omega
          · have hb2 : decide (sp < 0) = false := by simpa using hneg
            have HS2 : Hid (sp = Wl.spc s (k + 1)) := Lib.hid (by rw [hsu, ← HSP.out, if_neg hneg])
            clear hsu h32 hcg hneg
            go_wp2
            go_round
            case rel => exact ⟨k + 1, sp, -1, by go_num, rfl, rfl, by omega, by omega, .inl ⟨by omega, rfl, HS2⟩⟩
            case measure => simp [intOf]; omega
        · have hb : ((c.toNat : Int) == 32) = false := by
            rw [beq_eq_false_iff_ne]; intro e; exact h32 (UInt8.toNat_inj.1 (show c.toNat = 32 by omega))
          have HS2 : Hid (sp = Wl.spc s (k + 1)) := Lib.hid (by
            rw [hsu, ← HSP.out]
            by_cases hneg : sp < 0
            · rw [if_pos hneg, if_neg h32]; omega
            · rw [if_neg hneg])
          clear hsu h32 hcg
          go_wp2
          go_round
          case rel => exact ⟨k + 1, sp, -1, by go_num, rfl, rfl, by omega, by omega, .inl ⟨by omega, rfl, HS2⟩⟩
          case measure => simp [intOf]; omega
      · obtain rfl : k = A := by omega
        have hls' : k < (⟨s.toArray⟩ : ByteArray).size := hAl
        obtain ⟨c, hc⟩ : ∃ c, (⟨s.toArray⟩ : ByteArray)[k]'hls' = c := ⟨_, rfl⟩
        have hc10 : c = 10 := by rw [← hc, byte_at', H10.out]
        have h10 : ((c.toNat : Int) == 10) = true := by rw [hc10]; rfl
        have h32 : ((c.toNat : Int) == 32) = false := by rw [hc10]; rfl
        clear hc10
        go_wp2
        go_round
        case rel => exact ⟨k + 1, sp, k, by go_num, rfl, rfl, by omega, by omega, .inr ⟨rfl, hAl, rfl, HSP⟩⟩
        case measure => simp [intOf]; omega
    · have hsP : sp = (P : Int) := by rw [HSP.out, HP.out]
      subst hsP
      have hP2 : P ≤ A := by have := (Wl.spc_le s A).2; rw [HP.out] at this; omega
      clear hs1 hs2 HSP
      obtain ⟨q, hq⟩ : ∃ q, decide ((A : Int) + 1 < (s.length : Int)) = q := ⟨_, rfl⟩
      cases q
      all_goals
        go_wp2_with fail
        rw [extract_ba]
        have hNum := Number_any ((s.drop 1).take (P - 1)) w (by simp; omega) hE
        obtain ⟨t, ht⟩ : ∃ t, t = (s.drop 1).take (P - 1) := ⟨_, rfl⟩
        rw [← ht] at hNum ⊢
        have HT := Lib.hid ht
        clear ht
        (with_reducible refine hNum.mono ?_)
        rintro e w1 ⟨⟨z, ok, rfl, hok⟩, hb1⟩
        have hE := hE.mono hb1
        clear hNum
        have hok2 : ok = true ∧ z = (n : Int) := by
          rcases hok with ⟨h, m, hm, h2⟩ | ⟨_, h⟩
          · rw [HT.out, HN.out] at h2
            simp only [Option.some.injEq] at h2
            subst h2
            exact ⟨h, hm⟩
          · rw [HT.out, HN.out] at h; cases h
        obtain ⟨rfl, rfl⟩ := hok2
        clear hok
        clear hE
        have hb3 : decide ((65000 : Int) < ((s.length - (A + 1) : Nat) : Int)) = true := by simp <;> omega
        go_wp2
        go_ret3
        exact ⟨rfl, hb1⟩

theorem ext_end (s : Wl.Bs) (a : Nat) : (⟨s.toArray⟩ : ByteArray).extract a s.length = ⟨(s.drop a).toArray⟩ := by
  rw [extract_ba]
  congr 1
  rw [List.take_of_length_le (by simp)]

set_option maxRecDepth 100000 in
set_option maxHeartbeats 3200000 in
theorem rDecode_other (s : Wl.Bs) (A P : Nat) (w : World) (hs : s.length ≤ 1000000) (hAl : A < s.length) (HA : Hid ((10 : UInt8) ∉ s.take A)) (H10 : Hid (s.getD A 0 = 10)) (HP : Hid (Wl.spc s A = P)) (hP : 1 ≤ P) (n : Nat) (HN : Hid (Wl.num ((s.drop 1).take (P - 1)) = some n)) (hr : s.length - (A + 1) ≤ 65000) (E : Wl.Bs) (HE : Hid (Wl.enc (n : Int) (s.drop (A + 1)) = E)) (hne : (E == s) = false) (hE : Env w) :
    Calls Tryd.prog 11 #[sv s] w fun e w' => Torn e ∧ Below w.heap.size w w' := by
  go_enter Tryd.func11, Tryd.ntmps11
  go_wp2
  go_loop [5, 6, 7] (fun s5 s6 s7 => ∃ (k : Nat) (sp ln : Int), s7 = .int .i64 k ∧ s5 = .int .i64 sp ∧ s6 = .int .i64 ln ∧ -1 ≤ sp ∧ sp < k + 1 ∧ ((k ≤ A ∧ ln = -1 ∧ Hid (sp = Wl.spc s k)) ∨ (k = A + 1 ∧ A < s.length ∧ ln = A ∧ Hid (sp = Wl.spc s A)))) (fun _ _ s7 => s.length + 1 - (intOf s7).toNat)
  case atStart => exact ⟨0, -1, -1, rfl, rfl, rfl, by omega, by omega, .inl ⟨Nat.zero_le _, rfl, Lib.hid (Wl.spc_zero s).symm⟩⟩
  case round =>
    obtain ⟨k, sp, ln, rfl, rfl, rfl, hs1, hs2, hst⟩ := hrel
    rcases hst with ⟨hkA, rfl, HSP⟩ | ⟨rfl, hAl, rfl, HSP⟩
    · by_cases hlt : k < A
      · have hls : k < s.length := by omega
        have hls' : k < (⟨s.toArray⟩ : ByteArray).size := hls
        obtain ⟨c, hc⟩ : ∃ c, (⟨s.toArray⟩ : ByteArray)[k]'hls' = c := ⟨_, rfl⟩
        have hcg : s.getD k 0 = c := by rw [← hc, byte_at']
        have h10 : ((c.toNat : Int) == 10) = false := by
          rw [beq_eq_false_iff_ne]; intro e
          have hm : (10 : UInt8) ∈ s.take A := by
            have : c = 10 := UInt8.toNat_inj.1 (show c.toNat = 10 by omega)
            rw [← this, ← hcg, List.getD_eq_getElem?_getD, List.getElem?_eq_getElem hls]
            exact List.mem_take_iff_getElem.2 ⟨k, by omega, rfl⟩
          exact HA.out hm
        have hsu := Wl.spc_succ hls hcg
        by_cases h32 : c = 32
        · have hb : ((c.toNat : Int) == 32) = true := by rw [h32]; rfl
          by_cases hneg : sp < 0
          · have hb2 : decide (sp < 0) = true := by simpa using hneg
            have HS2 : Hid ((k : Int) = Wl.spc s (k + 1)) := Lib.hid (by rw [hsu, ← HSP.out, if_pos hneg, if_pos h32])
            clear hsu h32 hcg hneg
            go_wp2
            go_round
            case rel => exact ⟨k + 1, k, -1, by go_num, rfl, rfl, by omega, by omega, .inl ⟨by omega, rfl, HS2⟩⟩
            case measure => simp [intOf]; omega
          · have hb2 : decide (sp < 0) = false := by simpa using hneg
            have HS2 : Hid (sp = Wl.spc s (k + 1)) := Lib.hid (by rw [hsu, ← HSP.out, if_neg hneg])
            clear hsu h32 hcg hneg
            go_wp2
            go_round
            case rel => exact ⟨k + 1, sp, -1, by go_num, rfl, rfl, by omega, by omega, .inl ⟨by omega, rfl, HS2⟩⟩
            case measure => simp [intOf]; omega
        · have hb : ((c.toNat : Int) == 32) = false := by
            rw [beq_eq_false_iff_ne]; intro e; exact h32 (UInt8.toNat_inj.1 (show c.toNat = 32 by omega))
          have HS2 : Hid (sp = Wl.spc s (k + 1)) := Lib.hid (by
            rw [hsu, ← HSP.out]
            by_cases hneg : sp < 0
            · rw [if_pos hneg, if_neg h32]; omega
            · rw [if_neg hneg])
          clear hsu h32 hcg
          go_wp2
          go_round
          case rel => exact ⟨k + 1, sp, -1, by go_num, rfl, rfl, by omega, by omega, .inl ⟨by omega, rfl, HS2⟩⟩
          case measure => simp [intOf]; omega
      · obtain rfl : k = A := by omega
        have hls' : k < (⟨s.toArray⟩ : ByteArray).size := hAl
        obtain ⟨c, hc⟩ : ∃ c, (⟨s.toArray⟩ : ByteArray)[k]'hls' = c := ⟨_, rfl⟩
        have hc10 : c = 10 := by rw [← hc, byte_at', H10.out]
        have h10 : ((c.toNat : Int) == 10) = true := by rw [hc10]; rfl
        have h32 : ((c.toNat : Int) == 32) = false := by rw [hc10]; rfl
        clear hc10
        go_wp2
        go_round
        case rel => exact ⟨k + 1, sp, k, by go_num, rfl, rfl, by omega, by omega, .inr ⟨rfl, hAl, rfl, HSP⟩⟩
        case measure => simp [intOf]; omega
    · have hsP : sp = (P : Int) := by rw [HSP.out, HP.out]
      subst hsP
      have hP2 : P ≤ A := by have := (Wl.spc_le s A).2; rw [HP.out] at this; omega
      clear hs1 hs2 HSP
      obtain ⟨q, hq⟩ : ∃ q, decide ((A : Int) + 1 < (s.length : Int)) = q := ⟨_, rfl⟩
      cases q
      all_goals
        go_wp2_with fail
        rw [extract_ba]
        have hNum := Number_any ((s.drop 1).take (P - 1)) w (by simp; omega) hE
        obtain ⟨t, ht⟩ : ∃ t, t = (s.drop 1).take (P - 1) := ⟨_, rfl⟩
        rw [← ht] at hNum ⊢
        have HT := Lib.hid ht
        clear ht
        (with_reducible refine hNum.mono ?_)
        rintro e w1 ⟨⟨z, ok, rfl, hok⟩, hb1⟩
        have hE := hE.mono hb1
        clear hNum
        have hok2 : ok = true ∧ z = (n : Int) := by
          rcases hok with ⟨h, m, hm, h2⟩ | ⟨_, h⟩
          · rw [HT.out, HN.out] at h2
            simp only [Option.some.injEq] at h2
            subst h2
            exact ⟨h, hm⟩
          · rw [HT.out, HN.out] at h; cases h
        obtain ⟨rfl, rfl⟩ := hok2
        clear hok
        have HE := HE
        have hr2 : s.length - (A + 1) ≤ 65000 := hr
        go_wp2_with fail
        rw [ext_end]
        have hEn := rEncode_any (n : Int) (s.drop (A + 1)) w1 (by simp; omega) hE
        obtain ⟨r, hr0⟩ : ∃ r, r = s.drop (A + 1) := ⟨_, rfl⟩
        rw [← hr0] at hEn HE ⊢
        have HR := Lib.hid hr0
        clear hr0
        rw [HE.out] at hEn
        (with_reducible refine hEn.mono ?_)
        rintro e w2 ⟨rfl, hb2⟩
        clear hEn hE
        go_wp2
        go_ret3
        exact ⟨rfl, Below.step hb1 hb2 (Nat.le_refl _)⟩

set_option maxRecDepth 100000 in
set_option maxHeartbeats 3200000 in
theorem rDecode_good (s : Wl.Bs) (A P : Nat) (w : World) (hs : s.length ≤ 1000000) (hAl : A < s.length) (HA : Hid ((10 : UInt8) ∉ s.take A)) (H10 : Hid (s.getD A 0 = 10)) (HP : Hid (Wl.spc s A = P)) (hP : 1 ≤ P) (n : Nat) (HN : Hid (Wl.num ((s.drop 1).take (P - 1)) = some n)) (hr : s.length - (A + 1) ≤ 65000) (HE : Hid (Wl.enc (n : Int) (s.drop (A + 1)) = s)) (hE : Env w) :
    Calls Tryd.prog 11 #[sv s] w fun e w' => e = .returned (.tuple #[.int .i64 n, sv (s.drop (A + 1)), .int .i64 0]) ∧ Below w.heap.size w w' := by
  go_enter Tryd.func11, Tryd.ntmps11
  go_wp2
  go_loop [5, 6, 7] (fun s5 s6 s7 => ∃ (k : Nat) (sp ln : Int), s7 = .int .i64 k ∧ s5 = .int .i64 sp ∧ s6 = .int .i64 ln ∧ -1 ≤ sp ∧ sp < k + 1 ∧ ((k ≤ A ∧ ln = -1 ∧ Hid (sp = Wl.spc s k)) ∨ (k = A + 1 ∧ A < s.length ∧ ln = A ∧ Hid (sp = Wl.spc s A)))) (fun _ _ s7 => s.length + 1 - (intOf s7).toNat)
  case atStart => exact ⟨0, -1, -1, rfl, rfl, rfl, by omega, by omega, .inl ⟨Nat.zero_le _, rfl, Lib.hid (Wl.spc_zero s).symm⟩⟩
  case round =>
    obtain ⟨k, sp, ln, rfl, rfl, rfl, hs1, hs2, hst⟩ := hrel
    rcases hst with ⟨hkA, rfl, HSP⟩ | ⟨rfl, hAl, rfl, HSP⟩
    · by_cases hlt : k < A
      · have hls : k < s.length := by omega
        have hls' : k < (⟨s.toArray⟩ : ByteArray).size := hls
        obtain ⟨c, hc⟩ : ∃ c, (⟨s.toArray⟩ : ByteArray)[k]'hls' = c := ⟨_, rfl⟩
        have hcg : s.getD k 0 = c := by rw [← hc, byte_at']
        have h10 : ((c.toNat : Int) == 10) = false := by
          rw [beq_eq_false_iff_ne]; intro e
          have hm : (10 : UInt8) ∈ s.take A := by
            have : c = 10 := UInt8.toNat_inj.1 (show c.toNat = 10 by omega)
            rw [← this, ← hcg, List.getD_eq_getElem?_getD, List.getElem?_eq_getElem hls]
            exact List.mem_take_iff_getElem.2 ⟨k, by omega, rfl⟩
          exact HA.out hm
        have hsu := Wl.spc_succ hls hcg
        by_cases h32 : c = 32
        · have hb : ((c.toNat : Int) == 32) = true := by rw [h32]; rfl
          by_cases hneg : sp < 0
          · have hb2 : decide (sp < 0) = true := by simpa using hneg
            have HS2 : Hid ((k : Int) = Wl.spc s (k + 1)) := Lib.hid (by rw [hsu, ← HSP.out, if_pos hneg, if_pos h32])
            clear hsu h32 hcg hneg
            go_wp2
            go_round
            case rel => exact ⟨k + 1, k, -1, by go_num, rfl, rfl, by omega, by omega, .inl ⟨by omega, rfl, HS2⟩⟩
            case measure => simp [intOf]; omega
          · have hb2 : decide (sp < 0) = false := by simpa using hneg
            have HS2 : Hid (sp = Wl.spc s (k + 1)) := Lib.hid (by rw [hsu, ← HSP.out, if_neg hneg])
            clear hsu h32 hcg hneg
            go_wp2
            go_round
            case rel => exact ⟨k + 1, sp, -1, by go_num, rfl, rfl, by omega, by omega, .inl ⟨by omega, rfl, HS2⟩⟩
            case measure => simp [intOf]; omega
        · have hb : ((c.toNat : Int) == 32) = false := by
            rw [beq_eq_false_iff_ne]; intro e; exact h32 (UInt8.toNat_inj.1 (show c.toNat = 32 by omega))
          have HS2 : Hid (sp = Wl.spc s (k + 1)) := Lib.hid (by
            rw [hsu, ← HSP.out]
            by_cases hneg : sp < 0
            · rw [if_pos hneg, if_neg h32]; omega
            · rw [if_neg hneg])
          clear hsu h32 hcg
          go_wp2
          go_round
          case rel => exact ⟨k + 1, sp, -1, by go_num, rfl, rfl, by omega, by omega, .inl ⟨by omega, rfl, HS2⟩⟩
          case measure => simp [intOf]; omega
      · obtain rfl : k = A := by omega
        have hls' : k < (⟨s.toArray⟩ : ByteArray).size := hAl
        obtain ⟨c, hc⟩ : ∃ c, (⟨s.toArray⟩ : ByteArray)[k]'hls' = c := ⟨_, rfl⟩
        have hc10 : c = 10 := by rw [← hc, byte_at', H10.out]
        have h10 : ((c.toNat : Int) == 10) = true := by rw [hc10]; rfl
        have h32 : ((c.toNat : Int) == 32) = false := by rw [hc10]; rfl
        clear hc10
        go_wp2
        go_round
        case rel => exact ⟨k + 1, sp, k, by go_num, rfl, rfl, by omega, by omega, .inr ⟨rfl, hAl, rfl, HSP⟩⟩
        case measure => simp [intOf]; omega
    · have hsP : sp = (P : Int) := by rw [HSP.out, HP.out]
      subst hsP
      have hP2 : P ≤ A := by have := (Wl.spc_le s A).2; rw [HP.out] at this; omega
      clear hs1 hs2 HSP
      obtain ⟨q, hq⟩ : ∃ q, decide ((A : Int) + 1 < (s.length : Int)) = q := ⟨_, rfl⟩
      cases q
      all_goals
        go_wp2_with fail
        rw [extract_ba]
        have hNum := Number_any ((s.drop 1).take (P - 1)) w (by simp; omega) hE
        obtain ⟨t, ht⟩ : ∃ t, t = (s.drop 1).take (P - 1) := ⟨_, rfl⟩
        rw [← ht] at hNum ⊢
        have HT := Lib.hid ht
        clear ht
        (with_reducible refine hNum.mono ?_)
        rintro e w1 ⟨⟨z, ok, rfl, hok⟩, hb1⟩
        have hE := hE.mono hb1
        clear hNum
        have hok2 : ok = true ∧ z = (n : Int) := by
          rcases hok with ⟨h, m, hm, h2⟩ | ⟨_, h⟩
          · rw [HT.out, HN.out] at h2
            simp only [Option.some.injEq] at h2
            subst h2
            exact ⟨h, hm⟩
          · rw [HT.out, HN.out] at h; cases h
        obtain ⟨rfl, rfl⟩ := hok2
        clear hok
        have HE := HE
        have hr2 : s.length - (A + 1) ≤ 65000 := hr
        go_wp2_with fail
        rw [ext_end]
        have hEn := rEncode_any (n : Int) (s.drop (A + 1)) w1 (by simp; omega) hE
        obtain ⟨r, hr0⟩ : ∃ r, r = s.drop (A + 1) := ⟨_, rfl⟩
        rw [← hr0] at hEn HE ⊢
        have HR := Lib.hid hr0
        clear hr0
        rw [HE.out] at hEn
        (with_reducible refine hEn.mono ?_)
        rintro e w2 ⟨rfl, hb2⟩
        clear hEn hE
        go_wp2
        go_ret3
        exact ⟨by rw [← HR.out]; rfl, Below.step hb1 hb2 (Nat.le_refl _)⟩

end Go.Proofs.YtackeigdehfmmaaDoor
