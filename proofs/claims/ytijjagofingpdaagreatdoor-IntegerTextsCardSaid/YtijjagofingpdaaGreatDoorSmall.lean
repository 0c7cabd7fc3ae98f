import Derived.Test.YtijjagofingpdaaGreatDoorAdd
namespace Go.Proofs.YtijjagofingpdaaGreatDoor
open Go.RowKit

/-- two boxes -/
theorem boxes2 (w : World) (a b c d : Value) (t : TypeId) : ∃ wx, wx = (w.alloc (.cells #[a, b] t)).alloc (.cells #[c, d] t) ∧ wx.heap.size = w.heap.size + 1 + 1 ∧
    Box wx w.heap.size a b ∧ Box wx (w.heap.size + 1) c d ∧ Below w.heap.size w wx := by
  refine ⟨_, rfl, by simp, ?_, ?_, ?_⟩
  · exact (Box.new w a b t).mono (below_alloc _ _)
  · have := Box.new (w.alloc (.cells #[a, b] t)) c d t
    simpa using this
  · exact ((Below.refl _ _).alloc (Nat.le_refl _) _).alloc (by simp) _

/-- the sign -/
def sgnI (z : Int) : Int := if z = 0 then 0 else if z < 0 then -1 else 1

theorem sign_any (a : Value) (x : Int) (w : World) (ha : IntV w a x) :
    Calls Tryz.prog 62 #[a] w fun e w' => e = .returned (.int .i64 (sgnI x)) ∧ Below w.heap.size w w' := by
  obtain ⟨n1, ao1, L1, c1, rfl, Hn1, HL1, HB1, hc1, hl1, hU1⟩ := ha
  clear hU1
  by_cases h0 : L1 = []
  · have hx : Hid (sgnI x = 0) := Lib.hid (by
      have h := HL1.out; rw [h0] at h; have := Bi.limbs_eq_nil.1 h.symm; unfold sgnI; rw [if_pos (by omega)])
    subst h0
    clear hc1
    go_enter Tryz.func62, Tryz.ntmps62
    go_wp2
    go_ret
    exact ⟨ret_int hx.out.symm, (Below.refl _ _).alloc (Nat.le_refl _) _⟩
  · have hL : 0 < L1.length := List.length_pos_iff.2 h0
    have hx0 : x ≠ 0 := by rintro rfl; exact h0 (by rw [HL1.out]; rfl)
    have hLz : ((L1.length : Int) == 0) = false := by rw [beq_eq_false_iff_ne]; omega
    have hx : Hid (sgnI x = if n1 then -1 else 1) := Lib.hid (by unfold sgnI; rw [if_neg hx0, Hn1.out]; by_cases h : x < 0 <;> simp [h])
    cases n1
    all_goals
      go_enter Tryz.func62, Tryz.ntmps62
      go_wp2
      go_ret
      exact ⟨ret_int hx.out.symm, (Below.refl _ _).alloc (Nat.le_refl _) _⟩
theorem rSign_any (a : Value) (x : Int) (w : World) (ha : IntV w a x) :
    Calls Tryz.prog 64 #[a] w fun e w' => e = .returned (.int .i64 (sgnI x)) ∧ Below w.heap.size w w' := by
  obtain ⟨n1, ao1, L1, c1, rfl, Hn1, HL1, HB1, hc1, hl1, hU1⟩ := ha
  clear hU1
  by_cases h0 : L1 = []
  · have hx : Hid (sgnI x = 0) := Lib.hid (by
      have h := HL1.out; rw [h0] at h; have := Bi.limbs_eq_nil.1 h.symm; unfold sgnI; rw [if_pos (by omega)])
    subst h0
    clear hc1
    go_enter Tryz.func64, Tryz.ntmps64
    go_wp2
    go_ret
    exact ⟨ret_int hx.out.symm, (Below.refl _ _).alloc (Nat.le_refl _) _⟩
  · have hL : 0 < L1.length := List.length_pos_iff.2 h0
    have hx0 : x ≠ 0 := by rintro rfl; exact h0 (by rw [HL1.out]; rfl)
    have hLz : ((L1.length : Int) == 0) = false := by rw [beq_eq_false_iff_ne]; omega
    have hx : Hid (sgnI x = if n1 then -1 else 1) := Lib.hid (by unfold sgnI; rw [if_neg hx0, Hn1.out]; by_cases h : x < 0 <;> simp [h])
    cases n1
    all_goals
      go_enter Tryz.func64, Tryz.ntmps64
      go_wp2
      go_ret
      exact ⟨ret_int hx.out.symm, (Below.refl _ _).alloc (Nat.le_refl _) _⟩

theorem few_any (neg : Bool) (l : List Nat) (n : Int) (ao : Option Addr) (cap : Nat) (w : World) :
    Calls Tryz.prog 14 #[.agg #[.bool neg, .slice ao l.length cap], .int .i64 n] w fun e w' => e = .returned (.bool (decide ((l.length : Int) ≤ n))) ∧ Below w.heap.size w w' := by
  go_enter Tryz.func14, Tryz.ntmps14
  go_wp2
  go_ret
  exact ⟨rfl, (Below.refl _ _).alloc (Nat.le_refl _) _⟩

set_option maxHeartbeats 800000 in
theorem equal_any (n1 n2 : Bool) (l1 l2 : List Nat) (a1 a2 : Option Addr) (c1 c2 : Nat) (w : World) (_m1 : l1.length ≤ 1000000000) (m2 : l2.length ≤ 1000000000) (h1 : U w a1 l1) (h2 : U w a2 l2) :
    Calls Tryz.prog 13 #[.agg #[.bool n1, .slice a1 l1.length c1], .agg #[.bool n2, .slice a2 l2.length c2]] w fun e w' => (∃ r : Bool, Hid (r = true ↔ n1 = n2 ∧ l1 = l2) ∧ e = .returned (.bool r)) ∧ Below w.heap.size w w' := by
  by_cases hn : n1 = n2
  · subst hn
    have hnn : (n1 == n1) = true := by simp
    by_cases hl : l1.length = l2.length
    · have hll : ((l1.length : Int) != l2.length) = false := by rw [bne_eq_false_iff_eq]; omega
      have HL := Lib.hid hl
      have hle : l1.length ≤ l2.length := Nat.le_of_eq hl
      clear hl
      go_enter Tryz.func13, Tryz.ntmps13
      go_wp2
      obtain ⟨wx, hwx, _, B1, B2, hbx⟩ := boxes2 w (.bool n1) (.slice a1 l1.length c1) (.bool n1) (.slice a2 l2.length c2) 25
      rw [← hwx]
      have hU1 := h1.mono hbx
      have hU2 := h2.mono hbx
      clear hwx h1 h2
      go_loopw [5] (fun s wr => ∃ k : Nat, k ≤ l1.length ∧ s = .int .i64 k ∧ Hid (∀ j, j < k → l1[j]? = l2[j]?) ∧ Below wx.heap.size wx wr) (fun s _ => l1.length - (intOf s).toNat)
      case atStart => exact ⟨0, Nat.zero_le _, rfl, Lib.hid (by intro j h; omega), Below.refl _ _⟩
      case round =>
        obtain ⟨k, hk, rfl, HK, hbr⟩ := hrel
        obtain ⟨p0, p1, _, _⟩ := B1.mono hbr
        obtain ⟨q0, q1, _, _⟩ := B2.mono hbr
        by_cases hlt : k < l1.length
        · obtain ⟨x, hx⟩ := get_some hlt
          obtain ⟨y, hy⟩ := get_some (l := l2) (k := k) (by omega)
          obtain ⟨b1, o1, rfl, hcx⟩ := (hU1.mono hbr).at' hx
          obtain ⟨b2, o2, rfl, hcy⟩ := (hU2.mono hbr).at' hy
          have HX := Lib.hid hx
          have HY := Lib.hid hy
          clear hx hy hU1 hU2
          by_cases hxy : x = y
          · subst hxy
            have hb : ((x : Int) != (x : Int)) = false := by simp
            have hlt2 : k < l2.length := by omega
            go_wp2
            go_quiet (fail)
            go_wp2
            go_roundw
            case rel =>
              refine ⟨k + 1, by omega, by go_num, Lib.hid fun j hj => ?_, below_drewN hbr _⟩
              by_cases hjk : j = k
              · subst hjk; rw [HX.out, HY.out]
              · exact HK.out j (by omega)
            case measure => simp [intOf]; omega
          · have hb : ((x : Int) != (y : Int)) = true := by rw [bne_iff_ne]; omega
            have hlt2 : k < l2.length := by omega
            have HXY := Lib.hid hxy
            clear hxy
            go_wp2
            go_quiet (fail)
            go_wp2
            go_ret
            refine ⟨⟨false, Lib.hid ?_, rfl⟩, hbx.trans ((below_drewN hbr _).mono hbx.size)⟩
            simp only [Bool.false_eq_true, false_iff]
            rintro ⟨_, rfl⟩
            exact HXY.out (Option.some.inj (HX.out.symm.trans HY.out))
        · obtain rfl : k = l1.length := by omega
          clear hU1 hU2
          go_wp2
          go_ret
          refine ⟨⟨true, Lib.hid ?_, rfl⟩, hbx.trans (hbr.mono hbx.size)⟩
          simp only [true_iff, true_and]
          refine List.ext_getElem? fun j => ?_
          by_cases hj : j < l1.length
          · exact HK.out j hj
          · rw [List.getElem?_eq_none (by omega), List.getElem?_eq_none (by have := HL.out; omega)]
    · have hll : ((l1.length : Int) != l2.length) = true := by rw [bne_iff_ne]; omega
      have HL := Lib.hid hl
      clear h1 h2 hl
      go_enter Tryz.func13, Tryz.ntmps13
      go_wp2
      go_ret
      exact ⟨⟨false, Lib.hid (by simp; rintro rfl; exact HL.out rfl), rfl⟩, ((Below.refl _ _).alloc (Nat.le_refl _) _).alloc (by simp) _⟩
  · have hnn : (n1 == n2) = false := by simpa using hn
    have HN := Lib.hid hn
    clear h1 h2 hn
    go_enter Tryz.func13, Tryz.ntmps13
    go_wp2
    go_ret
    exact ⟨⟨false, Lib.hid (by simp [HN.out]), rfl⟩, ((Below.refl _ _).alloc (Nat.le_refl _) _).alloc (by simp) _⟩

end Go.Proofs.YtijjagofingpdaaGreatDoor
