import Derived.Test.YtijjagofingpdaaGreatDoorBase
import Derived.Test.YtijjagofingpdaaGreatDoorPlain
namespace Go.Proofs.YtijjagofingpdaaGreatDoor
open Go.RowKit

theorem trim_any (l : List Nat) (ao : Option Addr) (cap : Nat) (w : World) (hm : l.length ≤ 1000000000000) (hcap : l.length ≤ cap) (hU : U w ao l) :
    Calls Tryz.prog 60 #[.slice ao l.length cap] w fun e w' => ∃ L, L = Bi.trim l ∧ L.length ≤ l.length ∧ e = .returned (.slice ao L.length cap) ∧ U w' ao L ∧ w = w' := by
  suffices h : Calls Tryz.prog 60 #[.slice ao l.length cap] w fun e w' => (∃ k, k ≤ l.length ∧ (∀ j, k ≤ j → j < l.length → l[j]? = some 0) ∧ (k = 0 ∨ ∃ x, l[k - 1]? = some x ∧ x ≠ 0) ∧ e = .returned (.slice ao k cap)) ∧ w = w' by
    refine h.mono ?_
    rintro e w' ⟨⟨k, hk, hz, hn, rfl⟩, rfl⟩
    have ht := Bi.trim_take hk hz hn
    have hl : (l.take k).length = k := by simp; omega
    exact ⟨l.take k, ht.symm, by omega, by rw [hl], hU.take k, rfl⟩
  go_enter Tryz.func60, Tryz.ntmps60
  go_wp2
  go_loop [0] (fun v => ∃ k : Nat, k ≤ l.length ∧ Hid (∀ j, k ≤ j → j < l.length → l[j]? = some 0) ∧ v = .slice ao k cap) (fun v => lenOf v)
  case atStart => exact ⟨l.length, Nat.le_refl _, Lib.hid fun j h hk => absurd hk (by omega), rfl⟩
  case round =>
    obtain ⟨k, hk, HZ, rfl⟩ := hrel
    rcases Nat.eq_zero_or_pos k with h0 | h0
    · subst h0
      clear hU
      go_wp2
      go_ret
      exact ⟨⟨0, hk, HZ.out, .inl rfl, rfl⟩, rfl⟩
    · obtain ⟨j, rfl⟩ : ∃ j, k = j + 1 := ⟨k - 1, by omega⟩
      obtain ⟨x, hx⟩ := get_some (l := l) (k := j) (by omega)
      obtain ⟨b, off, rfl, hcx⟩ := hU.at' hx
      have HX := Lib.hid hx
      clear hx hU
      by_cases hx0 : x = 0
      · subst hx0
        go_wp2
        go_round
        case rel =>
          refine ⟨j, by omega, Lib.hid fun i hi hl => ?_, rfl⟩
          by_cases hij : i = j
          · subst hij; exact HX.out
          · exact HZ.out i (by omega) hl
        case measure => simp [lenOf]
      · have hxb : ((x : Int) == 0) = false := by rw [beq_eq_false_iff_ne]; omega
        go_wp2
        go_ret
        exact ⟨⟨j + 1, hk, HZ.out, .inr ⟨x, HX.out, hx0⟩, rfl⟩, rfl⟩
theorem rtrim_any (l : List Nat) (ao : Option Addr) (cap : Nat) (w : World) (hm : l.length ≤ 1000000000000) (hcap : l.length ≤ cap) (hU : U w ao l) :
    Calls Tryz.prog 42 #[.slice ao l.length cap] w fun e w' => ∃ L, L = Bi.trim l ∧ L.length ≤ l.length ∧ e = .returned (.slice ao L.length cap) ∧ U w' ao L ∧ w = w' := by
  suffices h : Calls Tryz.prog 42 #[.slice ao l.length cap] w fun e w' => (∃ k, k ≤ l.length ∧ (∀ j, k ≤ j → j < l.length → l[j]? = some 0) ∧ (k = 0 ∨ ∃ x, l[k - 1]? = some x ∧ x ≠ 0) ∧ e = .returned (.slice ao k cap)) ∧ w = w' by
    refine h.mono ?_
    rintro e w' ⟨⟨k, hk, hz, hn, rfl⟩, rfl⟩
    have ht := Bi.trim_take hk hz hn
    have hl : (l.take k).length = k := by simp; omega
    exact ⟨l.take k, ht.symm, by omega, by rw [hl], hU.take k, rfl⟩
  go_enter Tryz.func42, Tryz.ntmps42
  go_wp2
  go_loop [0] (fun v => ∃ k : Nat, k ≤ l.length ∧ Hid (∀ j, k ≤ j → j < l.length → l[j]? = some 0) ∧ v = .slice ao k cap) (fun v => lenOf v)
  case atStart => exact ⟨l.length, Nat.le_refl _, Lib.hid fun j h hk => absurd hk (by omega), rfl⟩
  case round =>
    obtain ⟨k, hk, HZ, rfl⟩ := hrel
    rcases Nat.eq_zero_or_pos k with h0 | h0
    · subst h0
      clear hU
      go_wp2
      go_ret
      exact ⟨⟨0, hk, HZ.out, .inl rfl, rfl⟩, rfl⟩
    · obtain ⟨j, rfl⟩ : ∃ j, k = j + 1 := ⟨k - 1, by omega⟩
      obtain ⟨x, hx⟩ := get_some (l := l) (k := j) (by omega)
      obtain ⟨b, off, rfl, hcx⟩ := hU.at' hx
      have HX := Lib.hid hx
      clear hx hU
      by_cases hx0 : x = 0
      · subst hx0
        go_wp2
        go_round
        case rel =>
          refine ⟨j, by omega, Lib.hid fun i hi hl => ?_, rfl⟩
          by_cases hij : i = j
          · subst hij; exact HX.out
          · exact HZ.out i (by omega) hl
        case measure => simp [lenOf]
      · have hxb : ((x : Int) == 0) = false := by rw [beq_eq_false_iff_ne]; omega
        go_wp2
        go_ret
        exact ⟨⟨j + 1, hk, HZ.out, .inr ⟨x, HX.out, hx0⟩, rfl⟩, rfl⟩

/-- -1, 0, 1 -/
def cmpN (m n : Nat) : Int := if m < n then -1 else if n < m then 1 else 0

set_option maxRecDepth 100000 in
set_option maxHeartbeats 800000 in
theorem compare_any (m n : Nat) (a b : List Nat) (Ha : Hid (a = Bi.limbs m)) (Hb : Hid (b = Bi.limbs n)) (aoa aob : Option Addr) (ca cb : Nat) (w : World) (hma : a.length ≤ 1000000000000) (_hmb : b.length ≤ 1000000000000)
    (ha : U w aoa a) (hb : U w aob b) :
    Calls Tryz.prog 63 #[.slice aoa a.length ca, .slice aob b.length cb] w fun e w' => e = .returned (.int .i64 (cmpN m n)) ∧ Below w.heap.size w w' := by
  have hoa : Hid (Bi.Ok a) := Lib.hid (by rw [Ha.out]; exact Bi.limbs_ok _)
  have hob : Hid (Bi.Ok b) := Lib.hid (by rw [Hb.out]; exact Bi.limbs_ok _)
  have hva : Hid (Bi.val a = m) := Lib.hid (by rw [Ha.out]; exact Bi.val_limbs _)
  have hvb : Hid (Bi.val b = n) := Lib.hid (by rw [Hb.out]; exact Bi.val_limbs _)
  by_cases h1 : a.length < b.length
  · have hf : Hid (cmpN m n = -1) := Lib.hid (by unfold cmpN; rw [if_pos (Bi.val_lt_of_length (by rw [← Ha.out, ← Hb.out]; exact h1))])
    have hne : ((a.length : Int) != b.length) = true := by rw [bne_iff_ne]; omega
    clear ha hb
    go_enter Tryz.func63, Tryz.ntmps63
    go_wp2
    go_ret
    exact ⟨ret_int hf.out.symm, Below.refl _ _⟩
  by_cases h2 : b.length < a.length
  · have hf : Hid (cmpN m n = 1) := Lib.hid (by unfold cmpN; have := Bi.val_lt_of_length (a := n) (b := m) (by rw [← Ha.out, ← Hb.out]; exact h2); rw [if_neg (by omega), if_pos this])
    have hne : ((a.length : Int) != b.length) = true := by rw [bne_iff_ne]; omega
    clear ha hb
    go_enter Tryz.func63, Tryz.ntmps63
    go_wp2
    go_ret
    exact ⟨ret_int hf.out.symm, Below.refl _ _⟩
  have hl : Hid (a.length = b.length) := Lib.hid (by omega)
  have hne : ((a.length : Int) != b.length) = false := by rw [bne_eq_false_iff_eq]; omega
  clear h1 h2
  go_enter Tryz.func63, Tryz.ntmps63
  go_wp2
  go_loopw [5] (fun s wr => ∃ i : Int, -1 ≤ i ∧ i < a.length ∧ s = .int .i64 i ∧ Hid (∀ j : Nat, i < (j : Int) → a[j]? = b[j]?) ∧ Below w.heap.size w wr) (fun s _ => (intOf s + 1).toNat)
  case atStart =>
    refine ⟨_, by omega, by omega, rfl, Lib.hid fun j hj => ?_, Below.refl _ _⟩
    have := hl.out
    rw [List.getElem?_eq_none (by omega), List.getElem?_eq_none (by omega)]
  case round =>
    obtain ⟨i, hi1, hi2, rfl, HE, hbr⟩ := hrel
    by_cases hi : i < 0
    · obtain rfl : i = -1 := by omega
      clear ha hb
      have hab : a = b := List.ext_getElem? fun j => HE.out j (by omega)
      have hf : Hid (cmpN m n = 0) := Lib.hid (by have h1 := hva.out; have h2 := hvb.out; rw [hab] at h1; unfold cmpN; rw [if_neg (by omega), if_neg (by omega)])
      clear hab
      go_wp2
      go_ret
      exact ⟨ret_int hf.out.symm, hbr⟩
    · obtain ⟨j, rfl⟩ : ∃ j : Nat, i = (j : Int) := ⟨i.toNat, by omega⟩
      have hlj : j < b.length := by have := hl.out; omega
      obtain ⟨x, hx⟩ := get_some (l := a) (k := j) (by omega)
      obtain ⟨y, hy⟩ := get_some (l := b) (k := j) hlj
      obtain ⟨b1, o1, rfl, hcx⟩ := (ha.mono hbr).at' hx
      obtain ⟨b2, o2, rfl, hcy⟩ := (hb.mono hbr).at' hy
      have HX := Lib.hid hx
      have HY := Lib.hid hy
      clear hx hy ha hb
      by_cases hxy : x = y
      · subst hxy
        have hb : ((x : Int) != (x : Int)) = false := by simp
        go_wp2
        go_quiet (fail)
        go_wp2
        (try (go_quiet (fail)))
        go_wp2
        go_roundw
        case rel =>
          refine ⟨(j : Int) - 1, by omega, by omega, rfl, Lib.hid fun t ht => ?_, by first | exact below_drewN (below_drewN hbr _) _ | exact below_drewN hbr _⟩
          by_cases htj : t = j
          · subst htj; rw [HX.out, HY.out]
          · exact HE.out t (by omega)
        case measure => (simp [intOf]; try omega)
      · have hb : ((x : Int) != (y : Int)) = true := by rw [bne_iff_ne]; omega
        by_cases hlt : (x : Int) < (y : Int)
        · have hf : Hid (cmpN m n = -1) := Lib.hid (by
            have h1 := Bi.val_lt_of_diff hoa.out hob.out hl.out j ⟨x, y, HX.out, HY.out, by omega⟩ (fun t ht => HE.out t (by omega))
            rw [hva.out, hvb.out] at h1
            unfold cmpN; rw [if_pos h1])
          go_wp2
          go_quiet (fail)
          go_wp2
          (try (go_quiet (fail)))
          go_wp2
          go_ret
          exact ⟨ret_int hf.out.symm, by first | exact below_drewN (below_drewN hbr _) _ | exact below_drewN hbr _⟩
        · have hf : Hid (cmpN m n = 1) := Lib.hid (by
            have h1 := Bi.val_lt_of_diff hob.out hoa.out hl.out.symm j ⟨y, x, HY.out, HX.out, by omega⟩ (fun t ht => (HE.out t (by omega)).symm)
            rw [hva.out, hvb.out] at h1
            unfold cmpN; rw [if_neg (by omega), if_pos h1])
          go_wp2
          go_quiet (fail)
          go_wp2
          (try (go_quiet (fail)))
          go_wp2
          go_ret
          exact ⟨ret_int hf.out.symm, by first | exact below_drewN (below_drewN hbr _) _ | exact below_drewN hbr _⟩
set_option maxRecDepth 100000 in
set_option maxHeartbeats 800000 in
theorem rcmp_any (m n : Nat) (a b : List Nat) (Ha : Hid (a = Bi.limbs m)) (Hb : Hid (b = Bi.limbs n)) (aoa aob : Option Addr) (ca cb : Nat) (w : World) (hma : a.length ≤ 1000000000000) (_hmb : b.length ≤ 1000000000000)
    (ha : U w aoa a) (hb : U w aob b) :
    Calls Tryz.prog 65 #[.slice aoa a.length ca, .slice aob b.length cb] w fun e w' => e = .returned (.int .i64 (cmpN m n)) ∧ Below w.heap.size w w' := by
  have hoa : Hid (Bi.Ok a) := Lib.hid (by rw [Ha.out]; exact Bi.limbs_ok _)
  have hob : Hid (Bi.Ok b) := Lib.hid (by rw [Hb.out]; exact Bi.limbs_ok _)
  have hva : Hid (Bi.val a = m) := Lib.hid (by rw [Ha.out]; exact Bi.val_limbs _)
  have hvb : Hid (Bi.val b = n) := Lib.hid (by rw [Hb.out]; exact Bi.val_limbs _)
  by_cases h1 : a.length < b.length
  · have hf : Hid (cmpN m n = -1) := Lib.hid (by unfold cmpN; rw [if_pos (Bi.val_lt_of_length (by rw [← Ha.out, ← Hb.out]; exact h1))])
    have hne : ((a.length : Int) != b.length) = true := by rw [bne_iff_ne]; omega
    clear ha hb
    go_enter Tryz.func65, Tryz.ntmps65
    go_wp2
    go_ret
    exact ⟨ret_int hf.out.symm, Below.refl _ _⟩
  by_cases h2 : b.length < a.length
  · have hf : Hid (cmpN m n = 1) := Lib.hid (by unfold cmpN; have := Bi.val_lt_of_length (a := n) (b := m) (by rw [← Ha.out, ← Hb.out]; exact h2); rw [if_neg (by omega), if_pos this])
    have hne : ((a.length : Int) != b.length) = true := by rw [bne_iff_ne]; omega
    clear ha hb
    go_enter Tryz.func65, Tryz.ntmps65
    go_wp2
    go_ret
    exact ⟨ret_int hf.out.symm, Below.refl _ _⟩
  have hl : Hid (a.length = b.length) := Lib.hid (by omega)
  have hne : ((a.length : Int) != b.length) = false := by rw [bne_eq_false_iff_eq]; omega
  clear h1 h2
  go_enter Tryz.func65, Tryz.ntmps65
  go_wp2
  go_loopw [5] (fun s wr => ∃ i : Int, -1 ≤ i ∧ i < a.length ∧ s = .int .i64 i ∧ Hid (∀ j : Nat, i < (j : Int) → a[j]? = b[j]?) ∧ Below w.heap.size w wr) (fun s _ => (intOf s + 1).toNat)
  case atStart =>
    refine ⟨_, by omega, by omega, rfl, Lib.hid fun j hj => ?_, Below.refl _ _⟩
    have := hl.out
    rw [List.getElem?_eq_none (by omega), List.getElem?_eq_none (by omega)]
  case round =>
    obtain ⟨i, hi1, hi2, rfl, HE, hbr⟩ := hrel
    by_cases hi : i < 0
    · obtain rfl : i = -1 := by omega
      clear ha hb
      have hab : a = b := List.ext_getElem? fun j => HE.out j (by omega)
      have hf : Hid (cmpN m n = 0) := Lib.hid (by have h1 := hva.out; have h2 := hvb.out; rw [hab] at h1; unfold cmpN; rw [if_neg (by omega), if_neg (by omega)])
      clear hab
      go_wp2
      go_ret
      exact ⟨ret_int hf.out.symm, hbr⟩
    · obtain ⟨j, rfl⟩ : ∃ j : Nat, i = (j : Int) := ⟨i.toNat, by omega⟩
      have hlj : j < b.length := by have := hl.out; omega
      obtain ⟨x, hx⟩ := get_some (l := a) (k := j) (by omega)
      obtain ⟨y, hy⟩ := get_some (l := b) (k := j) hlj
      obtain ⟨b1, o1, rfl, hcx⟩ := (ha.mono hbr).at' hx
      obtain ⟨b2, o2, rfl, hcy⟩ := (hb.mono hbr).at' hy
      have HX := Lib.hid hx
      have HY := Lib.hid hy
      clear hx hy ha hb
      by_cases hxy : x = y
      · subst hxy
        have hb : ((x : Int) != (x : Int)) = false := by simp
        go_wp2
        go_quiet (fail)
        go_wp2
        (try (go_quiet (fail)))
        go_wp2
        go_roundw
        case rel =>
          refine ⟨(j : Int) - 1, by omega, by omega, rfl, Lib.hid fun t ht => ?_, by first | exact below_drewN (below_drewN hbr _) _ | exact below_drewN hbr _⟩
          by_cases htj : t = j
          · subst htj; rw [HX.out, HY.out]
          · exact HE.out t (by omega)
        case measure => (simp [intOf]; try omega)
      · have hb : ((x : Int) != (y : Int)) = true := by rw [bne_iff_ne]; omega
        by_cases hlt : (x : Int) < (y : Int)
        · have hf : Hid (cmpN m n = -1) := Lib.hid (by
            have h1 := Bi.val_lt_of_diff hoa.out hob.out hl.out j ⟨x, y, HX.out, HY.out, by omega⟩ (fun t ht => HE.out t (by omega))
            rw [hva.out, hvb.out] at h1
            unfold cmpN; rw [if_pos h1])
          go_wp2
          go_quiet (fail)
          go_wp2
          (try (go_quiet (fail)))
          go_wp2
          go_ret
          exact ⟨ret_int hf.out.symm, by first | exact below_drewN (below_drewN hbr _) _ | exact below_drewN hbr _⟩
        · have hf : Hid (cmpN m n = 1) := Lib.hid (by
            have h1 := Bi.val_lt_of_diff hob.out hoa.out hl.out.symm j ⟨y, x, HY.out, HX.out, by omega⟩ (fun t ht => (HE.out t (by omega)).symm)
            rw [hva.out, hvb.out] at h1
            unfold cmpN; rw [if_neg (by omega), if_pos h1])
          go_wp2
          go_quiet (fail)
          go_wp2
          (try (go_quiet (fail)))
          go_wp2
          go_ret
          exact ⟨ret_int hf.out.symm, by first | exact below_drewN (below_drewN hbr _) _ | exact below_drewN hbr _⟩

end Go.Proofs.YtijjagofingpdaaGreatDoor
