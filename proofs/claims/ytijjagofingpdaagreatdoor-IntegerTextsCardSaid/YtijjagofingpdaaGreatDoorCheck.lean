import Derived.Test.YtijjagofingpdaaGreatDoorValid
namespace Go.Proofs.YtijjagofingpdaaGreatDoor
open Go.RowKit

/-- a slice of integers, read raw -/
def Raws (w : World) (ao : Option Addr) (ls : List (Bool × List Nat)) : Prop :=
  ∀ i x, ls[i]? = some x → ∃ b off ai ci, ao = some ⟨b, off, none⟩ ∧ w.cell? ⟨b, off + i * 2, none⟩ = some (.bool x.1) ∧ w.cell? ⟨b, off + i * 2 + 1, none⟩ = some (.slice ai x.2.length ci) ∧
    U w ai x.2 ∧ x.2.length ≤ 1000000000

theorem Raws.mono {w w' : World} {ao : Option Addr} {ls : List (Bool × List Nat)} (h : Raws w ao ls) (hb : Below w.heap.size w w') : Raws w' ao ls := by
  intro i x hx
  obtain ⟨b, off, ai, ci, e, h1, h2, h3, h4⟩ := h i x hx
  exact ⟨b, off, ai, ci, e, (hb.cell (p := ⟨b, off + i * 2, none⟩) (cell_lt h1)).trans h1, (hb.cell (p := ⟨b, off + i * 2 + 1, none⟩) (cell_lt h2)).trans h2, h3.mono hb, h4⟩

set_option maxHeartbeats 800000 in
theorem check_any (ls : List (Bool × List Nat)) (ao : Option Addr) (cap : Nat) (w : World) (hm : ls.length ≤ 1000000) (hR : Raws w ao ls) (hE : Env w) :
    Calls Tryz.prog 24 #[.slice ao ls.length cap] w fun e w' => (∃ r : Int, Hid (r = 0 ↔ ∀ x ∈ ls, validP x.1 x.2) ∧ Hid (r = 0 ∨ r = 1) ∧ e = .returned (.int .i64 r)) ∧ Below w.heap.size w w' := by
  go_enter Tryz.func24, Tryz.ntmps24
  go_wp2
  go_loopw [7] (fun s wr => ∃ k : Nat, k ≤ ls.length ∧ s = .int .i64 k ∧ Hid (∀ i x, i < k → ls[i]? = some x → validP x.1 x.2) ∧ Below w.heap.size w wr) (fun s _ => ls.length - (intOf s).toNat)
  case atStart => exact ⟨0, Nat.zero_le _, rfl, Lib.hid (by intro i x h; omega), Below.refl _ _⟩
  case round =>
    obtain ⟨k, hk, rfl, HK, hbr⟩ := hrel
    by_cases hlt : k < ls.length
    · obtain ⟨x, hx⟩ : ∃ x, ls[k]? = some x := ⟨ls[k], List.getElem?_eq_getElem hlt⟩
      obtain ⟨b, off, ai, ci, rfl, h1, h2, h3, h4⟩ := hR.mono hbr k x hx
      have HX := Lib.hid hx
      have hE' := hE.mono hbr
      clear hx hR hE
      go_wp2_with fail
      (with_reducible refine (valid_any x.1 x.2 ai ci _ h4 (h3.mono (below_alloc _ _)) (hE'.mono (below_alloc _ _))).mono ?_)
      rintro e w1 ⟨⟨q, HQ, rfl⟩, hb1⟩
      have hbw : Below w.heap.size w w1 := (hbr.trans ((below_alloc wr _).mono hbr.size)).trans (hb1.mono (Nat.le_trans hbr.size (below_alloc wr _).size))
      cases q
      · have HQ' : Hid (¬ validP x.1 x.2) := Lib.hid (fun h => by have := HQ.out.2 h; simp at this)
        clear HQ
        go_wp2
        go_ret
        refine ⟨⟨1, Lib.hid ⟨fun h => by omega, fun h => ?_⟩, Lib.hid (.inr rfl), rfl⟩, hbw⟩
        exact absurd (h x (List.mem_of_getElem? HX.out)) HQ'.out
      · have HQ' : Hid (validP x.1 x.2) := Lib.hid (HQ.out.1 rfl)
        clear HQ
        go_wp2
        go_roundw
        case rel =>
          refine ⟨k + 1, by omega, by go_num, Lib.hid fun i y hi hy => ?_, hbw⟩
          by_cases hik : i = k
          · subst hik
            obtain rfl := Option.some.inj (HX.out.symm.trans hy)
            exact HQ'.out
          · exact HK.out i y (by omega) hy
        case measure => simp [intOf]; omega
    · obtain rfl : k = ls.length := by omega
      clear hR hE
      go_wp2
      go_ret
      refine ⟨⟨0, Lib.hid ⟨fun _ x hx => ?_, fun _ => rfl⟩, Lib.hid (.inl rfl), rfl⟩, hbr⟩
      obtain ⟨i, hi, rfl⟩ := List.getElem_of_mem hx
      exact HK.out i _ hi (List.getElem?_eq_getElem hi)

/-- two integers in a new block -/
theorem Raws.two (w : World) (n1 n2 : Bool) (a1 a2 : Option Addr) (l1 l2 : List Nat) (c1 c2 : Nat) (t : TypeId) (h1 : U w a1 l1) (h2 : U w a2 l2) (m1 : l1.length ≤ 1000000000) (m2 : l2.length ≤ 1000000000) :
    Raws (w.alloc (.cells #[.bool n1, .slice a1 l1.length c1, .bool n2, .slice a2 l2.length c2] t)) (some ⟨w.heap.size, 0, none⟩) [(n1, l1), (n2, l2)] := by
  intro i x hx
  match i, hx with
  | 0, hx =>
    simp at hx; subst hx
    exact ⟨w.heap.size, 0, a1, c1, rfl, by simp [go_sem], by simp [go_sem], h1.mono (below_alloc _ _), m1⟩
  | 1, hx =>
    simp at hx; subst hx
    exact ⟨w.heap.size, 0, a2, c2, rfl, by simp [go_sem], by simp [go_sem], h2.mono (below_alloc _ _), m2⟩
  | i + 2, hx => simp at hx

theorem Raws.one (w : World) (n1 : Bool) (a1 : Option Addr) (l1 : List Nat) (c1 : Nat) (t : TypeId) (h1 : U w a1 l1) (m1 : l1.length ≤ 1000000000) :
    Raws (w.alloc (.cells #[.bool n1, .slice a1 l1.length c1] t)) (some ⟨w.heap.size, 0, none⟩) [(n1, l1)] := by
  intro i x hx
  match i, hx with
  | 0, hx =>
    simp at hx; subst hx
    exact ⟨w.heap.size, 0, a1, c1, rfl, by simp [go_sem], by simp [go_sem], h1.mono (below_alloc _ _), m1⟩
  | i + 1, hx => simp at hx

/-- the valid ones -/
theorem validP_of (z : Int) (n : Bool) (L : List Nat) (hn : n = decide (z < 0)) (hL : L = Bi.limbs z.natAbs) (hB : z.natAbs < Bi.Big) : validP n L := by
  unfold validP
  split
  · rename_i h
    rw [h] at hL
    have := Bi.limbs_eq_nil.1 hL.symm
    rw [hn]; simp; omega
  · rw [hL]; exact ⟨Bi.limbs_ok _, Bi.limbs_canon _, by rw [Bi.val_limbs]; exact hB⟩

end Go.Proofs.YtijjagofingpdaaGreatDoor
