import Derived.Test.YtijjagofingpdaaGreatDoorRest
namespace Go.Proofs.YtijjagofingpdaaGreatDoor
open Go.RowKit

set_option maxHeartbeats 400000 in
theorem clone_any (l : List Nat) (ao : Option Addr) (cap : Nat) (w : World) (hm : l.length ≤ 1000000000) (hU : U w ao l) :
    Calls Tryz.prog 41 #[.slice ao l.length cap] w fun e w' => (∃ (a2 : Option Addr) (c2 : Nat), e = .returned (.slice a2 l.length c2) ∧ l.length ≤ c2 ∧ Hid (U w' a2 l)) ∧ Below w.heap.size w w' := by
  cases ao with
  | none =>
    have hl : l = [] := by
      cases l with
      | nil => rfl
      | cons x r => obtain ⟨b, off, e, _⟩ := hU 0 (by simp); cases e
    subst hl
    have hn := fun w : World => Lib.run_eql_slice_nil (P := Tryz.prog) w 22 45 none 0 cap 0 0 Tryz.underlying22
    simp only [Option.isNone_none] at hn
    go_enter Tryz.func41, Tryz.ntmps41
    go_wp2
    go_ret
    exact ⟨⟨none, 0, rfl, Nat.le_refl _, Lib.hid (U.nil _ _)⟩, Below.refl _ _⟩
  | some a =>
    have hn := fun w : World => Lib.run_eql_slice_nil (P := Tryz.prog) w 22 45 (some a) l.length cap 0 0 Tryz.underlying22
    simp only [Option.isNone_some] at hn
    have hown := OwnU.lit0 w w.heap.size (Nat.le_refl _)
    have hUx := hU.mono (below_alloc w (.cells #[] 45))
    go_enter Tryz.func41, Tryz.ntmps41
    go_wp2_with (at_builtin; refine app_all_u32 _ rfl _ _ rfl w w.heap.size _ [] rfl hown (by simp) (below_alloc w _) (some a) cap l rfl hUx (by simp; omega) ?_; intro v' w1 hown1 hb1)
    obtain ⟨a2, c2, rfl, hc2, hU2⟩ := hown1.read
    simp only [List.nil_append] at hc2 hU2
    go_ret
    exact ⟨⟨a2, c2, rfl, hc2, Lib.hid hU2⟩, hb1⟩

/-- what 'divide' answers: quotient and remainder -/
def DivP (w' : World) (m n : Nat) (e : Ending) : Prop :=
  ∃ (a1 a2 : Option Addr) (Q R : List Nat) (c1 c2 : Nat), Hid (Q = Bi.limbs (m / n)) ∧ Hid (R = Bi.limbs (m % n)) ∧ Q.length ≤ c1 ∧ R.length ≤ c2 ∧
    e = .returned (.tuple #[.slice a1 Q.length c1, .slice a2 R.length c2]) ∧ Hid (U w' a1 Q) ∧ Hid (U w' a2 R)

set_option maxRecDepth 100000 in
set_option maxHeartbeats 800000 in
theorem divide_lt (m n : Nat) (u v : List Nat) (Hu : Hid (u = Bi.limbs m)) (Hv : Hid (v = Bi.limbs n)) (au av : Option Addr) (cu cv : Nat) (w : World) (hmu : u.length ≤ 1000000000) (hmv : v.length ≤ 1000000000) (hlt : Hid (m < n))
    (hu : U w au u) (hv : U w av v) :
    Calls Tryz.prog 40 #[.slice au u.length cu, .slice av v.length cv] w fun e w' => DivP w' m n e ∧ Below w.heap.size w w' := by
  go_enter Tryz.func40, Tryz.ntmps40
  go_wp2_with fail
  (with_reducible refine (compare_any m n u v Hu Hv au av cu cv w ?_ ?_ hu hv).mono ?_)
  · omega
  · omega
  rintro e w1 ⟨rfl, hb1⟩
  have hcmp : cmpN m n < 0 := by have := hlt.out; unfold cmpN; rw [if_pos this]; decide
  have hu1 := hu.mono hb1
  clear hu hv
  go_wp2_with fail
  (with_reducible refine (clone_any u au cu w1 ?_ hu1).mono ?_)
  · omega
  rintro e w2 ⟨⟨a2, c2, rfl, hc2, HU2⟩, hb2⟩
  go_wp2
  go_ret2
  exact ⟨⟨none, a2, [], u, 0, c2, Lib.hid (by rw [Nat.div_eq_of_lt hlt.out]; rfl), Lib.hid (by rw [Nat.mod_eq_of_lt hlt.out]; exact Hu.out), Nat.le_refl _, hc2, rfl, Lib.hid (U.nil _ _), HU2⟩, Below.step hb1 hb2 (Nat.le_refl _)⟩

end Go.Proofs.YtijjagofingpdaaGreatDoor
