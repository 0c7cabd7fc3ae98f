/-
  The decimal text of a fraction, plain.
-/
import Derived.Test.YtgfpbghgpdpepaaGreatDoorQ8
import Derived.Test.YtgfpbghgpdpepaaGreatDoorI9
set_option linter.unusedVariables false
set_option linter.unusedSimpArgs false
namespace Rq
open Go
end Rq
namespace Go.Proofs.YtgfpbghgpdpepaaGreatDoor
open Go.RowKit
theorem Slot.at {W : World} {base : Nat} {st : Prop} {p : Value} {z : Int} (h : Slot W base (fun W v => IntV W v z) st p) (hs : st) :
  ∃ (g : Nat) (ng : Bool) (ao : Option Addr) (l cap : Nat), p = .pointer (some ⟨g, 0, none⟩) ∧ base ≤ g ∧ Box W g (.bool ng) (.slice ao l cap) ∧ IntV W (.agg #[.bool ng, .slice ao l cap]) z := by
 obtain ⟨b, e, hb, _, h3, _⟩ := h;obtain ⟨x, y, B, hr⟩ := h3 hs;obtain ⟨ng, ao, n, cap, e2⟩ := hr.parts;simp only [Value.agg.injEq, Array.mk.injEq, List.cons.injEq, and_true] at e2;obtain ⟨rfl, rfl⟩ := e2;exact ⟨b, ng, ao, n, cap, e, hb, B, hr⟩
end Go.Proofs.YtgfpbghgpdpepaaGreatDoor
