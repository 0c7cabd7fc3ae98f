import Derived.Test.YtgfpbghgpdpepaaGreatDoorI9
import Derived.Test.YtgfpbghgpdpepaaGreatDoorQ9
set_option linter.unusedVariables false
set_option linter.unusedSimpArgs false
namespace Go.Proofs.YtgfpbghgpdpepaaGreatDoor
open Go.RowKit
theorem Box4.putOther {w : World} {n m : Nat} {x0 x1 x2 x3 y0 y1 y2 y3 : Value} (h : Box4 w n x0 x1 x2 x3) (hne : n ≠ m) : Box4 ((((w.setCell ⟨m, 0, none⟩ y0).setCell ⟨m, 1, none⟩ y1).setCell ⟨m, 2, none⟩ y2).setCell ⟨m, 3, none⟩ y3) n x0 x1 x2 x3 := by
 obtain ⟨h0, h1, h2, h3, f0, f1, f2, f3⟩ := h;exact ⟨by rw [cell_other _ hne, cell_other _ hne, cell_other _ hne, cell_other _ hne]; exact h0, by rw [cell_other _ hne, cell_other _ hne, cell_other _ hne, cell_other _ hne]; exact h1,
  by rw [cell_other _ hne, cell_other _ hne, cell_other _ hne, cell_other _ hne]; exact h2, by rw [cell_other _ hne, cell_other _ hne, cell_other _ hne, cell_other _ hne]; exact h3,
  by simp [go_sem, f0], by simp [go_sem, f1], by simp [go_sem, f2], by simp [go_sem, f3]⟩
structure Stay4 (R : World → Value → Prop) : Prop where
 mono : ∀ {W W' : World} {v : Value}, R W v → Below W.heap.size W W' → R W' v
 put : ∀ {W : World} {n : Nat} {v x0 x1 x2 x3 : Value}, R W v → Box4 W n (.bool false) (.slice none 0 0) (.bool false) (.slice none 0 0) → R ((((W.setCell ⟨n, 0, none⟩ x0).setCell ⟨n, 1, none⟩ x1).setCell ⟨n, 2, none⟩ x2).setCell ⟨n, 3, none⟩ x3) v
def Slot4 (W : World) (base : Nat) (R : World → Value → Prop) (st : Prop) (p : Value) : Prop :=
 ∃ b, p = .pointer (some ⟨b, 0, none⟩) ∧ base ≤ b ∧ b < W.heap.size ∧ (st → ∃ x0 x1 x2 x3, Box4 W b x0 x1 x2 x3 ∧ R W (.agg #[x0, x1, x2, x3])) ∧ (¬ st → Box4 W b (.bool false) (.slice none 0 0) (.bool false) (.slice none 0 0))
theorem Slot4.mono {W W' : World} {base : Nat} {R : World → Value → Prop} {st : Prop} {p : Value} (hR : Stay4 R) (h : Slot4 W base R st p) (hb : Below W.heap.size W W') : Slot4 W' base R st p := by
 obtain ⟨b, e, h1, h2, h3, h4⟩ := h;exact ⟨b, e, h1, Nat.lt_of_lt_of_le h2 hb.size, fun s => by obtain ⟨x0, x1, x2, x3, B, hr⟩ := h3 s; exact ⟨x0, x1, x2, x3, B.mono hb, hR.mono hr hb⟩, fun s => (h4 s).mono hb⟩
theorem Slot4.congr {W : World} {base : Nat} {R : World → Value → Prop} {st st' : Prop} {p : Value} (h : Slot4 W base R st p) (e : st ↔ st') : Slot4 W base R st' p := by
 have : st = st' := propext e;rw [← this]; exact h
theorem Slot4.new {base : Nat} {R : World → Value → Prop} {st : Prop} (W : World) (hn : ¬ st) (t : TypeId) (hB : base ≤ W.heap.size) : Slot4 (W.alloc (.cells #[.bool false, .slice none 0 0, .bool false, .slice none 0 0] t)) base R st (.pointer (some ⟨W.heap.size, 0, none⟩)) :=
 ⟨_, rfl, hB, by simp, fun s => absurd s hn, fun _ => Box4.new W _ _ _ _ t⟩
theorem Slot4.open {W : World} {base : Nat} {R : World → Value → Prop} {st : Prop} {p : Value} (h : Slot4 W base R st p) (hn : ¬ st) : ∃ b, p = .pointer (some ⟨b, 0, none⟩) ∧ base ≤ b ∧ b < W.heap.size ∧ Box4 W b (.bool false) (.slice none 0 0) (.bool false) (.slice none 0 0) := by
 obtain ⟨b, e, h1, h2, _, h4⟩ := h;exact ⟨b, e, h1, h2, h4 hn⟩
theorem Slot4.stored {W : World} {base m : Nat} {R : World → Value → Prop} {st' : Prop} {x0 x1 x2 x3 : Value} (hR : Stay4 R) (h1 : base ≤ m) (hB : Box4 W m (.bool false) (.slice none 0 0) (.bool false) (.slice none 0 0)) (hs : st') (hr : R W (.agg #[x0, x1, x2, x3])) :
  Slot4 ((((W.setCell ⟨m, 0, none⟩ x0).setCell ⟨m, 1, none⟩ x1).setCell ⟨m, 2, none⟩ x2).setCell ⟨m, 3, none⟩ x3) base R st' (.pointer (some ⟨m, 0, none⟩)) :=
 ⟨m, rfl, h1, by simpa using hB.lt, fun _ => ⟨x0, x1, x2, x3, hB.set4N x0 x1 x2 x3, hR.put hr hB⟩, fun s => absurd hs s⟩
theorem RatV.put4N {W : World} {n : Nat} {v : Value} {r : Rat} (h : RatV W v r) (hB : Box4 W n (.bool false) (.slice none 0 0) (.bool false) (.slice none 0 0)) (x0 x1 x2 x3 : Value) : RatV ((((W.setCell ⟨n, 0, none⟩ x0).setCell ⟨n, 1, none⟩ x1).setCell ⟨n, 2, none⟩ x2).setCell ⟨n, 3, none⟩ x3) v r := by
 obtain ⟨n1, a1, l1, c1, n2, a2, l2, c2, e, h1, h2⟩ := h;exact ⟨n1, a1, l1, c1, n2, a2, l2, c2, e, h1.put4N hB _ _ _ _, h2.put4N hB _ _ _ _⟩
theorem stay4_rat (r : Rat) : Stay4 (fun W v => RatV W v r) := ⟨fun h hb => h.mono hb, fun h hB => h.put4N hB _ _ _ _⟩
def SomeQ (W : World) (v : Value) : Prop := ∃ r, RatV W v r
theorem SomeQ.parts {W : World} {v : Value} (h : SomeQ W v) : ∃ (ng : Bool) (ao : Option Addr) (n cap : Nat) (ng2 : Bool) (ao2 : Option Addr) (n2 cap2 : Nat), v = .agg #[.bool ng, .slice ao n cap, .bool ng2, .slice ao2 n2 cap2] := by
 obtain ⟨r, h⟩ := h; exact h.parts
theorem DraftV.put2B {w : World} {n c d : Nat} {b : Bool} {s : Option Addr} {v : Value} (h : DraftV w v) (hB : Box w n (.bool b) (.slice s c d)) (x y : Value) : DraftV ((w.setCell ⟨n, 0, none⟩ x).setCell ⟨n, 1, none⟩ y) v := by
 obtain ⟨neg, ao, l, cap, e, h1, h2, h3⟩ := h;exact ⟨neg, ao, l, cap, e, h1, h2.put2 hB.c0 hB.c1 x y, h3⟩
theorem Slot4.at {W : World} {base : Nat} {R : World → Value → Prop} {st : Prop} {p : Value} (h : Slot4 W base R st p) (hs : st) (hV : ∀ v, R W v → SomeQ W v) :
  ∃ (g : Nat) (n1 : Bool) (a1 : Option Addr) (l1 c1 : Nat) (n2 : Bool) (a2 : Option Addr) (l2 c2 : Nat), p = .pointer (some ⟨g, 0, none⟩) ∧ base ≤ g ∧ Box4 W g (.bool n1) (.slice a1 l1 c1) (.bool n2) (.slice a2 l2 c2) ∧ R W (.agg #[.bool n1, .slice a1 l1 c1, .bool n2, .slice a2 l2 c2]) := by
 obtain ⟨b, e, h1, _, h3, _⟩ := h;obtain ⟨x0, x1, x2, x3, B, hr⟩ := h3 hs;obtain ⟨ng, ao, n, cap, ng2, ao2, n2, cap2, e2⟩ := (hV _ hr).parts;simp only [Value.agg.injEq, Array.mk.injEq, List.cons.injEq, and_true] at e2;obtain ⟨rfl, rfl, rfl, rfl⟩ := e2;exact ⟨b, ng, ao, n, cap, ng2, ao2, n2, cap2, e, h1, B, hr⟩
end Go.Proofs.YtgfpbghgpdpepaaGreatDoor
