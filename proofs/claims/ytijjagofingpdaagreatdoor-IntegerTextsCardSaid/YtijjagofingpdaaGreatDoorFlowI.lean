/-
  Boxes that are made and written in a drawn region: what is known of them while it runs (for Flow).
-/
import Derived.Test.YtijjagofingpdaaGreatDoorFlow
import Derived.Test.YtijjagofingpdaaGreatDoorDoor3
namespace Go.Proofs.YtijjagofingpdaaGreatDoor
open Go.RowKit

theorem Box.putOther {w : World} {n m : Nat} {x y u v : Value} (h : Box w n x y) (hne : n ≠ m) : Box ((w.setCell ⟨m, 0, none⟩ u).setCell ⟨m, 1, none⟩ v) n x y := by
  obtain ⟨h1, h2, h3, h4⟩ := h
  have hne' := Ne.symm hne
  refine ⟨?_, ?_, ?_, ?_⟩
  · rw [World.cell?_setCell_other _ _ _ _ (fun e => hne' (congrArg Addr.block e)), World.cell?_setCell_other _ _ _ _ (fun e => hne' (congrArg Addr.block e))]; exact h1
  · rw [World.cell?_setCell_other _ _ _ _ (fun e => hne' (congrArg Addr.block e)), World.cell?_setCell_other _ _ _ _ (fun e => hne' (congrArg Addr.block e))]; exact h2
  · simp [go_sem, h3]
  · simp [go_sem, h4]

/-- what is said of a value stays when memory is made, and when a new integer's box is written -/
structure Stay (R : World → Value → Prop) : Prop where
  mono : ∀ {W W' : World} {v : Value}, R W v → Below W.heap.size W W' → R W' v
  put : ∀ {W : World} {n : Nat} {v x y : Value}, R W v → Box W n (.bool false) (.slice none 0 0) → R ((W.setCell ⟨n, 0, none⟩ x).setCell ⟨n, 1, none⟩ y) v

/-- the box at p, of the call's own: still zero, or written with a value of which R is said -/
def Slot (W : World) (base : Nat) (R : World → Value → Prop) (st : Prop) (p : Value) : Prop :=
  ∃ b, p = .pointer (some ⟨b, 0, none⟩) ∧ base ≤ b ∧ b < W.heap.size ∧ (st → ∃ x y, Box W b x y ∧ R W (.agg #[x, y])) ∧ (¬ st → Box W b (.bool false) (.slice none 0 0))

theorem Slot.mono {W W' : World} {base : Nat} {R : World → Value → Prop} {st : Prop} {p : Value} (hR : Stay R) (h : Slot W base R st p) (hb : Below W.heap.size W W') : Slot W' base R st p := by
  obtain ⟨b, e, h1, h2, h3, h4⟩ := h
  exact ⟨b, e, h1, Nat.lt_of_lt_of_le h2 hb.size, fun s => by obtain ⟨x, y, B, hr⟩ := h3 s; exact ⟨x, y, B.mono hb, hR.mono hr hb⟩, fun s => (h4 s).mono hb⟩

theorem Slot.congr {W : World} {base : Nat} {R : World → Value → Prop} {st st' : Prop} {p : Value} (h : Slot W base R st p) (e : st ↔ st') : Slot W base R st' p := by
  have : st = st' := propext e
  rw [← this]; exact h

theorem Slot.new {base : Nat} {R : World → Value → Prop} {st : Prop} (W : World) (hn : ¬ st) (t : TypeId) (hB : base ≤ W.heap.size) : Slot (W.alloc (.cells #[.bool false, .slice none 0 0] t)) base R st (.pointer (some ⟨W.heap.size, 0, none⟩)) :=
  ⟨_, rfl, hB, by simp, fun s => absurd s hn, fun _ => Box.new W _ _ t⟩

theorem Slot.ne_new {W : World} {base : Nat} {R : World → Value → Prop} {st : Prop} {p : Value} (h : Slot W base R st p) : p ≠ .pointer (some ⟨W.heap.size, 0, none⟩) := by
  obtain ⟨b, rfl, _, h2, _⟩ := h
  intro e
  simp only [Value.pointer.injEq, Option.some.injEq, Addr.mk.injEq, and_true] at e
  omega

theorem Slot.other {W : World} {base m : Nat} {R : World → Value → Prop} {st : Prop} {p x y : Value} (hR : Stay R) (h : Slot W base R st p) (hne : p ≠ .pointer (some ⟨m, 0, none⟩)) (hB : Box W m (.bool false) (.slice none 0 0)) : Slot ((W.setCell ⟨m, 0, none⟩ x).setCell ⟨m, 1, none⟩ y) base R st p := by
  obtain ⟨b, rfl, h1, h2, h3, h4⟩ := h
  have hbm : b ≠ m := fun e => hne (by rw [e])
  exact ⟨b, rfl, h1, by simpa using h2, fun s => by obtain ⟨x', y', B, hr⟩ := h3 s; exact ⟨x', y', B.putOther hbm, hR.put hr hB⟩, fun s => (h4 s).putOther hbm⟩

theorem Slot.open {W : World} {base : Nat} {R : World → Value → Prop} {st : Prop} {p : Value} (h : Slot W base R st p) (hn : ¬ st) : ∃ b, p = .pointer (some ⟨b, 0, none⟩) ∧ base ≤ b ∧ b < W.heap.size ∧ Box W b (.bool false) (.slice none 0 0) := by
  obtain ⟨b, e, h1, h2, _, h4⟩ := h
  exact ⟨b, e, h1, h2, h4 hn⟩

theorem Slot.stored {W : World} {base m : Nat} {R : World → Value → Prop} {st' : Prop} {x y : Value} (hR : Stay R) (h1 : base ≤ m) (hB : Box W m (.bool false) (.slice none 0 0)) (hs : st') (hr : R W (.agg #[x, y])) : Slot ((W.setCell ⟨m, 0, none⟩ x).setCell ⟨m, 1, none⟩ y) base R st' (.pointer (some ⟨m, 0, none⟩)) :=
  ⟨m, rfl, h1, by simpa using hB.lt, fun _ => ⟨x, y, hB.set2 x y, hR.put hr hB⟩, fun s => absurd hs s⟩

/-- some integer -/
def SomeI (W : World) (v : Value) : Prop := ∃ z, IntV W v z
theorem SomeI.parts {W : World} {v : Value} (h : SomeI W v) : ∃ (ng : Bool) (ao : Option Addr) (n cap : Nat), v = .agg #[.bool ng, .slice ao n cap] := by obtain ⟨z, h⟩ := h; exact h.parts
theorem stay_int (z : Int) : Stay (fun W v => IntV W v z) := ⟨fun h hb => h.mono hb, fun h hB => h.putFN hB⟩
theorem stay_some : Stay SomeI := ⟨fun h hb => h.imp fun _ h => h.mono hb, fun h hB => h.imp fun _ h => h.putFN hB⟩

/-- at the end: a slot that points to a box with an integer -/
theorem Slot.boxV {W : World} {base : Nat} {R : World → Value → Prop} {st : Prop} {p : Value} (h : Slot W base R st p) (hs : st) (hV : ∀ v, R W v → SomeI W v) : ∃ z, BoxV W p z := by
  obtain ⟨b, e, _, _, h3, _⟩ := h
  obtain ⟨x, y, B, hr⟩ := h3 hs
  obtain ⟨z, hz⟩ := hV _ hr
  obtain ⟨ng, ao, n, cap, e2⟩ := hz.parts
  simp only [Value.agg.injEq, Array.mk.injEq, List.cons.injEq, and_true] at e2
  obtain ⟨rfl, rfl⟩ := e2
  exact ⟨z, b, ng, ao, n, cap, e, B, Lib.hid hz⟩
end Go.Proofs.YtijjagofingpdaaGreatDoor
