import Derived.Test.YtijjagofingpdaaGreatDoorAwake
namespace Go.Proofs.YtijjagofingpdaaGreatDoor
open Go.RowKit

/-- a draft -/
def DraftV (w : World) (v : Value) : Prop :=
  ∃ (neg : Bool) (ao : Option Addr) (l : List Nat) (cap : Nat), v = .agg #[.bool neg, .slice ao l.length cap] ∧ l.length ≤ 9223372036854775807 ∧ U w ao l ∧ Hid (∀ x ∈ l, x < 4294967296)

theorem DraftV.mono {w w' : World} {v : Value} (h : DraftV w v) (hb : Below w.heap.size w w') : DraftV w' v := by
  obtain ⟨neg, ao, l, cap, e, h1, h2, h3⟩ := h
  exact ⟨neg, ao, l, cap, e, h1, h2.mono hb, h3⟩

theorem IntV.parts {w : World} {v : Value} {z : Int} (h : IntV w v z) : ∃ (ng : Bool) (ao : Option Addr) (n cap : Nat), v = .agg #[.bool ng, .slice ao n cap] := by
  obtain ⟨neg, ao, L, cap, e, _⟩ := h
  exact ⟨neg, ao, _, cap, e⟩

/-- an integer of some value, in parts -/
def SomeV (w' : World) (z : Int) (e : Ending) : Prop :=
  ∃ (ng : Bool) (ao : Option Addr) (n cap : Nat), e = .returned (.agg #[.bool ng, .slice ao n cap]) ∧ Hid (IntV w' (.agg #[.bool ng, .slice ao n cap]) z)

theorem madeV (neg : Bool) (ao : Option Addr) (n cap : Nat) (w : World) (h : DraftV w (.agg #[.bool neg, .slice ao n cap])) :
    Calls Tryz.prog 5 #[.agg #[.bool neg, .slice ao n cap]] w fun e w' => (∃ z, SomeV w' z e) ∧ Below w.heap.size w w' := by
  obtain ⟨neg', ao', l, cap', e, h1, h2, h3⟩ := h
  simp only [Value.agg.injEq, Array.mk.injEq, List.cons.injEq, Value.bool.injEq, Value.slice.injEq, and_true] at e
  obtain ⟨rfl, rfl, rfl, rfl⟩ := e
  refine (made_any neg l ao cap w h1 h2 h3).mono ?_
  rintro e w' ⟨⟨z, ng, a, n, c, he, hV⟩, hb⟩
  exact ⟨⟨z, ng, a, n, c, he, hV⟩, hb⟩

theorem ownV (v : Value) (z : Int) (w : World) (h : IntV w v z) :
    Calls Tryz.prog 8 #[v] w fun e w' => SomeV w' z e ∧ Below w.heap.size w w' := by
  obtain ⟨n1, ao1, L1, c1, rfl, Hn1, HL1, HB1, hc1, hl1, hU1⟩ := h
  refine (own_any n1 L1 ao1 c1 w (by omega) hU1).mono ?_
  rintro e w' ⟨⟨a2, c2, he, hU, hc⟩, hb⟩
  exact ⟨⟨n1, a2, _, c2, he, Lib.hid ⟨n1, a2, L1, c2, rfl, Hn1, HL1, HB1, hc, hl1, hU.out⟩⟩, hb⟩

theorem validV (v : Value) (z : Int) (w : World) (h : IntV w v z) (hE : Env w) :
    Calls Tryz.prog 43 #[v] w fun e w' => e = .returned (.bool true) ∧ Below w.heap.size w w' := by
  obtain ⟨n1, ao1, L1, c1, rfl, Hn1, HL1, HB1, hc1, hl1, hU1⟩ := h
  refine (valid_any n1 L1 ao1 c1 w (by omega) hU1 hE).mono ?_
  rintro e w' ⟨⟨r, HR, rfl⟩, hb⟩
  exact ⟨by rw [HR.out.2 (validP_of z n1 L1 Hn1.out HL1.out HB1.out)], hb⟩

/-- a value that is valid: of z, or of 0 where z is too large -/
theorem ResK.some {w : World} {z : Int} {v : Value} {k : Int} (h : ResK w z v k) : ∃ y, IntV w v y ∧ (y = if z.natAbs < Bi.Big then z else 0) ∧ k = if z.natAbs < Bi.Big then 0 else 3 := by
  rcases h with ⟨h1, h2, h3⟩ | ⟨h1, h2, h3⟩
  · exact ⟨z, h3, by rw [if_pos h1], by rw [if_pos h1]; exact h2⟩
  · exact ⟨0, by rw [h3]; exact IntV.zero _, by rw [if_neg h1], by rw [if_neg h1]; exact h2⟩

theorem S2 {wx W : World} {n1 n2 : Nat} {a b c d : Value} (B1 : Box wx n1 a b) (B2 : Box wx n2 c d) (h : Below wx.heap.size wx W) :
    W.cell? ⟨n1, 0, none⟩ = some a ∧ W.cell? ⟨n1, 1, none⟩ = some b ∧ W.cell? ⟨n2, 0, none⟩ = some c ∧ W.cell? ⟨n2, 1, none⟩ = some d :=
  ⟨(B1.mono h).c0, (B1.mono h).c1, (B2.mono h).c0, (B2.mono h).c1⟩

theorem IntV.putF {w : World} {p : Addr} {v u : Value} {z : Int} (h : IntV w u z) (hp : w.cell? p = some (.bool false)) : IntV (w.setCell p v) u z := IntV.put hp (by simp) h
theorem IntV.putN {w : World} {p : Addr} {v u : Value} {z : Int} (h : IntV w u z) (hp : w.cell? p = some (.slice none 0 0)) : IntV (w.setCell p v) u z := IntV.put hp (by simp) h

/-- the box of a new integer -/
theorem Box.new2 (v : World) (o : Obj) (a b : Value) (t : TypeId) : Box ((v.alloc o).alloc (.cells #[a, b] t)) (v.heap.size + 1) a b := by
  have := Box.new (v.alloc o) a b t
  simpa using this

theorem Box.set2 {w : World} {n : Nat} {x y : Value} (h : Box w n x y) (u v : Value) : Box ((w.setCell ⟨n, 0, none⟩ u).setCell ⟨n, 1, none⟩ v) n u v := by
  have h0 := h.c0
  have h1 := h.c1
  have h2 := h.f0
  have h3 := h.f1
  exact ⟨by simp [h0, go_sem], by simp [h1, go_sem], by simp [h2, go_sem], by simp [h3, go_sem]⟩

theorem Box.new' (w : World) (n : Nat) (h : w.heap.size = n) (a b : Value) (t : TypeId) : Box (w.alloc (.cells #[a, b] t)) n a b := by
  subst h; exact Box.new w a b t

theorem Box.set2Z {w : World} {n : Nat} (h : Box w n (.bool false) (.slice none 0 0)) (u v : Value) : Box ((w.setCell ⟨n, 0, none⟩ u).setCell ⟨n, 1, none⟩ v) n u v := h.set2 u v

theorem IntV.putFN {w : World} {n : Nat} {u x y : Value} {z : Int} (h : IntV w u z) (hB : Box w n (.bool false) (.slice none 0 0)) : IntV ((w.setCell ⟨n, 0, none⟩ x).setCell ⟨n, 1, none⟩ y) u z :=
  h.put2 hB.c0 hB.c1 x y

/-- a slot that points to a box with an integer -/
def BoxV (wc : World) (s : Value) (z : Int) : Prop :=
  ∃ (g : Nat) (ng : Bool) (ao : Option Addr) (n cap : Nat), s = .pointer (some ⟨g, 0, none⟩) ∧ Box wc g (.bool ng) (.slice ao n cap) ∧ Hid (IntV wc (.agg #[.bool ng, .slice ao n cap]) z)

/-- two such slots -/
def Two (w wc : World) (s1 s2 : Value) : Prop := ∃ z1 z2, BoxV wc s1 z1 ∧ BoxV wc s2 z2 ∧ Below w.heap.size w wc

theorem ResK.putFN {w : World} {n : Nat} {u x y : Value} {z k : Int} (h : ResK w z u k) (hB : Box w n (.bool false) (.slice none 0 0)) : ResK ((w.setCell ⟨n, 0, none⟩ x).setCell ⟨n, 1, none⟩ y) z u k :=
  h.put2 hB.c0 hB.c1 x y

/-- a slot that points to a box with the result of a calculation, and its error's slot -/
def BoxK (wc : World) (s s2 : Value) (z : Int) : Prop :=
  ∃ (g : Nat) (ng : Bool) (ao : Option Addr) (n cap : Nat) (k : Int), s = .pointer (some ⟨g, 0, none⟩) ∧ s2 = .int .i64 k ∧ Box wc g (.bool ng) (.slice ao n cap) ∧ Hid (ResK wc z (.agg #[.bool ng, .slice ao n cap]) k)

def OneK (w wc : World) (s s2 : Value) (z : Int) : Prop := BoxK wc s s2 z ∧ Below w.heap.size w wc

end Go.Proofs.YtijjagofingpdaaGreatDoor
