/-
  A block of fractions that is written in place.
-/
import Derived.Test.YtgfpbghgpdpepaaGreatDoorDuT
import Derived.Laws.CopyRow
set_option linter.unusedVariables false
set_option linter.unusedSimpArgs false
namespace Go.Proofs.YtgfpbghgpdpepaaGreatDoor
open Go.RowKit
def NoG (G : Nat → Prop) (w : World) : Prop := ∀ g, G g → ∀ cur t fr, w.heap[g]? = some (.cells cur t fr) → ∀ u ∈ cur.toList, NoInt u
theorem U.kept {G : Nat → Prop} {w w' : World} {ao : Option Addr} {l : List Nat} (h : U w ao l) (hk : Kept G w w') (hp : NoG G w) : U w' ao l := by
 intro i hi;obtain ⟨b, off, e, hc⟩ := h i hi;refine ⟨b, off, e, ?_⟩
 by_cases hb : G b
 ·exfalso
  unfold World.cell? at hc;simp only at hc
  cases ho : w.heap[b]? with
  | none => rw [ho] at hc; simp at hc
  | some ob =>
   rw [ho] at hc
   cases ob with
   | cells cur t fr =>
    simp only [Option.isSome_none, Bool.false_eq_true, if_false] at hc;exact hp b hb cur t fr ho _ (by have := Array.mem_of_getElem? hc; exact Array.mem_toList_iff.2 this) _ _ rfl
   | _ => simp at hc
 ·exact hk.cell hc hb
theorem IntV.kept {G : Nat → Prop} {w w' : World} {u : Value} {z : Int} (h : IntV w u z) (hk : Kept G w w') (hp : NoG G w) : IntV w' u z := by
 obtain ⟨n1, ao1, L1, c1, rfl, Hn1, HL1, HB1, hc1, hl1, hU1⟩ := h;exact ⟨n1, ao1, L1, c1, rfl, Hn1, HL1, HB1, hc1, hl1, hU1.kept hk hp⟩
theorem RatV.kept {G : Nat → Prop} {w w' : World} {u : Value} {r : Rat} (h : RatV w u r) (hk : Kept G w w') (hp : NoG G w) : RatV w' u r := by
 obtain ⟨n1, a1, l1, c1, n2, a2, l2, c2, e, h1, h2⟩ := h;exact ⟨n1, a1, l1, c1, n2, a2, l2, c2, e, h1.kept hk hp, h2.kept hk hp⟩
theorem VQ.kept {G : Nat → Prop} {w w' : World} {u : Value} {b : Bool} (h : VQ w u b) (hk : Kept G w w') (hp : NoG G w) : VQ w' u b := by
 obtain ⟨x1, x2, l1, l2, a1, a2, c1, c2, e, h1, h2, k1, k2, h3, h4, h5⟩ := h;exact ⟨x1, x2, l1, l2, a1, a2, c1, c2, e, h1, h2, k1, k2, h3.kept hk hp, h4.kept hk hp, h5⟩
theorem QV.kept {G : Nat → Prop} {w w' : World} {u : Value} {o : Qo} (h : QV w u o) (hk : Kept G w w') (hp : NoG G w) : QV w' u o := by
 cases o
 ·exact VQ.kept h hk hp
 ·exact RatV.kept h hk hp
theorem UQ.kept {G : Nat → Prop} {w w' : World} {ao : Option Addr} {l : List Qo} (h : UQ w ao l) (hk : Kept G w w') (hp : NoG G w) (ha : ∀ a, ao = some a → ¬ G a.block) : UQ w' ao l := by
 intro i o hi;obtain ⟨b, off, n1, a1, l1, c1, n2, a2, l2, c2, e, f, hq⟩ := h i o hi;have hg : ¬ G b := ha _ e;exact ⟨b, off, n1, a1, l1, c1, n2, a2, l2, c2, e, ⟨hk.cell f.c0 hg, hk.cell f.c1 hg, hk.cell f.c2 hg, hk.cell f.c3 hg, trivial, trivial, trivial, trivial⟩, hq.kept hk hp⟩
theorem QAt.kept {G : Nat → Prop} {w w' : World} {xs : List Value} {i : Nat} {o : Qo} (h : QAt w xs i o) (hk : Kept G w w') (hp : NoG G w) : QAt w' xs i o := by
 obtain ⟨n1, a1, l1, c1, n2, a2, l2, c2, e0, e1, e2, e3, hr⟩ := h;exact ⟨n1, a1, l1, c1, n2, a2, l2, c2, e0, e1, e2, e3, hr.kept hk hp⟩
theorem QAt.mono {w w' : World} {xs : List Value} {i : Nat} {o : Qo} (h : QAt w xs i o) (hb : Below w.heap.size w w') : QAt w' xs i o := by
 obtain ⟨n1, a1, l1, c1, n2, a2, l2, c2, e0, e1, e2, e3, hr⟩ := h;exact ⟨n1, a1, l1, c1, n2, a2, l2, c2, e0, e1, e2, e3, hr.mono hb⟩
def MQ (w : World) (g : Nat) (l : List Qo) : Prop :=
 ∃ xs, Row w g 34 xs ∧ xs.length = l.length * 4 ∧ (∀ u ∈ xs, NoInt u) ∧ ∀ i o, l[i]? = some o → QAt w xs i o
theorem MQ.mono {w w' : World} {g : Nat} {l : List Qo} (h : MQ w g l) (hb : Below w.heap.size w w') : MQ w' g l := by
 obtain ⟨xs, h1, h2, h3, h4⟩ := h;exact ⟨xs, h1.below hb, h2, h3, fun i o hi => (h4 i o hi).mono hb⟩
theorem MQ.lt {w : World} {g : Nat} {l : List Qo} (h : MQ w g l) : g < w.heap.size := by
 obtain ⟨xs, h1, _⟩ := h; exact h1.lt
theorem MQ.noG {w : World} {g : Nat} {l : List Qo} (h : MQ w g l) : NoG (fun k => k = g) w := by
 obtain ⟨xs, h1, h2, h3, h4⟩ := h;intro k hk cur t fr hc;subst hk;have := h1.symm.trans hc;simp only [Option.some.injEq, Obj.cells.injEq] at this;obtain ⟨rfl, _, _⟩ := this;exact h3
theorem MQ.kept {G : Nat → Prop} {w w' : World} {g : Nat} {l : List Qo} (h : MQ w g l) (hk : Kept G w w') (hp : NoG G w) (hg : ¬ G g) : MQ w' g l := by
 obtain ⟨xs, h1, h2, h3, h4⟩ := h;exact ⟨xs, h1.mono hk hg, h2, h3, fun i o hi => (h4 i o hi).kept hk hp⟩
theorem MQ.read {w : World} {g : Nat} {l : List Qo} (h : MQ w g l) : UQ w (some ⟨g, 0, none⟩) l := by
 obtain ⟨xs, h1, h2, h3, h4⟩ := h;intro i o hi;obtain ⟨n1, a1, l1, c1, n2, a2, l2, c2, e0, e1, e2, e3, hq⟩ := h4 i o hi;have hc : ∀ j u, xs[j]? = some u → w.cell? ⟨g, 0 + j, none⟩ = some u := by
  intro j u hu;obtain ⟨hj, rfl⟩ := List.getElem?_eq_some_iff.1 hu;rw [Nat.zero_add]; exact h1.cell hj
 exact ⟨g, 0, n1, a1, l1, c1, n2, a2, l2, c2, rfl, ⟨hc _ _ e0, hc _ _ e1, hc _ _ e2, hc _ _ e3, trivial, trivial, trivial, trivial⟩, hq⟩
theorem MQ.put {w : World} {g i : Nat} {l : List Qo} {n1 : Bool} {a1 : Option Addr} {l1 c1 : Nat} {n2 : Bool} {a2 : Option Addr} {l2 c2 : Nat} {o : Qo} (h : MQ w g l) (hi : i < l.length) (hv : QV w (.agg #[.bool n1, .slice a1 l1 c1, .bool n2, .slice a2 l2 c2]) o) :
  MQ ((((w.setCell ⟨g, i * 4, none⟩ (.bool n1)).setCell ⟨g, i * 4 + 1, none⟩ (.slice a1 l1 c1)).setCell ⟨g, i * 4 + 2, none⟩ (.bool n2)).setCell ⟨g, i * 4 + 3, none⟩ (.slice a2 l2 c2)) g (l.set i o) ∧
  Kept (fun k => k = g) w ((((w.setCell ⟨g, i * 4, none⟩ (.bool n1)).setCell ⟨g, i * 4 + 1, none⟩ (.slice a1 l1 c1)).setCell ⟨g, i * 4 + 2, none⟩ (.bool n2)).setCell ⟨g, i * 4 + 3, none⟩ (.slice a2 l2 c2)) := by
 have hno := h.noG;obtain ⟨xs, h1, h2, h3, h4⟩ := h;have hk : Kept (fun k => k = g) w ((((w.setCell ⟨g, i * 4, none⟩ (.bool n1)).setCell ⟨g, i * 4 + 1, none⟩ (.slice a1 l1 c1)).setCell ⟨g, i * 4 + 2, none⟩ (.bool n2)).setCell ⟨g, i * 4 + 3, none⟩ (.slice a2 l2 c2)) :=
  (((((Kept.refl w : Kept (fun k => k = g) w w)).setCell (p := ⟨g, i * 4, none⟩) rfl _).setCell (p := ⟨g, i * 4 + 1, none⟩) rfl _).setCell (p := ⟨g, i * 4 + 2, none⟩) rfl _).setCell (p := ⟨g, i * 4 + 3, none⟩) rfl _
 refine ⟨⟨(((xs.set (i * 4) (.bool n1)).set (i * 4 + 1) (.slice a1 l1 c1)).set (i * 4 + 2) (.bool n2)).set (i * 4 + 3) (.slice a2 l2 c2), (((h1.set _ _).set _ _).set _ _).set _ _, by simp [h2], ?_, ?_⟩, hk⟩
 ·intro u hu;have hm : ∀ (ys : List Value) (j : Nat) (v : Value), (∀ u ∈ ys, NoInt u) → NoInt v → ∀ u ∈ ys.set j v, NoInt u := by
   intro ys j v hy hv u hu;rcases List.mem_or_eq_of_mem_set hu with hu | rfl
   ·exact hy u hu
   ·exact hv
  refine hm _ _ _ (hm _ _ _ (hm _ _ _ (hm _ _ _ h3 ?_) ?_) ?_) ?_ u hu
  ·intro k z e; cases e
  ·intro k z e; cases e
  ·intro k z e; cases e
  ·intro k z e; cases e
 ·intro j q hj;have hxl : i * 4 + 3 < xs.length := by rw [h2]; omega
  by_cases hji : j = i
  ·subst hji;rw [List.getElem?_set_self hi] at hj
   cases hj
   refine ⟨n1, a1, l1, c1, n2, a2, l2, c2, ?_, ?_, ?_, ?_, hv.kept hk hno⟩
   ·rw [List.getElem?_set_ne (by omega), List.getElem?_set_ne (by omega), List.getElem?_set_ne (by omega), List.getElem?_set_self (by omega)]
   ·rw [List.getElem?_set_ne (by omega), List.getElem?_set_ne (by omega), List.getElem?_set_self (by simp; omega)]
   ·rw [List.getElem?_set_ne (by omega), List.getElem?_set_self (by simp; omega)]
   ·rw [List.getElem?_set_self (by simp; omega)]
  ·rw [List.getElem?_set_ne (fun e => hji e.symm)] at hj;obtain ⟨m1, b1, k1, d1, m2, b2, k2, d2, e0, e1, e2, e3, hr⟩ := h4 j q hj;have hs : ∀ m, m < 4 → ((((xs.set (i * 4) (.bool n1)).set (i * 4 + 1) (.slice a1 l1 c1)).set (i * 4 + 2) (.bool n2)).set (i * 4 + 3) (.slice a2 l2 c2))[j * 4 + m]? = xs[j * 4 + m]? := by
    intro m hm;rw [List.getElem?_set_ne (by omega), List.getElem?_set_ne (by omega), List.getElem?_set_ne (by omega), List.getElem?_set_ne (by omega)]
   exact ⟨m1, b1, k1, d1, m2, b2, k2, d2, (hs 0 (by omega)).trans e0, (hs 1 (by omega)).trans e1, (hs 2 (by omega)).trans e2, (hs 3 (by omega)).trans e3, hr.kept hk hno⟩
theorem vq_zero (w : World) : VQ w (.agg #[.bool false, .slice none 0 0, .bool false, .slice none 0 0]) false := by
 refine ⟨false, false, [], [], none, none, 0, 0, rfl, by simp, by simp, by simp, by simp, U.nil _ _, U.nil _ _, hii (Iff.intro (fun h => nomatch h) ?_)⟩;rintro ⟨r, _, _, _, _, hd, _⟩;rw [Bi.limbs_pos r.den_nz] at hd
 cases hd
end Go.Proofs.YtgfpbghgpdpepaaGreatDoor
