import Derived.Test.YtackeigdehfmmaaDoorYF
namespace Go.Proofs.YtackeigdehfmmaaDoor
open Go.RowKit

theorem Wl_write_yes {d : Wl.Dk} {S i : Nat} {s : Wl.Bs} (hok : d.Ok S) (hi : i < S) (hs : s.length ≤ 65536) : d.write (i : Int) s = (d.wrt i s, 0) := by
  unfold Wl.Dk.write; rw [if_neg (by have := hok.now; omega), if_neg (by omega), Int.toNat_natCast]

theorem Row.put3 {w : World} {g : Nat} {E : TypeId} {x y z : Value} (h : Row w g E [x, y, z]) (u0 u1 u2 : Value) : Row (((w.setCell ⟨g, 0, none⟩ u0).setCell ⟨g, 1, none⟩ u1).setCell ⟨g, 2, none⟩ u2) g E [u0, u1, u2] := by
  have := ((h.set 0 u0).set 1 u1).set 2 u2
  simpa using this
theorem Row.other3 {w : World} {g g' : Nat} {E : TypeId} {xs : List Value} (h : Row w g E xs) (hne : g ≠ g') (u0 u1 u2 : Value) : Row (((w.setCell ⟨g', 0, none⟩ u0).setCell ⟨g', 1, none⟩ u1).setCell ⟨g', 2, none⟩ u2) g E xs :=
  ((h.other hne u0).other hne u1).other hne u2

section
variable {w : World} {G : Nat → Prop} {S : Nat} {d : Wl.Dk}

/-- a disk of the reference lies in a box -/
structure BoxD (w : World) (G : Nat → Prop) (S n : Nat) (d : Wl.Dk) : Prop where
  ex : ∃ (b1 : Option Addr) (k1 : Nat) (b2 : Option Addr) (k2 : Nat) (b3 : Option Addr) (k3 : Nat), Row w n 36 [.slice b1 S k1, .slice b2 S k2, .slice b3 S k3] ∧ RefD w G S b1 b2 b3 d

set_option maxRecDepth 100000 in
set_option maxHeartbeats 1600000 in
theorem rput_yes (i : Nat) (s : Wl.Bs) {a1 a2 a3 : Option Addr} {c1 c2 c3 : Nat} (hG : ∀ b, G b → b < w.heap.size) (h : RefD w G S a1 a2 a3 d) (hi : i < S) (hs : s.length ≤ 65536) :
    Calls Tryd.prog 60 #[.agg #[.slice a1 S c1, .slice a2 S c2, .slice a3 S c3], .int .i64 i, sv s] w fun e w' => FreshR G S (d.wrt i s) w' e ∧ Below w.heap.size w w' := by
  have hhi := h.hi
  have HG := Lib.hid hG
  clear hG
  go_enter Tryd.func60, Tryd.ntmps60
  go_upto_region 1 with fail
  have hbx := (below_alloc w (.cells #[.slice a1 S c1, .slice a2 S c2, .slice a3 S c3] 36))
  have hby := below_alloc (w.alloc (.cells #[.slice a1 S c1, .slice a2 S c2, .slice a3 S c3] 36)) (.cells #[.slice none 0 0, .slice none 0 0, .slice none 0 0] 36)
  have hb := Below.step hbx hby (Nat.le_refl _)
  obtain ⟨hA, hB⟩ := heap2 w (.cells #[.slice a1 S c1, .slice a2 S c2, .slice a3 S c3] 36) (.cells #[.slice none 0 0, .slice none 0 0, .slice none 0 0] 36)
  clear hbx hby
  generalize ((w.alloc (.cells #[.slice a1 S c1, .slice a2 S c2, .slice a3 S c3] 36)).alloc (.cells #[.slice none 0 0, .slice none 0 0, .slice none 0 0] 36)) = wr at *
  have rA : Row wr w.heap.size 36 [.slice a1 S c1, .slice a2 S c2, .slice a3 S c3] := hA
  have rB : Row wr (w.heap.size + 1) 36 [.slice none 0 0, .slice none 0 0, .slice none 0 0] := hB
  obtain ⟨H, hH⟩ : ∃ H : Nat → Prop, ∀ b, H b ↔ (G b ∨ b = w.heap.size + 1) := ⟨_, fun _ => Iff.rfl⟩
  have hltB := rB.lt
  have hlift : ∀ b, b < w.heap.size → H b → G b := fun b hlt hh => by rcases (hH b).1 hh with h' | h'; exact h'; omega
  have hR : RefD wr H S a1 a2 a3 d := ⟨h.now.lift hb hlift, h.old.lift hb hlift, h.dirty.lift hb hlift, h.ok, h.lo, h.hi⟩
  have hW := rWrite_yes (w := wr) (G := H) (c1 := c1) (c2 := c2) (c3 := c3) i s (fun b hb' => by rcases (hH b).1 hb' with h' | h'; have := HG.out b h'; omega; omega) hR hi hs
  have HGH : Hid (∀ b, G b → H b) := Lib.hid (fun b hb' => (hH b).2 (.inl hb'))
  have HnH : Hid (∀ b, b = w.heap.size + 1 → H b) := Lib.hid (fun b hb' => (hH b).2 (.inr hb'))
  obtain ⟨k0, k1, k2, _, _, _⟩ := Row3 rA
  clear hA hB h hH hlift hR rA
  go_wp2_with fail
  (with_reducible refine hW.mono ?_)
  rintro e w1 ⟨⟨v, rfl, b1, m1, b2, m2, b3, m3, rfl, hR1⟩, hb1⟩
  clear hW k0 k1 k2
  have rB := rB.below hb1
  have hbb := Below.step hb hb1 (Nat.le_refl _)
  have HR1 := Lib.hid hR1
  have hs1 := hb1.size
  obtain ⟨q0, q1, q2, f0, f1, f2⟩ := Row3 rB
  have hlt1 := rB.lt
  clear hR1 hb hb1
  go_wp2
  have HF1 := HR1.out.kept ((put3_kept w1 (w.heap.size + 1) (.slice b1 S m1) (.slice b2 S m2) (.slice b3 S m3)).wider HnH.out)
  have HF := HF1.mono (below_alloc _ (.cells #[.slice b1 S m1, .slice b2 S m2, .slice b3 S m3] 36))
  have hbf := (((hbb.setCell (p := ⟨w.heap.size + 1, 0, none⟩) (by simp) (.slice b1 S m1)).setCell (p := ⟨w.heap.size + 1, 1, none⟩) (by simp) (.slice b2 S m2)).setCell (p := ⟨w.heap.size + 1, 2, none⟩) (by simp) (.slice b3 S m3)).alloc (by simp [World.setCell]; omega) (.cells #[.slice b1 S m1, .slice b2 S m2, .slice b3 S m3] 36)
  unfold put3 at HF
  refine bodyPost_ret (v := .agg #[.slice b1 S m1, .slice b2 S m2, .slice b3 S m3]) (by simp [results, Tryd.results60, go_sem, q0, q1, q2, hlt1]) rfl ⟨⟨_, rfl, RefV.mk ⟨HF.now.narrow HGH.out, HF.old.narrow HGH.out, HF.dirty.narrow HGH.out, HF.ok, HF.lo, HF.hi⟩⟩, hbf⟩

end

end Go.Proofs.YtackeigdehfmmaaDoor
