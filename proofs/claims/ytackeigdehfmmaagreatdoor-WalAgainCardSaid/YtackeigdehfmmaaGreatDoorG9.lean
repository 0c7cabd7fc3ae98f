import Derived.Test.YtackeigdehfmmaaGreatDoorG8
import Derived.Test.YtackeigdehfmmaaGreatDoorG5
namespace Go.Proofs.YtackeigdehfmmaaGreatDoor
open Go.RowKit

theorem RefV.kept {w w' : World} {G : Nat → Prop} {S : Nat} {v : Value} {d : Wl.Dk} (h : RefV w G S v d) (hk : Kept G w w') : RefV w' G S v d := by
  obtain ⟨a1, c1, a2, c2, a3, c3, e, hr⟩ := h
  exact ⟨a1, c1, a2, c2, a3, c3, e, hr.kept hk⟩
theorem BoxD.kept {w w' : World} {G H : Nat → Prop} {S n : Nat} {d : Wl.Dk} (h : BoxD w G S n d) (hk : Kept H w w') (hn : ¬ H n) (hG : ∀ b, H b → G b) : BoxD w' G S n d := by
  obtain ⟨b1, k1, b2, k2, b3, k3, hr, hd⟩ := h.ex
  exact ⟨b1, k1, b2, k2, b3, k3, hr.mono hk hn, hd.kept (hk.wider hG)⟩
theorem RefD.narrow' {w : World} {G H : Nat → Prop} {S : Nat} {a1 a2 a3 : Option Addr} {d : Wl.Dk} (h : RefD w H S a1 a2 a3 d) (hH : ∀ b, G b → H b) : RefD w G S a1 a2 a3 d :=
  ⟨h.now.narrow hH, h.old.narrow hH, h.dirty.narrow hH, h.ok, h.lo, h.hi⟩

/-- a disk of the reference, a number and an error -/
def ResN (G : Nat → Prop) (S : Nat) (d : Wl.Dk) (n c : Nat) (w' : World) (e : Ending) : Prop := ∃ v, e = .returned (.tuple #[v, .int .i64 n, .int .i64 c]) ∧ RefV w' G S v d

section
variable {w : World} {G : Nat → Prop} {S : Nat} {d : Wl.Dk}

theorem rRead_none {a1 a2 a3 : Option Addr} {c1 c2 c3 : Nat} (h : RefD w G S a1 a2 a3 d) (hE : Env w) (hl : Hid (Wl.log d.now = none)) :
    Calls Tryz.prog 40 #[.agg #[.slice a1 S c1, .slice a2 S c2, .slice a3 S c3]] w fun e w' => RdN e ∧ Below w.heap.size w w' := by
  by_cases h4 : S < 4
  · exact rRead_small h4
  · refine (rRead_any h hE (by omega)).mono fun e w' ⟨h1, h2⟩ => ⟨?_, h2⟩
    rcases h1 with ⟨_, h3⟩ | ⟨L, h3, _⟩
    · exact h3
    · rw [hl.out] at h3; cases h3

theorem rRead_some {a1 a2 a3 : Option Addr} {c1 c2 c3 : Nat} (L : Wl.Log) (h : RefD w G S a1 a2 a3 d) (hE : Env w) (hl : Hid (Wl.log d.now = some L)) :
    Calls Tryz.prog 40 #[.agg #[.slice a1 S c1, .slice a2 S c2, .slice a3 S c3]] w fun e w' => RdS w w' L e ∧ Below w.heap.size w w' := by
  have h4 : 4 ≤ S := by have := (Wl.log_le hl.out).2.2.2; rw [h.ok.now] at this; exact this
  refine (rRead_any h hE h4).mono fun e w' ⟨h1, h2⟩ => ⟨?_, h2⟩
  rcases h1 with ⟨h3, _⟩ | ⟨L', h3, h5⟩
  · rw [hl.out] at h3; cases h3
  · obtain rfl : L = L' := Option.some.inj (hl.out.symm.trans h3)
    exact h5

set_option maxRecDepth 100000 in
set_option maxHeartbeats 3200000 in
theorem rRoom_none {a1 a2 a3 : Option Addr} {c1 c2 c3 : Nat} (h : RefD w G S a1 a2 a3 d) (hE : Env w) (hl : Hid (Wl.log d.now = none)) :
    Calls Tryz.prog 14 #[.agg #[.slice a1 S c1, .slice a2 S c2, .slice a3 S c3]] w fun e w' => e = .returned (.tuple #[.int .i64 0, .int .i64 21]) ∧ Below w.heap.size w w' := by
  go_enter Tryz.func14, Tryz.ntmps14
  go_upto_region 1 with fail
  have hb := below_alloc w (.cells #[.slice a1 S c1, .slice a2 S c2, .slice a3 S c3] 28)
  have rA : Row (w.alloc (.cells #[.slice a1 S c1, .slice a2 S c2, .slice a3 S c3] 28)) w.heap.size 28 [.slice a1 S c1, .slice a2 S c2, .slice a3 S c3] := heap_alloc_new _ _
  generalize (w.alloc (.cells #[.slice a1 S c1, .slice a2 S c2, .slice a3 S c3] 28)) = wr at *
  have HR := Lib.hid (h.mono hb)
  have hE := hE.mono hb
  obtain ⟨k0, k1, k2, _, _, _⟩ := Row3 rA
  clear h
  have hRd := rRead_none (c1 := c1) (c2 := c2) (c3 := c3) HR.out hE hl
  go_wp2_with fail
  (with_reducible refine hRd.mono ?_)
  rintro e w1 ⟨rfl, hb1⟩
  clear hRd k0 k1 k2
  go_upto_region 2 with fail
  have hb2 := below_alloc w1 (.cells #[.int .i64 0, .int .i64 0, .slice none 0 0] 68)
  have rL : Row (w1.alloc (.cells #[.int .i64 0, .int .i64 0, .slice none 0 0] 68)) w1.heap.size 68 [.int .i64 0, .int .i64 0, .slice none 0 0] := heap_alloc_new _ _
  generalize (w1.alloc (.cells #[.int .i64 0, .int .i64 0, .slice none 0 0] 68)) = w2 at *
  have rA := (rA.below hb1).below hb2
  have hbb := Below.step (Below.step hb hb1 (Nat.le_refl _)) hb2 (Nat.le_refl _)
  obtain ⟨nL, hnL⟩ : ∃ nL, nL = w1.heap.size := ⟨_, rfl⟩
  rw [← hnL] at rL ⊢
  clear hb1 hb2 hb hnL
  obtain ⟨k0, k1, k2, _, _, _⟩ := Row3 rA
  obtain ⟨l0, l1, l2, _, _, _⟩ := Row3 rL
  go_wp2
  go_ret2
  exact ⟨rfl, hbb⟩

set_option maxRecDepth 100000 in
set_option maxHeartbeats 3200000 in
theorem rRoom_some {a1 a2 a3 : Option Addr} {c1 c2 c3 : Nat} (L : Wl.Log) (h : RefD w G S a1 a2 a3 d) (hE : Env w) (hl : Hid (Wl.log d.now = some L)) :
    Calls Tryz.prog 14 #[.agg #[.slice a1 S c1, .slice a2 S c2, .slice a3 S c3]] w fun e w' => e = .returned (.tuple #[.int .i64 ((S - 2 - L.recs.length : Nat) : Int), .int .i64 0]) ∧ Below w.heap.size w w' := by
  obtain ⟨_, h2, h3, h4⟩ := Wl.log_le hl.out
  have hnl := h.ok.now
  rw [hnl] at h3 h4
  have HNL := Lib.hid hnl
  have hS := h.hi
  have hh1 := (Wl.log_le hl.out).1
  unfold Wl.lim at h2 hh1
  obtain ⟨b, hb0⟩ : ∃ b, b = L.first := ⟨_, rfl⟩
  obtain ⟨n, hn0⟩ : ∃ n, n = L.recs.length := ⟨_, rfl⟩
  obtain ⟨hd, hh0⟩ : ∃ hd, hd = L.header := ⟨_, rfl⟩
  rw [← hb0] at h2
  rw [← hn0] at h3
  rw [← hh0] at hh1
  have HB := Lib.hid hb0
  have HN := Lib.hid hn0
  have HH := Lib.hid hh0
  clear hb0 hn0 hh0 hnl
  have hq : (S : Int) - 2 - (n : Int) = ((S - 2 - L.recs.length : Nat) : Int) := by have := HN.out; omega
  have HQ := Lib.hid hq
  clear hq
  go_enter Tryz.func14, Tryz.ntmps14
  go_upto_region 1 with fail
  have hb := below_alloc w (.cells #[.slice a1 S c1, .slice a2 S c2, .slice a3 S c3] 28)
  have rA : Row (w.alloc (.cells #[.slice a1 S c1, .slice a2 S c2, .slice a3 S c3] 28)) w.heap.size 28 [.slice a1 S c1, .slice a2 S c2, .slice a3 S c3] := heap_alloc_new _ _
  generalize (w.alloc (.cells #[.slice a1 S c1, .slice a2 S c2, .slice a3 S c3] 28)) = wr at *
  have HR := Lib.hid (h.mono hb)
  have hE := hE.mono hb
  obtain ⟨k0, k1, k2, _, _, _⟩ := Row3 rA
  clear h
  have hRd := rRead_some (c1 := c1) (c2 := c2) (c3 := c3) L HR.out hE hl
  go_wp2_with fail
  (with_reducible refine hRd.mono ?_)
  rintro e w1 ⟨⟨v, rfl, hown⟩, hb1⟩
  obtain ⟨ao, cap, rfl, hcap, -⟩ := hown.read
  simp only [List.length_map, ← HB.out, ← HN.out, ← HH.out] at hcap hown ⊢
  clear hRd k0 k1 k2
  go_upto_region 2 with fail
  have hb2 := below_alloc w1 (.cells #[.int .i64 hd, .int .i64 b, .slice ao n cap] 68)
  have rL : Row (w1.alloc (.cells #[.int .i64 hd, .int .i64 b, .slice ao n cap] 68)) w1.heap.size 68 [.int .i64 hd, .int .i64 b, .slice ao n cap] := heap_alloc_new _ _
  generalize (w1.alloc (.cells #[.int .i64 hd, .int .i64 b, .slice ao n cap] 68)) = w2 at *
  have rA := (rA.below hb1).below hb2
  have hbb := Below.step (Below.step hb hb1 (Nat.le_refl _)) hb2 (Nat.le_refl _)
  obtain ⟨nL, hnL⟩ : ∃ nL, nL = w1.heap.size := ⟨_, rfl⟩
  rw [← hnL] at rL ⊢
  clear hb1 hb2 hb hnL
  obtain ⟨k0, k1, k2, _, _, _⟩ := Row3 rA
  obtain ⟨l0, l1, l2, _, _, _⟩ := Row3 rL
  go_wp2
  go_ret2
  exact ⟨by rw [← HQ.out]; rfl, hbb⟩

set_option maxRecDepth 100000 in
set_option maxHeartbeats 3200000 in
theorem rAppend_none {a1 a2 a3 : Option Addr} {c1 c2 c3 : Nat} (r : Wl.Bs) (hG : ∀ b, G b → b < w.heap.size) (h : RefD w G S a1 a2 a3 d) (hE : Env w) (hl : Hid (Wl.log d.now = none)) :
    Calls Tryz.prog 33 #[.agg #[.slice a1 S c1, .slice a2 S c2, .slice a3 S c3], sv r] w fun e w' => ResN G S d 0 21 w' e ∧ Below w.heap.size w w' := by
  go_enter Tryz.func33, Tryz.ntmps33
  go_upto_region 1 with fail
  have hbx := (below_alloc w (.cells #[.slice a1 S c1, .slice a2 S c2, .slice a3 S c3] 28))
  have hby := below_alloc (w.alloc (.cells #[.slice a1 S c1, .slice a2 S c2, .slice a3 S c3] 28)) (.cells #[.slice none 0 0, .slice none 0 0, .slice none 0 0] 28)
  have hb := Below.step hbx hby (Nat.le_refl _)
  obtain ⟨hA, hB⟩ := heap2 w (.cells #[.slice a1 S c1, .slice a2 S c2, .slice a3 S c3] 28) (.cells #[.slice none 0 0, .slice none 0 0, .slice none 0 0] 28)
  clear hbx hby
  generalize ((w.alloc (.cells #[.slice a1 S c1, .slice a2 S c2, .slice a3 S c3] 28)).alloc (.cells #[.slice none 0 0, .slice none 0 0, .slice none 0 0] 28)) = wr at *
  have rA : Row wr w.heap.size 28 [.slice a1 S c1, .slice a2 S c2, .slice a3 S c3] := hA
  have rB : Row wr (w.heap.size + 1) 28 [.slice none 0 0, .slice none 0 0, .slice none 0 0] := hB
  obtain ⟨H, hH⟩ : ∃ H : Nat → Prop, ∀ b, H b ↔ (G b ∨ b = w.heap.size + 1) := ⟨_, fun _ => Iff.rfl⟩
  have hltB := rB.lt
  have hR : RefD wr H S a1 a2 a3 d := h.lift hb (fun b hlt hh => by rcases (hH b).1 hh with h' | h'; exact h'; omega)
  have HGH : Hid (∀ b, G b → H b) := Lib.hid (fun b hb' => (hH b).2 (.inl hb'))
  have HnB : Hid (∀ b, b = w.heap.size + 1 → H b) := Lib.hid (fun b hb' => (hH b).2 (.inr hb'))
  have HLT : Hid (∀ b, H b → b < wr.heap.size) := Lib.hid (fun b hb' => by rcases (hH b).1 hb' with h' | h'; have := hG b h'; omega; omega)
  have HR := Lib.hid hR
  have hE0 := hE
  have hE := hE.mono hb
  obtain ⟨k0, k1, k2, _, _, _⟩ := Row3 rA
  clear hA hB h hH hR hG
  have hRd := rRead_none (c1 := c1) (c2 := c2) (c3 := c3) HR.out hE hl
  go_wp2_with fail
  (with_reducible refine hRd.mono ?_)
  rintro e w1 ⟨rfl, hb1⟩
  clear hRd k0 k1 k2
  go_upto_region 2 with fail
  have hb2 := below_alloc w1 (.cells #[.int .i64 0, .int .i64 0, .slice none 0 0] 68)
  have rL : Row (w1.alloc (.cells #[.int .i64 0, .int .i64 0, .slice none 0 0] 68)) w1.heap.size 68 [.int .i64 0, .int .i64 0, .slice none 0 0] := heap_alloc_new _ _
  generalize (w1.alloc (.cells #[.int .i64 0, .int .i64 0, .slice none 0 0] 68)) = w2 at *
  have rA := (rA.below hb1).below hb2
  have rB := (rB.below hb1).below hb2
  have HR := Lib.hid ((HR.out.mono hb1).mono hb2)
  have hbb := Below.step (Below.step hb hb1 (Nat.le_refl _)) hb2 (Nat.le_refl _)
  have hs1 := hb1.size
  have hs2 := hb2.size
  obtain ⟨nL, hnL⟩ : ∃ nL, nL = w1.heap.size := ⟨_, rfl⟩
  rw [← hnL] at rL ⊢
  have xLA : nL ≠ w.heap.size := by omega
  have xLB : nL ≠ w.heap.size + 1 := by omega
  clear hb1 hb2 hb hnL
  obtain ⟨k0, k1, k2, _, _, _⟩ := Row3 rA
  obtain ⟨l0, l1, l2, _, _, _⟩ := Row3 rL
  obtain ⟨q0, q1, q2, f0, f1, f2⟩ := Row3 rB
  have HP := put3_kept w2 (w.heap.size + 1) (.slice a1 S c1) (.slice a2 S c2) (.slice a3 S c3)
  have HF := Lib.hid ((HR.out.kept (HP.wider HnB.out)))
  have hbf := hbb.trans (HP.below (by rintro b rfl; exact Nat.le_succ _) hbb.size)
  have hlB := rB.lt
  unfold put3 at HF hbf
  clear HP
  go_wp2
  refine bodyPost_ret (v := .tuple #[.agg #[.slice a1 S c1, .slice a2 S c2, .slice a3 S c3], .int .i64 0, .int .i64 21]) (by simp [results, Tryz.results33, go_sem, q0, q1, q2]) rfl ⟨⟨_, rfl, RefV.mk ⟨HF.out.now.narrow HGH.out, HF.out.old.narrow HGH.out, HF.out.dirty.narrow HGH.out, HF.out.ok, HF.out.lo, HF.out.hi⟩⟩, hbf⟩

set_option maxRecDepth 100000 in
set_option maxHeartbeats 3200000 in
theorem rAppend_fulla {a1 a2 a3 : Option Addr} {c1 c2 c3 : Nat} (r : Wl.Bs) (L : Wl.Log) (hG : ∀ b, G b → b < w.heap.size) (h : RefD w G S a1 a2 a3 d) (hE : Env w) (hl : Hid (Wl.log d.now = some L)) (hr : r.length ≤ 1000000000) (hc : 65000 < r.length) :
    Calls Tryz.prog 33 #[.agg #[.slice a1 S c1, .slice a2 S c2, .slice a3 S c3], sv r] w fun e w' => ResN G S d 0 3 w' e ∧ Below w.heap.size w w' := by
  obtain ⟨_, h2, h3, h4⟩ := Wl.log_le hl.out
  have hnl := h.ok.now
  rw [hnl] at h3 h4
  have HNL := Lib.hid hnl
  have hS := h.hi
  have hh1 := (Wl.log_le hl.out).1
  unfold Wl.lim at h2 hh1
  obtain ⟨b, hb0⟩ : ∃ b, b = L.first := ⟨_, rfl⟩
  obtain ⟨n, hn0⟩ : ∃ n, n = L.recs.length := ⟨_, rfl⟩
  obtain ⟨hd, hh0⟩ : ∃ hd, hd = L.header := ⟨_, rfl⟩
  rw [← hb0] at h2
  rw [← hn0] at h3
  rw [← hh0] at hh1
  have HB := Lib.hid hb0
  have HN := Lib.hid hn0
  have HH := Lib.hid hh0
  clear hb0 hn0 hh0 hnl
  have d0 : decide ((65000 : Int) < r.length) = true := by simp <;> omega
  clear hc
  go_enter Tryz.func33, Tryz.ntmps33
  go_upto_region 1 with fail
  have hbx := (below_alloc w (.cells #[.slice a1 S c1, .slice a2 S c2, .slice a3 S c3] 28))
  have hby := below_alloc (w.alloc (.cells #[.slice a1 S c1, .slice a2 S c2, .slice a3 S c3] 28)) (.cells #[.slice none 0 0, .slice none 0 0, .slice none 0 0] 28)
  have hb := Below.step hbx hby (Nat.le_refl _)
  obtain ⟨hA, hB⟩ := heap2 w (.cells #[.slice a1 S c1, .slice a2 S c2, .slice a3 S c3] 28) (.cells #[.slice none 0 0, .slice none 0 0, .slice none 0 0] 28)
  clear hbx hby
  generalize ((w.alloc (.cells #[.slice a1 S c1, .slice a2 S c2, .slice a3 S c3] 28)).alloc (.cells #[.slice none 0 0, .slice none 0 0, .slice none 0 0] 28)) = wr at *
  have rA : Row wr w.heap.size 28 [.slice a1 S c1, .slice a2 S c2, .slice a3 S c3] := hA
  have rB : Row wr (w.heap.size + 1) 28 [.slice none 0 0, .slice none 0 0, .slice none 0 0] := hB
  obtain ⟨H, hH⟩ : ∃ H : Nat → Prop, ∀ b, H b ↔ (G b ∨ b = w.heap.size + 1) := ⟨_, fun _ => Iff.rfl⟩
  have hltB := rB.lt
  have hR : RefD wr H S a1 a2 a3 d := h.lift hb (fun b hlt hh => by rcases (hH b).1 hh with h' | h'; exact h'; omega)
  have HGH : Hid (∀ b, G b → H b) := Lib.hid (fun b hb' => (hH b).2 (.inl hb'))
  have HnB : Hid (∀ b, b = w.heap.size + 1 → H b) := Lib.hid (fun b hb' => (hH b).2 (.inr hb'))
  have HLT : Hid (∀ b, H b → b < wr.heap.size) := Lib.hid (fun b hb' => by rcases (hH b).1 hb' with h' | h'; have := hG b h'; omega; omega)
  have HR := Lib.hid hR
  have hE0 := hE
  have hE := hE.mono hb
  obtain ⟨k0, k1, k2, _, _, _⟩ := Row3 rA
  clear hA hB h hH hR hG
  have hRd := rRead_some (c1 := c1) (c2 := c2) (c3 := c3) L HR.out hE hl
  go_wp2_with fail
  (with_reducible refine hRd.mono ?_)
  rintro e w1 ⟨⟨v, rfl, hown⟩, hb1⟩
  obtain ⟨ao, cap, rfl, hcap, -⟩ := hown.read
  simp only [List.length_map, ← HB.out, ← HN.out, ← HH.out] at hcap hown ⊢
  clear hRd k0 k1 k2
  go_upto_region 2 with fail
  have hb2 := below_alloc w1 (.cells #[.int .i64 hd, .int .i64 b, .slice ao n cap] 68)
  have rL : Row (w1.alloc (.cells #[.int .i64 hd, .int .i64 b, .slice ao n cap] 68)) w1.heap.size 68 [.int .i64 hd, .int .i64 b, .slice ao n cap] := heap_alloc_new _ _
  generalize (w1.alloc (.cells #[.int .i64 hd, .int .i64 b, .slice ao n cap] 68)) = w2 at *
  have rA := (rA.below hb1).below hb2
  have rB := (rB.below hb1).below hb2
  have HR := Lib.hid ((HR.out.mono hb1).mono hb2)
  have hbb := Below.step (Below.step hb hb1 (Nat.le_refl _)) hb2 (Nat.le_refl _)
  have hs1 := hb1.size
  have hs2 := hb2.size
  obtain ⟨nL, hnL⟩ : ∃ nL, nL = w1.heap.size := ⟨_, rfl⟩
  rw [← hnL] at rL ⊢
  have xLA : nL ≠ w.heap.size := by omega
  have xLB : nL ≠ w.heap.size + 1 := by omega
  clear hb1 hb2 hb hnL
  obtain ⟨k0, k1, k2, _, _, _⟩ := Row3 rA
  obtain ⟨l0, l1, l2, _, _, _⟩ := Row3 rL
  obtain ⟨q0, q1, q2, f0, f1, f2⟩ := Row3 rB
  have HP := put3_kept w2 (w.heap.size + 1) (.slice a1 S c1) (.slice a2 S c2) (.slice a3 S c3)
  have HF := Lib.hid ((HR.out.kept (HP.wider HnB.out)))
  have hbf := hbb.trans (HP.below (by rintro b rfl; exact Nat.le_succ _) hbb.size)
  have hlB := rB.lt
  unfold put3 at HF hbf
  clear HP
  go_wp2
  refine bodyPost_ret (v := .tuple #[.agg #[.slice a1 S c1, .slice a2 S c2, .slice a3 S c3], .int .i64 0, .int .i64 3]) (by simp [results, Tryz.results33, go_sem, q0, q1, q2]) rfl ⟨⟨_, rfl, RefV.mk ⟨HF.out.now.narrow HGH.out, HF.out.old.narrow HGH.out, HF.out.dirty.narrow HGH.out, HF.out.ok, HF.out.lo, HF.out.hi⟩⟩, hbf⟩

set_option maxRecDepth 100000 in
set_option maxHeartbeats 3200000 in
theorem rAppend_fullb {a1 a2 a3 : Option Addr} {c1 c2 c3 : Nat} (r : Wl.Bs) (L : Wl.Log) (hG : ∀ b, G b → b < w.heap.size) (h : RefD w G S a1 a2 a3 d) (hE : Env w) (hl : Hid (Wl.log d.now = some L)) (hr : r.length ≤ 1000000000) (hc : r.length ≤ 65000 ∧ S - 2 = L.recs.length) :
    Calls Tryz.prog 33 #[.agg #[.slice a1 S c1, .slice a2 S c2, .slice a3 S c3], sv r] w fun e w' => ResN G S d 0 3 w' e ∧ Below w.heap.size w w' := by
  obtain ⟨_, h2, h3, h4⟩ := Wl.log_le hl.out
  have hnl := h.ok.now
  rw [hnl] at h3 h4
  have HNL := Lib.hid hnl
  have hS := h.hi
  have hh1 := (Wl.log_le hl.out).1
  unfold Wl.lim at h2 hh1
  obtain ⟨b, hb0⟩ : ∃ b, b = L.first := ⟨_, rfl⟩
  obtain ⟨n, hn0⟩ : ∃ n, n = L.recs.length := ⟨_, rfl⟩
  obtain ⟨hd, hh0⟩ : ∃ hd, hd = L.header := ⟨_, rfl⟩
  rw [← hb0] at h2
  rw [← hn0] at h3
  rw [← hh0] at hh1
  have HB := Lib.hid hb0
  have HN := Lib.hid hn0
  have HH := Lib.hid hh0
  clear hb0 hn0 hh0 hnl
  rw [← HN.out] at hc
  have d0 : decide ((65000 : Int) < r.length) = false := by simp <;> omega
  have d1 : ((n : Int) == (S : Int) - 2) = true := by simp <;> omega
  clear hc
  go_enter Tryz.func33, Tryz.ntmps33
  go_upto_region 1 with fail
  have hbx := (below_alloc w (.cells #[.slice a1 S c1, .slice a2 S c2, .slice a3 S c3] 28))
  have hby := below_alloc (w.alloc (.cells #[.slice a1 S c1, .slice a2 S c2, .slice a3 S c3] 28)) (.cells #[.slice none 0 0, .slice none 0 0, .slice none 0 0] 28)
  have hb := Below.step hbx hby (Nat.le_refl _)
  obtain ⟨hA, hB⟩ := heap2 w (.cells #[.slice a1 S c1, .slice a2 S c2, .slice a3 S c3] 28) (.cells #[.slice none 0 0, .slice none 0 0, .slice none 0 0] 28)
  clear hbx hby
  generalize ((w.alloc (.cells #[.slice a1 S c1, .slice a2 S c2, .slice a3 S c3] 28)).alloc (.cells #[.slice none 0 0, .slice none 0 0, .slice none 0 0] 28)) = wr at *
  have rA : Row wr w.heap.size 28 [.slice a1 S c1, .slice a2 S c2, .slice a3 S c3] := hA
  have rB : Row wr (w.heap.size + 1) 28 [.slice none 0 0, .slice none 0 0, .slice none 0 0] := hB
  obtain ⟨H, hH⟩ : ∃ H : Nat → Prop, ∀ b, H b ↔ (G b ∨ b = w.heap.size + 1) := ⟨_, fun _ => Iff.rfl⟩
  have hltB := rB.lt
  have hR : RefD wr H S a1 a2 a3 d := h.lift hb (fun b hlt hh => by rcases (hH b).1 hh with h' | h'; exact h'; omega)
  have HGH : Hid (∀ b, G b → H b) := Lib.hid (fun b hb' => (hH b).2 (.inl hb'))
  have HnB : Hid (∀ b, b = w.heap.size + 1 → H b) := Lib.hid (fun b hb' => (hH b).2 (.inr hb'))
  have HLT : Hid (∀ b, H b → b < wr.heap.size) := Lib.hid (fun b hb' => by rcases (hH b).1 hb' with h' | h'; have := hG b h'; omega; omega)
  have HR := Lib.hid hR
  have hE0 := hE
  have hE := hE.mono hb
  obtain ⟨k0, k1, k2, _, _, _⟩ := Row3 rA
  clear hA hB h hH hR hG
  have hRd := rRead_some (c1 := c1) (c2 := c2) (c3 := c3) L HR.out hE hl
  go_wp2_with fail
  (with_reducible refine hRd.mono ?_)
  rintro e w1 ⟨⟨v, rfl, hown⟩, hb1⟩
  obtain ⟨ao, cap, rfl, hcap, -⟩ := hown.read
  simp only [List.length_map, ← HB.out, ← HN.out, ← HH.out] at hcap hown ⊢
  clear hRd k0 k1 k2
  go_upto_region 2 with fail
  have hb2 := below_alloc w1 (.cells #[.int .i64 hd, .int .i64 b, .slice ao n cap] 68)
  have rL : Row (w1.alloc (.cells #[.int .i64 hd, .int .i64 b, .slice ao n cap] 68)) w1.heap.size 68 [.int .i64 hd, .int .i64 b, .slice ao n cap] := heap_alloc_new _ _
  generalize (w1.alloc (.cells #[.int .i64 hd, .int .i64 b, .slice ao n cap] 68)) = w2 at *
  have rA := (rA.below hb1).below hb2
  have rB := (rB.below hb1).below hb2
  have HR := Lib.hid ((HR.out.mono hb1).mono hb2)
  have hbb := Below.step (Below.step hb hb1 (Nat.le_refl _)) hb2 (Nat.le_refl _)
  have hs1 := hb1.size
  have hs2 := hb2.size
  obtain ⟨nL, hnL⟩ : ∃ nL, nL = w1.heap.size := ⟨_, rfl⟩
  rw [← hnL] at rL ⊢
  have xLA : nL ≠ w.heap.size := by omega
  have xLB : nL ≠ w.heap.size + 1 := by omega
  clear hb1 hb2 hb hnL
  obtain ⟨k0, k1, k2, _, _, _⟩ := Row3 rA
  obtain ⟨l0, l1, l2, _, _, _⟩ := Row3 rL
  obtain ⟨q0, q1, q2, f0, f1, f2⟩ := Row3 rB
  have HP := put3_kept w2 (w.heap.size + 1) (.slice a1 S c1) (.slice a2 S c2) (.slice a3 S c3)
  have HF := Lib.hid ((HR.out.kept (HP.wider HnB.out)))
  have hbf := hbb.trans (HP.below (by rintro b rfl; exact Nat.le_succ _) hbb.size)
  have hlB := rB.lt
  unfold put3 at HF hbf
  clear HP
  go_wp2
  refine bodyPost_ret (v := .tuple #[.agg #[.slice a1 S c1, .slice a2 S c2, .slice a3 S c3], .int .i64 0, .int .i64 3]) (by simp [results, Tryz.results33, go_sem, q0, q1, q2]) rfl ⟨⟨_, rfl, RefV.mk ⟨HF.out.now.narrow HGH.out, HF.out.old.narrow HGH.out, HF.out.dirty.narrow HGH.out, HF.out.ok, HF.out.lo, HF.out.hi⟩⟩, hbf⟩

set_option maxRecDepth 100000 in
set_option maxHeartbeats 3200000 in
theorem rAppend_fullc {a1 a2 a3 : Option Addr} {c1 c2 c3 : Nat} (r : Wl.Bs) (L : Wl.Log) (hG : ∀ b, G b → b < w.heap.size) (h : RefD w G S a1 a2 a3 d) (hE : Env w) (hl : Hid (Wl.log d.now = some L)) (hr : r.length ≤ 1000000000) (hc : r.length ≤ 65000 ∧ S - 2 ≠ L.recs.length ∧ Wl.lim < L.first + L.recs.length) :
    Calls Tryz.prog 33 #[.agg #[.slice a1 S c1, .slice a2 S c2, .slice a3 S c3], sv r] w fun e w' => ResN G S d 0 3 w' e ∧ Below w.heap.size w w' := by
  obtain ⟨_, h2, h3, h4⟩ := Wl.log_le hl.out
  have hnl := h.ok.now
  rw [hnl] at h3 h4
  have HNL := Lib.hid hnl
  have hS := h.hi
  have hh1 := (Wl.log_le hl.out).1
  unfold Wl.lim at h2 hh1
  obtain ⟨b, hb0⟩ : ∃ b, b = L.first := ⟨_, rfl⟩
  obtain ⟨n, hn0⟩ : ∃ n, n = L.recs.length := ⟨_, rfl⟩
  obtain ⟨hd, hh0⟩ : ∃ hd, hd = L.header := ⟨_, rfl⟩
  rw [← hb0] at h2
  rw [← hn0] at h3
  rw [← hh0] at hh1
  have HB := Lib.hid hb0
  have HN := Lib.hid hn0
  have HH := Lib.hid hh0
  clear hb0 hn0 hh0 hnl
  unfold Wl.lim at hc
  rw [← HN.out, ← HB.out] at hc
  have d0 : decide ((65000 : Int) < r.length) = false := by simp <;> omega
  have d1 : ((n : Int) == (S : Int) - 2) = false := by simp <;> omega
  have d2 : decide ((1099511627776 : Int) < (b : Int) + (n : Int)) = true := by simp <;> omega
  clear hc
  go_enter Tryz.func33, Tryz.ntmps33
  go_upto_region 1 with fail
  have hbx := (below_alloc w (.cells #[.slice a1 S c1, .slice a2 S c2, .slice a3 S c3] 28))
  have hby := below_alloc (w.alloc (.cells #[.slice a1 S c1, .slice a2 S c2, .slice a3 S c3] 28)) (.cells #[.slice none 0 0, .slice none 0 0, .slice none 0 0] 28)
  have hb := Below.step hbx hby (Nat.le_refl _)
  obtain ⟨hA, hB⟩ := heap2 w (.cells #[.slice a1 S c1, .slice a2 S c2, .slice a3 S c3] 28) (.cells #[.slice none 0 0, .slice none 0 0, .slice none 0 0] 28)
  clear hbx hby
  generalize ((w.alloc (.cells #[.slice a1 S c1, .slice a2 S c2, .slice a3 S c3] 28)).alloc (.cells #[.slice none 0 0, .slice none 0 0, .slice none 0 0] 28)) = wr at *
  have rA : Row wr w.heap.size 28 [.slice a1 S c1, .slice a2 S c2, .slice a3 S c3] := hA
  have rB : Row wr (w.heap.size + 1) 28 [.slice none 0 0, .slice none 0 0, .slice none 0 0] := hB
  obtain ⟨H, hH⟩ : ∃ H : Nat → Prop, ∀ b, H b ↔ (G b ∨ b = w.heap.size + 1) := ⟨_, fun _ => Iff.rfl⟩
  have hltB := rB.lt
  have hR : RefD wr H S a1 a2 a3 d := h.lift hb (fun b hlt hh => by rcases (hH b).1 hh with h' | h'; exact h'; omega)
  have HGH : Hid (∀ b, G b → H b) := Lib.hid (fun b hb' => (hH b).2 (.inl hb'))
  have HnB : Hid (∀ b, b = w.heap.size + 1 → H b) := Lib.hid (fun b hb' => (hH b).2 (.inr hb'))
  have HLT : Hid (∀ b, H b → b < wr.heap.size) := Lib.hid (fun b hb' => by rcases (hH b).1 hb' with h' | h'; have := hG b h'; omega; omega)
  have HR := Lib.hid hR
  have hE0 := hE
  have hE := hE.mono hb
  obtain ⟨k0, k1, k2, _, _, _⟩ := Row3 rA
  clear hA hB h hH hR hG
  have hRd := rRead_some (c1 := c1) (c2 := c2) (c3 := c3) L HR.out hE hl
  go_wp2_with fail
  (with_reducible refine hRd.mono ?_)
  rintro e w1 ⟨⟨v, rfl, hown⟩, hb1⟩
  obtain ⟨ao, cap, rfl, hcap, -⟩ := hown.read
  simp only [List.length_map, ← HB.out, ← HN.out, ← HH.out] at hcap hown ⊢
  clear hRd k0 k1 k2
  go_upto_region 2 with fail
  have hb2 := below_alloc w1 (.cells #[.int .i64 hd, .int .i64 b, .slice ao n cap] 68)
  have rL : Row (w1.alloc (.cells #[.int .i64 hd, .int .i64 b, .slice ao n cap] 68)) w1.heap.size 68 [.int .i64 hd, .int .i64 b, .slice ao n cap] := heap_alloc_new _ _
  generalize (w1.alloc (.cells #[.int .i64 hd, .int .i64 b, .slice ao n cap] 68)) = w2 at *
  have rA := (rA.below hb1).below hb2
  have rB := (rB.below hb1).below hb2
  have HR := Lib.hid ((HR.out.mono hb1).mono hb2)
  have hbb := Below.step (Below.step hb hb1 (Nat.le_refl _)) hb2 (Nat.le_refl _)
  have hs1 := hb1.size
  have hs2 := hb2.size
  obtain ⟨nL, hnL⟩ : ∃ nL, nL = w1.heap.size := ⟨_, rfl⟩
  rw [← hnL] at rL ⊢
  have xLA : nL ≠ w.heap.size := by omega
  have xLB : nL ≠ w.heap.size + 1 := by omega
  clear hb1 hb2 hb hnL
  obtain ⟨k0, k1, k2, _, _, _⟩ := Row3 rA
  obtain ⟨l0, l1, l2, _, _, _⟩ := Row3 rL
  obtain ⟨q0, q1, q2, f0, f1, f2⟩ := Row3 rB
  have HP := put3_kept w2 (w.heap.size + 1) (.slice a1 S c1) (.slice a2 S c2) (.slice a3 S c3)
  have HF := Lib.hid ((HR.out.kept (HP.wider HnB.out)))
  have hbf := hbb.trans (HP.below (by rintro b rfl; exact Nat.le_succ _) hbb.size)
  have hlB := rB.lt
  unfold put3 at HF hbf
  clear HP
  go_wp2
  refine bodyPost_ret (v := .tuple #[.agg #[.slice a1 S c1, .slice a2 S c2, .slice a3 S c3], .int .i64 0, .int .i64 3]) (by simp [results, Tryz.results33, go_sem, q0, q1, q2]) rfl ⟨⟨_, rfl, RefV.mk ⟨HF.out.now.narrow HGH.out, HF.out.old.narrow HGH.out, HF.out.dirty.narrow HGH.out, HF.out.ok, HF.out.lo, HF.out.hi⟩⟩, hbf⟩

set_option maxRecDepth 100000 in
set_option maxHeartbeats 3200000 in
theorem rAppend_ok {a1 a2 a3 : Option Addr} {c1 c2 c3 : Nat} (r : Wl.Bs) (L : Wl.Log) (hG : ∀ b, G b → b < w.heap.size) (h : RefD w G S a1 a2 a3 d) (hE : Env w) (hl : Hid (Wl.log d.now = some L)) (hr : r.length ≤ 65000) (hc1 : L.recs.length < S - 2) (hc2 : L.first + L.recs.length ≤ Wl.lim) :
    Calls Tryz.prog 33 #[.agg #[.slice a1 S c1, .slice a2 S c2, .slice a3 S c3], sv r] w fun e w' => ResN G S (d.wrt (Wl.place (S - 2) (L.first + L.recs.length)) (Wl.enc ((L.first + L.recs.length : Nat) : Int) r)) (L.first + L.recs.length) 0 w' e ∧ Below w.heap.size w w' := by
  obtain ⟨_, h2, h3, h4⟩ := Wl.log_le hl.out
  have hnl := h.ok.now
  rw [hnl] at h3 h4
  have HNL := Lib.hid hnl
  have hS := h.hi
  have hh1 := (Wl.log_le hl.out).1
  unfold Wl.lim at h2 hh1
  obtain ⟨b, hb0⟩ : ∃ b, b = L.first := ⟨_, rfl⟩
  obtain ⟨n, hn0⟩ : ∃ n, n = L.recs.length := ⟨_, rfl⟩
  obtain ⟨hd, hh0⟩ : ∃ hd, hd = L.header := ⟨_, rfl⟩
  rw [← hb0] at h2
  rw [← hn0] at h3
  rw [← hh0] at hh1
  have HB := Lib.hid hb0
  have HN := Lib.hid hn0
  have HH := Lib.hid hh0
  clear hb0 hn0 hh0 hnl
  unfold Wl.lim at hc2
  rw [← HN.out] at hc1 hc2 ⊢
  rw [← HB.out] at hc2 ⊢
  have d0 : decide ((65000 : Int) < r.length) = false := by simp <;> omega
  have d1 : ((n : Int) == (S : Int) - 2) = false := by simp <;> omega
  have d2 : decide ((1099511627776 : Int) < (b : Int) + (n : Int)) = false := by simp <;> omega
  have hpl := Wl.place_lt (m := S - 2) (k := b + n) (by omega)
  have hP := fun (W : World) => rplace_any (w := W) (b + n) (a1 := a1) (a2 := a2) (a3 := a3) (c1 := c1) (c2 := c2) (c3 := c3) h4 hS (by omega)
  have hEn := fun (W : World) (hE : Env W) => rEncode_any ((b + n : Nat) : Int) r W (by omega) hE
  have hel := Wl.enc_len ((b + n : Nat) : Int) r
  rw [show ((b + n : Nat) : Int) = (b : Int) + (n : Int) by omega] at hP hEn hel ⊢
  generalize hq : Wl.place (S - 2) (b + n) = q at *
  generalize hEE : Wl.enc ((b : Int) + (n : Int)) r = E at *
  have hqS : q < S := by omega
  clear hq hEE
  go_enter Tryz.func33, Tryz.ntmps33
  go_upto_region 1 with fail
  have hbx := (below_alloc w (.cells #[.slice a1 S c1, .slice a2 S c2, .slice a3 S c3] 28))
  have hby := below_alloc (w.alloc (.cells #[.slice a1 S c1, .slice a2 S c2, .slice a3 S c3] 28)) (.cells #[.slice none 0 0, .slice none 0 0, .slice none 0 0] 28)
  have hb := Below.step hbx hby (Nat.le_refl _)
  obtain ⟨hA, hB⟩ := heap2 w (.cells #[.slice a1 S c1, .slice a2 S c2, .slice a3 S c3] 28) (.cells #[.slice none 0 0, .slice none 0 0, .slice none 0 0] 28)
  clear hbx hby
  generalize ((w.alloc (.cells #[.slice a1 S c1, .slice a2 S c2, .slice a3 S c3] 28)).alloc (.cells #[.slice none 0 0, .slice none 0 0, .slice none 0 0] 28)) = wr at *
  have rA : Row wr w.heap.size 28 [.slice a1 S c1, .slice a2 S c2, .slice a3 S c3] := hA
  have rB : Row wr (w.heap.size + 1) 28 [.slice none 0 0, .slice none 0 0, .slice none 0 0] := hB
  obtain ⟨H, hH⟩ : ∃ H : Nat → Prop, ∀ b, H b ↔ (G b ∨ b = w.heap.size + 1) := ⟨_, fun _ => Iff.rfl⟩
  have hltB := rB.lt
  have hR : RefD wr H S a1 a2 a3 d := h.lift hb (fun b hlt hh => by rcases (hH b).1 hh with h' | h'; exact h'; omega)
  have HGH : Hid (∀ b, G b → H b) := Lib.hid (fun b hb' => (hH b).2 (.inl hb'))
  have HnB : Hid (∀ b, b = w.heap.size + 1 → H b) := Lib.hid (fun b hb' => (hH b).2 (.inr hb'))
  have HLT : Hid (∀ b, H b → b < wr.heap.size) := Lib.hid (fun b hb' => by rcases (hH b).1 hb' with h' | h'; have := hG b h'; omega; omega)
  have HR := Lib.hid hR
  have hE0 := hE
  have hE := hE.mono hb
  obtain ⟨k0, k1, k2, _, _, _⟩ := Row3 rA
  clear hA hB h hH hR hG
  have hRd := rRead_some (c1 := c1) (c2 := c2) (c3 := c3) L HR.out hE hl
  go_wp2_with fail
  (with_reducible refine hRd.mono ?_)
  rintro e w1 ⟨⟨v, rfl, hown⟩, hb1⟩
  obtain ⟨ao, cap, rfl, hcap, -⟩ := hown.read
  simp only [List.length_map, ← HB.out, ← HN.out, ← HH.out] at hcap hown ⊢
  clear hRd k0 k1 k2
  go_upto_region 2 with fail
  have hb2 := below_alloc w1 (.cells #[.int .i64 hd, .int .i64 b, .slice ao n cap] 68)
  have rL : Row (w1.alloc (.cells #[.int .i64 hd, .int .i64 b, .slice ao n cap] 68)) w1.heap.size 68 [.int .i64 hd, .int .i64 b, .slice ao n cap] := heap_alloc_new _ _
  generalize (w1.alloc (.cells #[.int .i64 hd, .int .i64 b, .slice ao n cap] 68)) = w2 at *
  have rA := (rA.below hb1).below hb2
  have rB := (rB.below hb1).below hb2
  have HR := Lib.hid ((HR.out.mono hb1).mono hb2)
  have hbb := Below.step (Below.step hb hb1 (Nat.le_refl _)) hb2 (Nat.le_refl _)
  have hs1 := hb1.size
  have hs2 := hb2.size
  obtain ⟨nL, hnL⟩ : ∃ nL, nL = w1.heap.size := ⟨_, rfl⟩
  rw [← hnL] at rL ⊢
  have xLA : nL ≠ w.heap.size := by omega
  have xLB : nL ≠ w.heap.size + 1 := by omega
  clear hb1 hb2 hb hnL
  obtain ⟨k0, k1, k2, _, _, _⟩ := Row3 rA
  obtain ⟨l0, l1, l2, _, _, _⟩ := Row3 rL
  have HW : Hid (∀ W, Kept (Any (es1 9 (w.heap.size + 1))) w2 W → Below w.heap.size w W ∧ w2.heap.size ≤ W.heap.size) := Lib.hid fun W hk => ⟨hbb.trans (hk.below (fun b hb => by rw [any1 hb]; exact Nat.le_succ _) hbb.size), hk.size⟩
  have HLT : Hid (∀ b, H b → b < w2.heap.size) := Lib.hid fun b hb => by have := HLT.out b hb; omega
  have HO : Hid (∀ k b, Oth (es1 9 (w.heap.size + 1)) k b → H b) := Lib.hid fun k b hb => HnB.out b (any1 hb.any)
  go_upto_region 7 with fail
  clear k0 k1 k2 l0 l1 l2
  have hP0 := hP
  refine wp_region_puts (wx := w2) [(fun _ v => v = .agg #[.slice a1 S c1, .slice a2 S c2, .slice a3 S c3]), (fun _ v => v = .agg #[.slice a1 S c1, .slice a2 S c2, .slice a3 S c3]), (fun _ v => v = .int .i64 ((b : Int) + (n : Int))), (fun _ v => v = .int .i64 q), (fun _ v => v = .int .i64 ((b : Int) + (n : Int))), (fun _ v => v = sv r), (fun _ v => v = sv E), (fun W v => RefV W H S v (d.wrt q E)), (fun _ v => v = .int .i64 ((b : Int) + (n : Int))), (fun W _ => BoxD W H S (w.heap.size + 1) (d.wrt q E)), (fun _ v => v = .int .i64 ((b : Int) + (n : Int))), (fun _ v => v = .int .i64 0)] [(fun W => Row W w.heap.size 28 [.slice a1 S c1, .slice a2 S c2, .slice a3 S c3]), (fun W => Row W w.heap.size 28 [.slice a1 S c1, .slice a2 S c2, .slice a3 S c3]), (fun _ => True), (fun _ => True), (fun _ => True), (fun _ => True), (fun _ => True), (fun W => RefD W H S a1 a2 a3 d), (fun _ => True), (fun W => ∃ u0 u1 u2, Row W (w.heap.size + 1) 28 [u0, u1, u2]), (fun _ => True), (fun _ => True)] [some 43, some 44, some 45, some 46, some 47, some 48, some 49, some 50, some 51, none, some 5, some 6] (es1 9 (w.heap.size + 1)) [43, 44, 45, 46, 47, 48, 49, 50, 51, 5, 6] (by kernel_rfl) (by kernel_rfl) (by kernel_rfl) (by kernel_rfl) (of_decide_eq_true (by kernel_rfl)) ((Kept.refl _)) ⟨stayP_val _ _, stayP_val _ _, stayP_val _ _, stayP_val _ _, stayP_val _ _, stayP_val _ _, stayP_val _ _, (fun W W' v h hk => h.kept (hk.wider (fun b hb => HO.out _ b hb))), stayP_val _ _, (fun W W' _ h hk => h.kept hk (fun ho => oth1 ho) (fun b hb => (oth1 hb).elim)), stayP_val _ _, stayP_val _ _, trivial⟩ ⟨(fun W W' _ h hk => h.mono hk (fun ho => by have := any1 ho.any; omega)), (fun W W' _ h hk => h.mono hk (fun ho => by have := any1 ho.any; omega)), (fun _ _ _ h _ => h), (fun _ _ _ h _ => h), (fun _ _ _ h _ => h), (fun _ _ _ h _ => h), (fun _ _ _ h _ => h), (fun W W' _ h hk => h.kept (hk.wider (fun b hb => HO.out _ b hb))), (fun _ _ _ h _ => h), (fun W W' _ h hk => by obtain ⟨u0, u1, u2, h⟩ := h; exact ⟨u0, u1, u2, h.mono hk (fun ho => oth1 ho)⟩), (fun _ _ _ h _ => h), (fun _ _ _ h _ => h), trivial⟩ ?hP0 ⟨?s0, ?s1, ?s2, ?s3, ?s4, ?s5, ?s6, ?s7, ?s8, ?s9, ?s10, ?s11, trivial⟩ ?he
  case hP0 =>
    intro k
    match k with
    | 0 => exact rA.drew
    | 1 => exact rA.drew
    | 2 => exact trivial
    | 3 => exact trivial
    | 4 => exact trivial
    | 5 => exact trivial
    | 6 => exact trivial
    | 7 => exact HR.out.kept (Kept.refl _).drew
    | 8 => exact trivial
    | 9 => exact ⟨_, _, _, rB.drew⟩
    | 10 => exact trivial
    | 11 => exact trivial
    | k + 12 => exact trivial
  case s0 =>
    rintro T W hk hP hA K hK
    have hP : Row W w.heap.size 28 [.slice a1 S c1, .slice a2 S c2, .slice a3 S c3] := hP
    obtain ⟨x0, x1, x2, _, _, _⟩ := Row3 hP
    simp only [ovr, Act.put, List.setIfInBounds_toArray, List.set_cons_zero, List.set_cons_succ] at hK ⊢
    have HK := Lib.hid hK
    clear hK hA
    refine wpOp_want rfl (by rfl) ?_
    go_simp
    exact HK.out _ _ (Kept.refl _) (rfl)
  case s1 =>
    rintro T W hk hP hA K hK
    have hP : Row W w.heap.size 28 [.slice a1 S c1, .slice a2 S c2, .slice a3 S c3] := hP
    obtain ⟨x0, x1, x2, _, _, _⟩ := Row3 hP
    simp only [ovr, Act.put, List.setIfInBounds_toArray, List.set_cons_zero, List.set_cons_succ] at hK ⊢
    have HK := Lib.hid hK
    clear hK hA
    refine wpOp_want rfl (by rfl) ?_
    go_simp
    exact HK.out _ _ (Kept.refl _) (rfl)
  case s2 =>
    rintro T W hk hP hA K hK
    simp only [ovr, Act.put, List.setIfInBounds_toArray, List.set_cons_zero, List.set_cons_succ] at hK ⊢
    have HK := Lib.hid hK
    clear hK hA
    refine wpOp_want rfl (by rfl) ?_
    go_simp
    exact HK.out _ _ (Kept.refl _) (rfl)
  case s3 =>
    rintro T W hk hP hA K hK
    have e1 : T 44 = .agg #[.slice a1 S c1, .slice a2 S c2, .slice a3 S c3] := hA.1
    have e2 : T 45 = .int .i64 ((b : Int) + (n : Int)) := hA.2.1
    simp only [ovr, Act.put, List.setIfInBounds_toArray, List.set_cons_zero, List.set_cons_succ, e1, e2] at hK ⊢
    have HK := Lib.hid hK
    clear hK hA
    refine wpOp_want rfl (by rfl) ?_
    go_simp
    (with_reducible refine (hP0 W).mono ?_)
    rintro e w1 ⟨rfl, hb1⟩
    dsimp only
    exact HK.out _ _ (Kept.of_below hb1) (rfl)
  case s4 =>
    rintro T W hk hP hA K hK
    simp only [ovr, Act.put, List.setIfInBounds_toArray, List.set_cons_zero, List.set_cons_succ] at hK ⊢
    have HK := Lib.hid hK
    clear hK hA
    refine wpOp_want rfl (by rfl) ?_
    go_simp
    exact HK.out _ _ (Kept.refl _) (rfl)
  case s5 =>
    rintro T W hk hP hA K hK
    simp only [ovr, Act.put, List.setIfInBounds_toArray, List.set_cons_zero, List.set_cons_succ] at hK ⊢
    have HK := Lib.hid hK
    clear hK hA
    refine wpOp_want rfl (by rfl) ?_
    go_simp
    exact HK.out _ _ (Kept.refl _) (rfl)
  case s6 =>
    rintro T W hk hP hA K hK
    have e4 : T 47 = .int .i64 ((b : Int) + (n : Int)) := hA.1
    have e5 : T 48 = sv r := hA.2.1
    have e3 : T 46 = .int .i64 q := hA.2.2.1
    simp only [ovr, Act.put, List.setIfInBounds_toArray, List.set_cons_zero, List.set_cons_succ, e4, e5, e3] at hK ⊢
    have HK := Lib.hid hK
    clear hK hA
    refine wpOp_want rfl (by rfl) ?_
    go_simp
    (with_reducible refine (hEn W (hE0.mono (HW.out W hk).1)).mono ?_)
    rintro e w1 ⟨rfl, hb1⟩
    dsimp only
    exact HK.out _ _ (Kept.of_below hb1) (rfl)
  case s7 =>
    rintro T W hk hP hA K hK
    have e0 : T 43 = .agg #[.slice a1 S c1, .slice a2 S c2, .slice a3 S c3] := hA.1
    have e3 : T 46 = .int .i64 q := hA.2.1
    have e6 : T 49 = sv E := hA.2.2.1
    have hP : RefD W H S a1 a2 a3 d := hP
    simp only [ovr, Act.put, List.setIfInBounds_toArray, List.set_cons_zero, List.set_cons_succ, e0, e3, e6] at hK ⊢
    have HK := Lib.hid hK
    clear hK hA
    refine wpOp_want rfl (by rfl) ?_
    go_simp
    (with_reducible refine (rput_yes (w := W) (G := H) (c1 := c1) (c2 := c2) (c3 := c3) q E (fun b hb => Nat.lt_of_lt_of_le (HLT.out b hb) (HW.out W hk).2) hP hqS (by omega)).mono ?_)
    rintro e w1 ⟨⟨v, rfl, hv⟩, hb1⟩
    dsimp only
    exact HK.out _ _ (Kept.of_below hb1) (hv)
  case s8 =>
    rintro T W hk hP hA K hK
    simp only [ovr, Act.put, List.setIfInBounds_toArray, List.set_cons_zero, List.set_cons_succ] at hK ⊢
    have HK := Lib.hid hK
    clear hK hA
    refine wpOp_want rfl (by rfl) ?_
    go_simp
    exact HK.out _ _ (Kept.refl _) (rfl)
  case s9 =>
    rintro T W hk hP hA K hK
    have r7 : (fun W v => RefV W H S v (d.wrt q E)) W (T 50) := hA.1
    have e0 : T 43 = .agg #[.slice a1 S c1, .slice a2 S c2, .slice a3 S c3] := hA.2.2.1
    have e1 : T 44 = .agg #[.slice a1 S c1, .slice a2 S c2, .slice a3 S c3] := hA.2.2.2.1
    have e2 : T 45 = .int .i64 ((b : Int) + (n : Int)) := hA.2.2.2.2.1
    have e3 : T 46 = .int .i64 q := hA.2.2.2.2.2.1
    have e4 : T 47 = .int .i64 ((b : Int) + (n : Int)) := hA.2.2.2.2.2.2.1
    have e5 : T 48 = sv r := hA.2.2.2.2.2.2.2.1
    have e6 : T 49 = sv E := hA.2.2.2.2.2.2.2.2.1
    have hP : ∃ u0 u1 u2, Row W (w.heap.size + 1) 28 [u0, u1, u2] := hP
    obtain ⟨x1, y1, x2, y2, x3, y3, ev, hr⟩ := r7
    obtain ⟨u0, u1, u2, hu⟩ := hP
    obtain ⟨q0, q1, q2, f0, f1, f2⟩ := Row3 hu
    simp only [ovr, Act.put, List.setIfInBounds_toArray, List.set_cons_zero, List.set_cons_succ, e0, e1, e2, e3, e4, e5, e6, ev] at hK ⊢
    have HK := Lib.hid hK
    clear hK hA
    refine wpOp_want rfl (by rfl) ?_
    go_simp
    exact HK.out undef _ ((put3_kept W (w.heap.size + 1) (.slice x1 S y1) (.slice x2 S y2) (.slice x3 S y3)).wider (fun b hb => by subst hb; rfl)) (⟨_, _, _, _, _, _, hu.put3 (.slice x1 S y1) (.slice x2 S y2) (.slice x3 S y3), hr.kept ((put3_kept W (w.heap.size + 1) (.slice x1 S y1) (.slice x2 S y2) (.slice x3 S y3)).wider HnB.out)⟩)
  case s10 =>
    rintro T W hk hP hA K hK
    have e8 : T 51 = .int .i64 ((b : Int) + (n : Int)) := hA.1
    have e0 : T 43 = .agg #[.slice a1 S c1, .slice a2 S c2, .slice a3 S c3] := hA.2.2.1
    have e1 : T 44 = .agg #[.slice a1 S c1, .slice a2 S c2, .slice a3 S c3] := hA.2.2.2.1
    have e2 : T 45 = .int .i64 ((b : Int) + (n : Int)) := hA.2.2.2.2.1
    have e3 : T 46 = .int .i64 q := hA.2.2.2.2.2.1
    have e4 : T 47 = .int .i64 ((b : Int) + (n : Int)) := hA.2.2.2.2.2.2.1
    have e5 : T 48 = sv r := hA.2.2.2.2.2.2.2.1
    have e6 : T 49 = sv E := hA.2.2.2.2.2.2.2.2.1
    have r7 : (fun W v => RefV W H S v (d.wrt q E)) W (T 50) := hA.2.2.2.2.2.2.2.2.2.1
    simp only [ovr, Act.put, List.setIfInBounds_toArray, List.set_cons_zero, List.set_cons_succ, e8, e0, e1, e2, e3, e4, e5, e6] at hK ⊢
    have HK := Lib.hid hK
    clear hK hA
    refine wpOp_want rfl (by rfl) ?_
    go_simp
    exact HK.out _ _ (Kept.refl _) (rfl)
  case s11 =>
    rintro T W hk hP hA K hK
    have e10 : T 5 = .int .i64 ((b : Int) + (n : Int)) := hA.1
    have e0 : T 43 = .agg #[.slice a1 S c1, .slice a2 S c2, .slice a3 S c3] := hA.2.1
    have e1 : T 44 = .agg #[.slice a1 S c1, .slice a2 S c2, .slice a3 S c3] := hA.2.2.1
    have e2 : T 45 = .int .i64 ((b : Int) + (n : Int)) := hA.2.2.2.1
    have e3 : T 46 = .int .i64 q := hA.2.2.2.2.1
    have e4 : T 47 = .int .i64 ((b : Int) + (n : Int)) := hA.2.2.2.2.2.1
    have e5 : T 48 = sv r := hA.2.2.2.2.2.2.1
    have e6 : T 49 = sv E := hA.2.2.2.2.2.2.2.1
    have r7 : (fun W v => RefV W H S v (d.wrt q E)) W (T 50) := hA.2.2.2.2.2.2.2.2.1
    have e8 : T 51 = .int .i64 ((b : Int) + (n : Int)) := hA.2.2.2.2.2.2.2.2.2.1
    simp only [ovr, Act.put, List.setIfInBounds_toArray, List.set_cons_zero, List.set_cons_succ, e10, e0, e1, e2, e3, e4, e5, e6, e8] at hK ⊢
    have HK := Lib.hid hK
    clear hK hA
    refine wpOp_want rfl (by rfl) ?_
    go_simp
    exact HK.out _ _ (Kept.refl _) (rfl)
  case he =>
    rintro T W hk hA
    have g5 : T 5 = .int .i64 ((b : Int) + (n : Int)) := hA.at 10 (by decide)
    have g6 : T 6 = .int .i64 0 := hA.at 11 (by decide)
    have r9 : BoxD W H S (w.heap.size + 1) (d.wrt q E) := hA.at 9 (by decide)
    simp only [ovr, List.setIfInBounds_toArray, List.set_cons_zero, List.set_cons_succ, g5, g6]
    obtain ⟨b1, e1, b2, e2, b3, e3, hrow, href⟩ := r9.ex
    obtain ⟨q0, q1, q2, _, _, _⟩ := Row3 hrow
    have hbW := (HW.out W hk).1
    clear hA
    go_wp2
    refine bodyPost_ret (v := .tuple #[.agg #[.slice b1 S e1, .slice b2 S e2, .slice b3 S e3], .int .i64 ((b : Int) + (n : Int)), .int .i64 0]) (by simp [results, Tryz.results33, go_sem, q0, q1, q2]) rfl ⟨⟨_, by rw [Int.natCast_add]; rfl, RefV.mk (href.narrow' HGH.out)⟩, hbW⟩

end

end Go.Proofs.YtackeigdehfmmaaGreatDoor

namespace Wl
theorem used_zero (m b j : Nat) : used m b 0 j = false := by simp [used]
theorem used_succ (m b n j : Nat) : used m b (n + 1) j = (used m b n j || (place m (b + n) == j)) := by
  unfold used; rw [List.range_succ]; simp
end Wl
namespace Go.Proofs.YtackeigdehfmmaaGreatDoor
open Go.RowKit

theorem heap3 (w : World) (A B C : Obj) : (((w.alloc A).alloc B).alloc C).heap[w.heap.size]? = some A ∧ (((w.alloc A).alloc B).alloc C).heap[w.heap.size + 1]? = some B ∧ (((w.alloc A).alloc B).alloc C).heap[w.heap.size + 2]? = some C ∧ (((w.alloc A).alloc B).alloc C).heap.size = w.heap.size + 3 ∧ Below w.heap.size w (((w.alloc A).alloc B).alloc C) := by
  have e : (((w.alloc A).alloc B).alloc C).heap = ((w.heap.push A).push B).push C := rfl
  refine ⟨?_, ?_, ?_, ?_, ?_⟩
  · rw [e]; rw [Array.getElem?_push, if_neg (by simp; omega)]; rw [Array.getElem?_push, if_neg (by simp)]; rw [Array.getElem?_push, if_pos (by simp)]
  · rw [e]; rw [Array.getElem?_push, if_neg (by simp)]; rw [Array.getElem?_push, if_pos (by simp)]
  · rw [e]; rw [Array.getElem?_push, if_pos (by simp)]
  · rw [e]; simp
  · exact (((Below.refl _ _).alloc (Nat.le_refl _) _).alloc (by simp) _).alloc (by simp; omega) _

section
variable {w : World} {G : Nat → Prop} {S : Nat} {d : Wl.Dk}

theorem rAppend_app {a1 a2 a3 : Option Addr} {c1 c2 c3 : Nat} (r : Wl.Bs) (hG : ∀ b, G b → b < w.heap.size) (h : RefD w G S a1 a2 a3 d) (hE : Env w) (hr : r.length ≤ 1000000000) :
    Calls Tryz.prog 33 #[.agg #[.slice a1 S c1, .slice a2 S c2, .slice a3 S c3], sv r] w fun e w' => ResN G S (d.app r).1 (d.app r).2.1 (d.app r).2.2 w' e ∧ Below w.heap.size w w' := by
  unfold Wl.Dk.app
  cases hl : Wl.log d.now with
  | none => exact rAppend_none r hG h hE (Lib.hid hl)
  | some L =>
    have hn : d.now.length = S := h.ok.now
    have hle := Wl.log_le hl
    simp only
    by_cases hc : 65000 < r.length ∨ d.now.length - 2 ≤ L.recs.length ∨ Wl.lim < L.first + L.recs.length
    · rw [if_pos hc]
      rw [hn] at hc hle
      by_cases h1 : 65000 < r.length
      · exact rAppend_fulla r L hG h hE (Lib.hid hl) hr h1
      · by_cases h2 : S - 2 = L.recs.length
        · exact rAppend_fullb r L hG h hE (Lib.hid hl) hr ⟨by omega, h2⟩
        · exact rAppend_fullc r L hG h hE (Lib.hid hl) hr ⟨by omega, h2, by omega⟩
    · rw [if_neg hc, hn]
      rw [hn] at hc
      exact rAppend_ok r L hG h hE (Lib.hid hl) (by omega) (by omega) (by omega)

set_option maxRecDepth 100000 in
set_option maxHeartbeats 3200000 in
theorem rCut_none {a1 a2 a3 : Option Addr} {c1 c2 c3 : Nat} (x : Int) (hG : ∀ b, G b → b < w.heap.size) (h : RefD w G S a1 a2 a3 d) (hE : Env w) (hl : Hid (Wl.log d.now = none)) :
    Calls Tryz.prog 28 #[.agg #[.slice a1 S c1, .slice a2 S c2, .slice a3 S c3], .int .i64 x] w fun e w' => ResW G S d 21 w' e ∧ Below w.heap.size w w' := by
  go_enter Tryz.func28, Tryz.ntmps28
  go_upto_region 1 with fail
  have hbx := (below_alloc w (.cells #[.slice a1 S c1, .slice a2 S c2, .slice a3 S c3] 28))
  have hby := below_alloc (w.alloc (.cells #[.slice a1 S c1, .slice a2 S c2, .slice a3 S c3] 28)) (.cells #[.slice none 0 0, .slice none 0 0, .slice none 0 0] 28)
  have hb := Below.step hbx hby (Nat.le_refl _)
  obtain ⟨hA, hB⟩ := heap2 w (.cells #[.slice a1 S c1, .slice a2 S c2, .slice a3 S c3] 28) (.cells #[.slice none 0 0, .slice none 0 0, .slice none 0 0] 28)
  clear hbx hby
  generalize ((w.alloc (.cells #[.slice a1 S c1, .slice a2 S c2, .slice a3 S c3] 28)).alloc (.cells #[.slice none 0 0, .slice none 0 0, .slice none 0 0] 28)) = wr at *
  have rA : Row wr w.heap.size 28 [.slice a1 S c1, .slice a2 S c2, .slice a3 S c3] := hA
  have rB : Row wr (w.heap.size + 1) 28 [.slice none 0 0, .slice none 0 0, .slice none 0 0] := hB
  obtain ⟨H, hH⟩ : ∃ H : Nat → Prop, ∀ b, H b ↔ (G b ∨ b = w.heap.size + 1) := ⟨_, fun _ => Iff.rfl⟩
  have hltB := rB.lt
  have hR : RefD wr H S a1 a2 a3 d := h.lift hb (fun b hlt hh => by rcases (hH b).1 hh with h' | h'; exact h'; omega)
  have HGH : Hid (∀ b, G b → H b) := Lib.hid (fun b hb' => (hH b).2 (.inl hb'))
  have HnB : Hid (∀ b, b = w.heap.size + 1 → H b) := Lib.hid (fun b hb' => (hH b).2 (.inr hb'))
  have HLT : Hid (∀ b, H b → b < wr.heap.size) := Lib.hid (fun b hb' => by rcases (hH b).1 hb' with h' | h'; have := hG b h'; omega; omega)
  have HR := Lib.hid hR
  have hE0 := hE
  have hE := hE.mono hb
  obtain ⟨k0, k1, k2, _, _, _⟩ := Row3 rA
  clear hA hB h hH hR hG
  have hRd := rRead_none (c1 := c1) (c2 := c2) (c3 := c3) HR.out hE hl
  go_wp2_with fail
  (with_reducible refine hRd.mono ?_)
  rintro e w1 ⟨rfl, hb1⟩
  clear hRd k0 k1 k2
  go_upto_region 2 with fail
  have hb2 := below_alloc w1 (.cells #[.int .i64 0, .int .i64 0, .slice none 0 0] 68)
  have rL : Row (w1.alloc (.cells #[.int .i64 0, .int .i64 0, .slice none 0 0] 68)) w1.heap.size 68 [.int .i64 0, .int .i64 0, .slice none 0 0] := heap_alloc_new _ _
  generalize (w1.alloc (.cells #[.int .i64 0, .int .i64 0, .slice none 0 0] 68)) = w2 at *
  have rA := (rA.below hb1).below hb2
  have rB := (rB.below hb1).below hb2
  have HR := Lib.hid ((HR.out.mono hb1).mono hb2)
  have hbb := Below.step (Below.step hb hb1 (Nat.le_refl _)) hb2 (Nat.le_refl _)
  have hs1 := hb1.size
  have hs2 := hb2.size
  obtain ⟨nL, hnL⟩ : ∃ nL, nL = w1.heap.size := ⟨_, rfl⟩
  rw [← hnL] at rL ⊢
  have xLA : nL ≠ w.heap.size := by omega
  have xLB : nL ≠ w.heap.size + 1 := by omega
  clear hb1 hb2 hb hnL
  obtain ⟨k0, k1, k2, _, _, _⟩ := Row3 rA
  obtain ⟨l0, l1, l2, _, _, _⟩ := Row3 rL
  obtain ⟨q0, q1, q2, f0, f1, f2⟩ := Row3 rB
  have HP := put3_kept w2 (w.heap.size + 1) (.slice a1 S c1) (.slice a2 S c2) (.slice a3 S c3)
  have HF := Lib.hid ((HR.out.kept (HP.wider HnB.out)))
  have hbf := hbb.trans (HP.below (by rintro b rfl; exact Nat.le_succ _) hbb.size)
  have hlB := rB.lt
  unfold put3 at HF hbf
  clear HP
  go_wp2
  refine bodyPost_ret (v := .tuple #[.agg #[.slice a1 S c1, .slice a2 S c2, .slice a3 S c3], .int .i64 21]) (by simp [results, Tryz.results28, go_sem, q0, q1, q2]) rfl ⟨⟨_, rfl, RefV.mk ⟨HF.out.now.narrow HGH.out, HF.out.old.narrow HGH.out, HF.out.dirty.narrow HGH.out, HF.out.ok, HF.out.lo, HF.out.hi⟩⟩, hbf⟩

set_option maxRecDepth 100000 in
set_option maxHeartbeats 3200000 in
theorem rCut_rangea {a1 a2 a3 : Option Addr} {c1 c2 c3 : Nat} (x : Int) (L : Wl.Log) (hG : ∀ b, G b → b < w.heap.size) (h : RefD w G S a1 a2 a3 d) (hE : Env w) (hl : Hid (Wl.log d.now = some L)) (hc : x < L.first) :
    Calls Tryz.prog 28 #[.agg #[.slice a1 S c1, .slice a2 S c2, .slice a3 S c3], .int .i64 x] w fun e w' => ResW G S d 7 w' e ∧ Below w.heap.size w w' := by
  obtain ⟨_, h2, h3, h4⟩ := Wl.log_le hl.out
  have hnl := h.ok.now
  rw [hnl] at h3 h4
  have HNL := Lib.hid hnl
  have hS := h.hi
  have hh1 := (Wl.log_le hl.out).1
  unfold Wl.lim at h2 hh1
  obtain ⟨b, hb0⟩ : ∃ b, b = L.first := ⟨_, rfl⟩
  obtain ⟨n, hn0⟩ : ∃ n, n = L.recs.length := ⟨_, rfl⟩
  obtain ⟨hd, hh0⟩ : ∃ hd, hd = L.header := ⟨_, rfl⟩
  rw [← hb0] at h2
  rw [← hn0] at h3
  rw [← hh0] at hh1
  have HB := Lib.hid hb0
  have HN := Lib.hid hn0
  have HH := Lib.hid hh0
  clear hb0 hn0 hh0 hnl
  rw [← HB.out] at hc
  have d0 : decide (x < (b : Int)) = true := by simp <;> omega
  clear hc
  go_enter Tryz.func28, Tryz.ntmps28
  go_upto_region 1 with fail
  have hbx := (below_alloc w (.cells #[.slice a1 S c1, .slice a2 S c2, .slice a3 S c3] 28))
  have hby := below_alloc (w.alloc (.cells #[.slice a1 S c1, .slice a2 S c2, .slice a3 S c3] 28)) (.cells #[.slice none 0 0, .slice none 0 0, .slice none 0 0] 28)
  have hb := Below.step hbx hby (Nat.le_refl _)
  obtain ⟨hA, hB⟩ := heap2 w (.cells #[.slice a1 S c1, .slice a2 S c2, .slice a3 S c3] 28) (.cells #[.slice none 0 0, .slice none 0 0, .slice none 0 0] 28)
  clear hbx hby
  generalize ((w.alloc (.cells #[.slice a1 S c1, .slice a2 S c2, .slice a3 S c3] 28)).alloc (.cells #[.slice none 0 0, .slice none 0 0, .slice none 0 0] 28)) = wr at *
  have rA : Row wr w.heap.size 28 [.slice a1 S c1, .slice a2 S c2, .slice a3 S c3] := hA
  have rB : Row wr (w.heap.size + 1) 28 [.slice none 0 0, .slice none 0 0, .slice none 0 0] := hB
  obtain ⟨H, hH⟩ : ∃ H : Nat → Prop, ∀ b, H b ↔ (G b ∨ b = w.heap.size + 1) := ⟨_, fun _ => Iff.rfl⟩
  have hltB := rB.lt
  have hR : RefD wr H S a1 a2 a3 d := h.lift hb (fun b hlt hh => by rcases (hH b).1 hh with h' | h'; exact h'; omega)
  have HGH : Hid (∀ b, G b → H b) := Lib.hid (fun b hb' => (hH b).2 (.inl hb'))
  have HnB : Hid (∀ b, b = w.heap.size + 1 → H b) := Lib.hid (fun b hb' => (hH b).2 (.inr hb'))
  have HLT : Hid (∀ b, H b → b < wr.heap.size) := Lib.hid (fun b hb' => by rcases (hH b).1 hb' with h' | h'; have := hG b h'; omega; omega)
  have HR := Lib.hid hR
  have hE0 := hE
  have hE := hE.mono hb
  obtain ⟨k0, k1, k2, _, _, _⟩ := Row3 rA
  clear hA hB h hH hR hG
  have hRd := rRead_some (c1 := c1) (c2 := c2) (c3 := c3) L HR.out hE hl
  go_wp2_with fail
  (with_reducible refine hRd.mono ?_)
  rintro e w1 ⟨⟨v, rfl, hown⟩, hb1⟩
  obtain ⟨ao, cap, rfl, hcap, -⟩ := hown.read
  simp only [List.length_map, ← HB.out, ← HN.out, ← HH.out] at hcap hown ⊢
  clear hRd k0 k1 k2
  go_upto_region 2 with fail
  have hb2 := below_alloc w1 (.cells #[.int .i64 hd, .int .i64 b, .slice ao n cap] 68)
  have rL : Row (w1.alloc (.cells #[.int .i64 hd, .int .i64 b, .slice ao n cap] 68)) w1.heap.size 68 [.int .i64 hd, .int .i64 b, .slice ao n cap] := heap_alloc_new _ _
  generalize (w1.alloc (.cells #[.int .i64 hd, .int .i64 b, .slice ao n cap] 68)) = w2 at *
  have rA := (rA.below hb1).below hb2
  have rB := (rB.below hb1).below hb2
  have HR := Lib.hid ((HR.out.mono hb1).mono hb2)
  have hbb := Below.step (Below.step hb hb1 (Nat.le_refl _)) hb2 (Nat.le_refl _)
  have hs1 := hb1.size
  have hs2 := hb2.size
  obtain ⟨nL, hnL⟩ : ∃ nL, nL = w1.heap.size := ⟨_, rfl⟩
  rw [← hnL] at rL ⊢
  have xLA : nL ≠ w.heap.size := by omega
  have xLB : nL ≠ w.heap.size + 1 := by omega
  clear hb1 hb2 hb hnL
  obtain ⟨k0, k1, k2, _, _, _⟩ := Row3 rA
  obtain ⟨l0, l1, l2, _, _, _⟩ := Row3 rL
  obtain ⟨q0, q1, q2, f0, f1, f2⟩ := Row3 rB
  have HP := put3_kept w2 (w.heap.size + 1) (.slice a1 S c1) (.slice a2 S c2) (.slice a3 S c3)
  have HF := Lib.hid ((HR.out.kept (HP.wider HnB.out)))
  have hbf := hbb.trans (HP.below (by rintro b rfl; exact Nat.le_succ _) hbb.size)
  have hlB := rB.lt
  unfold put3 at HF hbf
  clear HP
  go_wp2
  refine bodyPost_ret (v := .tuple #[.agg #[.slice a1 S c1, .slice a2 S c2, .slice a3 S c3], .int .i64 7]) (by simp [results, Tryz.results28, go_sem, q0, q1, q2]) rfl ⟨⟨_, rfl, RefV.mk ⟨HF.out.now.narrow HGH.out, HF.out.old.narrow HGH.out, HF.out.dirty.narrow HGH.out, HF.out.ok, HF.out.lo, HF.out.hi⟩⟩, hbf⟩

set_option maxRecDepth 100000 in
set_option maxHeartbeats 3200000 in
theorem rCut_rangeb {a1 a2 a3 : Option Addr} {c1 c2 c3 : Nat} (x : Int) (L : Wl.Log) (hG : ∀ b, G b → b < w.heap.size) (h : RefD w G S a1 a2 a3 d) (hE : Env w) (hl : Hid (Wl.log d.now = some L)) (hc : ¬ x < L.first ∧ ((L.first + L.recs.length : Nat) : Int) < x) :
    Calls Tryz.prog 28 #[.agg #[.slice a1 S c1, .slice a2 S c2, .slice a3 S c3], .int .i64 x] w fun e w' => ResW G S d 7 w' e ∧ Below w.heap.size w w' := by
  obtain ⟨_, h2, h3, h4⟩ := Wl.log_le hl.out
  have hnl := h.ok.now
  rw [hnl] at h3 h4
  have HNL := Lib.hid hnl
  have hS := h.hi
  have hh1 := (Wl.log_le hl.out).1
  unfold Wl.lim at h2 hh1
  obtain ⟨b, hb0⟩ : ∃ b, b = L.first := ⟨_, rfl⟩
  obtain ⟨n, hn0⟩ : ∃ n, n = L.recs.length := ⟨_, rfl⟩
  obtain ⟨hd, hh0⟩ : ∃ hd, hd = L.header := ⟨_, rfl⟩
  rw [← hb0] at h2
  rw [← hn0] at h3
  rw [← hh0] at hh1
  have HB := Lib.hid hb0
  have HN := Lib.hid hn0
  have HH := Lib.hid hh0
  clear hb0 hn0 hh0 hnl
  rw [← HN.out, ← HB.out] at hc
  have d0 : decide (x < (b : Int)) = false := by simp <;> omega
  have d1 : decide ((b : Int) + (n : Int) < x) = true := by simp <;> omega
  clear hc
  go_enter Tryz.func28, Tryz.ntmps28
  go_upto_region 1 with fail
  have hbx := (below_alloc w (.cells #[.slice a1 S c1, .slice a2 S c2, .slice a3 S c3] 28))
  have hby := below_alloc (w.alloc (.cells #[.slice a1 S c1, .slice a2 S c2, .slice a3 S c3] 28)) (.cells #[.slice none 0 0, .slice none 0 0, .slice none 0 0] 28)
  have hb := Below.step hbx hby (Nat.le_refl _)
  obtain ⟨hA, hB⟩ := heap2 w (.cells #[.slice a1 S c1, .slice a2 S c2, .slice a3 S c3] 28) (.cells #[.slice none 0 0, .slice none 0 0, .slice none 0 0] 28)
  clear hbx hby
  generalize ((w.alloc (.cells #[.slice a1 S c1, .slice a2 S c2, .slice a3 S c3] 28)).alloc (.cells #[.slice none 0 0, .slice none 0 0, .slice none 0 0] 28)) = wr at *
  have rA : Row wr w.heap.size 28 [.slice a1 S c1, .slice a2 S c2, .slice a3 S c3] := hA
  have rB : Row wr (w.heap.size + 1) 28 [.slice none 0 0, .slice none 0 0, .slice none 0 0] := hB
  obtain ⟨H, hH⟩ : ∃ H : Nat → Prop, ∀ b, H b ↔ (G b ∨ b = w.heap.size + 1) := ⟨_, fun _ => Iff.rfl⟩
  have hltB := rB.lt
  have hR : RefD wr H S a1 a2 a3 d := h.lift hb (fun b hlt hh => by rcases (hH b).1 hh with h' | h'; exact h'; omega)
  have HGH : Hid (∀ b, G b → H b) := Lib.hid (fun b hb' => (hH b).2 (.inl hb'))
  have HnB : Hid (∀ b, b = w.heap.size + 1 → H b) := Lib.hid (fun b hb' => (hH b).2 (.inr hb'))
  have HLT : Hid (∀ b, H b → b < wr.heap.size) := Lib.hid (fun b hb' => by rcases (hH b).1 hb' with h' | h'; have := hG b h'; omega; omega)
  have HR := Lib.hid hR
  have hE0 := hE
  have hE := hE.mono hb
  obtain ⟨k0, k1, k2, _, _, _⟩ := Row3 rA
  clear hA hB h hH hR hG
  have hRd := rRead_some (c1 := c1) (c2 := c2) (c3 := c3) L HR.out hE hl
  go_wp2_with fail
  (with_reducible refine hRd.mono ?_)
  rintro e w1 ⟨⟨v, rfl, hown⟩, hb1⟩
  obtain ⟨ao, cap, rfl, hcap, -⟩ := hown.read
  simp only [List.length_map, ← HB.out, ← HN.out, ← HH.out] at hcap hown ⊢
  clear hRd k0 k1 k2
  go_upto_region 2 with fail
  have hb2 := below_alloc w1 (.cells #[.int .i64 hd, .int .i64 b, .slice ao n cap] 68)
  have rL : Row (w1.alloc (.cells #[.int .i64 hd, .int .i64 b, .slice ao n cap] 68)) w1.heap.size 68 [.int .i64 hd, .int .i64 b, .slice ao n cap] := heap_alloc_new _ _
  generalize (w1.alloc (.cells #[.int .i64 hd, .int .i64 b, .slice ao n cap] 68)) = w2 at *
  have rA := (rA.below hb1).below hb2
  have rB := (rB.below hb1).below hb2
  have HR := Lib.hid ((HR.out.mono hb1).mono hb2)
  have hbb := Below.step (Below.step hb hb1 (Nat.le_refl _)) hb2 (Nat.le_refl _)
  have hs1 := hb1.size
  have hs2 := hb2.size
  obtain ⟨nL, hnL⟩ : ∃ nL, nL = w1.heap.size := ⟨_, rfl⟩
  rw [← hnL] at rL ⊢
  have xLA : nL ≠ w.heap.size := by omega
  have xLB : nL ≠ w.heap.size + 1 := by omega
  clear hb1 hb2 hb hnL
  obtain ⟨k0, k1, k2, _, _, _⟩ := Row3 rA
  obtain ⟨l0, l1, l2, _, _, _⟩ := Row3 rL
  obtain ⟨q0, q1, q2, f0, f1, f2⟩ := Row3 rB
  have HP := put3_kept w2 (w.heap.size + 1) (.slice a1 S c1) (.slice a2 S c2) (.slice a3 S c3)
  have HF := Lib.hid ((HR.out.kept (HP.wider HnB.out)))
  have hbf := hbb.trans (HP.below (by rintro b rfl; exact Nat.le_succ _) hbb.size)
  have hlB := rB.lt
  unfold put3 at HF hbf
  clear HP
  go_wp2
  refine bodyPost_ret (v := .tuple #[.agg #[.slice a1 S c1, .slice a2 S c2, .slice a3 S c3], .int .i64 7]) (by simp [results, Tryz.results28, go_sem, q0, q1, q2]) rfl ⟨⟨_, rfl, RefV.mk ⟨HF.out.now.narrow HGH.out, HF.out.old.narrow HGH.out, HF.out.dirty.narrow HGH.out, HF.out.ok, HF.out.lo, HF.out.hi⟩⟩, hbf⟩

set_option maxRecDepth 100000 in
set_option maxHeartbeats 3200000 in
theorem rCut_ok {a1 a2 a3 : Option Addr} {c1 c2 c3 : Nat} (x : Nat) (L : Wl.Log) (hG : ∀ b, G b → b < w.heap.size) (h : RefD w G S a1 a2 a3 d) (hE : Env w) (hl : Hid (Wl.log d.now = some L)) (hc1 : L.first ≤ x) (hc2 : x ≤ L.first + L.recs.length) :
    Calls Tryz.prog 28 #[.agg #[.slice a1 S c1, .slice a2 S c2, .slice a3 S c3], .int .i64 x] w fun e w' => ResW G S (d.wrt ((L.header + 1) % 2) (Wl.enc ((L.header + 1 : Nat) : Int) (Wl.txt x))).syn 0 w' e ∧ Below w.heap.size w w' := by
  obtain ⟨_, h2, h3, h4⟩ := Wl.log_le hl.out
  have hnl := h.ok.now
  rw [hnl] at h3 h4
  have HNL := Lib.hid hnl
  have hS := h.hi
  have hh1 := (Wl.log_le hl.out).1
  unfold Wl.lim at h2 hh1
  obtain ⟨b, hb0⟩ : ∃ b, b = L.first := ⟨_, rfl⟩
  obtain ⟨n, hn0⟩ : ∃ n, n = L.recs.length := ⟨_, rfl⟩
  obtain ⟨hd, hh0⟩ : ∃ hd, hd = L.header := ⟨_, rfl⟩
  rw [← hb0] at h2
  rw [← hn0] at h3
  rw [← hh0] at hh1
  have HB := Lib.hid hb0
  have HN := Lib.hid hn0
  have HH := Lib.hid hh0
  clear hb0 hn0 hh0 hnl
  rw [← HB.out] at hc1 hc2
  rw [← HN.out] at hc2
  rw [← HH.out]
  have d0 : decide ((x : Int) < (b : Int)) = false := by simp <;> omega
  have d0' : decide (x < b) = false := by simp <;> omega
  have d1 : decide ((b : Int) + (n : Int) < (x : Int)) = false := by simp <;> omega
  have htl : (Wl.txt x).length ≤ 1000 := by have := Wl.txt_len2 (n := x) (by omega); omega
  have hI := fun (W : World) (hE : Env W) => itoa_any x (by omega) W hE
  have hEn := fun (W : World) (hE : Env W) => rEncode_any ((hd + 1 : Nat) : Int) (Wl.txt x) W (by omega) hE
  have hel := Wl.enc_len ((hd + 1 : Nat) : Int) (Wl.txt x)
  have hm : ((hd : Int) + 1) % 2 = (((hd + 1) % 2 : Nat) : Int) := by omega
  have hm2 : (hd + 1) % 2 < 2 := by omega
  have hw1 : IntKind.i64.wrap ((hd : Int) + 1) = (hd : Int) + 1 := by
    unfold IntKind.wrap; simp [IntKind.bits, IntKind.signed]; omega
  have hm3 : ((hd : Int) + 1).tmod 2 = (((hd + 1) % 2 : Nat) : Int) := by rw [Int.tmod_eq_emod_of_nonneg (by omega)]; exact hm
  rw [show ((hd + 1 : Nat) : Int) = (hd : Int) + 1 by omega] at hEn hel ⊢
  generalize Wl.enc ((hd : Int) + 1) (Wl.txt x) = E at *
  generalize Wl.txt x = X at *
  generalize (hd + 1) % 2 = q at *
  have HW1 := Lib.hid hw1
  have HM3 := Lib.hid hm3
  clear hw1 hm3 hm
  have hqS : q < S := by omega
  go_enter Tryz.func28, Tryz.ntmps28
  go_upto_region 1 with fail
  have hbx := (below_alloc w (.cells #[.slice a1 S c1, .slice a2 S c2, .slice a3 S c3] 28))
  have hby := below_alloc (w.alloc (.cells #[.slice a1 S c1, .slice a2 S c2, .slice a3 S c3] 28)) (.cells #[.slice none 0 0, .slice none 0 0, .slice none 0 0] 28)
  have hb := Below.step hbx hby (Nat.le_refl _)
  obtain ⟨hA, hB⟩ := heap2 w (.cells #[.slice a1 S c1, .slice a2 S c2, .slice a3 S c3] 28) (.cells #[.slice none 0 0, .slice none 0 0, .slice none 0 0] 28)
  clear hbx hby
  generalize ((w.alloc (.cells #[.slice a1 S c1, .slice a2 S c2, .slice a3 S c3] 28)).alloc (.cells #[.slice none 0 0, .slice none 0 0, .slice none 0 0] 28)) = wr at *
  have rA : Row wr w.heap.size 28 [.slice a1 S c1, .slice a2 S c2, .slice a3 S c3] := hA
  have rB : Row wr (w.heap.size + 1) 28 [.slice none 0 0, .slice none 0 0, .slice none 0 0] := hB
  obtain ⟨H, hH⟩ : ∃ H : Nat → Prop, ∀ b, H b ↔ (G b ∨ b = w.heap.size + 1) := ⟨_, fun _ => Iff.rfl⟩
  have hltB := rB.lt
  have hR : RefD wr H S a1 a2 a3 d := h.lift hb (fun b hlt hh => by rcases (hH b).1 hh with h' | h'; exact h'; omega)
  have HGH : Hid (∀ b, G b → H b) := Lib.hid (fun b hb' => (hH b).2 (.inl hb'))
  have HnB : Hid (∀ b, b = w.heap.size + 1 → H b) := Lib.hid (fun b hb' => (hH b).2 (.inr hb'))
  have HLT : Hid (∀ b, H b → b < wr.heap.size) := Lib.hid (fun b hb' => by rcases (hH b).1 hb' with h' | h'; have := hG b h'; omega; omega)
  have HR := Lib.hid hR
  have hE0 := hE
  have hE := hE.mono hb
  obtain ⟨k0, k1, k2, _, _, _⟩ := Row3 rA
  clear hA hB h hH hR hG
  have hRd := rRead_some (c1 := c1) (c2 := c2) (c3 := c3) L HR.out hE hl
  go_wp2_with fail
  (with_reducible refine hRd.mono ?_)
  rintro e w1 ⟨⟨v, rfl, hown⟩, hb1⟩
  obtain ⟨ao, cap, rfl, hcap, -⟩ := hown.read
  simp only [List.length_map, ← HB.out, ← HN.out, ← HH.out] at hcap hown ⊢
  clear hRd k0 k1 k2
  go_upto_region 2 with fail
  have hb2 := below_alloc w1 (.cells #[.int .i64 hd, .int .i64 b, .slice ao n cap] 68)
  have rL : Row (w1.alloc (.cells #[.int .i64 hd, .int .i64 b, .slice ao n cap] 68)) w1.heap.size 68 [.int .i64 hd, .int .i64 b, .slice ao n cap] := heap_alloc_new _ _
  generalize (w1.alloc (.cells #[.int .i64 hd, .int .i64 b, .slice ao n cap] 68)) = w2 at *
  have rA := (rA.below hb1).below hb2
  have rB := (rB.below hb1).below hb2
  have HR := Lib.hid ((HR.out.mono hb1).mono hb2)
  have hbb := Below.step (Below.step hb hb1 (Nat.le_refl _)) hb2 (Nat.le_refl _)
  have hs1 := hb1.size
  have hs2 := hb2.size
  obtain ⟨nL, hnL⟩ : ∃ nL, nL = w1.heap.size := ⟨_, rfl⟩
  rw [← hnL] at rL ⊢
  have xLA : nL ≠ w.heap.size := by omega
  have xLB : nL ≠ w.heap.size + 1 := by omega
  clear hb1 hb2 hb hnL
  obtain ⟨k0, k1, k2, _, _, _⟩ := Row3 rA
  obtain ⟨l0, l1, l2, _, _, _⟩ := Row3 rL
  have HW : Hid (∀ W, Kept (Any (es1 13 (w.heap.size + 1))) w2 W → Below w.heap.size w W ∧ w2.heap.size ≤ W.heap.size) := Lib.hid fun W hk => ⟨hbb.trans (hk.below (fun b hb => by rw [any1 hb]; exact Nat.le_succ _) hbb.size), hk.size⟩
  have HLT : Hid (∀ b, H b → b < w2.heap.size) := Lib.hid fun b hb => by have := HLT.out b hb; omega
  have HO : Hid (∀ k b, Oth (es1 13 (w.heap.size + 1)) k b → H b) := Lib.hid fun k b hb => HnB.out b (any1 hb.any)
  go_upto_region 6 with fail
  clear k0 k1 k2 l0 l1 l2
  refine wp_region_puts (wx := w2) [(fun _ v => v = .agg #[.slice a1 S c1, .slice a2 S c2, .slice a3 S c3]), (fun _ v => v = .pointer (some ⟨nL, 0, none⟩)), (fun _ v => v = .int .i64 hd), (fun _ v => v = .int .i64 ((hd : Int) + 1)), (fun _ v => v = .int .i64 q), (fun _ v => v = .pointer (some ⟨nL, 0, none⟩)), (fun _ v => v = .int .i64 hd), (fun _ v => v = .int .i64 ((hd : Int) + 1)), (fun _ v => v = .int .i64 x), (fun _ v => v = sv X), (fun _ v => v = sv E), (fun W v => RefV W H S v (d.wrt q E)), (fun W v => RefV W H S v ((d.wrt q E).syn)), (fun W _ => BoxD W H S (w.heap.size + 1) ((d.wrt q E).syn)), (fun _ v => v = .int .i64 0)] [(fun W => Row W w.heap.size 28 [.slice a1 S c1, .slice a2 S c2, .slice a3 S c3]), (fun _ => True), (fun W => Row W nL 68 [.int .i64 hd, .int .i64 b, .slice ao n cap]), (fun _ => True), (fun _ => True), (fun _ => True), (fun W => Row W nL 68 [.int .i64 hd, .int .i64 b, .slice ao n cap]), (fun _ => True), (fun _ => True), (fun _ => True), (fun _ => True), (fun W => RefD W H S a1 a2 a3 d), (fun _ => True), (fun W => ∃ u0 u1 u2, Row W (w.heap.size + 1) 28 [u0, u1, u2]), (fun _ => True)] [some 32, some 33, some 34, some 35, some 36, some 37, some 38, some 39, some 40, some 41, some 42, some 43, some 44, none, some 5] (es1 13 (w.heap.size + 1)) [32, 33, 34, 35, 36, 37, 38, 39, 40, 41, 42, 43, 44, 5] (by kernel_rfl) (by kernel_rfl) (by kernel_rfl) (by kernel_rfl) (of_decide_eq_true (by kernel_rfl)) ((Kept.refl _)) ⟨stayP_val _ _, stayP_val _ _, stayP_val _ _, stayP_val _ _, stayP_val _ _, stayP_val _ _, stayP_val _ _, stayP_val _ _, stayP_val _ _, stayP_val _ _, stayP_val _ _, (fun W W' v h hk => h.kept (hk.wider (fun b hb => HO.out _ b hb))), (fun W W' v h hk => h.kept (hk.wider (fun b hb => HO.out _ b hb))), (fun W W' _ h hk => h.kept hk (fun ho => oth1 ho) (fun b hb => (oth1 hb).elim)), stayP_val _ _, trivial⟩ ⟨(fun W W' _ h hk => h.mono hk (fun ho => by have := any1 ho.any; omega)), (fun _ _ _ h _ => h), (fun W W' _ h hk => h.mono hk (fun ho => xLB (any1 ho.any))), (fun _ _ _ h _ => h), (fun _ _ _ h _ => h), (fun _ _ _ h _ => h), (fun W W' _ h hk => h.mono hk (fun ho => xLB (any1 ho.any))), (fun _ _ _ h _ => h), (fun _ _ _ h _ => h), (fun _ _ _ h _ => h), (fun _ _ _ h _ => h), (fun W W' _ h hk => h.kept (hk.wider (fun b hb => HO.out _ b hb))), (fun _ _ _ h _ => h), (fun W W' _ h hk => by obtain ⟨u0, u1, u2, h⟩ := h; exact ⟨u0, u1, u2, h.mono hk (fun ho => oth1 ho)⟩), (fun _ _ _ h _ => h), trivial⟩ ?hP0 ⟨?s0, ?s1, ?s2, ?s3, ?s4, ?s5, ?s6, ?s7, ?s8, ?s9, ?s10, ?s11, ?s12, ?s13, ?s14, trivial⟩ ?he
  case hP0 =>
    intro k
    match k with
    | 0 => exact rA.drew
    | 1 => exact trivial
    | 2 => exact rL.drew
    | 3 => exact trivial
    | 4 => exact trivial
    | 5 => exact trivial
    | 6 => exact rL.drew
    | 7 => exact trivial
    | 8 => exact trivial
    | 9 => exact trivial
    | 10 => exact trivial
    | 11 => exact HR.out.kept (Kept.refl _).drew
    | 12 => exact trivial
    | 13 => exact ⟨_, _, _, rB.drew⟩
    | 14 => exact trivial
    | k + 15 => exact trivial
  case s0 =>
    rintro T W hk hP hA K hK
    have hP : Row W w.heap.size 28 [.slice a1 S c1, .slice a2 S c2, .slice a3 S c3] := hP
    obtain ⟨x0, x1, x2, _, _, _⟩ := Row3 hP
    simp only [ovr, Act.put, List.setIfInBounds_toArray, List.set_cons_zero, List.set_cons_succ] at hK ⊢
    have HK := Lib.hid hK
    clear hK hA
    refine wpOp_want rfl (by rfl) ?_
    go_simp
    exact HK.out _ _ (Kept.refl _) (rfl)
  case s1 =>
    rintro T W hk hP hA K hK
    simp only [ovr, Act.put, List.setIfInBounds_toArray, List.set_cons_zero, List.set_cons_succ] at hK ⊢
    have HK := Lib.hid hK
    clear hK hA
    refine wpOp_want rfl (by rfl) ?_
    go_simp
    exact HK.out _ _ (Kept.refl _) (rfl)
  case s2 =>
    rintro T W hk hP hA K hK
    have e1 : T 33 = .pointer (some ⟨nL, 0, none⟩) := hA.1
    have hP : Row W nL 68 [.int .i64 hd, .int .i64 b, .slice ao n cap] := hP
    obtain ⟨x0, x1, x2, _, _, _⟩ := Row3 hP
    simp only [ovr, Act.put, List.setIfInBounds_toArray, List.set_cons_zero, List.set_cons_succ, e1] at hK ⊢
    have HK := Lib.hid hK
    clear hK hA
    refine wpOp_want rfl (by rfl) ?_
    go_simp
    exact HK.out _ _ (Kept.refl _) (rfl)
  case s3 =>
    rintro T W hk hP hA K hK
    have e2 : T 34 = .int .i64 hd := hA.1
    simp only [ovr, Act.put, List.setIfInBounds_toArray, List.set_cons_zero, List.set_cons_succ, e2] at hK ⊢
    have HK := Lib.hid hK
    clear hK hA
    refine wpOp_want rfl (by rfl) ?_
    go_simp
    exact HK.out _ _ (Kept.refl _) (congrArg (Value.int .i64) HW1.out)
  case s4 =>
    rintro T W hk hP hA K hK
    have e3 : T 35 = .int .i64 ((hd : Int) + 1) := hA.1
    simp only [ovr, Act.put, List.setIfInBounds_toArray, List.set_cons_zero, List.set_cons_succ, e3] at hK ⊢
    have HK := Lib.hid hK
    clear hK hA
    refine wpOp_want rfl (by rfl) ?_
    go_simp
    exact HK.out _ _ (Kept.refl _) (congrArg (Value.int .i64) HM3.out)
  case s5 =>
    rintro T W hk hP hA K hK
    simp only [ovr, Act.put, List.setIfInBounds_toArray, List.set_cons_zero, List.set_cons_succ] at hK ⊢
    have HK := Lib.hid hK
    clear hK hA
    refine wpOp_want rfl (by rfl) ?_
    go_simp
    exact HK.out _ _ (Kept.refl _) (rfl)
  case s6 =>
    rintro T W hk hP hA K hK
    have e5 : T 37 = .pointer (some ⟨nL, 0, none⟩) := hA.1
    have hP : Row W nL 68 [.int .i64 hd, .int .i64 b, .slice ao n cap] := hP
    obtain ⟨x0, x1, x2, _, _, _⟩ := Row3 hP
    simp only [ovr, Act.put, List.setIfInBounds_toArray, List.set_cons_zero, List.set_cons_succ, e5] at hK ⊢
    have HK := Lib.hid hK
    clear hK hA
    refine wpOp_want rfl (by rfl) ?_
    go_simp
    exact HK.out _ _ (Kept.refl _) (rfl)
  case s7 =>
    rintro T W hk hP hA K hK
    have e6 : T 38 = .int .i64 hd := hA.1
    simp only [ovr, Act.put, List.setIfInBounds_toArray, List.set_cons_zero, List.set_cons_succ, e6] at hK ⊢
    have HK := Lib.hid hK
    clear hK hA
    refine wpOp_want rfl (by rfl) ?_
    go_simp
    exact HK.out _ _ (Kept.refl _) (congrArg (Value.int .i64) HW1.out)
  case s8 =>
    rintro T W hk hP hA K hK
    simp only [ovr, Act.put, List.setIfInBounds_toArray, List.set_cons_zero, List.set_cons_succ] at hK ⊢
    have HK := Lib.hid hK
    clear hK hA
    refine wpOp_want rfl (by rfl) ?_
    go_simp
    exact HK.out _ _ (Kept.refl _) (rfl)
  case s9 =>
    rintro T W hk hP hA K hK
    have e8 : T 40 = .int .i64 x := hA.1
    simp only [ovr, Act.put, List.setIfInBounds_toArray, List.set_cons_zero, List.set_cons_succ, e8] at hK ⊢
    have HK := Lib.hid hK
    clear hK hA
    refine wpOp_want rfl (by rfl) ?_
    go_simp
    (with_reducible refine (hI W (hE0.mono (HW.out W hk).1)).mono ?_)
    rintro e w1 ⟨rfl, hb1⟩
    dsimp only
    exact HK.out _ _ (Kept.of_below hb1) (rfl)
  case s10 =>
    rintro T W hk hP hA K hK
    have e7 : T 39 = .int .i64 ((hd : Int) + 1) := hA.1
    have e9 : T 41 = sv X := hA.2.1
    simp only [ovr, Act.put, List.setIfInBounds_toArray, List.set_cons_zero, List.set_cons_succ, e7, e9] at hK ⊢
    have HK := Lib.hid hK
    clear hK hA
    refine wpOp_want rfl (by rfl) ?_
    go_simp
    (with_reducible refine (hEn W (hE0.mono (HW.out W hk).1)).mono ?_)
    rintro e w1 ⟨rfl, hb1⟩
    dsimp only
    exact HK.out _ _ (Kept.of_below hb1) (rfl)
  case s11 =>
    rintro T W hk hP hA K hK
    have e0 : T 32 = .agg #[.slice a1 S c1, .slice a2 S c2, .slice a3 S c3] := hA.1
    have e4 : T 36 = .int .i64 q := hA.2.1
    have e10 : T 42 = sv E := hA.2.2.1
    have hP : RefD W H S a1 a2 a3 d := hP
    have hP0 := hP
    simp only [ovr, Act.put, List.setIfInBounds_toArray, List.set_cons_zero, List.set_cons_succ, e0, e4, e10] at hK ⊢
    have HK := Lib.hid hK
    clear hK hA
    refine wpOp_want rfl (by rfl) ?_
    go_simp
    (with_reducible refine (rput_yes (w := W) (G := H) (c1 := c1) (c2 := c2) (c3 := c3) q E (fun b hb => Nat.lt_of_lt_of_le (HLT.out b hb) (HW.out W hk).2) hP0 hqS (by omega)).mono ?_)
    rintro e w1 ⟨⟨v, rfl, hv⟩, hb1⟩
    dsimp only
    exact HK.out _ _ (Kept.of_below hb1) (hv)
  case s12 =>
    rintro T W hk hP hA K hK
    have r11 : (fun W v => RefV W H S v (d.wrt q E)) W (T 43) := hA.1
    obtain ⟨x1, y1, x2, y2, x3, y3, ev, hr⟩ := r11
    simp only [ovr, Act.put, List.setIfInBounds_toArray, List.set_cons_zero, List.set_cons_succ, ev] at hK ⊢
    have HK := Lib.hid hK
    clear hK hA
    refine wpOp_want rfl (by rfl) ?_
    go_simp
    (with_reducible refine (rSync_any (w := W) (G := H) (c1 := y1) (c2 := y2) (c3 := y3) (fun b hb => Nat.lt_of_lt_of_le (HLT.out b hb) (HW.out W hk).2) hr).mono ?_)
    rintro e w1 ⟨⟨v, rfl, hv⟩, hb1⟩
    dsimp only
    exact HK.out _ _ (Kept.of_below hb1) (hv)
  case s13 =>
    rintro T W hk hP hA K hK
    have r12 : (fun W v => RefV W H S v ((d.wrt q E).syn)) W (T 44) := hA.1
    have e0 : T 32 = .agg #[.slice a1 S c1, .slice a2 S c2, .slice a3 S c3] := hA.2.2.1
    have e1 : T 33 = .pointer (some ⟨nL, 0, none⟩) := hA.2.2.2.1
    have e2 : T 34 = .int .i64 hd := hA.2.2.2.2.1
    have e3 : T 35 = .int .i64 ((hd : Int) + 1) := hA.2.2.2.2.2.1
    have e4 : T 36 = .int .i64 q := hA.2.2.2.2.2.2.1
    have e5 : T 37 = .pointer (some ⟨nL, 0, none⟩) := hA.2.2.2.2.2.2.2.1
    have e6 : T 38 = .int .i64 hd := hA.2.2.2.2.2.2.2.2.1
    have e7 : T 39 = .int .i64 ((hd : Int) + 1) := hA.2.2.2.2.2.2.2.2.2.1
    have e8 : T 40 = .int .i64 x := hA.2.2.2.2.2.2.2.2.2.2.1
    have e9 : T 41 = sv X := hA.2.2.2.2.2.2.2.2.2.2.2.1
    have e10 : T 42 = sv E := hA.2.2.2.2.2.2.2.2.2.2.2.2.1
    have r11 : (fun W v => RefV W H S v (d.wrt q E)) W (T 43) := hA.2.2.2.2.2.2.2.2.2.2.2.2.2.1
    have hP : ∃ u0 u1 u2, Row W (w.heap.size + 1) 28 [u0, u1, u2] := hP
    obtain ⟨x1, y1, x2, y2, x3, y3, ev, hr⟩ := r12
    obtain ⟨u0, u1, u2, hu⟩ := hP
    obtain ⟨q0, q1, q2, f0, f1, f2⟩ := Row3 hu
    simp only [ovr, Act.put, List.setIfInBounds_toArray, List.set_cons_zero, List.set_cons_succ, e0, e1, e2, e3, e4, e5, e6, e7, e8, e9, e10, ev] at hK ⊢
    have HK := Lib.hid hK
    clear hK hA
    refine wpOp_want rfl (by rfl) ?_
    go_simp
    exact HK.out undef _ ((put3_kept W (w.heap.size + 1) (.slice x1 S y1) (.slice x2 S y2) (.slice x3 S y3)).wider (fun b hb => by subst hb; rfl)) (⟨_, _, _, _, _, _, hu.put3 (.slice x1 S y1) (.slice x2 S y2) (.slice x3 S y3), hr.kept ((put3_kept W (w.heap.size + 1) (.slice x1 S y1) (.slice x2 S y2) (.slice x3 S y3)).wider HnB.out)⟩)
  case s14 =>
    rintro T W hk hP hA K hK
    have e0 : T 32 = .agg #[.slice a1 S c1, .slice a2 S c2, .slice a3 S c3] := hA.2.1
    have e1 : T 33 = .pointer (some ⟨nL, 0, none⟩) := hA.2.2.1
    have e2 : T 34 = .int .i64 hd := hA.2.2.2.1
    have e3 : T 35 = .int .i64 ((hd : Int) + 1) := hA.2.2.2.2.1
    have e4 : T 36 = .int .i64 q := hA.2.2.2.2.2.1
    have e5 : T 37 = .pointer (some ⟨nL, 0, none⟩) := hA.2.2.2.2.2.2.1
    have e6 : T 38 = .int .i64 hd := hA.2.2.2.2.2.2.2.1
    have e7 : T 39 = .int .i64 ((hd : Int) + 1) := hA.2.2.2.2.2.2.2.2.1
    have e8 : T 40 = .int .i64 x := hA.2.2.2.2.2.2.2.2.2.1
    have e9 : T 41 = sv X := hA.2.2.2.2.2.2.2.2.2.2.1
    have e10 : T 42 = sv E := hA.2.2.2.2.2.2.2.2.2.2.2.1
    have r11 : (fun W v => RefV W H S v (d.wrt q E)) W (T 43) := hA.2.2.2.2.2.2.2.2.2.2.2.2.1
    have r12 : (fun W v => RefV W H S v ((d.wrt q E).syn)) W (T 44) := hA.2.2.2.2.2.2.2.2.2.2.2.2.2.1
    simp only [ovr, Act.put, List.setIfInBounds_toArray, List.set_cons_zero, List.set_cons_succ, e0, e1, e2, e3, e4, e5, e6, e7, e8, e9, e10] at hK ⊢
    have HK := Lib.hid hK
    clear hK hA
    refine wpOp_want rfl (by rfl) ?_
    go_simp
    exact HK.out _ _ (Kept.refl _) (rfl)
  case he =>
    rintro T W hk hA
    have g5 : T 5 = .int .i64 0 := hA.at 14 (by decide)
    have r9 : BoxD W H S (w.heap.size + 1) (d.wrt q E).syn := hA.at 13 (by decide)
    simp only [ovr, List.setIfInBounds_toArray, List.set_cons_zero, List.set_cons_succ, g5]
    obtain ⟨b1, e1, b2, e2, b3, e3, hrow, href⟩ := r9.ex
    obtain ⟨q0, q1, q2, _, _, _⟩ := Row3 hrow
    have hbW := (HW.out W hk).1
    clear hA
    go_wp2
    refine bodyPost_ret (v := .tuple #[.agg #[.slice b1 S e1, .slice b2 S e2, .slice b3 S e3], .int .i64 0]) (by simp [results, Tryz.results28, go_sem, q0, q1, q2]) rfl ⟨⟨_, rfl, RefV.mk (href.narrow' HGH.out)⟩, hbW⟩

theorem rCut_cut {a1 a2 a3 : Option Addr} {c1 c2 c3 : Nat} (x : Int) (hG : ∀ b, G b → b < w.heap.size) (h : RefD w G S a1 a2 a3 d) (hE : Env w) :
    Calls Tryz.prog 28 #[.agg #[.slice a1 S c1, .slice a2 S c2, .slice a3 S c3], .int .i64 x] w fun e w' => ResW G S (d.cut x).1 (d.cut x).2 w' e ∧ Below w.heap.size w w' := by
  unfold Wl.Dk.cut
  cases hl : Wl.log d.now with
  | none => exact rCut_none x hG h hE (Lib.hid hl)
  | some L =>
    simp only
    by_cases hc : x < L.first ∨ ((L.first + L.recs.length : Nat) : Int) < x
    · rw [if_pos hc]
      by_cases h1 : x < L.first
      · exact rCut_rangea x L hG h hE (Lib.hid hl) h1
      · exact rCut_rangeb x L hG h hE (Lib.hid hl) ⟨h1, by omega⟩
    · rw [if_neg hc]
      obtain ⟨k, rfl⟩ : ∃ k : Nat, x = k := ⟨x.toNat, by omega⟩
      rw [Int.toNat_natCast]
      exact rCut_ok k L hG h hE (Lib.hid hl) (by omega) (by omega)

end

end Go.Proofs.YtackeigdehfmmaaGreatDoor

namespace Go.Proofs.YtackeigdehfmmaaGreatDoor
open Go.RowKit

/-- what the reference's Recover gives -/
def RecV (W w' : World) (G : Nat → Prop) (S : Nat) (d : Wl.Dk) (b : Nat) (rs : List Wl.Bs) (c : Nat) (e : Ending) : Prop :=
  ∃ v hv rv, e = .returned (.tuple #[v, .agg #[.int .i64 hv, .int .i64 b, rv], .int .i64 c]) ∧ RefV w' G S v d ∧ OwnV w' W.heap.size 9 rv (svs rs)

section
variable {w : World} {G : Nat → Prop} {S : Nat} {d : Wl.Dk}

set_option maxRecDepth 100000 in
set_option maxHeartbeats 3200000 in
theorem rRecover_none {a1 a2 a3 : Option Addr} {c1 c2 c3 : Nat} (hG : ∀ b, G b → b < w.heap.size) (h : RefD w G S a1 a2 a3 d) (hE : Env w) (hl : Hid (Wl.log d.now = none)) :
    Calls Tryz.prog 32 #[.agg #[.slice a1 S c1, .slice a2 S c2, .slice a3 S c3]] w fun e w' => RecV w w' G S d 0 [] 21 e ∧ Below w.heap.size w w' := by
  go_enter Tryz.func32, Tryz.ntmps32
  go_upto_region 1 with fail
  obtain ⟨hA, hB, hC, hsz, hb⟩ := heap3 w (.cells #[.slice a1 S c1, .slice a2 S c2, .slice a3 S c3] 28) (.cells #[.slice none 0 0, .slice none 0 0, .slice none 0 0] 28) (.cells #[.int .i64 0, .int .i64 0, .slice none 0 0] 68)
  generalize (((w.alloc (.cells #[.slice a1 S c1, .slice a2 S c2, .slice a3 S c3] 28)).alloc (.cells #[.slice none 0 0, .slice none 0 0, .slice none 0 0] 28)).alloc (.cells #[.int .i64 0, .int .i64 0, .slice none 0 0] 68)) = wr at *
  have rA : Row wr w.heap.size 28 [.slice a1 S c1, .slice a2 S c2, .slice a3 S c3] := hA
  have rB : Row wr (w.heap.size + 1) 28 [.slice none 0 0, .slice none 0 0, .slice none 0 0] := hB
  have rC : Row wr (w.heap.size + 2) 68 [.int .i64 0, .int .i64 0, .slice none 0 0] := hC
  obtain ⟨H, hH⟩ : ∃ H : Nat → Prop, ∀ b, H b ↔ (G b ∨ b = w.heap.size ∨ b = w.heap.size + 1 ∨ b = w.heap.size + 2) := ⟨_, fun _ => Iff.rfl⟩
  have hR : RefD wr H S a1 a2 a3 d := h.lift hb (fun b hlt hh => by rcases (hH b).1 hh with h' | h' | h' | h'; exact h'; omega; omega; omega)
  have HGH : Hid (∀ b, G b → H b) := Lib.hid (fun b hb' => (hH b).2 (.inl hb'))
  have HnA : Hid (∀ b, b = w.heap.size → H b) := Lib.hid (fun b hb' => (hH b).2 (.inr (.inl hb')))
  have HnB : Hid (∀ b, b = w.heap.size + 1 → H b) := Lib.hid (fun b hb' => (hH b).2 (.inr (.inr (.inl hb'))))
  have HnC : Hid (∀ b, b = w.heap.size + 2 → H b) := Lib.hid (fun b hb' => (hH b).2 (.inr (.inr (.inr hb'))))
  have HLT : Hid (∀ b, H b → b < wr.heap.size) := Lib.hid (fun b hb' => by rcases (hH b).1 hb' with h' | h' | h' | h'; have := hG b h'; omega; omega; omega; omega)
  have HR := Lib.hid hR
  have hE0 := hE
  have hE := hE.mono hb
  obtain ⟨k0, k1, k2, _, _, _⟩ := Row3 rA
  clear hA hB hC h hH hR hG
  have hRd := rRead_none (c1 := c1) (c2 := c2) (c3 := c3) HR.out hE hl
  go_wp2_with fail
  (with_reducible refine hRd.mono ?_)
  rintro e w1 ⟨rfl, hb1⟩
  clear hRd k0 k1 k2
  go_upto_region 2 with fail
  have hb2 := below_alloc w1 (.cells #[.int .i64 0, .int .i64 0, .slice none 0 0] 68)
  have rL : Row (w1.alloc (.cells #[.int .i64 0, .int .i64 0, .slice none 0 0] 68)) w1.heap.size 68 [.int .i64 0, .int .i64 0, .slice none 0 0] := heap_alloc_new _ _
  generalize (w1.alloc (.cells #[.int .i64 0, .int .i64 0, .slice none 0 0] 68)) = w2 at *
  have rA := (rA.below hb1).below hb2
  have rB := (rB.below hb1).below hb2
  have rC := (rC.below hb1).below hb2
  have HR := Lib.hid ((HR.out.mono hb1).mono hb2)
  have hbb := Below.step (Below.step hb hb1 (Nat.le_refl _)) hb2 (Nat.le_refl _)
  have hs1 := hb1.size
  have hs2 := hb2.size
  obtain ⟨nL, hnL⟩ : ∃ nL, nL = w1.heap.size := ⟨_, rfl⟩
  rw [← hnL] at rL ⊢
  have xLA : nL ≠ w.heap.size := by omega
  have xLB : nL ≠ w.heap.size + 1 := by omega
  have xLC : nL ≠ w.heap.size + 2 := by omega
  have HLT2 : Hid (∀ b, H b → b < w2.heap.size) := Lib.hid fun b hb => by have := HLT.out b hb; omega
  clear hb1 hb2 hb hnL
  obtain ⟨k0, k1, k2, _, _, _⟩ := Row3 rA
  obtain ⟨l0, l1, l2, _, _, _⟩ := Row3 rL
  have HBW := Lib.hid hbb
  have hOw : ∀ (W : World), Kept (Any (es2 3 (w.heap.size + 1) 4 (w.heap.size + 2))) w2 W → Below w.heap.size w W ∧ w2.heap.size ≤ W.heap.size := fun W hk => ⟨HBW.out.trans (hk.below (fun b hb => by rcases any2 hb with rfl | rfl <;> omega) HBW.out.size), hk.size⟩
  have HW := Lib.hid hOw
  have HO : Hid (∀ k b, Oth (es2 3 (w.heap.size + 1) 4 (w.heap.size + 2)) k b → H b) := Lib.hid fun k b hb => by rcases any2 hb.any with e | e; exact HnB.out b e; exact HnC.out b e
  clear hOw
  go_upto_region 3 with fail
  clear k0 k1 k2 l0 l1 l2
  refine wp_region_puts (wx := w2) [(fun _ v => v = .agg #[.slice a1 S c1, .slice a2 S c2, .slice a3 S c3]), (fun _ v => v = .agg #[.int .i64 0, .int .i64 0, .slice none 0 0]), (fun _ v => v = .int .i64 21), (fun W _ => Row W (w.heap.size + 1) 28 [.slice a1 S c1, .slice a2 S c2, .slice a3 S c3]), (fun W _ => Row W (w.heap.size + 2) 68 [.int .i64 0, .int .i64 0, .slice none 0 0]), (fun _ v => v = .int .i64 21)] [(fun W => Row W w.heap.size 28 [.slice a1 S c1, .slice a2 S c2, .slice a3 S c3]), (fun W => Row W nL 68 [.int .i64 0, .int .i64 0, .slice none 0 0]), (fun _ => True), (fun W => Row W (w.heap.size + 1) 28 [.slice none 0 0, .slice none 0 0, .slice none 0 0]), (fun W => Row W (w.heap.size + 2) 68 [.int .i64 0, .int .i64 0, .slice none 0 0]), (fun _ => True)] [some 17, some 18, some 19, none, none, some 4] (es2 3 (w.heap.size + 1) 4 (w.heap.size + 2)) [17, 18, 19, 4] (by kernel_rfl) (by kernel_rfl) (by kernel_rfl) (by kernel_rfl) (of_decide_eq_true (by kernel_rfl)) ((Kept.refl _)) ⟨stayP_val _ _, stayP_val _ _, stayP_val _ _, (fun W W' _ h hk => h.mono hk (fun ho => by have := oth2a ho; omega)), (fun W W' _ h hk => h.mono hk (fun ho => by have := oth2b ho; omega)), stayP_val _ _, trivial⟩ ⟨(fun W W' _ h hk => h.mono hk (fun ho => by rcases any2 ho.any with e | e <;> omega)), (fun W W' _ h hk => h.mono hk (fun ho => by rcases any2 ho.any with e | e <;> omega)), (fun _ _ _ h _ => h), (fun W W' _ h hk => h.mono hk (fun ho => by have := oth2a ho; omega)), (fun W W' _ h hk => h.mono hk (fun ho => by have := oth2b ho; omega)), (fun _ _ _ h _ => h), trivial⟩ ?hP0 ⟨?s0, ?s1, ?s2, ?s3, ?s4, ?s5, trivial⟩ ?he
  case hP0 =>
    intro k
    match k with
    | 0 => exact rA.drew
    | 1 => exact rL.drew
    | 2 => exact trivial
    | 3 => exact rB.drew
    | 4 => exact rC.drew
    | 5 => exact trivial
    | k + 6 => exact trivial
  case s0 =>
    rintro T W hk hP hA K hK
    have hP : Row W w.heap.size 28 [.slice a1 S c1, .slice a2 S c2, .slice a3 S c3] := hP
    obtain ⟨x0, x1, x2, _, _, _⟩ := Row3 hP
    simp only [ovr, Act.put, List.setIfInBounds_toArray, List.set_cons_zero, List.set_cons_succ] at hK ⊢
    have HK := Lib.hid hK
    clear hK hA
    refine wpOp_want rfl (by rfl) ?_
    go_simp
    exact HK.out _ _ (Kept.refl _) (rfl)
  case s1 =>
    rintro T W hk hP hA K hK
    have hP : Row W nL 68 [.int .i64 0, .int .i64 0, .slice none 0 0] := hP
    obtain ⟨x0, x1, x2, _, _, _⟩ := Row3 hP
    simp only [ovr, Act.put, List.setIfInBounds_toArray, List.set_cons_zero, List.set_cons_succ] at hK ⊢
    have HK := Lib.hid hK
    clear hK hA
    refine wpOp_want rfl (by rfl) ?_
    go_simp
    exact HK.out _ _ (Kept.refl _) (rfl)
  case s2 =>
    rintro T W hk hP hA K hK
    simp only [ovr, Act.put, List.setIfInBounds_toArray, List.set_cons_zero, List.set_cons_succ] at hK ⊢
    have HK := Lib.hid hK
    clear hK hA
    refine wpOp_want rfl (by rfl) ?_
    go_simp
    exact HK.out _ _ (Kept.refl _) (rfl)
  case s3 =>
    rintro T W hk hP hA K hK
    have e0 : T 17 = .agg #[.slice a1 S c1, .slice a2 S c2, .slice a3 S c3] := hA.1
    have hP : Row W (w.heap.size + 1) 28 [.slice none 0 0, .slice none 0 0, .slice none 0 0] := hP
    obtain ⟨q0, q1, q2, f0, f1, f2⟩ := Row3 hP
    simp only [ovr, Act.put, List.setIfInBounds_toArray, List.set_cons_zero, List.set_cons_succ, e0] at hK ⊢
    have HK := Lib.hid hK
    clear hK hA
    refine wpOp_want rfl (by rfl) ?_
    go_simp
    exact HK.out undef _ ((put3_kept W (w.heap.size + 1) (.slice a1 S c1) (.slice a2 S c2) (.slice a3 S c3)).wider (fun b hb => by subst hb; rfl)) (hP.put3 (.slice a1 S c1) (.slice a2 S c2) (.slice a3 S c3))
  case s4 =>
    rintro T W hk hP hA K hK
    have e1 : T 18 = .agg #[.int .i64 0, .int .i64 0, .slice none 0 0] := hA.1
    have e0 : T 17 = .agg #[.slice a1 S c1, .slice a2 S c2, .slice a3 S c3] := hA.2.2.1
    have hP : Row W (w.heap.size + 2) 68 [.int .i64 0, .int .i64 0, .slice none 0 0] := hP
    obtain ⟨q0, q1, q2, f0, f1, f2⟩ := Row3 hP
    simp only [ovr, Act.put, List.setIfInBounds_toArray, List.set_cons_zero, List.set_cons_succ, e1, e0] at hK ⊢
    have HK := Lib.hid hK
    clear hK hA
    refine wpOp_want rfl (by rfl) ?_
    go_simp
    exact HK.out undef _ ((put3_kept W (w.heap.size + 2) (.int .i64 0) (.int .i64 0) (.slice none 0 0)).wider (fun b hb => by subst hb; rfl)) (hP.put3 (.int .i64 0) (.int .i64 0) (.slice none 0 0))
  case s5 =>
    rintro T W hk hP hA K hK
    have e2 : T 19 = .int .i64 21 := hA.1
    have e0 : T 17 = .agg #[.slice a1 S c1, .slice a2 S c2, .slice a3 S c3] := hA.2.2.1
    have e1 : T 18 = .agg #[.int .i64 0, .int .i64 0, .slice none 0 0] := hA.2.2.2.1
    simp only [ovr, Act.put, List.setIfInBounds_toArray, List.set_cons_zero, List.set_cons_succ, e2, e0, e1] at hK ⊢
    have HK := Lib.hid hK
    clear hK hA
    refine wpOp_want rfl (by rfl) ?_
    go_simp
    exact HK.out _ _ (Kept.refl _) (rfl)
  case he =>
    rintro T W hk hA
    have g5 : T 4 = .int .i64 21 := hA.at 5 (by decide)
    have r3 : Row W (w.heap.size + 1) 28 [.slice a1 S c1, .slice a2 S c2, .slice a3 S c3] := hA.at 3 (by decide)
    have r4 : Row W (w.heap.size + 2) 68 [.int .i64 0, .int .i64 0, .slice none 0 0] := hA.at 4 (by decide)
    simp only [ovr, List.setIfInBounds_toArray, List.set_cons_zero, List.set_cons_succ, g5]
    obtain ⟨q0, q1, q2, _, _, _⟩ := Row3 r3
    obtain ⟨s0, s1, s2, _, _, _⟩ := Row3 r4
    have hbW := (HW.out W hk).1
    have HF := Lib.hid (HR.out.kept (hk.wider (fun b hb => by rcases any2 hb with e | e; exact HnB.out b e; exact HnC.out b e)))
    clear hA
    go_wp2
    refine bodyPost_ret (v := .tuple #[.agg #[.slice a1 S c1, .slice a2 S c2, .slice a3 S c3], .agg #[.int .i64 0, .int .i64 0, .slice none 0 0], .int .i64 21]) (by simp [results, Tryz.results32, go_sem, q0, q1, q2, s0, s1, s2]) rfl ⟨⟨_, 0, _, rfl, RefV.mk (HF.out.narrow' HGH.out), OwnV.nil _ _ _⟩, hbW⟩

set_option maxRecDepth 100000 in
set_option maxHeartbeats 6400000 in
theorem rRecover_some {a1 a2 a3 : Option Addr} {c1 c2 c3 : Nat} (L : Wl.Log) (hG : ∀ b, G b → b < w.heap.size) (h : RefD w G S a1 a2 a3 d) (hE : Env w) (hl : Hid (Wl.log d.now = some L)) :
    Calls Tryz.prog 32 #[.agg #[.slice a1 S c1, .slice a2 S c2, .slice a3 S c3]] w fun e w' => RecV w w' G S d.rec'.1 L.first L.recs 0 e ∧ Below w.heap.size w w' := by
  have hdr : d.rec'.1 = Wl.Dk.syn ⟨Wl.swp d.now (Wl.used (S - 2) L.first L.recs.length) S, d.old, d.dirty⟩ := by
    unfold Wl.Dk.rec'; rw [hl.out, ← h.ok.now]
  have HDR := Lib.hid hdr
  clear hdr
  obtain ⟨_, h2, h3, h4⟩ := Wl.log_le hl.out
  have hnl := h.ok.now
  rw [hnl] at h3 h4
  have HNL := Lib.hid hnl
  have hS := h.hi
  have hh1 := (Wl.log_le hl.out).1
  unfold Wl.lim at h2 hh1
  obtain ⟨b, hb0⟩ : ∃ b, b = L.first := ⟨_, rfl⟩
  obtain ⟨n, hn0⟩ : ∃ n, n = L.recs.length := ⟨_, rfl⟩
  obtain ⟨hd, hh0⟩ : ∃ hd, hd = L.header := ⟨_, rfl⟩
  rw [← hb0] at h2
  rw [← hn0] at h3
  rw [← hh0] at hh1
  have HB := Lib.hid hb0
  have HN := Lib.hid hn0
  have HH := Lib.hid hh0
  clear hb0 hn0 hh0 hnl
  rw [← HB.out, ← HN.out] at HDR
  go_enter Tryz.func32, Tryz.ntmps32
  go_upto_region 1 with fail
  obtain ⟨hA, hB, hC, hsz, hb⟩ := heap3 w (.cells #[.slice a1 S c1, .slice a2 S c2, .slice a3 S c3] 28) (.cells #[.slice none 0 0, .slice none 0 0, .slice none 0 0] 28) (.cells #[.int .i64 0, .int .i64 0, .slice none 0 0] 68)
  generalize (((w.alloc (.cells #[.slice a1 S c1, .slice a2 S c2, .slice a3 S c3] 28)).alloc (.cells #[.slice none 0 0, .slice none 0 0, .slice none 0 0] 28)).alloc (.cells #[.int .i64 0, .int .i64 0, .slice none 0 0] 68)) = wr at *
  have rA : Row wr w.heap.size 28 [.slice a1 S c1, .slice a2 S c2, .slice a3 S c3] := hA
  have rB : Row wr (w.heap.size + 1) 28 [.slice none 0 0, .slice none 0 0, .slice none 0 0] := hB
  have rC : Row wr (w.heap.size + 2) 68 [.int .i64 0, .int .i64 0, .slice none 0 0] := hC
  obtain ⟨H, hH⟩ : ∃ H : Nat → Prop, ∀ b, H b ↔ (G b ∨ b = w.heap.size ∨ b = w.heap.size + 1 ∨ b = w.heap.size + 2) := ⟨_, fun _ => Iff.rfl⟩
  have hR : RefD wr H S a1 a2 a3 d := h.lift hb (fun b hlt hh => by rcases (hH b).1 hh with h' | h' | h' | h'; exact h'; omega; omega; omega)
  have HGH : Hid (∀ b, G b → H b) := Lib.hid (fun b hb' => (hH b).2 (.inl hb'))
  have HnA : Hid (∀ b, b = w.heap.size → H b) := Lib.hid (fun b hb' => (hH b).2 (.inr (.inl hb')))
  have HnB : Hid (∀ b, b = w.heap.size + 1 → H b) := Lib.hid (fun b hb' => (hH b).2 (.inr (.inr (.inl hb'))))
  have HnC : Hid (∀ b, b = w.heap.size + 2 → H b) := Lib.hid (fun b hb' => (hH b).2 (.inr (.inr (.inr hb'))))
  have HLT : Hid (∀ b, H b → b < wr.heap.size) := Lib.hid (fun b hb' => by rcases (hH b).1 hb' with h' | h' | h' | h'; have := hG b h'; omega; omega; omega; omega)
  have HR := Lib.hid hR
  have hE0 := hE
  have hE := hE.mono hb
  obtain ⟨k0, k1, k2, _, _, _⟩ := Row3 rA
  clear hA hB hC h hH hR hG
  have hwrl : w.heap.size + 2 < wr.heap.size := by omega
  have hRd := rRead_some (c1 := c1) (c2 := c2) (c3 := c3) L HR.out hE hl
  go_wp2_with fail
  (with_reducible refine hRd.mono ?_)
  rintro e w1 ⟨⟨v, rfl, hown⟩, hb1⟩
  obtain ⟨ao, cap, rfl, hcap, -⟩ := hown.read
  simp only [List.length_map, ← HB.out, ← HN.out, ← HH.out] at hcap hown ⊢
  clear hRd k0 k1 k2
  go_upto_region 2 with fail
  have hb2 := below_alloc w1 (.cells #[.int .i64 hd, .int .i64 b, .slice ao n cap] 68)
  have rL : Row (w1.alloc (.cells #[.int .i64 hd, .int .i64 b, .slice ao n cap] 68)) w1.heap.size 68 [.int .i64 hd, .int .i64 b, .slice ao n cap] := heap_alloc_new _ _
  generalize (w1.alloc (.cells #[.int .i64 hd, .int .i64 b, .slice ao n cap] 68)) = w2 at *
  have rA := (rA.below hb1).below hb2
  have rB := (rB.below hb1).below hb2
  have rC := (rC.below hb1).below hb2
  have HR := Lib.hid ((HR.out.mono hb1).mono hb2)
  have hbb := Below.step (Below.step hb hb1 (Nat.le_refl _)) hb2 (Nat.le_refl _)
  have hs1 := hb1.size
  have hs2 := hb2.size
  have hown := hown.mono hb2
  obtain ⟨nL, hnL⟩ : ∃ nL, nL = w1.heap.size := ⟨_, rfl⟩
  rw [← hnL] at rL ⊢
  have xLA : nL ≠ w.heap.size := by omega
  have xLB : nL ≠ w.heap.size + 1 := by omega
  have xLC : nL ≠ w.heap.size + 2 := by omega
  have HLT2 : Hid (∀ b, H b → b < w2.heap.size) := Lib.hid fun b hb => by have := HLT.out b hb; omega
  clear hb1 hb2 hb hnL
  obtain ⟨k0, k1, k2, _, _, _⟩ := Row3 rA
  obtain ⟨l0, l1, l2, _, _, _⟩ := Row3 rL
  have hSd : ∀ (W : World), Kept (fun b => b = w.heap.size) w2 W → Below w.heap.size w W := fun W hk => hbb.trans (hk.below (by rintro b rfl; exact Nat.le_refl _) hbb.size)
  have HSD := Lib.hid hSd
  have HOWN := Lib.hid hown
  clear hown hSd
  go_wp2_with fail
  obtain ⟨wl, rfl⟩ : ∃ wl : World, wl = w2 := ⟨_, rfl⟩
  go_loopw [7] (fun s7 wr => ∃ (i : Nat) (dy : List Bool) (b1 b2 b3 : Option Addr) (m1 m2 m3 : Nat), i ≤ S ∧ 2 ≤ i ∧ s7 = .int .i64 i ∧ Hid (Row wr w.heap.size 28 [.slice b1 S m1, .slice b2 S m2, .slice b3 S m3]) ∧ Hid (RefD wr H S b1 b2 b3 ⟨Wl.swp d.now (Wl.used (S - 2) b n) i, d.old, dy⟩) ∧ Kept (fun b => b = w.heap.size) wl wr) (fun s7 _ => S - (intOf s7).toNat)
  case atStart =>
    refine ⟨2, d.dirty, a1, a2, a3, c1, c2, c3, by omega, by omega, rfl, Lib.hid rA, Lib.hid ?_, Kept.refl _⟩
    have : Wl.swp d.now (Wl.used (S - 2) b n) 2 = d.now := by simp [Wl.swp]
    rw [this]; exact HR.out
  case round =>
    clear k0 k1 k2 l0 l1 l2
    have rA0 := Lib.hid rA
    clear rA HR
    obtain ⟨i, dy, b1, b2, b3, m1, m2, m3, hi, hi2, rfl, RA, RD, hkp⟩ := hrel
    obtain ⟨k0, k1, k2, _, _, _⟩ := Row3 RA.out
    have rLr := rL.mono hkp xLA
    obtain ⟨l0, l1, l2, _, _, _⟩ := Row3 rLr
    by_cases hlt : i < S
    · have hlt' : decide ((i : Int) < (S : Int)) = true := by simp; omega
      go_wp2_with fail
      obtain ⟨wm, rfl⟩ : ∃ wm : World, wm = wr := ⟨_, rfl⟩
      go_loopw [8, 9] (fun s8 s9 wq => ∃ k : Nat, k ≤ n ∧ s8 = .bool (Wl.used (S - 2) b k i) ∧ s9 = .int .i64 k ∧ Below wm.heap.size wm wq) (fun _ s9 _ => n - (intOf s9).toNat)
      case atStart => exact ⟨0, Nat.zero_le _, by rw [Wl.used_zero], rfl, Below.refl _ _⟩
      case round =>
        clear k0 k1 k2 l0 l1 l2
        obtain ⟨k, hk, rfl, rfl, hbq⟩ := hrel
        have RAq := RA.out.below hbq
        obtain ⟨k0, k1, k2, _, _, _⟩ := Row3 RAq
        have rLq := rLr.below hbq
        obtain ⟨l0, l1, l2, _, _, _⟩ := Row3 rLq
        by_cases hk2 : k < n
        · have hk2' : decide ((k : Int) < (n : Int)) = true := by simp; omega
          cases hu : Wl.used (S - 2) b k i with
          | true =>
            have HU : Hid (Wl.used (S - 2) b (k + 1) i = true) := Lib.hid (by rw [Wl.used_succ, hu]; rfl)
            clear hu
            go_wp2
            go_roundw
            case rel => exact ⟨k + 1, by omega, by rw [HU.out], by go_num, hbq⟩
            case measure => simp [intOf]; omega
          | false =>
            have hP := rplace_any (w := wr) (b + k) (a1 := b1) (a2 := b2) (a3 := b3) (c1 := m1) (c2 := m2) (c3 := m3) h4 hS (by omega)
            have hpl := Wl.place_lt (m := S - 2) (k := b + k) (by omega)
            have hus := Wl.used_succ (S - 2) b k i
            rw [hu, Bool.false_or] at hus
            rw [Int.natCast_add] at hP
            generalize Wl.place (S - 2) (b + k) = q at *
            clear hu
            by_cases hqi : q = i
            · have hqe : ((q : Int) == (i : Int)) = true := by simp; omega
              have HU : Hid (Wl.used (S - 2) b (k + 1) i = true) := Lib.hid (by rw [hus]; simp [hqi])
              clear hus hqi
              go_wp2_with fail
              (with_reducible refine hP.mono ?_)
              rintro e w3 ⟨rfl, hb3⟩
              have hbq3 := Below.step hbq hb3 (Nat.le_refl _)
              clear hP
              go_wp2
              go_roundw
              case rel => exact ⟨k + 1, by omega, by rw [HU.out], by go_num, hbq3⟩
              case measure => simp [intOf]; omega
            · have hqe : ((q : Int) == (i : Int)) = false := by simp; omega
              have HU : Hid (Wl.used (S - 2) b (k + 1) i = false) := Lib.hid (by rw [hus]; simp [hqi])
              clear hus hqi
              go_wp2_with fail
              (with_reducible refine hP.mono ?_)
              rintro e w3 ⟨rfl, hb3⟩
              have hbq3 := Below.step hbq hb3 (Nat.le_refl _)
              clear hP
              go_wp2
              go_roundw
              case rel => exact ⟨k + 1, by omega, by rw [HU.out], by go_num, hbq3⟩
              case measure => simp [intOf]; omega
        · obtain rfl : k = n := by omega
          have hk2' : decide ((k : Int) < (k : Int)) = false := by simp
          have hkq : Kept (fun b => b = w.heap.size) wl wr := hkp.trans (Kept.of_below hbq)
          have RDq := Lib.hid (RD.out.mono hbq)
          have hab := Wl.swp_above d.now (Wl.used (S - 2) b k) i i (Nat.le_refl _)
          obtain ⟨bb, off, rfl, -, ca⟩ := RDq.out.now.at' (k := i) (by simp [RDq.out.ok.now]; exact hlt)
          rw [svs_get (by rw [RDq.out.ok.now]; exact hlt)] at ca
          simp only at ca
          rw [hab] at ca
          clear hab hk2
          cases hu : Wl.used (S - 2) b k i with
          | true =>
            have HS2 : Hid (Wl.swp d.now (Wl.used (S - 2) b k) (i + 1) = Wl.swp d.now (Wl.used (S - 2) b k) i) := Lib.hid (by rw [Wl.swp, if_neg (by rw [hu]; simp)])
            clear hu
            go_wp2
            go_roundw
            case rel => exact ⟨i + 1, dy, _, b2, b3, m1, m2, m3, by omega, by omega, by go_num, Lib.hid RAq, by rw [HS2.out]; exact RDq, hkq⟩
            case measure => simp [intOf]; omega
          | false =>
            by_cases hs : d.now.getD i [] = []
            · have HS2 : Hid (Wl.swp d.now (Wl.used (S - 2) b k) (i + 1) = Wl.swp d.now (Wl.used (S - 2) b k) i) := Lib.hid (Wl.swp_same d.now _ (by rw [HNL.out]; exact hlt) hs)
              rw [hs] at ca
              clear hu hs
              go_wp2
              go_roundw
              case rel => exact ⟨i + 1, dy, _, b2, b3, m1, m2, m3, by omega, by omega, by go_num, Lib.hid RAq, by rw [HS2.out]; exact RDq, hkq⟩
              case measure => simp [intOf]; omega
            · have HS2 : Hid (Wl.swp d.now (Wl.used (S - 2) b k) (i + 1) = (Wl.swp d.now (Wl.used (S - 2) b k) i).set i []) := Lib.hid (by rw [Wl.swp, if_pos ⟨hi2, hu⟩])
              obtain ⟨s, hs0⟩ : ∃ s, d.now.getD i [] = s := ⟨_, rfl⟩
              rw [hs0] at ca hs
              have hse : s.isEmpty = false := by simpa using hs
              have hse2 : (s == []) = false := by simpa using hs
              have hlw : ∀ b, H b → b < wr.heap.size := fun b hb => Nat.lt_of_lt_of_le (HLT2.out b hb) hkq.size
              have hPu := rput_yes (w := wr) (G := H) (c1 := m1) (c2 := m2) (c3 := m3) i [] hlw RDq.out hlt (by simp)
              clear hu hs hs0
              obtain ⟨k0, k1, k2, z0, z1, z2⟩ := Row3 RAq
              go_wp2_with fail
              (with_reducible refine hPu.mono ?_)
              rintro e w3 ⟨⟨v, rfl, e1, n1, e2, n2, e3, n3, rfl, hR3⟩, hb3⟩
              have RA3 := RAq.below hb3
              obtain ⟨k0, k1, k2, z0, z1, z2⟩ := Row3 RA3
              have hput := put3_kept w3 w.heap.size (.slice e1 S n1) (.slice e2 S n2) (.slice e3 S n3)
              have RA4 := Lib.hid (RA3.put3 (.slice e1 S n1) (.slice e2 S n2) (.slice e3 S n3))
              have RD4 := Lib.hid (hR3.kept (hput.wider HnA.out))
              have hk4 := (hkq.trans (Kept.of_below hb3)).trans hput
              unfold put3 at RD4 hk4
              clear hPu hput hR3 ca
              go_wp2
              go_roundw
              case rel => exact ⟨i + 1, dy.set i true, e1, e2, e3, n1, n2, n3, by omega, by omega, by go_num, RA4, by rw [HS2.out]; exact RD4, hk4⟩
              case measure => simp [intOf]; omega
    · obtain rfl : i = S := by omega
      have hlt' : decide ((i : Int) < (i : Int)) = false := by simp
      have HDS : Hid ((Wl.Dk.mk (Wl.swp d.now (Wl.used (i - 2) b n) i) d.old dy).syn = d.rec'.1) := Lib.hid (by rw [HDR.out]; rfl)
      have rBr := rB.mono hkp (show ¬ w.heap.size + 1 = w.heap.size by omega)
      have rCr := rC.mono hkp (show ¬ w.heap.size + 2 = w.heap.size by omega)
      have HBW := Lib.hid (HSD.out _ hkp)
      have HLT3 : Hid (∀ b, H b → b < wr.heap.size) := Lib.hid fun b hb => Nat.lt_of_lt_of_le (HLT2.out b hb) hkp.size
      have HOW := Lib.hid (HOWN.out.kept hkp (by rintro b rfl; omega))
      have rAr := RA.out
      have HRr := RD
      have hOw : ∀ (W : World), Kept (Any (es2 3 (w.heap.size + 1) 4 (w.heap.size + 2))) wr W → Below w.heap.size w W ∧ wr.heap.size ≤ W.heap.size := fun W hk => ⟨HBW.out.trans (hk.below (fun b hb => by rcases any2 hb with rfl | rfl <;> omega) HBW.out.size), hk.size⟩
      have HW := Lib.hid hOw
      have HO : Hid (∀ k b, Oth (es2 3 (w.heap.size + 1) 4 (w.heap.size + 2)) k b → H b) := Lib.hid fun k b hb => by rcases any2 hb.any with e | e; exact HnB.out b e; exact HnC.out b e
      clear hOw rA0
      go_upto_region 14 with fail
      clear k0 k1 k2 l0 l1 l2
      refine wp_region_puts (wx := wr) [(fun _ v => v = .agg #[.slice b1 i m1, .slice b2 i m2, .slice b3 i m3]), (fun W v => RefV W H i v (d.rec'.1)), (fun _ v => v = .agg #[.int .i64 hd, .int .i64 b, .slice ao n cap]), (fun W _ => BoxD W H i (w.heap.size + 1) (d.rec'.1)), (fun W _ => Row W (w.heap.size + 2) 68 [.int .i64 hd, .int .i64 b, .slice ao n cap]), (fun _ v => v = .int .i64 0)] [(fun W => Row W w.heap.size 28 [.slice b1 i m1, .slice b2 i m2, .slice b3 i m3]), (fun W => RefD W H i b1 b2 b3 ⟨Wl.swp d.now (Wl.used (i - 2) b n) i, d.old, dy⟩), (fun W => Row W nL 68 [.int .i64 hd, .int .i64 b, .slice ao n cap]), (fun W => ∃ u0 u1 u2, Row W (w.heap.size + 1) 28 [u0, u1, u2]), (fun W => ∃ u0 u1 u2, Row W (w.heap.size + 2) 68 [u0, u1, u2]), (fun _ => True)] [some 58, some 59, some 60, none, none, some 4] (es2 3 (w.heap.size + 1) 4 (w.heap.size + 2)) [58, 59, 60, 4] (by kernel_rfl) (by kernel_rfl) (by kernel_rfl) (by kernel_rfl) (of_decide_eq_true (by kernel_rfl)) ((Kept.refl _)) ⟨stayP_val _ _, (fun W W' v h hk => h.kept (hk.wider (fun b hb => HO.out _ b hb))), stayP_val _ _, (fun W W' _ h hk => h.kept hk (fun ho => by have := oth2a ho; omega) (fun b hb => HO.out _ b hb)), (fun W W' _ h hk => h.mono hk (fun ho => by have := oth2b ho; omega)), stayP_val _ _, trivial⟩ ⟨(fun W W' _ h hk => h.mono hk (fun ho => by rcases any2 ho.any with e | e <;> omega)), (fun W W' _ h hk => h.kept (hk.wider (fun b hb => HO.out _ b hb))), (fun W W' _ h hk => h.mono hk (fun ho => by rcases any2 ho.any with e | e <;> omega)), (fun W W' _ h hk => by obtain ⟨u0, u1, u2, h⟩ := h; exact ⟨u0, u1, u2, h.mono hk (fun ho => by have := oth2a ho; omega)⟩), (fun W W' _ h hk => by obtain ⟨u0, u1, u2, h⟩ := h; exact ⟨u0, u1, u2, h.mono hk (fun ho => by have := oth2b ho; omega)⟩), (fun _ _ _ h _ => h), trivial⟩ ?hP0 ⟨?s0, ?s1, ?s2, ?s3, ?s4, ?s5, trivial⟩ ?he
      case hP0 =>
        intro k
        match k with
        | 0 => exact rAr.drew
        | 1 => exact HRr.out.kept (Kept.refl _).drew
        | 2 => exact rLr.drew
        | 3 => exact ⟨_, _, _, rBr.drew⟩
        | 4 => exact ⟨_, _, _, rCr.drew⟩
        | 5 => exact trivial
        | k + 6 => exact trivial
      case s0 =>
        rintro T W hk hP hA K hK
        have hP : Row W w.heap.size 28 [.slice b1 i m1, .slice b2 i m2, .slice b3 i m3] := hP
        obtain ⟨x0, x1, x2, _, _, _⟩ := Row3 hP
        simp only [ovr, Act.put, List.setIfInBounds_toArray, List.set_cons_zero, List.set_cons_succ] at hK ⊢
        have HK := Lib.hid hK
        clear hK hA
        refine wpOp_want rfl (by rfl) ?_
        go_simp
        exact HK.out _ _ (Kept.refl _) (rfl)
      case s1 =>
        rintro T W hk hP hA K hK
        have e0 : T 58 = .agg #[.slice b1 i m1, .slice b2 i m2, .slice b3 i m3] := hA.1
        have hP : RefD W H i b1 b2 b3 ⟨Wl.swp d.now (Wl.used (i - 2) b n) i, d.old, dy⟩ := hP
        simp only [ovr, Act.put, List.setIfInBounds_toArray, List.set_cons_zero, List.set_cons_succ, e0] at hK ⊢
        have HK := Lib.hid hK
        clear hK hA
        refine wpOp_want rfl (by rfl) ?_
        go_simp
        (with_reducible refine (rSync_any (w := W) (G := H) (c1 := m1) (c2 := m2) (c3 := m3) (fun b hb => Nat.lt_of_lt_of_le (HLT3.out b hb) (HW.out W hk).2) hP).mono ?_)
        rintro e w1 ⟨⟨v, rfl, hv⟩, hb1⟩
        rw [HDS.out] at hv
        dsimp only
        exact HK.out _ _ (Kept.of_below hb1) (hv)
      case s2 =>
        rintro T W hk hP hA K hK
        have hP : Row W nL 68 [.int .i64 hd, .int .i64 b, .slice ao n cap] := hP
        obtain ⟨x0, x1, x2, _, _, _⟩ := Row3 hP
        simp only [ovr, Act.put, List.setIfInBounds_toArray, List.set_cons_zero, List.set_cons_succ] at hK ⊢
        have HK := Lib.hid hK
        clear hK hA
        refine wpOp_want rfl (by rfl) ?_
        go_simp
        exact HK.out _ _ (Kept.refl _) (rfl)
      case s3 =>
        rintro T W hk hP hA K hK
        have r1 : (fun W v => RefV W H i v (d.rec'.1)) W (T 59) := hA.1
        have e0 : T 58 = .agg #[.slice b1 i m1, .slice b2 i m2, .slice b3 i m3] := hA.2.2.1
        have hP : ∃ u0 u1 u2, Row W (w.heap.size + 1) 28 [u0, u1, u2] := hP
        obtain ⟨x1, y1, x2, y2, x3, y3, ev, hr⟩ := r1
        obtain ⟨u0, u1, u2, hu⟩ := hP
        obtain ⟨q0, q1, q2, f0, f1, f2⟩ := Row3 hu
        simp only [ovr, Act.put, List.setIfInBounds_toArray, List.set_cons_zero, List.set_cons_succ, e0, ev] at hK ⊢
        have HK := Lib.hid hK
        clear hK hA
        refine wpOp_want rfl (by rfl) ?_
        go_simp
        exact HK.out undef _ ((put3_kept W (w.heap.size + 1) (.slice x1 i y1) (.slice x2 i y2) (.slice x3 i y3)).wider (fun b hb => by subst hb; rfl)) (⟨_, _, _, _, _, _, hu.put3 (.slice x1 i y1) (.slice x2 i y2) (.slice x3 i y3), hr.kept ((put3_kept W (w.heap.size + 1) (.slice x1 i y1) (.slice x2 i y2) (.slice x3 i y3)).wider HnB.out)⟩)
      case s4 =>
        rintro T W hk hP hA K hK
        have e2 : T 60 = .agg #[.int .i64 hd, .int .i64 b, .slice ao n cap] := hA.1
        have e0 : T 58 = .agg #[.slice b1 i m1, .slice b2 i m2, .slice b3 i m3] := hA.2.2.1
        have r1 : (fun W v => RefV W H i v (d.rec'.1)) W (T 59) := hA.2.2.2.1
        have hP : ∃ u0 u1 u2, Row W (w.heap.size + 2) 68 [u0, u1, u2] := hP
        obtain ⟨u0, u1, u2, hu⟩ := hP
        obtain ⟨q0, q1, q2, f0, f1, f2⟩ := Row3 hu
        simp only [ovr, Act.put, List.setIfInBounds_toArray, List.set_cons_zero, List.set_cons_succ, e2, e0] at hK ⊢
        have HK := Lib.hid hK
        clear hK hA
        refine wpOp_want rfl (by rfl) ?_
        go_simp
        exact HK.out undef _ ((put3_kept W (w.heap.size + 2) (.int .i64 hd) (.int .i64 b) (.slice ao n cap)).wider (fun b hb => by subst hb; rfl)) (hu.put3 (.int .i64 hd) (.int .i64 b) (.slice ao n cap))
      case s5 =>
        rintro T W hk hP hA K hK
        have e0 : T 58 = .agg #[.slice b1 i m1, .slice b2 i m2, .slice b3 i m3] := hA.2.1
        have r1 : (fun W v => RefV W H i v (d.rec'.1)) W (T 59) := hA.2.2.1
        have e2 : T 60 = .agg #[.int .i64 hd, .int .i64 b, .slice ao n cap] := hA.2.2.2.1
        simp only [ovr, Act.put, List.setIfInBounds_toArray, List.set_cons_zero, List.set_cons_succ, e0, e2] at hK ⊢
        have HK := Lib.hid hK
        clear hK hA
        refine wpOp_want rfl (by rfl) ?_
        go_simp
        exact HK.out _ _ (Kept.refl _) (rfl)
      case he =>
        rintro T W hk hA
        have g5 : T 4 = .int .i64 0 := hA.at 5 (by decide)
        have r3 : BoxD W H i (w.heap.size + 1) (d.rec'.1) := hA.at 3 (by decide)
        have r4 : Row W (w.heap.size + 2) 68 [.int .i64 hd, .int .i64 b, .slice ao n cap] := hA.at 4 (by decide)
        simp only [ovr, List.setIfInBounds_toArray, List.set_cons_zero, List.set_cons_succ, g5]
        obtain ⟨j1, e1, j2, e2, j3, e3, hrow, href⟩ := r3.ex
        obtain ⟨q0, q1, q2, _, _, _⟩ := Row3 hrow
        obtain ⟨s0, s1, s2, _, _, _⟩ := Row3 r4
        have hbW := (HW.out W hk).1
        have hwo := Lib.hid (HOW.out.kept hk (fun b hb => by rcases any2 hb with rfl | rfl <;> omega))
        clear hA
        go_wp2
        refine bodyPost_ret (v := .tuple #[.agg #[.slice j1 i e1, .slice j2 i e2, .slice j3 i e3], .agg #[.int .i64 hd, .int .i64 b, .slice ao n cap], .int .i64 0]) (by simp [results, Tryz.results32, go_sem, q0, q1, q2, s0, s1, s2]) rfl ⟨⟨_, hd, _, by rw [← HB.out]; rfl, RefV.mk (href.narrow' HGH.out), hwo.out.weak (by omega)⟩, hbW⟩

theorem rRecover_rec {a1 a2 a3 : Option Addr} {c1 c2 c3 : Nat} (hG : ∀ b, G b → b < w.heap.size) (h : RefD w G S a1 a2 a3 d) (hE : Env w) :
    Calls Tryz.prog 32 #[.agg #[.slice a1 S c1, .slice a2 S c2, .slice a3 S c3]] w fun e w' => (match Wl.log d.now with | none => RecV w w' G S d.rec'.1 0 [] 21 e | some L => RecV w w' G S d.rec'.1 L.first L.recs 0 e) ∧ Below w.heap.size w w' := by
  cases hl : Wl.log d.now with
  | none =>
    have e1 : d.rec'.1 = d := by unfold Wl.Dk.rec'; rw [hl]
    rw [e1]
    exact rRecover_none hG h hE (Lib.hid hl)
  | some L => exact rRecover_some L hG h hE (Lib.hid hl)
end

end Go.Proofs.YtackeigdehfmmaaGreatDoor
