import Derived.Test.YtackeigdehfmmaaDoorYD
namespace Go.Proofs.YtackeigdehfmmaaDoor
open Go.RowKit

theorem svs_set (l : List Wl.Bs) (k : Nat) (s : Wl.Bs) : svs (l.set k s) = (svs l).set k (sv s) := List.map_set
theorem bvs_set (l : List Bool) (k : Nat) (s : Bool) : bvs (l.set k s) = (bvs l).set k (.bool s) := List.map_set

theorem RefO.drew {w : World} {B S g1 g2 g3 : Nat} {d : Wl.Dk} (h : RefO w B S g1 g2 g3 d) : RefO w.drew B S g1 g2 g3 d :=
  ⟨h.p1, h.p2, h.p3, h.b1, h.b2, h.b3, h.n12, h.n13, h.n23, h.ok, h.lo, h.hi⟩
theorem RefO.mono {w w' : World} {B S g1 g2 g3 : Nat} {d : Wl.Dk} (h : RefO w B S g1 g2 g3 d) (hb : Below w.heap.size w w') : RefO w' B S g1 g2 g3 d :=
  have hk : Kept (fun _ => False) w w' := Kept.of_below hb
  ⟨h.p1.kept hk (fun h => h), h.p2.kept hk (fun h => h), h.p3.kept hk (fun h => h), h.b1, h.b2, h.b3, h.n12, h.n13, h.n23, h.ok, h.lo, h.hi⟩

theorem RefO.setNow {w : World} {B S g1 g2 g3 : Nat} {d : Wl.Dk} (h : RefO w B S g1 g2 g3 d) (k : Nat) {s : Wl.Bs} (hs : s.length ≤ 65536) : RefO (w.setCell ⟨g1, k, none⟩ (sv s)) B S g1 g2 g3 ⟨d.now.set k s, d.old, d.dirty⟩ :=
  ⟨by show Pre _ _ _ (svs (d.now.set k s)); rw [svs_set]; exact h.p1.set k _, h.p2.other h.n12.symm _, h.p3.other h.n13.symm _, h.b1, h.b2, h.b3, h.n12, h.n13, h.n23, ⟨by simp [h.ok.now], h.ok.old, h.ok.dirty, Wl.mem_set_le h.ok.small hs, h.ok.small'⟩, h.lo, h.hi⟩
theorem RefO.setDirty {w : World} {B S g1 g2 g3 : Nat} {d : Wl.Dk} (h : RefO w B S g1 g2 g3 d) (k : Nat) (b : Bool) : RefO (w.setCell ⟨g3, k, none⟩ (.bool b)) B S g1 g2 g3 ⟨d.now, d.old, d.dirty.set k b⟩ :=
  ⟨h.p1.other h.n13 _, h.p2.other h.n23 _, by show Pre _ _ _ (bvs (d.dirty.set k b)); rw [bvs_set]; exact h.p3.set k _, h.b1, h.b2, h.b3, h.n12, h.n13, h.n23, ⟨h.ok.now, h.ok.old, by simp [h.ok.dirty], h.ok.small, h.ok.small'⟩, h.lo, h.hi⟩

/-- a disk of the reference and an error -/
def ResW (G : Nat → Prop) (S : Nat) (d : Wl.Dk) (c : Int) (w' : World) (e : Ending) : Prop := ∃ v, e = .returned (.tuple #[v, .int .i64 c]) ∧ RefV w' G S v d

section
variable {w : World} {G : Nat → Prop} {S : Nat} {d : Wl.Dk}

theorem rWrite_no (i : Int) (s : Wl.Bs) {a1 a2 a3 : Option Addr} {c1 c2 c3 : Nat} (h : RefD w G S a1 a2 a3 d) (hi : i < 0 ∨ (S : Int) ≤ i) :
    Calls Tryd.prog 75 #[.agg #[.slice a1 S c1, .slice a2 S c2, .slice a3 S c3], .int .i64 i, sv s] w fun e w' => ResW G S d 7 w' e ∧ Below w.heap.size w w' := by
  have hhi := h.hi
  have H := Lib.hid h
  clear h
  have hcc : decide (i < 0) = true ∨ (decide (i < 0) = false ∧ decide ((S : Int) ≤ i) = true) := by
    simp only [decide_eq_true_eq, decide_eq_false_iff_not]; omega
  clear hi
  rcases hcc with d0 | ⟨d0, d1⟩
  all_goals
    go_enter Tryd.func75, Tryd.ntmps75
    go_wp2
    have hb : Below w.heap.size w ((w.alloc (.cells #[.slice a1 S c1, .slice a2 S c2, .slice a3 S c3] 36)).alloc (.cells #[.slice a1 S c1, .slice a2 S c2, .slice a3 S c3] 36)) := ((Below.refl _ _).alloc (Nat.le_refl _) _).alloc (by simp) _
    refine bodyPost_ret (v := .tuple #[.agg #[.slice a1 S c1, .slice a2 S c2, .slice a3 S c3], .int .i64 7]) (by simp [results, Tryd.results75, go_sem]) rfl ⟨⟨_, rfl, RefV.mk (H.out.mono hb)⟩, hb⟩

theorem rWrite_big (i : Nat) (s : Wl.Bs) {a1 a2 a3 : Option Addr} {c1 c2 c3 : Nat} (h : RefD w G S a1 a2 a3 d) (hi : i < S) (hs : 65536 < s.length) (hs2 : s.length ≤ 9223372036854775807) :
    Calls Tryd.prog 75 #[.agg #[.slice a1 S c1, .slice a2 S c2, .slice a3 S c3], .int .i64 i, sv s] w fun e w' => ResW G S d 3 w' e ∧ Below w.heap.size w w' := by
  have hhi := h.hi
  have H := Lib.hid h
  clear h
  have d0 : decide ((i : Int) < 0) = false := by simp <;> omega
  have d1 : decide ((S : Int) ≤ i) = false := by simp <;> omega
  have d2 : decide ((65536 : Int) < (s.length : Int)) = true := by simp <;> omega
  go_enter Tryd.func75, Tryd.ntmps75
  go_wp2
  have hb : Below w.heap.size w ((w.alloc (.cells #[.slice a1 S c1, .slice a2 S c2, .slice a3 S c3] 36)).alloc (.cells #[.slice a1 S c1, .slice a2 S c2, .slice a3 S c3] 36)) := ((Below.refl _ _).alloc (Nat.le_refl _) _).alloc (by simp) _
  refine bodyPost_ret (v := .tuple #[.agg #[.slice a1 S c1, .slice a2 S c2, .slice a3 S c3], .int .i64 3]) (by simp [results, Tryd.results75, go_sem]) rfl ⟨⟨_, rfl, RefV.mk (H.out.mono hb)⟩, hb⟩

theorem Row3 {w : World} {g : Nat} {E : TypeId} {x y z : Value} (h : Row w g E [x, y, z]) : w.cell? ⟨g, 0, none⟩ = some x ∧ w.cell? ⟨g, 1, none⟩ = some y ∧ w.cell? ⟨g, 2, none⟩ = some z ∧ w.frozen? ⟨g, 0, none⟩ = false ∧ w.frozen? ⟨g, 1, none⟩ = false ∧ w.frozen? ⟨g, 2, none⟩ = false :=
  ⟨h.cell (k := 0) (by simp), h.cell (k := 1) (by simp), h.cell (k := 2) (by simp), h.free 0, h.free 1, h.free 2⟩

set_option maxRecDepth 100000 in
set_option maxHeartbeats 3200000 in
theorem rWrite_yes (i : Nat) (s : Wl.Bs) {a1 a2 a3 : Option Addr} {c1 c2 c3 : Nat} (hG : ∀ b, G b → b < w.heap.size) (h : RefD w G S a1 a2 a3 d) (hi : i < S) (hs : s.length ≤ 65536) :
    Calls Tryd.prog 75 #[.agg #[.slice a1 S c1, .slice a2 S c2, .slice a3 S c3], .int .i64 i, sv s] w fun e w' => ResW G S (d.wrt i s) 0 w' e ∧ Below w.heap.size w w' := by
  have hhi := h.hi
  have d0 : decide ((i : Int) < 0) = false := by simp <;> omega
  have d1 : decide ((S : Int) ≤ i) = false := by simp <;> omega
  have d2 : decide ((65536 : Int) < (s.length : Int)) = false := by simp <;> omega
  have HG := Lib.hid hG
  clear hG
  go_enter Tryd.func75, Tryd.ntmps75
  go_upto_region 1 with fail
  have hbx := (below_alloc w (.cells #[.slice a1 S c1, .slice a2 S c2, .slice a3 S c3] 36))
  have hby := below_alloc (w.alloc (.cells #[.slice a1 S c1, .slice a2 S c2, .slice a3 S c3] 36)) (.cells #[.slice none 0 0, .slice none 0 0, .slice none 0 0] 36)
  have hb := Below.step hbx hby (Nat.le_refl _)
  obtain ⟨hA, hB⟩ := heap2 w (.cells #[.slice a1 S c1, .slice a2 S c2, .slice a3 S c3] 36) (.cells #[.slice none 0 0, .slice none 0 0, .slice none 0 0] 36)
  clear hbx hby
  generalize ((w.alloc (.cells #[.slice a1 S c1, .slice a2 S c2, .slice a3 S c3] 36)).alloc (.cells #[.slice none 0 0, .slice none 0 0, .slice none 0 0] 36)) = wr at *
  have rA : Row wr w.heap.size 36 [.slice a1 S c1, .slice a2 S c2, .slice a3 S c3] := hA
  have rB : Row wr (w.heap.size + 1) 36 [.slice none 0 0, .slice none 0 0, .slice none 0 0] := hB
  have hC := rCopy_any (c1 := c1) (c2 := c2) (c3 := c3) (fun b hb' => Nat.lt_of_lt_of_le (HG.out b hb') hb.size) (h.mono hb)
  have hltB := rB.lt
  have hsr : w.heap.size + 1 ≤ wr.heap.size := by omega
  clear hA hB h
  obtain ⟨k0, k1, k2, _, _, _⟩ := Row3 rA
  go_wp2_with fail
  (with_reducible refine hC.mono ?_)
  rintro e w1 ⟨⟨g1, k1', g2, k2', g3, k3', rfl, HO⟩, hb1⟩
  clear k0 k1 k2 hC rA
  have rB := rB.below hb1
  go_upto_region 6 with fail
  have hb2 := below_alloc w1 (.cells #[.slice (some ⟨g1, 0, none⟩) S k1', .slice (some ⟨g2, 0, none⟩) S k2', .slice (some ⟨g3, 0, none⟩) S k3'] 36)
  have r8 : Row (w1.alloc (.cells #[.slice (some ⟨g1, 0, none⟩) S k1', .slice (some ⟨g2, 0, none⟩) S k2', .slice (some ⟨g3, 0, none⟩) S k3'] 36)) w1.heap.size 36 [.slice (some ⟨g1, 0, none⟩) S k1', .slice (some ⟨g2, 0, none⟩) S k2', .slice (some ⟨g3, 0, none⟩) S k3'] := heap_alloc_new _ _
  have hl1 := HO.p1.lt
  have hl3 := HO.p3.lt
  have hB1 := HO.b1
  have hB3 := HO.b3
  have hs1 := hb1.size
  have HO := HO.mono hb2
  have rB := rB.below hb2
  have hbb := Below.step (Below.step hb hb1 (Nat.le_refl _)) hb2 (Nat.le_refl _)
  have hs2 := hb2.size
  generalize (w1.alloc (.cells #[.slice (some ⟨g1, 0, none⟩) S k1', .slice (some ⟨g2, 0, none⟩) S k2', .slice (some ⟨g3, 0, none⟩) S k3'] 36)) = w2 at *
  obtain ⟨n8, hn8⟩ : ∃ n8, n8 = w1.heap.size := ⟨_, rfl⟩
  rw [← hn8] at r8 ⊢
  have x1 : n8 ≠ g1 := by omega
  have x3 : n8 ≠ g3 := by omega
  have y1 : g1 ≠ n8 := by omega
  have y3 : g3 ≠ n8 := by omega
  have z1 : w.heap.size + 1 ≠ g1 := by omega
  have z3 : w.heap.size + 1 ≠ g3 := by omega
  have n13 := HO.n13
  have n31 := HO.n13.symm
  have hg1 : w.heap.size ≤ g1 := by omega
  have hg3 : w.heap.size ≤ g3 := by omega
  clear hn8 hl1 hl3 hB1 hB3 hs1 hs2 hb2 hb1 hb
  have hcn := HO.p1.cell (k := i) (by simp [HO.ok.now]; exact hi)
  have hcd := HO.p3.cell (k := i) (by simp [HO.ok.dirty]; exact hi)
  rw [svs_get (by rw [HO.ok.now]; exact hi)] at hcn
  rw [bvs_get (by rw [HO.ok.dirty]; exact hi)] at hcd
  have hfn := HO.p1.free i
  have hfd := HO.p3.free i
  obtain ⟨k0, k1, k2, _, _, _⟩ := Row3 r8
  have HOH := Lib.hid HO
  have HS := Lib.hid hs
  clear HO hs
  go_region
  all_goals first
      | (have HW := ((HOH.out.setNow i HS.out).setDirty i true).drew
         have r8' := (((r8.other x1 _).other x3 _).drew : Row ((w2.setCell ⟨g1, i, none⟩ (sv s)).setCell ⟨g3, i, none⟩ (.bool true)).drew _ _ _)
         have rB' := (((rB.other z1 _).other z3 _).drew : Row ((w2.setCell ⟨g1, i, none⟩ (sv s)).setCell ⟨g3, i, none⟩ (.bool true)).drew _ _ _)
         have hbe := ((hbb.setCell (p := ⟨g1, i, none⟩) hg1 (sv s)).setCell (p := ⟨g3, i, none⟩) hg3 (.bool true)).drew
         generalize ((w2.setCell ⟨g1, i, none⟩ (sv s)).setCell ⟨g3, i, none⟩ (.bool true)).drew = w3 at *
         clear hcn hcd hfn hfd k0 k1 k2 r8 rB
         obtain ⟨j0, j1, j2, _, _, _⟩ := Row3 r8'
         obtain ⟨q0, q1, q2, f0, f1, f2⟩ := Row3 rB'
         have HF := HW.kept (put3_kept w3 (w.heap.size + 1) (.slice (some ⟨g1, 0, none⟩) S k1') (.slice (some ⟨g2, 0, none⟩) S k2') (.slice (some ⟨g3, 0, none⟩) S k3')) (by omega) (by have := HW.b2; omega) (by omega)
         have HF2 := Lib.hid HF
         have hbf := ((hbe.setCell (p := ⟨w.heap.size + 1, 0, none⟩) (by simp) (.slice (some ⟨g1, 0, none⟩) S k1')).setCell (p := ⟨w.heap.size + 1, 1, none⟩) (by simp) (.slice (some ⟨g2, 0, none⟩) S k2')).setCell (p := ⟨w.heap.size + 1, 2, none⟩) (by simp) (.slice (some ⟨g3, 0, none⟩) S k3')
         clear HF HW
         go_wp2
         refine bodyPost_ret (v := .tuple #[.agg #[.slice (some ⟨g1, 0, none⟩) S k1', .slice (some ⟨g2, 0, none⟩) S k2', .slice (some ⟨g3, 0, none⟩) S k3'], .int .i64 0]) (by simp [results, Tryd.results75, go_sem, q0, q1, q2]) rfl ⟨⟨_, rfl, RefV.mk (HF2.out.ref (fun b hb' => Nat.lt_of_lt_of_le (HG.out b hb') ?_))⟩, hbf⟩
         exact Nat.le_trans (Nat.le_succ _) hsr)
      | (have HW := ((HOH.out.setDirty i true).setNow i HS.out).drew
         have r8' := (((r8.other x3 _).other x1 _).drew : Row ((w2.setCell ⟨g3, i, none⟩ (.bool true)).setCell ⟨g1, i, none⟩ (sv s)).drew _ _ _)
         have rB' := (((rB.other z3 _).other z1 _).drew : Row ((w2.setCell ⟨g3, i, none⟩ (.bool true)).setCell ⟨g1, i, none⟩ (sv s)).drew _ _ _)
         have hbe := ((hbb.setCell (p := ⟨g3, i, none⟩) hg3 (.bool true)).setCell (p := ⟨g1, i, none⟩) hg1 (sv s)).drew
         generalize ((w2.setCell ⟨g3, i, none⟩ (.bool true)).setCell ⟨g1, i, none⟩ (sv s)).drew = w3 at *
         clear hcn hcd hfn hfd k0 k1 k2 r8 rB
         obtain ⟨j0, j1, j2, _, _, _⟩ := Row3 r8'
         obtain ⟨q0, q1, q2, f0, f1, f2⟩ := Row3 rB'
         have HF := HW.kept (put3_kept w3 (w.heap.size + 1) (.slice (some ⟨g1, 0, none⟩) S k1') (.slice (some ⟨g2, 0, none⟩) S k2') (.slice (some ⟨g3, 0, none⟩) S k3')) (by omega) (by have := HW.b2; omega) (by omega)
         have HF2 := Lib.hid HF
         have hbf := ((hbe.setCell (p := ⟨w.heap.size + 1, 0, none⟩) (by simp) (.slice (some ⟨g1, 0, none⟩) S k1')).setCell (p := ⟨w.heap.size + 1, 1, none⟩) (by simp) (.slice (some ⟨g2, 0, none⟩) S k2')).setCell (p := ⟨w.heap.size + 1, 2, none⟩) (by simp) (.slice (some ⟨g3, 0, none⟩) S k3')
         clear HF HW
         go_wp2
         refine bodyPost_ret (v := .tuple #[.agg #[.slice (some ⟨g1, 0, none⟩) S k1', .slice (some ⟨g2, 0, none⟩) S k2', .slice (some ⟨g3, 0, none⟩) S k3'], .int .i64 0]) (by simp [results, Tryd.results75, go_sem, q0, q1, q2]) rfl ⟨⟨_, rfl, RefV.mk (HF2.out.ref (fun b hb' => Nat.lt_of_lt_of_le (HG.out b hb') ?_))⟩, hbf⟩
         exact Nat.le_trans (Nat.le_succ _) hsr)
end

end Go.Proofs.YtackeigdehfmmaaDoor
