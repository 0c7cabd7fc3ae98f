import Derived.Test.YtackeigdehfmmaaDoorWB
namespace Go.Proofs.YtackeigdehfmmaaDoor
open Go.RowKit

/-- a disk of the program with its rows -/
structure DiskAt (w : World) (G : Nat → Prop) (p S g1 g2 g3 : Nat) (d : Wl.Dk) : Prop where
  c0 : w.cell? ⟨p, 0, none⟩ = some (.slice (some ⟨g1, 0, none⟩) S S)
  c1 : w.cell? ⟨p, 1, none⟩ = some (.slice (some ⟨g2, 0, none⟩) S S)
  c2 : w.cell? ⟨p, 2, none⟩ = some (.slice (some ⟨g3, 0, none⟩) S S)
  np : ¬ G p
  G1 : G g1
  G2 : G g2
  G3 : G g3
  n12 : g1 ≠ g2
  n13 : g1 ≠ g3
  n23 : g2 ≠ g3
  r1 : Row w g1 9 (svs d.now)
  r2 : Row w g2 9 (svs d.old)
  r3 : Row w g3 4 (bvs d.dirty)
  ok : d.Ok S
  lo : 1 ≤ S
  hi : S ≤ 1024

/-- a disk of the program -/
def Disk (w : World) (G : Nat → Prop) (p S : Nat) (d : Wl.Dk) : Prop := ∃ g1 g2 g3, DiskAt w G p S g1 g2 g3 d

section
variable {w : World} {G : Nat → Prop} {p S g1 g2 g3 : Nat} {d : Wl.Dk}

theorem DiskAt.below {w' : World} (h : DiskAt w G p S g1 g2 g3 d) (hb : Below w.heap.size w w') : DiskAt w' G p S g1 g2 g3 d :=
  have hc : ∀ {a v}, w.cell? a = some v → w'.cell? a = some v := fun hc => (hb.cell (cell_lt hc)).trans hc
  ⟨hc h.c0, hc h.c1, hc h.c2, h.np, h.G1, h.G2, h.G3, h.n12, h.n13, h.n23, h.r1.below hb, h.r2.below hb, h.r3.below hb, h.ok, h.lo, h.hi⟩
theorem Disk.mono {w' : World} (h : Disk w G p S d) (hb : Below w.heap.size w w') : Disk w' G p S d := by
  obtain ⟨g1, g2, g3, h⟩ := h; exact ⟨g1, g2, g3, h.below hb⟩
theorem Disk.ok (h : Disk w G p S d) : d.Ok S := by obtain ⟨_, _, _, h⟩ := h; exact h.ok
theorem Disk.S_le (h : Disk w G p S d) : S ≤ 1024 := by obtain ⟨_, _, _, h⟩ := h; exact h.hi

theorem svs_get {l : List Wl.Bs} {k : Nat} (h : k < l.length) : (svs l)[k]'(by simpa using h) = sv (l.getD k []) := by
  simp [List.getD_eq_getElem?_getD, List.getElem?_eq_getElem h]
theorem bvs_get {l : List Bool} {k : Nat} (h : k < l.length) : (bvs l)[k]'(by simpa using h) = .bool (l.getD k false) := by
  simp [List.getD_eq_getElem?_getD, List.getElem?_eq_getElem h]

theorem DiskAt.now (h : DiskAt w G p S g1 g2 g3 d) {k : Nat} (hk : k < S) : w.cell? ⟨g1, k, none⟩ = some (sv (d.now.getD k [])) := by
  have hl : k < d.now.length := by rw [h.ok.now]; exact hk
  rw [h.r1.cell (by simpa using hl), svs_get hl]
theorem DiskAt.old (h : DiskAt w G p S g1 g2 g3 d) {k : Nat} (hk : k < S) : w.cell? ⟨g2, k, none⟩ = some (sv (d.old.getD k [])) := by
  have hl : k < d.old.length := by rw [h.ok.old]; exact hk
  rw [h.r2.cell (by simpa using hl), svs_get hl]
theorem DiskAt.dirty (h : DiskAt w G p S g1 g2 g3 d) {k : Nat} (hk : k < S) : w.cell? ⟨g3, k, none⟩ = some (.bool (d.dirty.getD k false)) := by
  have hl : k < d.dirty.length := by rw [h.ok.dirty]; exact hk
  rw [h.r3.cell (by simpa using hl), bvs_get hl]

/-- a sector's contents are set -/
theorem DiskAt.setNow (h : DiskAt w G p S g1 g2 g3 d) (k : Nat) {s : Wl.Bs} (hs : s.length ≤ 65536) : DiskAt (w.setCell ⟨g1, k, none⟩ (sv s)) G p S g1 g2 g3 ⟨d.now.set k s, d.old, d.dirty⟩ := by
  have hp : ∀ j, (w.setCell ⟨g1, k, none⟩ (sv s)).cell? ⟨p, j, none⟩ = w.cell? ⟨p, j, none⟩ := fun j => World.cell?_of_block (w := w) (a := ⟨p, j, none⟩) (Below.heap_setCell _ _ _ _ (fun e => h.np (by have e' : p = g1 := e; rw [e']; exact h.G1)))
  refine ⟨(hp 0).trans h.c0, (hp 1).trans h.c1, (hp 2).trans h.c2, h.np, h.G1, h.G2, h.G3, h.n12, h.n13, h.n23, ?_, h.r2.other h.n12.symm _, h.r3.other h.n13.symm _, ?_, h.lo, h.hi⟩
  · have := h.r1.set k (sv s)
    show Row _ _ _ (svs (d.now.set k s))
    rw [show svs (d.now.set k s) = (svs d.now).set k (sv s) from List.map_set]
    exact this
  · exact ⟨by simp [h.ok.now], h.ok.old, h.ok.dirty, Wl.mem_set_le h.ok.small hs, h.ok.small'⟩
theorem DiskAt.setDirty (h : DiskAt w G p S g1 g2 g3 d) (k : Nat) (b : Bool) : DiskAt (w.setCell ⟨g3, k, none⟩ (.bool b)) G p S g1 g2 g3 ⟨d.now, d.old, d.dirty.set k b⟩ := by
  have hp : ∀ j, (w.setCell ⟨g3, k, none⟩ (.bool b)).cell? ⟨p, j, none⟩ = w.cell? ⟨p, j, none⟩ := fun j => World.cell?_of_block (w := w) (a := ⟨p, j, none⟩) (Below.heap_setCell _ _ _ _ (fun e => h.np (by have e' : p = g3 := e; rw [e']; exact h.G3)))
  refine ⟨(hp 0).trans h.c0, (hp 1).trans h.c1, (hp 2).trans h.c2, h.np, h.G1, h.G2, h.G3, h.n12, h.n13, h.n23, h.r1.other h.n13 _, h.r2.other h.n23 _, ?_, ?_, h.lo, h.hi⟩
  · have := h.r3.set k (.bool b)
    show Row _ _ _ (bvs (d.dirty.set k b))
    rw [show bvs (d.dirty.set k b) = (bvs d.dirty).set k (.bool b) from List.map_set]
    exact this
  · exact ⟨h.ok.now, h.ok.old, by simp [h.ok.dirty], h.ok.small, h.ok.small'⟩

theorem exists_yes (i : Nat) (h : Disk w G p S d) (hi : i < S) :
    Calls Tryd.prog 63 #[.pointer (some ⟨p, 0, none⟩), .int .i64 i] w fun e w' => e = .returned (.bool true) ∧ w = w' := by
  obtain ⟨g1, g2, g3, h⟩ := h
  have c0 := h.c0
  have hS := h.hi
  clear h
  go_enter Tryd.func63, Tryd.ntmps63
  go_wp2
  go_ret
  exact ⟨rfl, rfl⟩

theorem exists_no (i : Int) (h : Disk w G p S d) (hi : i < 0 ∨ (S : Int) ≤ i) :
    Calls Tryd.prog 63 #[.pointer (some ⟨p, 0, none⟩), .int .i64 i] w fun e w' => e = .returned (.bool false) ∧ w = w' := by
  obtain ⟨g1, g2, g3, h⟩ := h
  have c0 := h.c0
  have hS := h.hi
  clear h
  rcases hi with hi | hi
  · have h0 : decide ((0 : Int) ≤ i) = false := by simpa using hi
    clear hi
    go_enter Tryd.func63, Tryd.ntmps63
    go_wp2
    go_ret
    exact ⟨rfl, rfl⟩
  · have h0 : decide ((0 : Int) ≤ i) = true := by simp; omega
    have h1 : decide (i < (S : Int)) = false := by simp; omega
    clear hi
    go_enter Tryd.func63, Tryd.ntmps63
    go_wp2
    go_ret
    exact ⟨rfl, rfl⟩

theorem Read_yes (i : Nat) (h : Disk w G p S d) (hi : i < S) :
    Calls Tryd.prog 45 #[.pointer (some ⟨p, 0, none⟩), .int .i64 i] w fun e w' => e = .returned (.tuple #[sv (d.now.getD i []), .int .i64 0]) ∧ w = w' := by
  obtain ⟨g1, g2, g3, h⟩ := h
  have hE := exists_yes i ⟨g1, g2, g3, h⟩ hi
  have c0 := h.c0
  have hS := h.hi
  have hc := h.now hi
  clear h
  go_enter Tryd.func45, Tryd.ntmps45
  go_wp2_with fail
  (with_reducible refine hE.mono ?_)
  rintro e w' ⟨rfl, rfl⟩
  go_wp2
  go_ret2
  exact ⟨rfl, rfl⟩

theorem Read_no (i : Int) (h : Disk w G p S d) (hi : i < 0 ∨ (S : Int) ≤ i) :
    Calls Tryd.prog 45 #[.pointer (some ⟨p, 0, none⟩), .int .i64 i] w fun e w' => e = .returned (.tuple #[.string ⟨#[]⟩, .int .i64 7]) ∧ w = w' := by
  have hE := exists_no i h hi
  clear h hi
  go_enter Tryd.func45, Tryd.ntmps45
  go_wp2_with fail
  (with_reducible refine hE.mono ?_)
  rintro e w' ⟨rfl, rfl⟩
  go_wp2
  go_ret2
  exact ⟨rfl, rfl⟩

theorem Len_any (h : Disk w G p S d) :
    Calls Tryd.prog 19 #[.pointer (some ⟨p, 0, none⟩)] w fun e w' => e = .returned (.int .i64 S) ∧ w = w' := by
  obtain ⟨g1, g2, g3, h⟩ := h
  have c0 := h.c0
  have hS := h.hi
  clear h
  go_enter Tryd.func19, Tryd.ntmps19
  go_wp2
  go_ret
  exact ⟨rfl, rfl⟩

theorem Write_no (i : Int) (s : Wl.Bs) (h : Disk w G p S d) (hi : i < 0 ∨ (S : Int) ≤ i) :
    Calls Tryd.prog 41 #[.pointer (some ⟨p, 0, none⟩), .int .i64 i, sv s] w fun e w' => e = .returned (.int .i64 7) ∧ w = w' := by
  have hE := exists_no i h hi
  clear h hi
  go_enter Tryd.func41, Tryd.ntmps41
  go_wp2_with fail
  (with_reducible refine hE.mono ?_)
  rintro e w' ⟨rfl, rfl⟩
  go_wp2
  go_ret
  exact ⟨rfl, rfl⟩

theorem Write_big (i : Nat) (s : Wl.Bs) (h : Disk w G p S d) (hi : i < S) (hs : 65536 < s.length) (hs2 : s.length ≤ 9223372036854775807) :
    Calls Tryd.prog 41 #[.pointer (some ⟨p, 0, none⟩), .int .i64 i, sv s] w fun e w' => e = .returned (.int .i64 3) ∧ w = w' := by
  have hE := exists_yes i h hi
  have hd : decide ((65536 : Int) < (s.length : Int)) = true := by simp; omega
  clear h hi hs
  go_enter Tryd.func41, Tryd.ntmps41
  go_wp2_with fail
  (with_reducible refine hE.mono ?_)
  rintro e w' ⟨rfl, rfl⟩
  go_wp2
  go_ret
  exact ⟨rfl, rfl⟩

theorem DiskAt.drew (h : DiskAt w G p S g1 g2 g3 d) : DiskAt w.drew G p S g1 g2 g3 d :=
  ⟨h.c0, h.c1, h.c2, h.np, h.G1, h.G2, h.G3, h.n12, h.n13, h.n23, h.r1, h.r2, h.r3, h.ok, h.lo, h.hi⟩

set_option maxHeartbeats 800000 in
theorem Write_yes (i : Nat) (s : Wl.Bs) (h : Disk w G p S d) (hi : i < S) (hs : s.length ≤ 65536) :
    Calls Tryd.prog 41 #[.pointer (some ⟨p, 0, none⟩), .int .i64 i, sv s] w fun e w' => e = .returned (.int .i64 0) ∧ Disk w' G p S (d.wrt i s) ∧ Kept G w w' := by
  obtain ⟨g1, g2, g3, h⟩ := h
  have hE := exists_yes i ⟨g1, g2, g3, h⟩ hi
  have hd : decide ((65536 : Int) < (s.length : Int)) = false := by simp; omega
  have c0 := h.c0
  have c1 := h.c1
  have c2 := h.c2
  have hS := h.hi
  have f1 := h.r1.free i
  have f3 := h.r3.free i
  have a1 := h.now hi
  have a3 := h.dirty hi
  have n13 := h.n13
  have n31 := h.n13.symm
  have H := Lib.hid h
  have HS := Lib.hid hs
  clear h hs
  go_enter Tryd.func41, Tryd.ntmps41
  go_wp2_with fail
  (with_reducible refine hE.mono ?_)
  rintro e w' ⟨rfl, rfl⟩
  go_wp2
  go_region
  all_goals go_wp2
  all_goals go_ret
  all_goals
    refine ⟨rfl, ⟨g1, g2, g3, ?_⟩, ?_⟩
    · first
        | exact ((H.out.setNow i HS.out).setDirty i true).drew
        | exact ((H.out.setDirty i true).setNow i HS.out).drew
    · first
        | exact (((Kept.refl w).setCell H.out.G1 _).setCell H.out.G3 _).drew
        | exact (((Kept.refl w).setCell H.out.G3 _).setCell H.out.G1 _).drew

theorem DiskAt.of_rows {w' : World} {d' : Wl.Dk} (h : DiskAt w G p S g1 g2 g3 d) (hk : Kept G w w') (h1 : Row w' g1 9 (svs d'.now)) (h2 : Row w' g2 9 (svs d'.old)) (h3 : Row w' g3 4 (bvs d'.dirty)) (hok : d'.Ok S) :
    DiskAt w' G p S g1 g2 g3 d' :=
  ⟨hk.cell h.c0 h.np, hk.cell h.c1 h.np, hk.cell h.c2 h.np, h.np, h.G1, h.G2, h.G3, h.n12, h.n13, h.n23, h1, h2, h3, hok, h.lo, h.hi⟩

theorem oneS (l : List Wl.Bs) : ∀ v ∈ svs l, v.oneCell' = true := by
  intro v hv; obtain ⟨_, _, rfl⟩ := List.mem_map.1 hv; rfl

theorem zero_bool (w : World) : (zeroValue 4).run Tryd.prog w = .ok (.bool false) w := by kernel_rfl

theorem Row.same {w w' : World} {g : Nat} {E : TypeId} {xs : List Value} (h : Row w g E xs) (e : w'.heap[g]? = w.heap[g]?) : Row w' g E xs := e.trans h

set_option maxRecDepth 100000 in
set_option maxHeartbeats 800000 in
theorem Sync_any (h : Disk w G p S d) :
    Calls Tryd.prog 16 #[.pointer (some ⟨p, 0, none⟩)] w fun e w' => e = .returned (.tuple #[]) ∧ Disk w' G p S d.syn ∧ Kept G w w' := by
  obtain ⟨g1, g2, g3, h⟩ := h
  have c0 := h.c0
  have c1 := h.c1
  have c2 := h.c2
  have hS := h.hi
  have H := Lib.hid h
  have k0 := h.ok.now
  have k1 := h.ok.old
  have K0 := Lib.hid k0
  have K1 := Lib.hid k1
  have k2 := h.ok.dirty
  have K2 := Lib.hid k2
  have hlo := h.lo
  clear h k0 k1 k2
  go_enter Tryd.func16, Tryd.ntmps16
  go_wp2
  go_region_law (refine step_copy_v rfl (.tmp 5) (.tmp 9) 33 9 rfl Tryd.underlying33 (by kernel_rfl) g2 g1 S S S (svs d.old) (svs d.now) (by simp [Act.eval]) (by simp [Act.eval]) H.out.r2.drew H.out.r1.drew (by simp [K1.out]) (by simp [K0.out]) (oneS _) G H.out.G2 ?_; intro w1 hr2 hk1 hsame; have H1 := Lib.hid (H.out.drew.of_rows (d' := ⟨d.now, d.now, d.dirty⟩) hk1 (H.out.r1.drew.same (hsame g1 H.out.n12)) hr2 (H.out.r3.drew.same (hsame g3 H.out.n23.symm)) ⟨K0.out, K0.out, K2.out, H.out.ok.small, H.out.ok.small⟩); have hkw := ((Kept.refl w).drew (G := G)).trans hk1; clear c0 c1 c2; have c0 := H1.out.c0; have c1 := H1.out.c1; have c2 := H1.out.c2; clear hsame hk1 hr2; obtain ⟨w2, hclr, hr3, hk2, hsame2⟩ := clear_run w1 34 4 (.bool false) Tryd.underlying34 zero_bool rfl rfl g3 S S (bvs d.dirty) H1.out.r3 (by simp [K2.out]) (by omega) G H.out.G3; have H2 := Lib.hid (H1.out.of_rows (d' := d.syn) hk2 (H1.out.r1.same (hsame2 g1 H.out.n13)) (H1.out.r2.same (hsame2 g2 H.out.n23)) (by simpa [Wl.Dk.syn, K0.out] using hr3) H.out.ok.syn); have hkv := hkw.trans hk2; clear hsame2 hk2 hr3)
  all_goals go_wp2
  all_goals go_end0
  all_goals exact ⟨rfl, ⟨g1, g2, g3, H2.out⟩, hkv⟩

end

end Go.Proofs.YtackeigdehfmmaaDoor
