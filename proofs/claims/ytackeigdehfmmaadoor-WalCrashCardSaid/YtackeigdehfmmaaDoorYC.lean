import Derived.Test.YtackeigdehfmmaaDoorYB
namespace Go.Proofs.YtackeigdehfmmaaDoor
open Go.RowKit

/-- a disk of the reference, outside the blocks of G -/
structure RefD (w : World) (G : Nat → Prop) (S : Nat) (a1 a2 a3 : Option Addr) (d : Wl.Dk) : Prop where
  now : RG w G a1 (svs d.now)
  old : RG w G a2 (svs d.old)
  dirty : RG w G a3 (bvs d.dirty)
  ok : d.Ok S
  lo : 1 ≤ S
  hi : S ≤ 1024

theorem RefD.kept {w w' : World} {G : Nat → Prop} {S : Nat} {a1 a2 a3 : Option Addr} {d : Wl.Dk} (h : RefD w G S a1 a2 a3 d) (hk : Kept G w w') : RefD w' G S a1 a2 a3 d :=
  ⟨h.now.mono hk, h.old.mono hk, h.dirty.mono hk, h.ok, h.lo, h.hi⟩
theorem RefD.mono {w w' : World} {G : Nat → Prop} {S : Nat} {a1 a2 a3 : Option Addr} {d : Wl.Dk} (h : RefD w G S a1 a2 a3 d) (hb : Below w.heap.size w w') : RefD w' G S a1 a2 a3 d := h.kept (Kept.of_below hb)

/-- a value that is a disk of the reference -/
def RefV (w : World) (G : Nat → Prop) (S : Nat) (v : Value) (d : Wl.Dk) : Prop := ∃ a1 c1 a2 c2 a3 c3, v = .agg #[.slice a1 S c1, .slice a2 S c2, .slice a3 S c3] ∧ RefD w G S a1 a2 a3 d

theorem RefV.mk {w : World} {G : Nat → Prop} {S : Nat} {a1 a2 a3 : Option Addr} {c1 c2 c3 : Nat} {d : Wl.Dk} (h : RefD w G S a1 a2 a3 d) : RefV w G S (.agg #[.slice a1 S c1, .slice a2 S c2, .slice a3 S c3]) d := ⟨_, _, _, _, _, _, rfl, h⟩

/-- the block g is a row of its own that begins with these cells -/
def Pre (w : World) (g : Nat) (E : TypeId) (xs : List Value) : Prop := ∃ cs : Array Value, w.heap[g]? = some (.cells cs E (0, 0)) ∧ cs.toList.take xs.length = xs
theorem Pre.lt {w : World} {g : Nat} {E : TypeId} {xs : List Value} (h : Pre w g E xs) : g < w.heap.size := by obtain ⟨cs, h, _⟩ := h; exact heap_lt h
theorem Pre.kept {w w' : World} {G : Nat → Prop} {g : Nat} {E : TypeId} {xs : List Value} (h : Pre w g E xs) (hk : Kept G w w') (hg : ¬ G g) : Pre w' g E xs := by
  obtain ⟨cs, h, h2⟩ := h; exact ⟨cs, hk.heap h hg, h2⟩
theorem Pre.cell {w : World} {g : Nat} {E : TypeId} {xs : List Value} (h : Pre w g E xs) {k : Nat} (hk : k < xs.length) : w.cell? ⟨g, k, none⟩ = some xs[k] := by
  obtain ⟨cs, h, h2⟩ := h
  have : cs[k]? = some xs[k] := by
    rw [← Array.getElem?_toList]
    have h3 : (cs.toList.take xs.length)[k]? = some xs[k] := by rw [h2]; exact List.getElem?_eq_getElem hk
    rwa [List.getElem?_take_of_lt hk] at h3
  simp only [World.cell?, h]
  simpa using this
theorem Pre.free {w : World} {g : Nat} {E : TypeId} {xs : List Value} (h : Pre w g E xs) (k : Nat) : w.frozen? ⟨g, k, none⟩ = false := by
  obtain ⟨cs, h, _⟩ := h
  simp [World.frozen?, h]
theorem Pre.set {w : World} {g : Nat} {E : TypeId} {xs : List Value} (h : Pre w g E xs) (k : Nat) (x : Value) : Pre (w.setCell ⟨g, k, none⟩ x) g E (xs.set k x) := by
  obtain ⟨cs, h, h2⟩ := h
  refine ⟨cs.setIfInBounds k x, ?_, ?_⟩
  · rw [setCell_eq_setRow w g k _ E (0, 0) x h, setRow_heap w g _ _ E _ h]
  · rw [Array.toList_setIfInBounds, List.length_set, List.take_set, h2]
theorem Pre.other {w : World} {g g' k : Nat} {E : TypeId} {xs : List Value} (h : Pre w g E xs) (hne : g ≠ g') (x : Value) : Pre (w.setCell ⟨g', k, none⟩ x) g E xs := by
  obtain ⟨cs, h, h2⟩ := h
  exact ⟨cs, by rw [Below.heap_setCell _ _ _ _ hne]; exact h, h2⟩
theorem Pre.rg {w : World} {g : Nat} {E : TypeId} {xs : List Value} {G : Nat → Prop} (h : Pre w g E xs) (hg : ¬ G g) : RG w G (some ⟨g, 0, none⟩) xs := by
  intro i x hx
  obtain ⟨hi, rfl⟩ := List.getElem?_eq_some_iff.1 hx
  exact ⟨g, 0, rfl, hg, by rw [Nat.zero_add]; exact h.cell hi⟩

/-- a disk of the reference in rows of its own, from block B on -/
structure RefO (w : World) (B S g1 g2 g3 : Nat) (d : Wl.Dk) : Prop where
  p1 : Pre w g1 9 (svs d.now)
  p2 : Pre w g2 9 (svs d.old)
  p3 : Pre w g3 4 (bvs d.dirty)
  b1 : B ≤ g1
  b2 : B ≤ g2
  b3 : B ≤ g3
  n12 : g1 ≠ g2
  n13 : g1 ≠ g3
  n23 : g2 ≠ g3
  ok : d.Ok S
  lo : 1 ≤ S
  hi : S ≤ 1024

theorem RefO.ref {w : World} {B S g1 g2 g3 : Nat} {d : Wl.Dk} {G : Nat → Prop} (h : RefO w B S g1 g2 g3 d) (hG : ∀ b, G b → b < B) : RefD w G S (some ⟨g1, 0, none⟩) (some ⟨g2, 0, none⟩) (some ⟨g3, 0, none⟩) d :=
  ⟨h.p1.rg (fun hg => by have := hG _ hg; have := h.b1; omega), h.p2.rg (fun hg => by have := hG _ hg; have := h.b2; omega), h.p3.rg (fun hg => by have := hG _ hg; have := h.b3; omega), h.ok, h.lo, h.hi⟩

/-- a fresh copy of a disk -/
def CopyR (B S : Nat) (d : Wl.Dk) (w' : World) (e : Ending) : Prop := ∃ g1 k1 g2 k2 g3 k3, e = .returned (.agg #[.slice (some ⟨g1, 0, none⟩) S k1, .slice (some ⟨g2, 0, none⟩) S k2, .slice (some ⟨g3, 0, none⟩) S k3]) ∧ RefO w' B S g1 g2 g3 d

section
variable {w : World} {S : Nat}

theorem ref_made {V : World} {a b c : Nat} (h1 : 1 ≤ S) (h2 : S ≤ 1024) (ra : V.heap[a]? = some (.cells (Array.replicate S (.string ⟨#[]⟩)) 9 (0, 0))) (rb : V.heap[b]? = some (.cells (Array.replicate S (.string ⟨#[]⟩)) 9 (0, 0))) (rc : V.heap[c]? = some (.cells (Array.replicate S (.bool false)) 4 (0, 0)))
    (ha : w.heap.size ≤ a) (hb : w.heap.size ≤ b) (hc : w.heap.size ≤ c) (n12 : a ≠ b) (n13 : a ≠ c) (n23 : b ≠ c) : RefO V w.heap.size S a b c (Wl.Dk.new S) :=
  ⟨⟨_, ra, by simp [Wl.Dk.new]⟩, ⟨_, rb, by simp [Wl.Dk.new]⟩, ⟨_, rc, by simp [Wl.Dk.new]⟩, ha, hb, hc, n12, n13, n23, Wl.Dk.Ok.new S, h1, h2⟩

set_option maxRecDepth 100000 in
set_option maxHeartbeats 1600000 in
theorem rNew_any (h1 : 1 ≤ S) (h2 : S ≤ 1024) :
    Calls Tryd.prog 38 #[.int .i64 S] w fun e w' => CopyR w.heap.size S (Wl.Dk.new S) w' e ∧ Below w.heap.size w w' := by
  have m1 := mk_run 33 9 16 S (.string ⟨#[]⟩) Tryd.underlying33 Tryd.info9 rfl (by omega) (by omega)
  have m2 := mk_run 34 4 1 S (.bool false) Tryd.underlying34 Tryd.info4 rfl (by omega) (by omega)
  go_enter Tryd.func38, Tryd.ntmps38
  go_wp2
  go_region
  all_goals go_wp2
  all_goals
    obtain ⟨-, hA, hB, hC, -, hb⟩ := heap4 w _ _ _ _ _ rfl
    first
      | (refine bodyPost_ret (v := .agg #[.slice (some ⟨w.heap.size + 1, 0, none⟩) S S, .slice (some ⟨w.heap.size + 1 + 1, 0, none⟩) S S, .slice (some ⟨w.heap.size + 1 + 1 + 1, 0, none⟩) S S]) ?_ rfl ?_
         · (simp [results, Tryd.results38, go_sem]; done)
         · exact ⟨⟨_, _, _, _, _, _, rfl, ref_made h1 h2 hA hB hC (by omega) (by omega) (by omega) (by omega) (by omega) (by omega)⟩, hb⟩)
      | (refine bodyPost_ret (v := .agg #[.slice (some ⟨w.heap.size + 1, 0, none⟩) S S, .slice (some ⟨w.heap.size + 1 + 1 + 1, 0, none⟩) S S, .slice (some ⟨w.heap.size + 1 + 1, 0, none⟩) S S]) ?_ rfl ?_
         · (simp [results, Tryd.results38, go_sem]; done)
         · exact ⟨⟨_, _, _, _, _, _, rfl, ref_made h1 h2 hA hC hB (by omega) (by omega) (by omega) (by omega) (by omega) (by omega)⟩, hb⟩)
      | (refine bodyPost_ret (v := .agg #[.slice (some ⟨w.heap.size + 1 + 1, 0, none⟩) S S, .slice (some ⟨w.heap.size + 1, 0, none⟩) S S, .slice (some ⟨w.heap.size + 1 + 1 + 1, 0, none⟩) S S]) ?_ rfl ?_
         · (simp [results, Tryd.results38, go_sem]; done)
         · exact ⟨⟨_, _, _, _, _, _, rfl, ref_made h1 h2 hB hA hC (by omega) (by omega) (by omega) (by omega) (by omega) (by omega)⟩, hb⟩)
      | (refine bodyPost_ret (v := .agg #[.slice (some ⟨w.heap.size + 1 + 1, 0, none⟩) S S, .slice (some ⟨w.heap.size + 1 + 1 + 1, 0, none⟩) S S, .slice (some ⟨w.heap.size + 1, 0, none⟩) S S]) ?_ rfl ?_
         · (simp [results, Tryd.results38, go_sem]; done)
         · exact ⟨⟨_, _, _, _, _, _, rfl, ref_made h1 h2 hB hC hA (by omega) (by omega) (by omega) (by omega) (by omega) (by omega)⟩, hb⟩)
      | (refine bodyPost_ret (v := .agg #[.slice (some ⟨w.heap.size + 1 + 1 + 1, 0, none⟩) S S, .slice (some ⟨w.heap.size + 1, 0, none⟩) S S, .slice (some ⟨w.heap.size + 1 + 1, 0, none⟩) S S]) ?_ rfl ?_
         · (simp [results, Tryd.results38, go_sem]; done)
         · exact ⟨⟨_, _, _, _, _, _, rfl, ref_made h1 h2 hC hA hB (by omega) (by omega) (by omega) (by omega) (by omega) (by omega)⟩, hb⟩)
      | (refine bodyPost_ret (v := .agg #[.slice (some ⟨w.heap.size + 1 + 1 + 1, 0, none⟩) S S, .slice (some ⟨w.heap.size + 1 + 1, 0, none⟩) S S, .slice (some ⟨w.heap.size + 1, 0, none⟩) S S]) ?_ rfl ?_
         · (simp [results, Tryd.results38, go_sem]; done)
         · exact ⟨⟨_, _, _, _, _, _, rfl, ref_made h1 h2 hC hB hA (by omega) (by omega) (by omega) (by omega) (by omega) (by omega)⟩, hb⟩)
end

end Go.Proofs.YtackeigdehfmmaaDoor
