import Derived.Test.YtackeigdehfmmaaGreatDoorG4
import Derived.Test.YtackeigdehfmmaaGreatDoorG5
namespace Go.Proofs.YtackeigdehfmmaaGreatDoor
open Go.RowKit

/-- a disk of the reference, outside the blocks of G -/
structure RefD (w : World) (G : Nat → Prop) (S : Nat) (a1 a2 a3 : Option Addr) (d : Wl.Dk) : Prop where
  now : RG w G a1 (svs d.now)
  old : RG w G a2 (svs d.old)
  dirty : RG w G a3 (bvs d.dirty)
  ok : d.Ok S
  lo : 1 ≤ S
  hi : S ≤ 1024

theorem RefD.kept {w w' : World} {G : Nat → Prop} {S : Nat} {a1 a2 a3 : Option Addr} {d : Wl.Dk} (h : RefD w G S a1 a2 a3 d) (hk : Kept G w w') : RefD w' G S a1 a2 a3 d :=
  ⟨h.now.mono hk, h.old.mono hk, h.dirty.mono hk, h.ok, h.lo, h.hi⟩
theorem RefD.mono {w w' : World} {G : Nat → Prop} {S : Nat} {a1 a2 a3 : Option Addr} {d : Wl.Dk} (h : RefD w G S a1 a2 a3 d) (hb : Below w.heap.size w w') : RefD w' G S a1 a2 a3 d := h.kept (Kept.of_below hb)

/-- a value that is a disk of the reference -/
def RefV (w : World) (G : Nat → Prop) (S : Nat) (v : Value) (d : Wl.Dk) : Prop := ∃ a1 c1 a2 c2 a3 c3, v = .agg #[.slice a1 S c1, .slice a2 S c2, .slice a3 S c3] ∧ RefD w G S a1 a2 a3 d

theorem RefV.mk {w : World} {G : Nat → Prop} {S : Nat} {a1 a2 a3 : Option Addr} {c1 c2 c3 : Nat} {d : Wl.Dk} (h : RefD w G S a1 a2 a3 d) : RefV w G S (.agg #[.slice a1 S c1, .slice a2 S c2, .slice a3 S c3]) d := ⟨_, _, _, _, _, _, rfl, h⟩

/-- the block g is a row of its own that begins with these cells -/
def Pre (w : World) (g : Nat) (E : TypeId) (xs : List Value) : Prop := ∃ cs : Array Value, w.heap[g]? = some (.cells cs E (0, 0)) ∧ cs.toList.take xs.length = xs
theorem Pre.lt {w : World} {g : Nat} {E : TypeId} {xs : List Value} (h : Pre w g E xs) : g < w.heap.size := by obtain ⟨cs, h, _⟩ := h; exact heap_lt h
theorem Pre.kept {w w' : World} {G : Nat → Prop} {g : Nat} {E : TypeId} {xs : List Value} (h : Pre w g E xs) (hk : Kept G w w') (hg : ¬ G g) : Pre w' g E xs := by
  obtain ⟨cs, h, h2⟩ := h; exact ⟨cs, hk.heap h hg, h2⟩
theorem Pre.cell {w : World} {g : Nat} {E : TypeId} {xs : List Value} (h : Pre w g E xs) {k : Nat} (hk : k < xs.length) : w.cell? ⟨g, k, none⟩ = some xs[k] := by
  obtain ⟨cs, h, h2⟩ := h
  have : cs[k]? = some xs[k] := by
    rw [← Array.getElem?_toList]
    have h3 : (cs.toList.take xs.length)[k]? = some xs[k] := by rw [h2]; exact List.getElem?_eq_getElem hk
    rwa [List.getElem?_take_of_lt hk] at h3
  simp only [World.cell?, h]
  simpa using this
theorem Pre.free {w : World} {g : Nat} {E : TypeId} {xs : List Value} (h : Pre w g E xs) (k : Nat) : w.frozen? ⟨g, k, none⟩ = false := by
  obtain ⟨cs, h, _⟩ := h
  simp [World.frozen?, h]
theorem Pre.set {w : World} {g : Nat} {E : TypeId} {xs : List Value} (h : Pre w g E xs) (k : Nat) (x : Value) : Pre (w.setCell ⟨g, k, none⟩ x) g E (xs.set k x) := by
  obtain ⟨cs, h, h2⟩ := h
  refine ⟨cs.setIfInBounds k x, ?_, ?_⟩
  · rw [setCell_eq_setRow w g k _ E (0, 0) x h, setRow_heap w g _ _ E _ h]
  · rw [Array.toList_setIfInBounds, List.length_set, List.take_set, h2]
theorem Pre.other {w : World} {g g' k : Nat} {E : TypeId} {xs : List Value} (h : Pre w g E xs) (hne : g ≠ g') (x : Value) : Pre (w.setCell ⟨g', k, none⟩ x) g E xs := by
  obtain ⟨cs, h, h2⟩ := h
  exact ⟨cs, by rw [Below.heap_setCell _ _ _ _ hne]; exact h, h2⟩
theorem Pre.rg {w : World} {g : Nat} {E : TypeId} {xs : List Value} {G : Nat → Prop} (h : Pre w g E xs) (hg : ¬ G g) : RG w G (some ⟨g, 0, none⟩) xs := by
  intro i x hx
  obtain ⟨hi, rfl⟩ := List.getElem?_eq_some_iff.1 hx
  exact ⟨g, 0, rfl, hg, by rw [Nat.zero_add]; exact h.cell hi⟩

/-- a disk of the reference in rows of its own, from block B on -/
structure RefO (w : World) (B S g1 g2 g3 : Nat) (d : Wl.Dk) : Prop where
  p1 : Pre w g1 9 (svs d.now)
  p2 : Pre w g2 9 (svs d.old)
  p3 : Pre w g3 4 (bvs d.dirty)
  b1 : B ≤ g1
  b2 : B ≤ g2
  b3 : B ≤ g3
  n12 : g1 ≠ g2
  n13 : g1 ≠ g3
  n23 : g2 ≠ g3
  ok : d.Ok S
  lo : 1 ≤ S
  hi : S ≤ 1024

theorem RefO.ref {w : World} {B S g1 g2 g3 : Nat} {d : Wl.Dk} {G : Nat → Prop} (h : RefO w B S g1 g2 g3 d) (hG : ∀ b, G b → b < B) : RefD w G S (some ⟨g1, 0, none⟩) (some ⟨g2, 0, none⟩) (some ⟨g3, 0, none⟩) d :=
  ⟨h.p1.rg (fun hg => by have := hG _ hg; have := h.b1; omega), h.p2.rg (fun hg => by have := hG _ hg; have := h.b2; omega), h.p3.rg (fun hg => by have := hG _ hg; have := h.b3; omega), h.ok, h.lo, h.hi⟩

/-- a fresh copy of a disk -/
def CopyR (B S : Nat) (d : Wl.Dk) (w' : World) (e : Ending) : Prop := ∃ g1 k1 g2 k2 g3 k3, e = .returned (.agg #[.slice (some ⟨g1, 0, none⟩) S k1, .slice (some ⟨g2, 0, none⟩) S k2, .slice (some ⟨g3, 0, none⟩) S k3]) ∧ RefO w' B S g1 g2 g3 d

section
variable {w : World} {S : Nat}

theorem ref_made {V : World} {a b c : Nat} (h1 : 1 ≤ S) (h2 : S ≤ 1024) (ra : V.heap[a]? = some (.cells (Array.replicate S (.string ⟨#[]⟩)) 9 (0, 0))) (rb : V.heap[b]? = some (.cells (Array.replicate S (.string ⟨#[]⟩)) 9 (0, 0))) (rc : V.heap[c]? = some (.cells (Array.replicate S (.bool false)) 4 (0, 0)))
    (ha : w.heap.size ≤ a) (hb : w.heap.size ≤ b) (hc : w.heap.size ≤ c) (n12 : a ≠ b) (n13 : a ≠ c) (n23 : b ≠ c) : RefO V w.heap.size S a b c (Wl.Dk.new S) :=
  ⟨⟨_, ra, by simp [Wl.Dk.new]⟩, ⟨_, rb, by simp [Wl.Dk.new]⟩, ⟨_, rc, by simp [Wl.Dk.new]⟩, ha, hb, hc, n12, n13, n23, Wl.Dk.Ok.new S, h1, h2⟩

set_option maxRecDepth 100000 in
set_option maxHeartbeats 1600000 in
theorem rNew_any (h1 : 1 ≤ S) (h2 : S ≤ 1024) :
    Calls Tryz.prog 18 #[.int .i64 S] w fun e w' => CopyR w.heap.size S (Wl.Dk.new S) w' e ∧ Below w.heap.size w w' := by
  have m1 := mk_run 25 9 16 S (.string ⟨#[]⟩) Tryz.underlying25 Tryz.info9 rfl (by omega) (by omega)
  have m2 := mk_run 26 4 1 S (.bool false) Tryz.underlying26 Tryz.info4 rfl (by omega) (by omega)
  go_enter Tryz.func18, Tryz.ntmps18
  go_wp2
  go_region
  all_goals go_wp2
  all_goals
    obtain ⟨-, hA, hB, hC, -, hb⟩ := heap4 w _ _ _ _ _ rfl
    first
      | (refine bodyPost_ret (v := .agg #[.slice (some ⟨w.heap.size + 1, 0, none⟩) S S, .slice (some ⟨w.heap.size + 1 + 1, 0, none⟩) S S, .slice (some ⟨w.heap.size + 1 + 1 + 1, 0, none⟩) S S]) ?_ rfl ?_
         · (simp [results, Tryz.results18, go_sem]; done)
         · exact ⟨⟨_, _, _, _, _, _, rfl, ref_made h1 h2 hA hB hC (by omega) (by omega) (by omega) (by omega) (by omega) (by omega)⟩, hb⟩)
      | (refine bodyPost_ret (v := .agg #[.slice (some ⟨w.heap.size + 1, 0, none⟩) S S, .slice (some ⟨w.heap.size + 1 + 1 + 1, 0, none⟩) S S, .slice (some ⟨w.heap.size + 1 + 1, 0, none⟩) S S]) ?_ rfl ?_
         · (simp [results, Tryz.results18, go_sem]; done)
         · exact ⟨⟨_, _, _, _, _, _, rfl, ref_made h1 h2 hA hC hB (by omega) (by omega) (by omega) (by omega) (by omega) (by omega)⟩, hb⟩)
      | (refine bodyPost_ret (v := .agg #[.slice (some ⟨w.heap.size + 1 + 1, 0, none⟩) S S, .slice (some ⟨w.heap.size + 1, 0, none⟩) S S, .slice (some ⟨w.heap.size + 1 + 1 + 1, 0, none⟩) S S]) ?_ rfl ?_
         · (simp [results, Tryz.results18, go_sem]; done)
         · exact ⟨⟨_, _, _, _, _, _, rfl, ref_made h1 h2 hB hA hC (by omega) (by omega) (by omega) (by omega) (by omega) (by omega)⟩, hb⟩)
      | (refine bodyPost_ret (v := .agg #[.slice (some ⟨w.heap.size + 1 + 1, 0, none⟩) S S, .slice (some ⟨w.heap.size + 1 + 1 + 1, 0, none⟩) S S, .slice (some ⟨w.heap.size + 1, 0, none⟩) S S]) ?_ rfl ?_
         · (simp [results, Tryz.results18, go_sem]; done)
         · exact ⟨⟨_, _, _, _, _, _, rfl, ref_made h1 h2 hB hC hA (by omega) (by omega) (by omega) (by omega) (by omega) (by omega)⟩, hb⟩)
      | (refine bodyPost_ret (v := .agg #[.slice (some ⟨w.heap.size + 1 + 1 + 1, 0, none⟩) S S, .slice (some ⟨w.heap.size + 1, 0, none⟩) S S, .slice (some ⟨w.heap.size + 1 + 1, 0, none⟩) S S]) ?_ rfl ?_
         · (simp [results, Tryz.results18, go_sem]; done)
         · exact ⟨⟨_, _, _, _, _, _, rfl, ref_made h1 h2 hC hA hB (by omega) (by omega) (by omega) (by omega) (by omega) (by omega)⟩, hb⟩)
      | (refine bodyPost_ret (v := .agg #[.slice (some ⟨w.heap.size + 1 + 1 + 1, 0, none⟩) S S, .slice (some ⟨w.heap.size + 1 + 1, 0, none⟩) S S, .slice (some ⟨w.heap.size + 1, 0, none⟩) S S]) ?_ rfl ?_
         · (simp [results, Tryz.results18, go_sem]; done)
         · exact ⟨⟨_, _, _, _, _, _, rfl, ref_made h1 h2 hC hB hA (by omega) (by omega) (by omega) (by omega) (by omega) (by omega)⟩, hb⟩)
end

end Go.Proofs.YtackeigdehfmmaaGreatDoor

namespace Go.Proofs.YtackeigdehfmmaaGreatDoor
open Go.RowKit

theorem nextcap_fits (n bytes : Nat) (h0 : 0 < n) (hn : n ≤ 1000000) (hb : bytes ≤ 16) : Builtin.nextslicecap n 0 * bytes ≤ 281474976710656 := growslice_fits h0 (by have := Nat.mul_le_mul hn hb; omega)

theorem Kept.wider {G H : Nat → Prop} {w w' : World} (h : Kept G w w') (hG : ∀ b, G b → H b) : Kept H w w' := ⟨h.os, h.tape, h.output, h.size, fun k hk hn => h.block k hk fun hg => hn (hG k hg)⟩

/-- append([]T{}, xs...) -/
theorem wp_app_all {o : Oper} {a : Act} {w : World} {K : Act → World → Prop} {Q : Exit → Act → World → Prop} (s x : Operand) (T E bytes : Nat) (z : Value)
    (ho : o.op = .call { callee := .builtin .append, args := #[s, x], argTypes := #[T, T] }) (hT : Tryz.prog.underlying T = some (.slice E)) (hE : (Tryz.prog.info? E).map (fun i => (i.zero, i.size, i.bytes)) = some (some z, 1, bytes)) (hby : bytes ≤ 16)
    (g : Nat) (ao : Option Addr) (n c : Nat) (xs : List Value) (hs : a.eval s = .slice (some ⟨g, 0, none⟩) 0 0) (hx : a.eval x = .slice ao n c) (G : Nat → Prop) (hr : RG w G ao xs) (hn : xs.length = n) (h0 : 0 < n) (hn2 : n ≤ 1000000)
    (h : ∀ (cap : Nat) (w' : World), Below w.heap.size w w' → Pre w' w.heap.size E xs → K (a.put o.dst (.slice (some ⟨w.heap.size, 0, none⟩) n cap)) w') :
    Oper.wp Tryz.prog o a w K Q := by
  obtain ⟨i0, hi, hz0, hz1, hz2⟩ := info_parts hE
  obtain ⟨b, off, rfl, -, -⟩ := hr.at' (k := 0) (by omega)
  have hnews : ∀ j v, xs[j]? = some v → w.cell? ((⟨b, off, none⟩ : Addr).add j) = some v := by
    intro j v hj
    obtain ⟨b', off', e, -, hc⟩ := hr j v hj
    simp only [Option.some.injEq, Addr.mk.injEq, and_true] at e
    obtain ⟨rfl, rfl⟩ := e
    have e : (⟨b, off, none⟩ : Addr).add j = ⟨b, off + j, none⟩ := by
      unfold Addr.add; split
      · subst j; rfl
      · rfl
    rw [e]; exact hc
  have hrun := run_append_grow (P := Tryz.prog) w T o.type E i0 z hT hi hz0 ⟨g, 0, none⟩ 0 0 [] (by simp) (by simp) ⟨b, off, none⟩ n c xs (by rw [hz1, Nat.mul_one, hn]) hnews (by omega) (by omega) (by rw [hz2, Nat.zero_add]; exact nextcap_fits n bytes h0 hn2 hby)
  simp only [Nat.zero_add] at hrun
  unfold Oper.wp
  simp [execOp, ho, resolve, invoke, builtin, hs, hx, hrun, Result.andThen]
  refine h _ _ (((Below.refl _ _).drew).alloc (Nat.le_refl _) _) ?_
  refine ⟨_, heap_alloc_new _ _, ?_⟩
  simp

theorem heap2 (w : World) (A B : Obj) : ((w.alloc A).alloc B).heap[w.heap.size]? = some A ∧ ((w.alloc A).alloc B).heap[w.heap.size + 1]? = some B := by
  have e : ((w.alloc A).alloc B).heap = (w.heap.push A).push B := rfl
  refine ⟨?_, ?_⟩
  · rw [e, Array.getElem?_push, if_neg (by simp), Array.getElem?_push, if_pos (by simp)]
  · rw [e, Array.getElem?_push, if_pos (by simp)]

theorem RG.lift {w w' : World} {G H : Nat → Prop} {ao : Option Addr} {xs : List Value} (h : RG w G ao xs) (hb : Below w.heap.size w w') (hH : ∀ b, b < w.heap.size → H b → G b) : RG w' H ao xs := by
  intro i x hx
  obtain ⟨b, off, e, hg, hc⟩ := h i x hx
  exact ⟨b, off, e, fun hh => hg (hH b (cell_lt hc) hh), (hb.cell (cell_lt hc)).trans hc⟩

theorem RG.narrow {w : World} {G H : Nat → Prop} {ao : Option Addr} {xs : List Value} (h : RG w H ao xs) (hH : ∀ b, G b → H b) : RG w G ao xs := by
  intro i x hx
  obtain ⟨b, off, e, hg, hc⟩ := h i x hx
  exact ⟨b, off, e, fun hh => hg (hH b hh), hc⟩

section
variable {w : World} {G : Nat → Prop} {S : Nat} {d : Wl.Dk}

def EmptyS (_W : World) (v : Value) : Prop := ∃ g, v = .slice (some ⟨g, 0, none⟩) 0 0
def RowS (n B S : Nat) (E : TypeId) (xs : List Value) (W : World) (v : Value) : Prop := ∃ g cap, v = .slice (some ⟨g, 0, none⟩) S cap ∧ B ≤ g ∧ g ≠ n ∧ Pre W g E xs
def AggD (n B S : Nat) (d : Wl.Dk) (W : World) (v : Value) : Prop := ∃ g1 k1 g2 k2 g3 k3, v = .agg #[.slice (some ⟨g1, 0, none⟩) S k1, .slice (some ⟨g2, 0, none⟩) S k2, .slice (some ⟨g3, 0, none⟩) S k3] ∧ RefO W B S g1 g2 g3 d ∧ g1 ≠ n ∧ g2 ≠ n ∧ g3 ≠ n

theorem RefO.kept {w w' : World} {n B S g1 g2 g3 : Nat} {d : Wl.Dk} (h : RefO w B S g1 g2 g3 d) (hk : Kept (fun b => b = n) w w') (h1 : g1 ≠ n) (h2 : g2 ≠ n) (h3 : g3 ≠ n) : RefO w' B S g1 g2 g3 d :=
  ⟨h.p1.kept hk h1, h.p2.kept hk h2, h.p3.kept hk h3, h.b1, h.b2, h.b3, h.n12, h.n13, h.n23, h.ok, h.lo, h.hi⟩

set_option maxRecDepth 100000 in
set_option maxHeartbeats 3200000 in
theorem rCopy_any {a1 a2 a3 : Option Addr} {c1 c2 c3 : Nat} (hG : ∀ b, G b → b < w.heap.size) (h : RefD w G S a1 a2 a3 d) :
    Calls Tryz.prog 43 #[.agg #[.slice a1 S c1, .slice a2 S c2, .slice a3 S c3]] w fun e w' => CopyR w.heap.size S d w' e ∧ Below w.heap.size w w' := by
  have hlo := h.lo
  have hhi := h.hi
  have HOK := Lib.hid h.ok
  go_enter Tryz.func43, Tryz.ntmps43
  go_wp2
  have hbx := (below_alloc w (.cells #[.slice a1 S c1, .slice a2 S c2, .slice a3 S c3] 28))
  have hby := below_alloc (w.alloc (.cells #[.slice a1 S c1, .slice a2 S c2, .slice a3 S c3] 28)) (.cells #[.slice none 0 0, .slice none 0 0, .slice none 0 0] 28)
  have hb := Below.step hbx hby (Nat.le_refl _)
  obtain ⟨hA, hB⟩ := heap2 w (.cells #[.slice a1 S c1, .slice a2 S c2, .slice a3 S c3] 28) (.cells #[.slice none 0 0, .slice none 0 0, .slice none 0 0] 28)
  clear hbx hby
  generalize ((w.alloc (.cells #[.slice a1 S c1, .slice a2 S c2, .slice a3 S c3] 28)).alloc (.cells #[.slice none 0 0, .slice none 0 0, .slice none 0 0] 28)) = wr at *
  have rA : Row wr w.heap.size 28 [.slice a1 S c1, .slice a2 S c2, .slice a3 S c3] := hA
  have rB : Row wr (w.heap.size + 1) 28 [.slice none 0 0, .slice none 0 0, .slice none 0 0] := hB
  have hbxB : Bx wr (w.heap.size + 1) := fun j hj => ⟨⟨_, rB.cell (k := j) (by simpa using hj)⟩, rB.free j⟩
  have hlt2 := rB.lt
  obtain ⟨H, hH⟩ : ∃ H : Nat → Prop, ∀ b, H b ↔ (G b ∨ b = w.heap.size + 1) := ⟨_, fun _ => Iff.rfl⟩
  have HGH := Lib.hid (fun b (hb' : G b) => (hH b).2 (.inl hb'))
  have HnH := Lib.hid (fun b (hb' : b = w.heap.size + 1) => (hH b).2 (.inr hb'))
  have HLT : Hid (∀ b, H b → b < wr.heap.size) := Lib.hid (fun b hb' => by rcases (hH b).1 hb' with h' | h'; have := hG b h'; omega; omega)
  have hlift : ∀ b, b < w.heap.size → H b → G b := fun b hlt hh => by rcases (hH b).1 hh with h' | h'; exact h'; omega
  have R1 := Lib.hid (h.now.lift hb hlift)
  have R2 := Lib.hid (h.old.lift hb hlift)
  have R3 := Lib.hid (h.dirty.lift hb hlift)
  have KA : Hid (∀ W, Kept (fun b => b = w.heap.size + 1) wr W → W.cell? ⟨w.heap.size, 0, none⟩ = some (.slice a1 S c1) ∧ W.cell? ⟨w.heap.size, 1, none⟩ = some (.slice a2 S c2) ∧ W.cell? ⟨w.heap.size, 2, none⟩ = some (.slice a3 S c3)) := Lib.hid fun W hk =>
    ⟨hk.cell (rA.cell (k := 0) (by simp)) (by simp), hk.cell (rA.cell (k := 1) (by simp)) (by simp), hk.cell (rA.cell (k := 2) (by simp)) (by simp)⟩
  have hGW : Hid (∀ W, Kept (fun b => b = w.heap.size + 1) wr W → ¬ H W.heap.size) := Lib.hid fun W hk hh => by have := HLT.out _ hh; have := hk.size; omega
  clear hH hlift h hA hB rA rB hG
  refine wp_region_box (wx := wr) (w.heap.size + 1) 13 12 [(EmptyS), (fun _ v => v = .pointer (some ⟨w.heap.size, 0, none⟩)), (fun _ v => v = .slice a1 S c1), (RowS (w.heap.size + 1) w.heap.size S 9 (svs d.now)), (EmptyS), (fun _ v => v = .pointer (some ⟨w.heap.size, 1, none⟩)), (fun _ v => v = .slice a2 S c2), (RowS (w.heap.size + 1) w.heap.size S 9 (svs d.old)), (EmptyS), (fun _ v => v = .pointer (some ⟨w.heap.size, 2, none⟩)), (fun _ v => v = .slice a3 S c3), (RowS (w.heap.size + 1) w.heap.size S 4 (bvs d.dirty)), (AggD (w.heap.size + 1) w.heap.size S d)] [3, 4, 5, 6, 7, 8, 9, 10, 11, 12, 13, 14, 15] [3, 7, 11] (by kernel_rfl) (by kernel_rfl) (by kernel_rfl) (by kernel_rfl) (by kernel_rfl) (by kernel_rfl) (of_decide_eq_true (by kernel_rfl)) (by kernel_rfl) (Kept.refl _) ⟨(fun _ _ _ h _ => h), stayK_val _ _, stayK_val _ _, (fun W W' v h hk => by obtain ⟨g, cap, e, hB, hn, hr⟩ := h; exact ⟨g, cap, e, hB, hn, hr.kept hk hn⟩), (fun _ _ _ h _ => h), stayK_val _ _, stayK_val _ _, (fun W W' v h hk => by obtain ⟨g, cap, e, hB, hn, hr⟩ := h; exact ⟨g, cap, e, hB, hn, hr.kept hk hn⟩), (fun _ _ _ h _ => h), stayK_val _ _, stayK_val _ _, (fun W W' v h hk => by obtain ⟨g, cap, e, hB, hn, hr⟩ := h; exact ⟨g, cap, e, hB, hn, hr.kept hk hn⟩), (fun W W' v h hk => by obtain ⟨x1, y1, x2, y2, x3, y3, e, hr, q1, q2, q3⟩ := h; exact ⟨x1, y1, x2, y2, x3, y3, e, hr.kept hk q1 q2 q3, q1, q2, q3⟩), trivial⟩ ?hI ?hagg hbxB ⟨?s0, ?s1, ?s2, ?s3, ?s4, ?s5, ?s6, ?s7, ?s8, ?s9, ?s10, ?s11, ?s12, ?s13, trivial⟩ ?he
  case hI =>
    intro k hk
    have hk3 : k = 3 ∨ k = 7 ∨ k = 11 := by simpa using hk
    rcases hk3 with rfl | rfl | rfl
    all_goals
      refine ⟨by decide, ?_⟩
      rintro W v ⟨g, cap, e, _, _, hp⟩
      exact ⟨g, by rw [e]; rfl, hp.lt⟩
  case hagg =>
    rintro W v ⟨x1, y1, x2, y2, x3, y3, e, _⟩
    exact ⟨_, _, _, e⟩
  case s0 =>
    refine ⟨fun _ => ?_, fun h => absurd h (by decide)⟩
    rintro T W hk hx hA hp K hK
    simp only [ovr, Act.put, List.setIfInBounds_toArray, List.set_cons_zero, List.set_cons_succ] at hK ⊢
    have HK := Lib.hid hK
    clear hK hA
    refine wpOp_want rfl (by rfl) ?_
    go_simp
    exact HK.out _ _ (below_alloc _ _) ⟨_, rfl⟩ (fun h => absurd h (by decide))
  case s1 =>
    refine ⟨fun _ => ?_, fun h => absurd h (by decide)⟩
    rintro T W hk hx hA hp K hK
    simp only [ovr, Act.put, List.setIfInBounds_toArray, List.set_cons_zero, List.set_cons_succ] at hK ⊢
    have HK := Lib.hid hK
    clear hK hA
    refine wpOp_want rfl (by rfl) ?_
    go_simp
    exact HK.out _ _ (Below.refl _ _) rfl (fun h => absurd h (by decide))
  case s2 =>
    refine ⟨fun _ => ?_, fun h => absurd h (by decide)⟩
    rintro T W hk hx hA hp K hK
    have e : T 4 = .pointer (some ⟨w.heap.size, 0, none⟩) := hA.1
    simp only [ovr, Act.put, List.setIfInBounds_toArray, List.set_cons_zero, List.set_cons_succ, e] at hK ⊢
    have HK := Lib.hid hK
    clear hK hA
    refine wpOp_want rfl (by rfl) ?_
    obtain ⟨k0, k1, k2⟩ := KA.out W hk
    go_simp
    exact HK.out _ _ (Below.refl _ _) rfl (fun h => absurd h (by decide))
  case s3 =>
    refine ⟨fun _ => ?_, fun h => absurd h (by decide)⟩
    rintro T W hk hx hA hp K hK
    obtain ⟨g, eg⟩ : EmptyS W (T 3) := hA.1
    have e : T 5 = .slice a1 S c1 := hA.2.1
    simp only [ovr, Act.put, List.setIfInBounds_toArray, List.set_cons_zero, List.set_cons_succ, eg, e] at hK ⊢
    have HK := Lib.hid hK
    clear hK hA
    refine wpOp_want rfl (by rfl) ?_
    refine wp_app_all (.tmp 3) (.tmp 5) 25 9 16 (.string ⟨#[]⟩) rfl Tryz.underlying25 Tryz.info9 (by decide) g a1 S c1 (svs d.now) (by simp [Act.eval]) (by simp [Act.eval]) H (R1.out.mono (hk.wider HnH.out)) (by simp [HOK.out.now]) (by omega) (by omega) ?_
    intro cap w' hb' hr'
    exact HK.out _ _ hb' ⟨_, cap, rfl, by have := hk.size; omega, by have := hk.size; omega, hr'⟩ (fun _ => ⟨_, rfl, Nat.le_refl _⟩)
  case s4 =>
    refine ⟨fun _ => ?_, fun h => absurd h (by decide)⟩
    rintro T W hk hx hA hp K hK
    simp only [ovr, Act.put, List.setIfInBounds_toArray, List.set_cons_zero, List.set_cons_succ] at hK ⊢
    have HK := Lib.hid hK
    clear hK hA
    refine wpOp_want rfl (by rfl) ?_
    go_simp
    exact HK.out _ _ (below_alloc _ _) ⟨_, rfl⟩ (fun h => absurd h (by decide))
  case s5 =>
    refine ⟨fun _ => ?_, fun h => absurd h (by decide)⟩
    rintro T W hk hx hA hp K hK
    simp only [ovr, Act.put, List.setIfInBounds_toArray, List.set_cons_zero, List.set_cons_succ] at hK ⊢
    have HK := Lib.hid hK
    clear hK hA
    refine wpOp_want rfl (by rfl) ?_
    go_simp
    exact HK.out _ _ (Below.refl _ _) rfl (fun h => absurd h (by decide))
  case s6 =>
    refine ⟨fun _ => ?_, fun h => absurd h (by decide)⟩
    rintro T W hk hx hA hp K hK
    have e : T 8 = .pointer (some ⟨w.heap.size, 1, none⟩) := hA.1
    simp only [ovr, Act.put, List.setIfInBounds_toArray, List.set_cons_zero, List.set_cons_succ, e] at hK ⊢
    have HK := Lib.hid hK
    clear hK hA
    refine wpOp_want rfl (by rfl) ?_
    obtain ⟨k0, k1, k2⟩ := KA.out W hk
    go_simp
    exact HK.out _ _ (Below.refl _ _) rfl (fun h => absurd h (by decide))
  case s7 =>
    refine ⟨fun _ => ?_, fun h => absurd h (by decide)⟩
    rintro T W hk hx hA hp K hK
    obtain ⟨g, eg⟩ : EmptyS W (T 7) := hA.1
    have e : T 9 = .slice a2 S c2 := hA.2.1
    simp only [ovr, Act.put, List.setIfInBounds_toArray, List.set_cons_zero, List.set_cons_succ, eg, e] at hK ⊢
    have HK := Lib.hid hK
    clear hK hA
    refine wpOp_want rfl (by rfl) ?_
    refine wp_app_all (.tmp 7) (.tmp 9) 25 9 16 (.string ⟨#[]⟩) rfl Tryz.underlying25 Tryz.info9 (by decide) g a2 S c2 (svs d.old) (by simp [Act.eval]) (by simp [Act.eval]) H (R2.out.mono (hk.wider HnH.out)) (by simp [HOK.out.old]) (by omega) (by omega) ?_
    intro cap w' hb' hr'
    exact HK.out _ _ hb' ⟨_, cap, rfl, by have := hk.size; omega, by have := hk.size; omega, hr'⟩ (fun _ => ⟨_, rfl, Nat.le_refl _⟩)
  case s8 =>
    refine ⟨fun _ => ?_, fun h => absurd h (by decide)⟩
    rintro T W hk hx hA hp K hK
    simp only [ovr, Act.put, List.setIfInBounds_toArray, List.set_cons_zero, List.set_cons_succ] at hK ⊢
    have HK := Lib.hid hK
    clear hK hA
    refine wpOp_want rfl (by rfl) ?_
    go_simp
    exact HK.out _ _ (below_alloc _ _) ⟨_, rfl⟩ (fun h => absurd h (by decide))
  case s9 =>
    refine ⟨fun _ => ?_, fun h => absurd h (by decide)⟩
    rintro T W hk hx hA hp K hK
    simp only [ovr, Act.put, List.setIfInBounds_toArray, List.set_cons_zero, List.set_cons_succ] at hK ⊢
    have HK := Lib.hid hK
    clear hK hA
    refine wpOp_want rfl (by rfl) ?_
    go_simp
    exact HK.out _ _ (Below.refl _ _) rfl (fun h => absurd h (by decide))
  case s10 =>
    refine ⟨fun _ => ?_, fun h => absurd h (by decide)⟩
    rintro T W hk hx hA hp K hK
    have e : T 12 = .pointer (some ⟨w.heap.size, 2, none⟩) := hA.1
    simp only [ovr, Act.put, List.setIfInBounds_toArray, List.set_cons_zero, List.set_cons_succ, e] at hK ⊢
    have HK := Lib.hid hK
    clear hK hA
    refine wpOp_want rfl (by rfl) ?_
    obtain ⟨k0, k1, k2⟩ := KA.out W hk
    go_simp
    exact HK.out _ _ (Below.refl _ _) rfl (fun h => absurd h (by decide))
  case s11 =>
    refine ⟨fun _ => ?_, fun h => absurd h (by decide)⟩
    rintro T W hk hx hA hp K hK
    obtain ⟨g, eg⟩ : EmptyS W (T 11) := hA.1
    have e : T 13 = .slice a3 S c3 := hA.2.1
    simp only [ovr, Act.put, List.setIfInBounds_toArray, List.set_cons_zero, List.set_cons_succ, eg, e] at hK ⊢
    have HK := Lib.hid hK
    clear hK hA
    refine wpOp_want rfl (by rfl) ?_
    refine wp_app_all (.tmp 11) (.tmp 13) 26 4 1 (.bool false) rfl Tryz.underlying26 Tryz.info4 (by decide) g a3 S c3 (bvs d.dirty) (by simp [Act.eval]) (by simp [Act.eval]) H (R3.out.mono (hk.wider HnH.out)) (by simp [HOK.out.dirty]) (by omega) (by omega) ?_
    intro cap w' hb' hr'
    exact HK.out _ _ hb' ⟨_, cap, rfl, by have := hk.size; omega, by have := hk.size; omega, hr'⟩ (fun _ => ⟨_, rfl, Nat.le_refl _⟩)
  case s12 =>
    refine ⟨fun _ => ?_, fun h => absurd h (by decide)⟩
    rintro T W hk hx hA hp K hK
    obtain ⟨g1, k1, e1, hB1, hn1, hr1⟩ : RowS (w.heap.size + 1) w.heap.size S 9 (svs d.now) W (T 6) := hA.1
    obtain ⟨g2, k2, e2, hB2, hn2, hr2⟩ : RowS (w.heap.size + 1) w.heap.size S 9 (svs d.old) W (T 10) := hA.2.1
    obtain ⟨g3, k3, e3, hB3, hn3, hr3⟩ : RowS (w.heap.size + 1) w.heap.size S 4 (bvs d.dirty) W (T 14) := hA.2.2.1
    have p12 : (T 6).ownBlock ≠ (T 10).ownBlock := hp 3 (by decide) 7 (by decide) (by decide) (of_decide_eq_true (by kernel_rfl)) (of_decide_eq_true (by kernel_rfl))
    have p13 : (T 6).ownBlock ≠ (T 14).ownBlock := hp 3 (by decide) 11 (by decide) (by decide) (of_decide_eq_true (by kernel_rfl)) (of_decide_eq_true (by kernel_rfl))
    have p23 : (T 10).ownBlock ≠ (T 14).ownBlock := hp 7 (by decide) 11 (by decide) (by decide) (of_decide_eq_true (by kernel_rfl)) (of_decide_eq_true (by kernel_rfl))
    rw [e1, e2] at p12
    rw [e1, e3] at p13
    rw [e2, e3] at p23
    have q12 := Lib.hid (fun e : g1 = g2 => p12 (by rw [e]; rfl))
    have q13 := Lib.hid (fun e : g1 = g3 => p13 (by rw [e]; rfl))
    have q23 := Lib.hid (fun e : g2 = g3 => p23 (by rw [e]; rfl))
    clear p12 p13 p23 hp
    simp only [ovr, Act.put, List.setIfInBounds_toArray, List.set_cons_zero, List.set_cons_succ, e1, e2, e3] at hK ⊢
    have HK := Lib.hid hK
    clear hK hA
    refine wpOp_want rfl (by rfl) ?_
    go_simp
    exact HK.out _ _ (Below.refl _ _) ⟨_, _, _, _, _, _, rfl, ⟨hr1, hr2, hr3, hB1, hB2, hB3, q12.out, q13.out, q23.out, HOK.out, hlo, hhi⟩, hn1, hn2, hn3⟩ (fun h => absurd h (by decide))
  case s13 =>
    refine ⟨fun h => absurd h (by decide), fun _ => ?_⟩
    rintro T W v0 v1 v2 hq hx hA K hK
    obtain ⟨x1, y1, x2, y2, x3, y3, e, hr, _⟩ : AggD (w.heap.size + 1) w.heap.size S d W (T 15) := hA.1
    have hq' : T 15 = .agg #[v0, v1, v2] := hq
    rw [e] at hq'
    simp only [Value.agg.injEq, Array.mk.injEq, List.cons.injEq, and_true] at hq'
    obtain ⟨rfl, rfl, rfl⟩ := hq'
    simp only [ovr, List.setIfInBounds_toArray, List.set_cons_zero, List.set_cons_succ, e, put3] at hK ⊢
    have HK := Lib.hid hK
    clear hK hA hq
    obtain ⟨⟨u0, z0⟩, f0⟩ := hx 0 (by omega)
    obtain ⟨⟨u1, z1⟩, f1⟩ := hx 1 (by omega)
    obtain ⟨⟨u2, z2⟩, f2⟩ := hx 2 (by omega)
    refine wpOp_want rfl (by rfl) ?_
    go_simp
    exact HK.out
  case he =>
    rintro T W v0 v1 v2 hk hA hq hc
    have e : T 15 = .agg #[v0, v1, v2] := hq
    have r : AggD (w.heap.size + 1) w.heap.size S d W (T 15) := hA.at 12 (by decide)
    rw [e] at r
    obtain ⟨c0', c1', c2'⟩ := hc
    simp only [ovr, List.setIfInBounds_toArray, List.set_cons_zero, List.set_cons_succ]
    go_wp2
    refine bodyPost_ret (v := .agg #[v0, v1, v2]) (by simp [results, Tryz.results43, go_sem, c0', c1', c2']) rfl ⟨?_, hb.trans (hk.below (by rintro b rfl; omega) hb.size)⟩
    obtain ⟨x1, y1, x2, y2, x3, y3, e', hr, _⟩ := r
    exact ⟨x1, y1, x2, y2, x3, y3, by rw [e'], hr⟩
end

end Go.Proofs.YtackeigdehfmmaaGreatDoor

namespace Go.Proofs.YtackeigdehfmmaaGreatDoor
open Go.RowKit

theorem svs_set (l : List Wl.Bs) (k : Nat) (s : Wl.Bs) : svs (l.set k s) = (svs l).set k (sv s) := List.map_set
theorem bvs_set (l : List Bool) (k : Nat) (s : Bool) : bvs (l.set k s) = (bvs l).set k (.bool s) := List.map_set

theorem RefO.drew {w : World} {B S g1 g2 g3 : Nat} {d : Wl.Dk} (h : RefO w B S g1 g2 g3 d) : RefO w.drew B S g1 g2 g3 d :=
  ⟨h.p1, h.p2, h.p3, h.b1, h.b2, h.b3, h.n12, h.n13, h.n23, h.ok, h.lo, h.hi⟩
theorem RefO.mono {w w' : World} {B S g1 g2 g3 : Nat} {d : Wl.Dk} (h : RefO w B S g1 g2 g3 d) (hb : Below w.heap.size w w') : RefO w' B S g1 g2 g3 d :=
  have hk : Kept (fun _ => False) w w' := Kept.of_below hb
  ⟨h.p1.kept hk (fun h => h), h.p2.kept hk (fun h => h), h.p3.kept hk (fun h => h), h.b1, h.b2, h.b3, h.n12, h.n13, h.n23, h.ok, h.lo, h.hi⟩

theorem RefO.setNow {w : World} {B S g1 g2 g3 : Nat} {d : Wl.Dk} (h : RefO w B S g1 g2 g3 d) (k : Nat) {s : Wl.Bs} (hs : s.length ≤ 65536) : RefO (w.setCell ⟨g1, k, none⟩ (sv s)) B S g1 g2 g3 ⟨d.now.set k s, d.old, d.dirty⟩ :=
  ⟨by show Pre _ _ _ (svs (d.now.set k s)); rw [svs_set]; exact h.p1.set k _, h.p2.other h.n12.symm _, h.p3.other h.n13.symm _, h.b1, h.b2, h.b3, h.n12, h.n13, h.n23, ⟨by simp [h.ok.now], h.ok.old, h.ok.dirty, Wl.mem_set_le h.ok.small hs, h.ok.small'⟩, h.lo, h.hi⟩
theorem RefO.setDirty {w : World} {B S g1 g2 g3 : Nat} {d : Wl.Dk} (h : RefO w B S g1 g2 g3 d) (k : Nat) (b : Bool) : RefO (w.setCell ⟨g3, k, none⟩ (.bool b)) B S g1 g2 g3 ⟨d.now, d.old, d.dirty.set k b⟩ :=
  ⟨h.p1.other h.n13 _, h.p2.other h.n23 _, by show Pre _ _ _ (bvs (d.dirty.set k b)); rw [bvs_set]; exact h.p3.set k _, h.b1, h.b2, h.b3, h.n12, h.n13, h.n23, ⟨h.ok.now, h.ok.old, by simp [h.ok.dirty], h.ok.small, h.ok.small'⟩, h.lo, h.hi⟩

/-- a disk of the reference and an error -/
def ResW (G : Nat → Prop) (S : Nat) (d : Wl.Dk) (c : Int) (w' : World) (e : Ending) : Prop := ∃ v, e = .returned (.tuple #[v, .int .i64 c]) ∧ RefV w' G S v d

section
variable {w : World} {G : Nat → Prop} {S : Nat} {d : Wl.Dk}

theorem rWrite_no (i : Int) (s : Wl.Bs) {a1 a2 a3 : Option Addr} {c1 c2 c3 : Nat} (h : RefD w G S a1 a2 a3 d) (hi : i < 0 ∨ (S : Int) ≤ i) :
    Calls Tryz.prog 20 #[.agg #[.slice a1 S c1, .slice a2 S c2, .slice a3 S c3], .int .i64 i, sv s] w fun e w' => ResW G S d 7 w' e ∧ Below w.heap.size w w' := by
  have hhi := h.hi
  have H := Lib.hid h
  clear h
  have hcc : decide (i < 0) = true ∨ (decide (i < 0) = false ∧ decide ((S : Int) ≤ i) = true) := by
    simp only [decide_eq_true_eq, decide_eq_false_iff_not]; omega
  clear hi
  rcases hcc with d0 | ⟨d0, d1⟩
  all_goals
    go_enter Tryz.func20, Tryz.ntmps20
    go_wp2
    have hb : Below w.heap.size w ((w.alloc (.cells #[.slice a1 S c1, .slice a2 S c2, .slice a3 S c3] 28)).alloc (.cells #[.slice a1 S c1, .slice a2 S c2, .slice a3 S c3] 28)) := ((Below.refl _ _).alloc (Nat.le_refl _) _).alloc (by simp) _
    refine bodyPost_ret (v := .tuple #[.agg #[.slice a1 S c1, .slice a2 S c2, .slice a3 S c3], .int .i64 7]) (by simp [results, Tryz.results20, go_sem]) rfl ⟨⟨_, rfl, RefV.mk (H.out.mono hb)⟩, hb⟩

theorem rWrite_big (i : Nat) (s : Wl.Bs) {a1 a2 a3 : Option Addr} {c1 c2 c3 : Nat} (h : RefD w G S a1 a2 a3 d) (hi : i < S) (hs : 65536 < s.length) (hs2 : s.length ≤ 9223372036854775807) :
    Calls Tryz.prog 20 #[.agg #[.slice a1 S c1, .slice a2 S c2, .slice a3 S c3], .int .i64 i, sv s] w fun e w' => ResW G S d 3 w' e ∧ Below w.heap.size w w' := by
  have hhi := h.hi
  have H := Lib.hid h
  clear h
  have d0 : decide ((i : Int) < 0) = false := by simp <;> omega
  have d1 : decide ((S : Int) ≤ i) = false := by simp <;> omega
  have d2 : decide ((65536 : Int) < (s.length : Int)) = true := by simp <;> omega
  go_enter Tryz.func20, Tryz.ntmps20
  go_wp2
  have hb : Below w.heap.size w ((w.alloc (.cells #[.slice a1 S c1, .slice a2 S c2, .slice a3 S c3] 28)).alloc (.cells #[.slice a1 S c1, .slice a2 S c2, .slice a3 S c3] 28)) := ((Below.refl _ _).alloc (Nat.le_refl _) _).alloc (by simp) _
  refine bodyPost_ret (v := .tuple #[.agg #[.slice a1 S c1, .slice a2 S c2, .slice a3 S c3], .int .i64 3]) (by simp [results, Tryz.results20, go_sem]) rfl ⟨⟨_, rfl, RefV.mk (H.out.mono hb)⟩, hb⟩

theorem Row3 {w : World} {g : Nat} {E : TypeId} {x y z : Value} (h : Row w g E [x, y, z]) : w.cell? ⟨g, 0, none⟩ = some x ∧ w.cell? ⟨g, 1, none⟩ = some y ∧ w.cell? ⟨g, 2, none⟩ = some z ∧ w.frozen? ⟨g, 0, none⟩ = false ∧ w.frozen? ⟨g, 1, none⟩ = false ∧ w.frozen? ⟨g, 2, none⟩ = false :=
  ⟨h.cell (k := 0) (by simp), h.cell (k := 1) (by simp), h.cell (k := 2) (by simp), h.free 0, h.free 1, h.free 2⟩

set_option maxRecDepth 100000 in
set_option maxHeartbeats 3200000 in
theorem rWrite_yes (i : Nat) (s : Wl.Bs) {a1 a2 a3 : Option Addr} {c1 c2 c3 : Nat} (hG : ∀ b, G b → b < w.heap.size) (h : RefD w G S a1 a2 a3 d) (hi : i < S) (hs : s.length ≤ 65536) :
    Calls Tryz.prog 20 #[.agg #[.slice a1 S c1, .slice a2 S c2, .slice a3 S c3], .int .i64 i, sv s] w fun e w' => ResW G S (d.wrt i s) 0 w' e ∧ Below w.heap.size w w' := by
  have hhi := h.hi
  have d0 : decide ((i : Int) < 0) = false := by simp <;> omega
  have d1 : decide ((S : Int) ≤ i) = false := by simp <;> omega
  have d2 : decide ((65536 : Int) < (s.length : Int)) = false := by simp <;> omega
  have HG := Lib.hid hG
  clear hG
  go_enter Tryz.func20, Tryz.ntmps20
  go_upto_region 1 with fail
  have hbx := (below_alloc w (.cells #[.slice a1 S c1, .slice a2 S c2, .slice a3 S c3] 28))
  have hby := below_alloc (w.alloc (.cells #[.slice a1 S c1, .slice a2 S c2, .slice a3 S c3] 28)) (.cells #[.slice none 0 0, .slice none 0 0, .slice none 0 0] 28)
  have hb := Below.step hbx hby (Nat.le_refl _)
  obtain ⟨hA, hB⟩ := heap2 w (.cells #[.slice a1 S c1, .slice a2 S c2, .slice a3 S c3] 28) (.cells #[.slice none 0 0, .slice none 0 0, .slice none 0 0] 28)
  clear hbx hby
  generalize ((w.alloc (.cells #[.slice a1 S c1, .slice a2 S c2, .slice a3 S c3] 28)).alloc (.cells #[.slice none 0 0, .slice none 0 0, .slice none 0 0] 28)) = wr at *
  have rA : Row wr w.heap.size 28 [.slice a1 S c1, .slice a2 S c2, .slice a3 S c3] := hA
  have rB : Row wr (w.heap.size + 1) 28 [.slice none 0 0, .slice none 0 0, .slice none 0 0] := hB
  have hC := rCopy_any (c1 := c1) (c2 := c2) (c3 := c3) (fun b hb' => Nat.lt_of_lt_of_le (HG.out b hb') hb.size) (h.mono hb)
  have hltB := rB.lt
  have hsr : w.heap.size + 1 ≤ wr.heap.size := by omega
  clear hA hB h
  obtain ⟨k0, k1, k2, _, _, _⟩ := Row3 rA
  go_wp2_with fail
  (with_reducible refine hC.mono ?_)
  rintro e w1 ⟨⟨g1, k1', g2, k2', g3, k3', rfl, HO⟩, hb1⟩
  clear k0 k1 k2 hC rA
  have rB := rB.below hb1
  go_upto_region 6 with fail
  have hb2 := below_alloc w1 (.cells #[.slice (some ⟨g1, 0, none⟩) S k1', .slice (some ⟨g2, 0, none⟩) S k2', .slice (some ⟨g3, 0, none⟩) S k3'] 28)
  have r8 : Row (w1.alloc (.cells #[.slice (some ⟨g1, 0, none⟩) S k1', .slice (some ⟨g2, 0, none⟩) S k2', .slice (some ⟨g3, 0, none⟩) S k3'] 28)) w1.heap.size 28 [.slice (some ⟨g1, 0, none⟩) S k1', .slice (some ⟨g2, 0, none⟩) S k2', .slice (some ⟨g3, 0, none⟩) S k3'] := heap_alloc_new _ _
  have hl1 := HO.p1.lt
  have hl3 := HO.p3.lt
  have hB1 := HO.b1
  have hB3 := HO.b3
  have hs1 := hb1.size
  have HO := HO.mono hb2
  have rB := rB.below hb2
  have hbb := Below.step (Below.step hb hb1 (Nat.le_refl _)) hb2 (Nat.le_refl _)
  have hs2 := hb2.size
  generalize (w1.alloc (.cells #[.slice (some ⟨g1, 0, none⟩) S k1', .slice (some ⟨g2, 0, none⟩) S k2', .slice (some ⟨g3, 0, none⟩) S k3'] 28)) = w2 at *
  obtain ⟨n8, hn8⟩ : ∃ n8, n8 = w1.heap.size := ⟨_, rfl⟩
  rw [← hn8] at r8 ⊢
  have x1 : n8 ≠ g1 := by omega
  have x3 : n8 ≠ g3 := by omega
  have y1 : g1 ≠ n8 := by omega
  have y3 : g3 ≠ n8 := by omega
  have z1 : w.heap.size + 1 ≠ g1 := by omega
  have z3 : w.heap.size + 1 ≠ g3 := by omega
  have n13 := HO.n13
  have n31 := HO.n13.symm
  have hg1 : w.heap.size ≤ g1 := by omega
  have hg3 : w.heap.size ≤ g3 := by omega
  clear hn8 hl1 hl3 hB1 hB3 hs1 hs2 hb2 hb1 hb
  have hcn := HO.p1.cell (k := i) (by simp [HO.ok.now]; exact hi)
  have hcd := HO.p3.cell (k := i) (by simp [HO.ok.dirty]; exact hi)
  rw [svs_get (by rw [HO.ok.now]; exact hi)] at hcn
  rw [bvs_get (by rw [HO.ok.dirty]; exact hi)] at hcd
  have hfn := HO.p1.free i
  have hfd := HO.p3.free i
  obtain ⟨k0, k1, k2, _, _, _⟩ := Row3 r8
  have HOH := Lib.hid HO
  have HS := Lib.hid hs
  clear HO hs
  go_region
  all_goals first
      | (have HW := ((HOH.out.setNow i HS.out).setDirty i true).drew
         have r8' := (((r8.other x1 _).other x3 _).drew : Row ((w2.setCell ⟨g1, i, none⟩ (sv s)).setCell ⟨g3, i, none⟩ (.bool true)).drew _ _ _)
         have rB' := (((rB.other z1 _).other z3 _).drew : Row ((w2.setCell ⟨g1, i, none⟩ (sv s)).setCell ⟨g3, i, none⟩ (.bool true)).drew _ _ _)
         have hbe := ((hbb.setCell (p := ⟨g1, i, none⟩) hg1 (sv s)).setCell (p := ⟨g3, i, none⟩) hg3 (.bool true)).drew
         generalize ((w2.setCell ⟨g1, i, none⟩ (sv s)).setCell ⟨g3, i, none⟩ (.bool true)).drew = w3 at *
         clear hcn hcd hfn hfd k0 k1 k2 r8 rB
         obtain ⟨j0, j1, j2, _, _, _⟩ := Row3 r8'
         obtain ⟨q0, q1, q2, f0, f1, f2⟩ := Row3 rB'
         have HF := HW.kept (put3_kept w3 (w.heap.size + 1) (.slice (some ⟨g1, 0, none⟩) S k1') (.slice (some ⟨g2, 0, none⟩) S k2') (.slice (some ⟨g3, 0, none⟩) S k3')) (by omega) (by have := HW.b2; omega) (by omega)
         have HF2 := Lib.hid HF
         have hbf := ((hbe.setCell (p := ⟨w.heap.size + 1, 0, none⟩) (by simp) (.slice (some ⟨g1, 0, none⟩) S k1')).setCell (p := ⟨w.heap.size + 1, 1, none⟩) (by simp) (.slice (some ⟨g2, 0, none⟩) S k2')).setCell (p := ⟨w.heap.size + 1, 2, none⟩) (by simp) (.slice (some ⟨g3, 0, none⟩) S k3')
         clear HF HW
         go_wp2
         refine bodyPost_ret (v := .tuple #[.agg #[.slice (some ⟨g1, 0, none⟩) S k1', .slice (some ⟨g2, 0, none⟩) S k2', .slice (some ⟨g3, 0, none⟩) S k3'], .int .i64 0]) (by simp [results, Tryz.results20, go_sem, q0, q1, q2]) rfl ⟨⟨_, rfl, RefV.mk (HF2.out.ref (fun b hb' => Nat.lt_of_lt_of_le (HG.out b hb') ?_))⟩, hbf⟩
         exact Nat.le_trans (Nat.le_succ _) hsr)
      | (have HW := ((HOH.out.setDirty i true).setNow i HS.out).drew
         have r8' := (((r8.other x3 _).other x1 _).drew : Row ((w2.setCell ⟨g3, i, none⟩ (.bool true)).setCell ⟨g1, i, none⟩ (sv s)).drew _ _ _)
         have rB' := (((rB.other z3 _).other z1 _).drew : Row ((w2.setCell ⟨g3, i, none⟩ (.bool true)).setCell ⟨g1, i, none⟩ (sv s)).drew _ _ _)
         have hbe := ((hbb.setCell (p := ⟨g3, i, none⟩) hg3 (.bool true)).setCell (p := ⟨g1, i, none⟩) hg1 (sv s)).drew
         generalize ((w2.setCell ⟨g3, i, none⟩ (.bool true)).setCell ⟨g1, i, none⟩ (sv s)).drew = w3 at *
         clear hcn hcd hfn hfd k0 k1 k2 r8 rB
         obtain ⟨j0, j1, j2, _, _, _⟩ := Row3 r8'
         obtain ⟨q0, q1, q2, f0, f1, f2⟩ := Row3 rB'
         have HF := HW.kept (put3_kept w3 (w.heap.size + 1) (.slice (some ⟨g1, 0, none⟩) S k1') (.slice (some ⟨g2, 0, none⟩) S k2') (.slice (some ⟨g3, 0, none⟩) S k3')) (by omega) (by have := HW.b2; omega) (by omega)
         have HF2 := Lib.hid HF
         have hbf := ((hbe.setCell (p := ⟨w.heap.size + 1, 0, none⟩) (by simp) (.slice (some ⟨g1, 0, none⟩) S k1')).setCell (p := ⟨w.heap.size + 1, 1, none⟩) (by simp) (.slice (some ⟨g2, 0, none⟩) S k2')).setCell (p := ⟨w.heap.size + 1, 2, none⟩) (by simp) (.slice (some ⟨g3, 0, none⟩) S k3')
         clear HF HW
         go_wp2
         refine bodyPost_ret (v := .tuple #[.agg #[.slice (some ⟨g1, 0, none⟩) S k1', .slice (some ⟨g2, 0, none⟩) S k2', .slice (some ⟨g3, 0, none⟩) S k3'], .int .i64 0]) (by simp [results, Tryz.results20, go_sem, q0, q1, q2]) rfl ⟨⟨_, rfl, RefV.mk (HF2.out.ref (fun b hb' => Nat.lt_of_lt_of_le (HG.out b hb') ?_))⟩, hbf⟩
         exact Nat.le_trans (Nat.le_succ _) hsr)
end

end Go.Proofs.YtackeigdehfmmaaGreatDoor

namespace Go.Proofs.YtackeigdehfmmaaGreatDoor
open Go.RowKit

section
variable {ops : Array Oper} {rest : List Oper} {o : Oper} {a : Act} {Q : Exit → Act → World → Prop}
/-- copy(dst, src) of a row of the call's own -/
theorem copy_pre (w : World) (hgd : o.guard = none) (dd s : Operand) (T E : TypeId)
    (ho : o.op = .call { callee := .builtin .copy, args := #[dd, s], argTypes := #[T, T] }) (hu : Tryz.prog.underlying T = some (.slice E)) (hsz : (Tryz.prog.info? E).map (·.size) = some 1)
    (g n c c' : Nat) (ao : Option Addr) (ys xs : List Value) (hd : a.eval dd = .slice (some ⟨g, 0, none⟩) n c) (hs : a.eval s = .slice ao n c') (G : Nat → Prop)
    (hr : Pre w g E ys) (hr' : RG w G ao xs) (hn : ys.length = n) (hn' : xs.length = n) (h0 : 0 < n) (h1 : ∀ v ∈ xs, v.oneCell' = true)
    (h : ∀ w', Pre w' g E xs → Kept (fun b => b = g) w w' → wpList Tryz.prog ops Q rest (a.put o.dst (goInt n)) w') : wpList Tryz.prog ops Q (o :: rest) a w := by
  obtain ⟨b, off, rfl, -, -⟩ := hr'.at' (k := 0) (by omega)
  obtain ⟨cs, hcs, hct⟩ := hr
  have hcl : n ≤ cs.size := by
    have := congrArg List.length hct
    simp at this
    omega
  have hsrc : ∀ j v, xs[j]? = some v → w.cell? ((⟨b, off, none⟩ : Addr).add j) = some v := by
    intro j v hj
    obtain ⟨b', off', e, -, hc⟩ := hr' j v hj
    simp only [Option.some.injEq, Addr.mk.injEq, and_true] at e
    obtain ⟨rfl, rfl⟩ := e
    have e : (⟨b, off, none⟩ : Addr).add j = ⟨b, off + j, none⟩ := by
      unfold Addr.add; split
      · subst j; rfl
      · rfl
    rw [e]; exact hc
  have hrun := run_copy_row (P := Tryz.prog) w T T o.type E g 0 n c ⟨b, off, none⟩ n c' cs E xs hu hsz hcs (by rw [hn']; exact (Nat.min_self n).symm) hsrc (by omega) h1
  refine wpList_plain hgd fun K hK => ?_
  unfold Oper.wp
  simp [execOp, ho, resolve, invoke, builtin, hd, hs, hrun, Result.andThen]
  rw [hn']
  refine hK _ _ (h _ ?_ ((Kept.refl w).setRow (G := fun b => b = g) rfl _))
  exact ⟨_, setRow_heap w g _ _ E _ hcs, by simp⟩
end

theorem RG.own {w : World} {G : Nat → Prop} {ao : Option Addr} {xs : List Value} (h : RG w G ao xs) : RG w (fun b => w.heap.size ≤ b) ao xs := by
  intro i x hx
  obtain ⟨b, off, e, _, hc⟩ := h i x hx
  exact ⟨b, off, e, by have := cell_lt hc; simp only at this; omega, hc⟩

theorem RG.kept2 {w w' : World} {G H : Nat → Prop} {ao : Option Addr} {xs : List Value} (h : RG w G ao xs) (hk : Kept H w w') (hH : ∀ b, H b → G b) : RG w' G ao xs := h.mono (hk.wider hH)

theorem sync1 {w w' : World} {B S g1 g2 g3 : Nat} {d d0 : Wl.Dk} (h : RefO w B S g1 g2 g3 d0) (hk : Kept (fun b => b = g1) w w') (hp : Pre w' g1 9 (svs d.now)) (hok : d.Ok S) : RefO w' B S g1 g2 g3 ⟨d.now, d0.old, d0.dirty⟩ :=
  ⟨hp, h.p2.kept hk h.n12.symm, h.p3.kept hk h.n13.symm, h.b1, h.b2, h.b3, h.n12, h.n13, h.n23, ⟨hok.now, h.ok.old, h.ok.dirty, hok.small, h.ok.small'⟩, h.lo, h.hi⟩

theorem sync2 {w w' : World} {B S g1 g2 g3 : Nat} {d : Wl.Dk} (h : RefO w B S g1 g2 g3 ⟨d.now, (Wl.Dk.new S).old, (Wl.Dk.new S).dirty⟩) (hk : Kept (fun b => b = g2) w w') (hp : Pre w' g2 9 (svs d.now)) (hok : d.Ok S) : RefO w' B S g1 g2 g3 d.syn :=
  ⟨h.p1.kept hk h.n12, hp, by have := h.p3.kept hk h.n23.symm; simpa [Wl.Dk.syn, Wl.Dk.new, hok.now] using this, h.b1, h.b2, h.b3, h.n12, h.n13, h.n23, hok.syn, h.lo, h.hi⟩

/-- a new disk of the reference -/
def FreshR (G : Nat → Prop) (S : Nat) (d : Wl.Dk) (w' : World) (e : Ending) : Prop := ∃ v, e = .returned v ∧ RefV w' G S v d

section
variable {w : World} {G : Nat → Prop} {S : Nat} {d : Wl.Dk}

set_option maxRecDepth 100000 in
set_option maxHeartbeats 3200000 in
theorem rSync_any {a1 a2 a3 : Option Addr} {c1 c2 c3 : Nat} (hG : ∀ b, G b → b < w.heap.size) (h : RefD w G S a1 a2 a3 d) :
    Calls Tryz.prog 30 #[.agg #[.slice a1 S c1, .slice a2 S c2, .slice a3 S c3]] w fun e w' => FreshR G S d.syn w' e ∧ Below w.heap.size w w' := by
  have hhi := h.hi
  have hlo := h.lo
  have HG := Lib.hid hG
  have HOK := Lib.hid h.ok
  have R0 := h.now.own
  clear hG h
  go_enter Tryz.func30, Tryz.ntmps30
  go_upto_region 1 with fail
  have hbx := (below_alloc w (.cells #[.slice a1 S c1, .slice a2 S c2, .slice a3 S c3] 28))
  have hby := below_alloc (w.alloc (.cells #[.slice a1 S c1, .slice a2 S c2, .slice a3 S c3] 28)) (.cells #[.slice none 0 0, .slice none 0 0, .slice none 0 0] 28)
  have hb := Below.step hbx hby (Nat.le_refl _)
  obtain ⟨hA, hB⟩ := heap2 w (.cells #[.slice a1 S c1, .slice a2 S c2, .slice a3 S c3] 28) (.cells #[.slice none 0 0, .slice none 0 0, .slice none 0 0] 28)
  clear hbx hby
  generalize ((w.alloc (.cells #[.slice a1 S c1, .slice a2 S c2, .slice a3 S c3] 28)).alloc (.cells #[.slice none 0 0, .slice none 0 0, .slice none 0 0] 28)) = wr at *
  have rA : Row wr w.heap.size 28 [.slice a1 S c1, .slice a2 S c2, .slice a3 S c3] := hA
  have rB : Row wr (w.heap.size + 1) 28 [.slice none 0 0, .slice none 0 0, .slice none 0 0] := hB
  have R1 := R0.mono (Kept.of_below hb)
  have hC := rNew_any (w := wr) hlo hhi
  have hltB := rB.lt
  clear hA hB R0
  obtain ⟨k0, k1, k2, _, _, _⟩ := Row3 rA
  go_wp2_with fail
  (with_reducible refine hC.mono ?_)
  rintro e w1 ⟨⟨g1, m1, g2, m2, g3, m3, rfl, HO⟩, hb1⟩
  clear k0 k1 k2 hC
  have rA := rA.below hb1
  have rB := rB.below hb1
  have R1 := R1.mono (Kept.of_below hb1)
  go_upto_region 2 with fail
  have hb2 := below_alloc w1 (.cells #[.slice (some ⟨g1, 0, none⟩) S m1, .slice (some ⟨g2, 0, none⟩) S m2, .slice (some ⟨g3, 0, none⟩) S m3] 28)
  have r8 : Row (w1.alloc (.cells #[.slice (some ⟨g1, 0, none⟩) S m1, .slice (some ⟨g2, 0, none⟩) S m2, .slice (some ⟨g3, 0, none⟩) S m3] 28)) w1.heap.size 28 [.slice (some ⟨g1, 0, none⟩) S m1, .slice (some ⟨g2, 0, none⟩) S m2, .slice (some ⟨g3, 0, none⟩) S m3] := heap_alloc_new _ _
  have hl1 := HO.p1.lt
  have hl2 := HO.p2.lt
  have hB1 := HO.b1
  have hB2 := HO.b2
  have hB3 := HO.b3
  have hs1 := hb1.size
  have HO := HO.mono hb2
  have rA := rA.below hb2
  have rB := rB.below hb2
  have R1 := R1.mono (Kept.of_below hb2)
  have hbb := Below.step (Below.step hb hb1 (Nat.le_refl _)) hb2 (Nat.le_refl _)
  have hs2 := hb2.size
  generalize (w1.alloc (.cells #[.slice (some ⟨g1, 0, none⟩) S m1, .slice (some ⟨g2, 0, none⟩) S m2, .slice (some ⟨g3, 0, none⟩) S m3] 28)) = w2 at *
  obtain ⟨n8, hn8⟩ : ∃ n8, n8 = w1.heap.size := ⟨_, rfl⟩
  rw [← hn8] at r8 ⊢
  have x1 : n8 ≠ g1 := by omega
  have x2 : n8 ≠ g2 := by omega
  have x3 : w.heap.size ≠ g1 := by omega
  have x4 : w.heap.size ≠ g2 := by omega
  have z1 : w.heap.size + 1 ≠ g1 := by omega
  have z2 : w.heap.size + 1 ≠ g2 := by omega
  have z3 : w.heap.size + 1 ≠ g3 := by omega
  have hg1 : w.heap.size ≤ g1 := by omega
  have hg2 : w.heap.size ≤ g2 := by omega
  have hsr : w.heap.size ≤ wr.heap.size := by omega
  clear hn8 hl1 hl2 hB1 hB2 hB3 hs1 hs2 hb2 hb1 hb hltB
  have R1 : RG w2 (fun b => b = g1 ∨ b = g2) a1 (svs d.now) := R1.narrow (fun b hb' => by rcases hb' with rfl | rfl <;> omega)
  obtain ⟨k0, k1, k2, _, _, _⟩ := Row3 r8
  obtain ⟨j0, _, _, _, _, _⟩ := Row3 rA
  have HRA := Lib.hid rA
  have HRB := Lib.hid rB
  have HR8 := Lib.hid r8
  clear rA rB r8
  have H12 := Lib.hid HO.n12
  have HO := Lib.hid HO
  go_wp2_with (first | (with_reducible refine copy_pre _ rfl (.tmp 9) (.tmp 11) 25 9 rfl Tryz.underlying25 (by kernel_rfl) g1 S m1 c1 a1 (svs (Wl.Dk.new S).now) (svs d.now) rfl rfl _ HO.out.p1 R1 (by simp [Wl.Dk.new]) (by simp [HOK.out.now]) (by omega) (oneS _) ?_; intro w3 hp1 hk3; have HO3 := Lib.hid (sync1 HO.out hk3 hp1 HOK.out); have k0 := hk3.cell k0 x1; have k1 := hk3.cell k1 x1; have k2 := hk3.cell k2 x1; have j0 := hk3.cell j0 x3; have HRB := Lib.hid (HRB.out.mono hk3 z1); have R2 := R1.kept2 hk3 (fun b hb' => .inl hb'); have hbb := hbb.trans (hk3.below (by rintro b rfl; exact hg1) hbb.size); clear hp1 hk3 R1 HO) | (with_reducible refine copy_pre _ rfl (.tmp 14) (.tmp 16) 25 9 rfl Tryz.underlying25 (by kernel_rfl) g2 S m2 c1 a1 (svs (Wl.Dk.new S).old) (svs d.now) rfl rfl _ HO3.out.p2 R2 (by simp [Wl.Dk.new]) (by simp [HOK.out.now]) (by omega) (oneS _) ?_; intro w4 hp2 hk4; have HO4 := Lib.hid (sync2 HO3.out hk4 hp2 HOK.out); have k0 := hk4.cell k0 x2; have k1 := hk4.cell k1 x2; have k2 := hk4.cell k2 x2; have HRB := Lib.hid (HRB.out.mono hk4 z2); obtain ⟨q0, q1, q2, f0, f1, f2⟩ := Row3 HRB.out; have hbb := hbb.trans (hk4.below (by rintro b rfl; exact hg2) hbb.size); clear hp2 hk4 R2 HO3 j0))
  have HF := Lib.hid (HO4.out.kept (put3_kept _ (w.heap.size + 1) (.slice (some ⟨g1, 0, none⟩) S m1) (.slice (some ⟨g2, 0, none⟩) S m2) (.slice (some ⟨g3, 0, none⟩) S m3)) z1.symm z2.symm z3.symm)
  have hbf := ((hbb.setCell (p := ⟨w.heap.size + 1, 0, none⟩) (by simp) (.slice (some ⟨g1, 0, none⟩) S m1)).setCell (p := ⟨w.heap.size + 1, 1, none⟩) (by simp) (.slice (some ⟨g2, 0, none⟩) S m2)).setCell (p := ⟨w.heap.size + 1, 2, none⟩) (by simp) (.slice (some ⟨g3, 0, none⟩) S m3)
  refine bodyPost_ret (v := .agg #[.slice (some ⟨g1, 0, none⟩) S m1, .slice (some ⟨g2, 0, none⟩) S m2, .slice (some ⟨g3, 0, none⟩) S m3]) (by simp [results, Tryz.results30, go_sem, q0, q1, q2]) rfl ⟨⟨_, rfl, RefV.mk (HF.out.ref (fun b hb' => Nat.lt_of_lt_of_le (HG.out b hb') hsr))⟩, hbf⟩
end

end Go.Proofs.YtackeigdehfmmaaGreatDoor

namespace Go.Proofs.YtackeigdehfmmaaGreatDoor
open Go.RowKit

theorem Wl_write_yes {d : Wl.Dk} {S i : Nat} {s : Wl.Bs} (hok : d.Ok S) (hi : i < S) (hs : s.length ≤ 65536) : d.write (i : Int) s = (d.wrt i s, 0) := by
  unfold Wl.Dk.write; rw [if_neg (by have := hok.now; omega), if_neg (by omega), Int.toNat_natCast]

theorem Row.put3 {w : World} {g : Nat} {E : TypeId} {x y z : Value} (h : Row w g E [x, y, z]) (u0 u1 u2 : Value) : Row (((w.setCell ⟨g, 0, none⟩ u0).setCell ⟨g, 1, none⟩ u1).setCell ⟨g, 2, none⟩ u2) g E [u0, u1, u2] := by
  have := ((h.set 0 u0).set 1 u1).set 2 u2
  simpa using this
theorem Row.other3 {w : World} {g g' : Nat} {E : TypeId} {xs : List Value} (h : Row w g E xs) (hne : g ≠ g') (u0 u1 u2 : Value) : Row (((w.setCell ⟨g', 0, none⟩ u0).setCell ⟨g', 1, none⟩ u1).setCell ⟨g', 2, none⟩ u2) g E xs :=
  ((h.other hne u0).other hne u1).other hne u2

section
variable {w : World} {G : Nat → Prop} {S : Nat} {d : Wl.Dk}

/-- a disk of the reference lies in a box -/
structure BoxD (w : World) (G : Nat → Prop) (S n : Nat) (d : Wl.Dk) : Prop where
  ex : ∃ (b1 : Option Addr) (k1 : Nat) (b2 : Option Addr) (k2 : Nat) (b3 : Option Addr) (k3 : Nat), Row w n 28 [.slice b1 S k1, .slice b2 S k2, .slice b3 S k3] ∧ RefD w G S b1 b2 b3 d

set_option maxRecDepth 100000 in
set_option maxHeartbeats 1600000 in
theorem rput_yes (i : Nat) (s : Wl.Bs) {a1 a2 a3 : Option Addr} {c1 c2 c3 : Nat} (hG : ∀ b, G b → b < w.heap.size) (h : RefD w G S a1 a2 a3 d) (hi : i < S) (hs : s.length ≤ 65536) :
    Calls Tryz.prog 44 #[.agg #[.slice a1 S c1, .slice a2 S c2, .slice a3 S c3], .int .i64 i, sv s] w fun e w' => FreshR G S (d.wrt i s) w' e ∧ Below w.heap.size w w' := by
  have hhi := h.hi
  have HG := Lib.hid hG
  clear hG
  go_enter Tryz.func44, Tryz.ntmps44
  go_upto_region 1 with fail
  have hbx := (below_alloc w (.cells #[.slice a1 S c1, .slice a2 S c2, .slice a3 S c3] 28))
  have hby := below_alloc (w.alloc (.cells #[.slice a1 S c1, .slice a2 S c2, .slice a3 S c3] 28)) (.cells #[.slice none 0 0, .slice none 0 0, .slice none 0 0] 28)
  have hb := Below.step hbx hby (Nat.le_refl _)
  obtain ⟨hA, hB⟩ := heap2 w (.cells #[.slice a1 S c1, .slice a2 S c2, .slice a3 S c3] 28) (.cells #[.slice none 0 0, .slice none 0 0, .slice none 0 0] 28)
  clear hbx hby
  generalize ((w.alloc (.cells #[.slice a1 S c1, .slice a2 S c2, .slice a3 S c3] 28)).alloc (.cells #[.slice none 0 0, .slice none 0 0, .slice none 0 0] 28)) = wr at *
  have rA : Row wr w.heap.size 28 [.slice a1 S c1, .slice a2 S c2, .slice a3 S c3] := hA
  have rB : Row wr (w.heap.size + 1) 28 [.slice none 0 0, .slice none 0 0, .slice none 0 0] := hB
  obtain ⟨H, hH⟩ : ∃ H : Nat → Prop, ∀ b, H b ↔ (G b ∨ b = w.heap.size + 1) := ⟨_, fun _ => Iff.rfl⟩
  have hltB := rB.lt
  have hlift : ∀ b, b < w.heap.size → H b → G b := fun b hlt hh => by rcases (hH b).1 hh with h' | h'; exact h'; omega
  have hR : RefD wr H S a1 a2 a3 d := ⟨h.now.lift hb hlift, h.old.lift hb hlift, h.dirty.lift hb hlift, h.ok, h.lo, h.hi⟩
  have hW := rWrite_yes (w := wr) (G := H) (c1 := c1) (c2 := c2) (c3 := c3) i s (fun b hb' => by rcases (hH b).1 hb' with h' | h'; have := HG.out b h'; omega; omega) hR hi hs
  have HGH : Hid (∀ b, G b → H b) := Lib.hid (fun b hb' => (hH b).2 (.inl hb'))
  have HnH : Hid (∀ b, b = w.heap.size + 1 → H b) := Lib.hid (fun b hb' => (hH b).2 (.inr hb'))
  obtain ⟨k0, k1, k2, _, _, _⟩ := Row3 rA
  clear hA hB h hH hlift hR rA
  go_wp2_with fail
  (with_reducible refine hW.mono ?_)
  rintro e w1 ⟨⟨v, rfl, b1, m1, b2, m2, b3, m3, rfl, hR1⟩, hb1⟩
  clear hW k0 k1 k2
  have rB := rB.below hb1
  have hbb := Below.step hb hb1 (Nat.le_refl _)
  have HR1 := Lib.hid hR1
  have hs1 := hb1.size
  obtain ⟨q0, q1, q2, f0, f1, f2⟩ := Row3 rB
  have hlt1 := rB.lt
  clear hR1 hb hb1
  go_wp2
  have HF1 := HR1.out.kept ((put3_kept w1 (w.heap.size + 1) (.slice b1 S m1) (.slice b2 S m2) (.slice b3 S m3)).wider HnH.out)
  have HF := HF1.mono (below_alloc _ (.cells #[.slice b1 S m1, .slice b2 S m2, .slice b3 S m3] 28))
  have hbf := (((hbb.setCell (p := ⟨w.heap.size + 1, 0, none⟩) (by simp) (.slice b1 S m1)).setCell (p := ⟨w.heap.size + 1, 1, none⟩) (by simp) (.slice b2 S m2)).setCell (p := ⟨w.heap.size + 1, 2, none⟩) (by simp) (.slice b3 S m3)).alloc (by simp [World.setCell]; omega) (.cells #[.slice b1 S m1, .slice b2 S m2, .slice b3 S m3] 28)
  unfold put3 at HF
  refine bodyPost_ret (v := .agg #[.slice b1 S m1, .slice b2 S m2, .slice b3 S m3]) (by simp [results, Tryz.results44, go_sem, q0, q1, q2, hlt1]) rfl ⟨⟨_, rfl, RefV.mk ⟨HF.now.narrow HGH.out, HF.old.narrow HGH.out, HF.dirty.narrow HGH.out, HF.ok, HF.lo, HF.hi⟩⟩, hbf⟩

end

end Go.Proofs.YtackeigdehfmmaaGreatDoor

namespace Wl
open Go
theorem rfmt_eq {d d' : Dk} {S : Nat} (hS : d.now.length = S) (h4 : 4 ≤ S) (h' : d'.now.length = S) (he : ∀ j, j < S → d'.now.getD j [] = []) : (d'.wrt 0 (enc 0 [48])).syn = d.fmt.1 := fmt_eq hS h4 h' he
end Wl
namespace Go.Proofs.YtackeigdehfmmaaGreatDoor
open Go.RowKit

theorem RefD.lift {w w' : World} {G H : Nat → Prop} {S : Nat} {a1 a2 a3 : Option Addr} {d : Wl.Dk} (h : RefD w G S a1 a2 a3 d) (hb : Below w.heap.size w w') (hH : ∀ b, b < w.heap.size → H b → G b) : RefD w' H S a1 a2 a3 d :=
  ⟨h.now.lift hb hH, h.old.lift hb hH, h.dirty.lift hb hH, h.ok, h.lo, h.hi⟩
theorem RefD.narrow {w : World} {G H : Nat → Prop} {S : Nat} {a1 a2 a3 : Option Addr} {d : Wl.Dk} (h : RefD w H S a1 a2 a3 d) (hH : ∀ b, G b → H b) : RefD w G S a1 a2 a3 d :=
  ⟨h.now.narrow hH, h.old.narrow hH, h.dirty.narrow hH, h.ok, h.lo, h.hi⟩

section
variable {w : World} {G : Nat → Prop} {S : Nat} {d : Wl.Dk}

theorem rFormat_no {a1 a2 a3 : Option Addr} {c1 c2 c3 : Nat} (h : RefD w G S a1 a2 a3 d) (hS : S < 4) :
    Calls Tryz.prog 22 #[.agg #[.slice a1 S c1, .slice a2 S c2, .slice a3 S c3]] w fun e w' => ResW G S d 7 w' e ∧ Below w.heap.size w w' := by
  have H := Lib.hid h
  have d0 : decide ((S : Int) < 4) = true := by simp <;> omega
  clear h
  go_enter Tryz.func22, Tryz.ntmps22
  go_wp2
  have hb : Below w.heap.size w ((w.alloc (.cells #[.slice a1 S c1, .slice a2 S c2, .slice a3 S c3] 28)).alloc (.cells #[.slice a1 S c1, .slice a2 S c2, .slice a3 S c3] 28)) := ((Below.refl _ _).alloc (Nat.le_refl _) _).alloc (by simp) _
  refine bodyPost_ret (v := .tuple #[.agg #[.slice a1 S c1, .slice a2 S c2, .slice a3 S c3], .int .i64 7]) (by simp [results, Tryz.results22, go_sem]) rfl ⟨⟨_, rfl, RefV.mk (H.out.mono hb)⟩, hb⟩

set_option maxRecDepth 100000 in
set_option maxHeartbeats 3200000 in
theorem rFormat_yes {a1 a2 a3 : Option Addr} {c1 c2 c3 : Nat} (hG : ∀ b, G b → b < w.heap.size) (h : RefD w G S a1 a2 a3 d) (hE : Env w) (hS : 4 ≤ S) :
    Calls Tryz.prog 22 #[.agg #[.slice a1 S c1, .slice a2 S c2, .slice a3 S c3]] w fun e w' => ResW G S d.fmt.1 0 w' e ∧ Below w.heap.size w w' := by
  have hhi := h.hi
  have HG := Lib.hid hG
  have HOK := Lib.hid h.ok
  clear hG
  have d0 : decide ((S : Int) < 4) = false := by simp <;> omega
  go_enter Tryz.func22, Tryz.ntmps22
  go_upto_region 1 with fail
  have hbx := (below_alloc w (.cells #[.slice a1 S c1, .slice a2 S c2, .slice a3 S c3] 28))
  have hby := below_alloc (w.alloc (.cells #[.slice a1 S c1, .slice a2 S c2, .slice a3 S c3] 28)) (.cells #[.slice none 0 0, .slice none 0 0, .slice none 0 0] 28)
  have hb := Below.step hbx hby (Nat.le_refl _)
  obtain ⟨hA, hB⟩ := heap2 w (.cells #[.slice a1 S c1, .slice a2 S c2, .slice a3 S c3] 28) (.cells #[.slice none 0 0, .slice none 0 0, .slice none 0 0] 28)
  clear hbx hby
  generalize ((w.alloc (.cells #[.slice a1 S c1, .slice a2 S c2, .slice a3 S c3] 28)).alloc (.cells #[.slice none 0 0, .slice none 0 0, .slice none 0 0] 28)) = wr at *
  have rA : Row wr w.heap.size 28 [.slice a1 S c1, .slice a2 S c2, .slice a3 S c3] := hA
  have rB : Row wr (w.heap.size + 1) 28 [.slice none 0 0, .slice none 0 0, .slice none 0 0] := hB
  obtain ⟨H, hH⟩ : ∃ H : Nat → Prop, ∀ b, H b ↔ (G b ∨ b = w.heap.size ∨ b = w.heap.size + 1) := ⟨_, fun _ => Iff.rfl⟩
  have hltB := rB.lt
  have hR : RefD wr H S a1 a2 a3 d := h.lift hb (fun b hlt hh => by rcases (hH b).1 hh with h' | h' | h'; exact h'; omega; omega)
  have HGH : Hid (∀ b, G b → H b) := Lib.hid (fun b hb' => (hH b).2 (.inl hb'))
  have HnA : Hid (∀ b, b = w.heap.size → H b) := Lib.hid (fun b hb' => (hH b).2 (.inr (.inl hb')))
  have HnB : Hid (∀ b, b = w.heap.size + 1 → H b) := Lib.hid (fun b hb' => (hH b).2 (.inr (.inr hb')))
  have HLT : Hid (∀ b, H b → b < wr.heap.size) := Lib.hid (fun b hb' => by rcases (hH b).1 hb' with h' | h' | h'; have := HG.out b h'; omega; omega; omega)
  have HR := Lib.hid hR
  clear hA hB h hH hR
  obtain ⟨k0, _, _, _, _, _⟩ := Row3 rA
  go_wp2_with fail
  clear k0 d0
  obtain ⟨wl, rfl⟩ : ∃ wl : World, wl = wr := ⟨_, rfl⟩
  go_loopw [4] (fun s4 wr => ∃ (k : Nat) (d' : Wl.Dk) (b1 b2 b3 : Option Addr) (m1 m2 m3 : Nat), k ≤ S ∧ s4 = .int .i64 k ∧ Hid (Row wr w.heap.size 28 [.slice b1 S m1, .slice b2 S m2, .slice b3 S m3]) ∧ Hid (Row wr (w.heap.size + 1) 28 [.slice none 0 0, .slice none 0 0, .slice none 0 0]) ∧
      Hid (RefD wr H S b1 b2 b3 d') ∧ Hid (∀ j, j < k → d'.now.getD j [] = []) ∧ Below w.heap.size w wr ∧ wl.heap.size ≤ wr.heap.size) (fun s4 _ => S - (intOf s4).toNat)
  case atStart => exact ⟨0, d, a1, a2, a3, c1, c2, c3, Nat.zero_le _, rfl, Lib.hid rA, Lib.hid rB, HR, Lib.hid (fun j hj => by omega), hb, Nat.le_refl _⟩
  case round =>
    clear rA rB HR
    obtain ⟨k, d', b1, b2, b3, m1, m2, m3, hk, rfl, RA, RB, RD, HZ, hbw, hsz⟩ := hrel
    obtain ⟨k0, k1, k2, f0, f1, f2⟩ := Row3 RA.out
    by_cases hlt : k < S
    · have hP := rput_yes (w := wr) (G := H) (c1 := m1) (c2 := m2) (c3 := m3) k [] (fun b hb' => Nat.lt_of_lt_of_le (HLT.out b hb') hsz) RD.out hlt (by simp)
      have hlA := RA.out.lt
      go_wp2_with fail
      (with_reducible refine hP.mono ?_)
      rintro e w1 ⟨⟨v, rfl, e1, n1, e2, n2, e3, n3, rfl, hR1⟩, hb1⟩
      clear hP k0 k1 k2 f0 f1 f2
      have RA := RA.out.below hb1
      have RB := Lib.hid (RB.out.below hb1)
      obtain ⟨k0, k1, k2, f0, f1, f2⟩ := Row3 RA
      have RA2 := Lib.hid (RA.put3 (.slice e1 S n1) (.slice e2 S n2) (.slice e3 S n3))
      have RB2 := Lib.hid (RB.out.other3 (show w.heap.size + 1 ≠ w.heap.size by omega) (.slice e1 S n1) (.slice e2 S n2) (.slice e3 S n3))
      have RD2 := Lib.hid (hR1.kept ((put3_kept w1 w.heap.size (.slice e1 S n1) (.slice e2 S n2) (.slice e3 S n3)).wider HnA.out))
      have HZ2 : Hid (∀ j, j < k + 1 → (d'.wrt k []).now.getD j [] = []) := Lib.hid (Wl.wrt_empty RD.out.ok.now HZ.out hlt)
      have hbf := (((Below.step hbw hb1 (Nat.le_refl _)).setCell (p := ⟨w.heap.size, 0, none⟩) (Nat.le_refl _) (.slice e1 S n1)).setCell (p := ⟨w.heap.size, 1, none⟩) (Nat.le_refl _) (.slice e2 S n2)).setCell (p := ⟨w.heap.size, 2, none⟩) (Nat.le_refl _) (.slice e3 S n3)
      have hs1 := hb1.size
      clear RA RB RD HZ hR1 hb1
      go_wp2
      go_roundw
      case rel => exact ⟨k + 1, d'.wrt k [], e1, e2, e3, n1, n2, n3, by omega, by go_num, RA2, RB2, RD2, HZ2, hbf, by simp [World.setCell]; omega⟩
      case measure => simp [intOf]; omega
    · have hk2 : k = S := by omega
      have HE : Hid ((d'.wrt 0 (Wl.enc 0 [48])).syn = d.fmt.1) := Lib.hid (Wl.rfmt_eq HOK.out.now hS RD.out.ok.now (hk2 ▸ HZ.out))
      clear hk2
      have hel := Wl.enc_len 0 [48]
      obtain ⟨E, hE0⟩ : ∃ E, E = Wl.enc 0 [48] := ⟨_, rfl⟩
      rw [← hE0] at HE hel
      have HE0 := Lib.hid hE0
      clear hE0
      have hEr := hE.mono hbw
      have hEn := fun (W : World) (hW : Below wr.heap.size wr W) => rEncode_any 0 [48] W (by simp) (hEr.mono hW)
      rw [← HE0.out] at hEn
      have hPu := fun (W : World) (hW : Below wr.heap.size wr W) => rput_yes (w := W) (G := H) (c1 := m1) (c2 := m2) (c3 := m3) 0 E (fun b hb' => Nat.lt_of_lt_of_le (HLT.out b hb') (Nat.le_trans hsz hW.size)) (RD.out.mono hW) (by omega) (by omega)
      rw [show ((0 : Nat) : Int) = 0 from rfl] at hPu
      obtain ⟨r0, r1, r2, g0, g1, g2⟩ := Row3 RB.out
      have hlA := RA.out.lt
      have hlB := RB.out.lt
      go_wp2_with fail
      go_region_with (first
        | (go_at_call 45; (with_reducible refine (hEn _ ?_).mono ?_); (repeat' (first | with_reducible assumption | with_reducible exact Below.refl _ _ | with_reducible refine Below.drew ?_ | (first | exact Nat.le_refl _ | omega | (simp; done)))); rintro e t1 ⟨rfl, he1⟩; have HT1 : Below wr.heap.size wr t1 := (by (repeat' (first | with_reducible refine Below.step ?_ he1 ?_ | with_reducible assumption | with_reducible exact Below.refl _ _ | with_reducible refine Below.drew ?_ | (first | exact Nat.le_refl _ | omega | (simp; done))))); obtain ⟨k0', k1', k2', _, _, _⟩ := Row3 (RA.out.below HT1))
        | (go_at_call 44; (with_reducible refine (hPu _ ?_).mono ?_); (repeat' (first | with_reducible assumption | with_reducible exact Below.refl _ _ | with_reducible refine Below.drew ?_ | (first | exact Nat.le_refl _ | omega | (simp; done)))); rintro e t2 ⟨⟨v2, rfl, e1, n1, e2, n2, e3, n3, rfl, hR2⟩, he2⟩; have HT2 : Below wr.heap.size wr t2 := Below.step (by assumption) he2 (Nat.le_refl _))
        | (go_at_call 30; (with_reducible refine (rSync_any (w := t2) (G := H) (c1 := n1) (c2 := n2) (c3 := n3) (fun b hb' => Nat.lt_of_lt_of_le (HLT.out b hb') (Nat.le_trans hsz HT2.size)) hR2).mono ?_); rintro e t3 ⟨⟨v3, rfl, e4, n4, e5, n5, e6, n6, rfl, hR3⟩, he3⟩; have HT3 := Below.step HT2 he3 (Nat.le_refl _); obtain ⟨s0, s1, s2, y0, y1, y2⟩ := Row3 (RB.out.below HT3)))
      all_goals
        have HF := Lib.hid (hR3.kept ((put3_kept t3 (w.heap.size + 1) (.slice e4 S n4) (.slice e5 S n5) (.slice e6 S n6)).wider HnB.out))
        rw [HE.out] at HF
        have hbf := Lib.hid ((((Below.step hbw HT3 (Nat.le_refl _)).setCell (p := ⟨w.heap.size + 1, 0, none⟩) (by simp) (.slice e4 S n4)).setCell (p := ⟨w.heap.size + 1, 1, none⟩) (by simp) (.slice e5 S n5)).setCell (p := ⟨w.heap.size + 1, 2, none⟩) (by simp) (.slice e6 S n6))
        clear hEn hPu
        go_wp2
        refine bodyPost_ret (v := .tuple #[.agg #[.slice e4 S n4, .slice e5 S n5, .slice e6 S n6], .int .i64 0]) (by simp [results, Tryz.results22, go_sem, s0, s1, s2]) rfl ⟨⟨_, rfl, RefV.mk (HF.out.narrow HGH.out)⟩, hbf.out⟩
end

end Go.Proofs.YtackeigdehfmmaaGreatDoor

namespace Go.Proofs.YtackeigdehfmmaaGreatDoor
open Go.RowKit

theorem Disk.keptN {w w' : World} {G : Nat → Prop} {p S n : Nat} {d : Wl.Dk} (h : Disk w G p S d) (hk : Kept (fun b => b = n) w w') (hp : p ≠ n) (hn : ¬ G n) : Disk w' G p S d := by
  obtain ⟨g1, g2, g3, h⟩ := h
  have ne : ∀ g, G g → g ≠ n := fun g hg e => hn (e ▸ hg)
  exact ⟨g1, g2, g3, hk.cell h.c0 hp, hk.cell h.c1 hp, hk.cell h.c2 hp, h.np, h.G1, h.G2, h.G3, h.n12, h.n13, h.n23, h.r1.mono hk (ne _ h.G1), h.r2.mono hk (ne _ h.G2), h.r3.mono hk (ne _ h.G3), h.ok, h.lo, h.hi⟩

/-- a disk and the reference's, both with an empty log -/
structure Made (w w' : World) (S p : Nat) (G : Nat → Prop) (v : Value) : Prop where
  disk : Disk w' G p S (Wl.Dk.new S).fmt.1
  ref : RefV w' G S v (Wl.Dk.new S).fmt.1
  lo : ∀ b, G b → w.heap.size ≤ b
  hi : ∀ b, G b → b < w'.heap.size
  pl : w.heap.size ≤ p

def MadeR (w w' : World) (S : Nat) (e : Ending) : Prop := ∃ p G v, e = .returned (.tuple #[.pointer (some ⟨p, 0, none⟩), v, .bool true]) ∧ Made w w' S p G v

theorem fmt_now {S : Nat} (h : 4 ≤ S) : ((Wl.Dk.new S).fmt.1).now.length = S := by
  unfold Wl.Dk.fmt; rw [if_neg (by simp [Wl.Dk.new]; omega)]; simp [Wl.Dk.new]

set_option maxRecDepth 100000 in
set_option maxHeartbeats 3200000 in
theorem made_any (S : Nat) (w : World) (h4 : 4 ≤ S) (h1024 : S ≤ 1024) (hE : Env w) :
    Calls Tryz.prog 6 #[.int .i64 S] w fun e w' => MadeR w w' S e ∧ Below w.heap.size w w' := by
  go_enter Tryz.func6, Tryz.ntmps6
  go_upto_region 1 with fail
  have hb0 := below_alloc w (.cells #[.slice none 0 0, .slice none 0 0, .slice none 0 0] 28)
  have r3 : Row (w.alloc (.cells #[.slice none 0 0, .slice none 0 0, .slice none 0 0] 28)) w.heap.size 28 [.slice none 0 0, .slice none 0 0, .slice none 0 0] := heap_alloc_new _ _
  generalize w.alloc (.cells #[.slice none 0 0, .slice none 0 0, .slice none 0 0] 28) = w0 at *
  have hlt3 := r3.lt
  go_wp2_with fail
  (with_reducible refine (New_yes S w0 (by omega) h1024).mono ?_)
  rintro e w1 ⟨⟨p, G, rfl, hp, hD, hGb⟩, hb1⟩
  have r3 := r3.below hb1
  have hb := Below.step hb0 hb1 (Nat.le_refl _)
  have HG := Lib.hid hGb
  have hs1 := hb1.size
  clear hb0 hb1 hGb
  go_wp2_with fail
  (with_reducible refine (rNew_any (w := w1) (by omega) h1024).mono ?_)
  rintro e w2 ⟨⟨g1, m1, g2, m2, g3, m3, rfl, HO⟩, hb2⟩
  obtain ⟨H, hH⟩ : ∃ H : Nat → Prop, ∀ b, H b ↔ (G b ∨ b = w.heap.size) := ⟨_, fun _ => Iff.rfl⟩
  have HGH : Hid (∀ b, G b → H b) := Lib.hid (fun b hb' => (hH b).2 (.inl hb'))
  have HnH : Hid (∀ b, b = w.heap.size → H b) := Lib.hid (fun b hb' => (hH b).2 (.inr hb'))
  have HLT : Hid (∀ b, H b → b < w1.heap.size) := Lib.hid (fun b hb' => by rcases (hH b).1 hb' with h' | h'; have := (HG.out b h').2; omega; omega)
  have HH := Lib.hid hH
  clear hH
  have hR := HO.ref HLT.out
  have hD := hD.mono hb2
  have r3 := r3.below hb2
  have hb := Below.step hb hb2 (Nat.le_refl _)
  have hs2 := hb2.size
  clear HO hb2
  have hF := rFormat_yes (w := w2) (G := H) (c1 := m1) (c2 := m2) (c3 := m3) (fun b hb' => Nat.lt_of_lt_of_le (HLT.out b hb') hs2) hR (hE.mono hb) h4
  clear hR
  go_wp2_with fail
  (with_reducible refine hF.mono ?_)
  rintro e w3 ⟨⟨v, rfl, b1, n1, b2, n2, b3, n3, rfl, hR⟩, hb3⟩
  have hD := hD.mono hb3
  have r3 := r3.below hb3
  have hb := Below.step hb hb3 (Nat.le_refl _)
  have hs3 := hb3.size
  clear hF hb3
  go_upto_region 5 with fail
  have hb4 := below_alloc w3 (.cells #[.slice b1 S n1, .slice b2 S n2, .slice b3 S n3] 28)
  have r7 : Row (w3.alloc (.cells #[.slice b1 S n1, .slice b2 S n2, .slice b3 S n3] 28)) w3.heap.size 28 [.slice b1 S n1, .slice b2 S n2, .slice b3 S n3] := heap_alloc_new _ _
  have hD := hD.mono hb4
  have r3 := r3.below hb4
  have hR := hR.mono hb4
  have hb := Below.step hb hb4 (Nat.le_refl _)
  have hs4 := hb4.size
  generalize (w3.alloc (.cells #[.slice b1 S n1, .slice b2 S n2, .slice b3 S n3] 28)) = w4 at *
  obtain ⟨n7, hn7⟩ : ∃ n7, n7 = w3.heap.size := ⟨_, rfl⟩
  rw [← hn7] at r7 ⊢
  have h73 : n7 ≠ w.heap.size := by omega
  have h37 : w.heap.size ≠ n7 := by omega
  have HN7 : Hid (¬ G n7) := Lib.hid (fun hg => by have := (HG.out n7 hg).2; omega)
  have HNH7 : Hid (¬ H n7) := Lib.hid (fun hg => by rcases (HH.out n7).1 hg with h' | h'; exact HN7.out h'; exact h73 h')
  have HN3 : Hid (¬ G w.heap.size) := Lib.hid (fun hg => by have := (HG.out _ hg).1; omega)
  have hp3 : p ≠ w.heap.size := by omega
  have hs5 : w1.heap.size ≤ w4.heap.size := by omega
  clear hb4 hn7 hs1 hs2 hs3 hs4
  have hFm := fun (W : World) (hW : Kept (fun b => b = w.heap.size) w4 W) => Format_yes (w := W) (G := G) (p := p) (S := S) (d := Wl.Dk.new S) (hD.keptN hW hp3 HN3.out)
    ⟨fun V hV => hE.mono ((hb.trans (hW.below (by rintro b rfl; exact Nat.le_refl _) hb.size)).trans (hV.below (fun b hg => by have := (HG.out b hg).1; omega) (Nat.le_trans hb.size hW.size))), fun b hg => by have := (HG.out b hg).2; have := hW.size; omega⟩ h4
  obtain ⟨k0, k1, k2, _, _, _⟩ := Row3 r7
  obtain ⟨q0, q1, q2, f0, f1, f2⟩ := Row3 r3
  go_region_with (go_at_call 21; (with_reducible refine (hFm _ ?_).mono ?_); (repeat' (first | with_reducible exact Kept.refl _ | with_reducible refine Kept.drew ?_ | with_reducible refine Kept.setCell ?_ ?_ _ | exact rfl)); rintro e t1 ⟨rfl, hD1, hk1⟩; have HT1 : Kept H w4 t1 := (Kept.wider (by (repeat' (first | with_reducible exact Kept.refl _ | with_reducible refine Kept.drew ?_ | with_reducible refine Kept.setCell ?_ ?_ _ | exact rfl)) : Kept (fun b => b = w.heap.size) w4 _) HnH.out).trans (hk1.wider HGH.out); obtain ⟨k0', k1', k2', _, _, _⟩ := Row3 (r7.mono HT1 HNH7.out); first | (have r3t := (r3.drew).mono hk1 HN3.out; obtain ⟨q0', q1', q2', f0', f1', f2'⟩ := Row3 r3t) | (have r3t := ((r3.drew).put3 (.slice b1 S n1) (.slice b2 S n2) (.slice b3 S n3)).mono hk1 HN3.out; obtain ⟨q0', q1', q2', f0', f1', f2'⟩ := Row3 r3t))
  all_goals
    have HP := put3_kept t1 w.heap.size (.slice b1 S n1) (.slice b2 S n2) (.slice b3 S n3)
    have HRf := ((hR.kept HT1).kept (HP.wider HnH.out)).narrow HGH.out
    have hDf := hD1.keptN HP hp3 HN3.out
    have hbT : Below w.heap.size w t1 := hb.trans (HT1.below (fun b hg => by rcases (HH.out b).1 hg with h' | h'; have := (HG.out b h').1; omega; omega) hb.size)
    have hbf := ((hbT.setCell (p := ⟨w.heap.size, 0, none⟩) (Nat.le_refl _) (.slice b1 S n1)).setCell (p := ⟨w.heap.size, 1, none⟩) (Nat.le_refl _) (.slice b2 S n2)).setCell (p := ⟨w.heap.size, 2, none⟩) (Nat.le_refl _) (.slice b3 S n3)
    have HM : Hid (Made w (put3 t1 w.heap.size (.slice b1 S n1) (.slice b2 S n2) (.slice b3 S n3)) S p G (.agg #[.slice b1 S n1, .slice b2 S n2, .slice b3 S n3])) := Lib.hid
      ⟨hDf, RefV.mk HRf, fun b hg => by have := (HG.out b hg).1; omega, fun b hg => by have h1 := (HG.out b hg).2; have h2 := HT1.size; have h3 := HP.size; omega, by omega⟩
    clear HP HRf hDf hFm
    go_wp2
    exact bodyPost_ret (v := .tuple #[.pointer (some ⟨p, 0, none⟩), .agg #[.slice b1 S n1, .slice b2 S n2, .slice b3 S n3], .bool true]) (by simp [results, Tryz.results6, go_sem, q0', q1', q2']) rfl ⟨⟨p, G, _, rfl, HM.out⟩, hbf⟩

end Go.Proofs.YtackeigdehfmmaaGreatDoor
