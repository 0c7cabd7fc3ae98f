import Derived.Test.YtackeigdehfmmaaGreatDoorProg
import Derived.Test.YtackeigdehfmmaaGreatDoorG1
import Derived.WalkKit
import Derived.WalkSpells
import Derived.WalkLawsBesides
import Derived.Lib.Hide
import Derived.Lib.Strings
import Derived.BigQuiet
import Derived.Deep.QuietTactic
import Derived.Outline
import Derived.Deep.DeepFit
import Derived.Deep.DeepCutAuto
import Derived.Deep.RegionHeld3
import Derived.Laws.CopyOwn
import Derived.Laws.Tables
import Derived.Deep.RegionLaw
import Derived.BigRegion
import Derived.Laws.BitsAllLaws
import Derived.Laws.Bits64b
import Derived.Lib.ItoaMem
namespace Go.Proofs.YtackeigdehfmmaaGreatDoor
open Go.RowKit

/-- bytes as a string's value -/
abbrev sv (s : Wl.Bs) : Value := .string ⟨s.toArray⟩
abbrev svs (l : List Wl.Bs) : List Value := l.map sv
abbrev bvs (l : List Bool) : List Value := l.map Value.bool
abbrev nvs (l : List Nat) : List Value := l.map fun (n : Nat) => Value.int .i64 (n : Int)

theorem extract_ba (s : Wl.Bs) (a b : Nat) : (⟨s.toArray⟩ : ByteArray).extract a b = ⟨((s.drop a).take (b - a)).toArray⟩ := by
  have h := Lib.extract_data ⟨s.toArray⟩ a b
  cases he : (⟨s.toArray⟩ : ByteArray).extract a b with
  | mk x =>
    rw [he] at h
    congr 1
    have h2 : x.toList = (s.drop a).take (b - a) := h
    rw [← h2, Array.toArray_toList]

theorem cell_lt {w : World} {a : Addr} {v : Value} (h : w.cell? a = some v) : a.block < w.heap.size := by
  unfold World.cell? at h
  by_cases hb : a.block < w.heap.size
  · exact hb
  · rw [Array.getElem?_eq_none (by omega)] at h; simp at h

theorem heap_lt {w : World} {g : Nat} {o : Obj} (h : w.heap[g]? = some o) : g < w.heap.size := by
  by_cases hb : g < w.heap.size
  · exact hb
  · rw [Array.getElem?_eq_none (by omega)] at h; cases h

/-- 'Below' from an older world on -/
theorem Below.step {B : Nat} {a b c : World} (h1 : Below B a b) (h2 : Below b.heap.size b c) (hB : B ≤ a.heap.size) : Below B a c :=
  h1.trans (h2.mono (Nat.le_trans hB h1.size))

theorem below_alloc (w : World) (o : Obj) : Below w.heap.size w (w.alloc o) := (Below.refl _ _).alloc (Nat.le_refl _) o

/-- of the blocks that there are only those of G may have turned -/
structure Kept (G : Nat → Prop) (w w' : World) : Prop where
  os : w'.os = w.os
  tape : w'.tape = w.tape
  output : w'.output = w.output
  size : w.heap.size ≤ w'.heap.size
  block : ∀ k, k < w.heap.size → ¬ G k → w'.heap[k]? = w.heap[k]?

section
variable {G : Nat → Prop}
theorem Kept.refl (w : World) : Kept G w w := ⟨rfl, rfl, rfl, Nat.le_refl _, fun _ _ _ => rfl⟩
theorem Kept.trans {a b c : World} (h : Kept G a b) (k : Kept G b c) : Kept G a c :=
  ⟨k.os.trans h.os, k.tape.trans h.tape, k.output.trans h.output, Nat.le_trans h.size k.size, fun i hi hg => (k.block i (Nat.lt_of_lt_of_le hi h.size) hg).trans (h.block i hi hg)⟩
theorem Kept.of_below {w w' : World} (h : Below w.heap.size w w') : Kept G w w' := ⟨h.os, h.tape, h.output, h.size, fun k hk _ => h.block k hk⟩
theorem Kept.drew {a w : World} (h : Kept G a w) : Kept G a w.drew := ⟨h.os, h.tape, h.output, h.size, h.block⟩
theorem Kept.alloc {a w : World} (h : Kept G a w) (o : Obj) : Kept G a (w.alloc o) := h.trans (.of_below (below_alloc w o))
theorem Kept.setCell {a w : World} (h : Kept G a w) {p : Addr} (hp : G p.block) (u : Value) : Kept G a (w.setCell p u) :=
  h.trans ⟨rfl, rfl, rfl, by simp [World.setCell], fun k _ hg => Below.heap_setCell _ _ _ _ (fun e => hg (e ▸ hp))⟩
theorem Kept.setRow {a w : World} (h : Kept G a w) {g : Nat} (hp : G g) (cs : Array Value) : Kept G a (w.setRow g cs) :=
  h.trans ⟨rfl, rfl, rfl, by simp [World.setRow], fun k _ hg => setRow_other w g k cs (fun e => hg (e ▸ hp))⟩
theorem Kept.below {B : Nat} {w w' : World} (h : Kept G w w') (hG : ∀ b, G b → B ≤ b) (hB : B ≤ w.heap.size) : Below B w w' :=
  ⟨h.os, h.tape, h.output, h.size, fun k hk => h.block k (by omega) (fun hg => by have := hG k hg; omega)⟩
theorem Kept.to {w w' : World} (h : Kept (fun _ => False) w w') : Below w.heap.size w w' := ⟨h.os, h.tape, h.output, h.size, fun k hk => h.block k hk (fun h => h)⟩
theorem Kept.cell {w w' : World} (h : Kept G w w') {p : Addr} {v : Value} (hc : w.cell? p = some v) (hp : ¬ G p.block) : w'.cell? p = some v :=
  (World.cell?_of_block (w := w) (h.block p.block (cell_lt hc) hp)).trans hc
theorem Kept.heap {w w' : World} (h : Kept G w w') {g : Nat} {o : Obj} (hc : w.heap[g]? = some o) (hp : ¬ G g) : w'.heap[g]? = some o :=
  (h.block g (heap_lt hc) hp).trans hc
end

/-- what slices read as, outside the blocks of G -/
def RG (w : World) (G : Nat → Prop) (ao : Option Addr) (xs : List Value) : Prop :=
  ∀ i x, xs[i]? = some x → ∃ b off, ao = some ⟨b, off, none⟩ ∧ ¬ G b ∧ w.cell? ⟨b, off + i, none⟩ = some x

theorem RG.nil (w : World) (G : Nat → Prop) (ao : Option Addr) : RG w G ao [] := fun i x h => by simp at h
theorem RG.mono {w w' : World} {G : Nat → Prop} {ao : Option Addr} {xs : List Value} (h : RG w G ao xs) (hk : Kept G w w') : RG w' G ao xs := by
  intro i x hx
  obtain ⟨b, off, e, hg, hc⟩ := h i x hx
  exact ⟨b, off, e, hg, hk.cell hc hg⟩
theorem RG.at' {w : World} {G : Nat → Prop} {ao : Option Addr} {xs : List Value} (h : RG w G ao xs) {k : Nat} (hk : k < xs.length) : ∃ b off, ao = some ⟨b, off, none⟩ ∧ ¬ G b ∧ w.cell? ⟨b, off + k, none⟩ = some xs[k] :=
  h k _ (List.getElem?_eq_getElem hk)

/-- the block g is a row of its own with just these cells -/
def Row (w : World) (g : Nat) (E : TypeId) (xs : List Value) : Prop := w.heap[g]? = some (.cells xs.toArray E (0, 0))

theorem Row.lt {w : World} {g : Nat} {E : TypeId} {xs : List Value} (h : Row w g E xs) : g < w.heap.size := heap_lt h
theorem Row.mono {w w' : World} {G : Nat → Prop} {g : Nat} {E : TypeId} {xs : List Value} (h : Row w g E xs) (hk : Kept G w w') (hg : ¬ G g) : Row w' g E xs := hk.heap h hg
theorem Row.below {w w' : World} {g : Nat} {E : TypeId} {xs : List Value} (h : Row w g E xs) (hk : Below w.heap.size w w') : Row w' g E xs := (hk.block g h.lt).trans h
theorem Row.drew {w : World} {g : Nat} {E : TypeId} {xs : List Value} (h : Row w g E xs) : Row w.drew g E xs := h
theorem Row.cell {w : World} {g : Nat} {E : TypeId} {xs : List Value} (h : Row w g E xs) {k : Nat} (hk : k < xs.length) : w.cell? ⟨g, k, none⟩ = some xs[k] := by
  unfold Row at h
  simp [World.cell?, h, hk]
theorem Row.free {w : World} {g : Nat} {E : TypeId} {xs : List Value} (h : Row w g E xs) (k : Nat) : w.frozen? ⟨g, k, none⟩ = false := by
  unfold Row at h
  simp [World.frozen?, h]
theorem Row.set {w : World} {g : Nat} {E : TypeId} {xs : List Value} (h : Row w g E xs) (k : Nat) (x : Value) : Row (w.setCell ⟨g, k, none⟩ x) g E (xs.set k x) := by
  unfold Row at *
  rw [setCell_eq_setRow w g k _ E (0, 0) x h, setRow_heap w g _ _ E _ h]
  simp
theorem Row.other {w : World} {g g' k : Nat} {E : TypeId} {xs : List Value} (h : Row w g E xs) (hne : g ≠ g') (x : Value) : Row (w.setCell ⟨g', k, none⟩ x) g E xs := by
  unfold Row at *
  rw [Below.heap_setCell _ _ _ _ hne]; exact h
theorem Row.rg {w : World} {g : Nat} {E : TypeId} {xs : List Value} {G : Nat → Prop} (h : Row w g E xs) (hg : ¬ G g) : RG w G (some ⟨g, 0, none⟩) xs := by
  intro i x hx
  obtain ⟨hi, rfl⟩ := List.getElem?_eq_some_iff.1 hx
  exact ⟨g, 0, rfl, hg, by rw [Nat.zero_add]; exact h.cell hi⟩
theorem Row.of_owns {w : World} {B g E n : Nat} {xs : List Value} (h : w.ownsRow B E 1 (.slice (some ⟨g, 0, none⟩) n n) n xs) : Row w g E xs ∧ B ≤ g := by
  obtain ⟨h1, h2⟩ := h
  rcases h2 with ⟨h2, _⟩ | ⟨g', cap, cur, hv, hB, hg, hn, hc, hs, ht⟩
  · cases h2
  · simp only [Value.slice.injEq, Option.some.injEq, Addr.mk.injEq, and_true, true_and] at hv
    obtain ⟨rfl, rfl⟩ := hv
    refine ⟨?_, hB⟩
    unfold Row
    rw [hg]
    have : cur.toList = xs := by rw [← ht, List.take_of_length_le (by simp; omega)]
    rw [← this]

/-- a slice of the call's own, from block B on -/
def OwnV (w : World) (B : Nat) (E : TypeId) (v : Value) (xs : List Value) : Prop := w.ownsRow B E 1 v xs.length xs

theorem OwnV.nil (w : World) (B : Nat) (E : TypeId) : OwnV w B E (.slice none 0 0) [] := World.ownsRow_nil _ _ _ _
theorem OwnV.kept {w w' : World} {B : Nat} {E : TypeId} {v : Value} {xs : List Value} {G : Nat → Prop} (h : OwnV w B E v xs) (hk : Kept G w w') (hG : ∀ b, G b → b < B) : OwnV w' B E v xs := by
  obtain ⟨h1, h2⟩ := h
  refine ⟨h1, h2.imp id ?_⟩
  rintro ⟨g, cap, cur, hv, hg, hh, r⟩
  exact ⟨g, cap, cur, hv, hg, by rw [hk.block g (heap_lt hh) (fun h => by have := hG g h; omega)]; exact hh, r⟩
theorem OwnV.mono {w w' : World} {B : Nat} {E : TypeId} {v : Value} {xs : List Value} (h : OwnV w B E v xs) (hk : Below w.heap.size w w') : OwnV w' B E v xs := by
  obtain ⟨h1, h2⟩ := h
  refine ⟨h1, h2.imp id ?_⟩
  rintro ⟨g, cap, cur, hv, hg, hh, r⟩
  exact ⟨g, cap, cur, hv, hg, by rw [hk.block g (heap_lt hh)]; exact hh, r⟩
theorem OwnV.weak {w : World} {B B' : Nat} {E : TypeId} {v : Value} {xs : List Value} (h : OwnV w B E v xs) (hB : B' ≤ B) : OwnV w B' E v xs := by
  obtain ⟨h1, h2⟩ := h
  refine ⟨h1, h2.imp id ?_⟩
  rintro ⟨g, cap, cur, hv, hg, r⟩
  exact ⟨g, cap, cur, hv, Nat.le_trans hB hg, r⟩
theorem OwnV.alloc {w : World} {B : Nat} {E : TypeId} {v : Value} {xs : List Value} (h : OwnV w B E v xs) (o : Obj) : OwnV (w.alloc o) B E v xs := World.ownsRow.alloc h o
theorem OwnV.read {w : World} {B : Nat} {E : TypeId} {v : Value} {xs : List Value} (h : OwnV w B E v xs) : ∃ ao cap, v = .slice ao xs.length cap ∧ xs.length ≤ cap ∧ ∀ (G : Nat → Prop), (∀ b, G b → b < B) → RG w G ao xs := by
  obtain ⟨h1, h2⟩ := h
  rcases h2 with ⟨rfl, h0⟩ | ⟨g, cap, cur, rfl, hB, hg, hn, hc, hs, ht⟩
  · have : xs = [] := List.eq_nil_of_length_eq_zero h0
    subst this
    exact ⟨none, 0, rfl, Nat.le_refl _, fun G _ => RG.nil _ _ _⟩
  · refine ⟨some ⟨g, 0, none⟩, cap, rfl, hn, fun G hG i x hx => ⟨g, 0, rfl, fun h => by have := hG g h; omega, ?_⟩⟩
    have hlt := (List.getElem?_eq_some_iff.1 hx).1
    have : cur[0 + i]? = some x := by
      rw [Nat.zero_add, ← Array.getElem?_toList]
      rw [← ht, List.getElem?_take_of_lt (by omega)] at hx
      exact hx
    simp only [World.cell?, hg]
    simpa using this

section
variable {ops : Array Oper} {rest : List Oper} {o : Oper} {a : Act} {Q : Exit → Act → World → Prop}

/-- append(out, x) of one cell, out the call's own -/
theorem app_v (w : World) (x : Value) (T E : TypeId) (bytes : Nat) (z : Value) (hgd : o.guard = none) (s y : Operand) (ho : o.op = .call { callee := .builtin .append, args := #[s, y], argTypes := #[T, T] })
    (hT : Tryz.prog.underlying T = some (.slice E)) (hE : (Tryz.prog.info? E).map (fun i => (i.zero, i.size, i.bytes)) = some (some z, 1, bytes)) (hz : z.cells.size = 1) (hby : bytes ≤ 16)
    (W : World) (B : Nat) (v : Value) (l : List Value) (hs : a.eval s = v) (hown : OwnV w B E v l) (hB : B ≤ w.heap.size) (G : Nat → Prop) (hb : Kept G W w) (hWB : W.heap.size ≤ B) (h1x : x.oneCell' = true)
    (hx : a.eval y = .slice (some ⟨w.heap.size, 0, none⟩) 1 1) (hl : l.length ≤ 1000000000)
    (hK : ∀ v' w', OwnV w' B E v' (l ++ [x]) → Kept G W w' → w.heap.size ≤ w'.heap.size → wpList Tryz.prog ops Q rest (a.put o.dst v') w') :
    wpList Tryz.prog ops Q (o :: rest) a (w.alloc (.cells #[x] E)) := by
  obtain ⟨i0, hi, hz0, hz1, hz2⟩ := info_parts hE
  refine wpList_append_own _ hgd s y T ho B E i0 z 1 bytes hT hi hz0 hz1 hz2 hz (by decide) v l.length l hs (World.ownsRow.alloc hown _) ⟨w.heap.size, 0, none⟩ 1 1 [x] hx rfl ?_ ?_ ?_ ?_ ?_ ?_
  · intro j u hj
    match j, hj with
    | 0, hj => simp at hj; subst hj; simp [Addr.add]
  · intro u hu; simp at hu; subst hu; exact h1x
  · unfold maxLen; omega
  · have := Nat.mul_le_mul_left (l.length + 1) hby; omega
  · simp; omega
  · intro v' w' h1 h2 _
    refine hK v' w' ?_ ?_ ?_
    · unfold OwnV
      rw [List.length_append]
      exact h1
    · have hba := hb.alloc (.cells #[x] E)
      refine ⟨h2.os.trans hba.os, h2.tape.trans hba.tape, h2.output.trans hba.output, Nat.le_trans hba.size h2.size, fun k hk hg => ?_⟩
      have hks := hba.size
      refine (h2.block k (by omega) (fun e => ?_)).trans (hba.block k hk hg)
      have := (World.ownsRow.lt hown k e.symm).1
      omega
    · have := h2.size; simp at this; omega

/-- clear(s) of a row of its own -/
theorem clear_run (w : World) (T E : TypeId) (z : Value)
    (hT : Tryz.prog.underlying T = some (.slice E)) (hz : ∀ w, (zeroValue E).run Tryz.prog w = .ok z w) (hzc : z.cells = #[z]) (h1 : z.oneCell' = true)
    (g n c : Nat) (cur : List Value) (hr : Row w g E cur) (hn : cur.length = n) (h0 : 0 < n) (G : Nat → Prop) (hG : G g) :
    ∃ w', (Builtin.clear_ #[T] 0 #[.slice (some ⟨g, 0, none⟩) n c]).run Tryz.prog w = .ok (.tuple #[]) w' ∧ Row w' g E (List.replicate n z) ∧ Kept G w w' ∧ (∀ k, k ≠ g → w'.heap[k]? = w.heap[k]?) := by
  have hzl : (Builtin.zeroCells #[z] n).toList = List.replicate n z := by
    unfold Builtin.zeroCells
    rw [Array.toList_map]
    apply List.ext_getElem?
    intro i
    simp [List.getElem?_replicate, Nat.mod_one]
    split <;> simp_all
  have hst := run_storeCells_from (P := Tryz.prog) g E (List.replicate n z) 0 cur.toArray w hr (by simp [hn]) (fun v hv => by obtain ⟨_, rfl⟩ := List.mem_replicate.1 hv; exact h1)
  refine ⟨w.setRow g (List.replicate n z).toArray, ?_, setRow_heap w g _ _ E _ hr, (Kept.refl w).setRow hG _, fun k hk => setRow_other w g k _ hk⟩
  obtain ⟨m, rfl⟩ : ∃ m, n = m + 1 := ⟨n - 1, by omega⟩
  simp only [List.take_zero, List.nil_append] at hst
  simp [Builtin.clear_, run_underlying hT, hz, hzc, hzl, hst]
end

/-- copy(dst, src) of two rows of the same length, as one step of a region -/
theorem step_copy_v {ops : Array Oper} {o : Oper} {a : Act} {w : World} {K : Act → World → Prop} {Q : Exit → Act → World → Prop} {R : Prop} (hgd : o.guard = none) (d s : Operand) (T E : TypeId)
    (ho : o.op = .call { callee := .builtin .copy, args := #[d, s], argTypes := #[T, T] }) (hu : Tryz.prog.underlying T = some (.slice E)) (hsz : (Tryz.prog.info? E).map (·.size) = some 1)
    (g g' n c c' : Nat) (cur cs : List Value) (hd : a.eval d = .slice (some ⟨g, 0, none⟩) n c) (hs : a.eval s = .slice (some ⟨g', 0, none⟩) n c')
    (hr : Row w g E cur) (hr' : Row w g' E cs) (hn : cur.length = n) (hn' : cs.length = n) (h1 : ∀ v ∈ cs, v.oneCell' = true) (G : Nat → Prop) (hG : G g)
    (h : ∀ w', Row w' g E cs → Kept G w w' → (∀ k, k ≠ g → w'.heap[k]? = w.heap[k]?) → K (a.put o.dst (goInt n)) w') :
    if Region.wanted o (yielded ops a.tmps) = true then Oper.wp Tryz.prog o a w K Q else R := by
  have hw : Region.wanted o (yielded ops a.tmps) = true := by simp [Region.wanted, hgd]
  rw [if_pos hw]
  have hsrc : ∀ j v, cs[j]? = some v → w.cell? ((⟨g', 0, none⟩ : Addr).add j) = some v := by
    intro j v hj
    obtain ⟨hl, rfl⟩ := List.getElem?_eq_some_iff.1 hj
    have e : (⟨g', 0, none⟩ : Addr).add j = ⟨g', j, none⟩ := by
      unfold Addr.add; split
      · subst j; rfl
      · simp
    rw [e]; exact hr'.cell hl
  have hrun := run_copy_row (P := Tryz.prog) w T T o.type E g 0 n c ⟨g', 0, none⟩ n c' cur.toArray E cs hu hsz hr (by rw [hn']; exact (Nat.min_self n).symm) hsrc (by simp [hn, hn']) h1
  unfold Oper.wp
  simp [execOp, ho, resolve, invoke, builtin, hd, hs, hrun, Result.andThen]
  rw [hn', show (cs ++ List.drop n cur) = cs by rw [← hn]; simp]
  exact h _ (setRow_heap w g _ cs.toArray E _ hr) ((Kept.refl w).setRow hG _) (fun k hk => setRow_other w g k _ hk)

end Go.Proofs.YtackeigdehfmmaaGreatDoor

namespace Go.Proofs.YtackeigdehfmmaaGreatDoor
open Go.RowKit

/-- a disk of the program with its rows -/
structure DiskAt (w : World) (G : Nat → Prop) (p S g1 g2 g3 : Nat) (d : Wl.Dk) : Prop where
  c0 : w.cell? ⟨p, 0, none⟩ = some (.slice (some ⟨g1, 0, none⟩) S S)
  c1 : w.cell? ⟨p, 1, none⟩ = some (.slice (some ⟨g2, 0, none⟩) S S)
  c2 : w.cell? ⟨p, 2, none⟩ = some (.slice (some ⟨g3, 0, none⟩) S S)
  np : ¬ G p
  G1 : G g1
  G2 : G g2
  G3 : G g3
  n12 : g1 ≠ g2
  n13 : g1 ≠ g3
  n23 : g2 ≠ g3
  r1 : Row w g1 9 (svs d.now)
  r2 : Row w g2 9 (svs d.old)
  r3 : Row w g3 4 (bvs d.dirty)
  ok : d.Ok S
  lo : 1 ≤ S
  hi : S ≤ 1024

/-- a disk of the program -/
def Disk (w : World) (G : Nat → Prop) (p S : Nat) (d : Wl.Dk) : Prop := ∃ g1 g2 g3, DiskAt w G p S g1 g2 g3 d

section
variable {w : World} {G : Nat → Prop} {p S g1 g2 g3 : Nat} {d : Wl.Dk}

theorem DiskAt.below {w' : World} (h : DiskAt w G p S g1 g2 g3 d) (hb : Below w.heap.size w w') : DiskAt w' G p S g1 g2 g3 d :=
  have hc : ∀ {a v}, w.cell? a = some v → w'.cell? a = some v := fun hc => (hb.cell (cell_lt hc)).trans hc
  ⟨hc h.c0, hc h.c1, hc h.c2, h.np, h.G1, h.G2, h.G3, h.n12, h.n13, h.n23, h.r1.below hb, h.r2.below hb, h.r3.below hb, h.ok, h.lo, h.hi⟩
theorem Disk.mono {w' : World} (h : Disk w G p S d) (hb : Below w.heap.size w w') : Disk w' G p S d := by
  obtain ⟨g1, g2, g3, h⟩ := h; exact ⟨g1, g2, g3, h.below hb⟩
theorem Disk.ok (h : Disk w G p S d) : d.Ok S := by obtain ⟨_, _, _, h⟩ := h; exact h.ok
theorem Disk.S_le (h : Disk w G p S d) : S ≤ 1024 := by obtain ⟨_, _, _, h⟩ := h; exact h.hi

theorem svs_get {l : List Wl.Bs} {k : Nat} (h : k < l.length) : (svs l)[k]'(by simpa using h) = sv (l.getD k []) := by
  simp [List.getD_eq_getElem?_getD, List.getElem?_eq_getElem h]
theorem bvs_get {l : List Bool} {k : Nat} (h : k < l.length) : (bvs l)[k]'(by simpa using h) = .bool (l.getD k false) := by
  simp [List.getD_eq_getElem?_getD, List.getElem?_eq_getElem h]

theorem DiskAt.now (h : DiskAt w G p S g1 g2 g3 d) {k : Nat} (hk : k < S) : w.cell? ⟨g1, k, none⟩ = some (sv (d.now.getD k [])) := by
  have hl : k < d.now.length := by rw [h.ok.now]; exact hk
  rw [h.r1.cell (by simpa using hl), svs_get hl]
theorem DiskAt.old (h : DiskAt w G p S g1 g2 g3 d) {k : Nat} (hk : k < S) : w.cell? ⟨g2, k, none⟩ = some (sv (d.old.getD k [])) := by
  have hl : k < d.old.length := by rw [h.ok.old]; exact hk
  rw [h.r2.cell (by simpa using hl), svs_get hl]
theorem DiskAt.dirty (h : DiskAt w G p S g1 g2 g3 d) {k : Nat} (hk : k < S) : w.cell? ⟨g3, k, none⟩ = some (.bool (d.dirty.getD k false)) := by
  have hl : k < d.dirty.length := by rw [h.ok.dirty]; exact hk
  rw [h.r3.cell (by simpa using hl), bvs_get hl]

/-- a sector's contents are set -/
theorem DiskAt.setNow (h : DiskAt w G p S g1 g2 g3 d) (k : Nat) {s : Wl.Bs} (hs : s.length ≤ 65536) : DiskAt (w.setCell ⟨g1, k, none⟩ (sv s)) G p S g1 g2 g3 ⟨d.now.set k s, d.old, d.dirty⟩ := by
  have hp : ∀ j, (w.setCell ⟨g1, k, none⟩ (sv s)).cell? ⟨p, j, none⟩ = w.cell? ⟨p, j, none⟩ := fun j => World.cell?_of_block (w := w) (a := ⟨p, j, none⟩) (Below.heap_setCell _ _ _ _ (fun e => h.np (by have e' : p = g1 := e; rw [e']; exact h.G1)))
  refine ⟨(hp 0).trans h.c0, (hp 1).trans h.c1, (hp 2).trans h.c2, h.np, h.G1, h.G2, h.G3, h.n12, h.n13, h.n23, ?_, h.r2.other h.n12.symm _, h.r3.other h.n13.symm _, ?_, h.lo, h.hi⟩
  · have := h.r1.set k (sv s)
    show Row _ _ _ (svs (d.now.set k s))
    rw [show svs (d.now.set k s) = (svs d.now).set k (sv s) from List.map_set]
    exact this
  · exact ⟨by simp [h.ok.now], h.ok.old, h.ok.dirty, Wl.mem_set_le h.ok.small hs, h.ok.small'⟩
theorem DiskAt.setDirty (h : DiskAt w G p S g1 g2 g3 d) (k : Nat) (b : Bool) : DiskAt (w.setCell ⟨g3, k, none⟩ (.bool b)) G p S g1 g2 g3 ⟨d.now, d.old, d.dirty.set k b⟩ := by
  have hp : ∀ j, (w.setCell ⟨g3, k, none⟩ (.bool b)).cell? ⟨p, j, none⟩ = w.cell? ⟨p, j, none⟩ := fun j => World.cell?_of_block (w := w) (a := ⟨p, j, none⟩) (Below.heap_setCell _ _ _ _ (fun e => h.np (by have e' : p = g3 := e; rw [e']; exact h.G3)))
  refine ⟨(hp 0).trans h.c0, (hp 1).trans h.c1, (hp 2).trans h.c2, h.np, h.G1, h.G2, h.G3, h.n12, h.n13, h.n23, h.r1.other h.n13 _, h.r2.other h.n23 _, ?_, ?_, h.lo, h.hi⟩
  · have := h.r3.set k (.bool b)
    show Row _ _ _ (bvs (d.dirty.set k b))
    rw [show bvs (d.dirty.set k b) = (bvs d.dirty).set k (.bool b) from List.map_set]
    exact this
  · exact ⟨h.ok.now, h.ok.old, by simp [h.ok.dirty], h.ok.small, h.ok.small'⟩

theorem exists_yes (i : Nat) (h : Disk w G p S d) (hi : i < S) :
    Calls Tryz.prog 42 #[.pointer (some ⟨p, 0, none⟩), .int .i64 i] w fun e w' => e = .returned (.bool true) ∧ w = w' := by
  obtain ⟨g1, g2, g3, h⟩ := h
  have c0 := h.c0
  have hS := h.hi
  clear h
  go_enter Tryz.func42, Tryz.ntmps42
  go_wp2
  go_ret
  exact ⟨rfl, rfl⟩

theorem exists_no (i : Int) (h : Disk w G p S d) (hi : i < 0 ∨ (S : Int) ≤ i) :
    Calls Tryz.prog 42 #[.pointer (some ⟨p, 0, none⟩), .int .i64 i] w fun e w' => e = .returned (.bool false) ∧ w = w' := by
  obtain ⟨g1, g2, g3, h⟩ := h
  have c0 := h.c0
  have hS := h.hi
  clear h
  rcases hi with hi | hi
  · have h0 : decide ((0 : Int) ≤ i) = false := by simpa using hi
    clear hi
    go_enter Tryz.func42, Tryz.ntmps42
    go_wp2
    go_ret
    exact ⟨rfl, rfl⟩
  · have h0 : decide ((0 : Int) ≤ i) = true := by simp; omega
    have h1 : decide (i < (S : Int)) = false := by simp; omega
    clear hi
    go_enter Tryz.func42, Tryz.ntmps42
    go_wp2
    go_ret
    exact ⟨rfl, rfl⟩

theorem Read_yes (i : Nat) (h : Disk w G p S d) (hi : i < S) :
    Calls Tryz.prog 37 #[.pointer (some ⟨p, 0, none⟩), .int .i64 i] w fun e w' => e = .returned (.tuple #[sv (d.now.getD i []), .int .i64 0]) ∧ w = w' := by
  obtain ⟨g1, g2, g3, h⟩ := h
  have hE := exists_yes i ⟨g1, g2, g3, h⟩ hi
  have c0 := h.c0
  have hS := h.hi
  have hc := h.now hi
  clear h
  go_enter Tryz.func37, Tryz.ntmps37
  go_wp2_with fail
  (with_reducible refine hE.mono ?_)
  rintro e w' ⟨rfl, rfl⟩
  go_wp2
  go_ret2
  exact ⟨rfl, rfl⟩

theorem Read_no (i : Int) (h : Disk w G p S d) (hi : i < 0 ∨ (S : Int) ≤ i) :
    Calls Tryz.prog 37 #[.pointer (some ⟨p, 0, none⟩), .int .i64 i] w fun e w' => e = .returned (.tuple #[.string ⟨#[]⟩, .int .i64 7]) ∧ w = w' := by
  have hE := exists_no i h hi
  clear h hi
  go_enter Tryz.func37, Tryz.ntmps37
  go_wp2_with fail
  (with_reducible refine hE.mono ?_)
  rintro e w' ⟨rfl, rfl⟩
  go_wp2
  go_ret2
  exact ⟨rfl, rfl⟩

theorem Len_any (h : Disk w G p S d) :
    Calls Tryz.prog 36 #[.pointer (some ⟨p, 0, none⟩)] w fun e w' => e = .returned (.int .i64 S) ∧ w = w' := by
  obtain ⟨g1, g2, g3, h⟩ := h
  have c0 := h.c0
  have hS := h.hi
  clear h
  go_enter Tryz.func36, Tryz.ntmps36
  go_wp2
  go_ret
  exact ⟨rfl, rfl⟩

theorem Write_no (i : Int) (s : Wl.Bs) (h : Disk w G p S d) (hi : i < 0 ∨ (S : Int) ≤ i) :
    Calls Tryz.prog 19 #[.pointer (some ⟨p, 0, none⟩), .int .i64 i, sv s] w fun e w' => e = .returned (.int .i64 7) ∧ w = w' := by
  have hE := exists_no i h hi
  clear h hi
  go_enter Tryz.func19, Tryz.ntmps19
  go_wp2_with fail
  (with_reducible refine hE.mono ?_)
  rintro e w' ⟨rfl, rfl⟩
  go_wp2
  go_ret
  exact ⟨rfl, rfl⟩

theorem Write_big (i : Nat) (s : Wl.Bs) (h : Disk w G p S d) (hi : i < S) (hs : 65536 < s.length) (hs2 : s.length ≤ 9223372036854775807) :
    Calls Tryz.prog 19 #[.pointer (some ⟨p, 0, none⟩), .int .i64 i, sv s] w fun e w' => e = .returned (.int .i64 3) ∧ w = w' := by
  have hE := exists_yes i h hi
  have hd : decide ((65536 : Int) < (s.length : Int)) = true := by simp; omega
  clear h hi hs
  go_enter Tryz.func19, Tryz.ntmps19
  go_wp2_with fail
  (with_reducible refine hE.mono ?_)
  rintro e w' ⟨rfl, rfl⟩
  go_wp2
  go_ret
  exact ⟨rfl, rfl⟩

theorem DiskAt.drew (h : DiskAt w G p S g1 g2 g3 d) : DiskAt w.drew G p S g1 g2 g3 d :=
  ⟨h.c0, h.c1, h.c2, h.np, h.G1, h.G2, h.G3, h.n12, h.n13, h.n23, h.r1, h.r2, h.r3, h.ok, h.lo, h.hi⟩

set_option maxHeartbeats 800000 in
theorem Write_yes (i : Nat) (s : Wl.Bs) (h : Disk w G p S d) (hi : i < S) (hs : s.length ≤ 65536) :
    Calls Tryz.prog 19 #[.pointer (some ⟨p, 0, none⟩), .int .i64 i, sv s] w fun e w' => e = .returned (.int .i64 0) ∧ Disk w' G p S (d.wrt i s) ∧ Kept G w w' := by
  obtain ⟨g1, g2, g3, h⟩ := h
  have hE := exists_yes i ⟨g1, g2, g3, h⟩ hi
  have hd : decide ((65536 : Int) < (s.length : Int)) = false := by simp; omega
  have c0 := h.c0
  have c1 := h.c1
  have c2 := h.c2
  have hS := h.hi
  have f1 := h.r1.free i
  have f3 := h.r3.free i
  have a1 := h.now hi
  have a3 := h.dirty hi
  have n13 := h.n13
  have n31 := h.n13.symm
  have H := Lib.hid h
  have HS := Lib.hid hs
  clear h hs
  go_enter Tryz.func19, Tryz.ntmps19
  go_wp2_with fail
  (with_reducible refine hE.mono ?_)
  rintro e w' ⟨rfl, rfl⟩
  go_wp2
  go_region
  all_goals go_wp2
  all_goals go_ret
  all_goals
    refine ⟨rfl, ⟨g1, g2, g3, ?_⟩, ?_⟩
    · first
        | exact ((H.out.setNow i HS.out).setDirty i true).drew
        | exact ((H.out.setDirty i true).setNow i HS.out).drew
    · first
        | exact (((Kept.refl w).setCell H.out.G1 _).setCell H.out.G3 _).drew
        | exact (((Kept.refl w).setCell H.out.G3 _).setCell H.out.G1 _).drew

theorem DiskAt.of_rows {w' : World} {d' : Wl.Dk} (h : DiskAt w G p S g1 g2 g3 d) (hk : Kept G w w') (h1 : Row w' g1 9 (svs d'.now)) (h2 : Row w' g2 9 (svs d'.old)) (h3 : Row w' g3 4 (bvs d'.dirty)) (hok : d'.Ok S) :
    DiskAt w' G p S g1 g2 g3 d' :=
  ⟨hk.cell h.c0 h.np, hk.cell h.c1 h.np, hk.cell h.c2 h.np, h.np, h.G1, h.G2, h.G3, h.n12, h.n13, h.n23, h1, h2, h3, hok, h.lo, h.hi⟩

theorem oneS (l : List Wl.Bs) : ∀ v ∈ svs l, v.oneCell' = true := by
  intro v hv; obtain ⟨_, _, rfl⟩ := List.mem_map.1 hv; rfl

theorem zero_bool (w : World) : (zeroValue 4).run Tryz.prog w = .ok (.bool false) w := by kernel_rfl

theorem Row.same {w w' : World} {g : Nat} {E : TypeId} {xs : List Value} (h : Row w g E xs) (e : w'.heap[g]? = w.heap[g]?) : Row w' g E xs := e.trans h

set_option maxRecDepth 100000 in
set_option maxHeartbeats 800000 in
theorem Sync_any (h : Disk w G p S d) :
    Calls Tryz.prog 29 #[.pointer (some ⟨p, 0, none⟩)] w fun e w' => e = .returned (.tuple #[]) ∧ Disk w' G p S d.syn ∧ Kept G w w' := by
  obtain ⟨g1, g2, g3, h⟩ := h
  have c0 := h.c0
  have c1 := h.c1
  have c2 := h.c2
  have hS := h.hi
  have H := Lib.hid h
  have k0 := h.ok.now
  have k1 := h.ok.old
  have K0 := Lib.hid k0
  have K1 := Lib.hid k1
  have k2 := h.ok.dirty
  have K2 := Lib.hid k2
  have hlo := h.lo
  clear h k0 k1 k2
  go_enter Tryz.func29, Tryz.ntmps29
  go_wp2
  go_region_law (refine step_copy_v rfl (.tmp 5) (.tmp 9) 25 9 rfl Tryz.underlying25 (by kernel_rfl) g2 g1 S S S (svs d.old) (svs d.now) (by simp [Act.eval]) (by simp [Act.eval]) H.out.r2.drew H.out.r1.drew (by simp [K1.out]) (by simp [K0.out]) (oneS _) G H.out.G2 ?_; intro w1 hr2 hk1 hsame; have H1 := Lib.hid (H.out.drew.of_rows (d' := ⟨d.now, d.now, d.dirty⟩) hk1 (H.out.r1.drew.same (hsame g1 H.out.n12)) hr2 (H.out.r3.drew.same (hsame g3 H.out.n23.symm)) ⟨K0.out, K0.out, K2.out, H.out.ok.small, H.out.ok.small⟩); have hkw := ((Kept.refl w).drew (G := G)).trans hk1; clear c0 c1 c2; have c0 := H1.out.c0; have c1 := H1.out.c1; have c2 := H1.out.c2; clear hsame hk1 hr2; obtain ⟨w2, hclr, hr3, hk2, hsame2⟩ := clear_run w1 26 4 (.bool false) Tryz.underlying26 zero_bool rfl rfl g3 S S (bvs d.dirty) H1.out.r3 (by simp [K2.out]) (by omega) G H.out.G3; have H2 := Lib.hid (H1.out.of_rows (d' := d.syn) hk2 (H1.out.r1.same (hsame2 g1 H.out.n13)) (H1.out.r2.same (hsame2 g2 H.out.n23)) (by simpa [Wl.Dk.syn, K0.out] using hr3) H.out.ok.syn); have hkv := hkw.trans hk2; clear hsame2 hk2 hr3)
  all_goals go_wp2
  all_goals go_end0
  all_goals exact ⟨rfl, ⟨g1, g2, g3, H2.out⟩, hkv⟩

end

end Go.Proofs.YtackeigdehfmmaaGreatDoor

namespace Go.Proofs.YtackeigdehfmmaaGreatDoor
open Go.RowKit

theorem Tryz.info9 : (Tryz.prog.info? 9).map (fun i => (i.zero, i.size, i.bytes)) = some (some (.string ⟨#[]⟩), 1, 16) := by kernel_rfl
theorem Tryz.info4 : (Tryz.prog.info? 4).map (fun i => (i.zero, i.size, i.bytes)) = some (some (.bool false), 1, 1) := by kernel_rfl
theorem Tryz.info3 : (Tryz.prog.info? 3).map (fun i => (i.zero, i.size, i.bytes)) = some (some (.int .i64 0), 1, 8) := by kernel_rfl

/-- make of n zeros of one cell -/
theorem mk_run (T E bytes n : Nat) (z : Value) (hT : Tryz.prog.underlying T = some (.slice E)) (hE : (Tryz.prog.info? E).map (fun i => (i.zero, i.size, i.bytes)) = some (some z, 1, bytes)) (hz : z.cells = #[z]) (hb : bytes ≤ 16) (hn : n ≤ 1000000) (w : World) :
    (Instr.makeSlice T (.int .i64 (n : Int)) (.int .i64 (n : Int))).run Tryz.prog w = .ok (.slice (some ⟨w.heap.size, 0, none⟩) n n) (w.alloc (.cells (List.replicate n z).toArray E)) := by
  obtain ⟨i0, hi, hz0, hz1, hz2⟩ := info_parts hE
  have hbn : bytes * n ≤ 16 * 1000000 := Nat.mul_le_mul hb hn
  have hbn2 : ((bytes * n : Nat) : Int) ≤ 281474976710656 := by omega
  rw [Int.natCast_mul] at hbn2
  have hr := run_make (P := Tryz.prog) w T E i0 z hT hi hz0 .i64 .i64 n n (by omega) (Int.le_refl _) (by rw [hz2]; exact hbn2) (by omega)
  simp only [Int.toNat_natCast, hz1, Nat.mul_one, hz] at hr
  rw [hr]
  have : madeCells #[z] n = (List.replicate n z).toArray := by rw [← toList_madeCells_one, Array.toArray_toList]
  rw [this]

theorem heap4 (w : World) (A B C D : Obj) (V : World) (hV : V = ((((w.alloc A).alloc B).alloc C).alloc D).drew) :
    V.heap[w.heap.size]? = some A ∧ V.heap[w.heap.size + 1]? = some B ∧ V.heap[w.heap.size + 1 + 1]? = some C ∧ V.heap[w.heap.size + 1 + 1 + 1]? = some D ∧ V.heap.size = w.heap.size + 1 + 1 + 1 + 1 ∧ Below w.heap.size w V := by
  subst hV
  have e : ((((w.alloc A).alloc B).alloc C).alloc D).drew.heap = (((w.heap.push A).push B).push C).push D := rfl
  refine ⟨?_, ?_, ?_, ?_, ?_, ?_⟩
  · rw [e]; rw [Array.getElem?_push, if_neg (by simp; try omega)]; rw [Array.getElem?_push, if_neg (by simp; try omega)]; rw [Array.getElem?_push, if_neg (by simp; try omega)]; rw [Array.getElem?_push, if_pos (by simp)]
  · rw [e]; rw [Array.getElem?_push, if_neg (by simp; try omega)]; rw [Array.getElem?_push, if_neg (by simp; try omega)]; rw [Array.getElem?_push, if_pos (by simp)]
  · rw [e]; rw [Array.getElem?_push, if_neg (by simp; try omega)]; rw [Array.getElem?_push, if_pos (by simp)]
  · rw [e]; rw [Array.getElem?_push, if_pos (by simp)]
  · rw [e]; simp
  · exact (((((Below.refl _ _).alloc (Nat.le_refl _) _).alloc (by simp) _).alloc (by simp; omega) _).alloc (by simp; omega) _).drew

theorem disk_made {w w' : World} {S a b c : Nat} (h1 : 1 ≤ S) (h2 : S ≤ 1024) (hb : Below w.heap.size w w') (hs : w'.heap.size = w.heap.size + 1 + 1 + 1 + 1)
    (ra : w'.heap[a]? = some (.cells (Array.replicate S (.string ⟨#[]⟩)) 9 (0, 0))) (rb : w'.heap[b]? = some (.cells (Array.replicate S (.string ⟨#[]⟩)) 9 (0, 0))) (rc : w'.heap[c]? = some (.cells (Array.replicate S (.bool false)) 4 (0, 0)))
    (rp : Row w' (w.heap.size + 1 + 1 + 1) 81 [.slice (some ⟨a, 0, none⟩) S S, .slice (some ⟨b, 0, none⟩) S S, .slice (some ⟨c, 0, none⟩) S S])
    (la : w.heap.size ≤ a ∧ a < w.heap.size + 1 + 1 + 1) (lb : w.heap.size ≤ b ∧ b < w.heap.size + 1 + 1 + 1) (lc : w.heap.size ≤ c ∧ c < w.heap.size + 1 + 1 + 1) (n1 : a ≠ b) (n2 : a ≠ c) (n3 : b ≠ c) :
    (∃ (p : Nat) (G : Nat → Prop), Ending.returned (.tuple #[.pointer (some ⟨w.heap.size + 1 + 1 + 1, 0, none⟩), .int .i64 0]) = .returned (.tuple #[.pointer (some ⟨p, 0, none⟩), .int .i64 0]) ∧ w.heap.size ≤ p ∧ Disk w' G p S (Wl.Dk.new S) ∧ (∀ b, G b → w.heap.size ≤ b ∧ b < w'.heap.size)) ∧ Below w.heap.size w w' := by
  refine ⟨⟨w.heap.size + 1 + 1 + 1, fun x => x = a ∨ x = b ∨ x = c, rfl, by omega, ⟨a, b, c, ?_⟩, fun x hx => by omega⟩, hb⟩
  refine ⟨rp.cell (k := 0) (by simp), rp.cell (k := 1) (by simp), rp.cell (k := 2) (by simp), by omega, .inl rfl, .inr (.inl rfl), .inr (.inr rfl), n1, n2, n3, ?_, ?_, ?_, Wl.Dk.Ok.new S, h1, h2⟩
  · simpa [Wl.Dk.new, Row] using ra
  · simpa [Wl.Dk.new, Row] using rb
  · simpa [Wl.Dk.new, Row] using rc

set_option maxRecDepth 100000 in
set_option maxHeartbeats 1600000 in
theorem New_yes (S : Nat) (w : World) (h1 : 1 ≤ S) (h2 : S ≤ 1024) :
    Calls Tryz.prog 17 #[.int .i64 S] w fun e w' => (∃ (p : Nat) (G : Nat → Prop), e = .returned (.tuple #[.pointer (some ⟨p, 0, none⟩), .int .i64 0]) ∧ w.heap.size ≤ p ∧ Disk w' G p S (Wl.Dk.new S) ∧ (∀ b, G b → w.heap.size ≤ b ∧ b < w'.heap.size)) ∧ Below w.heap.size w w' := by
  have m1 := mk_run 25 9 16 S (.string ⟨#[]⟩) Tryz.underlying25 Tryz.info9 rfl (by omega) (by omega)
  have m2 := mk_run 26 4 1 S (.bool false) Tryz.underlying26 Tryz.info4 rfl (by omega) (by omega)
  go_enter Tryz.func17, Tryz.ntmps17
  go_wp2
  go_region
  all_goals go_wp2
  all_goals go_ret2
  all_goals
    obtain ⟨hA, hB, hC, hD, hs, hb⟩ := heap4 w _ _ _ _ _ rfl
    first
    | exact disk_made (a := w.heap.size) (b := (w.heap.size + 1)) (c := (w.heap.size + 1 + 1)) h1 h2 hb hs hA hB hC hD (by omega) (by omega) (by omega) (by omega) (by omega) (by omega)
    | exact disk_made (a := w.heap.size) (b := (w.heap.size + 1 + 1)) (c := (w.heap.size + 1)) h1 h2 hb hs hA hC hB hD (by omega) (by omega) (by omega) (by omega) (by omega) (by omega)
    | exact disk_made (a := (w.heap.size + 1)) (b := w.heap.size) (c := (w.heap.size + 1 + 1)) h1 h2 hb hs hB hA hC hD (by omega) (by omega) (by omega) (by omega) (by omega) (by omega)
    | exact disk_made (a := (w.heap.size + 1)) (b := (w.heap.size + 1 + 1)) (c := w.heap.size) h1 h2 hb hs hB hC hA hD (by omega) (by omega) (by omega) (by omega) (by omega) (by omega)
    | exact disk_made (a := (w.heap.size + 1 + 1)) (b := w.heap.size) (c := (w.heap.size + 1)) h1 h2 hb hs hC hA hB hD (by omega) (by omega) (by omega) (by omega) (by omega) (by omega)
    | exact disk_made (a := (w.heap.size + 1 + 1)) (b := (w.heap.size + 1)) (c := w.heap.size) h1 h2 hb hs hC hB hA hD (by omega) (by omega) (by omega) (by omega) (by omega) (by omega)

/-- a new slice of the given cells -/
def NewV (W : World) (E : TypeId) (xs : List Value) (e : Ending) (w' : World) : Prop := ∃ v, e = .returned v ∧ OwnV w' W.heap.size E v xs

section
variable {w : World} {G : Nat → Prop} {p S : Nat} {d : Wl.Dk}

set_option maxRecDepth 100000 in
set_option maxHeartbeats 800000 in
theorem Dirty_any (h : Disk w G p S d) :
    Calls Tryz.prog 39 #[.pointer (some ⟨p, 0, none⟩)] w fun e w' => NewV w 3 (nvs d.changed) e w' ∧ Below w.heap.size w w' := by
  obtain ⟨g1, g2, g3, h⟩ := h
  have c2 := h.c2
  have hS := h.hi
  have H := Lib.hid h
  have k2 := h.ok.dirty
  have K2 := Lib.hid k2
  clear h k2
  go_enter Tryz.func39, Tryz.ntmps39
  go_wp2_with fail
  go_loopw [3, 11] (fun v c wr => ∃ k : Nat, k ≤ S ∧ c = .int .i64 k ∧ OwnV wr w.heap.size 3 v (nvs (Wl.chg d.dirty k)) ∧ Kept (fun _ => False) w wr) (fun _ c _ => S - (intOf c).toNat)
  case atStart => exact ⟨0, Nat.zero_le _, rfl, OwnV.nil _ _ _, Kept.refl _⟩
  case round =>
    obtain ⟨k, hk, rfl, hown, hkp⟩ := hrel
    have c2 := hkp.cell c2 (fun h => h)
    by_cases hlt : k < S
    · have a3 := hkp.cell (H.out.dirty hlt) (fun h => h)
      have hln := Wl.chg_len d.dirty k
      by_cases hd : d.dirty.getD k false = true
      · have hs : Wl.chg d.dirty (k + 1) = Wl.chg d.dirty k ++ [k] := by rw [Wl.chg, if_pos hd]
        have HS := Lib.hid hs
        rw [hd] at a3
        clear hd hs
        go_wp2_with (at_builtin; refine app_v _ (.int .i64 (k : Int)) 73 3 8 (.int .i64 0) rfl (.tmp 17) (.tmp 19) rfl Tryz.underlying73 Tryz.info3 rfl (by omega) w w.heap.size _ (nvs (Wl.chg d.dirty k)) rfl hown hkp.size (fun _ => False) hkp (Nat.le_refl _) rfl rfl (by simp; omega) ?_; intro v2 w2 hown2 hkp2 hsz2)
        go_roundw
        case rel => exact ⟨k + 1, by omega, by go_num, by rw [HS.out]; simpa using hown2, hkp2⟩
        case measure => simp [intOf]; omega
      · have hs : Wl.chg d.dirty (k + 1) = Wl.chg d.dirty k := by rw [Wl.chg, if_neg hd]
        have HS := Lib.hid hs
        rw [Bool.eq_false_iff.2 hd] at a3
        clear hd hs
        go_wp2
        go_roundw
        case rel => exact ⟨k + 1, by omega, by go_num, by rw [HS.out]; exact hown, hkp⟩
        case measure => simp [intOf]; omega
    · have hkS : k = S := by omega
      go_wp2
      go_ret
      exact ⟨⟨_, rfl, by unfold Wl.Dk.changed; rw [K2.out, ← hkS]; exact hown⟩, hkp.to⟩
end

end Go.Proofs.YtackeigdehfmmaaGreatDoor

namespace Go.Proofs.YtackeigdehfmmaaGreatDoor
open Go.RowKit

theorem nvs_get {l : List Nat} {k : Nat} (h : k < l.length) : (nvs l)[k]'(by simpa using h) = .int .i64 ((l.getD k 0 : Nat) : Int) := by
  simp [List.getD_eq_getElem?_getD, List.getElem?_eq_getElem h]

abbrev uvs (l : List Nat) : List Value := l.map fun (n : Nat) => Value.int .u8 (n : Int)

theorem uvs_get {l : List Nat} {k : Nat} (h : k < l.length) : (uvs l)[k]'(by simpa using h) = .int .u8 ((l.getD k 0 : Nat) : Int) := by
  simp [List.getD_eq_getElem?_getD, List.getElem?_eq_getElem h]

theorem set_same {l : List Wl.Bs} {i : Nat} : l.set i (l.getD i []) = l := by
  refine List.ext_getElem? fun j => ?_
  by_cases hj : i = j
  · subst hj
    by_cases hl : i < l.length
    · rw [List.getElem?_set_self hl, List.getD_eq_getElem?_getD, List.getElem?_eq_getElem hl]; rfl
    · rw [List.getElem?_eq_none (by simp; omega), List.getElem?_eq_none (by omega)]
  · rw [List.getElem?_set_ne hj]

/-- the disk where one more dirty sector has met the crash -/
theorem ap_next_at {w : World} {G : Nat → Prop} {p S g1 g2 g3 : Nat} {d : Wl.Dk} {bits : List Nat} {k i b : Nat} {s : Wl.Bs} (h : DiskAt w G p S g1 g2 g3 ⟨Wl.ap d bits k, d.old, d.dirty⟩) (hok : d.Ok S) (hi : d.changed.getD k 0 = i)
    (hb : Wl.bit bits k = b) (hs : Wl.left b (d.old.getD i []) (d.now.getD i []) = s) : DiskAt (w.setCell ⟨g1, i, none⟩ (sv s)) G p S g1 g2 g3 ⟨Wl.ap d bits (k + 1), d.old, d.dirty⟩ := by
  have hsm : s.length ≤ 65536 := by rw [← hs]; exact Wl.left_small (Wl.getD_small hok.small' _) (Wl.getD_small hok.small _)
  have := h.setNow i hsm
  have e : Wl.ap d bits (k + 1) = (Wl.ap d bits k).set i s := by
    show (Wl.ap d bits k).set (d.changed.getD k 0) _ = _
    rw [hi, hb, hs]
  rw [e]; exact this

theorem ap_same_at {w : World} {G : Nat → Prop} {p S g1 g2 g3 : Nat} {d : Wl.Dk} {bits : List Nat} {k i b : Nat} (h : DiskAt w G p S g1 g2 g3 ⟨Wl.ap d bits k, d.old, d.dirty⟩) (hk : k < d.changed.length) (hi : d.changed.getD k 0 = i)
    (hb : Wl.bit bits k = b) (hs : Wl.left b (d.old.getD i []) (d.now.getD i []) = d.now.getD i []) : DiskAt w G p S g1 g2 g3 ⟨Wl.ap d bits (k + 1), d.old, d.dirty⟩ := by
  have e : Wl.ap d bits (k + 1) = Wl.ap d bits k := by
    show (Wl.ap d bits k).set (d.changed.getD k 0) _ = _
    rw [hi, hb, hs]
    have := Wl.ap_next d bits hk
    rw [hi] at this
    rw [← this, set_same]
  rw [e]; exact h

theorem half_ba (s : Wl.Bs) : (⟨s.toArray⟩ : ByteArray).extract 0 (s.length / 2) = ⟨(s.take (s.length / 2)).toArray⟩ := by
  rw [extract_ba]; simp

section
variable {w : World} {G : Nat → Prop} {p S : Nat} {d : Wl.Dk}

set_option maxRecDepth 100000 in
set_option maxHeartbeats 3200000 in
theorem Crash_any (bits : List Nat) (ab : Option Addr) (cb : Nat) (h : Disk w G p S d) (hG : ∀ b, G b → b < w.heap.size) (hB : RG w G ab (uvs bits)) (hbl : bits.length ≤ 140737488355328) :
    Calls Tryz.prog 11 #[.pointer (some ⟨p, 0, none⟩), .slice ab bits.length cb] w fun e w' => e = .returned (.int .i64 d.changed.length) ∧ Disk w' G p S (d.crash bits) ∧ Kept G w w' := by
  have hD := Dirty_any h
  obtain ⟨g1, g2, g3, h⟩ := h
  have H := Lib.hid h
  have hS := h.hi
  have k2 := h.ok.dirty
  have K2 := Lib.hid k2
  have hcl : d.changed.length ≤ 1024 := by
    have := Wl.chg_len d.dirty d.dirty.length
    unfold Wl.Dk.changed; omega
  clear h k2
  go_enter Tryz.func11, Tryz.ntmps11
  go_wp2_with fail
  (with_reducible refine hD.mono ?_)
  rintro e w1 ⟨⟨v, rfl, hown⟩, hb1⟩
  have hk1 : Kept G w w1 := Kept.of_below hb1
  have H := Lib.hid (H.out.below hb1)
  have hB := hB.mono hk1
  obtain ⟨ao, cap, rfl, -, hL0⟩ := hown.read
  have hL := hL0 G hG
  simp only [List.length_map] at *
  clear hown hL0 hb1 hD hG
  go_wp2_with fail
  go_loopw [13] (fun c wr => ∃ k : Nat, k ≤ d.changed.length ∧ c = .int .i64 k ∧ DiskAt wr G p S g1 g2 g3 ⟨Wl.ap d bits k, d.old, d.dirty⟩ ∧ Kept G w1 wr) (fun c _ => d.changed.length - (intOf c).toNat)
  case atStart => exact ⟨0, Nat.zero_le _, rfl, H.out, Kept.refl _⟩
  case round =>
    obtain ⟨k, hk, rfl, hd, hkp⟩ := hrel
    by_cases hlt : k < d.changed.length
    · obtain ⟨i, hi⟩ : ∃ i, d.changed.getD k 0 = i := ⟨_, rfl⟩
      have hiS : i < S := by
        have hm : d.changed.getD k 0 ∈ d.changed := by rw [List.getD_eq_getElem?_getD, List.getElem?_eq_getElem hlt]; exact List.getElem_mem hlt
        have := (Wl.chg_lt _ _ _ hm).1
        rw [hi, K2.out] at this; exact this
      obtain ⟨b2, off2, rfl, hb2, cl⟩ := (hL.mono hkp).at' (k := k) (by simpa using hlt)
      rw [nvs_get hlt, hi] at cl
      have a1 := hd.now hiS
      have e1 := Wl.ap_next d bits hlt
      rw [hi] at e1
      simp only [e1] at a1
      have a2 := hd.old hiS
      have hso : (d.old.getD i []).length ≤ 65536 := Wl.getD_small H.out.ok.small' _
      have hsn : (d.now.getD i []).length ≤ 65536 := Wl.getD_small H.out.ok.small _
      obtain ⟨so, hso'⟩ : ∃ s, s = d.old.getD i [] := ⟨_, rfl⟩
      obtain ⟨sn, hsn'⟩ : ∃ s, s = d.now.getD i [] := ⟨_, rfl⟩
      simp only at a2
      rw [← hso'] at a2 hso
      rw [← hsn'] at a1 hsn
      have HO := Lib.hid hso'
      have HN := Lib.hid hsn'
      have HI := Lib.hid hi
      have c0 := hd.c0
      have c1 := hd.c1
      have f1 := hd.r1.free i
      have HD := Lib.hid hd
      clear hd hi e1 hso' hsn' hb2
      by_cases hkb : k < bits.length
      · obtain ⟨b3, off3, rfl, hb3, cb3⟩ := (hB.mono hkp).at' (k := k) (by simpa using hkb)
        rw [uvs_get hkb] at cb3
        obtain ⟨q, hq⟩ : ∃ q, bits.getD k 0 = q := ⟨_, rfl⟩
        rw [hq] at cb3
        have HQ := Lib.hid hq
        have HKB := Lib.hid hkb
        have hkb2 : decide (k < bits.length) = true := by simpa using hkb
        clear hkb hq hb3
        have hr4 : q % 4 = 0 ∨ q % 4 = 1 ∨ q % 4 = 2 ∨ q % 4 = 3 := by omega
        rcases hr4 with hr | hr | hr | hr
        · have HB : Hid (Wl.bit bits k = 0) := Lib.hid (by unfold Wl.bit; rw [if_pos HKB.out]; rw [HQ.out]; exact hr)
          have t0 : (((q : Int) % 4) == 0) = true := by simp; omega
          have t2 : (((q : Int) % 4) == 2) = false := by simp; omega
          have t3 : (((q : Int) % 4) == 3) = false := by simp; omega
          clear hr
          go_wp2
          go_region
          go_wp2
          go_roundw
          case rel => exact ⟨k + 1, by omega, by go_num, (ap_next_at HD.out H.out.ok HI.out HB.out (by unfold Wl.left; rw [if_pos rfl, HO.out])).drew, (hkp.setCell HD.out.G1 _).drew⟩
          case measure => simp [intOf]; omega
        · have HB : Hid (Wl.bit bits k = 1) := Lib.hid (by unfold Wl.bit; rw [if_pos HKB.out]; rw [HQ.out]; exact hr)
          have t0 : (((q : Int) % 4) == 0) = false := by simp; omega
          have t2 : (((q : Int) % 4) == 2) = false := by simp; omega
          have t3 : (((q : Int) % 4) == 3) = false := by simp; omega
          clear hr
          go_wp2
          go_roundw
          case rel => exact ⟨k + 1, by omega, by go_num, ap_same_at HD.out hlt HI.out HB.out (by unfold Wl.left; rw [if_neg (by decide), if_neg (by decide), if_neg (by decide)]), hkp⟩
          case measure => simp [intOf]; omega
        · have HB : Hid (Wl.bit bits k = 2) := Lib.hid (by unfold Wl.bit; rw [if_pos HKB.out]; rw [HQ.out]; exact hr)
          have t0 : (((q : Int) % 4) == 0) = false := by simp; omega
          have t2 : (((q : Int) % 4) == 2) = true := by simp; omega
          have t3 : (((q : Int) % 4) == 3) = false := by simp; omega
          clear hr
          go_wp2
          go_region
          rw [half_ba sn]
          go_wp2
          go_roundw
          case rel => exact ⟨k + 1, by omega, by go_num, (ap_next_at HD.out H.out.ok HI.out HB.out (by unfold Wl.left; rw [if_neg (by decide), if_pos rfl, HN.out])).drew, (hkp.setCell HD.out.G1 _).drew⟩
          case measure => simp [intOf]; omega
        · have HB : Hid (Wl.bit bits k = 3) := Lib.hid (by unfold Wl.bit; rw [if_pos HKB.out]; rw [HQ.out]; exact hr)
          have t0 : (((q : Int) % 4) == 0) = false := by simp; omega
          have t2 : (((q : Int) % 4) == 2) = false := by simp; omega
          have t3 : (((q : Int) % 4) == 3) = true := by simp; omega
          clear hr
          go_wp2
          go_roundw
          case rel => exact ⟨k + 1, by omega, by go_num, ap_next_at (s := []) HD.out H.out.ok HI.out HB.out (by unfold Wl.left; rw [if_neg (by decide), if_neg (by decide), if_pos rfl]), hkp.setCell HD.out.G1 _⟩
          case measure => simp [intOf]; omega
      · have hkb2 : decide (k < bits.length) = false := by simpa using hkb
        have HB : Hid (Wl.bit bits k = 0) := Lib.hid (by unfold Wl.bit; rw [if_neg hkb])
        clear hkb
        go_wp2
        go_region
        go_wp2
        go_roundw
        case rel => exact ⟨k + 1, by omega, by go_num, (ap_next_at HD.out H.out.ok HI.out HB.out (by unfold Wl.left; rw [if_pos rfl, HO.out])).drew, (hkp.setCell HD.out.G1 _).drew⟩
        case measure => simp [intOf]; omega
    · have hkl : k = d.changed.length := by omega
      have hds : Disk wr G p S ⟨Wl.ap d bits d.changed.length, d.old, d.dirty⟩ := ⟨g1, g2, g3, hkl ▸ hd⟩
      clear hd
      go_wp2_with fail
      (with_reducible refine (Sync_any hds).mono ?_)
      rintro e w3 ⟨rfl, hd3, hk3⟩
      go_wp2
      go_ret
      exact ⟨rfl, hd3, (hk1.trans hkp).trans hk3⟩
end

end Go.Proofs.YtackeigdehfmmaaGreatDoor

namespace Go.Proofs.YtackeigdehfmmaaGreatDoor
open Go.RowKit

theorem and_one (y : Nat) (h : y < 4294967296) : bits .and .u32 (y : Int) 1 = ((y % 2 : Nat) : Int) := by
  have := u32_and_nat y 1 h (by decide)
  rw [Nat.and_one_is_mod] at this
  exact this

theorem half_nat (y : Nat) : (y : Int) / 2 = ((y / 2 : Nat) : Int) := by omega

theorem cstep_bits (y : Nat) (h : y < 4294967296) : bits BinOp.xor IntKind.u32 ((y : Int) / 2) (bits BinOp.and IntKind.u32 3988292384 (-bits BinOp.and IntKind.u32 (y : Int) 1 % 4294967296)) = ((Wl.cstep y : Nat) : Int) := by
  rw [and_one y h, half_nat]
  unfold Wl.cstep
  rcases Nat.mod_two_eq_zero_or_one y with h2 | h2
  · rw [h2, if_neg (by decide)]
    have e : bits BinOp.and IntKind.u32 3988292384 (-((0 : Nat) : Int) % 4294967296) = ((0 : Nat) : Int) := by decide
    rw [e, u32_xor_nat _ _ (by omega) (by decide), Nat.xor_zero]
  · rw [h2, if_pos rfl]
    have e : bits BinOp.and IntKind.u32 3988292384 (-((1 : Nat) : Int) % 4294967296) = ((3988292384 : Nat) : Int) := by decide
    rw [e, u32_xor_nat _ _ (by omega) (by decide)]
    rfl

theorem byte_xor (x : Nat) (b : UInt8) (h : x < 4294967296) : bits BinOp.xor IntKind.u32 (x : Int) ((b.toNat : Int) % 4294967296) = ((Nat.xor x b.toNat : Nat) : Int) := by
  have hb := b.toNat_lt
  rw [show (b.toNat : Int) % 4294967296 = ((b.toNat : Nat) : Int) by omega, u32_xor_nat _ _ h (by omega)]
  rfl

theorem not_crc (x : Nat) (h : x < 4294967296) : bits BinOp.xor IntKind.u32 IntKind.u32.max (x : Int) = ((4294967295 - x : Nat) : Int) := by
  have hm : IntKind.u32.max = ((4294967295 : Nat) : Int) := by decide
  rw [hm, u32_xor_nat _ _ (by decide) h]
  have h1 : (4294967295 : Nat) ^^^ x = (BitVec.ofNat 32 4294967295 ^^^ BitVec.ofNat 32 x).toNat := by
    rw [BitVec.toNat_xor, BitVec.toNat_ofNat, BitVec.toNat_ofNat, Nat.mod_eq_of_lt (by decide), Nat.mod_eq_of_lt h]
  have h2 : BitVec.ofNat 32 4294967295 = BitVec.allOnes 32 := by decide
  rw [h1, h2, BitVec.allOnes_xor, BitVec.toNat_not, BitVec.toNat_ofNat, Nat.mod_eq_of_lt h]

theorem ret_u32 {a b : Int} (h : a = b) : Ending.returned (.int .u32 a) = .returned (.int .u32 b) := by rw [h]

theorem byte_at (l : Wl.Bs) (k : Nat) (h : k < l.length) (h' : k < (⟨l.toArray⟩ : ByteArray).size) : (⟨l.toArray⟩ : ByteArray)[k]'h' = l.getD k 0 := by
  rw [List.getD_eq_getElem?_getD, List.getElem?_eq_getElem h]; rfl

theorem crc_step (l : Wl.Bs) {k x y : Nat} (h : k < l.length) (hx : x = Wl.crcF 4294967295 (l.take k)) (hy : y = Wl.csteps 8 (Nat.xor x (l.getD k 0).toNat)) : y = Wl.crcF 4294967295 (l.take (k + 1)) := by
  rw [List.take_succ_eq_append_getElem h, Wl.crcF_snoc, ← hx, hy]
  rw [List.getD_eq_getElem?_getD, List.getElem?_eq_getElem h]
  rfl

set_option maxHeartbeats 800000 in
theorem Crc_any (l : Wl.Bs) (w : World) (hl : l.length ≤ 1000000) :
    Calls Tryz.prog 60 #[sv l] w fun e w' => e = .returned (.int .u32 (Wl.crc l : Nat)) ∧ w = w' := by
  go_enter Tryz.func60, Tryz.ntmps60
  go_wp2
  go_loop [3, 7] (fun s3 s7 => ∃ (k x : Nat), k ≤ l.length ∧ s7 = .int .i64 k ∧ s3 = .int .u32 (x : Int) ∧ x < 4294967296 ∧ Hid (x = Wl.crcF 4294967295 (l.take k))) (fun _ s7 => l.length - (intOf s7).toNat)
  case atStart => exact ⟨0, 4294967295, Nat.zero_le _, rfl, rfl, by decide, Lib.hid rfl⟩
  case round =>
    obtain ⟨k, x, hk, rfl, rfl, hx, HX⟩ := hrel
    by_cases hlt : k < l.length
    · go_wp2
      go_loop [3, 16] (fun s3 s16 => ∃ (j y : Nat), j ≤ 8 ∧ s16 = .int .i64 j ∧ s3 = .int .u32 (y : Int) ∧ y < 4294967296 ∧ Hid (y = Wl.csteps j (Nat.xor x (l.getD k 0).toNat))) (fun _ s16 => 8 - (intOf s16).toNat)
      case atStart => exact ⟨0, _, by omega, rfl, by rw [byte_at l k hlt, byte_xor x _ hx], Wl.xor_lt hx (by have := (l.getD k 0).toNat_lt; omega), Lib.hid rfl⟩
      case round =>
        obtain ⟨j, y, hj, rfl, rfl, hy, HY⟩ := hrel
        by_cases hlt2 : j < 8
        · go_wp2
          go_round
          case rel => exact ⟨j + 1, Wl.cstep y, by omega, by go_num, by rw [cstep_bits y hy], Wl.cstep_lt hy, Lib.hid (by rw [Wl.csteps_succ, ← HY.out])⟩
          case measure => simp [intOf]; omega
        · have hj8 : j = 8 := by omega
          have HS : Hid (y = Wl.crcF 4294967295 (l.take (k + 1))) := Lib.hid (crc_step l hlt HX.out (hj8 ▸ HY.out))
          clear hj8
          go_wp2
          go_round
          case rel => exact ⟨k + 1, y, by omega, by go_num, rfl, hy, HS⟩
          case measure => simp [intOf]; omega
    · have hk2 : k = l.length := by omega
      have HK : Hid (x = Wl.crcF 4294967295 l) := Lib.hid (by rw [HX.out, hk2, List.take_length])
      clear hk2
      go_wp2
      go_ret
      exact ⟨ret_u32 (by rw [not_crc x hx, HK.out]; rfl), rfl⟩

theorem cstep_odd (y : Nat) (h : y < 4294967296) (h2 : y % 2 = 1) : bits BinOp.xor IntKind.u32 ((y : Int) / 2) 3988292384 = ((Wl.cstep y : Nat) : Int) := by
  rw [half_nat]
  have := u32_xor_nat (y / 2) 3988292384 (by omega) (by decide)
  unfold Wl.cstep
  rw [if_pos h2]
  exact this

set_option maxHeartbeats 800000 in
theorem rCrc_any (l : Wl.Bs) (w : World) (hl : l.length ≤ 1000000) :
    Calls Tryz.prog 57 #[sv l] w fun e w' => e = .returned (.int .u32 (Wl.crc l : Nat)) ∧ w = w' := by
  go_enter Tryz.func57, Tryz.ntmps57
  go_wp2
  go_loop [3, 4] (fun s3 s7 => ∃ (k x : Nat), k ≤ l.length ∧ s7 = .int .i64 k ∧ s3 = .int .u32 (x : Int) ∧ x < 4294967296 ∧ Hid (x = Wl.crcF 4294967295 (l.take k))) (fun _ s7 => l.length - (intOf s7).toNat)
  case atStart => exact ⟨0, 4294967295, Nat.zero_le _, rfl, rfl, by decide, Lib.hid rfl⟩
  case round =>
    obtain ⟨k, x, hk, rfl, rfl, hx, HX⟩ := hrel
    by_cases hlt : k < l.length
    · go_wp2
      go_loop [3, 5] (fun s3 s16 => ∃ (j y : Nat), j ≤ 8 ∧ s16 = .int .i64 j ∧ s3 = .int .u32 (y : Int) ∧ y < 4294967296 ∧ Hid (y = Wl.csteps j (Nat.xor x (l.getD k 0).toNat))) (fun _ s16 => 8 - (intOf s16).toNat)
      case atStart => exact ⟨0, _, by omega, rfl, by rw [byte_at l k hlt, byte_xor x _ hx], Wl.xor_lt hx (by have := (l.getD k 0).toNat_lt; omega), Lib.hid rfl⟩
      case round =>
        obtain ⟨j, y, hj, rfl, rfl, hy, HY⟩ := hrel
        by_cases hlt2 : j < 8
        · have ha := and_one y hy
          rcases Nat.mod_two_eq_zero_or_one y with h2 | h2
          · rw [h2] at ha
            have HC : Hid (Wl.cstep y = y / 2) := Lib.hid (by unfold Wl.cstep; rw [if_neg (by omega)])
            clear h2
            go_wp2
            go_round
            case rel => exact ⟨j + 1, Wl.cstep y, by omega, by go_num, by rw [HC.out, half_nat], Wl.cstep_lt hy, Lib.hid (by rw [Wl.csteps_succ, ← HY.out])⟩
            case measure => simp [intOf]; omega
          · rw [h2] at ha
            have H2 := Lib.hid h2
            clear h2
            go_wp2
            go_round
            case rel => exact ⟨j + 1, Wl.cstep y, by omega, by go_num, by rw [cstep_odd y hy H2.out], Wl.cstep_lt hy, Lib.hid (by rw [Wl.csteps_succ, ← HY.out])⟩
            case measure => simp [intOf]; omega
        · have hj8 : j = 8 := by omega
          have HS : Hid (y = Wl.crcF 4294967295 (l.take (k + 1))) := Lib.hid (crc_step l hlt HX.out (hj8 ▸ HY.out))
          clear hj8
          go_wp2
          go_round
          case rel => exact ⟨k + 1, y, by omega, by go_num, rfl, hy, HS⟩
          case measure => simp [intOf]; omega
    · have hk2 : k = l.length := by omega
      have HK : Hid (x = Wl.crcF 4294967295 l) := Lib.hid (by rw [HX.out, hk2, List.take_length])
      clear hk2
      go_wp2
      go_ret
      exact ⟨ret_u32 (by rw [not_crc x hx, HK.out]; rfl), rfl⟩

end Go.Proofs.YtackeigdehfmmaaGreatDoor

namespace Go.Proofs.YtackeigdehfmmaaGreatDoor
open Go.RowKit

theorem pow16 (w : World) : Calls Tryz.prog 93 #[.int .i64 16] w fun e w' => e = .returned (.bool true) ∧ w = w' := by
  have h : bits BinOp.and IntKind.i64 16 15 = 0 := by decide
  go_enter Tryz.func93, Tryz.ntmps93
  go_wp2
  go_ret
  exact ⟨rfl, rfl⟩

/-- the table that the number of trailing zeros reads -/
def TzV (w : World) : Prop := w.cell? ⟨5, 15, none⟩ = some (.int .u8 4)

theorem TzV.mono {w w' : World} (h : TzV w) (hb : Below w.heap.size w w') : TzV w' := (hb.cell (cell_lt h)).trans h

theorem tz64 (w : World) (h : TzV w) : Calls Tryz.prog 102 #[.int .u64 16] w fun e w' => e = .returned (.int .i64 4) ∧ w = w' := by
  unfold TzV at h
  obtain ⟨X, hX⟩ : ∃ X, X = IntKind.u64.wrap (bits BinOp.and IntKind.u64 16 (IntKind.u64.wrap (-16)) * 285870213051353865) / 288230376151711744 := ⟨_, rfl⟩
  have hX15 : X = 15 := by rw [hX]; decide
  have hX2 : IntKind.u64.wrap (bits BinOp.and IntKind.u64 16 (IntKind.u64.wrap (-16)) * 285870213051353865) / 288230376151711744 = 15 := by rw [← hX]; exact hX15
  clear hX15 hX
  go_enter Tryz.func102, Tryz.ntmps102
  go_wp2
  go_ret
  exact ⟨rfl, rfl⟩

theorem tz16 (w : World) (h : TzV w) : Calls Tryz.prog 94 #[.int .u64 16] w fun e w' => e = .returned (.int .i64 4) ∧ w = w' := by
  have ht := tz64 w h
  clear h
  go_enter Tryz.func94, Tryz.ntmps94
  go_wp2_with fail
  (with_reducible refine ht.mono ?_)
  rintro e w' ⟨rfl, rfl⟩
  go_wp2
  go_ret
  exact ⟨rfl, rfl⟩

/-- bytes as cells -/
abbrev bvv (l : Wl.Bs) : List Value := l.map fun b => Value.int .u8 (b.toNat : Int)

theorem zero65 : Tryz.zeroCells139 = (bvv (List.replicate 65 0)).toArray := by kernel_rfl

theorem bvv_set {w : World} {g : Nat} {E : TypeId} {bs : Wl.Bs} (h : Row w g E (bvv bs)) (k : Nat) (D : Int) (d : UInt8) (hD : D = (d.toNat : Int)) : Row (w.setCell ⟨g, k, none⟩ (.int .u8 D)) g E (bvv (bs.set k d)) := by
  subst hD
  have := h.set k (.int .u8 (d.toNat : Int))
  rw [show bvv (bs.set k d) = (bvv bs).set k (.int .u8 (d.toNat : Int)) from List.map_set]
  exact this

theorem bvv_cell {w : World} {g : Nat} {E : TypeId} {bs : Wl.Bs} (h : Row w g E (bvv bs)) {k : Nat} (hk : k < bs.length) : w.cell? ⟨g, k, none⟩ = some (.int .u8 ((bs.getD k 0).toNat : Int)) := by
  rw [h.cell (by simpa using hk)]
  simp [List.getD_eq_getElem?_getD, List.getElem?_eq_getElem hk]

theorem and15 (x : Nat) (h : x < 4294967296) : bits BinOp.and IntKind.u64 (x : Int) 15 = ((x % 16 : Nat) : Int) := by
  have := bits_and_u64_nat x 15 (by omega) (by decide)
  rw [show (15 : Nat) = 2 ^ 4 - 1 from rfl, Nat.and_two_pow_sub_one_eq_mod] at this
  exact this

theorem dig_fin : ∀ d : Fin 16, (⟨#[48, 49, 50, 51, 52, 53, 54, 55, 56, 57, 97, 98, 99, 100, 101, 102, 103, 104, 105, 106, 107, 108, 109, 110, 111, 112, 113, 114, 115, 116, 117, 118, 119, 120, 121, 122]⟩ : ByteArray)[d.val]'(by have := d.isLt; show d.val < 36; omega) = Wl.hexD d.val := by decide

theorem dig_at (d : Nat) (h : d < 16) (h' : d < (⟨#[48, 49, 50, 51, 52, 53, 54, 55, 56, 57, 97, 98, 99, 100, 101, 102, 103, 104, 105, 106, 107, 108, 109, 110, 111, 112, 113, 114, 115, 116, 117, 118, 119, 120, 121, 122]⟩ : ByteArray).size) : ((((⟨#[48, 49, 50, 51, 52, 53, 54, 55, 56, 57, 97, 98, 99, 100, 101, 102, 103, 104, 105, 106, 107, 108, 109, 110, 111, 112, 113, 114, 115, 116, 117, 118, 119, 120, 121, 122]⟩ : ByteArray)[d]'h').toNat : Nat) : Int) = ((Wl.hexD d).toNat : Int) := by
  rw [← dig_fin ⟨d, h⟩]

theorem drop_set {bs : Wl.Bs} {i : Nat} {d : UInt8} (h : i < bs.length) : (bs.set i d).drop i = d :: bs.drop (i + 1) := by
  rw [List.drop_eq_getElem_cons (by simpa using h), List.getElem_set_self, List.drop_set_of_lt (by omega)]

theorem hexM_big {x : Nat} (h : 16 ≤ x) : Wl.hexM x = Wl.hexM (x / 16) ++ [Wl.hexD (x % 16)] := by
  rw [Wl.hexM, dif_neg (by omega)]
theorem hexM_small {x : Nat} (h : x < 16) : Wl.hexM x = [Wl.hexD x] := by
  rw [Wl.hexM, dif_pos h]

set_option maxRecDepth 100000 in
set_option maxHeartbeats 1600000 in
theorem fmt16 (u : Nat) (w : World) (hu : u < 4294967296) (h : TzV w) :
    Calls Tryz.prog 78 #[.slice none 0 0, .int .u64 u, .int .i64 16, .bool false, .bool false] w fun e w' => e = .returned (.tuple #[.slice none 0 0, sv (Wl.hexM u)]) ∧ Below w.heap.size w w' := by
  have hl8 := (Wl.hexM_pad 8 u (by omega) (by omega)).1
  go_enter Tryz.func78, Tryz.ntmps78
  go_wp2_with fail
  (with_reducible refine (pow16 _).mono ?_)
  rintro e w' ⟨rfl, rfl⟩
  go_wp2_with fail
  (with_reducible refine (tz16 _ ?_).mono ?_)
  · exact h.mono (below_alloc _ _)
  rintro e w' ⟨rfl, rfl⟩
  go_wp2_with fail
  go_loopw [1, 13] (fun s1 s13 wr => ∃ (k x : Nat) (bs : Wl.Bs), s1 = .int .u64 x ∧ s13 = .int .i64 (65 - (k : Int)) ∧ k + (Wl.hexM x).length ≤ 8 ∧ x < 4294967296 ∧ Row wr w.heap.size 139 (bvv bs) ∧ bs.length = 65 ∧ Hid (Wl.hexM u = Wl.hexM x ++ bs.drop (65 - k)) ∧ Below w.heap.size w wr) (fun s1 _ _ => (intOf s1).toNat)
  case atStart => exact ⟨0, u, List.replicate 65 0, rfl, rfl, by omega, hu, by show (w.alloc _).heap[w.heap.size]? = _; rw [heap_alloc_new, zero65], by simp, Lib.hid (by simp), below_alloc _ _⟩
  case round =>
    obtain ⟨k, x, bs, rfl, rfl, hk8, hx, hr, hbl, HI, hbel⟩ := hrel
    by_cases hx16 : 16 ≤ x
    · have hto : (65 - (k : Int) - 1).toNat = 64 - k := by omega
      have hc := bvv_cell hr (k := 64 - k) (by omega)
      have hf := hr.free (64 - k)
      have ha := and15 x hx
      go_wp2
      go_roundw
      case rel =>
        have hb := hexM_big hx16
        have hlen : (Wl.hexM x).length = (Wl.hexM (x / 16)).length + 1 := by rw [hb]; simp
        refine ⟨k + 1, x / 16, bs.set (64 - k) (Wl.hexD (x % 16)), by go_num, by rw [show (65 : Int) - ((k + 1 : Nat) : Int) = 65 - (k : Int) - 1 by omega], by omega, by omega, bvv_set hr _ _ _ (dig_at _ (by omega) _), by simpa using hbl, Lib.hid ?_, hbel.setCell (by simp) _⟩
        rw [HI.out, hb, show 65 - (k + 1) = 64 - k by omega, drop_set (by omega), show 64 - k + 1 = 65 - k by omega]
        simp
      case measure => simp [intOf]; omega
    · have hto : (65 - (k : Int) - 1).toNat = 64 - k := by omega
      have hc := bvv_cell hr (k := 64 - k) (by omega)
      have hf := hr.free (64 - k)
      have hlt : x < 16 := by omega
      have hk7 : k ≤ 7 := by rw [hexM_small hlt] at hk8; simp at hk8; omega
      have hal : Tryz.prog.arrayLen 139 = 65 := by kernel_rfl
      have hsl : ∀ W, (Instr.sliceAt 139 (.pointer (some ⟨w.heap.size, 0, none⟩)) (some (.int .i64 (65 - (k : Int) - 1))) none none).run Tryz.prog W = .ok (.slice (some ⟨w.heap.size, 64 - k, none⟩) (k + 1) (k + 1)) W := fun W => by
        rw [run_sliceAt_array_l W 139 ⟨w.heap.size, 0, none⟩ (by simp [Program.arrayLen, Program.elem, Tryz.underlying139]) .i64 (65 - (k : Int) - 1) (by omega) (by rw [hal]; omega)]
        go_simp
        omega
      have hx36 : x < (⟨#[48, 49, 50, 51, 52, 53, 54, 55, 56, 57, 97, 98, 99, 100, 101, 102, 103, 104, 105, 106, 107, 108, 109, 110, 111, 112, 113, 114, 115, 116, 117, 118, 119, 120, 121, 122]⟩ : ByteArray).size := by show x < 36; omega
      have hcv : (convert 23 9 (.slice (some ⟨w.heap.size, 64 - k, none⟩) (k + 1) (k + 1))).run Tryz.prog (wr.setCell ⟨w.heap.size, 64 - k, none⟩ (.int .u8 ((((⟨#[48, 49, 50, 51, 52, 53, 54, 55, 56, 57, 97, 98, 99, 100, 101, 102, 103, 104, 105, 106, 107, 108, 109, 110, 111, 112, 113, 114, 115, 116, 117, 118, 119, 120, 121, 122]⟩ : ByteArray)[x]'hx36).toNat : Nat) : Int))) =
          .ok (.string ⟨(Wl.hexM u).toArray⟩) (wr.setCell ⟨w.heap.size, 64 - k, none⟩ (.int .u8 ((((⟨#[48, 49, 50, 51, 52, 53, 54, 55, 56, 57, 97, 98, 99, 100, 101, 102, 103, 104, 105, 106, 107, 108, 109, 110, 111, 112, 113, 114, 115, 116, 117, 118, 119, 120, 121, 122]⟩ : ByteArray)[x]'hx36).toNat : Nat) : Int))) := by
        have hr2 := bvv_set hr (64 - k) _ _ (dig_at x hlt hx36)
        have e : Wl.hexM u = (bs.set (64 - k) (Wl.hexD x)).drop (64 - k) := by
          rw [HI.out, hexM_small hlt, drop_set (by omega), show 64 - k + 1 = 65 - k by omega]; rfl
        have hlen : (Wl.hexM u).length = k + 1 := by rw [e]; simp; omega
        have h3 := run_convert_bytes_back (P := Tryz.prog) (wr.setCell ⟨w.heap.size, 64 - k, none⟩ (.int .u8 ((((⟨#[48, 49, 50, 51, 52, 53, 54, 55, 56, 57, 97, 98, 99, 100, 101, 102, 103, 104, 105, 106, 107, 108, 109, 110, 111, 112, 113, 114, 115, 116, 117, 118, 119, 120, 121, 122]⟩ : ByteArray)[x]'hx36).toNat : Nat) : Int))) 23 9 5 ⟨w.heap.size, 64 - k, none⟩ (k + 1) (Wl.hexM u) Tryz.underlying23 Tryz.underlying5 Tryz.underlying9 (fun j hj => by
          have ha : (⟨w.heap.size, 64 - k, none⟩ : Addr).add j = ⟨w.heap.size, 64 - k + j, none⟩ := by
            unfold Addr.add; split
            · subst j; rfl
            · rfl
          rw [ha, bvv_cell hr2 (k := 64 - k + j) (by simp; omega)]
          have hj2 : (bs.set (64 - k) (Wl.hexD x)).getD (64 - k + j) 0 = (Wl.hexM u)[j] := by
            rw [List.getD_eq_getElem?_getD, ← List.getElem?_drop, ← e, List.getElem?_eq_getElem hj]; rfl
          rw [hj2])
        rw [hlen] at h3
        exact h3
      clear hal
      go_wp2
      go_ret2
      exact ⟨rfl, hbel.setCell (by simp) _⟩

end Go.Proofs.YtackeigdehfmmaaGreatDoor
