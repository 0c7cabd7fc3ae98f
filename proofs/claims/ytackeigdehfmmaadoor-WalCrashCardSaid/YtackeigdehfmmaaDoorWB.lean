import Derived.Test.YtackeigdehfmmaaDoorProg
import Derived.Test.YtackeigdehfmmaaDoorWC
import Derived.WalkKit
import Derived.WalkSpells
import Derived.WalkLawsBesides
import Derived.Lib.Hide
import Derived.Lib.Strings
import Derived.BigQuiet
import Derived.Deep.QuietTactic
import Derived.Outline
import Derived.Deep.DeepFit
import Derived.Deep.DeepCutAuto
import Derived.Deep.RegionHeld3
import Derived.Laws.CopyOwn
import Derived.Laws.Tables
import Derived.Deep.RegionLaw
import Derived.BigRegion
namespace Go.Proofs.YtackeigdehfmmaaDoor
open Go.RowKit

/-- bytes as a string's value -/
abbrev sv (s : Wl.Bs) : Value := .string ⟨s.toArray⟩
abbrev svs (l : List Wl.Bs) : List Value := l.map sv
abbrev bvs (l : List Bool) : List Value := l.map Value.bool
abbrev nvs (l : List Nat) : List Value := l.map fun (n : Nat) => Value.int .i64 (n : Int)

theorem extract_ba (s : Wl.Bs) (a b : Nat) : (⟨s.toArray⟩ : ByteArray).extract a b = ⟨((s.drop a).take (b - a)).toArray⟩ := by
  have h := Lib.extract_data ⟨s.toArray⟩ a b
  cases he : (⟨s.toArray⟩ : ByteArray).extract a b with
  | mk x =>
    rw [he] at h
    congr 1
    have h2 : x.toList = (s.drop a).take (b - a) := h
    rw [← h2, Array.toArray_toList]

theorem cell_lt {w : World} {a : Addr} {v : Value} (h : w.cell? a = some v) : a.block < w.heap.size := by
  unfold World.cell? at h
  by_cases hb : a.block < w.heap.size
  · exact hb
  · rw [Array.getElem?_eq_none (by omega)] at h; simp at h

theorem heap_lt {w : World} {g : Nat} {o : Obj} (h : w.heap[g]? = some o) : g < w.heap.size := by
  by_cases hb : g < w.heap.size
  · exact hb
  · rw [Array.getElem?_eq_none (by omega)] at h; cases h

/-- 'Below' from an older world on -/
theorem Below.step {B : Nat} {a b c : World} (h1 : Below B a b) (h2 : Below b.heap.size b c) (hB : B ≤ a.heap.size) : Below B a c :=
  h1.trans (h2.mono (Nat.le_trans hB h1.size))

theorem below_alloc (w : World) (o : Obj) : Below w.heap.size w (w.alloc o) := (Below.refl _ _).alloc (Nat.le_refl _) o

/-- of the blocks that there are only those of G may have turned -/
structure Kept (G : Nat → Prop) (w w' : World) : Prop where
  os : w'.os = w.os
  tape : w'.tape = w.tape
  output : w'.output = w.output
  size : w.heap.size ≤ w'.heap.size
  block : ∀ k, k < w.heap.size → ¬ G k → w'.heap[k]? = w.heap[k]?

section
variable {G : Nat → Prop}
theorem Kept.refl (w : World) : Kept G w w := ⟨rfl, rfl, rfl, Nat.le_refl _, fun _ _ _ => rfl⟩
theorem Kept.trans {a b c : World} (h : Kept G a b) (k : Kept G b c) : Kept G a c :=
  ⟨k.os.trans h.os, k.tape.trans h.tape, k.output.trans h.output, Nat.le_trans h.size k.size, fun i hi hg => (k.block i (Nat.lt_of_lt_of_le hi h.size) hg).trans (h.block i hi hg)⟩
theorem Kept.of_below {w w' : World} (h : Below w.heap.size w w') : Kept G w w' := ⟨h.os, h.tape, h.output, h.size, fun k hk _ => h.block k hk⟩
theorem Kept.drew {a w : World} (h : Kept G a w) : Kept G a w.drew := ⟨h.os, h.tape, h.output, h.size, h.block⟩
theorem Kept.alloc {a w : World} (h : Kept G a w) (o : Obj) : Kept G a (w.alloc o) := h.trans (.of_below (below_alloc w o))
theorem Kept.setCell {a w : World} (h : Kept G a w) {p : Addr} (hp : G p.block) (u : Value) : Kept G a (w.setCell p u) :=
  h.trans ⟨rfl, rfl, rfl, by simp [World.setCell], fun k _ hg => Below.heap_setCell _ _ _ _ (fun e => hg (e ▸ hp))⟩
theorem Kept.setRow {a w : World} (h : Kept G a w) {g : Nat} (hp : G g) (cs : Array Value) : Kept G a (w.setRow g cs) :=
  h.trans ⟨rfl, rfl, rfl, by simp [World.setRow], fun k _ hg => setRow_other w g k cs (fun e => hg (e ▸ hp))⟩
theorem Kept.below {B : Nat} {w w' : World} (h : Kept G w w') (hG : ∀ b, G b → B ≤ b) (hB : B ≤ w.heap.size) : Below B w w' :=
  ⟨h.os, h.tape, h.output, h.size, fun k hk => h.block k (by omega) (fun hg => by have := hG k hg; omega)⟩
theorem Kept.to {w w' : World} (h : Kept (fun _ => False) w w') : Below w.heap.size w w' := ⟨h.os, h.tape, h.output, h.size, fun k hk => h.block k hk (fun h => h)⟩
theorem Kept.cell {w w' : World} (h : Kept G w w') {p : Addr} {v : Value} (hc : w.cell? p = some v) (hp : ¬ G p.block) : w'.cell? p = some v :=
  (World.cell?_of_block (w := w) (h.block p.block (cell_lt hc) hp)).trans hc
theorem Kept.heap {w w' : World} (h : Kept G w w') {g : Nat} {o : Obj} (hc : w.heap[g]? = some o) (hp : ¬ G g) : w'.heap[g]? = some o :=
  (h.block g (heap_lt hc) hp).trans hc
end

/-- what slices read as, outside the blocks of G -/
def RG (w : World) (G : Nat → Prop) (ao : Option Addr) (xs : List Value) : Prop :=
  ∀ i x, xs[i]? = some x → ∃ b off, ao = some ⟨b, off, none⟩ ∧ ¬ G b ∧ w.cell? ⟨b, off + i, none⟩ = some x

theorem RG.nil (w : World) (G : Nat → Prop) (ao : Option Addr) : RG w G ao [] := fun i x h => by simp at h
theorem RG.mono {w w' : World} {G : Nat → Prop} {ao : Option Addr} {xs : List Value} (h : RG w G ao xs) (hk : Kept G w w') : RG w' G ao xs := by
  intro i x hx
  obtain ⟨b, off, e, hg, hc⟩ := h i x hx
  exact ⟨b, off, e, hg, hk.cell hc hg⟩
theorem RG.at' {w : World} {G : Nat → Prop} {ao : Option Addr} {xs : List Value} (h : RG w G ao xs) {k : Nat} (hk : k < xs.length) : ∃ b off, ao = some ⟨b, off, none⟩ ∧ ¬ G b ∧ w.cell? ⟨b, off + k, none⟩ = some xs[k] :=
  h k _ (List.getElem?_eq_getElem hk)

/-- the block g is a row of its own with just these cells -/
def Row (w : World) (g : Nat) (E : TypeId) (xs : List Value) : Prop := w.heap[g]? = some (.cells xs.toArray E (0, 0))

theorem Row.lt {w : World} {g : Nat} {E : TypeId} {xs : List Value} (h : Row w g E xs) : g < w.heap.size := heap_lt h
theorem Row.mono {w w' : World} {G : Nat → Prop} {g : Nat} {E : TypeId} {xs : List Value} (h : Row w g E xs) (hk : Kept G w w') (hg : ¬ G g) : Row w' g E xs := hk.heap h hg
theorem Row.below {w w' : World} {g : Nat} {E : TypeId} {xs : List Value} (h : Row w g E xs) (hk : Below w.heap.size w w') : Row w' g E xs := (hk.block g h.lt).trans h
theorem Row.drew {w : World} {g : Nat} {E : TypeId} {xs : List Value} (h : Row w g E xs) : Row w.drew g E xs := h
theorem Row.cell {w : World} {g : Nat} {E : TypeId} {xs : List Value} (h : Row w g E xs) {k : Nat} (hk : k < xs.length) : w.cell? ⟨g, k, none⟩ = some xs[k] := by
  unfold Row at h
  simp [World.cell?, h, hk]
theorem Row.free {w : World} {g : Nat} {E : TypeId} {xs : List Value} (h : Row w g E xs) (k : Nat) : w.frozen? ⟨g, k, none⟩ = false := by
  unfold Row at h
  simp [World.frozen?, h]
theorem Row.set {w : World} {g : Nat} {E : TypeId} {xs : List Value} (h : Row w g E xs) (k : Nat) (x : Value) : Row (w.setCell ⟨g, k, none⟩ x) g E (xs.set k x) := by
  unfold Row at *
  rw [setCell_eq_setRow w g k _ E (0, 0) x h, setRow_heap w g _ _ E _ h]
  simp
theorem Row.other {w : World} {g g' k : Nat} {E : TypeId} {xs : List Value} (h : Row w g E xs) (hne : g ≠ g') (x : Value) : Row (w.setCell ⟨g', k, none⟩ x) g E xs := by
  unfold Row at *
  rw [Below.heap_setCell _ _ _ _ hne]; exact h
theorem Row.rg {w : World} {g : Nat} {E : TypeId} {xs : List Value} {G : Nat → Prop} (h : Row w g E xs) (hg : ¬ G g) : RG w G (some ⟨g, 0, none⟩) xs := by
  intro i x hx
  obtain ⟨hi, rfl⟩ := List.getElem?_eq_some_iff.1 hx
  exact ⟨g, 0, rfl, hg, by rw [Nat.zero_add]; exact h.cell hi⟩
theorem Row.of_owns {w : World} {B g E n : Nat} {xs : List Value} (h : w.ownsRow B E 1 (.slice (some ⟨g, 0, none⟩) n n) n xs) : Row w g E xs ∧ B ≤ g := by
  obtain ⟨h1, h2⟩ := h
  rcases h2 with ⟨h2, _⟩ | ⟨g', cap, cur, hv, hB, hg, hn, hc, hs, ht⟩
  · cases h2
  · simp only [Value.slice.injEq, Option.some.injEq, Addr.mk.injEq, and_true, true_and] at hv
    obtain ⟨rfl, rfl⟩ := hv
    refine ⟨?_, hB⟩
    unfold Row
    rw [hg]
    have : cur.toList = xs := by rw [← ht, List.take_of_length_le (by simp; omega)]
    rw [← this]

/-- a slice of the call's own, from block B on -/
def OwnV (w : World) (B : Nat) (E : TypeId) (v : Value) (xs : List Value) : Prop := w.ownsRow B E 1 v xs.length xs

theorem OwnV.nil (w : World) (B : Nat) (E : TypeId) : OwnV w B E (.slice none 0 0) [] := World.ownsRow_nil _ _ _ _
theorem OwnV.kept {w w' : World} {B : Nat} {E : TypeId} {v : Value} {xs : List Value} {G : Nat → Prop} (h : OwnV w B E v xs) (hk : Kept G w w') (hG : ∀ b, G b → b < B) : OwnV w' B E v xs := by
  obtain ⟨h1, h2⟩ := h
  refine ⟨h1, h2.imp id ?_⟩
  rintro ⟨g, cap, cur, hv, hg, hh, r⟩
  exact ⟨g, cap, cur, hv, hg, by rw [hk.block g (heap_lt hh) (fun h => by have := hG g h; omega)]; exact hh, r⟩
theorem OwnV.mono {w w' : World} {B : Nat} {E : TypeId} {v : Value} {xs : List Value} (h : OwnV w B E v xs) (hk : Below w.heap.size w w') : OwnV w' B E v xs := by
  obtain ⟨h1, h2⟩ := h
  refine ⟨h1, h2.imp id ?_⟩
  rintro ⟨g, cap, cur, hv, hg, hh, r⟩
  exact ⟨g, cap, cur, hv, hg, by rw [hk.block g (heap_lt hh)]; exact hh, r⟩
theorem OwnV.weak {w : World} {B B' : Nat} {E : TypeId} {v : Value} {xs : List Value} (h : OwnV w B E v xs) (hB : B' ≤ B) : OwnV w B' E v xs := by
  obtain ⟨h1, h2⟩ := h
  refine ⟨h1, h2.imp id ?_⟩
  rintro ⟨g, cap, cur, hv, hg, r⟩
  exact ⟨g, cap, cur, hv, Nat.le_trans hB hg, r⟩
theorem OwnV.alloc {w : World} {B : Nat} {E : TypeId} {v : Value} {xs : List Value} (h : OwnV w B E v xs) (o : Obj) : OwnV (w.alloc o) B E v xs := World.ownsRow.alloc h o
theorem OwnV.read {w : World} {B : Nat} {E : TypeId} {v : Value} {xs : List Value} (h : OwnV w B E v xs) : ∃ ao cap, v = .slice ao xs.length cap ∧ xs.length ≤ cap ∧ ∀ (G : Nat → Prop), (∀ b, G b → b < B) → RG w G ao xs := by
  obtain ⟨h1, h2⟩ := h
  rcases h2 with ⟨rfl, h0⟩ | ⟨g, cap, cur, rfl, hB, hg, hn, hc, hs, ht⟩
  · have : xs = [] := List.eq_nil_of_length_eq_zero h0
    subst this
    exact ⟨none, 0, rfl, Nat.le_refl _, fun G _ => RG.nil _ _ _⟩
  · refine ⟨some ⟨g, 0, none⟩, cap, rfl, hn, fun G hG i x hx => ⟨g, 0, rfl, fun h => by have := hG g h; omega, ?_⟩⟩
    have hlt := (List.getElem?_eq_some_iff.1 hx).1
    have : cur[0 + i]? = some x := by
      rw [Nat.zero_add, ← Array.getElem?_toList]
      rw [← ht, List.getElem?_take_of_lt (by omega)] at hx
      exact hx
    simp only [World.cell?, hg]
    simpa using this

section
variable {ops : Array Oper} {rest : List Oper} {o : Oper} {a : Act} {Q : Exit → Act → World → Prop}

/-- append(out, x) of one cell, out the call's own -/
theorem app_v (w : World) (x : Value) (T E : TypeId) (bytes : Nat) (z : Value) (hgd : o.guard = none) (s y : Operand) (ho : o.op = .call { callee := .builtin .append, args := #[s, y], argTypes := #[T, T] })
    (hT : Tryd.prog.underlying T = some (.slice E)) (hE : (Tryd.prog.info? E).map (fun i => (i.zero, i.size, i.bytes)) = some (some z, 1, bytes)) (hz : z.cells.size = 1) (hby : bytes ≤ 16)
    (W : World) (B : Nat) (v : Value) (l : List Value) (hs : a.eval s = v) (hown : OwnV w B E v l) (hB : B ≤ w.heap.size) (G : Nat → Prop) (hb : Kept G W w) (hWB : W.heap.size ≤ B) (h1x : x.oneCell' = true)
    (hx : a.eval y = .slice (some ⟨w.heap.size, 0, none⟩) 1 1) (hl : l.length ≤ 1000000000)
    (hK : ∀ v' w', OwnV w' B E v' (l ++ [x]) → Kept G W w' → w.heap.size ≤ w'.heap.size → wpList Tryd.prog ops Q rest (a.put o.dst v') w') :
    wpList Tryd.prog ops Q (o :: rest) a (w.alloc (.cells #[x] E)) := by
  obtain ⟨i0, hi, hz0, hz1, hz2⟩ := info_parts hE
  refine wpList_append_own _ hgd s y T ho B E i0 z 1 bytes hT hi hz0 hz1 hz2 hz (by decide) v l.length l hs (World.ownsRow.alloc hown _) ⟨w.heap.size, 0, none⟩ 1 1 [x] hx rfl ?_ ?_ ?_ ?_ ?_ ?_
  · intro j u hj
    match j, hj with
    | 0, hj => simp at hj; subst hj; simp [Addr.add]
  · intro u hu; simp at hu; subst hu; exact h1x
  · unfold maxLen; omega
  · have := Nat.mul_le_mul_left (l.length + 1) hby; omega
  · simp; omega
  · intro v' w' h1 h2 _
    refine hK v' w' ?_ ?_ ?_
    · unfold OwnV
      rw [List.length_append]
      exact h1
    · have hba := hb.alloc (.cells #[x] E)
      refine ⟨h2.os.trans hba.os, h2.tape.trans hba.tape, h2.output.trans hba.output, Nat.le_trans hba.size h2.size, fun k hk hg => ?_⟩
      have hks := hba.size
      refine (h2.block k (by omega) (fun e => ?_)).trans (hba.block k hk hg)
      have := (World.ownsRow.lt hown k e.symm).1
      omega
    · have := h2.size; simp at this; omega

/-- clear(s) of a row of its own -/
theorem clear_run (w : World) (T E : TypeId) (z : Value)
    (hT : Tryd.prog.underlying T = some (.slice E)) (hz : ∀ w, (zeroValue E).run Tryd.prog w = .ok z w) (hzc : z.cells = #[z]) (h1 : z.oneCell' = true)
    (g n c : Nat) (cur : List Value) (hr : Row w g E cur) (hn : cur.length = n) (h0 : 0 < n) (G : Nat → Prop) (hG : G g) :
    ∃ w', (Builtin.clear_ #[T] 0 #[.slice (some ⟨g, 0, none⟩) n c]).run Tryd.prog w = .ok (.tuple #[]) w' ∧ Row w' g E (List.replicate n z) ∧ Kept G w w' ∧ (∀ k, k ≠ g → w'.heap[k]? = w.heap[k]?) := by
  have hzl : (Builtin.zeroCells #[z] n).toList = List.replicate n z := by
    unfold Builtin.zeroCells
    rw [Array.toList_map]
    apply List.ext_getElem?
    intro i
    simp [List.getElem?_replicate, Nat.mod_one]
    split <;> simp_all
  have hst := run_storeCells_from (P := Tryd.prog) g E (List.replicate n z) 0 cur.toArray w hr (by simp [hn]) (fun v hv => by obtain ⟨_, rfl⟩ := List.mem_replicate.1 hv; exact h1)
  refine ⟨w.setRow g (List.replicate n z).toArray, ?_, setRow_heap w g _ _ E _ hr, (Kept.refl w).setRow hG _, fun k hk => setRow_other w g k _ hk⟩
  obtain ⟨m, rfl⟩ : ∃ m, n = m + 1 := ⟨n - 1, by omega⟩
  simp only [List.take_zero, List.nil_append] at hst
  simp [Builtin.clear_, run_underlying hT, hz, hzc, hzl, hst]
end

/-- copy(dst, src) of two rows of the same length, as one step of a region -/
theorem step_copy_v {ops : Array Oper} {o : Oper} {a : Act} {w : World} {K : Act → World → Prop} {Q : Exit → Act → World → Prop} {R : Prop} (hgd : o.guard = none) (d s : Operand) (T E : TypeId)
    (ho : o.op = .call { callee := .builtin .copy, args := #[d, s], argTypes := #[T, T] }) (hu : Tryd.prog.underlying T = some (.slice E)) (hsz : (Tryd.prog.info? E).map (·.size) = some 1)
    (g g' n c c' : Nat) (cur cs : List Value) (hd : a.eval d = .slice (some ⟨g, 0, none⟩) n c) (hs : a.eval s = .slice (some ⟨g', 0, none⟩) n c')
    (hr : Row w g E cur) (hr' : Row w g' E cs) (hn : cur.length = n) (hn' : cs.length = n) (h1 : ∀ v ∈ cs, v.oneCell' = true) (G : Nat → Prop) (hG : G g)
    (h : ∀ w', Row w' g E cs → Kept G w w' → (∀ k, k ≠ g → w'.heap[k]? = w.heap[k]?) → K (a.put o.dst (goInt n)) w') :
    if Region.wanted o (yielded ops a.tmps) = true then Oper.wp Tryd.prog o a w K Q else R := by
  have hw : Region.wanted o (yielded ops a.tmps) = true := by simp [Region.wanted, hgd]
  rw [if_pos hw]
  have hsrc : ∀ j v, cs[j]? = some v → w.cell? ((⟨g', 0, none⟩ : Addr).add j) = some v := by
    intro j v hj
    obtain ⟨hl, rfl⟩ := List.getElem?_eq_some_iff.1 hj
    have e : (⟨g', 0, none⟩ : Addr).add j = ⟨g', j, none⟩ := by
      unfold Addr.add; split
      · subst j; rfl
      · simp
    rw [e]; exact hr'.cell hl
  have hrun := run_copy_row (P := Tryd.prog) w T T o.type E g 0 n c ⟨g', 0, none⟩ n c' cur.toArray E cs hu hsz hr (by rw [hn']; exact (Nat.min_self n).symm) hsrc (by simp [hn, hn']) h1
  unfold Oper.wp
  simp [execOp, ho, resolve, invoke, builtin, hd, hs, hrun, Result.andThen]
  rw [hn', show (cs ++ List.drop n cur) = cs by rw [← hn]; simp]
  exact h _ (setRow_heap w g _ cs.toArray E _ hr) ((Kept.refl w).setRow hG _) (fun k hk => setRow_other w g k _ hk)

end Go.Proofs.YtackeigdehfmmaaDoor
