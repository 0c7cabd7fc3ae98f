import Derived.Test.YtijjagofingpdaaGreatDoorProg
import Derived.WalkKit
import Derived.WalkSpells
import Derived.WalkLawsBesides
import Derived.Lib.Hide
import Derived.BigQuiet
import Derived.Deep.QuietTactic
import Derived.Outline
import Derived.Deep.DeepFit
import Derived.Deep.DeepCutAuto
namespace Go.Proofs.YtijjagofingpdaaGreatDoor
open Go.RowKit

/-- the numbers of a list of limbs, as cells -/
abbrev cellsU (l : List Nat) : List Value := l.map fun (x : Nat) => Value.int .u32 (x : Int)

/-- the slice at 'ao' reads as the list l of numbers -/
def U (w : World) (ao : Option Addr) (l : List Nat) : Prop :=
  ∀ i (h : i < l.length), ∃ b off, ao = some ⟨b, off, none⟩ ∧ w.cell? ⟨b, off + i, none⟩ = some (.int .u32 (l[i] : Nat))

theorem U.nil (w : World) (ao : Option Addr) : U w ao [] := fun i h => absurd h (by simp)

theorem cell_lt {w : World} {a : Addr} {v : Value} (h : w.cell? a = some v) : a.block < w.heap.size := by
  unfold World.cell? at h
  by_cases hb : a.block < w.heap.size
  · exact hb
  · rw [Array.getElem?_eq_none (by omega)] at h; simp at h

theorem U.mono {w w' : World} {ao : Option Addr} {l : List Nat} (hU : U w ao l) (hb : Below w.heap.size w w') : U w' ao l := by
  intro i h
  obtain ⟨b, off, e, hc⟩ := hU i h
  exact ⟨b, off, e, (hb.cell (p := ⟨b, off + i, none⟩) (cell_lt hc)).trans hc⟩

theorem U.at' {w : World} {ao : Option Addr} {l : List Nat} (hU : U w ao l) {k x : Nat} (h : l[k]? = some x) : ∃ b off, ao = some ⟨b, off, none⟩ ∧ w.cell? ⟨b, off + k, none⟩ = some (.int .u32 (x : Int)) := by
  obtain ⟨hk, rfl⟩ := List.getElem?_eq_some_iff.1 h
  exact hU k hk

theorem get_some {l : List Nat} {k : Nat} (h : k < l.length) : ∃ x, l[k]? = some x := ⟨l[k], List.getElem?_eq_getElem h⟩

theorem U.take {w : World} {ao : Option Addr} {l : List Nat} (hU : U w ao l) (k : Nat) : U w ao (l.take k) := by
  intro i h
  have h' : i < l.length := by simp at h; omega
  obtain ⟨b, off, e, hc⟩ := hU i h'
  exact ⟨b, off, e, by rw [List.getElem_take]; exact hc⟩

/-- 'Below' from an older world on -/
theorem Below.step {B : Nat} {a b c : World} (h1 : Below B a b) (h2 : Below b.heap.size b c) (hB : B ≤ a.heap.size) : Below B a c :=
  h1.trans (h2.mono (Nat.le_trans hB h1.size))

theorem U_of_owns {w : World} {base e n : Nat} {v : Value} {l : List Nat} (h : w.ownsRow base e 1 v n (cellsU l)) :
    ∃ ao cap, v = .slice ao n cap ∧ n = l.length ∧ U w ao l ∧ n ≤ cap := by
  obtain ⟨hl, h2⟩ := h
  simp only [List.length_map, Nat.mul_one] at hl
  rcases h2 with ⟨rfl, rfl⟩ | ⟨g, cap, cur, rfl, _, hh, hc, _, hsz, ht⟩
  · exact ⟨none, 0, rfl, hl.symm, by rw [List.length_eq_zero_iff.1 hl]; exact U.nil _ _, Nat.le_refl _⟩
  · refine ⟨some ⟨g, 0, none⟩, cap, rfl, hl.symm, fun i hi => ⟨g, 0, rfl, ?_⟩, hc⟩
    have : cur[0 + i]? = some (Value.int .u32 (l[i] : Nat)) := by
      rw [Nat.zero_add, ← Array.getElem?_toList]
      have h3 : (cur.toList.take (n * 1))[i]? = some (Value.int .u32 (l[i] : Nat)) := by rw [ht]; simp [hi]
      rw [List.getElem?_take_of_lt (by omega)] at h3
      exact h3
    simp only [World.cell?, hh]
    simpa using this

theorem Tryz.info45 : (Tryz.prog.info? 45).map (fun i => (i.zero, i.size, i.bytes)) = some (some (.int .u32 0), 1, 4) := by kernel_rfl

/-- the slice v of the call's own holds the list l of numbers -/
def OwnU (w : World) (B : Nat) (v : Value) (l : List Nat) : Prop := w.ownsRow B 45 1 v l.length (cellsU l)

theorem OwnU.nil (w : World) (B : Nat) : OwnU w B (.slice none 0 0) [] := World.ownsRow_nil _ _ _ _

theorem OwnU.alloc {w : World} {B : Nat} {v : Value} {l : List Nat} (h : OwnU w B v l) (o : Obj) : OwnU (w.alloc o) B v l := World.ownsRow.alloc h o

theorem OwnU.read {w : World} {B : Nat} {v : Value} {l : List Nat} (h : OwnU w B v l) : ∃ ao cap, v = .slice ao l.length cap ∧ l.length ≤ cap ∧ U w ao l := by
  obtain ⟨ao, cap, h1, _, h3, h4⟩ := U_of_owns h
  exact ⟨ao, cap, h1, h4, h3⟩

theorem OwnU.len {w : World} {B g n cap : Nat} {l : List Nat} (h : OwnU w B (.slice (some ⟨g, 0, none⟩) n cap) l) : n = l.length ∧ n ≤ cap ∧ B ≤ g ∧ g < w.heap.size := by
  obtain ⟨ao, cap', h1, h2, _⟩ := h.read
  simp only [Value.slice.injEq] at h1
  have h3 := World.ownsRow.lt h g rfl
  obtain ⟨_, rfl, rfl⟩ := h1
  exact ⟨rfl, h2, h3⟩

theorem OwnU.at' {w : World} {B g n cap : Nat} {l : List Nat} (h : OwnU w B (.slice (some ⟨g, 0, none⟩) n cap) l) {k x : Nat} (hx : l[k]? = some x) : w.cell? ⟨g, k, none⟩ = some (.int .u32 (x : Int)) := by
  obtain ⟨hk, _⟩ := List.getElem?_eq_some_iff.1 hx
  obtain rfl := h.len.1
  rw [World.ownsRow.cellAt h k (by omega)]
  simp [hx]

theorem OwnU.free {w : World} {B g n cap : Nat} {l : List Nat} (h : OwnU w B (.slice (some ⟨g, 0, none⟩) n cap) l) (k : Nat) : w.frozen? ⟨g, k, none⟩ = false := by
  obtain rfl := h.len.1
  exact World.ownsRow.frozenAt h k

theorem OwnU.set {w : World} {B g n cap : Nat} {l : List Nat} (h : OwnU w B (.slice (some ⟨g, 0, none⟩) n cap) l) (k : Nat) (Y : Int) (y : Nat) (hY : Y = (y : Int)) :
    OwnU (w.setCell ⟨g, k, none⟩ (.int .u32 Y)) B (.slice (some ⟨g, 0, none⟩) n cap) (l.set k y) := by
  subst hY
  obtain rfl := h.len.1
  have := (World.ownsRow.stored h k (.int .u32 (y : Int))).1
  unfold OwnU cellsU
  rw [List.map_set, List.length_set]
  exact this

theorem OwnU.kept {w w' : World} {B : Nat} {v : Value} {l : List Nat} (h : OwnU w B v l) {W : Nat} (hb : Below W w w') (hw : w.heap.size ≤ W) : OwnU w' B v l := by
  obtain ⟨h1, h2⟩ := h
  refine ⟨h1, h2.imp id ?_⟩
  rintro ⟨g, cap, cur, hv, hg, hh, r⟩
  have : g < w.heap.size := by
    by_cases hb : g < w.heap.size
    · exact hb
    · rw [Array.getElem?_eq_none (by omega)] at hh; simp at hh
  exact ⟨g, cap, cur, hv, hg, by rw [hb.block g (by omega)]; exact hh, r⟩

section
variable {ops : Array Oper} {rest : List Oper} {o : Oper} {a : Act} {Q : Exit → Act → World → Prop}

/-- make([]uint32, 0, n) -/
theorem make_u32 (w : World) (hg : o.guard = none) (l c : Operand) (hop : o.op = Op.makeSlice 22 l c) (W : World) (B : Nat) (C : Int) (n : Nat)
    (hl : a.eval l = .int .i64 0) (hc : a.eval c = .int .i64 C) (hC : C = (n : Int)) (hn : n ≤ 1000000000000) (hB : B ≤ w.heap.size) (hb : Below B W w)
    (hK : ∀ w', OwnU w' B (.slice (some ⟨w.heap.size, 0, none⟩) 0 n) [] → Below B W w' → wpList Tryz.prog ops Q rest (a.put o.dst (.slice (some ⟨w.heap.size, 0, none⟩) 0 n)) w') :
    wpList Tryz.prog ops Q (o :: rest) a w := by
  obtain ⟨i0, hi, hz0, hz1, hz2⟩ := info_parts Tryz.info45
  refine wpList_make_own w hg l c 22 hop B 45 i0 (.int .u32 0) 1 Tryz.underlying22 hi hz0 hz1 .i64 .i64 C n hl hc hC (by rw [hz2]; omega) (by unfold maxLen; omega) hB fun w' h1 h2 => ?_
  exact hK w' h1 (hb.grown h2 hB (fun k hk => by cases hk))

/-- make([]uint32, n) -/
theorem make_u32_full (w : World) (hg : o.guard = none) (l c : Operand) (hop : o.op = Op.makeSlice 22 l c) (W : World) (B : Nat) (L C : Int) (n : Nat)
    (hl : a.eval l = .int .i64 L) (hc : a.eval c = .int .i64 C) (hL : L = (n : Int)) (hC : C = (n : Int)) (hn : n ≤ 1000000000000) (hB : B ≤ w.heap.size) (hb : Below B W w)
    (hK : ∀ w', OwnU w' B (.slice (some ⟨w.heap.size, 0, none⟩) n n) (List.replicate n 0) → Below B W w' → wpList Tryz.prog ops Q rest (a.put o.dst (.slice (some ⟨w.heap.size, 0, none⟩) n n)) w') :
    wpList Tryz.prog ops Q (o :: rest) a w := by
  obtain ⟨i0, hi, hz0, hz1, hz2⟩ := info_parts Tryz.info45
  refine wpList_make_full w hg l c 22 hop B 45 i0 (.int .u32 0) 1 Tryz.underlying22 hi hz0 hz1 .i64 .i64 L C n hl hc hL hC (by rw [hz2]; omega) (by unfold maxLen; omega) hB fun w' h1 h2 => ?_
  refine hK w' ?_ (hb.grown h2 hB (fun k hk => by cases hk))
  unfold OwnU cellsU
  rw [List.length_replicate, List.map_replicate]
  rw [Nat.mul_one, show (Value.int IntKind.u32 0).cells = #[Value.int .u32 0] from rfl, toList_madeCells_one] at h1
  exact h1

/-- append(out, y) of one number, out the call's own -/
theorem app_u32 (w : World) (Y : Int) (y : Nat) (hY : Y = (y : Int)) (hgd : o.guard = none) (s x : Operand) (ho : o.op = .call { callee := .builtin .append, args := #[s, x], argTypes := #[22, 22] })
    (W : World) (B : Nat) (v : Value) (l : List Nat) (hs : a.eval s = v) (hown : OwnU w B v l) (hB : B ≤ w.heap.size) (hb : Below B W w)
    (hx : a.eval x = .slice (some ⟨w.heap.size, 0, none⟩) 1 1) (hl : l.length ≤ 1000000000000)
    (hK : ∀ v' w', OwnU w' B v' (l ++ [y]) → Below B W w' → wpList Tryz.prog ops Q rest (a.put o.dst v') w') :
    wpList Tryz.prog ops Q (o :: rest) a (w.alloc (.cells #[.int .u32 Y] 45)) := by
  subst hY
  obtain ⟨i0, hi, hz0, hz1, hz2⟩ := info_parts Tryz.info45
  refine wpList_append_own _ hgd s x 22 ho B 45 i0 (.int .u32 0) 1 4 Tryz.underlying22 hi hz0 hz1 hz2 rfl (by decide) v l.length (cellsU l) hs (World.ownsRow.alloc hown _) ⟨w.heap.size, 0, none⟩ 1 1 [.int .u32 (y : Int)] hx rfl ?_ ?_ ?_ ?_ ?_ ?_
  · intro j u hj
    match j, hj with
    | 0, hj => simp at hj; subst hj; simp [Addr.add]
  · intro u hu; simp at hu; subst hu; rfl
  · unfold maxLen; omega
  · omega
  · simp; omega
  · intro v' w' h1 h2 _
    refine hK v' w' ?_ ?_
    · unfold OwnU cellsU
      rw [List.length_append, List.map_append]
      exact h1
    · refine (hb.alloc hB _).grown h2 (by simp; omega) ?_
      intro k hk
      exact (World.ownsRow.lt hown k hk).1

/-- append(out, src...), out the call's own, src whatever is read -/
theorem app_all_u32 (w : World) (hgd : o.guard = none) (s x : Operand) (ho : o.op = .call { callee := .builtin .append, args := #[s, x], argTypes := #[22, 22] })
    (W : World) (B : Nat) (v : Value) (l : List Nat) (hs : a.eval s = v) (hown : OwnU w B v l) (hB : B ≤ w.heap.size) (hb : Below B W w) (ao : Option Addr) (c : Nat) (ls : List Nat)
    (hx : a.eval x = .slice ao ls.length c) (hU : U w ao ls) (hl : l.length + ls.length ≤ 1000000000000)
    (hK : ∀ v' w', OwnU w' B v' (l ++ ls) → Below B W w' → wpList Tryz.prog ops Q rest (a.put o.dst v') w') :
    wpList Tryz.prog ops Q (o :: rest) a w := by
  obtain ⟨i0, hi, hz0, hz1, hz2⟩ := info_parts Tryz.info45
  by_cases hls : ls = []
  · subst hls
    refine wpList_plain hgd fun K hK' => ?_
    have hrun : (Builtin.append_ #[22, 22] o.type #[v, .slice ao 0 c]).run Tryz.prog w = .ok v w := by
      rcases hown.2 with ⟨rfl, _⟩ | ⟨g, cap, cur, rfl, _, _, hnc, _⟩
      · cases ao <;> simp [Builtin.append_, run_underlying Tryz.underlying22, sizeOf, typeInfo, hi, Builtin.lenOf, Builtin.firstCells, loadCells, loadCellsFrom]
      · cases ao <;> simp [Builtin.append_, run_underlying Tryz.underlying22, sizeOf, typeInfo, hi, Builtin.lenOf, Builtin.firstCells, hnc, storeCells, loadCells, loadCellsFrom]
    unfold Oper.wp
    simp only [List.length_nil] at hx
    simp [execOp, ho, resolve, invoke, builtin, hs, hx, hrun, Result.andThen]
    exact hK' _ _ (hK v w (by simpa using hown) hb)
  · obtain ⟨b, off, rfl, _⟩ := hU 0 (List.length_pos_iff.2 hls)
    refine wpList_append_own _ hgd s x 22 ho B 45 i0 (.int .u32 0) 1 4 Tryz.underlying22 hi hz0 hz1 hz2 rfl (by decide) v l.length (cellsU l) hs hown ⟨b, off, none⟩ ls.length c (cellsU ls) hx (by simp) ?_ ?_ ?_ ?_ hB ?_
    · intro j u hj
      simp only [List.getElem?_map, Option.map_eq_some_iff] at hj
      obtain ⟨y, hy, rfl⟩ := hj
      obtain ⟨b', off', e, hc⟩ := hU.at' hy
      simp only [Option.some.injEq, Addr.mk.injEq] at e
      obtain ⟨rfl, rfl, _⟩ := e
      have : (⟨b, off, none⟩ : Addr).add j = ⟨b, off + j, none⟩ := by
        unfold Addr.add; split
        · subst j; rfl
        · rfl
      rw [this]; exact hc
    · intro u hu
      obtain ⟨y, _, rfl⟩ := List.mem_map.1 hu
      rfl
    · unfold maxLen; omega
    · omega
    · intro v' w' h1 h2 _
      refine hK v' w' ?_ (hb.grown h2 hB fun k hk => (World.ownsRow.lt hown k hk).1)
      unfold OwnU cellsU
      rw [List.length_append, List.map_append]
      exact h1
end

/-- a box of two cells, read behind a call -/
theorem box2 {w w2 : World} {a b : Value} {t : TypeId} (hb : Below (w.alloc (.cells #[a, b] t)).heap.size (w.alloc (.cells #[a, b] t)) w2) :
    w2.cell? ⟨w.heap.size, 0, none⟩ = some a ∧ w2.cell? ⟨w.heap.size, 1, none⟩ = some b ∧ w2.frozen? ⟨w.heap.size, 0, none⟩ = false ∧ w2.frozen? ⟨w.heap.size, 1, none⟩ = false ∧ w.heap.size < w2.heap.size ∧ Below w.heap.size w w2 :=
  ⟨(hb.cell (p := ⟨w.heap.size, 0, none⟩) (by simp)).trans (by simp [go_sem]), (hb.cell (p := ⟨w.heap.size, 1, none⟩) (by simp)).trans (by simp [go_sem]),
    (hb.frozen (p := ⟨w.heap.size, 0, none⟩) (by simp)).trans (by simp [go_sem]), (hb.frozen (p := ⟨w.heap.size, 1, none⟩) (by simp)).trans (by simp [go_sem]),
    by have := hb.size; simp at this; omega, ((Below.refl w.heap.size w).alloc (Nat.le_refl _) _).trans (hb.mono (by simp))⟩

theorem ret_int {k : IntKind} {a b : Int} (h : a = b) : Ending.returned (.int k a) = .returned (.int k b) := by rw [h]
theorem ret_bool {a b : Bool} (h : a = b) : Ending.returned (.bool a) = .returned (.bool b) := by rw [h]
theorem ret_str {a b : List UInt8} (h : a = b) : Ending.returned (.string ⟨a.toArray⟩) = .returned (.string ⟨b.toArray⟩) := by rw [h]

def lenOf : Value → Nat
  | .slice _ n _ => n
  | _ => 0

end Go.Proofs.YtijjagofingpdaaGreatDoor
