/-
  Bound, in the reference.
-/
import Derived.Test.YtgfpbghgpdpepaaGreatDoorMQ
set_option linter.unusedVariables false
set_option linter.unusedSimpArgs false
namespace Go.Proofs.YtgfpbghgpdpepaaGreatDoor
open Go.RowKit
theorem made_at (z : Array Value) (n j : Nat) (h : j < n) : (madeCells z n).toList[j]? = some (z[j % z.size]!) := by
 unfold madeCells;simp [h]
theorem madeQ (w : World) (n : Nat) : MQ (w.alloc (.cells (madeCells #[.bool false, .slice none 0 0, .bool false, .slice none 0 0] (n * 4)) 34)) w.heap.size (List.replicate n none) := by
 refine ⟨(madeCells #[.bool false, .slice none 0 0, .bool false, .slice none 0 0] (n * 4)).toList, ?_, ?_, ?_, ?_⟩
 ·have := heap_alloc_new w (.cells (madeCells #[.bool false, .slice none 0 0, .bool false, .slice none 0 0] (n * 4)) 34)
  simpa [Row] using this
 ·simp [size_madeCells]
 ·intro u hu k z e;obtain ⟨j, hj⟩ := List.getElem?_of_mem hu;have hlt : j < n * 4 := by
   have := (List.getElem?_eq_some_iff.1 hj).1
   simpa [size_madeCells] using this
  rw [made_at _ _ _ hlt] at hj;have h4 : j % 4 < 4 := Nat.mod_lt _ (by decide);simp only [Option.some.injEq] at hj;subst e;simp only [List.size_toArray, List.length_cons, List.length_nil, Nat.zero_add, Nat.reduceAdd] at hj
  match hm : j % 4, h4 with
  | 0, _ => rw [hm] at hj; simp at hj
  | 1, _ => rw [hm] at hj; simp at hj
  | 2, _ => rw [hm] at hj; simp at hj
  | 3, _ => rw [hm] at hj; simp at hj
 ·intro i o hi;rw [List.getElem?_replicate] at hi
  split at hi
  ·next hlt =>
   cases hi
   have e : ∀ m, m < 4 → (i * 4 + m) % 4 = m := fun m hm => by omega
   refine ⟨false, none, 0, 0, false, none, 0, 0, ?_, ?_, ?_, ?_, vq_zero _⟩
   ·rw [made_at _ _ _ (by omega)]; simp
   ·rw [made_at _ _ _ (by omega)]; simp [e 1 (by omega)]
   ·rw [made_at _ _ _ (by omega)]; simp [e 2 (by omega)]
   ·rw [made_at _ _ _ (by omega)]; simp [e 3 (by omega)]
  ·cases hi
section
variable {ops : Array Oper} {rest : List Oper} {o : Oper} {a : Act} {Q : Exit → Act → World → Prop}
theorem make_q (w : World) (hg : o.guard = none) (l c : Operand) (hop : o.op = Op.makeSlice 27 l c) (n : Nat)
  (hl : a.eval l = .int .i64 n) (hc : a.eval c = .int .i64 n) (hn : n ≤ 1000000)
  (hK : ∀ w', MQ w' w.heap.size (List.replicate n none) → Below w.heap.size w w' → wpList Tryz.prog ops Q rest (a.put o.dst (.slice (some ⟨w.heap.size, 0, none⟩) n n)) w') :
  wpList Tryz.prog ops Q (o :: rest) a w := by
 obtain ⟨i0, hi, hz0, hz1, hz2⟩ := info_parts Tryz.info34;have hr := run_makeSlice (P := Tryz.prog) w 27 34 i0 (.agg #[.bool false, .slice none 0 0, .bool false, .slice none 0 0]) Tryz.underlying27 hi hz0 .i64 .i64 n n (by omega) (by omega)
  (by rw [hz1]; omega) (by rw [hz2]; omega) (by omega)
 simp only [Int.toNat_natCast] at hr;refine wpList_plain hg fun K hK' => ?_
 unfold Oper.wp;simp [execOp, hop, hl, hc, hr, Result.andThen];refine hK' _ _ (hK _ ?_ (bA _ _));rw [hz1];exact madeQ w n
end
section
variable {p : Prg} {y : List Qo}
theorem bnd_chk (h : chkErr p (zeros p) y ≠ 0) : bndR p y = (chkErr p (zeros p) y, 0) := if_pos h
theorem bnd_none (h : chkErr p (zeros p) y = 0) (h1 : dotO (valsQ p.B) (valsQ y) = none) : bndR p y = (3, 0) := by
 unfold bndR; rw [if_neg (by simpa using h), show dotO p.rB (valsQ y) = none from h1]
theorem bnd_ok {b : Rat} (h : chkErr p (zeros p) y = 0) (h1 : dotO (valsQ p.B) (valsQ y) = some b) : bndR p y = (0, b) := by
 unfold bndR; rw [if_neg (by simpa using h), show dotO p.rB (valsQ y) = some b from h1]
end
end Go.Proofs.YtgfpbghgpdpepaaGreatDoor
