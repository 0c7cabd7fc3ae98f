/-
  What the checks of chapter 14 say about the numbers: plain laws.
-/
import Derived.Test.YtgfpbghgpdpepaaGreatDoorD2
import Derived.Test.YtgfpbghgpdpepaaGreatDoorDuJ
set_option linter.unusedVariables false
set_option linter.unusedSimpArgs false
namespace Go.Proofs.YtgfpbghgpdpepaaGreatDoor
open Go.RowKit
theorem cmp_le (x y : Rat) : Rq.cmpQ x y ≤ 0 ↔ x ≤ y := by
 unfold Rq.cmpQ
 by_cases h : x < y
 ·rw [if_pos h]; exact ⟨fun _ => Rat.le_of_lt h, fun _ => by decide⟩
 ·rw [if_neg h]
  by_cases h' : y < x
  ·rw [if_pos h']; exact ⟨fun hh => absurd hh (by decide), fun hh => absurd hh (Rat.not_le.2 h')⟩
  ·rw [if_neg h']; exact ⟨fun _ => Rat.not_lt.1 h', fun _ => by decide⟩
theorem cmp_lt (x y : Rat) : Rq.cmpQ x y < 0 ↔ x < y := by
 unfold Rq.cmpQ
 by_cases h : x < y
 ·rw [if_pos h]; exact ⟨fun _ => h, fun _ => by decide⟩
 ·rw [if_neg h]
  by_cases h' : y < x
  ·rw [if_pos h']; exact ⟨fun hh => absurd hh (by decide), fun hh => absurd hh h⟩
  ·rw [if_neg h']; exact ⟨fun hh => absurd hh (by decide), fun hh => absurd hh h⟩
theorem cmp_ge (x y : Rat) : 0 ≤ Rq.cmpQ x y ↔ y ≤ x := by
 have := cmp_lt x y
 constructor
 ·intro h; exact Rat.not_lt.1 fun h' => by have := this.2 h'; omega
 ·intro h
  by_cases hh : Rq.cmpQ x y < 0
  ·exact absurd (this.1 hh) (Rat.not_lt.2 h)
  ·omega
theorem cmp_gt (x y : Rat) : 0 < Rq.cmpQ x y ↔ y < x := by
 have := cmp_le x y
 constructor
 ·intro h; exact Rat.not_le.1 fun h' => by have := this.2 h'; omega
 ·intro h
  by_cases hh : Rq.cmpQ x y ≤ 0
  ·exact absurd (this.1 hh) (Rat.not_le.2 h)
  ·omega
theorem cmp_eq0 (x y : Rat) : Rq.cmpQ x y = 0 ↔ x = y := by
 have h1 := cmp_le x y;have h2 := cmp_ge x y
 constructor
 ·intro h; exact Rat.le_antisymm (h1.1 (by omega)) (h2.1 (by omega))
 ·rintro rfl;have := h1.2 Rat.le_refl;have := h2.2 Rat.le_refl;omega
theorem dotS_val : ∀ (la lb : List Rat) (acc r : Rat), DotS acc la lb (some r) → r = acc + Du.dotR la lb
 | [], _, acc, r, h => by
  have h : some r = some acc := h
  cases h; simp only [Du.dotR]; grind
 | _ :: _, [], acc, r, h => by
  have h : some r = some acc := h
  cases h; simp only [Du.dotR]; grind
 | a :: l, b :: m, acc, r, h => by
  rcases h with ⟨_, _, h⟩ | ⟨_, h⟩
  ·rw [dotS_val l m _ _ h]; simp only [Du.dotR]; grind
  ·cases h
theorem dotO_val {a x : List Rat} {s : Rat} (h : dotO a x = some s) : s = Du.dotR a x := by
 have := dotO_spec a x;rw [h] at this;rw [dotS_val _ _ _ _ this]; grind
theorem agn_ok {a x : List Rat} {b : Rat} {c : Int} (h : agn a x b = (0, c)) : ∃ s, dotO a x = some s ∧ CrS s b ∧ c = Rq.cmpQ s b ∧ s = Du.dotR a x := by
 rcases agn_cases h with ⟨_, h, _⟩ | ⟨s, h1, h⟩
 ·cases h
 ·rcases h with ⟨h2, _, h3⟩ | ⟨_, h, _⟩
  ·exact ⟨s, h1, h2, h3, dotO_val h1⟩
  ·cases h
theorem agn_zero {a x : List Rat} {b : Rat} (h : (agn a x b).1 = 0) : ∃ s, dotO a x = some s ∧ CrS s b ∧ (agn a x b).2 = Rq.cmpQ s b ∧ s = Du.dotR a x :=
 agn_ok (c := (agn a x b).2) (by rw [← h])
theorem agn_le {a x : List Rat} {b : Rat} (h : (agn a x b).1 = 0) : (agn a x b).2 ≤ 0 ↔ Du.dotR a x ≤ b := by
 obtain ⟨s, _, _, e, rfl⟩ := agn_zero h;rw [e]; exact cmp_le _ _
theorem agn_ge {a x : List Rat} {b : Rat} (h : (agn a x b).1 = 0) : 0 ≤ (agn a x b).2 ↔ b ≤ Du.dotR a x := by
 obtain ⟨s, _, _, e, rfl⟩ := agn_zero h;rw [e]; exact cmp_ge _ _
theorem agn_eq {a x : List Rat} {b : Rat} (h : (agn a x b).1 = 0) : (agn a x b).2 = 0 ↔ Du.dotR a x = b := by
 obtain ⟨s, _, _, e, rfl⟩ := agn_zero h;rw [e]; exact cmp_eq0 _ _
theorem agn_gt {a x : List Rat} {b : Rat} (h : (agn a x b).1 = 0) : 0 < (agn a x b).2 ↔ b < Du.dotR a x := by
 obtain ⟨s, _, _, e, rfl⟩ := agn_zero h;rw [e]; exact cmp_gt _ _
theorem getD_cons {α : Type} (a : α) (l : List α) (d : α) (i : Nat) : (a :: l).getD (i + 1) d = l.getD i d := by simp [List.getD]
theorem rows_all : ∀ (A : List (List Rat)) (B : List Rat) (x : List Rat), A.length = B.length → rowsErr A B x = 0 →
  ∀ i, i < B.length → (agn (A.getD i []) x (B.getD i 0)).1 = 0 ∧ Du.dotR (A.getD i []) x ≤ B.getD i 0
 | [], [], x, _, _, i, hi => by simp at hi
 | [], _ :: _, _, h, _, _, _ => by simp at h
 | _ :: _, [], _, h, _, _, _ => by simp at h
 | r :: A, b :: B, x, hl, h, i, hi => by
  rw [rowsErr] at h
  by_cases h1 : (agn r x b).1 = 0
  ·rw [if_neg (by simpa using h1)] at h
   by_cases h2 : 0 < (agn r x b).2
   ·rw [if_pos h2] at h; cases h
   ·rw [if_neg h2] at h
    match i with
    | 0 => exact ⟨h1, (agn_le h1).1 (by omega)⟩
    | i + 1 =>
     rw [getD_cons, getD_cons];exact rows_all A B x (by simpa using hl) h i (by simpa using hi)
  ·rw [if_pos h1] at h; exact absurd h h1
theorem rows_zero : ∀ (A : List (List Rat)) (B : List Rat) (x : List Rat), (∀ i, i < B.length → (agn (A.getD i []) x (B.getD i 0)).1 = 0 ∧ Du.dotR (A.getD i []) x ≤ B.getD i 0) → rowsErr A B x = 0
 | [], _, _, _ => by unfold rowsErr; rfl
 | _ :: _, [], _, _ => by unfold rowsErr; rfl
 | r :: A, b :: B, x, h => by
  have h0 := h 0 (by simp);have h1 : (agn r x b).1 = 0 := h0.1;have h2 := (agn_le h1).2 h0.2;rw [rowsErr, if_neg (by simpa using h1), if_neg (by omega)];refine rows_zero A B x fun i hi => ?_
  have := h (i + 1) (by simp; omega);rw [getD_cons, getD_cons] at this;exact this
theorem cols_all (A : List (List Rat)) (y : List Rat) : ∀ (C : List Rat) (k : Nat), colsErr A y k C = 0 →
  ∀ i, i < C.length → (agn (colR A (k + i)) y (C.getD i 0)).1 = 0 ∧ C.getD i 0 ≤ Du.dotR (colR A (k + i)) y
 | [], _, _, i, hi => by simp at hi
 | c :: C, k, h, i, hi => by
  rw [colsErr] at h
  by_cases h1 : (agn (colR A k) y c).1 = 0
  ·rw [if_neg (by simpa using h1)] at h
   by_cases h2 : (agn (colR A k) y c).2 < 0
   ·rw [if_pos h2] at h; cases h
   ·rw [if_neg h2] at h
    match i with
    | 0 => exact ⟨h1, (agn_ge h1).1 (by omega)⟩
    | i + 1 =>
     rw [getD_cons, show k + (i + 1) = (k + 1) + i by omega];exact cols_all A y C (k + 1) h i (by simpa using hi)
  ·rw [if_pos h1] at h; exact absurd h h1
structure Fit (A : List (List Rat)) (B C : List Rat) : Prop where
 rows : A.length = B.length
 cols : ∀ r ∈ A, r.length = C.length
def fA (A : List (List Rat)) (i k : Nat) : Rat := (A.getD i []).getD k 0
def fL (l : List Rat) (k : Nat) : Rat := l.getD k 0
theorem row_len {A : List (List Rat)} {B C : List Rat} (h : Fit A B C) {i : Nat} (hi : i < B.length) : (A.getD i []).length = C.length := by
 have hl : i < A.length := by rw [h.rows]; exact hi
 rw [List.getD_eq_getElem?_getD, gE hl];exact h.cols _ (List.getElem_mem hl)
theorem dot_row {A : List (List Rat)} {B C x : List Rat} (h : Fit A B C) (hx : x.length = C.length) {i : Nat} (hi : i < B.length) :
  Du.dotR (A.getD i []) x = Du.sm C.length (fun k => fA A i k * fL x k) := by
 have h1 := row_len h hi;rw [Du.dot_sm _ _ (by rw [h1, hx]), h1]; rfl
theorem col_at {A : List (List Rat)} {k i : Nat} (hi : i < A.length) : (colR A k).getD i 0 = fA A i k := by
 unfold colR fA;simp [List.getD_eq_getElem?_getD, List.getElem?_map, gE hi]
theorem dot_col {A : List (List Rat)} {B C y : List Rat} (h : Fit A B C) (hy : y.length = B.length) (k : Nat) :
  Du.dotR (colR A k) y = Du.sm B.length (fun i => fA A i k * fL y i) := by
 have h1 := colR_length A k;rw [Du.dot_sm _ _ (by rw [h1, hy, h.rows]), h1, h.rows];refine Du.sm_congr _ _ _ fun i hi => ?_
 rw [col_at (by rw [h.rows]; exact hi)]; rfl
theorem dot_two {a x : List Rat} (h : x.length = a.length) : Du.dotR a x = Du.sm a.length (fun k => fL a k * fL x k) := Du.dot_sm _ _ h.symm
theorem none_neg {x : List Rat} (h : x.any (fun r => decide (r.num < 0)) = false) : ∀ k, 0 ≤ fL x k := by
 intro k;unfold fL;rw [List.getD_eq_getElem?_getD]
 cases hk : x[k]? with
 | none => exact Rat.le_refl
 | some r =>
  have := List.any_eq_false.1 h r (List.mem_of_getElem? hk);exact Rat.num_nonneg.1 (by simpa using this)
theorem sol_of {A : List (List Rat)} {B C x : List Rat} (h : Fit A B C) (hx : x.length = C.length) (hs : solErr A B x = 0) : Du.Sol B.length C.length (fA A) (fL B) (fL x) := by
 unfold solErr at hs
 split at hs
 ·cases hs
 ·next hn =>
  have hn : x.any (fun r => decide (r.num < 0)) = false := by simpa using hn
  refine ⟨fun k _ => none_neg hn k, fun i hi => ?_⟩;rw [← dot_row h hx hi];exact (rows_all A B x h.rows hs i hi).2
theorem pri_of {A : List (List Rat)} {B C y : List Rat} (h : Fit A B C) (hy : y.length = B.length) (hs : priErr A C y = 0) : Du.Pri B.length C.length (fA A) (fL C) (fL y) := by
 unfold priErr at hs
 split at hs
 ·cases hs
 ·next hn =>
  have hn : y.any (fun r => decide (r.num < 0)) = false := by simpa using hn
  refine ⟨fun k _ => none_neg hn k, fun k hk => ?_⟩;rw [← dot_col h hy k];have := (cols_all A y C 0 hs k hk).2;rw [Nat.zero_add] at this;exact this
def Prg.rA (p : Prg) : List (List Rat) := p.A.map valsQ
def Prg.rB (p : Prg) : List Rat := valsQ p.B
def Prg.rC (p : Prg) : List Rat := valsQ p.C
theorem vals_length (l : List Qo) : (valsQ l).length = l.length := by simp [valsQ]
theorem err_zero {p : Prg} (h : p.err = 0) : (0 < p.B.length ∧ p.B.length ≤ 14 ∧ 0 < p.C.length ∧ p.C.length ≤ 400 ∧ p.A.length = p.B.length) ∧ (∀ r ∈ p.A, r.length = p.C.length) ∧ numErr p.all = 0 ∧ negQ p.B = false := by
 unfold Prg.err at h
 split at h
 ·cases h
 ·next h1 =>
  split at h
  ·cases h
  ·next h2 =>
   split at h
   ·next h3 => exact absurd h h3
   ·next h3 =>
    split at h
    ·cases h
    ·next h4 =>
     refine ⟨by omega, fun r hr => ?_, by simpa using h3, by simpa using h4⟩;have h2 : p.A.any (fun r => r.length != p.C.length) = false := by simpa using h2
     have := List.any_eq_false.1 h2 r hr
     simpa using this
theorem err_fit {p : Prg} (h : p.err = 0) : Fit p.rA p.rB p.rC := by
 obtain ⟨h1, h2, _⟩ := err_zero h;refine ⟨by simp [Prg.rA, Prg.rB, vals_length]; omega, fun r hr => ?_⟩;obtain ⟨q, hq, rfl⟩ := List.mem_map.1 hr;rw [vals_length, h2 q hq, Prg.rC, vals_length]
theorem badQ_of {l : List Qo} (h : ∀ x ∈ l, x.isNone = false) : badQ l = false := by
 unfold badQ; rw [List.any_eq_false]; intro x hx; rw [h x hx]; simp
theorem err_some {p : Prg} (h : p.err = 0) : (∀ r ∈ p.A, badQ r = false) ∧ badQ p.B = false ∧ badQ p.C = false := by
 obtain ⟨_, _, h3, _⟩ := err_zero h;have hn := numErr_zero h3;refine ⟨fun r hr => badQ_of fun x hx => hn x ?_, badQ_of fun x hx => hn x ?_, badQ_of fun x hx => hn x ?_⟩
 ·exact List.mem_append_left _ (List.mem_append_left _ (List.mem_flatten.2 ⟨r, hr, hx⟩))
 ·exact List.mem_append_left _ (List.mem_append_right _ hx)
 ·exact List.mem_append_right _ hx
theorem err_eq {p : Prg} (h : p.err = 0) : p.A = p.rA.map (·.map some) ∧ p.B = p.rB.map some ∧ p.C = p.rC.map some := by
 obtain ⟨h1, h2, h3⟩ := err_some h;refine ⟨?_, (vals_some h2).symm, (vals_some h3).symm⟩;unfold Prg.rA;rw [List.map_map];exact ((List.map_congr_left fun r hr => vals_some (h1 r hr)).trans (List.map_id _)).symm
theorem numErr_long0 {l : List Qo} (h : numErr l = 0) : ∀ x ∈ l, longO x = false := by
 unfold numErr at h;intro x hx
 split at h
 ·cases h
 ·split at h
  ·cases h
  ·next hb =>
   have : longQ l = false := by simpa using hb
   unfold longQ at this;rw [List.any_eq_false] at this
   simpa using this x hx
theorem dec_pow {n k : Nat} (h : (Lib.decDigits n).length ≤ k) : n < 10 ^ k := by
 obtain ⟨h1, h2, _⟩ := Bi.dec_all n;have := Bi.decVal_lt _ h1;rw [h2] at this;exact Nat.lt_of_lt_of_le this (Nat.pow_le_pow_right (by decide) h)
def Sh (r : Rat) : Prop := Rq.Bd r (10 ^ 20) (10 ^ 20)
theorem sh_of {r : Rat} (h : shortB r = true) : Sh r := by
 unfold shortB at h;simp only [Bool.and_eq_true, decide_eq_true_eq] at h;exact ⟨Nat.le_of_lt (dec_pow h.1), Nat.le_of_lt (dec_pow h.2)⟩
theorem mem_vals {l : List Qo} {r : Rat} (hr : r ∈ valsQ l) (hb : badQ l = false) : some r ∈ l := by
 have := vals_some hb;rw [← this];exact List.mem_map.2 ⟨r, hr, rfl⟩
theorem err_sh {p : Prg} (h : p.err = 0) : (∀ a ∈ p.rA, ∀ r ∈ a, Sh r) ∧ (∀ r ∈ p.rB, Sh r ∧ 0 ≤ r) ∧ (∀ r ∈ p.rC, Sh r) := by
 obtain ⟨_, _, h3, h4⟩ := err_zero h;obtain ⟨b1, b2, b3⟩ := err_some h;have hn := numErr_long0 h3;have hh : ∀ r, some r ∈ p.all → Sh r := fun r hr => sh_of (by simpa [longO] using hn _ hr)
 refine ⟨fun a ha r hr => ?_, fun r hr => ⟨?_, ?_⟩, fun r hr => ?_⟩
 ·obtain ⟨q, hq, rfl⟩ := List.mem_map.1 ha;exact hh r (List.mem_append_left _ (List.mem_append_left _ (List.mem_flatten.2 ⟨q, hq, mem_vals hr (b1 q hq)⟩)))
 ·exact hh r (List.mem_append_left _ (List.mem_append_right _ (mem_vals hr b2)))
 ·have hm := mem_vals hr b2;have := List.any_eq_false.1 h4 _ hm;exact Rat.num_nonneg.1 (by simpa [negO] using this)
 ·exact hh r (List.mem_append_right _ (mem_vals hr b3))
end Go.Proofs.YtgfpbghgpdpepaaGreatDoor
namespace Go.Proofs.YtgfpbghgpdpepaaGreatDoor
open Go.RowKit
theorem chk_zero {p : Prg} {x y : List Qo} (h : chkErr p x y = 0) : p.err = 0 ∧ x.length = p.C.length ∧ y.length = p.B.length ∧ badQ x = false ∧ badQ y = false ∧ solErr p.rA p.rB (valsQ x) = 0 ∧ priErr p.rA p.rC (valsQ y) = 0 := by
 unfold chkErr at h
 split at h
 ·next h1 => exact absurd h h1
 ·next h1 =>
  split at h
  ·cases h
  ·next h2 =>
   split at h
   ·cases h
   ·next h3 =>
    split at h
    ·next h4 => exact absurd h h4
    ·next h4 =>
     refine ⟨by simpa using h1, by omega, by omega, ?_, ?_, Classical.byContradiction fun hh => h4 hh, h⟩
     ·cases hb : badQ x with
      | false => rfl
      | true => exact absurd (.inl hb) h3
     ·cases hb : badQ y with
      | false => rfl
      | true => exact absurd (.inr hb) h3
theorem chk_of {p : Prg} {x y : List Qo} (h1 : p.err = 0) (h2 : x.length = p.C.length) (h3 : y.length = p.B.length) (h4 : badQ x = false) (h5 : badQ y = false) (h6 : solErr p.rA p.rB (valsQ x) = 0) : chkErr p x y = priErr p.rA p.rC (valsQ y) := by
 unfold chkErr;rw [if_neg (by simpa using h1), if_neg (by omega), if_neg (by rw [h4, h5]; simp)];exact if_neg (fun hh => hh h6)
def fitO (r : Rat) (a x : List Rat) (b : Rat) : Prop := (agn a x b).1 = 0 ∧ ((agn a x b).2 = 0 ∨ r.num = 0)
def SlackP (p : Prg) (x y : List Qo) : Prop :=
 chkErr p x y = 0 ∧ (∀ i, i < p.B.length → fitO (fL (valsQ y) i) (p.rA.getD i []) (valsQ x) (fL p.rB i)) ∧ ∀ k, k < p.C.length → fitO (fL (valsQ x) k) (colR p.rA k) (valsQ y) (fL p.rC k)
def OptP (p : Prg) (x y : List Qo) (v : Qo) : Prop :=
 chkErr p x y = 0 ∧ ∃ r, v = some r ∧ agn p.rC (valsQ x) r = (0, 0) ∧ agn p.rB (valsQ y) r = (0, 0)
def UnbP (p : Prg) (ray : List Qo) : Prop :=
 p.err = 0 ∧ ray.length = p.C.length ∧ badQ ray = false ∧ (valsQ ray).any negR = false ∧ (∀ i, i < p.B.length → (agn (p.rA.getD i []) (valsQ ray) 0).1 = 0 ∧ (agn (p.rA.getD i []) (valsQ ray) 0).2 ≤ 0) ∧
  (agn p.rC (valsQ ray) 0).1 = 0 ∧ 0 < (agn p.rC (valsQ ray) 0).2
open Classical in
noncomputable def gapR (p : Prg) (x y : List Qo) : Nat × Rat :=
 if chkErr p x y ≠ 0 then (chkErr p x y, 0) else
 match dotO p.rC (valsQ x), dotO p.rB (valsQ y) with
 | some a, some b => if SubS b a then (0, b - a) else (3, 0)
 | _, _ => (3, 0)
def zeros (p : Prg) : List Qo := List.replicate p.C.length (some 0)
noncomputable def bndR (p : Prg) (y : List Qo) : Nat × Rat :=
 if chkErr p (zeros p) y ≠ 0 then (chkErr p (zeros p) y, 0) else
 match dotO p.rB (valsQ y) with
 | some b => (0, b)
 | none => (3, 0)
theorem gapR_zero {p : Prg} {x y : List Qo} (h : (gapR p x y).1 = 0) : chkErr p x y = 0 ∧ ∃ a b, dotO p.rC (valsQ x) = some a ∧ dotO p.rB (valsQ y) = some b ∧ SubS b a ∧ (gapR p x y).2 = b - a := by
 unfold gapR at h ⊢
 by_cases h0 : chkErr p x y ≠ 0
 ·rw [if_pos h0] at h; exact absurd h h0
 ·rw [if_neg h0] at h ⊢;refine ⟨by simpa using h0, ?_⟩
  cases ha : dotO p.rC (valsQ x) with
  | none => rw [ha] at h; cases h
  | some a =>
   cases hb : dotO p.rB (valsQ y) with
   | none => rw [ha, hb] at h; cases h
   | some b =>
    rw [ha, hb] at h;simp only at h ⊢
    by_cases hs : SubS b a
    ·exact ⟨a, b, rfl, rfl, hs, by rw [if_pos hs]⟩
    ·rw [if_neg hs] at h; cases h
theorem num_zero' (r : Rat) : r.num = 0 ↔ r = 0 := Rat.num_eq_zero
section
variable {p : Prg} {x y : List Qo}
theorem rB_len (p : Prg) : p.rB.length = p.B.length := vals_length _
theorem rC_len (p : Prg) : p.rC.length = p.C.length := vals_length _
theorem chk_sol (h : chkErr p x y = 0) : Du.Sol p.B.length p.C.length (fA p.rA) (fL p.rB) (fL (valsQ x)) := by
 obtain ⟨h1, h2, h3, h4, h5, h6, h7⟩ := chk_zero h;have := sol_of (err_fit h1) (by rw [vals_length, h2, rC_len]) h6
 rwa [rB_len, rC_len] at this
theorem chk_pri (h : chkErr p x y = 0) : Du.Pri p.B.length p.C.length (fA p.rA) (fL p.rC) (fL (valsQ y)) := by
 obtain ⟨h1, h2, h3, h4, h5, h6, h7⟩ := chk_zero h;have := pri_of (err_fit h1) (by rw [vals_length, h3, rB_len]) h7
 rwa [rB_len, rC_len] at this
theorem val_C (h : chkErr p x y = 0) : Du.dotR p.rC (valsQ x) = Du.sm p.C.length (fun k => fL p.rC k * fL (valsQ x) k) := by
 obtain ⟨_, h2, _⟩ := chk_zero h;rw [dot_two (by rw [vals_length, h2, rC_len]), rC_len]
theorem val_B (h : chkErr p x y = 0) : Du.dotR p.rB (valsQ y) = Du.sm p.B.length (fun i => fL p.rB i * fL (valsQ y) i) := by
 obtain ⟨_, _, h3, _⟩ := chk_zero h;rw [dot_two (by rw [vals_length, h3, rB_len]), rB_len]
theorem slack_gap (h : (gapR p x y).1 = 0) : SlackP p x y ↔ (gapR p x y).2 = 0 := by
 obtain ⟨h0, a, b, ha, hb, _, e⟩ := gapR_zero h;rw [e, dotO_val ha, dotO_val hb, val_C h0, val_B h0, Du.gap_zero (chk_sol h0) (chk_pri h0)];obtain ⟨h1, h2, h3, h4, h5, h6, h7⟩ := chk_zero h0;have hf := err_fit h1;have hx : (valsQ x).length = p.rC.length := by rw [vals_length, h2, rC_len]
 have hy : (valsQ y).length = p.rB.length := by rw [vals_length, h3, rB_len]
 have hr : ∀ i, i < p.B.length → (agn (p.rA.getD i []) (valsQ x) (fL p.rB i)).1 = 0 := fun i hi => by
  have h6 := h6;unfold solErr at h6
  split at h6
  ·cases h6
  ·exact (rows_all _ _ _ hf.rows h6 i (by rw [rB_len]; exact hi)).1
 have hc : ∀ k, k < p.C.length → (agn (colR p.rA k) (valsQ y) (fL p.rC k)).1 = 0 := fun k hk => by
  have h7 := h7;unfold priErr at h7
  split at h7
  ·cases h7
  ·have := (cols_all _ _ _ 0 h7 k (by rw [rC_len]; exact hk)).1;rw [Nat.zero_add] at this; exact this
 have er : ∀ i, i < p.B.length → (fitO (fL (valsQ y) i) (p.rA.getD i []) (valsQ x) (fL p.rB i) ↔ (Du.sm p.C.length (fun k => fA p.rA i k * fL (valsQ x) k) = fL p.rB i ∨ fL (valsQ y) i = 0)) := fun i hi => by
  unfold fitO;rw [agn_eq (hr i hi), dot_row hf hx (by rw [rB_len]; exact hi), rC_len, num_zero'];exact ⟨fun h => h.2, fun h => ⟨hr i hi, h⟩⟩
 have ec : ∀ k, k < p.C.length → (fitO (fL (valsQ x) k) (colR p.rA k) (valsQ y) (fL p.rC k) ↔ (Du.sm p.B.length (fun i => fA p.rA i k * fL (valsQ y) i) = fL p.rC k ∨ fL (valsQ x) k = 0)) := fun k hk => by
  unfold fitO;rw [agn_eq (hc k hk), dot_col hf hy k, rB_len, num_zero'];exact ⟨fun h => h.2, fun h => ⟨hc k hk, h⟩⟩
 constructor
 ·rintro ⟨_, g1, g2⟩;exact ⟨fun i hi => (er i hi).1 (g1 i hi), fun k hk => (ec k hk).1 (g2 k hk)⟩
 ·rintro ⟨g1, g2⟩;exact ⟨h0, fun i hi => (er i hi).2 (g1 i hi), fun k hk => (ec k hk).2 (g2 k hk)⟩
end
def KK : Nat := 10 ^ 25
theorem pow_kk (a b c d e : Nat) (h : b * c = d + e) : (a ^ b) ^ c = a ^ d * a ^ e := by rw [← Nat.pow_mul, h, Nat.pow_add]
theorem kk_big : KK ^ 12 = Bi.Big := pow_kk 10 25 12 150 150 (by decide)
theorem kk_one : 1 < KK := by unfold KK; exact of_decide_eq_true (by kernel_rfl)
theorem kk_sh : 10 ^ 20 * 2 + 10 ^ 20 * 100 ≤ KK := by unfold KK; exact of_decide_eq_true (by kernel_rfl)
theorem kk_lt {n : Nat} (h : n < 12) : KK ^ n < Bi.Big := by rw [← kk_big]; exact Nat.pow_lt_pow_right kk_one h
theorem kk_le {i j : Nat} (h : i ≤ j) : KK ^ i ≤ KK ^ j := Nat.pow_le_pow_right (by have := kk_one; omega) h
theorem sm_kk {z : Int} {n : Nat} (hn : n < 12) (h : z.natAbs ≤ KK ^ n) : Rq.Sm z := Nat.lt_of_le_of_lt h (kk_lt hn)
theorem Bd.mono {r : Rat} {N D M E : Nat} (h : Rq.Bd r N D) (h1 : N ≤ M) (h2 : D ≤ E) : Rq.Bd r M E := ⟨Nat.le_trans h.1 h1, Nat.le_trans h.2 h2⟩
def Sx (r : Rat) : Prop := Rq.Bd r 100 2
theorem dotS_small : ∀ (la lb : List Rat) (acc : Rat) (j : Nat), (∀ r ∈ la, Sh r) → (∀ r ∈ lb, Sx r) → Rq.Bd acc (KK ^ j) (KK ^ j) → j + la.length ≤ 5 → ∃ s, DotS acc la lb (some s) ∧ Rq.Bd s (KK ^ 5) (KK ^ 5)
 | [], lb, acc, j, _, _, hb, hj => ⟨acc, rfl, Bd.mono hb (kk_le (by simpa using hj)) (kk_le (by simpa using hj))⟩
 | _ :: _, [], acc, j, _, _, hb, hj => ⟨acc, rfl, Bd.mono hb (kk_le (by omega)) (kk_le (by omega))⟩
 | a :: la, b :: lb, acc, j, h1, h2, hb, hj => by
  have ha : Rq.Bd a (10 ^ 20) (10 ^ 20) := h1 a (by simp);have hb2 : Rq.Bd b 100 2 := h2 b (by simp);have hj : j + (la.length + 1) ≤ 5 := by simpa using hj
  have hs := kk_sh;have hab := Rq.bd_mul ha hb2;have hk : KK ^ (j + 1) = KK ^ j * KK := Nat.pow_succ ..;have c1 : KK ^ j * (10 ^ 20 * 2) ≤ KK ^ (j + 1) := by rw [hk]; exact Nat.mul_le_mul_left _ (by omega)
  have c2 : KK ^ j * (10 ^ 20 * 2) + KK ^ j * (10 ^ 20 * 100) ≤ KK ^ (j + 1) := by rw [hk, ← Nat.mul_add]; exact Nat.mul_le_mul_left _ hs
  have c3 : 10 ^ 20 * 100 * KK ^ j = KK ^ j * (10 ^ 20 * 100) := Nat.mul_comm ..;have hsum := Rq.bd_add hb hab;have n1 := Rq.bd_x hb hab;have n2 := Rq.bd_x hab hb;have n3 := Rq.bd_dd hb hab;have hp : KK ≤ KK ^ 1 := by rw [Nat.pow_one]; exact nl
  have hM : MulS a b := ⟨sm_kk (n := 1) (by omega) (by have := Rq.mul_bd ha.1 hb2.1; omega), sm_kk (n := 1) (by omega) (by have := Rq.bd_dd ha hb2; omega)⟩;have hA : AddS acc (a * b) := by
   refine ⟨⟨sm_kk (n := j + 1) (by omega) (by omega), sm_kk (n := j + 1) (by omega) (by omega)⟩, sm_kk (n := j + 1) (by omega) ?_, sm_kk (n := j + 1) (by omega) (by omega)⟩;omega
  obtain ⟨s, hs1, hs2⟩ := dotS_small la lb (acc + a * b) (j + 1) (fun r hr => h1 r (by simp [hr])) (fun r hr => h2 r (by simp [hr])) (Bd.mono hsum (by rw [c3]; exact c2) c1) (by omega);exact ⟨s, .inl ⟨hM, hA, hs1⟩, hs2⟩
theorem dotS_one : ∀ (la lb : List Rat) (acc : Rat) (o o' : Option Rat), DotS acc la lb o → DotS acc la lb o' → o = o'
 | [], _, acc, o, o', h, h' => by
  have h : o = some acc := h;have h' : o' = some acc := h';rw [h, h']
 | _ :: _, [], acc, o, o', h, h' => by
  have h : o = some acc := h;have h' : o' = some acc := h';rw [h, h']
 | a :: la, b :: lb, acc, o, o', h, h' => by
  rcases h with ⟨h1, h2, h⟩ | ⟨h1, h⟩
  ·rcases h' with ⟨_, _, h'⟩ | ⟨h3, _⟩
   ·exact dotS_one la lb _ o o' h h'
   ·exact absurd ⟨h1, h2⟩ h3
  ·rcases h' with ⟨h3, h4, _⟩ | ⟨_, h'⟩
   ·exact absurd ⟨h3, h4⟩ h1
   ·rw [h, h']
theorem bd_zero : Rq.Bd 0 (KK ^ 0) (KK ^ 0) := ⟨by rw [show ((0 : Rat).num) = 0 from rfl]; simp, by rw [show ((0 : Rat).den) = 1 from rfl]; simp⟩
theorem dot_small {la lb : List Rat} (h1 : ∀ r ∈ la, Sh r) (h2 : ∀ r ∈ lb, Sx r) (hl : la.length ≤ 5) : ∃ s, dotO la lb = some s ∧ Rq.Bd s (KK ^ 5) (KK ^ 5) := by
 obtain ⟨s, hs, hb⟩ := dotS_small la lb 0 0 h1 h2 bd_zero (by omega);exact ⟨s, dotS_one _ _ _ _ _ (dotO_spec la lb) hs, hb⟩
theorem dotS_zeros : ∀ (la : List Rat) (n : Nat), (∀ r ∈ la, Sh r) → DotS 0 la (List.replicate n 0) (some 0)
 | [], _, _ => by exact (rfl : some (0 : Rat) = some 0)
 | _ :: _, 0, _ => by exact (rfl : some (0 : Rat) = some 0)
 | a :: la, n + 1, h => by
  have ha := h a (by simp);rw [List.replicate_succ];have e : a * 0 = 0 := Rat.mul_zero a;have e2 : (0 : Rat) + 0 = 0 := Rat.add_zero 0;have hs := kk_sh;have hp : KK ≤ KK ^ 1 := by rw [Nat.pow_one]; exact nl
  refine .inl ⟨⟨sm_kk (n := 0) (by omega) ?_, sm_kk (n := 1) (by omega) ?_⟩, ?_, ?_⟩
  ·show (a.num * 0).natAbs ≤ _
   rw [Int.mul_zero]; simp
  ·show ((a.den : Int) * 1).natAbs ≤ _
   have := ha.2;rw [Int.mul_one, Int.natAbs_natCast]; omega
  ·rw [e];have z : Rq.Sm 0 := sm_kk (n := 0) (by omega) (by simp);have z1 : Rq.Sm 1 := sm_kk (n := 0) (by omega) (by simp);exact ⟨⟨z, z⟩, z, z1⟩
  ·rw [e, e2];exact dotS_zeros la n (fun r hr => h r (by simp [hr]))
theorem vals_zeros (p : Prg) : valsQ (zeros p) = List.replicate p.C.length 0 := by simp [valsQ, zeros, valO]
theorem sol_zero {p : Prg} (h : p.err = 0) : solErr p.rA p.rB (valsQ (zeros p)) = 0 := by
 rw [vals_zeros];unfold solErr;have h0 : (List.replicate p.C.length (0 : Rat)).any (fun r => decide (r.num < 0)) = false := by
  rw [List.any_eq_false];intro r hr;rw [List.eq_of_mem_replicate hr]; decide
 rw [h0, if_neg (by decide)];have hf := err_fit h;obtain ⟨sA, sB, _⟩ := err_sh h;refine rows_zero _ _ _ fun i hi => ?_
 have hl : i < p.rA.length := by rw [hf.rows]; exact hi
 have hm : p.rA.getD i [] ∈ p.rA := by
  rw [List.getD_eq_getElem?_getD, gE hl]; exact List.getElem_mem hl
 have hbm : p.rB.getD i 0 ∈ p.rB := by
  rw [List.getD_eq_getElem?_getD, gE hi]; exact List.getElem_mem hi
 have hd : dotO (p.rA.getD i []) (List.replicate p.C.length 0) = some 0 := dotS_one _ _ _ _ _ (dotO_spec _ _) (dotS_zeros _ _ (sA _ hm));obtain ⟨hsb, hb0⟩ := sB _ hbm;generalize p.rB.getD i 0 = b at *;have hs := kk_sh;have hp : KK ≤ KK ^ 1 := by rw [Nat.pow_one]; exact nl
 have hC : CrS 0 b := by
  refine ⟨sm_kk (n := 0) (by omega) ?_, sm_kk (n := 1) (by omega) ?_⟩
  ·show ((0 : Int) * b.den).natAbs ≤ _
   rw [Int.zero_mul]; simp
  ·show (b.num * 1).natAbs ≤ _
   have := hsb.1;rw [Int.mul_one]; omega
 have ha : agn (p.rA.getD i []) (List.replicate p.C.length 0) b = (0, Rq.cmpQ 0 b) := by
  unfold agn;rw [hd];exact if_pos hC
 have h1 : (agn (p.rA.getD i []) (List.replicate p.C.length 0) b).1 = 0 := by rw [ha]
 refine ⟨h1, ?_⟩;rw [← agn_le h1, ha];exact (cmp_le 0 b).2 hb0
theorem bad_zeros (p : Prg) : badQ (zeros p) = false := badQ_of fun x hx => by rw [List.eq_of_mem_replicate hx]; rfl
theorem len_zeros (p : Prg) : (zeros p).length = p.C.length := by simp [zeros]
structure SmallD (p : Prg) (x y : List Qo) : Prop where
 m : p.B.length ≤ 5
 n : p.C.length ≤ 5
 x : ∀ r, some r ∈ x → Sx r
 y : ∀ r, some r ∈ y → Sx r
section
variable {p : Prg} {x y : List Qo}
theorem cr_small {a b : Rat} (h1 : Rq.Bd a (KK ^ 5) (KK ^ 5)) (h2 : Rq.Bd b (KK ^ 5) (KK ^ 5)) : CrS a b := by
 have n1 := Rq.bd_x h1 h2;have n2 := Rq.bd_x h2 h1;have e : KK ^ 5 * KK ^ 5 = KK ^ 10 := by rw [← Nat.pow_add]
 rw [e] at n1 n2;exact ⟨sm_kk (n := 10) (by omega) n1, sm_kk (n := 10) (by omega) n2⟩
theorem sub_small {a b : Rat} (h1 : Rq.Bd a (KK ^ 5) (KK ^ 5)) (h2 : Rq.Bd b (KK ^ 5) (KK ^ 5)) : SubS a b := by
 have n1 := Rq.bd_x h1 h2;have n2 := Rq.bd_x h2 h1;have n3 := Rq.bd_dd h1 h2;have e : KK ^ 5 * KK ^ 5 = KK ^ 10 := by rw [← Nat.pow_add]
 have e2 : KK ^ 11 = KK ^ 10 * KK := Nat.pow_succ ..;have e3 : KK ^ 10 * 2 ≤ KK ^ 10 * KK := Nat.mul_le_mul_left _ kk_one;rw [e] at n1 n2 n3;exact ⟨cr_small h1 h2, sm_kk (n := 11) (by omega) (by omega), sm_kk (n := 10) (by omega) n3⟩
theorem unb_law (h : UnbP p x) : (bndR p y).1 ≠ 0 := by
 intro hb;have hc : chkErr p (zeros p) y = 0 := by
  unfold bndR at hb
  by_cases h0 : chkErr p (zeros p) y ≠ 0
  ·rw [if_pos h0] at hb; exact absurd hb h0
  ·simpa using h0
 obtain ⟨h1, h2, h3, h4, h5, h6, h7⟩ := h;have hp := chk_pri hc;have hf := err_fit h1;have hx : (valsQ x).length = p.rC.length := by rw [vals_length, h2, rC_len]
 refine Du.ray_none (x := fL (valsQ x)) (fun k _ => none_neg h4 k) (fun i hi => ?_) ?_ hp
 ·have := (agn_le (h5 i hi).1).1 (h5 i hi).2
  rwa [dot_row hf hx (by rw [rB_len]; exact hi), rC_len] at this
 ·have := (agn_gt h6).1 h7
  rwa [dot_two (by rw [hx]), rC_len] at this
end
end Go.Proofs.YtgfpbghgpdpepaaGreatDoor
