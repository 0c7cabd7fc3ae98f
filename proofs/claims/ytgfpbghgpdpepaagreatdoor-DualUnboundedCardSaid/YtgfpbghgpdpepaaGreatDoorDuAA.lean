/-
  The examples of the document, plain; lists of whole numbers.
-/
import Derived.Test.YtgfpbghgpdpepaaGreatDoorD6
set_option linter.unusedVariables false
set_option linter.unusedSimpArgs false
namespace Go.Proofs.YtgfpbghgpdpepaaGreatDoor
open Go.RowKit
def zq (l : List Int) : List Qo := l.map fun n : Int => some (n : Rat)
def zr (l : List Int) : List Rat := l.map fun n : Int => (n : Rat)
theorem vals_zq (l : List Int) : valsQ (zq l) = zr l := by
 unfold valsQ zq zr;rw [List.map_map]; rfl
theorem zq_map (l : List Int) : zq l = (zr l).map some := by
 unfold zq zr;rw [List.map_map]; rfl
theorem bad_zq (l : List Int) : badQ (zq l) = false := badQ_of fun x hx => by
 obtain ⟨n, _, rfl⟩ := List.mem_map.1 hx; rfl
theorem len_zq (l : List Int) : (zq l).length = l.length := by simp [zq]
theorem short_int {n : Int} (h : n.natAbs < 10) : shortB (n : Rat) = true := by
 unfold shortB;rw [Rat.num_intCast, Rat.den_intCast, Lib.decDigits_one h, Lib.decDigits_one (by decide)]
 rfl
theorem long_zq {l : List Int} (h : ∀ n ∈ l, n.natAbs < 10) : ∀ x ∈ zq l, longO x = false := by
 intro x hx;obtain ⟨n, hn, rfl⟩ := List.mem_map.1 hx;simp [longO, short_int (h n hn)]
theorem sx_int {n : Int} (h : n.natAbs ≤ 100) : Sx (n : Rat) := ⟨by rw [Rat.num_intCast]; exact h, by rw [Rat.den_intCast]; decide⟩
theorem sx_zr {l : List Int} (h : ∀ n ∈ l, n.natAbs ≤ 100) : ∀ r ∈ zr l, Sx r := by
 intro r hr;obtain ⟨n, hn, rfl⟩ := List.mem_map.1 hr;exact sx_int (h n hn)
theorem Sx.sh {r : Rat} (h : Sx r) : Sh r := ⟨Nat.le_trans h.1 (by decide), Nat.le_trans h.2 (by decide)⟩
theorem Sx.kk {r : Rat} (h : Sx r) : Rq.Bd r (KK ^ 5) (KK ^ 5) := by
 have hs := kk_sh;have h1 : KK ≤ KK ^ 5 := by have := kk_le (i := 1) (j := 5) (by omega); rwa [Nat.pow_one] at this
 exact ⟨Nat.le_trans h.1 (by omega), Nat.le_trans h.2 (by omega)⟩
theorem agn_small {la lb : List Rat} {b : Rat} (hl : la.length ≤ 5) (h1 : ∀ r ∈ la, Sx r) (h2 : ∀ r ∈ lb, Sx r) (h3 : Sx b) : agn la lb b = (0, Rq.cmpQ (Du.dotR la lb) b) := by
 obtain ⟨s, hs, hb⟩ := dot_small (fun r hr => (h1 r hr).sh) h2 hl;have e := dotO_val hs;unfold agn;rw [hs];have := cr_small hb h3.kk;simp only [if_pos this, e]
theorem dot_zr {la lb : List Int} (hl : la.length ≤ 5) (h1 : ∀ n ∈ la, n.natAbs ≤ 100) (h2 : ∀ n ∈ lb, n.natAbs ≤ 100) : ∃ s, dotO (zr la) (zr lb) = some s ∧ Rq.Bd s (KK ^ 5) (KK ^ 5) ∧ s = Du.dotR (zr la) (zr lb) := by
 obtain ⟨s, hs, hb⟩ := dot_small (fun r hr => (sx_zr h1 r hr).sh) (sx_zr h2) (by simpa [zr] using hl);exact ⟨s, hs, hb, dotO_val hs⟩
theorem agn_zr {la lb : List Int} {b : Int} (hl : la.length ≤ 5) (h1 : ∀ n ∈ la, n.natAbs ≤ 100) (h2 : ∀ n ∈ lb, n.natAbs ≤ 100) (h3 : b.natAbs ≤ 100) : agn (zr la) (zr lb) (b : Rat) = (0, Rq.cmpQ (Du.dotR (zr la) (zr lb)) (b : Rat)) :=
 agn_small (by simpa [zr] using hl) (sx_zr h1) (sx_zr h2) (sx_int h3)
def dotZ : List Int → List Int → Int
 | a :: l, b :: m => a * b + dotZ l m
 | _, _ => 0
theorem dot_int : ∀ (l m : List Int), Du.dotR (zr l) (zr m) = ((dotZ l m : Int) : Rat)
 | [], _ => by unfold zr; simp only [List.map_nil, Du.dotR, dotZ]; rfl
 | _ :: _, [] => by unfold zr; simp only [List.map_nil, List.map_cons, Du.dotR, dotZ]; rfl
 | a :: l, b :: m => by
  have := dot_int l m;unfold zr at *;simp only [List.map_cons, Du.dotR, dotZ];rw [this, Rat.intCast_add, Rat.intCast_mul]
def sgnZ (x y : Int) : Int := if x < y then -1 else if y < x then 1 else 0
theorem cmp_int (x y : Int) : Rq.cmpQ (x : Rat) (y : Rat) = sgnZ x y := by
 unfold Rq.cmpQ sgnZ;simp only [Rat.intCast_lt_intCast]
theorem agn_int {la lb : List Int} {b : Int} (hl : la.length ≤ 5) (h1 : ∀ n ∈ la, n.natAbs ≤ 100) (h2 : ∀ n ∈ lb, n.natAbs ≤ 100) (h3 : b.natAbs ≤ 100) : agn (zr la) (zr lb) (b : Rat) = (0, sgnZ (dotZ la lb) b) := by
 rw [agn_zr hl h1 h2 h3, dot_int, cmp_int]
def zP (A : List (List Int)) (B C : List Int) : Prg := ⟨A.map zq, zq B, zq C⟩
theorem zP_rA (A : List (List Int)) (B C : List Int) : (zP A B C).rA = A.map zr := by
 unfold Prg.rA zP;rw [List.map_map];exact List.map_congr_left fun r _ => vals_zq r
theorem zP_rB (A : List (List Int)) (B C : List Int) : (zP A B C).rB = zr B := vals_zq B
theorem zP_rC (A : List (List Int)) (B C : List Int) : (zP A B C).rC = zr C := vals_zq C
theorem zP_err {A : List (List Int)} {B C : List Int} (h1 : 0 < B.length ∧ B.length ≤ 14 ∧ 0 < C.length ∧ C.length ≤ 400 ∧ A.length = B.length) (h2 : ∀ r ∈ A, r.length = C.length) (hA : ∀ r ∈ A, ∀ n ∈ r, n.natAbs < 10) (hB : ∀ n ∈ B, n.natAbs < 10 ∧ 0 ≤ n) (hC : ∀ n ∈ C, n.natAbs < 10) : (zP A B C).err = 0 := by
 have hall : numErr (zP A B C).all = 0 := by
  refine numErr_ok (fun x hx => ?_) (fun x hx => ?_)
  ·rcases List.mem_append.1 hx with hx | hx
   ·rcases List.mem_append.1 hx with hx | hx
    ·obtain ⟨l, hl, hx⟩ := List.mem_flatten.1 hx;obtain ⟨r, hr, rfl⟩ := List.mem_map.1 hl;obtain ⟨n, _, rfl⟩ := List.mem_map.1 hx; rfl
    ·obtain ⟨n, _, rfl⟩ := List.mem_map.1 hx; rfl
   ·obtain ⟨n, _, rfl⟩ := List.mem_map.1 hx; rfl
  ·rcases List.mem_append.1 hx with hx | hx
   ·rcases List.mem_append.1 hx with hx | hx
    ·obtain ⟨l, hl, hx⟩ := List.mem_flatten.1 hx;obtain ⟨r, hr, rfl⟩ := List.mem_map.1 hl;exact long_zq (hA r hr) x hx
    ·exact long_zq (fun n hn => (hB n hn).1) x hx
   ·exact long_zq hC x hx
 have hneg : negQ (zP A B C).B = false := by
  unfold negQ;rw [List.any_eq_false];intro x hx;obtain ⟨n, hn, rfl⟩ := List.mem_map.1 hx
  show ¬ (decide ((n : Rat).num < 0) = true)
  rw [decide_eq_true_eq, Rat.num_intCast];have := (hB n hn).2;omega
 rw [err_rest, hall, hneg]
 ·rfl
 ·simp only [zP, len_zq, List.length_map]; omega
 ·intro r hr;obtain ⟨l, hl, rfl⟩ := List.mem_map.1 hr;simp only [zP, len_zq]; exact h2 l hl
theorem any_negR {l : List Int} (h : ∀ n ∈ l, 0 ≤ n) : (zr l).any negR = false := by
 rw [List.any_eq_false];intro x hx;obtain ⟨n, hn, rfl⟩ := List.mem_map.1 hx
 show ¬ (decide ((n : Rat).num < 0) = true)
 rw [decide_eq_true_eq, Rat.num_intCast];have := h n hn;omega
def pA : Prg := zP [[1, 1], [1, 0]] [4, 3] [3, 2]
def qA : Prg := zP [[-1, 1]] [0] [3, 2]
theorem pA_err : pA.err = 0 := zP_err (by decide) (by decide) (by decide) (by decide) (by decide)
theorem qA_err : qA.err = 0 := zP_err (by decide) (by decide) (by decide) (by decide) (by decide)
theorem pA_sol : solErr pA.rA pA.rB (zr [3, 1]) = 0 := by
 unfold solErr;rw [show ((zr [3, 1]).any fun r => decide (r.num < 0)) = false from any_negR (by decide), if_neg (by decide)]
 show rowsErr ((zP _ _ _).rA) ((zP _ _ _).rB) _ = 0
 rw [zP_rA, zP_rB]
 show rowsErr [zr [1, 1], zr [1, 0]] [((4 : Int) : Rat), ((3 : Int) : Rat)] (zr [3, 1]) = 0
 rw [rowsErr, agn_int (by decide) (by decide) (by decide) (by decide), rowsErr, agn_int (by decide) (by decide) (by decide) (by decide), rowsErr]
 all_goals first | decide | simp
theorem sgn_ge {x y : Int} (h : y ≤ x) : ¬ sgnZ x y < 0 := by
 unfold sgnZ
 split
 ·omega
 ·split <;> omega
theorem col0 : colR [zr [1, 1], zr [1, 0]] 0 = zr [1, 1] := rfl
theorem col1 : colR [zr [1, 1], zr [1, 0]] 1 = zr [1, 0] := rfl
theorem pA_pri {a b : Int} (ha : a.natAbs ≤ 100) (hb : b.natAbs ≤ 100) (h0 : 0 ≤ a) (h1 : 0 ≤ b) (h2 : 3 ≤ a + b) (h3 : 2 ≤ a) : priErr pA.rA pA.rC (zr [a, b]) = 0 := by
 unfold priErr;have hab : ∀ n ∈ [a, b], n.natAbs ≤ 100 := by intro n hn; simp at hn; rcases hn with rfl | rfl <;> assumption
 rw [show ((zr [a, b]).any fun r => decide (r.num < 0)) = false from any_negR (by intro n hn; simp at hn; rcases hn with rfl | rfl <;> assumption), if_neg (by decide)]
 show colsErr ((zP _ _ _).rA) _ 0 ((zP _ _ _).rC) = 0
 rw [zP_rA, zP_rC]
 show colsErr [zr [1, 1], zr [1, 0]] (zr [a, b]) 0 [((3 : Int) : Rat), ((2 : Int) : Rat)] = 0
 rw [colsErr, col0, agn_int (by decide) (by decide) hab (by decide), colsErr, col1, agn_int (by decide) (by decide) hab (by decide), colsErr];have e0 : dotZ [1, 1] [a, b] = a + b := by simp [dotZ]
 have e1 : dotZ [1, 0] [a, b] = a := by simp [dotZ]
 rw [e0, e1];simp only;rw [if_neg (by simp), if_neg (sgn_ge h2), if_neg (by simp), if_neg (sgn_ge h3)]
theorem pA_chk {a b : Int} (ha : a.natAbs ≤ 100) (hb : b.natAbs ≤ 100) (h0 : 0 ≤ a) (h1 : 0 ≤ b) (h2 : 3 ≤ a + b) (h3 : 2 ≤ a) : chkErr pA (zq [3, 1]) (zq [a, b]) = 0 := by
 rw [chk_of (x := zq [3, 1]) (y := zq [a, b]) pA_err rfl rfl (bad_zq _) (bad_zq _) (by rw [vals_zq]; exact pA_sol), vals_zq];exact pA_pri ha hb h0 h1 h2 h3
theorem pA_gap {a b : Int} (ha : a.natAbs ≤ 100) (hb : b.natAbs ≤ 100) (h0 : 0 ≤ a) (h1 : 0 ≤ b) (h2 : 3 ≤ a + b) (h3 : 2 ≤ a) : gapR pA (zq [3, 1]) (zq [a, b]) = (0, ((4 * a + 3 * b - 11 : Int) : Rat)) ∧ dotO (valsQ pA.B) (valsQ (zq [a, b])) = some ((4 * a + 3 * b : Int) : Rat) := by
 have hab : ∀ n ∈ [a, b], n.natAbs ≤ 100 := by intro n hn; simp at hn; rcases hn with rfl | rfl <;> assumption
 obtain ⟨s, hs, bs, es⟩ := dot_zr (la := [3, 2]) (lb := [3, 1]) (by decide) (by decide) (by decide);obtain ⟨t, ht, bt, et⟩ := dot_zr (la := [4, 3]) (lb := [a, b]) (by decide) (by decide) hab;rw [dot_int] at es et;have e1 : dotO (valsQ pA.C) (valsQ (zq [3, 1])) = some s := by rw [vals_zq]; show dotO (valsQ (zq _)) _ = _; rw [vals_zq]; exact hs
 have e2 : dotO (valsQ pA.B) (valsQ (zq [a, b])) = some t := by rw [vals_zq]; show dotO (valsQ (zq _)) _ = _; rw [vals_zq]; exact ht
 have e3 : dotZ [4, 3] [a, b] = 4 * a + 3 * b := by simp [dotZ]
 have e4 : dotZ [3, 2] [3, 1] = 11 := by decide
 rw [gap_ok (pA_chk ha hb h0 h1 h2 h3) e1 e2 (sub_small bt bs), e2, et, es, e3, e4];refine ⟨?_, rfl⟩;rw [Rat.intCast_sub]
theorem aw_opt : optB pA (zq [3, 1]) (zq [2, 1]) (some ((11 : Int) : Rat)) = true := by
 rw [opt_eq (K1 := 0) (K2 := 0) (c1 := 0) (c2 := 0) (pA_chk (by decide) (by decide) (by decide) (by decide) (by decide) (by decide))]
 ·rfl
 ·rw [vals_zq]; show agn (valsQ (zq _)) _ _ = _; rw [vals_zq, agn_int (by decide) (by decide) (by decide) (by decide)]; decide
 ·rw [vals_zq]; show agn (valsQ (zq _)) _ _ = _; rw [vals_zq, agn_int (by decide) (by decide) (by decide) (by decide)]; decide
open Classical in
theorem aw_slack : slackB pA (zq [3, 1]) (zq [2, 1]) = true := by
 have h := (pA_gap (a := 2) (b := 1) (by decide) (by decide) (by decide) (by decide) (by decide) (by decide)).1;unfold slackB;refine decide_eq_true ((slack_gap (by rw [h])).2 (by rw [h]; decide))
theorem aw_gap : gapR pA (zq [3, 1]) (zq [3, 0]) = (0, ((1 : Int) : Rat)) := (pA_gap (a := 3) (b := 0) (by decide) (by decide) (by decide) (by decide) (by decide) (by decide)).1
theorem aw_bnd : bndR pA (zq [3, 0]) = (0, ((12 : Int) : Rat)) := by
 have h := (pA_gap (a := 3) (b := 0) (by decide) (by decide) (by decide) (by decide) (by decide) (by decide)).2;refine bnd_ok ?_ h;rw [chk_of (x := zeros pA) (y := zq [3, 0]) pA_err (len_zeros _) rfl (bad_zeros _) (bad_zq _) (sol_zero pA_err), vals_zq];exact pA_pri (by decide) (by decide) (by decide) (by decide) (by decide) (by decide)
theorem aw_unb : unbB qA (zq [1, 0]) = true := by
 refine unb_yes ⟨qA_err, rfl, bad_zq _, by rw [vals_zq]; exact any_negR (by decide), fun i hi => ?_, ?_⟩
 ·have hi : i < 1 := hi;obtain rfl : i = 0 := by omega
  rw [vals_zq]
  show (agn ((zP _ _ _).rA.getD 0 []) _ _).1 = 0 ∧ (agn ((zP _ _ _).rA.getD 0 []) _ _).2 ≤ 0
  rw [zP_rA]
  show (agn (zr [-1, 1]) _ ((0 : Int) : Rat)).1 = 0 ∧ (agn (zr [-1, 1]) _ ((0 : Int) : Rat)).2 ≤ 0
  rw [agn_int (by decide) (by decide) (by decide) (by decide)]
  decide
 ·rw [vals_zq]
  show (agn ((zP _ _ _).rC) _ _).1 = 0 ∧ 0 < (agn ((zP _ _ _).rC) _ _).2
  rw [zP_rC]
  show (agn (zr [3, 2]) _ ((0 : Int) : Rat)).1 = 0 ∧ 0 < (agn (zr [3, 2]) _ ((0 : Int) : Rat)).2
  rw [agn_int (by decide) (by decide) (by decide) (by decide)]
  decide
theorem aw_unb2 : unbB pA (zq [1, 0]) = false := by
 refine unb_no fun h => ?_
 have h := h.2.2.2.2.1 0 (by decide);rw [vals_zq] at h;have h : (agn ((zP _ _ _).rA.getD 0 []) _ ((0 : Int) : Rat)).1 = 0 ∧ (agn ((zP _ _ _).rA.getD 0 []) _ ((0 : Int) : Rat)).2 ≤ 0 := h;rw [zP_rA] at h;have h : (agn (zr [1, 1]) _ ((0 : Int) : Rat)).1 = 0 ∧ (agn (zr [1, 1]) _ ((0 : Int) : Rat)).2 ≤ 0 := h;rw [agn_int (by decide) (by decide) (by decide) (by decide)] at h;exact absurd h (by decide)
theorem aw_itoa {n : Nat} (h : n < 10) : Lib.itoa (n : Int) = [UInt8.ofNat (48 + n)] := by rw [itoa_nat, Lib.decDigits_one h]
theorem itoa_11 : Lib.itoa 11 = [49, 49] := by
 have : Lib.itoa ((11 : Nat) : Int) = [49, 49] := by rw [itoa_nat, Lib.decDigits_two (by decide) (by decide)]; rfl
 exact this
theorem text_int (n : Int) : textO (some (n : Rat)) = Lib.itoa n := by
 show Rq.textQ (n : Rat) = _
 rw [Rq.textQ_one (Rat.den_intCast n), Rat.num_intCast]
theorem tx_zq (l : List Int) : txT (zq l) = joinT [32] (l.map Lib.itoa) := by
 unfold txT;rw [bad_zq, if_neg (by decide)]
 congr 1
 unfold zq;rw [List.map_map];exact List.map_congr_left fun n _ => text_int n
theorem aw_fmE : fmE (some ((11 : Int) : Rat)) (zq [3, 1]) (zq [2, 1]) = 0 := by
 unfold fmE;rw [any_no (l := [[some ((11 : Int) : Rat)], zq [3, 1], zq [2, 1]]) (by
  intro x hx;simp only [List.mem_cons, List.not_mem_nil, or_false] at hx;rcases hx with rfl | rfl | rfl
  ·exact bad_zq [11]
  ·exact bad_zq _
  ·exact bad_zq _)]
 rfl
theorem aw_fmT : fmT (some ((11 : Int) : Rat)) (zq [3, 1]) (zq [2, 1]) = [49, 49, 59, 32, 51, 32, 49, 59, 32, 50, 32, 49] := by
 unfold fmT;rw [any_no (l := [[some ((11 : Int) : Rat)], zq [3, 1], zq [2, 1]]) (by
  intro x hx;simp only [List.mem_cons, List.not_mem_nil, or_false] at hx;rcases hx with rfl | rfl | rfl
  ·exact bad_zq [11]
  ·exact bad_zq _
  ·exact bad_zq _)]
 show joinT [59, 32] [txT (zq [11]), txT (zq [3, 1]), txT (zq [2, 1])] = _
 rw [tx_zq, tx_zq, tx_zq];simp only [List.map_cons, List.map_nil];rw [itoa_11, show Lib.itoa 3 = [51] from aw_itoa (n := 3) (by decide), show Lib.itoa 1 = [49] from aw_itoa (n := 1) (by decide), show Lib.itoa 2 = [50] from aw_itoa (n := 2) (by decide)]
 rfl
end Go.Proofs.YtgfpbghgpdpepaaGreatDoor
