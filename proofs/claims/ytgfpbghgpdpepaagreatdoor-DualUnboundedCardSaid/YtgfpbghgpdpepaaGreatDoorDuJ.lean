/-
  The error of a program in the reference.
-/
import Derived.Test.YtgfpbghgpdpepaaGreatDoorD3
import Derived.Test.YtgfpbghgpdpepaaGreatDoorDF
set_option linter.unusedVariables false
set_option linter.unusedSimpArgs false
set_option maxRecDepth 100000
set_option maxHeartbeats 25600000
namespace Go.Proofs.YtgfpbghgpdpepaaGreatDoor
open Go.RowKit
theorem err_arity {p : Prg} (h : p.B.length < 1 ∨ 14 < p.B.length ∨ p.C.length < 1 ∨ 400 < p.C.length ∨ p.A.length ≠ p.B.length) : p.err = 6 := by
 unfold Prg.err; rw [if_pos h]
theorem err_row {p : Prg} {r : List Qo} (hr : r ∈ p.A) (h : r.length ≠ p.C.length) : p.err = 6 := by
 unfold Prg.err
 split
 ·rfl
 ·have : p.A.any (fun r => r.length != p.C.length) = true := by rw [List.any_eq_true]; exact ⟨r, hr, by simpa using h⟩
  rw [if_pos this]
theorem err_rest {p : Prg} (h : ¬ (p.B.length < 1 ∨ 14 < p.B.length ∨ p.C.length < 1 ∨ 400 < p.C.length ∨ p.A.length ≠ p.B.length)) (hr : ∀ r ∈ p.A, r.length = p.C.length) :
  p.err = if numErr p.all ≠ 0 then numErr p.all else if negQ p.B then 7 else 0 := by
 unfold Prg.err;have : p.A.any (fun r => r.length != p.C.length) = false := by rw [List.any_eq_false]; intro r h'; simp [hr r h']
 rw [if_neg h, this]; rfl
theorem flat_len {l : List (List Qo)} {n : Nat} (h : ∀ r ∈ l, r.length = n) : l.flatten.length = l.length * n := by
 induction l with
 | nil => simp
 | cons r l ih =>
  rw [List.flatten_cons, List.length_append, ih (fun x hx => h x (by simp [hx])), h r (by simp), List.length_cons, Nat.add_mul]; omega
theorem numErr_zero {l : List Qo} (h : numErr l = 0) : ∀ x ∈ l, x.isNone = false := by
 unfold numErr at h;intro x hx
 split at h
 ·cases h
 ·next hb =>
  have : badQ l = false := by simpa using hb
  unfold badQ at this;rw [List.any_eq_false] at this;have := this x hx
  cases x with
  | none => simp at this
  | some r => rfl
theorem rValid13_any (p : Prg) (v : Value) (w : World) (h : PrgV w v p) (hE : Env w) :
  Calls Tryz.prog 29 #[v] w fun e w' => e = .returned (.int .i64 p.err) ∧ Below w.heap.size w w' := by
 obtain ⟨aA, cA, aB, cB, aC, cC, rfl, uA, uB, uC⟩ := h;go_enter Tryz.func29, Tryz.ntmps29;go_upto_region 1 with fail;have hb0 := bA w (.cells #[.slice aA p.A.length cA, .slice aB p.B.length cB, .slice aC p.C.length cC] 29);have rA : Row (w.alloc (.cells #[.slice aA p.A.length cA, .slice aB p.B.length cB, .slice aC p.C.length cC] 29)) w.heap.size 29 [.slice aA p.A.length cA, .slice aB p.B.length cB, .slice aC p.C.length cC] := heap_alloc_new _ _;obtain ⟨g, hg⟩ := exi (w.heap.size);rw [← hg] at rA ⊢;have Hg := hii hg;clear hg;generalize w.alloc (.cells #[.slice aA p.A.length cA, .slice aB p.B.length cB, .slice aC p.C.length cC] 29) = w1 at *;have HA := hii (uA.mono hb0);have HB := hii (uB.mono hb0);have HCC := hii (uC.mono hb0);have hE := hE.mono hb0;have Hb0 := hii hb0;clear uA uB uC hb0;refine wp_region_use (wx := w1) [(fun _ v => v = .pointer (some ⟨g, 1, none⟩)), (fun _ v => v = .slice aB p.B.length cB), (fun _ v => v = .int .i64 p.B.length), (fun _ v => v = .pointer (some ⟨g, 2, none⟩)), (fun _ v => v = .slice aC p.C.length cC), (fun _ v => v = .int .i64 p.C.length), (fun _ v => v = .int .i64 p.B.length), (fun _ v => v = .int .i64 p.C.length)] [none, none, none, none, none, none, none, none] [true, true, true, true, true, true, true, true] [some 9, some 10, some 11, some 12, some 13, some 14, some 3, some 4] [9, 10, 11, 12, 13, 14, 3, 4] 0 0 (fun _ _ => True) (by decide) (by kernel_rfl) (by kernel_rfl) (by kernel_rfl) (by kernel_rfl) (of_decide_eq_true (by kernel_rfl)) (by kernel_rfl) (by kernel_rfl) (trivial) (fun _ _ _ h _ => h) br ⟨sV _, sV _, sV _, sV _, sV _, sV _, sV _, sV _, trivial⟩ ⟨fun _ => cV _, fun _ => cV _, fun _ => cV _, fun _ => cV _, fun _ => cV _, fun _ => cV _, fun _ => cV _, fun _ => cV _, trivial⟩ ⟨?s0, ?s1, ?s2, ?s3, ?s4, ?s5, ?s6, ?s7, trivial⟩ ?he
 case s0 =>
  rintro T W hb hp hA K hK;have hp := hp rfl;simp only [ovr, Act.put, sT, sZ, sS] at hK ⊢;have HK := hii hK;clear hK hA;refine wO rfl (by rfl) ?_;go_simp;exact HK.out _ _ ⟨hb, fun _ => br⟩ (rfl)
 case s1 =>
  rintro T W hb hp hA K hK;have e0 : T 9 = .pointer (some ⟨g, 1, none⟩) := hA.1 (by decide);have hp := trivial;obtain ⟨x0, x1, x2⟩ := (rA.below hb).n3;simp only [ovr, Act.put, sT, sZ, sS, e0] at hK ⊢;have HK := hii hK;clear hK hA;refine wO rfl (by rfl) ?_;go_simp;exact HK.out _ _ ⟨hb, fun _ => br⟩ (rfl)
 case s2 =>
  rintro T W hb hp hA K hK;have e1 : T 10 = .slice aB p.B.length cB := hA.1 (by decide);have hp := trivial;simp only [ovr, Act.put, sT, sZ, sS, e1] at hK ⊢;have HK := hii hK;clear hK hA;refine wO rfl (by rfl) ?_;go_simp;exact HK.out _ _ ⟨hb, fun _ => br⟩ (rfl)
 case s3 =>
  rintro T W hb - hA K hK;simp only [ovr, Act.put, sT, sZ, sS] at hK ⊢;have HK := hii hK;clear hK hA;refine wO rfl (by rfl) ?_;go_simp;exact HK.out _ _ ⟨hb, fun _ => br⟩ (rfl)
 case s4 =>
  rintro T W hb hp hA K hK;have e3 : T 12 = .pointer (some ⟨g, 2, none⟩) := hA.1 (by decide);have hp := trivial;obtain ⟨x0, x1, x2⟩ := (rA.below hb).n3;simp only [ovr, Act.put, sT, sZ, sS, e3] at hK ⊢;have HK := hii hK;clear hK hA;refine wO rfl (by rfl) ?_;go_simp;exact HK.out _ _ ⟨hb, fun _ => br⟩ (rfl)
 case s5 =>
  rintro T W hb hp hA K hK;have e4 : T 13 = .slice aC p.C.length cC := hA.1 (by decide);have hp := trivial;simp only [ovr, Act.put, sT, sZ, sS, e4] at hK ⊢;have HK := hii hK;clear hK hA;refine wO rfl (by rfl) ?_;go_simp;exact HK.out _ _ ⟨hb, fun _ => br⟩ (rfl)
 case s6 =>
  rintro T W hb hp hA K hK;have e2 : T 11 = .int .i64 p.B.length := hA.1 (by decide);have e0 : T 9 = .pointer (some ⟨g, 1, none⟩) := hA.2.1 (by decide);have e1 : T 10 = .slice aB p.B.length cB := hA.2.2.1 (by decide);have hp := trivial;simp only [ovr, Act.put, sT, sZ, sS, e2, e0, e1] at hK ⊢;have HK := hii hK;clear hK hA;refine wO rfl (by rfl) ?_;go_simp;exact HK.out _ _ ⟨hb, fun _ => br⟩ (rfl)
 case s7 =>
  rintro T W hb hp hA K hK;have e5 : T 14 = .int .i64 p.C.length := hA.1 (by decide);have e6 : T 3 = .int .i64 p.B.length := hA.2.1 (by decide);have e0 : T 9 = .pointer (some ⟨g, 1, none⟩) := hA.2.2.1 (by decide);have e1 : T 10 = .slice aB p.B.length cB := hA.2.2.2.1 (by decide);have e2 : T 11 = .int .i64 p.B.length := hA.2.2.2.2.1 (by decide);have e3 : T 12 = .pointer (some ⟨g, 2, none⟩) := hA.2.2.2.2.2.1 (by decide);have e4 : T 13 = .slice aC p.C.length cC := hA.2.2.2.2.2.2.1 (by decide);have hp := trivial;simp only [ovr, Act.put, sT, sZ, sS, e5, e6, e0, e1, e2, e3, e4] at hK ⊢;have HK := hii hK;clear hK hA;refine wO rfl (by rfl) ?_;go_simp;exact HK.out _ _ ⟨hb, fun _ => br⟩ (rfl)
 case he =>
  rintro T W hb hA;have f6 : T 3 = .int .i64 p.B.length := hA.of 6 (by decide) (by decide);have f7 : T 4 = .int .i64 p.C.length := hA.of 7 (by decide) (by decide);have hbw := Hb0.out.trans (hb.mono Hb0.out.size);have HA := hii (HA.out.mono hb);have HB := hii (HB.out.mono hb);have HCC := hii (HCC.out.mono hb);have hE := hE.mono hb;have rA := rA.below hb;obtain ⟨x0, x1, x2⟩ := rA.n3;simp only [ovr, sT, sZ, sS, f6, f7];clear hA f6 f7 hb;obtain ⟨wl, rfl⟩ := exi W
  by_cases h1 : p.B.length < 1
  ·have g1 : (p.B.length : Int) < 1 := by omega
   go_wp2;go_ret;exact ⟨by rw [err_arity (by omega)]; rfl, hbw⟩
  have g1 : ¬ (p.B.length : Int) < 1 := by omega
  by_cases h2 : 14 < p.B.length
  ·have g2 : (14 : Int) < (p.B.length : Int) := by omega
   go_wp2;go_ret;exact ⟨by rw [err_arity (by omega)]; rfl, hbw⟩
  have g2 : ¬ (14 : Int) < (p.B.length : Int) := by omega
  by_cases h3 : p.C.length < 1
  ·have g3 : (p.C.length : Int) < 1 := by omega
   go_wp2;go_ret;exact ⟨by rw [err_arity (by omega)]; rfl, hbw⟩
  have g3 : ¬ (p.C.length : Int) < 1 := by omega
  by_cases h4 : 400 < p.C.length
  ·have g4 : (400 : Int) < (p.C.length : Int) := by omega
   go_wp2;go_ret;exact ⟨by rw [err_arity (by omega)]; rfl, hbw⟩
  have g4 : ¬ (400 : Int) < (p.C.length : Int) := by omega
  by_cases h5 : p.A.length ≠ p.B.length
  ·have g5 : ((p.A.length : Int) != (p.B.length : Int)) = true := by rw [bne_iff_ne]; omega
   go_wp2;go_ret;exact ⟨by rw [err_arity (by omega)]; rfl, hbw⟩
  have g5 : ((p.A.length : Int) != (p.B.length : Int)) = false := by rw [bne_eq_false_iff_eq]; omega
  have hm : p.A.length = p.B.length := by omega
  have hml : p.B.length ≤ 14 := by omega
  have hnl : p.C.length ≤ 400 := by omega
  have hn1 : 0 < p.C.length := by omega
  have hm1 : 0 < p.B.length := by omega
  have H0 : Hid (¬ (p.B.length < 1 ∨ 14 < p.B.length ∨ p.C.length < 1 ∨ 400 < p.C.length ∨ p.A.length ≠ p.B.length)) := hii (by omega);go_wp2_with fail;clear g1 g2 g3 g4 g5 h1 h2 h3 h4 h5;go_loopw [5, 6] (fun s c wr => ∃ k : Nat, k ≤ p.B.length ∧ c = .int .i64 k ∧ OwnO wr wl.heap.size s (p.A.take k).flatten ∧ Hid (∀ r ∈ p.A.take k, r.length = p.C.length) ∧ Below wl.heap.size wl wr) (fun _ c _ => p.B.length - (intOf c).toNat)
  case atStart => exact ⟨0, Nat.zero_le _, rfl, OwnO.nil _ _, hii (by simp), br⟩
  case round =>
   obtain ⟨k, hk, rfl, hown, HR, hbr⟩ := hrel
   by_cases hlt : k < p.B.length
   ·obtain ⟨row, hrow⟩ : ∃ x, p.A[k]? = some x := ⟨p.A[k]'(by omega), gE (by omega)⟩;obtain ⟨b0, off0, ar, cr, ea, hc, uR⟩ := (HA.out.mono hbr) k row hrow;have HF := hii (flat_snoc hrow);have HRow := hii hrow;have hfl : (p.A.take k).flatten.length = (p.A.take k).length * p.C.length := flat_len HR.out;have hfl2 : (p.A.take k).flatten.length ≤ 14 * 400 := by
     rw [hfl]; exact Nat.mul_le_mul (by simp; omega) hnl
    have HFL := hii hfl2;clear hrow hfl hfl2;subst ea;clear x0 x1 x2;obtain ⟨x0, x1, x2⟩ := (rA.below hbr).n3;have hlA : k < p.A.length := by omega
    by_cases hl : row.length = p.C.length
    ·have g1 : ((row.length : Int) != (p.C.length : Int)) = false := by rw [bne_eq_false_iff_eq]; omega
     have HL := hii hl;have hne : 0 < row.length := by omega
     have hll : (p.A.take k).flatten.length + row.length ≤ 1000000 := by have := HFL.out; omega
     have HLL := hii hll;clear hl hll;go_wp2_with (at_builtin; refine app_os _ wl wl.heap.size _ (p.A.take k).flatten row ar cr rfl _ _ rfl rfl rfl hown hbr.size hbr uR hne HLL.out ?_; intro v2 w2 hown2 hbel2 hsz2 hgr);go_roundw
     case rel => exact ⟨k + 1, by omega, by go_num, by rw [HF.out]; exact hown2, hii (take_all HRow.out HR.out HL.out), hbel2⟩
     case measure => simp [intOf]; omega
    ·have g1 : ((row.length : Int) != (p.C.length : Int)) = true := by rw [bne_iff_ne]; omega
     have HL := hii hl;clear hl;have hbw := bu hbw hbr;go_wp2;go_ret;exact ⟨by rw [err_row (List.mem_of_getElem? HRow.out) HL.out]; rfl, hbw⟩
   ·obtain rfl : k = p.B.length := by omega
    have e0 : p.A.take p.B.length = p.A := by rw [← hm]; exact List.take_length
    rw [e0] at hown HR;have hfl : p.A.flatten.length = p.A.length * p.C.length := flat_len HR.out;have hfl2 : p.A.flatten.length ≤ 14 * 400 := by
     rw [hfl]; exact Nat.mul_le_mul (by omega) hnl
    have HFL := hii hfl2;clear e0 hfl hfl2 hk hlt;have hown0 := hown;obtain ⟨ao, cap, rfl, _⟩ := hown0.read;go_upto_region 11 with fail;refine wp_region_use (wx := wl) [(fun W v => OwnO W wl.heap.size v p.A.flatten), (fun _ v => v = .pointer (some ⟨g, 1, none⟩)), (fun _ v => v = .slice aB p.B.length cB), (fun W v => OwnO W wl.heap.size v (p.A.flatten ++ p.B)), (fun _ v => v = .pointer (some ⟨g, 2, none⟩)), (fun _ v => v = .slice aC p.C.length cC), (fun W v => OwnO W wl.heap.size v (p.A.flatten ++ p.B ++ p.C)), (fun W v => OwnO W wl.heap.size v (p.A.flatten ++ p.B ++ p.C))] [some 3, none, none, some 6, none, none, some 7, none] [false, true, true, false, true, true, false, false] [some 56, some 57, some 58, some 59, some 60, some 61, some 62, some 5] [56, 57, 58, 59, 60, 61, 62, 5] 0 5 (fun W v => OwnO W wl.heap.size v p.A.flatten) (by decide) (by kernel_rfl) (by kernel_rfl) (by kernel_rfl) (by kernel_rfl) (of_decide_eq_true (by kernel_rfl)) (by kernel_rfl) (by kernel_rfl) (hown.mono br.drew) (fun _ _ _ h hb => h.mono hb) (hbr) ⟨fun _ _ _ h hb => h.mono hb, sV _, sV _, fun _ _ _ h hb => h.mono hb, sV _, sV _, fun _ _ _ h hb => h.mono hb, fun _ _ _ h hb => h.mono hb, trivial⟩ ⟨(fun h => absurd h (by decide)), fun _ => cV _, fun _ => cV _, (fun h => absurd h (by decide)), fun _ => cV _, fun _ => cV _, (fun h => absurd h (by decide)), (fun h => absurd h (by decide)), trivial⟩ ⟨?s0, ?s1, ?s2, ?s3, ?s4, ?s5, ?s6, ?s7, trivial⟩ ?he
    case s0 =>
     rintro T W hb hp hA K hK;have hp := hp rfl;simp only [ovr, Act.put, sT, sZ, sS] at hK ⊢;have HK := hii hK;clear hK hA;refine wO rfl (by rfl) ?_;go_simp;exact HK.out _ _ ⟨hb, fun _ => br⟩ (hp)
    case s1 | s4 =>
     rintro T W hb - hA K hK;simp only [ovr, Act.put, sT, sZ, sS] at hK ⊢;have HK := hii hK;clear hK hA;refine wO rfl (by rfl) ?_;go_simp;exact HK.out _ _ ⟨hb, fun _ => br⟩ (rfl)
    case s2 =>
     rintro T W hb hp hA K hK;have e1 : T 57 = .pointer (some ⟨g, 1, none⟩) := hA.1 (by decide);have hp := trivial;obtain ⟨x0, x1, x2⟩ := (rA.below hb).n3;simp only [ovr, Act.put, sT, sZ, sS, e1] at hK ⊢;have HK := hii hK;clear hK hA;refine wO rfl (by rfl) ?_;go_simp;exact HK.out _ _ ⟨hb, fun _ => br⟩ (rfl)
    case s3 =>
     rintro T W hb hp hA K hK;have r0 : ((fun W v => OwnO W wl.heap.size v p.A.flatten) : World → Value → Prop) W (T 56) := hA.1 (by decide);have e2 : T 58 = .slice aB p.B.length cB := hA.2.1 (by decide);have hp := trivial;simp only [ovr, Act.put, sT, sZ, sS, e2] at hK ⊢;have HK := hii hK;clear hK hA;have hl0 : p.A.flatten.length + p.B.length ≤ 1000000 := (by have := HFL.out; omega);obtain ⟨v1, w1, hr, ho, hbw1, hsz, _⟩ := run_app_os W wl 27 wl.heap.size _ p.A.flatten p.B aB cB r0 hb.size hb (HB.out.mono hb) (by omega) hl0;clear hl0;refine wO rfl (by rfl) ?_;refine oper_append _ _ rfl rfl rfl hr ?_;simp only [Act.put, List.setIfInBounds_toArray, List.set_cons_zero, List.set_cons_succ];exact HK.out _ _ ⟨hbw1, fun h => absurd h (by decide)⟩ (ho)
    case s5 =>
     rintro T W hb hp hA K hK;have e4 : T 60 = .pointer (some ⟨g, 2, none⟩) := hA.1 (by decide);have hp := trivial;obtain ⟨x0, x1, x2⟩ := (rA.below hb).n3;simp only [ovr, Act.put, sT, sZ, sS, e4] at hK ⊢;have HK := hii hK;clear hK hA;refine wO rfl (by rfl) ?_;go_simp;exact HK.out _ _ ⟨hb, fun _ => br⟩ (rfl)
    case s6 =>
     rintro T W hb hp hA K hK;have r3 : ((fun W v => OwnO W wl.heap.size v (p.A.flatten ++ p.B)) : World → Value → Prop) W (T 59) := hA.1 (by decide);have e5 : T 61 = .slice aC p.C.length cC := hA.2.1 (by decide);have hp := trivial;simp only [ovr, Act.put, sT, sZ, sS, e5] at hK ⊢;have HK := hii hK;clear hK hA;have hl0 : (p.A.flatten ++ p.B).length + p.C.length ≤ 1000000 := (by have := HFL.out; rw [List.length_append]; omega);obtain ⟨v1, w1, hr, ho, hbw1, hsz, _⟩ := run_app_os W wl 27 wl.heap.size _ (p.A.flatten ++ p.B) p.C aC cC r3 hb.size hb (HCC.out.mono hb) (by omega) hl0;clear hl0;refine wO rfl (by rfl) ?_;refine oper_append _ _ rfl rfl rfl hr ?_;simp only [Act.put, List.setIfInBounds_toArray, List.set_cons_zero, List.set_cons_succ];exact HK.out _ _ ⟨hbw1, fun h => absurd h (by decide)⟩ (ho)
    case s7 =>
     rintro T W hb hp hA K hK;have r6 : ((fun W v => OwnO W wl.heap.size v (p.A.flatten ++ p.B ++ p.C)) : World → Value → Prop) W (T 62) := hA.1 (by decide);have e1 : T 57 = .pointer (some ⟨g, 1, none⟩) := hA.2.2.2.1 (by decide);have e2 : T 58 = .slice aB p.B.length cB := hA.2.2.2.2.1 (by decide);have e4 : T 60 = .pointer (some ⟨g, 2, none⟩) := hA.2.2.2.2.2.2.1 (by decide);have e5 : T 61 = .slice aC p.C.length cC := hA.2.2.2.2.2.2.2.1 (by decide);have hp := trivial;simp only [ovr, Act.put, sT, sZ, sS, e1, e2, e4, e5] at hK ⊢;have HK := hii hK;clear hK hA;refine wO rfl (by rfl) ?_;go_simp;exact HK.out _ _ ⟨hb, fun _ => br⟩ (r6)
    case he =>
     rintro T W hb hA;have f7 : ((fun W v => OwnO W wl.heap.size v (p.A.flatten ++ p.B ++ p.C)) : World → Value → Prop) W (T 5) := hA.of 7 (by decide) (by decide);have hbw := bu hbw hb;have HB := hii (HB.out.mono hb);have rA := rA.below hb;have hE := hE.mono hb;obtain ⟨ao2, cap2, ef, uall⟩ := f7.read;simp only [ovr, sT, sZ, sS, ef];have hal : (p.A.flatten ++ p.B ++ p.C).length ≤ 1000000000 := by
      have := HFL.out;rw [List.length_append, List.length_append]; omega
     have Hpa : Hid (p.A.flatten ++ p.B ++ p.C = p.all) := hii rfl;rw [Hpa.out] at uall hal ⊢;obtain ⟨E, hEE⟩ : ∃ E, E = numErr p.all := ⟨_, rfl⟩;have HEE := hii hEE;clear hA f7 ef hb hbr hown hEE x0 x1 x2 HA HCC;obtain ⟨w2, rfl⟩ := exi W;go_wp2_with fail;(with_reducible refine (rlist13_any p.all ao2 cap2 w2 hal uall hE).mono ?_);rw [← HEE.out];rintro e w3 ⟨rfl, hb⟩;have HB := hii (HB.out.mono hb);have rA := rA.below hb;have hbw := bu hbw hb;clear hb uall hE
     by_cases hz : E = 0
     ·subst hz;have HN0 := hii (numErr_zero HEE.out.symm);go_wp2_with fail;go_loopw [8] (fun s wr => ∃ k : Nat, k ≤ p.B.length ∧ s = .int .i64 k ∧ Hid (∀ x ∈ p.B.take k, negO x = false) ∧ Below w3.heap.size w3 wr) (fun s _ => p.B.length - (intOf s).toNat)
      case atStart => exact ⟨0, Nat.zero_le _, rfl, hii (by simp), br⟩
      case round =>
       obtain ⟨k, hk, rfl, HN, hbr⟩ := hrel;have hbw := bu hbw hbr;obtain ⟨x0, x1, x2⟩ := (rA.below hbr).n3
       by_cases hlt : k < p.B.length
       ·obtain ⟨q, hq⟩ : ∃ x, p.B[k]? = some x := ⟨p.B[k], gE hlt⟩;have hqs := HN0.out q (List.mem_append_left _ (List.mem_append_right _ (List.mem_of_getElem? hq)));obtain ⟨b1, off1, ngp, aop, np, capp, ngq, aoq, nq, capq, ea, FA, HVA⟩ := (HB.out.mono hbr) k q hq;have Hq := hii hq;clear hq;subst ea
        cases q with
        | none => cases hqs
        | some r =>
         clear hqs;obtain ⟨n1', a1', l1', c1', n2', a2', l2', c2', ev, hv1, hv2⟩ := (HVA : RatV _ _ r)
         cases ev
         have HV1 := hii hv1;obtain ⟨s, hs⟩ : ∃ s, sgnI r.num = s := ⟨_, rfl⟩;have Hs := hii hs;have Hn : Hid (negO (some r) = decide (s < 0)) := hii (by rw [← hs, sgnI_neg]; rfl);clear hv1 hv2 hs;obtain ⟨f0, f1, f2, f3, _, _, _, _⟩ := FA
         by_cases hn : s < 0
         ·go_wp2_with fail;(with_reducible refine (rSign_eq _ r.num s _ Hs HV1.out).mono ?_);rintro e w4 ⟨rfl, hb⟩;have hbw := bu hbw hb;have Hn' := hii hn;go_wp2;go_ret;refine ⟨?_, hbw⟩;rw [err_rest H0.out HR.out, ← HEE.out];have : negQ p.B = true := by unfold negQ; rw [List.any_eq_true]; exact ⟨some r, List.mem_of_getElem? Hq.out, by rw [Hn.out]; simpa using Hn'.out⟩
          rw [this]; rfl
         ·go_wp2_with fail;(with_reducible refine (rSign_eq _ r.num s _ Hs HV1.out).mono ?_);rintro e w4 ⟨rfl, hb⟩;have hbr := bu hbr hb;have Hn' := hii hn;go_wp2;go_roundw
          case rel => exact ⟨k + 1, by omega, by go_num, hii (take_all Hq.out HN.out (by rw [Hn.out]; simpa using Hn'.out)), hbr⟩
          case measure => simp [intOf]; omega
       ·obtain rfl : k = p.B.length := by omega
        go_wp2;go_ret;refine ⟨?_, hbw⟩;rw [err_rest H0.out HR.out, ← HEE.out];have : negQ p.B = false := by unfold negQ; rw [List.any_eq_false]; intro x hx; rw [HN.out x (by rw [List.take_length]; exact hx)]; simp
        rw [this]; rfl
     ·have g1 : ((E : Int) != 0) = true := by rw [bne_iff_ne]; omega
      have Hz := hii hz;clear hz;go_wp2;go_ret;refine ⟨?_, hbw⟩;rw [err_rest H0.out HR.out, ← HEE.out, if_pos Hz.out]; rfl
end Go.Proofs.YtgfpbghgpdpepaaGreatDoor
