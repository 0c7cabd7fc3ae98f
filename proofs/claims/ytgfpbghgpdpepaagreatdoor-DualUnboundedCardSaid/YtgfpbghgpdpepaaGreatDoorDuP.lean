/-
  The errors of a solution and of prices, in the program and in the reference.
-/
import Derived.Test.YtgfpbghgpdpepaaGreatDoorD5
import Derived.Test.YtgfpbghgpdpepaaGreatDoorDuM
set_option linter.unusedVariables false
set_option linter.unusedSimpArgs false
set_option maxRecDepth 100000
set_option maxHeartbeats 25600000
namespace Go.Proofs.YtgfpbghgpdpepaaGreatDoor
open Go.RowKit
theorem sol_neg {A : List (List Rat)} {B x : List Rat} (h : x.any negR = true) : solErr A B x = 12 := if_pos h
theorem sol_pos {A : List (List Rat)} {B x : List Rat} (h : x.any negR = false) : solErr A B x = rowsErr A B x := if_neg (by rw [show (x.any fun r => decide (r.num < 0)) = false from h]; decide)
theorem pri_neg {A : List (List Rat)} {C y : List Rat} (h : y.any negR = true) : priErr A C y = 12 := if_pos h
theorem pri_pos {A : List (List Rat)} {C y : List Rat} (h : y.any negR = false) : priErr A C y = colsErr A y 0 C := if_neg (by rw [show (y.any fun r => decide (r.num < 0)) = false from h]; decide)
theorem any_some (x : List Rat) : (x.map some).any negO = x.any negR := by
 rw [List.any_map]; rfl
theorem rows_at {A : List (List Rat)} {B x a : List Rat} {b : Rat} {k K : Nat} {c : Int} (ha : A[k]? = some a) (hb : B[k]? = some b) (h : agn a x b = (K, c)) :
  rowsErr (A.drop k) (B.drop k) x = if K ≠ 0 then K else if 0 < c then 12 else rowsErr (A.drop (k + 1)) (B.drop (k + 1)) x := by
 rw [drop_at ha, drop_at hb, rowsErr, h]
theorem cols_at {A : List (List Rat)} {C y : List Rat} {b : Rat} {k K : Nat} {c : Int} (hb : C[k]? = some b) (h : agn (colR A k) y b = (K, c)) :
  colsErr A y k (C.drop k) = if K ≠ 0 then K else if c < 0 then 12 else colsErr A y (k + 1) (C.drop (k + 1)) := by
 rw [drop_at hb, colsErr, h]
theorem rows_end {A : List (List Rat)} {B x : List Rat} {k : Nat} (h : k = B.length) : rowsErr (A.drop k) (B.drop k) x = 0 := by
 rw [h, List.drop_length]; unfold rowsErr; split <;> first | rfl | contradiction
theorem cols_end {A : List (List Rat)} {C y : List Rat} {k : Nat} (h : k = C.length) : colsErr A y k (C.drop k) = 0 := by
 rw [h, List.drop_length]; unfold colsErr; rfl
theorem dsolution_any (A : List (List Rat)) (B C x : List Rat) (hF : Hid (Fit A B C)) (hx : Hid (x.length = C.length)) (hm : B.length ≤ 14) (hn : C.length ≤ 400) (aA aB aC ax : Option Addr) (cA cB cC cx : Nat) (w : World) (uA : UM w aA (A.map (·.map some))) (uB : UQ w aB (B.map some)) (ux : UQ w ax (x.map some)) (hE : Env w) :
  Calls Tryz.prog 109 #[.agg #[.slice aA A.length cA, .slice aB B.length cB, .slice aC C.length cC], .slice ax x.length cx] w fun e w' => e = .returned (.int .i64 (solErr A B x)) ∧ Below w.heap.size w w' := by
 have hxl : x.length ≤ 1000000000 := by have := hx.out; omega
 have Huxl : Hid ((x.map some).length = x.length) := hii (List.length_map _);obtain ⟨E, hE1⟩ : ∃ E, E = solErr A B x := ⟨_, rfl⟩;rw [← hE1];have HE1 := hii hE1;clear hE1;have eg1 : ∀ args w, (callFunc 69 args).run Tryz.prog w = .ok (.enter 69 args) w := enters_of Tryz.func69 (by kernel_rfl) rfl;go_enter Tryz.func109, Tryz.ntmps109;go_upto_region 1 with fail;have hb0 := bA w (.cells #[.slice aA A.length cA, .slice aB B.length cB, .slice aC C.length cC] 29);have rA : Row (w.alloc (.cells #[.slice aA A.length cA, .slice aB B.length cB, .slice aC C.length cC] 29)) w.heap.size 29 [.slice aA A.length cA, .slice aB B.length cB, .slice aC C.length cC] := heap_alloc_new _ _;obtain ⟨g, hg⟩ := exi (w.heap.size);rw [← hg] at rA ⊢;have Hg := hii hg;clear hg;generalize w.alloc (.cells #[.slice aA A.length cA, .slice aB B.length cB, .slice aC C.length cC] 29) = w1 at *;have uA := uA.mono hb0;have uB := uB.mono hb0;have ux := ux.mono hb0;have hE := hE.mono hb0;have hbw := hb0;clear hb0;have HT : Tells 69 #[] negO (x.map some) w1 := by
  intro o v W ho hv hE2 hb2;obtain ⟨r, _, rfl⟩ := List.mem_map.1 ho;exact dneg_any v r W hv hE2
 have hC := ContainsFunc_q 69 #[] negO eg1 (x.map some) ax cx w1 (by rw [Huxl.out]; exact hxl) ux hE HT;rw [Huxl.out, any_some] at hC;have HC := hii hC;clear hC HT eg1;obtain ⟨bn, hbn⟩ : ∃ b, b = x.any negR := ⟨_, rfl⟩;rw [← hbn] at HC;have Hbn := hii hbn;clear hbn Huxl;go_wp2_with fail;(with_reducible refine (HC.out).mono ?_);rintro e w2 ⟨rfl, hb⟩;have uA := uA.mono hb;have uB := uB.mono hb;have ux := ux.mono hb;have hE := hE.mono hb;have rA := rA.below hb;have hbw := bu hbw hb;clear hb HC
 cases bn with
 | true =>
  go_wp2;go_ret;exact ⟨by rw [HE1.out, sol_neg Hbn.out.symm]; rfl, hbw⟩
 | false =>
  have HEE : Hid (E = rowsErr (A.drop 0) (B.drop 0) x) := hii (by rw [HE1.out, sol_pos Hbn.out.symm]; rfl);clear HE1 Hbn;obtain ⟨x0, x1, x2⟩ := rA.n3;go_wp2_with fail;clear x0 x1 x2;go_loopw [14] (fun s wr => ∃ k : Nat, k ≤ B.length ∧ s = .int .i64 k ∧ Hid (E = rowsErr (A.drop k) (B.drop k) x) ∧ Env wr ∧ Below w2.heap.size w2 wr) (fun s _ => B.length - (intOf s).toNat)
  case atStart => exact ⟨0, Nat.zero_le _, rfl, HEE, hE, br⟩
  case round =>
   clear hE HEE;obtain ⟨k, hk, rfl, HEE, hE, hbr⟩ := hrel;have hbw := bu hbw hbr;have rA := rA.below hbr
   by_cases hlt : k < B.length
   ·obtain ⟨b, hb0⟩ : ∃ x, B[k]? = some x := ⟨B[k], gE hlt⟩;obtain ⟨b1, off1, ng1, ao1, n1, cap1, ng2, ao2, n2, cap2, eb, FA, hv⟩ := (uB.mono hbr) k (some b) (by simp [hb0]);have hvb : RatV wr (.agg #[.bool ng1, .slice ao1 n1 cap1, .bool ng2, .slice ao2 n2 cap2]) b := hv;subst eb;have ux := ux.mono hbr;have hlA : k < A.length := by have := hF.out.rows; omega
    obtain ⟨a, ha0⟩ : ∃ x, A[k]? = some x := ⟨A[k], gE hlA⟩;obtain ⟨b0, off0, ar, cr, ea, hc, uR⟩ := (uA.mono hbr) k (a.map some) (by simp [ha0]);rw [List.length_map] at hc;subst ea;have hal : a.length = x.length := by have := hF.out.cols a (List.mem_of_getElem? ha0); have := hx.out; omega
    have hal2 : a.length ≤ 1000000000 := by omega
    obtain ⟨ke, c, hag⟩ : ∃ ke c, agn a x b = (ke, c) := ⟨_, _, rfl⟩;have HAT := hii (rows_at ha0 hb0 hag);have HAG := hii hag;have HAL := hii hal;clear ha0 hb0 hag hv hal;obtain ⟨x0, x1, x2⟩ := rA.n3;obtain ⟨f0, f1, f2, f3, _, _, _, _⟩ := id FA;go_wp2_with fail;(with_reducible refine (dsum_any a x b ke c ar ax cr cx _ wr hal2 HAL.out uR ux hvb HAG hE).mono ?_);rintro e w3 ⟨rfl, hb⟩;have hE := hE.mono hb;have hbr := bu hbr hb;have hbw := bu hbw hb;clear hb x0 x1 x2 f0 f1 f2 f3
    by_cases hz : ke = 0
    ·subst hz
     by_cases hp : 0 < c
     ·have HP := hii hp;go_wp2;go_ret;refine ⟨?_, hbw⟩;rw [HEE.out, HAT.out, if_neg (by decide), if_pos (show 0 < c by have := HP.out; omega)]; rfl
     ·have HP := hii hp;go_wp2;go_roundw
      case rel => exact ⟨k + 1, by omega, by go_num, hii (by rw [HEE.out, HAT.out, if_neg (by decide), if_neg (show ¬ (0 < c) by have := HP.out; omega)]), hE, hbr⟩
      case measure => simp [intOf]; omega
    ·have g1 : ((ke : Int) != 0) = true := by rw [bne_iff_ne]; omega
     have Hz := hii hz;clear hz;go_wp2;go_ret;refine ⟨?_, hbw⟩;rw [HEE.out, HAT.out, if_pos Hz.out]; rfl
   ·obtain rfl : k = B.length := by omega
    have HE0 : Hid (E = 0) := hii (by rw [HEE.out]; exact rows_end rfl);rw [show A.length = B.length from hF.out.rows];obtain ⟨x0, x1, x2⟩ := rA.n3;go_wp2;go_ret;exact ⟨by rw [HE0.out]; rfl, hbw⟩
theorem dprices_any (A : List (List Rat)) (B C y : List Rat) (hF : Hid (Fit A B C)) (hx : Hid (y.length = B.length)) (hm : B.length ≤ 14) (hn : C.length ≤ 400) (aA aB aC ax : Option Addr) (cA cB cC cx : Nat) (w : World) (uA : UM w aA (A.map (·.map some))) (uC : UQ w aC (C.map some)) (ux : UQ w ax (y.map some)) (hE : Env w) :
  Calls Tryz.prog 110 #[.agg #[.slice aA A.length cA, .slice aB B.length cB, .slice aC C.length cC], .slice ax y.length cx] w fun e w' => e = .returned (.int .i64 (priErr A C y)) ∧ Below w.heap.size w w' := by
 have hxl : y.length ≤ 1000000000 := by have := hx.out; omega
 have Huxl : Hid ((y.map some).length = y.length) := hii (List.length_map _);obtain ⟨E, hE1⟩ : ∃ E, E = priErr A C y := ⟨_, rfl⟩;rw [← hE1];have HE1 := hii hE1;clear hE1;have eg1 : ∀ args w, (callFunc 69 args).run Tryz.prog w = .ok (.enter 69 args) w := enters_of Tryz.func69 (by kernel_rfl) rfl;go_enter Tryz.func110, Tryz.ntmps110;go_upto_region 1 with fail;have hb0 := bA w (.cells #[.slice aA A.length cA, .slice aB B.length cB, .slice aC C.length cC] 29);have rA : Row (w.alloc (.cells #[.slice aA A.length cA, .slice aB B.length cB, .slice aC C.length cC] 29)) w.heap.size 29 [.slice aA A.length cA, .slice aB B.length cB, .slice aC C.length cC] := heap_alloc_new _ _;obtain ⟨g, hg⟩ := exi (w.heap.size);rw [← hg] at rA ⊢;have Hg := hii hg;clear hg;generalize w.alloc (.cells #[.slice aA A.length cA, .slice aB B.length cB, .slice aC C.length cC] 29) = w1 at *;have uA := uA.mono hb0;have uC := uC.mono hb0;have ux := ux.mono hb0;have hE := hE.mono hb0;have hbw := hb0;clear hb0;have HT : Tells 69 #[] negO (y.map some) w1 := by
  intro o v W ho hv hE2 hb2;obtain ⟨r, _, rfl⟩ := List.mem_map.1 ho;exact dneg_any v r W hv hE2
 have hC := ContainsFunc_q 69 #[] negO eg1 (y.map some) ax cx w1 (by rw [Huxl.out]; exact hxl) ux hE HT;rw [Huxl.out, any_some] at hC;have HC := hii hC;clear hC HT eg1;obtain ⟨bn, hbn⟩ : ∃ b, b = y.any negR := ⟨_, rfl⟩;rw [← hbn] at HC;have Hbn := hii hbn;clear hbn Huxl;go_wp2_with fail;(with_reducible refine (HC.out).mono ?_);rintro e w2 ⟨rfl, hb⟩;have uA := uA.mono hb;have uC := uC.mono hb;have ux := ux.mono hb;have hE := hE.mono hb;have rA := rA.below hb;have hbw := bu hbw hb;clear hb HC
 cases bn with
 | true =>
  go_wp2;go_ret;exact ⟨by rw [HE1.out, pri_neg Hbn.out.symm]; rfl, hbw⟩
 | false =>
  have HEE : Hid (E = colsErr A y 0 (C.drop 0)) := hii (by rw [HE1.out, pri_pos Hbn.out.symm]; rfl);clear HE1 Hbn;obtain ⟨x0, x1, x2⟩ := rA.n3;go_wp2_with fail;clear x0 x1 x2;go_loopw [13] (fun s wr => ∃ k : Nat, k ≤ C.length ∧ s = .int .i64 k ∧ Hid (E = colsErr A y k (C.drop k)) ∧ Env wr ∧ Below w2.heap.size w2 wr) (fun s _ => C.length - (intOf s).toNat)
  case atStart => exact ⟨0, Nat.zero_le _, rfl, HEE, hE, br⟩
  case round =>
   clear hE HEE;obtain ⟨k, hk, rfl, HEE, hE, hbr⟩ := hrel;have hbw := bu hbw hbr;have rA := rA.below hbr
   by_cases hlt : k < C.length
   ·obtain ⟨b, hb0⟩ : ∃ x, C[k]? = some x := ⟨C[k], gE hlt⟩;obtain ⟨b1, off1, ng1, ao1, n1, cap1, ng2, ao2, n2, cap2, eb, FA, hv⟩ := (uC.mono hbr) k (some b) (by simp [hb0]);have hvb : RatV wr (.agg #[.bool ng1, .slice ao1 n1 cap1, .bool ng2, .slice ao2 n2 cap2]) b := hv;subst eb;have ux := ux.mono hbr;obtain ⟨ke, c, hag⟩ : ∃ ke c, agn (colR A k) y b = (ke, c) := ⟨_, _, rfl⟩;have HAT := hii (cols_at hb0 hag);have HAG := hii hag;have HAl : Hid (A.length = B.length) := hii hF.out.rows;have HJ : Hid (∀ r ∈ A, k < r.length) := hii fun r hr => by rw [hF.out.cols r hr]; exact hlt
    have HKL : Hid ((colR A k).length = y.length) := hii (by rw [colR_length, HAl.out, hx.out]);have hA6 : A.length ≤ 1000000 := by have := HAl.out; omega
    have uA := uA.mono hbr;clear hb0 hag hv;have hbx := Below.refl wr.heap.size wr;obtain ⟨x0, x1, x2⟩ := rA.n3;go_upto_region 6 with fail;clear x0 x1 x2;refine wp_region_use (wx := wr) [(fun _ v => v = .agg #[.slice aA A.length cA, .slice aB B.length cB, .slice (some ⟨b1, off1, none⟩) C.length cC]), (fun _ v => v = .int .i64 k), (fun W v => ∃ ao cap, v = .slice ao (colR A k).length cap ∧ UQ W ao ((colR A k).map some)), (fun _ v => v = .slice ax y.length cx), (fun _ v => v = .pointer (some ⟨g, 2, none⟩)), (fun _ v => v = .slice (some ⟨b1, off1, none⟩) C.length cC), (fun _ v => v = .int .i64 k), (fun _ v => v = .pointer (some ⟨b1, off1 + k * 4, none⟩)), (fun _ v => v = .agg #[.bool ng1, .slice ao1 n1 cap1, .bool ng2, .slice ao2 n2 cap2]), (fun _ v => v = .tuple #[.int .i64 c, .int .i64 ke]), (fun _ v => v = .tuple #[.int .i64 c, .int .i64 ke]), (fun _ v => v = .int .i64 c), (fun _ v => v = .int .i64 ke), (fun _ v => v = .int .i64 c), (fun _ v => v = .int .i64 ke)] [none, none, none, none, none, none, none, none, none, none, none, none, none, none, none] [true, true, false, true, true, true, true, true, true, true, true, true, true, true, true] [some 17, some 18, some 19, some 20, some 21, some 22, some 23, some 24, some 25, some 26, some 16, some 27, some 28, some 6, some 7] [17, 18, 19, 20, 21, 22, 23, 24, 25, 26, 16, 27, 28, 6, 7] 0 0 (fun _ _ => True) (by decide) (by kernel_rfl) (by kernel_rfl) (by kernel_rfl) (by kernel_rfl) (of_decide_eq_true (by kernel_rfl)) (by kernel_rfl) (by kernel_rfl) (trivial) (fun _ _ _ h _ => h) br ⟨sV _, sV _, fun _ _ _ ⟨a, c, e, h⟩ hb => ⟨a, c, e, h.mono hb⟩, sV _, sV _, sV _, sV _, sV _, sV _, sV _, sV _, sV _, sV _, sV _, sV _, trivial⟩ ⟨fun _ => cV _, fun _ => cV _, (fun h => absurd h (by decide)), fun _ => cV _, fun _ => cV _, fun _ => cV _, fun _ => cV _, fun _ => cV _, fun _ => cV _, fun _ => cV _, fun _ => cV _, fun _ => cV _, fun _ => cV _, fun _ => cV _, fun _ => cV _, trivial⟩ ⟨?s0, ?s1, ?s2, ?s3, ?s4, ?s5, ?s6, ?s7, ?s8, ?s9, ?s10, ?s11, ?s12, ?s13, ?s14, trivial⟩ ?he
    case s0 =>
     rintro T W hb hp hA K hK;have hp := hp rfl;obtain ⟨x0, x1, x2⟩ := (rA.below hb).n3;simp only [ovr, Act.put, sT, sZ, sS] at hK ⊢;have HK := hii hK;clear hK hA;refine wO rfl (by rfl) ?_;go_simp;exact HK.out _ _ ⟨hb, fun _ => br⟩ (rfl)
    case s1 | s3 | s4 | s6 =>
     rintro T W hb - hA K hK;simp only [ovr, Act.put, sT, sZ, sS] at hK ⊢;have HK := hii hK;clear hK hA;refine wO rfl (by rfl) ?_;go_simp;exact HK.out _ _ ⟨hb, fun _ => br⟩ (rfl)
    case s2 =>
     rintro T W hb hp hA K hK;have e0 : T 17 = .agg #[.slice aA A.length cA, .slice aB B.length cB, .slice (some ⟨b1, off1, none⟩) C.length cC] := hA.1 (by decide);have e1 : T 18 = .int .i64 k := hA.2.1 (by decide);have hp := trivial;simp only [ovr, Act.put, sT, sZ, sS, e0, e1] at hK ⊢;have HK := hii hK;clear hK hA;refine wO rfl (by rfl) ?_;go_simp;(with_reducible refine (dcolumn_any A k aA aB (some ⟨b1, off1, none⟩) cA B.length cB C.length cC W hA6 (uA.mono hb) HJ.out).mono ?_);rintro e w1 ⟨⟨ao, cap, rfl, hU⟩, hb1⟩
     try dsimp only
     exact HK.out _ _ ⟨bu hb hb1, fun _ => hb1⟩ (⟨ao, cap, rfl, hU⟩)
    case s5 =>
     rintro T W hb hp hA K hK;have e4 : T 21 = .pointer (some ⟨g, 2, none⟩) := hA.1 (by decide);have hp := trivial;obtain ⟨x0, x1, x2⟩ := (rA.below hb).n3;simp only [ovr, Act.put, sT, sZ, sS, e4] at hK ⊢;have HK := hii hK;clear hK hA;refine wO rfl (by rfl) ?_;go_simp;exact HK.out _ _ ⟨hb, fun _ => br⟩ (rfl)
    case s7 =>
     rintro T W hb hp hA K hK;have e5 : T 22 = .slice (some ⟨b1, off1, none⟩) C.length cC := hA.1 (by decide);have e6 : T 23 = .int .i64 k := hA.2.1 (by decide);have hp := trivial;simp only [ovr, Act.put, sT, sZ, sS, e5, e6] at hK ⊢;have HK := hii hK;clear hK hA;refine wO rfl (by rfl) ?_;go_simp;exact HK.out _ _ ⟨hb, fun _ => br⟩ (rfl)
    case s8 =>
     rintro T W hb hp hA K hK;have e7 : T 24 = .pointer (some ⟨b1, off1 + k * 4, none⟩) := hA.1 (by decide);have hp := trivial;obtain ⟨f0, f1, f2, f3, _, _, _, _⟩ := FA.mono hb;simp only [ovr, Act.put, sT, sZ, sS, e7] at hK ⊢;have HK := hii hK;clear hK hA;refine wO rfl (by rfl) ?_;go_simp;exact HK.out _ _ ⟨hb, fun _ => br⟩ (rfl)
    case s9 =>
     rintro T W hb hp hA K hK;have r2 : ((fun W v => ∃ ao cap, v = .slice ao (colR A k).length cap ∧ UQ W ao ((colR A k).map some)) : World → Value → Prop) W (T 19) := hA.1 (by decide);have e3 : T 20 = .slice ax y.length cx := hA.2.1 (by decide);have e8 : T 25 = .agg #[.bool ng1, .slice ao1 n1 cap1, .bool ng2, .slice ao2 n2 cap2] := hA.2.2.1 (by decide);have hp := trivial;obtain ⟨aok, capk, e2, hUk⟩ := r2;simp only [ovr, Act.put, sT, sZ, sS, e3, e8, e2] at hK ⊢;have HK := hii hK;clear hK hA;refine wO rfl (by rfl) ?_;go_simp;(with_reducible refine (dsum_any (colR A k) y b ke c aok ax capk cx _ W (by rw [HKL.out]; exact hxl) HKL.out hUk (ux.mono hb) (hvb.mono hb) HAG (hE.mono hb)).mono ?_);rintro e w1 ⟨rfl, hb1⟩
     try dsimp only
     exact HK.out _ _ ⟨bu hb hb1, fun _ => hb1⟩ (rfl)
    case s10 =>
     rintro T W hb hp hA K hK;have e9 : T 26 = .tuple #[.int .i64 c, .int .i64 ke] := hA.1 (by decide);have hp := trivial;simp only [ovr, Act.put, sT, sZ, sS, e9] at hK ⊢;have HK := hii hK;clear hK hA;refine wO rfl (by rfl) ?_;go_simp;exact HK.out _ _ ⟨hb, fun _ => br⟩ (rfl)
    case s11 | s12 =>
     rintro T W hb hp hA K hK;have e10 : T 16 = .tuple #[.int .i64 c, .int .i64 ke] := hA.1 (by decide);have hp := trivial;simp only [ovr, Act.put, sT, sZ, sS, e10] at hK ⊢;have HK := hii hK;clear hK hA;refine wO rfl (by rfl) ?_;go_simp;exact HK.out _ _ ⟨hb, fun _ => br⟩ (rfl)
    case s13 =>
     rintro T W hb hp hA K hK;have e11 : T 27 = .int .i64 c := hA.1 (by decide);have e9 : T 26 = .tuple #[.int .i64 c, .int .i64 ke] := hA.2.1 (by decide);have e0 : T 17 = .agg #[.slice aA A.length cA, .slice aB B.length cB, .slice (some ⟨b1, off1, none⟩) C.length cC] := hA.2.2.1 (by decide);have e1 : T 18 = .int .i64 k := hA.2.2.2.1 (by decide);have r2 : ((fun W v => ∃ ao cap, v = .slice ao (colR A k).length cap ∧ UQ W ao ((colR A k).map some)) : World → Value → Prop) W (T 19) := hA.2.2.2.2.1 (by decide);have e3 : T 20 = .slice ax y.length cx := hA.2.2.2.2.2.1 (by decide);have e4 : T 21 = .pointer (some ⟨g, 2, none⟩) := hA.2.2.2.2.2.2.1 (by decide);have e5 : T 22 = .slice (some ⟨b1, off1, none⟩) C.length cC := hA.2.2.2.2.2.2.2.1 (by decide);have e6 : T 23 = .int .i64 k := hA.2.2.2.2.2.2.2.2.1 (by decide);have e7 : T 24 = .pointer (some ⟨b1, off1 + k * 4, none⟩) := hA.2.2.2.2.2.2.2.2.2.1 (by decide);have e8 : T 25 = .agg #[.bool ng1, .slice ao1 n1 cap1, .bool ng2, .slice ao2 n2 cap2] := hA.2.2.2.2.2.2.2.2.2.2.1 (by decide);have e10 : T 16 = .tuple #[.int .i64 c, .int .i64 ke] := hA.2.2.2.2.2.2.2.2.2.2.2.2.1 (by decide);have hp := trivial;simp only [ovr, Act.put, sT, sZ, sS, e11, e9, e0, e1, e3, e4, e5, e6, e7, e8, e10] at hK ⊢;have HK := hii hK;clear hK hA;refine wO rfl (by rfl) ?_;go_simp;exact HK.out _ _ ⟨hb, fun _ => br⟩ (rfl)
    case s14 =>
     rintro T W hb hp hA K hK;have e12 : T 28 = .int .i64 ke := hA.1 (by decide);have e13 : T 6 = .int .i64 c := hA.2.1 (by decide);have e0 : T 17 = .agg #[.slice aA A.length cA, .slice aB B.length cB, .slice (some ⟨b1, off1, none⟩) C.length cC] := hA.2.2.1 (by decide);have e1 : T 18 = .int .i64 k := hA.2.2.2.1 (by decide);have r2 : ((fun W v => ∃ ao cap, v = .slice ao (colR A k).length cap ∧ UQ W ao ((colR A k).map some)) : World → Value → Prop) W (T 19) := hA.2.2.2.2.1 (by decide);have e3 : T 20 = .slice ax y.length cx := hA.2.2.2.2.2.1 (by decide);have e4 : T 21 = .pointer (some ⟨g, 2, none⟩) := hA.2.2.2.2.2.2.1 (by decide);have e5 : T 22 = .slice (some ⟨b1, off1, none⟩) C.length cC := hA.2.2.2.2.2.2.2.1 (by decide);have e6 : T 23 = .int .i64 k := hA.2.2.2.2.2.2.2.2.1 (by decide);have e7 : T 24 = .pointer (some ⟨b1, off1 + k * 4, none⟩) := hA.2.2.2.2.2.2.2.2.2.1 (by decide);have e8 : T 25 = .agg #[.bool ng1, .slice ao1 n1 cap1, .bool ng2, .slice ao2 n2 cap2] := hA.2.2.2.2.2.2.2.2.2.2.1 (by decide);have e9 : T 26 = .tuple #[.int .i64 c, .int .i64 ke] := hA.2.2.2.2.2.2.2.2.2.2.2.1 (by decide);have e10 : T 16 = .tuple #[.int .i64 c, .int .i64 ke] := hA.2.2.2.2.2.2.2.2.2.2.2.2.1 (by decide);have e11 : T 27 = .int .i64 c := hA.2.2.2.2.2.2.2.2.2.2.2.2.2.1 (by decide);have hp := trivial;simp only [ovr, Act.put, sT, sZ, sS, e12, e13, e0, e1, e3, e4, e5, e6, e7, e8, e9, e10, e11] at hK ⊢;have HK := hii hK;clear hK hA;refine wO rfl (by rfl) ?_;go_simp;exact HK.out _ _ ⟨hb, fun _ => br⟩ (rfl)
    case he =>
     rintro T W hb hA;have f1 : T 6 = .int .i64 c := hA.of 13 (by decide) (by decide);have f2 : T 7 = .int .i64 ke := hA.of 14 (by decide) (by decide);have hE := hE.mono hb;have hbr := bu hbr hb;have hbw := bu hbw hb;simp only [ovr, sT, sZ, sS, f1, f2];clear hA f1 f2 hb;obtain ⟨w3, rfl⟩ := exi W
     by_cases hz : ke = 0
     ·subst hz
      by_cases hp : c < 0
      ·have HP := hii hp;go_wp2;go_ret;refine ⟨?_, hbw⟩;rw [HEE.out, HAT.out, if_neg (by decide), if_pos (show c < 0 by have := HP.out; omega)]; rfl
      ·have HP := hii hp;go_wp2;go_roundw
       case rel => exact ⟨k + 1, by omega, by go_num, hii (by rw [HEE.out, HAT.out, if_neg (by decide), if_neg (show ¬ (c < 0) by have := HP.out; omega)]), hE, hbr⟩
       case measure => simp [intOf]; omega
     ·have g1 : ((ke : Int) != 0) = true := by rw [bne_iff_ne]; omega
      have Hz := hii hz;clear hz;go_wp2;go_ret;refine ⟨?_, hbw⟩;rw [HEE.out, HAT.out, if_pos Hz.out]; rfl
   ·obtain rfl : k = C.length := by omega
    have HE0 : Hid (E = 0) := hii (by rw [HEE.out]; exact cols_end rfl)
    obtain ⟨x0, x1, x2⟩ := rA.n3;go_wp2;go_ret;exact ⟨by rw [HE0.out]; rfl, hbw⟩
end Go.Proofs.YtgfpbghgpdpepaaGreatDoor
