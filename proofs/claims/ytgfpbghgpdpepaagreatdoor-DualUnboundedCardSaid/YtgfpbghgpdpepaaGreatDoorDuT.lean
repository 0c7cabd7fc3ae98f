/-
  Unbounded, in the program and in the reference; small fractions.
-/
import Derived.Test.YtgfpbghgpdpepaaGreatDoorDuS
set_option linter.unusedVariables false
set_option linter.unusedSimpArgs false
set_option maxRecDepth 100000
set_option maxHeartbeats 25600000
namespace Go.Proofs.YtgfpbghgpdpepaaGreatDoor
open Go.RowKit
theorem dzero_ok (w : World) (hE : Env w) :
  Calls Tryz.prog 62 #[] w fun e w' => GotR w' 0 e ∧ Below w.heap.size w w' := by
 have hbw := Below.refl w.heap.size w;go_enter Tryz.func62, Tryz.ntmps62;go_upto_region 1 with fail;have X0 := Box4.new w (.bool false) (.slice none 0 0) (.bool false) (.slice none 0 0) 34;have hb := bA w (.cells #[.bool false, .slice none 0 0, .bool false, .slice none 0 0] 34);generalize w.alloc (.cells #[.bool false, .slice none 0 0, .bool false, .slice none 0 0] 34) = v1 at *;have hE := hE.mono hb;have hbw := bu hbw hb;clear hb;go_wp2_with fail;(with_reducible refine (of_any 1 (by decide) (by decide) v1 hE).mono ?_);rintro e v2 ⟨⟨ng1, ao1, n1, cap1, rfl, HV1⟩, hb⟩;have X0 := X0.mono hb;have hbw := bu hbw hb;clear hb;obtain ⟨x0a, x0b, x0c, x0d, _, _, _, _⟩ := id X0;go_wp2;refine bodyPost_ret (v := .agg #[.bool false, .slice none 0 0, .bool ng1, .slice ao1 n1 cap1]) (by simp [results, Tryz.results62, go_sem, x0a, x0b, x0c, x0d]) rfl ⟨⟨false, none, 0, 0, ng1, ao1, n1, cap1, rfl, hii ((IntV.zero _).put4B X0 (.bool false) (.slice none 0 0) (.bool ng1) (.slice ao1 n1 cap1)), hii (HV1.out.put4B X0 (.bool false) (.slice none 0 0) (.bool ng1) (.slice ao1 n1 cap1))⟩, Below.put4 hbw (by omega) (.bool false) (.slice none 0 0) (.bool ng1) (.slice ao1 n1 cap1)⟩
theorem rzero_ok (w : World) (hE : Env w) :
  Calls Tryz.prog 63 #[] w fun e w' => GotR w' 0 e ∧ Below w.heap.size w w' := by
 have hbw := Below.refl w.heap.size w;go_enter Tryz.func63, Tryz.ntmps63;go_upto_region 1 with fail;have X0 := Box4.new w (.bool false) (.slice none 0 0) (.bool false) (.slice none 0 0) 34;have hb := bA w (.cells #[.bool false, .slice none 0 0, .bool false, .slice none 0 0] 34);generalize w.alloc (.cells #[.bool false, .slice none 0 0, .bool false, .slice none 0 0] 34) = v1 at *;have hE := hE.mono hb;have hbw := bu hbw hb;clear hb;go_wp2_with fail;(with_reducible refine (rof_any 1 (by decide) (by decide) v1 hE).mono ?_);rintro e v2 ⟨⟨ng1, ao1, n1, cap1, rfl, HV1⟩, hb⟩;have X0 := X0.mono hb;have hbw := bu hbw hb;clear hb;obtain ⟨x0a, x0b, x0c, x0d, _, _, _, _⟩ := id X0;go_wp2;refine bodyPost_ret (v := .agg #[.bool false, .slice none 0 0, .bool ng1, .slice ao1 n1 cap1]) (by simp [results, Tryz.results63, go_sem, x0a, x0b, x0c, x0d]) rfl ⟨⟨false, none, 0, 0, ng1, ao1, n1, cap1, rfl, hii ((IntV.zero _).put4B X0 (.bool false) (.slice none 0 0) (.bool ng1) (.slice ao1 n1 cap1)), hii (HV1.out.put4B X0 (.bool false) (.slice none 0 0) (.bool ng1) (.slice ao1 n1 cap1))⟩, Below.put4 hbw (by omega) (.bool false) (.slice none 0 0) (.bool ng1) (.slice ao1 n1 cap1)⟩
theorem rnum_any (n : Int) (hn1 : -9223372036854775808 ≤ n) (hn2 : n ≤ 9223372036854775807) (w : World) (hE : Env w) :
  Calls Tryz.prog 23 #[.int .i64 n] w fun e w' => GotR w' (n : Rat) e ∧ Below w.heap.size w w' := by
 have hbw := Below.refl w.heap.size w;go_enter Tryz.func23, Tryz.ntmps23;go_upto_region 1 with fail;have X0 := Box4.new w (.bool false) (.slice none 0 0) (.bool false) (.slice none 0 0) 34;have hb := bA w (.cells #[.bool false, .slice none 0 0, .bool false, .slice none 0 0] 34);generalize w.alloc (.cells #[.bool false, .slice none 0 0, .bool false, .slice none 0 0] 34) = v1 at *;have hE := hE.mono hb;have hbw := bu hbw hb;clear hb;have HO1 := hii (rof_any n hn1 hn2 v1 hE);have Hn1 := hii hn1;have Hn2 := hii hn2;clear hn1 hn2;go_wp2_with fail;(with_reducible refine (HO1.out).mono ?_);rintro e v2 ⟨⟨ng2, ao2, n2, cap2, rfl, HV2⟩, hb⟩;have X0 := X0.mono hb;have hE := hE.mono hb;have hbw := bu hbw hb;clear hb HO1;go_wp2_with fail;(with_reducible refine (rof_any 1 (by decide) (by decide) v2 hE).mono ?_);rintro e v3 ⟨⟨ng1, ao1, n1, cap1, rfl, HV1⟩, hb⟩;have X0 := X0.mono hb;have HV2 := hup HV2 hb;have hbw := bu hbw hb;clear hb;obtain ⟨x0a, x0b, x0c, x0d, _, _, _, _⟩ := id X0;go_wp2;refine bodyPost_ret (v := .agg #[.bool ng2, .slice ao2 n2 cap2, .bool ng1, .slice ao1 n1 cap1]) (by simp [results, Tryz.results23, go_sem, x0a, x0b, x0c, x0d]) rfl ⟨⟨ng2, ao2, n2, cap2, ng1, ao1, n1, cap1, rfl, hii (by rw [Rat.num_intCast]; exact HV2.out.put4B X0 _ _ _ _), hii (by rw [Rat.den_intCast]; exact HV1.out.put4B X0 _ _ _ _)⟩, Below.put4 hbw (by omega) _ _ _ _⟩
open Classical in
noncomputable def unbB (p : Prg) (ray : List Qo) : Bool := decide (UnbP p ray)
section
variable {p : Prg} {x : List Qo}
open Classical in
theorem unb_no (h : ¬ UnbP p x) : unbB p x = false := by unfold unbB; exact decide_eq_false h
open Classical in
theorem unb_yes (h : UnbP p x) : unbB p x = true := by unfold unbB; exact decide_eq_true h
theorem unb_row {k ke : Nat} {a : List Rat} {c : Int} (hk : k < p.B.length) (ha : p.rA.getD k [] = a) (hg : agn a (valsQ x) 0 = (ke, c)) (h : ¬ (ke = 0 ∧ c ≤ 0)) : unbB p x = false :=
 unb_no fun hu => by
  have := hu.2.2.2.2.1 k hk;rw [ha, hg] at this;exact h this
theorem unb_end {ke : Nat} {c : Int} (h1 : p.err = 0) (h2 : x.length = p.C.length) (h3 : badQ x = false) (h4 : (valsQ x).any negR = false)
  (h5 : ∀ i, i < p.B.length → (agn (p.rA.getD i []) (valsQ x) 0).1 = 0 ∧ (agn (p.rA.getD i []) (valsQ x) 0).2 ≤ 0) (hg : agn (valsQ p.C) (valsQ x) 0 = (ke, c)) : unbB p x = (decide ((ke : Int) = 0) && decide (0 < c)) := by
 have hg : agn p.rC (valsQ x) 0 = (ke, c) := hg
 by_cases hh : (ke : Int) = 0 ∧ 0 < c
 ·rw [decide_eq_true hh.1, decide_eq_true hh.2];exact unb_yes ⟨h1, h2, h3, h4, h5, by rw [hg]; simpa using hh.1, by rw [hg]; exact hh.2⟩
 ·rw [unb_no fun hu => hh (by
   have a := hu.2.2.2.2.2;rw [hg] at a;exact ⟨by simpa using a.1, a.2⟩)]
  symm
  rw [Bool.eq_false_iff];intro ht;simp only [Bool.and_eq_true, decide_eq_true_eq] at ht;exact hh ht
end
theorem GotR.rat {w : World} {r : Rat} {e : Ending} (h : GotR w r e) : ∃ ng ao n cap nh ap m caq, e = .returned (.agg #[.bool ng, .slice ao n cap, .bool nh, .slice ap m caq]) ∧ RatV w (.agg #[.bool ng, .slice ao n cap, .bool nh, .slice ap m caq]) r := by
 obtain ⟨ng, ao, n, cap, nh, ap, m, caq, e, h1, h2⟩ := h;exact ⟨ng, ao, n, cap, nh, ap, m, caq, e, ng, ao, n, cap, nh, ap, m, caq, rfl, h1.out, h2.out⟩
theorem Unb_any (p : Prg) (x : List Qo) (vp : Value) (ax : Option Addr) (cx : Nat) (w : World) (h : PrgV w vp p) (hxl : x.length ≤ 1000000000) (ux : UQ w ax x) (hE : Env w) :
  Calls Tryz.prog 24 #[vp, .slice ax x.length cx] w fun e w' => e = .returned (.bool (unbB p x)) ∧ Below w.heap.size w w' := by
 obtain ⟨aA, cA, aB, cB, aC, cC, rfl, uA, uB, uC⟩ := h;obtain ⟨R, hR⟩ : ∃ R, R = unbB p x := ⟨_, rfl⟩;rw [← hR];have H_R := hii hR;clear hR;go_enter Tryz.func24, Tryz.ntmps24;go_upto_region 1 with fail;have hb := bA w (.cells #[.slice aA p.A.length cA, .slice aB p.B.length cB, .slice aC p.C.length cC] 29);have rA : Row (w.alloc (.cells #[.slice aA p.A.length cA, .slice aB p.B.length cB, .slice aC p.C.length cC] 29)) w.heap.size 29 [.slice aA p.A.length cA, .slice aB p.B.length cB, .slice aC p.C.length cC] := heap_alloc_new _ _;obtain ⟨g, hg⟩ := exi (w.heap.size);rw [← hg] at rA ⊢;clear hg;generalize w.alloc (.cells #[.slice aA p.A.length cA, .slice aB p.B.length cB, .slice aC p.C.length cC] 29) = w1 at *;have uA := uA.mono hb;have uB := uB.mono hb;have uC := uC.mono hb;have ux := ux.mono hb;have hE := hE.mono hb;have hbw := hb;clear hb;obtain ⟨x0, x1, x2⟩ := rA.n3;obtain ⟨E, h_E⟩ : ∃ E, E = p.err := ⟨_, rfl⟩;have H_E := hii h_E;clear h_E;have HV := hii (sValid_any p _ w1 ⟨aA, cA, aB, cB, aC, cC, rfl, uA, uB, uC⟩ hE);rw [← H_E.out] at HV;go_wp2_with fail;(with_reducible refine (HV.out).mono ?_);rintro e w2 ⟨rfl, hb⟩;have uA := uA.mono hb;have uB := uB.mono hb;have uC := uC.mono hb;have ux := ux.mono hb;have hE := hE.mono hb;have rA := rA.below hb;have hbw := bu hbw hb;clear hb;clear HV x0 x1 x2
 by_cases hz : E ≠ 0
 ·have g1 : ((E : Int) != 0) = true := by rw [bne_iff_ne]; omega
  have Hz := hii hz;clear hz;go_wp2;go_ret;exact ⟨by rw [H_R.out, unb_no (fun hu => Hz.out (by rw [H_E.out]; exact hu.1))]; rfl, hbw⟩
 ·have He : Hid (p.err = 0) := hii (by rw [← H_E.out]; omega);obtain rfl : E = 0 := by omega
  clear hz;obtain ⟨x0, x1, x2⟩ := rA.n3
  by_cases h1 : x.length ≠ p.C.length
  ·have g1 : ((x.length : Int) != (p.C.length : Int)) = true := by rw [bne_iff_ne]; omega
   go_wp2;go_ret;exact ⟨by rw [H_R.out, unb_no (fun hu => h1 hu.2.1)]; rfl, hbw⟩
  ·have hx : x.length = p.C.length := by omega
   have g1 : ((x.length : Int) != (p.C.length : Int)) = false := by rw [bne_eq_false_iff_eq]; omega
   have Hx := hii hx;clear hx h1;obtain ⟨bx, h_bx⟩ : ∃ bx, bx = badQ x := ⟨_, rfl⟩;have H_bx := hii h_bx;clear h_bx;have HW := hii (wrong_list (cx := cx) hxl ux hE);rw [← H_bx.out] at HW;go_wp2_with fail;(with_reducible refine (HW.out).mono ?_);rintro e w3 ⟨rfl, hb⟩;have uA := uA.mono hb;have uB := uB.mono hb;have uC := uC.mono hb;have ux := ux.mono hb;have hE := hE.mono hb;have rA := rA.below hb;have hbw := bu hbw hb;clear hb;clear HW x0 x1 x2
   cases bx with
   | true =>
    go_wp2;go_ret;exact ⟨by rw [H_R.out, unb_no (fun hu => by have := hu.2.2.1; rw [← H_bx.out] at this; cases this)]; rfl, hbw⟩
   | false =>
    have nx := ux.vals H_bx.out.symm;have hvl : (valsQ x).length ≤ 1000000000 := by rw [vals_length]; exact hxl
    obtain ⟨bn, h_bn⟩ : ∃ bn, bn = (valsQ x).any negR := ⟨_, rfl⟩;have H_bn := hii h_bn;clear h_bn;have hW := neg_list (cx := cx) hvl nx hE;rw [vals_length, ← H_bn.out] at hW;have HW := hii hW;clear hW;go_wp2_with fail;(with_reducible refine (HW.out).mono ?_);rintro e w4 ⟨rfl, hb⟩;have uA := uA.mono hb;have uB := uB.mono hb;have uC := uC.mono hb;have hE := hE.mono hb;have rA := rA.below hb;have nx := nx.mono hb;have hbw := bu hbw hb;clear hb;clear HW g1
    cases bn with
    | true =>
     go_wp2;go_ret;exact ⟨by rw [H_R.out, unb_no (fun hu => by have := hu.2.2.2.1; rw [← H_bn.out] at this; cases this)]; rfl, hbw⟩
    | false =>
     have HF := hii (err_fit He.out);obtain ⟨z4, _⟩ := err_zero He.out;obtain ⟨nA, nB, nC⟩ := prg_num He.out uA uB uC;have hmB : p.B.length ≤ 14 := by omega
     have hmC : p.C.length ≤ 400 := by omega
     have HAB : Hid (p.A.length = p.B.length) := hii (by omega);clear z4 nB uA uB uC;obtain ⟨wl, rfl⟩ := exi w4;obtain ⟨x0, x1, x2⟩ := rA.n3;go_wp2_with fail;clear x0 x1 x2;go_loopw [33] (fun s wr => ∃ k : Nat, k ≤ p.B.length ∧ s = .int .i64 k ∧ Hid (∀ j, j < k → (agn (p.rA.getD j []) (valsQ x) 0).1 = 0 ∧ (agn (p.rA.getD j []) (valsQ x) 0).2 ≤ 0) ∧ Env wr ∧ Below wl.heap.size wl wr) (fun s _ => p.B.length - (intOf s).toNat)
     case atStart => exact ⟨0, Nat.zero_le _, rfl, hii (fun j hj => by omega), hE, br⟩
     case round =>
      clear hE;obtain ⟨k, hk, rfl, HN, hE, hbr⟩ := hrel;have hbw := bu hbw hbr;have rA := rA.below hbr;have nA := nA.mono hbr;have nC := nC.mono hbr;have nx := nx.mono hbr;have Hnx : Hid (x.length = (valsQ x).length) := hii (vals_length _).symm
      by_cases hlt : k < p.B.length
      ·have hlA : k < p.rA.length := by rw [rA_len, HAB.out]; exact hlt
       obtain ⟨a, ha0⟩ : ∃ x, p.rA[k]? = some x := ⟨p.rA[k], gE hlA⟩;obtain ⟨b0, off0, ar, cr, ea, hc, uR⟩ := nA k (a.map some) (by simp [ha0]);rw [List.length_map] at hc;subst ea;have hal : a.length = p.C.length := by have := HF.out.cols a (List.mem_of_getElem? ha0); rw [this, rC_len]
       obtain ⟨ke, c, hag⟩ : ∃ ke c, agn a (valsQ x) 0 = (ke, c) := ⟨_, _, rfl⟩;have HAG := hii hag;have HGD := hii (getD_of (d := []) ha0);have hal2 : a.length ≤ 1000000000 := by omega
       have HAL : Hid (a.length = (valsQ x).length) := hii (by rw [vals_length, hal, Hx.out]);have HKA : k < p.A.length := by rw [HAB.out]; exact hlt
       clear ha0 hag hal hlA;obtain ⟨x0, x1, x2⟩ := rA.n3;go_wp2_with fail;(with_reducible refine (dzero_ok wr hE).mono ?_);rintro e wz ⟨hz, hb⟩;obtain ⟨ng1, ao1, n1, cap1, nh1, ap1, m1, caq1, rfl, hv0⟩ := hz.rat;clear hz;have nx := nx.mono hb;have rA := rA.below hb;have hE := hE.mono hb;have uR := uR.mono hb;have hbr := bu hbr hb;have hbw := bu hbw hb;clear hb;clear x0 x1 x2;go_wp2_with fail;have hG := dsum_any a (valsQ x) 0 ke c ar ax cr cx _ wz hal2 HAL.out uR nx hv0 HAG hE;rw [← Hnx.out] at hG;have HG := hii hG;clear hG;(with_reducible refine (HG.out).mono ?_);rintro e w3 ⟨rfl, hb⟩;have rA := rA.below hb;have hE := hE.mono hb;have hbr := bu hbr hb;have hbw := bu hbw hb;clear hb;clear HG
       by_cases hke : (ke : Int) = 0
       ·obtain rfl : ke = 0 := by omega
        clear hke
        by_cases hcz : 0 < c
        ·have Hcz := hii hcz;go_wp2;go_ret;exact ⟨by rw [H_R.out, unb_row hlt HGD.out HAG.out (fun hu => absurd hu.2 (by have := Hcz.out; omega))]; rfl, hbw⟩
        ·have Hcz := hii hcz;have Hyes : Hid ((agn (p.rA.getD k []) (valsQ x) 0).1 = 0 ∧ (agn (p.rA.getD k []) (valsQ x) 0).2 ≤ 0) := hii (by rw [HGD.out, HAG.out]; exact ⟨rfl, by have := Hcz.out; omega⟩);go_wp2;go_roundw
         case rel =>
          refine ⟨k + 1, by omega, by go_num, hii fun j hj => ?_, hE, hbr⟩
          by_cases hjk : j = k
          ·subst hjk; exact Hyes.out
          ·exact HN.out j (by omega)
         case measure => simp [intOf]; omega
       ·have g1 : ((ke : Int) != 0) = true := by simpa using hke
        have Hke := hii hke;clear hke;go_wp2;go_ret;exact ⟨by rw [H_R.out, unb_row hlt HGD.out HAG.out (fun hu => absurd hu.1 (by have := Hke.out; omega))]; rfl, hbw⟩
      ·obtain rfl : k = p.B.length := by omega
       rw [HAB.out] at rA ⊢;have hcl : (valsQ p.C).length ≤ 1000000000 := by rw [vals_length]; omega
       have HCL : Hid ((valsQ p.C).length = (valsQ x).length) := hii (by rw [vals_length, vals_length, Hx.out]);have HCn : Hid (p.C.length = (valsQ p.C).length) := hii (vals_length _).symm;obtain ⟨ke, c, hag⟩ : ∃ ke c, agn (valsQ p.C) (valsQ x) 0 = (ke, c) := ⟨_, _, rfl⟩;have HAG := hii hag;clear hag;obtain ⟨x0, x1, x2⟩ := rA.n3;go_upto_region 10 with fail;clear x0 x1 x2;refine wp_region_use (wx := wr) [(vf <| .pointer (some ⟨g, 2, none⟩)), (vf <| .slice aC p.C.length cC), (vf <| .slice ax x.length cx), (fun W v => ∃ ng ao n cap nh ap m caq, v = .agg #[.bool ng, .slice ao n cap, .bool nh, .slice ap m caq] ∧ RatV W (.agg #[.bool ng, .slice ao n cap, .bool nh, .slice ap m caq]) 0), (vf <| .tuple #[.int .i64 c, .int .i64 ke]), (vf <| .tuple #[.int .i64 c, .int .i64 ke]), (vf <| .int .i64 c), (vf <| .int .i64 ke), (vf <| .int .i64 c), (vf <| .int .i64 ke)] [none, none, none, none, none, none, none, none, none, none] [true, true, true, false, true, true, true, true, true, true] [some 52, some 53, some 54, some 55, some 56, some 51, some 57, some 58, some 9, some 10] [52, 53, 54, 55, 56, 51, 57, 58, 9, 10] 0 0 (fun _ _ => True) (by decide) (by kernel_rfl) (by kernel_rfl) (by kernel_rfl) (by kernel_rfl) (of_decide_eq_true (by kernel_rfl)) (by kernel_rfl) (by kernel_rfl) (trivial) (fun _ _ _ h _ => h) br ⟨sV _, sV _, sV _, fun _ _ _ ⟨a1, a2, a3, a4, a5, a6, a7, a8, e, h⟩ hb => ⟨a1, a2, a3, a4, a5, a6, a7, a8, e, h.mono hb⟩, sV _, sV _, sV _, sV _, sV _, sV _, trivial⟩ ⟨fun _ => cV _, fun _ => cV _, fun _ => cV _, (fun h => absurd h (by decide)), fun _ => cV _, fun _ => cV _, fun _ => cV _, fun _ => cV _, fun _ => cV _, fun _ => cV _, trivial⟩ ⟨?s0, ?s1, ?s2, ?s3, ?s4, ?s5, ?s6, ?s7, ?s8, ?s9, trivial⟩ ?he
       case s0 =>
        rintro T W hb hp hA K hK;have hp := hp rfl;simp only [ovr, Act.put, sT, sZ, sS] at hK ⊢;have HK := hii hK;clear hK hA;refine wO rfl (by rfl) ?_;go_simp;exact HK.out _ _ ⟨hb, fun _ => br⟩ rfl
       case s1 =>
        rintro T W hb hp hA K hK;have e0 : T 52 = .pointer (some ⟨g, 2, none⟩) := hA.1 (by decide);have hp := trivial;obtain ⟨x0, x1, x2⟩ := (rA.below hb).n3;simp only [ovr, Act.put, sT, sZ, sS, e0] at hK ⊢;have HK := hii hK;clear hK hA;refine wO rfl (by rfl) ?_;go_simp;exact HK.out _ _ ⟨hb, fun _ => br⟩ rfl
       case s2 =>
        rintro T W hb - hA K hK;simp only [ovr, Act.put, sT, sZ, sS] at hK ⊢;have HK := hii hK;clear hK hA;refine wO rfl (by rfl) ?_;go_simp;exact HK.out _ _ ⟨hb, fun _ => br⟩ rfl
       case s3 =>
        rintro T W hb - hA K hK;simp only [ovr, Act.put, sT, sZ, sS] at hK ⊢;have HK := hii hK;clear hK hA;refine wO rfl (by rfl) ?_;go_simp;(with_reducible refine (dzero_ok W (hE.mono hb)).mono ?_);rintro e w1 ⟨hz, hb1⟩;obtain ⟨ng1, ao1, n1, cap1, nh1, ap1, m1, caq1, rfl, hv0⟩ := hz.rat
        try dsimp only
        exact HK.out _ _ ⟨bu hb hb1, fun _ => hb1⟩ (⟨ng1, ao1, n1, cap1, nh1, ap1, m1, caq1, rfl, hv0⟩)
       case s4 =>
        rintro T W hb hp hA K hK;have e1 : T 53 = .slice aC p.C.length cC := hA.1 (by decide);have e2 : T 54 = .slice ax x.length cx := hA.2.1 (by decide);have r3 : ((fun W v => ∃ ng ao n cap nh ap m caq, v = .agg #[.bool ng, .slice ao n cap, .bool nh, .slice ap m caq] ∧ RatV W (.agg #[.bool ng, .slice ao n cap, .bool nh, .slice ap m caq]) 0) : World → Value → Prop) W (T 55) := hA.2.2.1 (by decide);have hp := trivial;obtain ⟨ng1, ao1, n1, cap1, nh1, ap1, m1, caq1, e3, hv0⟩ := r3;simp only [ovr, Act.put, sT, sZ, sS, e1, e2, e3] at hK ⊢;have HK := hii hK;clear hK hA;refine wO rfl (by rfl) ?_;go_simp;have hG := dsum_any (valsQ p.C) (valsQ x) 0 ke c aC ax cC cx _ W hcl HCL.out (nC.mono hb) (nx.mono hb) hv0 HAG (hE.mono hb);rw [← Hnx.out, ← HCn.out] at hG;(with_reducible refine hG.mono ?_);rintro e w1 ⟨rfl, hb1⟩
        try dsimp only
        exact HK.out _ _ ⟨bu hb hb1, fun _ => hb1⟩ rfl
       case s5 =>
        rintro T W hb hp hA K hK;have e4 : T 56 = .tuple #[.int .i64 c, .int .i64 ke] := hA.1 (by decide);have hp := trivial;simp only [ovr, Act.put, sT, sZ, sS, e4] at hK ⊢;have HK := hii hK;clear hK hA;refine wO rfl (by rfl) ?_;go_simp;exact HK.out _ _ ⟨hb, fun _ => br⟩ rfl
       case s6 | s7 =>
        rintro T W hb hp hA K hK;have e5 : T 51 = .tuple #[.int .i64 c, .int .i64 ke] := hA.1 (by decide);have hp := trivial;simp only [ovr, Act.put, sT, sZ, sS, e5] at hK ⊢;have HK := hii hK;clear hK hA;refine wO rfl (by rfl) ?_;go_simp;exact HK.out _ _ ⟨hb, fun _ => br⟩ rfl
       case s8 =>
        rintro T W hb hp hA K hK;have e6 : T 57 = .int .i64 c := hA.1 (by decide);have e4 : T 56 = .tuple #[.int .i64 c, .int .i64 ke] := hA.2.1 (by decide);have e0 : T 52 = .pointer (some ⟨g, 2, none⟩) := hA.2.2.1 (by decide);have e1 : T 53 = .slice aC p.C.length cC := hA.2.2.2.1 (by decide);have e2 : T 54 = .slice ax x.length cx := hA.2.2.2.2.1 (by decide);have r3 : ((fun W v => ∃ ng ao n cap nh ap m caq, v = .agg #[.bool ng, .slice ao n cap, .bool nh, .slice ap m caq] ∧ RatV W (.agg #[.bool ng, .slice ao n cap, .bool nh, .slice ap m caq]) 0) : World → Value → Prop) W (T 55) := hA.2.2.2.2.2.1 (by decide);have e5 : T 51 = .tuple #[.int .i64 c, .int .i64 ke] := hA.2.2.2.2.2.2.2.1 (by decide);have hp := trivial;simp only [ovr, Act.put, sT, sZ, sS, e6, e4, e0, e1, e2, e5] at hK ⊢;have HK := hii hK;clear hK hA;refine wO rfl (by rfl) ?_;go_simp;exact HK.out _ _ ⟨hb, fun _ => br⟩ rfl
       case s9 =>
        rintro T W hb hp hA K hK;have e7 : T 58 = .int .i64 ke := hA.1 (by decide);have e8 : T 9 = .int .i64 c := hA.2.1 (by decide);have e0 : T 52 = .pointer (some ⟨g, 2, none⟩) := hA.2.2.1 (by decide);have e1 : T 53 = .slice aC p.C.length cC := hA.2.2.2.1 (by decide);have e2 : T 54 = .slice ax x.length cx := hA.2.2.2.2.1 (by decide);have r3 : ((fun W v => ∃ ng ao n cap nh ap m caq, v = .agg #[.bool ng, .slice ao n cap, .bool nh, .slice ap m caq] ∧ RatV W (.agg #[.bool ng, .slice ao n cap, .bool nh, .slice ap m caq]) 0) : World → Value → Prop) W (T 55) := hA.2.2.2.2.2.1 (by decide);have e4 : T 56 = .tuple #[.int .i64 c, .int .i64 ke] := hA.2.2.2.2.2.2.1 (by decide);have e5 : T 51 = .tuple #[.int .i64 c, .int .i64 ke] := hA.2.2.2.2.2.2.2.1 (by decide);have e6 : T 57 = .int .i64 c := hA.2.2.2.2.2.2.2.2.1 (by decide);have hp := trivial;simp only [ovr, Act.put, sT, sZ, sS, e7, e8, e0, e1, e2, e4, e5, e6] at hK ⊢;have HK := hii hK;clear hK hA;refine wO rfl (by rfl) ?_;go_simp;exact HK.out _ _ ⟨hb, fun _ => br⟩ rfl
       case he =>
        rintro T W hb hA;have f1 : T 9 = .int .i64 c := hA.of 8 (by decide) (by decide);have f2 : T 10 = .int .i64 ke := hA.of 9 (by decide) (by decide);simp only [ovr, sT, sZ, sS, f1, f2];have hbw := bu hbw hb;clear hA f1 f2 hb;have HFR : Hid (R = (decide ((ke : Int) = 0) && decide (0 < c))) := hii (by rw [H_R.out, unb_end He.out Hx.out H_bx.out.symm H_bn.out.symm HN.out HAG.out]);clear HN HAG HCL HCn hcl Hx H_bx H_bn;obtain ⟨wz, rfl⟩ := exi W;go_wp2
        all_goals go_ret
        all_goals exact ⟨by rw [HFR.out]; clear HFR; simp_all, hbw⟩
theorem rUnb_any (p : Prg) (x : List Qo) (vp : Value) (ax : Option Addr) (cx : Nat) (w : World) (h : PrgV w vp p) (hxl : x.length ≤ 1000000000) (ux : UQ w ax x) (hE : Env w) :
  Calls Tryz.prog 25 #[vp, .slice ax x.length cx] w fun e w' => e = .returned (.bool (unbB p x)) ∧ Below w.heap.size w w' := by
 obtain ⟨aA, cA, aB, cB, aC, cC, rfl, uA, uB, uC⟩ := h;obtain ⟨R, hR⟩ : ∃ R, R = unbB p x := ⟨_, rfl⟩;rw [← hR];have H_R := hii hR;clear hR;go_enter Tryz.func25, Tryz.ntmps25;go_upto_region 1 with fail;have hb := bA w (.cells #[.slice aA p.A.length cA, .slice aB p.B.length cB, .slice aC p.C.length cC] 29);have rA : Row (w.alloc (.cells #[.slice aA p.A.length cA, .slice aB p.B.length cB, .slice aC p.C.length cC] 29)) w.heap.size 29 [.slice aA p.A.length cA, .slice aB p.B.length cB, .slice aC p.C.length cC] := heap_alloc_new _ _;obtain ⟨g, hg⟩ := exi (w.heap.size);rw [← hg] at rA ⊢;clear hg;generalize w.alloc (.cells #[.slice aA p.A.length cA, .slice aB p.B.length cB, .slice aC p.C.length cC] 29) = w1 at *;have uA := uA.mono hb;have uB := uB.mono hb;have uC := uC.mono hb;have ux := ux.mono hb;have hE := hE.mono hb;have hbw := hb;clear hb;obtain ⟨x0, x1, x2⟩ := rA.n3;obtain ⟨E, h_E⟩ : ∃ E, E = p.err := ⟨_, rfl⟩;have H_E := hii h_E;clear h_E;have HV := hii (rValid13_any p _ w1 ⟨aA, cA, aB, cB, aC, cC, rfl, uA, uB, uC⟩ hE);rw [← H_E.out] at HV;go_wp2_with fail;(with_reducible refine (HV.out).mono ?_);rintro e w2 ⟨rfl, hb⟩;have uA := uA.mono hb;have uB := uB.mono hb;have uC := uC.mono hb;have ux := ux.mono hb;have hE := hE.mono hb;have rA := rA.below hb;have hbw := bu hbw hb;clear hb;clear HV x0 x1 x2
 by_cases hz : E ≠ 0
 ·have g1 : ((E : Int) != 0) = true := by rw [bne_iff_ne]; omega
  have Hz := hii hz;clear hz;go_wp2;go_ret;exact ⟨by rw [H_R.out, unb_no (fun hu => Hz.out (by rw [H_E.out]; exact hu.1))]; rfl, hbw⟩
 ·have He : Hid (p.err = 0) := hii (by rw [← H_E.out]; omega);obtain rfl : E = 0 := by omega
  clear hz;obtain ⟨x0, x1, x2⟩ := rA.n3
  by_cases h1 : x.length ≠ p.C.length
  ·have g1 : ((x.length : Int) != (p.C.length : Int)) = true := by rw [bne_iff_ne]; omega
   go_wp2;go_ret;exact ⟨by rw [H_R.out, unb_no (fun hu => h1 hu.2.1)]; rfl, hbw⟩
  ·have hx : x.length = p.C.length := by omega
   have g1 : ((x.length : Int) != (p.C.length : Int)) = false := by rw [bne_eq_false_iff_eq]; omega
   have Hx := hii hx;clear hx h1;obtain ⟨bx, h_bx⟩ : ∃ bx, bx = badQ x := ⟨_, rfl⟩;have H_bx := hii h_bx;clear h_bx;have HW := hii (rvalid14_any x ax cx w2 hxl ux hE);rw [← H_bx.out] at HW;go_wp2_with fail;(with_reducible refine (HW.out).mono ?_);rintro e w3 ⟨rfl, hb⟩;have uA := uA.mono hb;have uB := uB.mono hb;have uC := uC.mono hb;have ux := ux.mono hb;have hE := hE.mono hb;have rA := rA.below hb;have hbw := bu hbw hb;clear hb;clear HW x0 x1 x2
   cases bx with
   | true =>
    go_wp2;go_ret;exact ⟨by rw [H_R.out, unb_no (fun hu => by have := hu.2.2.1; rw [← H_bx.out] at this; cases this)]; rfl, hbw⟩
   | false =>
    have nx := ux.vals H_bx.out.symm;have hvl : (valsQ x).length ≤ 1000000000 := by rw [vals_length]; exact hxl
    obtain ⟨bn, h_bn⟩ : ∃ bn, bn = (valsQ x).any negR := ⟨_, rfl⟩;have H_bn := hii h_bn;clear h_bn;have hW := rpositive_any (valsQ x) ax cx w3 hvl nx;rw [vals_length, ← H_bn.out] at hW;have HW := hii hW;clear hW;go_wp2_with fail;(with_reducible refine (HW.out).mono ?_);rintro e w4 ⟨rfl, hb⟩;have uA := uA.mono hb;have uB := uB.mono hb;have uC := uC.mono hb;have hE := hE.mono hb;have rA := rA.below hb;have nx := nx.mono hb;have hbw := bu hbw hb;clear hb;clear HW g1
    cases bn with
    | true =>
     go_wp2;go_ret;exact ⟨by rw [H_R.out, unb_no (fun hu => by have := hu.2.2.2.1; rw [← H_bn.out] at this; cases this)]; rfl, hbw⟩
    | false =>
     have HF := hii (err_fit He.out);obtain ⟨z4, _⟩ := err_zero He.out;obtain ⟨nA, nB, nC⟩ := prg_num He.out uA uB uC;have hmB : p.B.length ≤ 14 := by omega
     have hmC : p.C.length ≤ 400 := by omega
     have HAB : Hid (p.A.length = p.B.length) := hii (by omega);clear z4 nB uA uB uC;obtain ⟨wl, rfl⟩ := exi w4;obtain ⟨x0, x1, x2⟩ := rA.n3;go_wp2_with fail;clear x0 x1 x2;go_loopw [5] (fun s wr => ∃ k : Nat, k ≤ p.B.length ∧ s = .int .i64 k ∧ Hid (∀ j, j < k → (agn (p.rA.getD j []) (valsQ x) 0).1 = 0 ∧ (agn (p.rA.getD j []) (valsQ x) 0).2 ≤ 0) ∧ Env wr ∧ Below wl.heap.size wl wr) (fun s _ => p.B.length - (intOf s).toNat)
     case atStart => exact ⟨0, Nat.zero_le _, rfl, hii (fun j hj => by omega), hE, br⟩
     case round =>
      clear hE;obtain ⟨k, hk, rfl, HN, hE, hbr⟩ := hrel;have hbw := bu hbw hbr;have rA := rA.below hbr;have nA := nA.mono hbr;have nC := nC.mono hbr;have nx := nx.mono hbr;have Hnx : Hid (x.length = (valsQ x).length) := hii (vals_length _).symm
      by_cases hlt : k < p.B.length
      ·have hlA : k < p.rA.length := by rw [rA_len, HAB.out]; exact hlt
       obtain ⟨a, ha0⟩ : ∃ x, p.rA[k]? = some x := ⟨p.rA[k], gE hlA⟩;obtain ⟨b0, off0, ar, cr, ea, hc, uR⟩ := nA k (a.map some) (by simp [ha0]);rw [List.length_map] at hc;subst ea;have hal : a.length = p.C.length := by have := HF.out.cols a (List.mem_of_getElem? ha0); rw [this, rC_len]
       obtain ⟨ke, c, hag⟩ : ∃ ke c, agn a (valsQ x) 0 = (ke, c) := ⟨_, _, rfl⟩;have HAG := hii hag;have HGD := hii (getD_of (d := []) ha0);have hal2 : a.length ≤ 1000000000 := by omega
       have HAL : Hid (a.length = (valsQ x).length) := hii (by rw [vals_length, hal, Hx.out]);have HKA : k < p.A.length := by rw [HAB.out]; exact hlt
       clear ha0 hag hal hlA;obtain ⟨x0, x1, x2⟩ := rA.n3;go_upto_region 6 with fail;clear x0 x1 x2;refine wp_region_use (wx := wr) [(vf <| .pointer (some ⟨g, 0, none⟩)), (vf <| .slice (some ⟨b0, off0, none⟩) p.A.length cA), (vf <| .int .i64 k), (vf <| .pointer (some ⟨b0, off0 + k, none⟩)), (vf <| .slice ar a.length cr), (vf <| .slice ax x.length cx), (fun W v => ∃ ng ao n cap nh ap m caq, v = .agg #[.bool ng, .slice ao n cap, .bool nh, .slice ap m caq] ∧ RatV W (.agg #[.bool ng, .slice ao n cap, .bool nh, .slice ap m caq]) 0), (vf <| .tuple #[.int .i64 c, .int .i64 ke]), (vf <| .tuple #[.int .i64 c, .int .i64 ke]), (vf <| .int .i64 c), (vf <| .int .i64 ke), (vf <| .int .i64 c), (vf <| .int .i64 ke)] [none, none, none, none, none, none, none, none, none, none, none, none, none] [true, true, true, true, true, true, false, true, true, true, true, true, true] [some 39, some 40, some 41, some 42, some 43, some 44, some 45, some 46, some 38, some 47, some 48, some 6, some 7] [39, 40, 41, 42, 43, 44, 45, 46, 38, 47, 48, 6, 7] 0 0 (fun _ _ => True) (by decide) (by kernel_rfl) (by kernel_rfl) (by kernel_rfl) (by kernel_rfl) (of_decide_eq_true (by kernel_rfl)) (by kernel_rfl) (by kernel_rfl) (trivial) (fun _ _ _ h _ => h) br ⟨sV _, sV _, sV _, sV _, sV _, sV _, fun _ _ _ ⟨a1, a2, a3, a4, a5, a6, a7, a8, e, h⟩ hb => ⟨a1, a2, a3, a4, a5, a6, a7, a8, e, h.mono hb⟩, sV _, sV _, sV _, sV _, sV _, sV _, trivial⟩ ⟨fun _ => cV _, fun _ => cV _, fun _ => cV _, fun _ => cV _, fun _ => cV _, fun _ => cV _, (fun h => absurd h (by decide)), fun _ => cV _, fun _ => cV _, fun _ => cV _, fun _ => cV _, fun _ => cV _, fun _ => cV _, trivial⟩ ⟨?s0, ?s1, ?s2, ?s3, ?s4, ?s5, ?s6, ?s7, ?s8, ?s9, ?s10, ?s11, ?s12, trivial⟩ ?he
       case s0 =>
        rintro T W hb hp hA K hK;have hp := hp rfl;simp only [ovr, Act.put, sT, sZ, sS] at hK ⊢;have HK := hii hK;clear hK hA;refine wO rfl (by rfl) ?_;go_simp;exact HK.out _ _ ⟨hb, fun _ => br⟩ rfl
       case s1 =>
        rintro T W hb hp hA K hK;have e0 : T 39 = .pointer (some ⟨g, 0, none⟩) := hA.1 (by decide);have hp := trivial;obtain ⟨x0, x1, x2⟩ := (rA.below hb).n3;simp only [ovr, Act.put, sT, sZ, sS, e0] at hK ⊢;have HK := hii hK;clear hK hA;refine wO rfl (by rfl) ?_;go_simp;exact HK.out _ _ ⟨hb, fun _ => br⟩ rfl
       case s2 | s5 =>
        rintro T W hb - hA K hK;simp only [ovr, Act.put, sT, sZ, sS] at hK ⊢;have HK := hii hK;clear hK hA;refine wO rfl (by rfl) ?_;go_simp;exact HK.out _ _ ⟨hb, fun _ => br⟩ rfl
       case s3 =>
        rintro T W hb hp hA K hK;have e1 : T 40 = .slice (some ⟨b0, off0, none⟩) p.A.length cA := hA.1 (by decide);have e2 : T 41 = .int .i64 k := hA.2.1 (by decide);have hp := trivial;simp only [ovr, Act.put, sT, sZ, sS, e1, e2] at hK ⊢;have HK := hii hK;clear hK hA;refine wO rfl (by rfl) ?_;go_simp;exact HK.out _ _ ⟨hb, fun _ => br⟩ rfl
       case s4 =>
        rintro T W hb hp hA K hK;have e3 : T 42 = .pointer (some ⟨b0, off0 + k, none⟩) := hA.1 (by decide);have hp := trivial;have hc := (hb.cell (p := ⟨b0, off0 + k, none⟩) (cell_lt hc)).trans hc;simp only [ovr, Act.put, sT, sZ, sS, e3] at hK ⊢;have HK := hii hK;clear hK hA;refine wO rfl (by rfl) ?_;go_simp;exact HK.out _ _ ⟨hb, fun _ => br⟩ rfl
       case s6 =>
        rintro T W hb - hA K hK;simp only [ovr, Act.put, sT, sZ, sS] at hK ⊢;have HK := hii hK;clear hK hA;refine wO rfl (by rfl) ?_;go_simp;(with_reducible refine (rzero_ok W (hE.mono hb)).mono ?_);rintro e w1 ⟨hz, hb1⟩;obtain ⟨ng1, ao1, n1, cap1, nh1, ap1, m1, caq1, rfl, hv0⟩ := hz.rat
        try dsimp only
        exact HK.out _ _ ⟨bu hb hb1, fun _ => hb1⟩ (⟨ng1, ao1, n1, cap1, nh1, ap1, m1, caq1, rfl, hv0⟩)
       case s7 =>
        rintro T W hb hp hA K hK;have e4 : T 43 = .slice ar a.length cr := hA.1 (by decide);have e5 : T 44 = .slice ax x.length cx := hA.2.1 (by decide);have r6 : ((fun W v => ∃ ng ao n cap nh ap m caq, v = .agg #[.bool ng, .slice ao n cap, .bool nh, .slice ap m caq] ∧ RatV W (.agg #[.bool ng, .slice ao n cap, .bool nh, .slice ap m caq]) 0) : World → Value → Prop) W (T 45) := hA.2.2.1 (by decide);have hp := trivial;obtain ⟨ng1, ao1, n1, cap1, nh1, ap1, m1, caq1, e6, hv0⟩ := r6;simp only [ovr, Act.put, sT, sZ, sS, e4, e5, e6] at hK ⊢;have HK := hii hK;clear hK hA;refine wO rfl (by rfl) ?_;go_simp;have hG := ragainst_any a (valsQ x) 0 ke c ar ax cr cx _ W hal2 HAL.out (uR.mono hb) (nx.mono hb) hv0 HAG (hE.mono hb);rw [← Hnx.out] at hG;(with_reducible refine hG.mono ?_);rintro e w1 ⟨rfl, hb1⟩
        try dsimp only
        exact HK.out _ _ ⟨bu hb hb1, fun _ => hb1⟩ rfl
       case s8 =>
        rintro T W hb hp hA K hK;have e7 : T 46 = .tuple #[.int .i64 c, .int .i64 ke] := hA.1 (by decide);have hp := trivial;simp only [ovr, Act.put, sT, sZ, sS, e7] at hK ⊢;have HK := hii hK;clear hK hA;refine wO rfl (by rfl) ?_;go_simp;exact HK.out _ _ ⟨hb, fun _ => br⟩ rfl
       case s9 | s10 =>
        rintro T W hb hp hA K hK;have e8 : T 38 = .tuple #[.int .i64 c, .int .i64 ke] := hA.1 (by decide);have hp := trivial;simp only [ovr, Act.put, sT, sZ, sS, e8] at hK ⊢;have HK := hii hK;clear hK hA;refine wO rfl (by rfl) ?_;go_simp;exact HK.out _ _ ⟨hb, fun _ => br⟩ rfl
       case s11 =>
        rintro T W hb hp hA K hK;have e9 : T 47 = .int .i64 c := hA.1 (by decide);have e7 : T 46 = .tuple #[.int .i64 c, .int .i64 ke] := hA.2.1 (by decide);have e0 : T 39 = .pointer (some ⟨g, 0, none⟩) := hA.2.2.1 (by decide);have e1 : T 40 = .slice (some ⟨b0, off0, none⟩) p.A.length cA := hA.2.2.2.1 (by decide);have e2 : T 41 = .int .i64 k := hA.2.2.2.2.1 (by decide);have e3 : T 42 = .pointer (some ⟨b0, off0 + k, none⟩) := hA.2.2.2.2.2.1 (by decide);have e4 : T 43 = .slice ar a.length cr := hA.2.2.2.2.2.2.1 (by decide);have e5 : T 44 = .slice ax x.length cx := hA.2.2.2.2.2.2.2.1 (by decide);have r6 : ((fun W v => ∃ ng ao n cap nh ap m caq, v = .agg #[.bool ng, .slice ao n cap, .bool nh, .slice ap m caq] ∧ RatV W (.agg #[.bool ng, .slice ao n cap, .bool nh, .slice ap m caq]) 0) : World → Value → Prop) W (T 45) := hA.2.2.2.2.2.2.2.2.1 (by decide);have e8 : T 38 = .tuple #[.int .i64 c, .int .i64 ke] := hA.2.2.2.2.2.2.2.2.2.2.1 (by decide);have hp := trivial;simp only [ovr, Act.put, sT, sZ, sS, e9, e7, e0, e1, e2, e3, e4, e5, e8] at hK ⊢;have HK := hii hK;clear hK hA;refine wO rfl (by rfl) ?_;go_simp;exact HK.out _ _ ⟨hb, fun _ => br⟩ rfl
       case s12 =>
        rintro T W hb hp hA K hK;have e10 : T 48 = .int .i64 ke := hA.1 (by decide);have e11 : T 6 = .int .i64 c := hA.2.1 (by decide);have e0 : T 39 = .pointer (some ⟨g, 0, none⟩) := hA.2.2.1 (by decide);have e1 : T 40 = .slice (some ⟨b0, off0, none⟩) p.A.length cA := hA.2.2.2.1 (by decide);have e2 : T 41 = .int .i64 k := hA.2.2.2.2.1 (by decide);have e3 : T 42 = .pointer (some ⟨b0, off0 + k, none⟩) := hA.2.2.2.2.2.1 (by decide);have e4 : T 43 = .slice ar a.length cr := hA.2.2.2.2.2.2.1 (by decide);have e5 : T 44 = .slice ax x.length cx := hA.2.2.2.2.2.2.2.1 (by decide);have r6 : ((fun W v => ∃ ng ao n cap nh ap m caq, v = .agg #[.bool ng, .slice ao n cap, .bool nh, .slice ap m caq] ∧ RatV W (.agg #[.bool ng, .slice ao n cap, .bool nh, .slice ap m caq]) 0) : World → Value → Prop) W (T 45) := hA.2.2.2.2.2.2.2.2.1 (by decide);have e7 : T 46 = .tuple #[.int .i64 c, .int .i64 ke] := hA.2.2.2.2.2.2.2.2.2.1 (by decide);have e8 : T 38 = .tuple #[.int .i64 c, .int .i64 ke] := hA.2.2.2.2.2.2.2.2.2.2.1 (by decide);have e9 : T 47 = .int .i64 c := hA.2.2.2.2.2.2.2.2.2.2.2.1 (by decide);have hp := trivial;simp only [ovr, Act.put, sT, sZ, sS, e10, e11, e0, e1, e2, e3, e4, e5, e7, e8, e9] at hK ⊢;have HK := hii hK;clear hK hA;refine wO rfl (by rfl) ?_;go_simp;exact HK.out _ _ ⟨hb, fun _ => br⟩ rfl
       case he =>
        rintro T W hb hA;have f1 : T 6 = .int .i64 c := hA.of 11 (by decide) (by decide);have f2 : T 7 = .int .i64 ke := hA.of 12 (by decide) (by decide);simp only [ovr, sT, sZ, sS, f1, f2];have rA := rA.below hb;have hE := hE.mono hb;have hbr := bu hbr hb;have hbw := bu hbw hb;clear hb;clear hA f1 f2;obtain ⟨wz, rfl⟩ := exi W
        by_cases hke : (ke : Int) = 0
        ·obtain rfl : ke = 0 := by omega
         clear hke
         by_cases hcz : 0 < c
         ·have Hcz := hii hcz;go_wp2;go_ret;exact ⟨by rw [H_R.out, unb_row hlt HGD.out HAG.out (fun hu => absurd hu.2 (by have := Hcz.out; omega))]; rfl, hbw⟩
         ·have Hcz := hii hcz;have Hyes : Hid ((agn (p.rA.getD k []) (valsQ x) 0).1 = 0 ∧ (agn (p.rA.getD k []) (valsQ x) 0).2 ≤ 0) := hii (by rw [HGD.out, HAG.out]; exact ⟨rfl, by have := Hcz.out; omega⟩);go_wp2;go_roundw
          case rel =>
           refine ⟨k + 1, by omega, by go_num, hii fun j hj => ?_, hE, hbr⟩
           by_cases hjk : j = k
           ·subst hjk; exact Hyes.out
           ·exact HN.out j (by omega)
          case measure => simp [intOf]; omega
        ·have g1 : ((ke : Int) != 0) = true := by simpa using hke
         have Hke := hii hke;clear hke;go_wp2;go_ret;exact ⟨by rw [H_R.out, unb_row hlt HGD.out HAG.out (fun hu => absurd hu.1 (by have := Hke.out; omega))]; rfl, hbw⟩
      ·obtain rfl : k = p.B.length := by omega
       rw [HAB.out] at rA ⊢;have hcl : (valsQ p.C).length ≤ 1000000000 := by rw [vals_length]; omega
       have HCL : Hid ((valsQ p.C).length = (valsQ x).length) := hii (by rw [vals_length, vals_length, Hx.out]);have HCn : Hid (p.C.length = (valsQ p.C).length) := hii (vals_length _).symm;obtain ⟨ke, c, hag⟩ : ∃ ke c, agn (valsQ p.C) (valsQ x) 0 = (ke, c) := ⟨_, _, rfl⟩;have HAG := hii hag;clear hag;obtain ⟨x0, x1, x2⟩ := rA.n3;go_upto_region 9 with fail;clear x0 x1 x2;refine wp_region_use (wx := wr) [(vf <| .pointer (some ⟨g, 2, none⟩)), (vf <| .slice aC p.C.length cC), (vf <| .slice ax x.length cx), (fun W v => ∃ ng ao n cap nh ap m caq, v = .agg #[.bool ng, .slice ao n cap, .bool nh, .slice ap m caq] ∧ RatV W (.agg #[.bool ng, .slice ao n cap, .bool nh, .slice ap m caq]) 0), (vf <| .tuple #[.int .i64 c, .int .i64 ke]), (vf <| .tuple #[.int .i64 c, .int .i64 ke]), (vf <| .int .i64 c), (vf <| .int .i64 ke), (vf <| .int .i64 c), (vf <| .int .i64 ke)] [none, none, none, none, none, none, none, none, none, none] [true, true, true, false, true, true, true, true, true, true] [some 56, some 57, some 58, some 59, some 60, some 55, some 61, some 62, some 8, some 9] [56, 57, 58, 59, 60, 55, 61, 62, 8, 9] 0 0 (fun _ _ => True) (by decide) (by kernel_rfl) (by kernel_rfl) (by kernel_rfl) (by kernel_rfl) (of_decide_eq_true (by kernel_rfl)) (by kernel_rfl) (by kernel_rfl) (trivial) (fun _ _ _ h _ => h) br ⟨sV _, sV _, sV _, fun _ _ _ ⟨a1, a2, a3, a4, a5, a6, a7, a8, e, h⟩ hb => ⟨a1, a2, a3, a4, a5, a6, a7, a8, e, h.mono hb⟩, sV _, sV _, sV _, sV _, sV _, sV _, trivial⟩ ⟨fun _ => cV _, fun _ => cV _, fun _ => cV _, (fun h => absurd h (by decide)), fun _ => cV _, fun _ => cV _, fun _ => cV _, fun _ => cV _, fun _ => cV _, fun _ => cV _, trivial⟩ ⟨?s0, ?s1, ?s2, ?s3, ?s4, ?s5, ?s6, ?s7, ?s8, ?s9, trivial⟩ ?he
       case s0 =>
        rintro T W hb hp hA K hK;have hp := hp rfl;simp only [ovr, Act.put, sT, sZ, sS] at hK ⊢;have HK := hii hK;clear hK hA;refine wO rfl (by rfl) ?_;go_simp;exact HK.out _ _ ⟨hb, fun _ => br⟩ rfl
       case s1 =>
        rintro T W hb hp hA K hK;have e0 : T 56 = .pointer (some ⟨g, 2, none⟩) := hA.1 (by decide);have hp := trivial;obtain ⟨x0, x1, x2⟩ := (rA.below hb).n3;simp only [ovr, Act.put, sT, sZ, sS, e0] at hK ⊢;have HK := hii hK;clear hK hA;refine wO rfl (by rfl) ?_;go_simp;exact HK.out _ _ ⟨hb, fun _ => br⟩ rfl
       case s2 =>
        rintro T W hb - hA K hK;simp only [ovr, Act.put, sT, sZ, sS] at hK ⊢;have HK := hii hK;clear hK hA;refine wO rfl (by rfl) ?_;go_simp;exact HK.out _ _ ⟨hb, fun _ => br⟩ rfl
       case s3 =>
        rintro T W hb - hA K hK;simp only [ovr, Act.put, sT, sZ, sS] at hK ⊢;have HK := hii hK;clear hK hA;refine wO rfl (by rfl) ?_;go_simp;(with_reducible refine (rzero_ok W (hE.mono hb)).mono ?_);rintro e w1 ⟨hz, hb1⟩;obtain ⟨ng1, ao1, n1, cap1, nh1, ap1, m1, caq1, rfl, hv0⟩ := hz.rat
        try dsimp only
        exact HK.out _ _ ⟨bu hb hb1, fun _ => hb1⟩ (⟨ng1, ao1, n1, cap1, nh1, ap1, m1, caq1, rfl, hv0⟩)
       case s4 =>
        rintro T W hb hp hA K hK;have e1 : T 57 = .slice aC p.C.length cC := hA.1 (by decide);have e2 : T 58 = .slice ax x.length cx := hA.2.1 (by decide);have r3 : ((fun W v => ∃ ng ao n cap nh ap m caq, v = .agg #[.bool ng, .slice ao n cap, .bool nh, .slice ap m caq] ∧ RatV W (.agg #[.bool ng, .slice ao n cap, .bool nh, .slice ap m caq]) 0) : World → Value → Prop) W (T 59) := hA.2.2.1 (by decide);have hp := trivial;obtain ⟨ng1, ao1, n1, cap1, nh1, ap1, m1, caq1, e3, hv0⟩ := r3;simp only [ovr, Act.put, sT, sZ, sS, e1, e2, e3] at hK ⊢;have HK := hii hK;clear hK hA;refine wO rfl (by rfl) ?_;go_simp;have hG := ragainst_any (valsQ p.C) (valsQ x) 0 ke c aC ax cC cx _ W hcl HCL.out (nC.mono hb) (nx.mono hb) hv0 HAG (hE.mono hb);rw [← Hnx.out, ← HCn.out] at hG;(with_reducible refine hG.mono ?_);rintro e w1 ⟨rfl, hb1⟩
        try dsimp only
        exact HK.out _ _ ⟨bu hb hb1, fun _ => hb1⟩ rfl
       case s5 =>
        rintro T W hb hp hA K hK;have e4 : T 60 = .tuple #[.int .i64 c, .int .i64 ke] := hA.1 (by decide);have hp := trivial;simp only [ovr, Act.put, sT, sZ, sS, e4] at hK ⊢;have HK := hii hK;clear hK hA;refine wO rfl (by rfl) ?_;go_simp;exact HK.out _ _ ⟨hb, fun _ => br⟩ rfl
       case s6 | s7 =>
        rintro T W hb hp hA K hK;have e5 : T 55 = .tuple #[.int .i64 c, .int .i64 ke] := hA.1 (by decide);have hp := trivial;simp only [ovr, Act.put, sT, sZ, sS, e5] at hK ⊢;have HK := hii hK;clear hK hA;refine wO rfl (by rfl) ?_;go_simp;exact HK.out _ _ ⟨hb, fun _ => br⟩ rfl
       case s8 =>
        rintro T W hb hp hA K hK;have e6 : T 61 = .int .i64 c := hA.1 (by decide);have e4 : T 60 = .tuple #[.int .i64 c, .int .i64 ke] := hA.2.1 (by decide);have e0 : T 56 = .pointer (some ⟨g, 2, none⟩) := hA.2.2.1 (by decide);have e1 : T 57 = .slice aC p.C.length cC := hA.2.2.2.1 (by decide);have e2 : T 58 = .slice ax x.length cx := hA.2.2.2.2.1 (by decide);have r3 : ((fun W v => ∃ ng ao n cap nh ap m caq, v = .agg #[.bool ng, .slice ao n cap, .bool nh, .slice ap m caq] ∧ RatV W (.agg #[.bool ng, .slice ao n cap, .bool nh, .slice ap m caq]) 0) : World → Value → Prop) W (T 59) := hA.2.2.2.2.2.1 (by decide);have e5 : T 55 = .tuple #[.int .i64 c, .int .i64 ke] := hA.2.2.2.2.2.2.2.1 (by decide);have hp := trivial;simp only [ovr, Act.put, sT, sZ, sS, e6, e4, e0, e1, e2, e5] at hK ⊢;have HK := hii hK;clear hK hA;refine wO rfl (by rfl) ?_;go_simp;exact HK.out _ _ ⟨hb, fun _ => br⟩ rfl
       case s9 =>
        rintro T W hb hp hA K hK;have e7 : T 62 = .int .i64 ke := hA.1 (by decide);have e8 : T 8 = .int .i64 c := hA.2.1 (by decide);have e0 : T 56 = .pointer (some ⟨g, 2, none⟩) := hA.2.2.1 (by decide);have e1 : T 57 = .slice aC p.C.length cC := hA.2.2.2.1 (by decide);have e2 : T 58 = .slice ax x.length cx := hA.2.2.2.2.1 (by decide);have r3 : ((fun W v => ∃ ng ao n cap nh ap m caq, v = .agg #[.bool ng, .slice ao n cap, .bool nh, .slice ap m caq] ∧ RatV W (.agg #[.bool ng, .slice ao n cap, .bool nh, .slice ap m caq]) 0) : World → Value → Prop) W (T 59) := hA.2.2.2.2.2.1 (by decide);have e4 : T 60 = .tuple #[.int .i64 c, .int .i64 ke] := hA.2.2.2.2.2.2.1 (by decide);have e5 : T 55 = .tuple #[.int .i64 c, .int .i64 ke] := hA.2.2.2.2.2.2.2.1 (by decide);have e6 : T 61 = .int .i64 c := hA.2.2.2.2.2.2.2.2.1 (by decide);have hp := trivial;simp only [ovr, Act.put, sT, sZ, sS, e7, e8, e0, e1, e2, e4, e5, e6] at hK ⊢;have HK := hii hK;clear hK hA;refine wO rfl (by rfl) ?_;go_simp;exact HK.out _ _ ⟨hb, fun _ => br⟩ rfl
       case he =>
        rintro T W hb hA;have f1 : T 8 = .int .i64 c := hA.of 8 (by decide) (by decide);have f2 : T 9 = .int .i64 ke := hA.of 9 (by decide) (by decide);simp only [ovr, sT, sZ, sS, f1, f2];have hbw := bu hbw hb;clear hA f1 f2 hb;have HFR : Hid (R = (decide ((ke : Int) = 0) && decide (0 < c))) := hii (by rw [H_R.out, unb_end He.out Hx.out H_bx.out.symm H_bn.out.symm HN.out HAG.out]);clear HN HAG HCL HCn hcl Hx H_bx H_bn;obtain ⟨wz, rfl⟩ := exi W;go_wp2
        all_goals go_ret
        all_goals exact ⟨by rw [HFR.out]; clear HFR; simp_all, hbw⟩
end Go.Proofs.YtgfpbghgpdpepaaGreatDoor
