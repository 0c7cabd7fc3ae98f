/-
  The error of a program, a solution and prices, in the program and in the reference.
-/
import Derived.Test.YtgfpbghgpdpepaaGreatDoorDuP
set_option linter.unusedVariables false
set_option linter.unusedSimpArgs false
set_option maxRecDepth 100000
set_option maxHeartbeats 25600000
namespace Go.Proofs.YtgfpbghgpdpepaaGreatDoor
open Go.RowKit
abbrev vf (x : Value) : World → Value → Prop := fun _ v => v = x
theorem chk_err {p : Prg} {x y : List Qo} (h : p.err ≠ 0) : chkErr p x y = p.err := by unfold chkErr; rw [if_pos h]
theorem chk_len {p : Prg} {x y : List Qo} (h : p.err = 0) (h2 : x.length ≠ p.C.length ∨ y.length ≠ p.B.length) : chkErr p x y = 6 := by unfold chkErr; rw [if_neg (by simpa using h), if_pos h2]
theorem chk_bad {p : Prg} {x y : List Qo} (h : p.err = 0) (h2 : x.length = p.C.length) (h3 : y.length = p.B.length) (h4 : badQ x = true ∨ badQ y = true) : chkErr p x y = 1 := by
 unfold chkErr; rw [if_neg (by simpa using h), if_neg (by omega), if_pos h4]
theorem chk_solE {p : Prg} {x y : List Qo} (h1 : p.err = 0) (h2 : x.length = p.C.length) (h3 : y.length = p.B.length) (h4 : badQ x = false) (h5 : badQ y = false) (h6 : solErr p.rA p.rB (valsQ x) ≠ 0) : chkErr p x y = solErr p.rA p.rB (valsQ x) := by
 unfold chkErr;rw [if_neg (by simpa using h1), if_neg (by omega), if_neg (by rw [h4, h5]; simp)];exact if_pos h6
theorem rA_len (p : Prg) : p.rA.length = p.A.length := by simp [Prg.rA]
theorem UQ.vals {w : World} {ao : Option Addr} {l : List Qo} (h : UQ w ao l) (hb : badQ l = false) : UQ w ao ((valsQ l).map some) := by rw [vals_some hb]; exact h
theorem prg_num {w : World} {p : Prg} (he : p.err = 0) {aA aB aC : Option Addr} (uA : UM w aA p.A) (uB : UQ w aB p.B) (uC : UQ w aC p.C) : UM w aA (p.rA.map (·.map some)) ∧ UQ w aB (p.rB.map some) ∧ UQ w aC (p.rC.map some) := by
 obtain ⟨e1, e2, e3⟩ := err_eq he;rw [← e1, ← e2, ← e3];exact ⟨uA, uB, uC⟩
section
variable {p : Prg} {x y : List Qo}
theorem dsol_at (he : Hid (p.err = 0)) (hx : Hid (x.length = p.C.length)) (bx : Hid (badQ x = false)) {aA aB aC ax : Option Addr} {cA cB cC cx : Nat} {w : World} (uA : UM w aA p.A) (uB : UQ w aB p.B) (uC : UQ w aC p.C) (ux : UQ w ax x) (hE : Env w) :
  Calls Tryz.prog 109 #[.agg #[.slice aA p.A.length cA, .slice aB p.B.length cB, .slice aC p.C.length cC], .slice ax x.length cx] w fun e w' => e = .returned (.int .i64 (solErr p.rA p.rB (valsQ x))) ∧ Below w.heap.size w w' := by
 obtain ⟨h1, h2, _⟩ := prg_num he.out uA uB uC;obtain ⟨z, _⟩ := err_zero he.out;have := dsolution_any p.rA p.rB p.rC (valsQ x) (hii (err_fit he.out)) (hii (by rw [vals_length, rC_len, hx.out])) (by rw [rB_len]; exact z.2.1) (by rw [rC_len]; exact z.2.2.2.1) aA aB aC ax cA cB cC cx w h1 h2 (ux.vals bx.out) hE;rw [rA_len, rB_len, rC_len, vals_length] at this;exact this
theorem dpri_at (he : Hid (p.err = 0)) (hy : Hid (y.length = p.B.length)) (by' : Hid (badQ y = false)) {aA aB aC ax : Option Addr} {cA cB cC cx : Nat} {w : World} (uA : UM w aA p.A) (uB : UQ w aB p.B) (uC : UQ w aC p.C) (uy : UQ w ax y) (hE : Env w) :
  Calls Tryz.prog 110 #[.agg #[.slice aA p.A.length cA, .slice aB p.B.length cB, .slice aC p.C.length cC], .slice ax y.length cx] w fun e w' => e = .returned (.int .i64 (priErr p.rA p.rC (valsQ y))) ∧ Below w.heap.size w w' := by
 obtain ⟨h1, _, h2⟩ := prg_num he.out uA uB uC;obtain ⟨z, _⟩ := err_zero he.out;have := dprices_any p.rA p.rB p.rC (valsQ y) (hii (err_fit he.out)) (hii (by rw [vals_length, rB_len, hy.out])) (by rw [rB_len]; exact z.2.1) (by rw [rC_len]; exact z.2.2.2.1) aA aB aC ax cA cB cC cx w h1 h2 (uy.vals by'.out) hE;rw [rA_len, rB_len, rC_len, vals_length] at this;exact this
end
theorem wrong_list {x : List Qo} {ax : Option Addr} {cx : Nat} {w : World} (hl : x.length ≤ 1000000000) (ux : UQ w ax x) (hE : Env w) :
  Calls Tryz.prog 68 #[.slice ax x.length cx, .func (.func 52) #[] #[]] w fun e w' => e = .returned (.bool (badQ x)) ∧ Below w.heap.size w w' := by
 have eg1 : ∀ args w, (callFunc 52 args).run Tryz.prog w = .ok (.enter 52 args) w := enters_of Tryz.func52 (by kernel_rfl) rfl;have HT : Tells 52 #[] (·.isNone) x w := by
  intro o v W ho hv hE2 hb2;have := dwrong_any v o.isSome W hv.vq hE2
  cases o <;> exact this
 exact ContainsFunc_q 52 #[] (·.isNone) eg1 x ax cx w hl ux hE HT
theorem neg_list {x : List Rat} {ax : Option Addr} {cx : Nat} {w : World} (hl : x.length ≤ 1000000000) (ux : UQ w ax (x.map some)) (hE : Env w) :
  Calls Tryz.prog 68 #[.slice ax x.length cx, .func (.func 69) #[] #[]] w fun e w' => e = .returned (.bool (x.any negR)) ∧ Below w.heap.size w w' := by
 have eg1 : ∀ args w, (callFunc 69 args).run Tryz.prog w = .ok (.enter 69 args) w := enters_of Tryz.func69 (by kernel_rfl) rfl;have HT : Tells 69 #[] negO (x.map some) w := by
  intro o v W ho hv hE2 hb2;obtain ⟨r, _, rfl⟩ := List.mem_map.1 ho;exact dneg_any v r W hv hE2
 have := ContainsFunc_q 69 #[] negO eg1 (x.map some) ax cx w (by rw [List.length_map]; exact hl) ux hE HT;rw [List.length_map, any_some] at this;exact this
theorem dcheck_any (p : Prg) (x y : List Qo) (vp : Value) (ax ay : Option Addr) (cx cy : Nat) (w : World) (h : PrgV w vp p) (hxl : x.length ≤ 1000000000) (hyl : y.length ≤ 1000000000) (ux : UQ w ax x) (uy : UQ w ay y) (hE : Env w) :
  Calls Tryz.prog 51 #[vp, .slice ax x.length cx, .slice ay y.length cy] w fun e w' => e = .returned (.int .i64 (chkErr p x y)) ∧ Below w.heap.size w w' := by
 obtain ⟨aA, cA, aB, cB, aC, cC, rfl, uA, uB, uC⟩ := h;go_enter Tryz.func51, Tryz.ntmps51;go_upto_region 1 with fail;have hb := bA w (.cells #[.slice aA p.A.length cA, .slice aB p.B.length cB, .slice aC p.C.length cC] 29);have rA : Row (w.alloc (.cells #[.slice aA p.A.length cA, .slice aB p.B.length cB, .slice aC p.C.length cC] 29)) w.heap.size 29 [.slice aA p.A.length cA, .slice aB p.B.length cB, .slice aC p.C.length cC] := heap_alloc_new _ _;obtain ⟨g, hg⟩ := exi (w.heap.size);rw [← hg] at rA ⊢;clear hg;generalize w.alloc (.cells #[.slice aA p.A.length cA, .slice aB p.B.length cB, .slice aC p.C.length cC] 29) = w1 at *;have uA := uA.mono hb;have uB := uB.mono hb;have uC := uC.mono hb;have ux := ux.mono hb;have uy := uy.mono hb;have hE := hE.mono hb;have hbw := hb;clear hb;obtain ⟨x0, x1, x2⟩ := rA.n3;obtain ⟨E, h_E⟩ : ∃ E, E = p.err := ⟨_, rfl⟩;have H_E := hii h_E;clear h_E;have HV := hii (sValid_any p _ w1 ⟨aA, cA, aB, cB, aC, cC, rfl, uA, uB, uC⟩ hE);rw [← H_E.out] at HV;go_wp2_with fail;(with_reducible refine (HV.out).mono ?_);rintro e w2 ⟨rfl, hb⟩;have uA := uA.mono hb;have uB := uB.mono hb;have uC := uC.mono hb;have ux := ux.mono hb;have uy := uy.mono hb;have hE := hE.mono hb;have rA := rA.below hb;have hbw := bu hbw hb;clear hb;clear HV x0 x1 x2
 by_cases hz : E ≠ 0
 ·have g1 : ((E : Int) != 0) = true := by rw [bne_iff_ne]; omega
  have Hz := hii hz;clear hz;go_wp2;go_ret;exact ⟨by rw [chk_err (by rw [← H_E.out]; exact Hz.out), ← H_E.out]; rfl, hbw⟩
 ·have He : Hid (p.err = 0) := hii (by rw [← H_E.out]; omega);obtain rfl : E = 0 := by omega
  clear hz;obtain ⟨x0, x1, x2⟩ := rA.n3
  by_cases h1 : x.length ≠ p.C.length
  ·have g1 : ((x.length : Int) != (p.C.length : Int)) = true := by rw [bne_iff_ne]; omega
   go_wp2;go_ret;exact ⟨by rw [chk_len He.out (.inl h1)]; rfl, hbw⟩
  ·have hx : x.length = p.C.length := by omega
   have g1 : ((x.length : Int) != (p.C.length : Int)) = false := by rw [bne_eq_false_iff_eq]; omega
   have Hx := hii hx;clear hx h1
   by_cases h2 : y.length ≠ p.B.length
   ·have g2 : ((y.length : Int) != (p.B.length : Int)) = true := by rw [bne_iff_ne]; omega
    go_wp2;go_ret;exact ⟨by rw [chk_len He.out (.inr h2)]; rfl, hbw⟩
   ·have hy : y.length = p.B.length := by omega
    have g2 : ((y.length : Int) != (p.B.length : Int)) = false := by rw [bne_eq_false_iff_eq]; omega
    have Hy := hii hy;clear hy h2;obtain ⟨bx, h_bx⟩ : ∃ bx, bx = badQ x := ⟨_, rfl⟩;have H_bx := hii h_bx;clear h_bx;obtain ⟨b_y, h_b_y⟩ : ∃ b_y, b_y = badQ y := ⟨_, rfl⟩;have H_b_y := hii h_b_y;clear h_b_y;have HW := hii (wrong_list (cx := cx) hxl ux hE);rw [← H_bx.out] at HW;go_wp2_with fail;(with_reducible refine (HW.out).mono ?_);rintro e w3 ⟨rfl, hb⟩;have uA := uA.mono hb;have uB := uB.mono hb;have uC := uC.mono hb;have ux := ux.mono hb;have uy := uy.mono hb;have hE := hE.mono hb;have rA := rA.below hb;have hbw := bu hbw hb;clear hb;clear HW x0 x1 x2 g1 g2
    cases bx with
    | true =>
     go_wp2;go_ret;exact ⟨by rw [chk_bad He.out Hx.out Hy.out (.inl H_bx.out.symm)]; rfl, hbw⟩
    | false =>
     have HW := hii (wrong_list (cx := cy) hyl uy hE);rw [← H_b_y.out] at HW;go_wp2_with fail;(with_reducible refine (HW.out).mono ?_);rintro e w4 ⟨rfl, hb⟩;have uA := uA.mono hb;have uB := uB.mono hb;have uC := uC.mono hb;have ux := ux.mono hb;have uy := uy.mono hb;have hE := hE.mono hb;have rA := rA.below hb;have hbw := bu hbw hb;clear hb;clear HW
     cases b_y with
     | true =>
      go_wp2;go_ret;exact ⟨by rw [chk_bad He.out Hx.out Hy.out (.inr H_b_y.out.symm)]; rfl, hbw⟩
     | false =>
      obtain ⟨x0, x1, x2⟩ := rA.n3;have Hbx : Hid (badQ x = false) := hii H_bx.out.symm;have Hby : Hid (badQ y = false) := hii H_b_y.out.symm;obtain ⟨S, h_S⟩ : ∃ S, S = solErr p.rA p.rB (valsQ x) := ⟨_, rfl⟩;have H_S := hii h_S;clear h_S;have HS := hii (dsol_at (cA := cA) (cB := cB) (cC := cC) (cx := cx) He Hx Hbx uA uB uC ux hE);rw [← H_S.out] at HS;go_wp2_with fail;(with_reducible refine (HS.out).mono ?_);rintro e w5 ⟨rfl, hb⟩;have uA := uA.mono hb;have uB := uB.mono hb;have uC := uC.mono hb;have uy := uy.mono hb;have hE := hE.mono hb;have rA := rA.below hb;have hbw := bu hbw hb;clear hb;clear HS x0 x1 x2
      by_cases hz : S = 0
      ·subst hz;obtain ⟨x0, x1, x2⟩ := rA.n3;have HS := hii (dpri_at (cA := cA) (cB := cB) (cC := cC) (cx := cy) He Hy Hby uA uB uC uy hE);go_wp2_with fail;(with_reducible refine (HS.out).mono ?_);rintro e w6 ⟨rfl, hb⟩;have rA := rA.below hb;have hbw := bu hbw hb;clear hb;clear HS x0 x1 x2;go_wp2;go_ret;exact ⟨(by rw [chk_of He.out Hx.out Hy.out Hbx.out Hby.out H_S.out.symm] : Ending.returned (.int .i64 (priErr p.rA p.rC (valsQ y))) = .returned (.int .i64 (chkErr p x y))), hbw⟩
      ·have g1 : ((S : Int) != 0) = true := by rw [bne_iff_ne]; omega
       have Hz := hii hz;clear hz;go_wp2;go_ret;exact ⟨by rw [chk_solE He.out Hx.out Hy.out Hbx.out Hby.out (by rw [← H_S.out]; exact Hz.out), ← H_S.out]; rfl, hbw⟩
end Go.Proofs.YtgfpbghgpdpepaaGreatDoor
