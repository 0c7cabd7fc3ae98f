/-
  Bound, in the reference.
-/
import Derived.Test.YtgfpbghgpdpepaaGreatDoorMQ
set_option linter.unusedVariables false
set_option linter.unusedSimpArgs false
set_option maxRecDepth 100000
set_option maxHeartbeats 25600000
namespace Go.Proofs.YtgfpbghgpdpepaaGreatDoor
open Go.RowKit
theorem made_at (z : Array Value) (n j : Nat) (h : j < n) : (madeCells z n).toList[j]? = some (z[j % z.size]!) := by
 unfold madeCells;simp [h]
theorem madeQ (w : World) (n : Nat) : MQ (w.alloc (.cells (madeCells #[.bool false, .slice none 0 0, .bool false, .slice none 0 0] (n * 4)) 34)) w.heap.size (List.replicate n none) := by
 refine ⟨(madeCells #[.bool false, .slice none 0 0, .bool false, .slice none 0 0] (n * 4)).toList, ?_, ?_, ?_, ?_⟩
 ·have := heap_alloc_new w (.cells (madeCells #[.bool false, .slice none 0 0, .bool false, .slice none 0 0] (n * 4)) 34)
  simpa [Row] using this
 ·simp [size_madeCells]
 ·intro u hu k z e;obtain ⟨j, hj⟩ := List.getElem?_of_mem hu;have hlt : j < n * 4 := by
   have := (List.getElem?_eq_some_iff.1 hj).1
   simpa [size_madeCells] using this
  rw [made_at _ _ _ hlt] at hj;have h4 : j % 4 < 4 := Nat.mod_lt _ (by decide);simp only [Option.some.injEq] at hj;subst e;simp only [List.size_toArray, List.length_cons, List.length_nil, Nat.zero_add, Nat.reduceAdd] at hj
  match hm : j % 4, h4 with
  | 0, _ => rw [hm] at hj; simp at hj
  | 1, _ => rw [hm] at hj; simp at hj
  | 2, _ => rw [hm] at hj; simp at hj
  | 3, _ => rw [hm] at hj; simp at hj
 ·intro i o hi;rw [List.getElem?_replicate] at hi
  split at hi
  ·next hlt =>
   cases hi
   have e : ∀ m, m < 4 → (i * 4 + m) % 4 = m := fun m hm => by omega
   refine ⟨false, none, 0, 0, false, none, 0, 0, ?_, ?_, ?_, ?_, vq_zero _⟩
   ·rw [made_at _ _ _ (by omega)]; simp
   ·rw [made_at _ _ _ (by omega)]; simp [e 1 (by omega)]
   ·rw [made_at _ _ _ (by omega)]; simp [e 2 (by omega)]
   ·rw [made_at _ _ _ (by omega)]; simp [e 3 (by omega)]
  ·cases hi
section
variable {ops : Array Oper} {rest : List Oper} {o : Oper} {a : Act} {Q : Exit → Act → World → Prop}
theorem make_q (w : World) (hg : o.guard = none) (l c : Operand) (hop : o.op = Op.makeSlice 27 l c) (n : Nat)
  (hl : a.eval l = .int .i64 n) (hc : a.eval c = .int .i64 n) (hn : n ≤ 1000000)
  (hK : ∀ w', MQ w' w.heap.size (List.replicate n none) → Below w.heap.size w w' → wpList Tryz.prog ops Q rest (a.put o.dst (.slice (some ⟨w.heap.size, 0, none⟩) n n)) w') :
  wpList Tryz.prog ops Q (o :: rest) a w := by
 obtain ⟨i0, hi, hz0, hz1, hz2⟩ := info_parts Tryz.info34;have hr := run_makeSlice (P := Tryz.prog) w 27 34 i0 (.agg #[.bool false, .slice none 0 0, .bool false, .slice none 0 0]) Tryz.underlying27 hi hz0 .i64 .i64 n n (by omega) (by omega)
  (by rw [hz1]; omega) (by rw [hz2]; omega) (by omega)
 simp only [Int.toNat_natCast] at hr;refine wpList_plain hg fun K hK' => ?_
 unfold Oper.wp;simp [execOp, hop, hl, hc, hr, Result.andThen];refine hK' _ _ (hK _ ?_ (bA _ _));rw [hz1];exact madeQ w n
end
section
variable {p : Prg} {y : List Qo}
theorem bnd_chk (h : chkErr p (zeros p) y ≠ 0) : bndR p y = (chkErr p (zeros p) y, 0) := if_pos h
theorem bnd_none (h : chkErr p (zeros p) y = 0) (h1 : dotO (valsQ p.B) (valsQ y) = none) : bndR p y = (3, 0) := by
 unfold bndR; rw [if_neg (by simpa using h), show dotO p.rB (valsQ y) = none from h1]
theorem bnd_ok {b : Rat} (h : chkErr p (zeros p) y = 0) (h1 : dotO (valsQ p.B) (valsQ y) = some b) : bndR p y = (0, b) := by
 unfold bndR; rw [if_neg (by simpa using h), show dotO p.rB (valsQ y) = some b from h1]
theorem bnd_frm (h : frmErr p (zeros p) y ≠ 0) : bndR p y = (frmErr p (zeros p) y, 0) := by
 have := chk_frm h;rw [bnd_chk (by rw [this]; exact h), this]
theorem bnd_pri (h : frmErr p (zeros p) y = 0) : chkErr p (zeros p) y = priErr p.rA p.rC (valsQ y) := by
 obtain ⟨h1, h2, h3, h4, h5⟩ := frm_zero h;exact chk_of h1 h2 h3 h4 h5 (sol_zero h1)
end
theorem put_rep {k n : Nat} (h : k < n) : (List.replicate k (some (0 : Rat)) ++ List.replicate (n - k) none).set k (some 0) = List.replicate (k + 1) (some (0 : Rat)) ++ List.replicate (n - (k + 1)) none := by
 apply List.ext_getElem?
 intro i
 by_cases hi : i = k
 ·subst hi;rw [List.getElem?_set_self (by simp; omega), List.getElem?_append_left (by simp), List.getElem?_replicate, if_pos (by omega)]
 ·rw [List.getElem?_set_ne (fun e => hi e.symm)]
  by_cases hlt : i < k
  ·rw [List.getElem?_append_left (by simp; omega), List.getElem?_append_left (by simp; omega), List.getElem?_replicate, List.getElem?_replicate, if_pos hlt, if_pos (by omega)]
  ·rw [List.getElem?_append_right (by simp; omega), List.getElem?_append_right (by simp; omega), List.getElem?_replicate, List.getElem?_replicate];simp only [List.length_replicate]
   by_cases hn : i < n
   ·rw [if_pos (by omega), if_pos (by omega)]
   ·rw [if_neg (by omega), if_neg (by omega)]
theorem rBound_any (p : Prg) (y : List Qo) (vp : Value) (ay : Option Addr) (cy : Nat) (w : World) (h : PrgV w vp p) (hn : p.C.length ≤ 1000000) (hyl : y.length ≤ 1000000000) (uy : UQ w ay y) (hE : Env w) :
  Calls Tryz.prog 20 #[vp, .slice ay y.length cy] w fun e w' => ResE (bndR p y) w' e ∧ Below w.heap.size w w' := by
 obtain ⟨aA, cA, aB, cB, aC, cC, rfl, uA, uB, uC⟩ := h;go_enter Tryz.func20, Tryz.ntmps20;go_upto_region 1 with fail;obtain ⟨wx, hwx, rA, r6, hb⟩ := two_rows w 29 34 [.slice aA p.A.length cA, .slice aB p.B.length cB, .slice aC p.C.length cC] [.bool false, .slice none 0 0, .bool false, .slice none 0 0];simp only [List.toArray] at hwx;rw [← hwx];clear hwx;have Hge : Hid (w.heap.size ≤ w.heap.size + 1) := hii (by omega);obtain ⟨g2, hg2⟩ := exi (w.heap.size + 1);rw [← hg2] at r6 Hge ⊢;clear hg2;obtain ⟨g, hg⟩ := exi (w.heap.size);have hgg : w.heap.size = g := hg.symm;simp only [hgg] at rA ⊢;have Hgg := hii hgg;clear hg hgg;obtain ⟨w1, rfl⟩ := exi wx;have hbw := hb;have X6 := r6.box4;have uA := uA.mono hb;have uB := uB.mono hb;have uC := uC.mono hb;have uy := uy.mono hb;have hE := hE.mono hb;clear hb r6;obtain ⟨x0, x1, x2⟩ := rA.n3;go_wp2_with (at_make; refine make_q w1 rfl _ _ rfl p.C.length rfl rfl hn ?_; intro w2 hM hb);have hMl : Hid (w1.heap.size ≤ w1.heap.size) := hii nl;obtain ⟨gz, hgz⟩ := exi (w1.heap.size);have HMl : Hid (w1.heap.size ≤ gz) := hii (by omega);simp only [← hgz] at hM ⊢;clear hgz hMl x0 x1 x2;have hE2 := hE.mono hb;go_loopw [7] (fun s wr => ∃ k : Nat, k ≤ p.C.length ∧ s = .int .i64 k ∧ MQ wr gz (List.replicate k (some (0 : Rat)) ++ List.replicate (p.C.length - k) none) ∧ Below w1.heap.size w1 wr) (fun s _ => p.C.length - (intOf s).toNat)
 case atStart => exact ⟨0, Nat.zero_le _, rfl, by simpa using hM, hb⟩
 case round =>
  clear hM hb hE2;obtain ⟨k, hk, rfl, hM, hbr⟩ := hrel
  by_cases hlt : k < p.C.length
  ·have hE3 := hE.mono hbr;go_wp2_with fail;(with_reducible refine (rzero_ok wr hE3).mono ?_);rintro e w3 ⟨hz, hb⟩;obtain ⟨ng1, ao1, n1, cap1, nh1, ap1, m1, caq1, rfl, hv0⟩ := hz.rat;have hM := hM.mono hb;have hbr := bu hbr hb;clear hb hz hE3;have hlM : k < (List.replicate k (some (0 : Rat)) ++ List.replicate (p.C.length - k) none).length := by simp; omega
   obtain ⟨_, _, _, _, _, _, _, _, c0, c1, c2, c3, f0, f1, f2, f3, -⟩ := hM.four hlM;obtain ⟨hput, hkp⟩ := hM.put (o := some 0) hlM hv0;rw [put_rep hlt] at hput;have Hput := hii hput;have Hkp := hii hkp;clear hput hkp hM hlM;go_wp2;go_roundw
   case rel => exact ⟨k + 1, by omega, by go_num, Hput.out, hbr.trans (Hkp.out.below (fun b hb => by rw [hb]; exact HMl.out) hbr.size)⟩
   case measure => simp [intOf]; omega
  ·obtain rfl : k = p.C.length := by omega
   have uA := uA.mono hbr;have uB := uB.mono hbr;have uC := uC.mono hbr;have uy := uy.mono hbr;have hE := hE.mono hbr;have rA := rA.below hbr;have X6 := X6.mono hbr;have hbw := bu hbw hbr;have uz : UQ wr (some ⟨gz, 0, none⟩) (zeros p) := by have := hM.read; rw [Nat.sub_self] at this; simpa [zeros] using this
   clear hbr hM hk hlt;obtain ⟨x0, x1, x2⟩ := rA.n3;obtain ⟨E, h_E⟩ : ∃ E, E = frmErr p (zeros p) y := ⟨_, rfl⟩;have H_E := hii h_E;clear h_E;have hV := formed_any p (zeros p) y _ (some ⟨gz, 0, none⟩) ay p.C.length cy wr ⟨aA, cA, aB, cB, aC, cC, rfl, uA, uB, uC⟩ (by rw [len_zeros]; omega) hyl uz uy hE;rw [len_zeros, ← H_E.out] at hV;have HV := hii hV;clear hV uz;go_wp2_with fail;(with_reducible refine (HV.out).mono ?_);rintro e w1 ⟨rfl, hb⟩;have uA := uA.mono hb;have uB := uB.mono hb;have uC := uC.mono hb;have uy := uy.mono hb;have hE := hE.mono hb;have rA := rA.below hb;have X6 := X6.mono hb;have hbw := bu hbw hb;clear hb;clear HV x0 x1 x2
   by_cases hz : E ≠ 0
   ·have g1 : ((E : Int) != 0) = true := by rw [bne_iff_ne]; omega
    have Hz := hii hz;clear hz;obtain ⟨b0, b1, b2, b3, _, _, _, _⟩ := id X6;go_wp2;refine bodyPost_ret (v := .tuple #[.agg #[.bool false, .slice none 0 0, .bool false, .slice none 0 0], .int .i64 E]) (by simp [results, Tryz.results20, go_sem, b0, b1, b2, b3]) rfl ⟨ResE.no (bnd_frm (by rw [← H_E.out]; exact Hz.out)) (by rw [← H_E.out]; exact Hz.out) (by rw [← H_E.out]; rfl), Below.put4 hbw Hge.out _ _ _ _⟩
   ·have hf : frmErr p (zeros p) y = 0 := by rw [← H_E.out]; omega
    obtain rfl : E = 0 := by omega
    clear hz;have HPE := hii (bnd_pri hf);obtain ⟨f1, f2, f3, f4, f5⟩ := frm_zero hf;have He := hii f1;have Hy := hii f3;have Hy2 := hii f3.symm;have Hby := hii f5;have HbB := hii (err_some f1).2.1;have hmB : p.B.length ≤ 1000000000 := by have := (err_zero f1).1; omega
    clear f1 f2 f3 f4 f5 hf;obtain ⟨x0, x1, x2⟩ := rA.n3;obtain ⟨S, h_S⟩ : ∃ S, S = priErr p.rA p.rC (valsQ y) := ⟨_, rfl⟩;have H_S := hii h_S;clear h_S;have HS := hii (rpri_at (cA := cA) (cB := cB) (cC := cC) (cx := cy) He Hy Hby uA uB uC uy hE);rw [← H_S.out] at HS;go_wp2_with fail;(with_reducible refine (HS.out).mono ?_);rintro e w2 ⟨rfl, hb⟩;have uB := uB.mono hb;have uy := uy.mono hb;have hE := hE.mono hb;have rA := rA.below hb;have X6 := X6.mono hb;have hbw := bu hbw hb;clear hb;clear HS x0 x1 x2
    by_cases hz : S ≠ 0
    ·have g1 : ((S : Int) != 0) = true := by rw [bne_iff_ne]; omega
     have Hz := hii hz;clear hz;have Hck : Hid (chkErr p (zeros p) y = S) := hii (by rw [HPE.out, ← H_S.out]);obtain ⟨b0, b1, b2, b3, _, _, _, _⟩ := id X6;go_wp2;refine bodyPost_ret (v := .tuple #[.agg #[.bool false, .slice none 0 0, .bool false, .slice none 0 0], .int .i64 S]) (by simp [results, Tryz.results20, go_sem, b0, b1, b2, b3]) rfl ⟨ResE.no ((bnd_chk (by rw [Hck.out]; exact Hz.out)).trans (by rw [Hck.out])) Hz.out rfl, Below.put4 hbw Hge.out _ _ _ _⟩
    ·obtain rfl : S = 0 := by omega
     clear hz;have Hck : Hid (chkErr p (zeros p) y = 0) := hii (by rw [HPE.out, ← H_S.out]);obtain ⟨x0, x1, x2⟩ := rA.n3;obtain ⟨D, h_D⟩ : ∃ D, D = dotO (valsQ p.B) (valsQ y) := ⟨_, rfl⟩;have H_D := hii h_D;clear h_D;have HD := hii (rdot_at (ca := cB) (cb := cy) Hy2 HbB Hby hmB uB uy hE);rw [← H_D.out] at HD;go_wp2_with fail;(with_reducible refine (HD.out).mono ?_);rintro e w3 ⟨hd, hb⟩;have X6 := X6.mono hb;have hbw := bu hbw hb;clear hb;clear HD x0 x1 x2
     cases D with
     | none =>
      have hd : NoQ 3 e := hd;unfold NoQ at hd;subst hd;obtain ⟨b0, b1, b2, b3, _, _, _, _⟩ := id X6;go_wp2;refine bodyPost_ret (v := .tuple #[.agg #[.bool false, .slice none 0 0, .bool false, .slice none 0 0], .int .i64 3]) (by simp [results, Tryz.results20, go_sem, b0, b1, b2, b3]) rfl ⟨ResE.no (bnd_none Hck.out H_D.out.symm) (by decide) rfl, Below.put4 hbw Hge.out _ _ _ _⟩
     | some b =>
      have hd : GotQ _ b e := hd;obtain ⟨ng1, ao1, n1, cap1, nh1, ap1, m1, caq1, rfl, h1, h2⟩ := hd;obtain ⟨b0, b1, b2, b3, _, _, _, _⟩ := id X6;go_wp2;refine bodyPost_ret (v := .tuple #[.agg #[.bool ng1, .slice ao1 n1 cap1, .bool nh1, .slice ap1 m1 caq1], .int .i64 0]) (by simp [results, Tryz.results20, go_sem, b0, b1, b2, b3]) rfl ⟨ResE.got (bnd_ok Hck.out H_D.out.symm) ⟨ng1, ao1, n1, cap1, nh1, ap1, m1, caq1, rfl, hii (h1.out.put4B X6 _ _ _ _), hii (h2.out.put4B X6 _ _ _ _)⟩, Below.put4 hbw Hge.out _ _ _ _⟩
end Go.Proofs.YtgfpbghgpdpepaaGreatDoor
