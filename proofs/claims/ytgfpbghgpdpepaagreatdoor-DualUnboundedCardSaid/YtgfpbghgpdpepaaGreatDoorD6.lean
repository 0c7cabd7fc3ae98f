/-
  Bound, in the program.
-/
import Derived.Test.YtgfpbghgpdpepaaGreatDoorDuW
import Derived.Test.YtgfpbghgpdpepaaGreatDoorShelfF
set_option linter.unusedVariables false
set_option linter.unusedSimpArgs false
set_option maxRecDepth 100000
set_option maxHeartbeats 25600000
namespace Go.Proofs.YtgfpbghgpdpepaaGreatDoor
open Go.RowKit
theorem Bound_any (p : Prg) (y : List Qo) (vp : Value) (ay : Option Addr) (cy : Nat) (w : World) (h : PrgV w vp p) (hn : p.C.length ≤ 1000000) (hyl : y.length ≤ 1000000000) (uy : UQ w ay y) (hE : Env w) :
  Calls Tryz.prog 19 #[vp, .slice ay y.length cy] w fun e w' => ResE (bndR p y) w' e ∧ Below w.heap.size w w' := by
 obtain ⟨aA, cA, aB, cB, aC, cC, rfl, uA, uB, uC⟩ := h;go_enter Tryz.func19, Tryz.ntmps19;go_upto_region 1 with fail;obtain ⟨wx, hwx, rA, r6, hb⟩ := two_rows w 29 34 [.slice aA p.A.length cA, .slice aB p.B.length cB, .slice aC p.C.length cC] [.bool false, .slice none 0 0, .bool false, .slice none 0 0];simp only [List.toArray] at hwx;rw [← hwx];clear hwx;have Hge : Hid (w.heap.size ≤ w.heap.size + 1) := hii (by omega);obtain ⟨g2, hg2⟩ := exi (w.heap.size + 1);rw [← hg2] at r6 Hge ⊢;clear hg2;obtain ⟨g, hg⟩ := exi (w.heap.size);have hgg : w.heap.size = g := hg.symm;simp only [hgg] at rA ⊢;have Hgg := hii hgg;clear hg hgg;obtain ⟨w1, rfl⟩ := exi wx;have hbw := hb;have X6 := r6.box4;have uA := uA.mono hb;have uB := uB.mono hb;have uC := uC.mono hb;have uy := uy.mono hb;have hE := hE.mono hb;clear hb r6;obtain ⟨E, hEE⟩ : ∃ E, E = chkErr p (zeros p) y := ⟨_, rfl⟩;have H_E := hii hEE;clear hEE;refine wp_region_use (wx := w1) [(vf <| .agg #[.slice aA p.A.length cA, .slice aB p.B.length cB, .slice aC p.C.length cC]), (fun W v => ∃ ng ao n cap nh ap m caq, v = .agg #[.bool ng, .slice ao n cap, .bool nh, .slice ap m caq] ∧ RatV W (.agg #[.bool ng, .slice ao n cap, .bool nh, .slice ap m caq]) 0), (fun W v => ∃ b ng ao n cap nh ap m caq, v = .slice (some ⟨b, 0, none⟩) 1 1 ∧ Box4 W b (.bool ng) (.slice ao n cap) (.bool nh) (.slice ap m caq) ∧ RatV W (.agg #[.bool ng, .slice ao n cap, .bool nh, .slice ap m caq]) 0), (vf <| .pointer (some ⟨g, 2, none⟩)), (vf <| .slice aC p.C.length cC), (vf <| .int .i64 p.C.length), (fun W v => ∃ g, v = .slice (some ⟨g, 0, none⟩) p.C.length p.C.length ∧ UQ W (some ⟨g, 0, none⟩) (zeros p)), (vf <| .slice ay y.length cy), (vf <| .int .i64 E), (vf <| .int .i64 E)] [none, none, none, none, none, none, none, none, none, none] [true, false, false, true, true, true, false, true, true, true] [some 7, some 8, some 9, some 10, some 11, some 12, some 13, some 14, some 15, some 6] [7, 8, 9, 10, 11, 12, 13, 14, 15, 6] 0 0 (fun _ _ => True) (by decide) (by kernel_rfl) (by kernel_rfl) (by kernel_rfl) (by kernel_rfl) (of_decide_eq_true (by kernel_rfl)) (by kernel_rfl) (by kernel_rfl) (trivial) (fun _ _ _ h _ => h) br ⟨sV _, fun _ _ _ ⟨a1, a2, a3, a4, a5, a6, a7, a8, e, h⟩ hb => ⟨a1, a2, a3, a4, a5, a6, a7, a8, e, h.mono hb⟩, fun _ _ _ ⟨b, a1, a2, a3, a4, a5, a6, a7, a8, e, h1, h2⟩ hb => ⟨b, a1, a2, a3, a4, a5, a6, a7, a8, e, h1.mono hb, h2.mono hb⟩, sV _, sV _, sV _, fun _ _ _ ⟨g, e, h⟩ hb => ⟨g, e, h.mono hb⟩, sV _, sV _, sV _, trivial⟩ ⟨fun _ => cV _, (fun h => absurd h (by decide)), (fun h => absurd h (by decide)), fun _ => cV _, fun _ => cV _, fun _ => cV _, (fun h => absurd h (by decide)), fun _ => cV _, fun _ => cV _, fun _ => cV _, trivial⟩ ⟨?s0, ?s1, ?s2, ?s3, ?s4, ?s5, ?s6, ?s7, ?s8, ?s9, trivial⟩ ?he
 case s0 =>
  rintro T W hb hp hA K hK;have hp := hp rfl;obtain ⟨x0, x1, x2⟩ := (rA.below hb).n3;simp only [ovr, Act.put, sT, sZ, sS] at hK ⊢;have HK := hii hK;clear hK hA;refine wO rfl (by rfl) ?_;go_simp;exact HK.out _ _ ⟨hb, fun _ => br⟩ rfl
 case s1 =>
  rintro T W hb - hA K hK;simp only [ovr, Act.put, sT, sZ, sS] at hK ⊢;have HK := hii hK;clear hK hA;refine wO rfl (by rfl) ?_;go_simp;(with_reducible refine (dzero_ok W (hE.mono hb)).mono ?_);rintro e w1 ⟨hz, hb1⟩;obtain ⟨ng1, ao1, n1, cap1, nh1, ap1, m1, caq1, rfl, hv0⟩ := hz.rat
  try dsimp only
  exact HK.out _ _ ⟨bu hb hb1, fun _ => hb1⟩ (⟨ng1, ao1, n1, cap1, nh1, ap1, m1, caq1, rfl, hv0⟩)
 case s2 =>
  rintro T W hb hp hA K hK;have r1 : ((fun W v => ∃ ng ao n cap nh ap m caq, v = .agg #[.bool ng, .slice ao n cap, .bool nh, .slice ap m caq] ∧ RatV W (.agg #[.bool ng, .slice ao n cap, .bool nh, .slice ap m caq]) 0) : World → Value → Prop) W (T 8) := hA.1 (by decide);have hp := trivial;obtain ⟨ng1, ao1, n1, cap1, nh1, ap1, m1, caq1, e1, hv0⟩ := r1;simp only [ovr, Act.put, sT, sZ, sS, e1] at hK ⊢;have HK := hii hK;clear hK hA;refine wO rfl (by rfl) ?_;go_simp;obtain ⟨w1, hw1⟩ : ∃ w1, w1 = W.alloc (.cells #[.bool ng1, .slice ao1 n1 cap1, .bool nh1, .slice ap1 m1 caq1] 34) := ⟨_, rfl⟩;have hb1 : Below W.heap.size W w1 := by rw [hw1]; exact bA W _
  have hB1 : Box4 w1 W.heap.size (.bool ng1) (.slice ao1 n1 cap1) (.bool nh1) (.slice ap1 m1 caq1) := by rw [hw1]; exact Box4.new W (.bool ng1) (.slice ao1 n1 cap1) (.bool nh1) (.slice ap1 m1 caq1) 34
  rw [← hw1]
  try dsimp only
  exact HK.out _ _ ⟨bu hb hb1, fun _ => hb1⟩ (⟨_, ng1, ao1, n1, cap1, nh1, ap1, m1, caq1, rfl, hB1, hv0.mono hb1⟩)
 case s3 | s7 =>
  rintro T W hb - hA K hK;simp only [ovr, Act.put, sT, sZ, sS] at hK ⊢;have HK := hii hK;clear hK hA;refine wO rfl (by rfl) ?_;go_simp;exact HK.out _ _ ⟨hb, fun _ => br⟩ rfl
 case s4 =>
  rintro T W hb hp hA K hK;have e3 : T 10 = .pointer (some ⟨g, 2, none⟩) := hA.1 (by decide);have hp := trivial;obtain ⟨x0, x1, x2⟩ := (rA.below hb).n3;simp only [ovr, Act.put, sT, sZ, sS, e3] at hK ⊢;have HK := hii hK;clear hK hA;refine wO rfl (by rfl) ?_;go_simp;exact HK.out _ _ ⟨hb, fun _ => br⟩ rfl
 case s5 =>
  rintro T W hb hp hA K hK;have e4 : T 11 = .slice aC p.C.length cC := hA.1 (by decide);have hp := trivial;simp only [ovr, Act.put, sT, sZ, sS, e4] at hK ⊢;have HK := hii hK;clear hK hA;refine wO rfl (by rfl) ?_;go_simp;exact HK.out _ _ ⟨hb, fun _ => br⟩ rfl
 case s6 =>
  rintro T W hb hp hA K hK;have r2 : ((fun W v => ∃ b ng ao n cap nh ap m caq, v = .slice (some ⟨b, 0, none⟩) 1 1 ∧ Box4 W b (.bool ng) (.slice ao n cap) (.bool nh) (.slice ap m caq) ∧ RatV W (.agg #[.bool ng, .slice ao n cap, .bool nh, .slice ap m caq]) 0) : World → Value → Prop) W (T 9) := hA.1 (by decide);have e5 : T 12 = .int .i64 p.C.length := hA.2.1 (by decide);have r1 : ((fun W v => ∃ ng ao n cap nh ap m caq, v = .agg #[.bool ng, .slice ao n cap, .bool nh, .slice ap m caq] ∧ RatV W (.agg #[.bool ng, .slice ao n cap, .bool nh, .slice ap m caq]) 0) : World → Value → Prop) W (T 8) := hA.2.2.1 (by decide);have hp := trivial;obtain ⟨b, ng1, ao1, n1, cap1, nh1, ap1, m1, caq1, e2, hB1, hv0⟩ := r2;simp only [ovr, Act.put, sT, sZ, sS, e5, e2] at hK ⊢;have HK := hii hK;clear hK hA;refine wO rfl (by rfl) ?_;go_simp;(with_reducible refine (Repeat_one p.C.length b ng1 ao1 n1 cap1 nh1 ap1 m1 caq1 W hn hB1).mono ?_);rintro e w1 ⟨⟨gz, rfl, hR⟩, hb1⟩
  try dsimp only
  exact HK.out _ _ ⟨bu hb hb1, fun _ => hb1⟩ (⟨gz, rfl, hR.all (o := some 0) (hv0.mono hb1)⟩)
 case s8 =>
  rintro T W hb hp hA K hK;have e0 : T 7 = .agg #[.slice aA p.A.length cA, .slice aB p.B.length cB, .slice aC p.C.length cC] := hA.1 (by decide);have r6 : ((fun W v => ∃ g, v = .slice (some ⟨g, 0, none⟩) p.C.length p.C.length ∧ UQ W (some ⟨g, 0, none⟩) (zeros p)) : World → Value → Prop) W (T 13) := hA.2.1 (by decide);have e7 : T 14 = .slice ay y.length cy := hA.2.2.1 (by decide);have hp := trivial;obtain ⟨gz, e6, uz⟩ := r6;simp only [ovr, Act.put, sT, sZ, sS, e0, e7, e6] at hK ⊢;have HK := hii hK;clear hK hA;refine wO rfl (by rfl) ?_;go_simp;have hV := dcheck_any p (zeros p) y _ (some ⟨gz, 0, none⟩) ay p.C.length cy W ⟨aA, cA, aB, cB, aC, cC, rfl, uA.mono hb, uB.mono hb, uC.mono hb⟩ (by rw [len_zeros]; omega) hyl uz (uy.mono hb) (hE.mono hb);rw [len_zeros, ← H_E.out] at hV;(with_reducible refine hV.mono ?_);rintro e w1 ⟨rfl, hb1⟩
  try dsimp only
  exact HK.out _ _ ⟨bu hb hb1, fun _ => hb1⟩ rfl
 case s9 =>
  rintro T W hb hp hA K hK;have e8 : T 15 = .int .i64 E := hA.1 (by decide);have e0 : T 7 = .agg #[.slice aA p.A.length cA, .slice aB p.B.length cB, .slice aC p.C.length cC] := hA.2.2.1 (by decide);have r1 : ((fun W v => ∃ ng ao n cap nh ap m caq, v = .agg #[.bool ng, .slice ao n cap, .bool nh, .slice ap m caq] ∧ RatV W (.agg #[.bool ng, .slice ao n cap, .bool nh, .slice ap m caq]) 0) : World → Value → Prop) W (T 8) := hA.2.2.2.1 (by decide);have r2 : ((fun W v => ∃ b ng ao n cap nh ap m caq, v = .slice (some ⟨b, 0, none⟩) 1 1 ∧ Box4 W b (.bool ng) (.slice ao n cap) (.bool nh) (.slice ap m caq) ∧ RatV W (.agg #[.bool ng, .slice ao n cap, .bool nh, .slice ap m caq]) 0) : World → Value → Prop) W (T 9) := hA.2.2.2.2.1 (by decide);have e3 : T 10 = .pointer (some ⟨g, 2, none⟩) := hA.2.2.2.2.2.1 (by decide);have e4 : T 11 = .slice aC p.C.length cC := hA.2.2.2.2.2.2.1 (by decide);have e5 : T 12 = .int .i64 p.C.length := hA.2.2.2.2.2.2.2.1 (by decide);have r6 : ((fun W v => ∃ g, v = .slice (some ⟨g, 0, none⟩) p.C.length p.C.length ∧ UQ W (some ⟨g, 0, none⟩) (zeros p)) : World → Value → Prop) W (T 13) := hA.2.2.2.2.2.2.2.2.1 (by decide);have e7 : T 14 = .slice ay y.length cy := hA.2.2.2.2.2.2.2.2.2.1 (by decide);have hp := trivial;simp only [ovr, Act.put, sT, sZ, sS, e8, e0, e3, e4, e5, e7] at hK ⊢;have HK := hii hK;clear hK hA;refine wO rfl (by rfl) ?_;go_simp;exact HK.out _ _ ⟨hb, fun _ => br⟩ rfl
 case he =>
  rintro T W hb hA;have f9 : T 6 = .int .i64 E := hA.of 9 (by decide) (by decide);have uB := uB.mono hb;have uy := uy.mono hb;have hE := hE.mono hb;have rA := rA.below hb;have X6 := X6.mono hb;have hbw := bu hbw hb;clear hb;simp only [ovr, sT, sZ, sS, f9];clear hA f9;obtain ⟨wz, rfl⟩ := exi W
  by_cases hz : E ≠ 0
  ·have g1 : ((E : Int) != 0) = true := by rw [bne_iff_ne]; omega
   have Hz := hii hz;clear hz;obtain ⟨b0, b1, b2, b3, _, _, _, _⟩ := id X6;go_wp2;refine bodyPost_ret (v := .tuple #[.agg #[.bool false, .slice none 0 0, .bool false, .slice none 0 0], .int .i64 E]) (by simp [results, Tryz.results19, go_sem, b0, b1, b2, b3]) rfl ⟨ResE.no ((bnd_chk (by rw [← H_E.out]; exact Hz.out)).trans (by rw [← H_E.out])) Hz.out rfl, Below.put4 hbw Hge.out _ _ _ _⟩
  ·have Hc : Hid (chkErr p (zeros p) y = 0) := hii (by rw [← H_E.out]; omega);obtain rfl : E = 0 := by omega
   clear hz;obtain ⟨f1, f2, f3, f4, f5, f6, f7⟩ := chk_zero Hc.out;obtain ⟨_, z2, z3⟩ := err_some f1;obtain ⟨z4, _⟩ := err_zero f1;have Hy := hii f3.symm;have Hby := hii f5;have HbB := hii z2;have hmB : p.B.length ≤ 1000000000 := by omega
   clear f1 f2 f3 f4 f5 f6 f7 z2 z3 z4;obtain ⟨x0, x1, x2⟩ := rA.n3;obtain ⟨D, h_D⟩ : ∃ D, D = dotO (valsQ p.B) (valsQ y) := ⟨_, rfl⟩;have H_D := hii h_D;clear h_D;have HD := hii (ddot_at (ca := cB) (cb := cy) Hy HbB Hby hmB uB uy hE);rw [← H_D.out] at HD;go_wp2_with fail;(with_reducible refine (HD.out).mono ?_);rintro e w1 ⟨hd, hb⟩;have X6 := X6.mono hb;have hbw := bu hbw hb;clear hb;clear HD x0 x1 x2
   cases D with
   | none =>
    have hd : NoQ 3 e := hd;unfold NoQ at hd;subst hd;obtain ⟨b0, b1, b2, b3, _, _, _, _⟩ := id X6;go_wp2;refine bodyPost_ret (v := .tuple #[.agg #[.bool false, .slice none 0 0, .bool false, .slice none 0 0], .int .i64 3]) (by simp [results, Tryz.results19, go_sem, b0, b1, b2, b3]) rfl ⟨ResE.no (bnd_none Hc.out H_D.out.symm) (by decide) rfl, Below.put4 hbw Hge.out _ _ _ _⟩
   | some b =>
    have hd : GotQ _ b e := hd;obtain ⟨ng1, ao1, n1, cap1, nh1, ap1, m1, caq1, rfl, h1, h2⟩ := hd;obtain ⟨b0, b1, b2, b3, _, _, _, _⟩ := id X6;go_wp2;refine bodyPost_ret (v := .tuple #[.agg #[.bool ng1, .slice ao1 n1 cap1, .bool nh1, .slice ap1 m1 caq1], .int .i64 0]) (by simp [results, Tryz.results19, go_sem, b0, b1, b2, b3]) rfl ⟨ResE.got (bnd_ok Hc.out H_D.out.symm) ⟨ng1, ao1, n1, cap1, nh1, ap1, m1, caq1, rfl, hii (h1.out.put4B X6 _ _ _ _), hii (h2.out.put4B X6 _ _ _ _)⟩, Below.put4 hbw Hge.out _ _ _ _⟩
end Go.Proofs.YtgfpbghgpdpepaaGreatDoor
namespace Go.Proofs.YtgfpbghgpdpepaaGreatDoor
open Go.RowKit
def sv (s : List UInt8) : Value := .string ⟨s.toArray⟩
def US (w : World) (ao : Option Addr) (l : List (List UInt8)) : Prop :=
 ∀ i s, l[i]? = some s → ∃ b off, ao = some ⟨b, off, none⟩ ∧ w.cell? ⟨b, off + i, none⟩ = some (.string ⟨s.toArray⟩)
theorem US.mono {w w' : World} {ao : Option Addr} {l : List (List UInt8)} (h : US w ao l) (hb : Below w.heap.size w w') : US w' ao l := by
 intro i s hi;obtain ⟨b, off, e, hc⟩ := h i s hi;exact ⟨b, off, e, (hb.cell (cell_lt hc)).trans hc⟩
theorem US.nil (w : World) (ao : Option Addr) : US w ao [] := fun i s h => by simp at h
def OwnT (w : World) (B : Nat) (v : Value) (l : List (List UInt8)) : Prop := w.ownsRow B 9 1 v l.length (l.map sv)
theorem OwnT.nil (w : World) (B : Nat) : OwnT w B (.slice none 0 0) [] := World.ownsRow_nil _ _ _ _
theorem OwnT.mono {w w' : World} {B : Nat} {v : Value} {l : List (List UInt8)} (h : OwnT w B v l) (hb : Below w.heap.size w w') : OwnT w' B v l := ownsRow_below h hb
theorem OwnT.read {w : World} {B : Nat} {v : Value} {l : List (List UInt8)} (h : OwnT w B v l) : ∃ ao cap, v = .slice ao l.length cap ∧ l.length ≤ cap ∧ US w ao l := by
 have h1 := h;rcases h1.2 with ⟨rfl, hn⟩ | ⟨g, cap, cur, rfl, hB, hg, hnc, hcm, hcs, htake⟩
 ·have : l = [] := List.eq_nil_of_length_eq_zero hn;subst this;exact ⟨none, 0, rfl, nl, US.nil _ _⟩
 ·refine ⟨some ⟨g, 0, none⟩, cap, rfl, hnc, ?_⟩;intro i s hi;have := h.cells (g := g) rfl i (sv s) (by simp [hi]);have ha : (⟨g, 0, none⟩ : Addr).add i = ⟨g, 0 + i, none⟩ := add_off g 0 i;rw [ha] at this;exact ⟨g, 0, rfl, this⟩
theorem Tryz.info9 : (Tryz.prog.info? 9).map (fun i => (i.zero, i.size, i.bytes)) = some (some (.string ByteArray.empty), 1, 16) := by kernel_rfl
section
variable {ops : Array Oper} {rest : List Oper} {o : Oper} {a : Act} {Q : Exit → Act → World → Prop}
theorem app_t (w : World) (hgd : o.guard = none) (s x : Operand) (ho : o.op = .call { callee := .builtin .append, args := #[s, x], argTypes := #[113, 113] })
  (W : World) (B : Nat) (v : Value) (l : List (List UInt8)) (t : List UInt8) (hs : a.eval s = v) (hown : OwnT w B v l) (hB : B ≤ w.heap.size) (hb : Below B W w)
  (hx : a.eval x = .slice (some ⟨w.heap.size, 0, none⟩) 1 1) (hl : l.length ≤ 1000000)
  (hK : ∀ v' w', OwnT w' B v' (l ++ [t]) → Below B W w' → w.heap.size ≤ w'.heap.size → wpList Tryz.prog ops Q rest (a.put o.dst v') w') :
  wpList Tryz.prog ops Q (o :: rest) a (w.alloc (.cells #[.string ⟨t.toArray⟩] 9)) := by
 obtain ⟨i0, hi, hz0, hz1, hz2⟩ := info_parts Tryz.info9;have hrow : w.ownsRow B 9 i0.size v l.length (l.map sv) := by rw [hz1]; exact hown
 obtain ⟨v', w', hr, h3, h4, h5⟩ := run_append_own (P := Tryz.prog) (w.alloc (.cells #[.string ⟨t.toArray⟩] 9)) B 113 o.type 9 i0 (.string ByteArray.empty) i0.size i0.bytes Tryz.underlying113 hi hz0 rfl rfl
  (by rw [hz1]; rfl) (by rw [hz1]; decide) v l.length (l.map sv) (World.ownsRow.alloc hrow _) ⟨w.heap.size, 0, none⟩ 1 1 [.string ⟨t.toArray⟩] (by rw [hz1]; rfl)
  (by
   intro j u hj
   match j, hj with
   | 0, hj => simp at hj; subst hj; simp [Addr.add, go_sem]
   | j + 1, hj => simp at hj)
  (by intro u hu; simp at hu; subst hu; rfl) (by unfold maxLen; omega) (by rw [hz2]; omega) (by simp; omega)
 refine wpList_plain hgd fun K hK' => ?_
 unfold Oper.wp;simp [execOp, ho, resolve, invoke, builtin, hs, hx, hr, Result.andThen];refine hK' _ _ (hK v' w' ?_ ?_ ?_)
 ·unfold OwnT;rw [List.length_append, List.map_append]; rw [hz1] at h3; exact h3
 ·refine (hb.alloc hB _).grown h4 (by simp; omega) ?_;intro k hk;exact (hrow.lt k hk).1
 ·have := h4.size; simp at this; omega
end
def joinT (sep : List UInt8) : List (List UInt8) → List UInt8
 | [] => []
 | a :: r => a ++ (r.map (sep ++ ·)).flatten
def sumL (l : List (List UInt8)) : Nat := l.flatten.length
theorem join_len (sep : List UInt8) : ∀ (r : List (List UInt8)), ((r.map (sep ++ ·)).flatten).length = sep.length * r.length + sumL r
 | [] => by simp [sumL]
 | a :: r => by
  have := join_len sep r;simp only [sumL, List.map_cons, List.flatten_cons, List.length_append, List.length_cons] at *;rw [Nat.mul_add]; omega
theorem sumL_take {l : List (List UInt8)} {k : Nat} {s : List UInt8} (h : l[k]? = some s) : sumL (l.take (k + 1)) = sumL (l.take k) + s.length := by
 unfold sumL;rw [List.take_add_one, h]; simp
theorem sumL_le (l : List (List UInt8)) (k : Nat) : sumL (l.take k) ≤ sumL l := by
 have h : l.take k ++ l.drop k = l := List.take_append_drop k l;have := congrArg sumL h;unfold sumL at *;rw [List.flatten_append, List.length_append] at this;omega
theorem join_at {sep : List UInt8} {a : List UInt8} {r : List (List UInt8)} {k : Nat} {s : List UInt8} (h : r[k]? = some s) : joinT sep (a :: r.take (k + 1)) = joinT sep (a :: r.take k) ++ sep ++ s := by
 simp only [joinT];rw [List.take_add_one, h]; simp
theorem Join_any (l : List (List UInt8)) (sep : List UInt8) (ao : Option Addr) (cap : Nat) (w : World) (hl : l.length ≤ 100) (hc : l.length ≤ cap) (hsp : sep.length ≤ 10) (h0 : 0 < sep.length) (hsm : sumL l ≤ 50000) (ul : US w ao l) :
  Calls Tryz.prog 96 #[.slice ao l.length cap, .string ⟨sep.toArray⟩] w fun e w' => e = .returned (.string ⟨(joinT sep l).toArray⟩) ∧ Below w.heap.size w w' := by
 have Hsm := hii hsm;have Hsp := hii hsp
 match l, hl, hc, hsm, ul with
 | [], _, _, _, _ =>
  go_enter Tryz.func96, Tryz.ntmps96;go_wp2;go_ret;exact ⟨rfl, br⟩
 | [s], _, _, _, ul =>
  obtain ⟨b, off, rfl, c0⟩ := ul 0 s rfl;simp only [Nat.add_zero] at c0;have hJ := hii (show joinT sep [s] = s by simp [joinT]);rw [hJ.out]
  show Calls _ _ #[.slice (some ⟨b, off, none⟩) 1 cap, _] _ _
  go_enter Tryz.func96, Tryz.ntmps96;go_wp2;go_ret;exact ⟨rfl, br⟩
 | s :: t :: r, hl, hc, hsm, ul =>
  obtain ⟨b, off, rfl, c0⟩ := ul 0 s rfl;obtain ⟨n, hn⟩ : ∃ n, n = (s :: t :: r).length := ⟨_, rfl⟩;obtain ⟨q, hq⟩ : ∃ q, q = t :: r := ⟨_, rfl⟩;have hqn : q.length + 1 = n := by rw [hn, hq]; rfl
  rw [← hq] at ul hsm hn ⊢;have hl' : n ≤ 100 := by rw [hn, hq]; exact hl
  have hc' : n ≤ cap := by rw [hn, hq]; exact hc
  have hq1 : 1 ≤ q.length := by rw [hq]; simp
  have Hsum : Hid (sumL (s :: q) ≤ 50000) := hii hsm;rw [← hn];have Hn := hii hn;clear hn hq hsm hl hc Hsm;have HU := hii ul;clear ul;obtain ⟨m, hm⟩ : ∃ m, m = sep.length := ⟨_, rfl⟩;have hsz : (⟨sep.toArray⟩ : ByteArray).size = m := by rw [hm]; rfl
  have Hm := hii hm;rw [← hm] at hsp h0;clear hm;obtain ⟨R, hR⟩ : ∃ R, R = joinT sep (s :: q) := ⟨_, rfl⟩;rw [← hR];have HR := hii hR;clear hR;go_enter Tryz.func96, Tryz.ntmps96;simp only [Nat.add_zero] at c0;obtain ⟨P, hP⟩ : ∃ P : Nat, (m : Int) * ((n : Int) - 1) = (P : Int) := ⟨m * q.length, by rw [← hqn]; simp⟩;have hPl : P ≤ 1000 := by
   have h1 : (m : Int) * ((n : Int) - 1) ≤ 10 * 99 := Int.mul_le_mul (by omega) (by omega) (by omega) (by omega);omega
  have hdiv : ¬ (9223372036854775807 / ((n : Int) - 1) ≤ (m : Int)) := by
   have h1 : ((m : Int) + 1) * ((n : Int) - 1) ≤ 11 * 99 := Int.mul_le_mul (by omega) (by omega) (by omega) (by omega);have h2 : (m : Int) + 1 ≤ 9223372036854775807 / ((n : Int) - 1) := Int.le_ediv_of_mul_le (by omega) (by omega);omega
  have hn0 : ((n : Int) == 0) = false := by rw [beq_eq_false_iff_ne]; omega
  have hn1 : ((n : Int) == 1) = false := by rw [beq_eq_false_iff_ne]; omega
  have hm0 : (0 : Int) < (m : Int) := by omega
  go_wp2_with fail;clear hdiv hn0 hn1 hm0 hP;have HUw := hii HU.out;have hb0 := Below.refl w.heap.size w;have Hl : Hid ((s :: q).length = n) := hii Hn.out.symm;go_loopw [5, 41] (fun s5 c wr => ∃ k : Nat, k ≤ n ∧ c = .int .i64 k ∧ s5 = .int .i64 ((P + sumL ((s :: q).take k) : Nat) : Int) ∧ Below w.heap.size w wr) (fun _ c _ => n - (intOf c).toNat)
  case atStart => exact ⟨0, Nat.zero_le _, rfl, rfl, hb0⟩
  case round =>
   clear hb0;obtain ⟨k, hk, rfl, rfl, hbr⟩ := hrel
   by_cases hlt : k < n
   ·obtain ⟨u, hu⟩ : ∃ u, (s :: q)[k]? = some u := ⟨(s :: q)[k]'(by rw [Hl.out]; exact hlt), gE _⟩;obtain ⟨_, _, e, cu⟩ := (HU.out.mono hbr) k u hu
    cases e
    have HT := hii (sumL_take hu);have hle : sumL ((s :: q).take (k + 1)) ≤ 50000 := Nat.le_trans (sumL_le _ _) Hsum.out;obtain ⟨S, hS⟩ : ∃ S, S = P + sumL ((s :: q).take k) := ⟨_, rfl⟩;obtain ⟨lu, hlu⟩ : ∃ lu, lu = u.length := ⟨_, rfl⟩;have hsu : (⟨u.toArray⟩ : ByteArray).size = lu := by rw [hlu]; rfl
    have hSl : S + lu ≤ 51000 := by rw [HT.out] at hle; omega
    have HS : Hid (P + sumL ((s :: q).take (k + 1)) = S + lu) := hii (by rw [HT.out, hS, hlu]; omega);rw [← hS];clear hu hle hS hlu HT;go_wp2_with fail;go_roundw
    case rel => exact ⟨k + 1, by omega, by go_num, by rw [HS.out]; go_num, hbr⟩
    case measure => simp [intOf]; omega
   ·obtain rfl : k = n := by omega
    have e0 : (s :: q).take k = s :: q := by rw [← Hl.out]; exact List.take_length
    obtain ⟨S, hS⟩ : ∃ S, S = P + sumL ((s :: q).take k) := ⟨_, rfl⟩;have hS5 : S ≤ 51000 := by rw [hS, e0]; have := Hsum.out; omega
    rw [← hS];clear hS e0 hk hlt;have HU := hii (HU.out.mono hbr);obtain ⟨wb, rfl⟩ := exi wr;go_upto_region 19 with fail;have hba := bA wb (.cells #[.pointer none, .slice none 0 0] 147);have hnew : (wb.alloc (.cells #[.pointer none, .slice none 0 0] 147)).heap[wb.heap.size]? = some (.cells #[.pointer none, .slice none 0 0] 147 (0, 0)) := heap_alloc_new _ _;obtain ⟨B, hB⟩ := exi (wb.heap.size);rw [← hB] at hnew ⊢;have HB := hii hB;generalize wb.alloc (.cells #[.pointer none, .slice none 0 0] 147) = w2 at *;have hBw : B ≤ w2.heap.size := by rw [hB]; exact hba.size
    have hbB : Below B wb w2 := by rw [hB]; exact hba
    have hG := Tryz.Builder_Grow_fresh B B S w2 nl hnew hBw (by omega);have HG := hii hG;have HK : Hid (∀ W, Below B wb W → US W (some ⟨b, off, none⟩) (s :: q) ∧ B ≤ W.heap.size) := hii fun W h => by
     rw [HB.out] at h;exact ⟨HU.out.mono h, by rw [HB.out]; exact h.size⟩
    clear hB hba hG hnew;go_wp2_with fail;(with_reducible refine (HG.out).mono ?_);rintro e w3 ⟨rfl, hBA, hb3⟩;have hIB : Lib.IsBuilderF 147 5 B B (Lib.byteCells []) w3 := .inr (Lib.BuilderAtF.of hBA);have hbB := hbB.trans hb3;clear HG hBA hb3 hBw;have h3 := HK.out w3 hbB;obtain ⟨_, _, e, cu⟩ := h3.1 0 s rfl
    cases e
    simp only [Nat.add_zero] at cu;have hBw := h3.2;clear h3;have hsl : s.length ≤ 50000 := by
     have := Hsum.out;unfold sumL at this;rw [List.flatten_cons, List.length_append] at this;omega
    have hW := write_any B [] s w3 hIB (by simp) (by omega) hBw;have HW := hii hW;clear hW hIB;go_wp2_with fail;(with_reducible refine (HW.out).mono ?_);rintro e w4 ⟨rfl, hIB, hb4⟩;have hbB := hbB.trans hb4;clear HW hb4 cu hsl hBw;obtain ⟨j, hj⟩ : ∃ j, j = q.length := ⟨_, rfl⟩;have hjk : (k : Int) - 1 = (j : Int) := by omega
    have hjn : k - 1 = j := by omega
    have Hj := hii hj;have hk1 : (1 : Int) ≤ (k : Int) := by omega
    have hk2 : 1 ≤ k := by omega
    clear hj;go_wp2_with fail;clear hjk hk1;have hIB : Lib.IsBuilderF 147 5 B B (Lib.byteCells (joinT sep (s :: q.take 0))) w4 := by
     have e : joinT sep (s :: q.take 0) = [] ++ s := by simp [joinT]
     rw [e]; exact hIB
    go_loopw [65] (fun c wr => ∃ i : Nat, i ≤ j ∧ c = .int .i64 i ∧ Lib.IsBuilderF 147 5 B B (Lib.byteCells (joinT sep (s :: q.take i))) wr ∧ Below B wb wr) (fun c _ => j - (intOf c).toNat)
    case atStart => exact ⟨0, Nat.zero_le _, rfl, hIB, hbB⟩
    case round =>
     clear hIB hbB;obtain ⟨i, hi, rfl, hIB, hbB⟩ := hrel;have HLen : Hid (∀ i, (joinT sep (s :: q.take i)).length ≤ 60000) := hii fun i => by
      have h1 := join_len sep (q.take i);have h2 := sumL_le q i;have h3 := Hsum.out;have h4 : sep.length * (q.take i).length ≤ 10 * 100 := Nat.mul_le_mul Hsp.out (by simp; have := Hj.out; omega);simp only [joinT, sumL, List.flatten_cons, List.length_append] at *;omega
     by_cases hlt : i < j
     ·obtain ⟨u, hu⟩ : ∃ u, q[i]? = some u := ⟨q[i]'(by rw [← Hj.out]; exact hlt), gE _⟩;have h3 := HK.out wr hbB;obtain ⟨_, _, e, cu⟩ := h3.1 (i + 1) u (by simp [hu])
      cases e
      rw [show off + (i + 1) = off + 1 + i by omega] at cu;have hBw := h3.2;have HJ := hii (join_at (sep := sep) (a := s) hu);have hul : u.length ≤ 50000 := by
       have h1 := sumL_take hu;have h2 := sumL_le q (i + 1);have h3 := Hsum.out;unfold sumL at h1 h2 h3;rw [List.flatten_cons, List.length_append] at h3;omega
      have HUl := hii hul;clear h3 hu hul;have HW := hii (write_any B _ sep wr hIB (by have := HLen.out i; omega) (by have := Hsp.out; omega) hBw);clear hIB;go_wp2_with fail;(with_reducible refine (HW.out).mono ?_);rintro e w5 ⟨rfl, hIB, hb5⟩;have hbB := hbB.trans hb5;have hBw := (HK.out w5 hbB).2;clear HW hb5 cu;have HW := hii (write_any B _ u w5 hIB (by have := HLen.out i; have := Hsp.out; simp; omega) (by have := HUl.out; omega) hBw);clear hIB;go_wp2_with fail;(with_reducible refine (HW.out).mono ?_);rintro e w6 ⟨rfl, hIB, hb6⟩;have hbB := hbB.trans hb6;clear HW hb6;go_wp2;go_roundw
      case rel => exact ⟨i + 1, by omega, by go_num, by rw [HJ.out]; exact hIB, hbB⟩
      case measure => simp [intOf]; omega
     ·obtain rfl : i = j := by omega
      have e0 : q.take i = q := by rw [Hj.out]; exact List.take_length
      rw [e0] at hIB;have hS := Tryz.Builder_String_any_f B B (joinT sep (s :: q)) wr hIB (HK.out wr hbB).2;have HS := hii hS;clear hS e0 hIB;go_wp2_with fail;(with_reducible refine (HS.out).mono ?_);rintro e w7 ⟨rfl, _, hb7⟩;have hbB := hbB.trans hb7;rw [HB.out] at hbB;have hbw := hbr.trans (hbB.mono hbr.size);clear HS hb7 hbB;go_wp2;go_ret;exact ⟨by rw [HR.out]; rfl, hbw⟩
end Go.Proofs.YtgfpbghgpdpepaaGreatDoor
namespace Go.Proofs.YtgfpbghgpdpepaaGreatDoor
open Go.RowKit
theorem UQ.one {w : World} {g : Nat} {n1 : Bool} {a1 : Option Addr} {l1 c1 : Nat} {n2 : Bool} {a2 : Option Addr} {l2 c2 : Nat} {o : Option Rat} (B : Box4 w g (.bool n1) (.slice a1 l1 c1) (.bool n2) (.slice a2 l2 c2)) (h : QV w (.agg #[.bool n1, .slice a1 l1 c1, .bool n2, .slice a2 l2 c2]) o) :
  UQ w (some ⟨g, 0, none⟩) [o] := by
 intro i o' hi
 match i, hi with
 | 0, hi =>
  simp at hi; subst hi;exact ⟨g, 0, n1, a1, l1, c1, n2, a2, l2, c2, rfl, ⟨B.c0, B.c1, B.c2, B.c3, trivial, trivial, trivial, trivial⟩, h⟩
 | i + 1, hi => simp at hi
def textO : Qo → List UInt8
 | some r => Rq.textQ r
 | none => []
def txT (l : List Qo) : List UInt8 := if badQ l then [] else joinT [32] (l.map textO)
def txE (l : List Qo) : Nat := if badQ l then 1 else 0
def fmE (v : Qo) (x y : List Qo) : Nat := if [[v], x, y].any badQ then 1 else 0
def fmT (v : Qo) (x y : List Qo) : List UInt8 := if [[v], x, y].any badQ then [] else joinT [59, 32] ([[v], x, y].map txT)
theorem RatV.sm {w : World} {v : Value} {r : Rat} (h : RatV w v r) : Rq.Sm r.num ∧ Rq.Sm (r.den : Int) := by
 obtain ⟨n1, a1, l1, c1, n2, a2, l2, c2, e, h1, h2⟩ := h;exact ⟨h1.small, h2.small⟩
def ShortT (l : List Qo) : Prop := ∀ o ∈ l, (textO o).length ≤ 700
theorem UQ.short {w : World} {ao : Option Addr} {l : List Qo} (h : UQ w ao l) : ShortT l := by
 intro o ho;obtain ⟨i, hi⟩ := List.getElem?_of_mem ho;obtain ⟨_, _, _, _, _, _, _, _, _, _, _, _, hq⟩ := h i o hi
 cases o with
 | none => simp [textO]
 | some r =>
  have := RatV.sm (hq : RatV _ _ r);exact Rq.textQ_len this.1 this.2
theorem ShortT.sum : ∀ {l : List Qo}, ShortT l → sumL (l.map textO) ≤ l.length * 700
 | [], _ => by simp [sumL]
 | o :: l, h => by
  have h1 := h o (by simp);have h2 := ShortT.sum (l := l) fun x hx => h x (by simp [hx])
  simp only [sumL, List.map_cons, List.flatten_cons, List.length_append, List.length_cons] at *;omega
theorem joinT_len (sep : List UInt8) (l : List (List UInt8)) : (joinT sep l).length ≤ sep.length * l.length + sumL l := by
 cases l with
 | nil => simp [joinT]
 | cons a r =>
  have := join_len sep r;simp only [joinT, sumL, List.flatten_cons, List.length_append, List.length_cons] at *;rw [Nat.mul_add]; omega
theorem txT_len {l : List Qo} (h : ShortT l) : (txT l).length ≤ l.length * 701 := by
 unfold txT
 split
 ·simp
 ·have h1 := joinT_len [32] (l.map textO);have h2 := h.sum;simp only [List.length_cons, List.length_nil, List.length_map] at h1;omega
theorem badQ_snoc {l : List Qo} {k : Nat} {o : Qo} (h : l[k]? = some o) (ho : o.isNone = true) : badQ l = true := by
 unfold badQ; rw [List.any_eq_true]; exact ⟨o, List.mem_of_getElem? h, ho⟩
theorem map_take {l : List Qo} {k : Nat} {o : Qo} (h : l[k]? = some o) : (l.take (k + 1)).map textO = (l.take k).map textO ++ [textO o] := by
 rw [List.take_add_one, h]; simp
theorem dtexts_any (l : List Qo) (aa : Option Addr) (ca : Nat) (w : World) (hl : l.length ≤ 50) (ua : UQ w aa l) (hE : Env w) :
  Calls Tryz.prog 95 #[.slice aa l.length ca] w fun e w' => e = .returned (.tuple #[.string ⟨(txT l).toArray⟩, .int .i64 (txE l)]) ∧ Below w.heap.size w w' := by
 obtain ⟨T, hT⟩ : ∃ T, T = txT l := ⟨_, rfl⟩;obtain ⟨K, hK⟩ : ∃ K, K = txE l := ⟨_, rfl⟩;rw [← hT, ← hK];have HT := hii hT;have HK := hii hK;clear hT hK;have hE0 := hE;have hbw := Below.refl w.heap.size w;go_enter Tryz.func95, Tryz.ntmps95;go_wp2_with fail;go_loopw [4, 11] (fun s c wr => ∃ k : Nat, k ≤ l.length ∧ c = .int .i64 k ∧ OwnT wr w.heap.size s ((l.take k).map textO) ∧ Hid (∀ x ∈ l.take k, x.isNone = false) ∧ Env wr ∧ Below w.heap.size w wr) (fun _ c _ => l.length - (intOf c).toNat)
 case atStart => exact ⟨0, Nat.zero_le _, rfl, OwnT.nil _ _, hii (by simp), hE, hbw⟩
 case round =>
  clear hE hbw;obtain ⟨k, hk, rfl, hown, HN, hE, hbw⟩ := hrel
  by_cases hlt : k < l.length
  ·obtain ⟨o, ho⟩ : ∃ x, l[k]? = some x := ⟨l[k], gE hlt⟩;obtain ⟨b1, off1, ngp, aop, np, capp, ngq, aoq, nq, capq, ea, FA, HVA⟩ := (ua.mono hbw) k o ho;have HM := hii (map_take ho);have HTk := hii (fun h => take_all ho HN.out h);have HO := hii ho;clear ho ua;subst ea;obtain ⟨cFA_0, cFA_1, cFA_2, cFA_3, _, _, _, _⟩ := id FA;go_upto_region 5 with fail;have Y := Box4.new wr (.bool ngp) (.slice aop np capp) (.bool ngq) (.slice aoq nq capq) 34;have hb := bA wr (.cells #[.bool ngp, .slice aop np capp, .bool ngq, .slice aoq nq capq] 34);generalize wr.alloc (.cells #[.bool ngp, .slice aop np capp, .bool ngq, .slice aoq nq capq] 34) = wa at *;have HVA := HVA.mono hb;have hE := hE.mono hb;have hown := hown.mono hb;have hbw := bu hbw hb;clear hb cFA_0 cFA_1 cFA_2 cFA_3 FA;obtain ⟨d0, d1, d2, d3, _, _, _, _⟩ := id Y
   cases o with
   | none =>
    have HVA : VQ wa _ false := HVA;go_wp2_with fail;(with_reducible refine (FormatQ_inv _ wa HVA hE).mono ?_);rintro e v2 ⟨rfl, hb⟩;have hbw := bu hbw hb;clear hb d0 d1 d2 d3;have hbad := badQ_snoc HO.out rfl;have HT1 : Hid (T = []) := hii (by rw [HT.out]; unfold txT; rw [hbad]; rfl);have HK1 : Hid (K = 1) := hii (by rw [HK.out]; unfold txE; rw [hbad]; rfl);clear hbad;go_wp2;go_ret2;exact ⟨by rw [HT1.out, HK1.out]; rfl, hbw⟩
   | some r =>
    have HVA : RatV wa _ r := HVA;go_wp2_with fail;(with_reducible refine (FormatQ _ r wa HVA hE).mono ?_);rintro e v2 ⟨rfl, hb⟩;have hE := hE.mono hb;have hown := hown.mono hb;have hbw := bu hbw hb;have hsz := hbw.size;have hll : ((l.take k).map textO).length ≤ 1000000 := by simp; omega
    have HLL := hii hll;clear hb d0 d1 d2 d3 hll;go_wp2_with (at_builtin; refine app_t _ rfl (.tmp 23) (.tmp 25) rfl w w.heap.size _ ((l.take k).map textO) (Rq.textQ r) rfl hown hsz hbw rfl HLL.out ?_; intro v3 w3 hown3 hbel3 hsz3);have hE := hE0.mono hbel3;go_roundw
    case rel => exact ⟨k + 1, by omega, by go_num, by rw [HM.out]; exact hown3, hii (HTk.out rfl), hE, hbel3⟩
    case measure => simp [intOf]; omega
  ·obtain rfl : k = l.length := by omega
   have HN : Hid (∀ x ∈ l, x.isNone = false) := hii fun x hx => HN.out x (by rw [List.take_length]; exact hx)
   rw [List.take_length] at hown;obtain ⟨ao, cap, rfl, hcap, hU⟩ := hown.read;rw [List.length_map] at hcap ⊢;have hbad := badQ_of HN.out;have HT1 : Hid (T = joinT [32] (l.map textO)) := hii (by rw [HT.out]; unfold txT; rw [hbad]; rfl);have HK1 : Hid (K = 0) := hii (by rw [HK.out]; unfold txE; rw [hbad]; rfl);have hJ := Join_any (l.map textO) [32] ao cap wr (by simp; omega) (by simpa using hcap) (by simp) (by simp) (by have := ua.short.sum; omega) hU;rw [List.length_map, ← HT1.out] at hJ;have HJ := hii hJ;clear hJ hbad hU hown;go_wp2_with fail;(with_reducible refine (HJ.out).mono ?_);rintro e v2 ⟨rfl, hb⟩;have hbw := bu hbw hb;clear hb HJ;go_wp2;go_ret2;exact ⟨by rw [HK1.out]; rfl, hbw⟩
theorem any_at {l : List (List Qo)} {k : Nat} {o : List Qo} (h : l[k]? = some o) (ho : badQ o = true) : l.any badQ = true := by
 rw [List.any_eq_true]; exact ⟨o, List.mem_of_getElem? h, ho⟩
theorem any_no {l : List (List Qo)} (h : ∀ x ∈ l, badQ x = false) : l.any badQ = false := by
 rw [List.any_eq_false]; intro x hx; rw [h x hx]; decide
theorem map_takeT {l : List (List Qo)} {k : Nat} {o : List Qo} (h : l[k]? = some o) : (l.take (k + 1)).map txT = (l.take k).map txT ++ [txT o] := by
 rw [List.take_add_one, h]; simp
theorem fmT_len {v : Qo} {x y : List Qo} (hv : ShortT [v]) (hx : ShortT x) (hy : ShortT y) (lx : x.length ≤ 30) (ly : y.length ≤ 30) : sumL ([[v], x, y].map txT) ≤ 50000 ∧ (joinT [59, 32] ([[v], x, y].map txT)).length ≤ 60000 := by
 have h1 := txT_len hv;have h2 := txT_len hx;have h3 := txT_len hy;have h4 := joinT_len [59, 32] ([[v], x, y].map txT);have h5 : sumL ([[v], x, y].map txT) = (txT [v]).length + ((txT x).length + (txT y).length) := by simp [sumL]
 simp only [List.length_cons, List.length_nil, List.length_map] at *;omega
theorem dFormat_any (v : Qo) (x y : List Qo) (vo : Value) (w : World) (hx : x.length ≤ 30) (hy : y.length ≤ 30) (ho : OptV w vo v x y) (hE : Env w) :
  Calls Tryz.prog 38 #[vo] w fun e w' => e = .returned (.tuple #[.string ⟨(fmT v x y).toArray⟩, .int .i64 (fmE v x y)]) ∧ Below w.heap.size w w' := by
 obtain ⟨T, hT⟩ : ∃ T, T = fmT v x y := ⟨_, rfl⟩;obtain ⟨K, hK⟩ : ∃ K, K = fmE v x y := ⟨_, rfl⟩;rw [← hT, ← hK];have HT := hii hT;have HK := hii hK;clear hT hK;obtain ⟨ng, ao, n, cap, nh, ap, m, caq, ax, cx, ay, cy, rfl, hv, ux, uy⟩ := ho;have hE0 := hE;go_enter Tryz.func38, Tryz.ntmps38;go_upto_region 1 with fail;have hb := bA w (.cells #[.bool ng, .slice ao n cap, .bool nh, .slice ap m caq, .slice ax x.length cx, .slice ay y.length cy] 36);have rO : Row (w.alloc (.cells #[.bool ng, .slice ao n cap, .bool nh, .slice ap m caq, .slice ax x.length cx, .slice ay y.length cy] 36)) w.heap.size 36 [.bool ng, .slice ao n cap, .bool nh, .slice ap m caq, .slice ax x.length cx, .slice ay y.length cy] := heap_alloc_new _ _;obtain ⟨g, hg⟩ := exi (w.heap.size);rw [← hg] at rO ⊢;clear hg;generalize w.alloc (.cells #[.bool ng, .slice ao n cap, .bool nh, .slice ap m caq, .slice ax x.length cx, .slice ay y.length cy] 36) = w1 at *;have hv := hv.mono hb;have ux := ux.mono hb;have uy := uy.mono hb;have hE := hE.mono hb;have hbw := hb;clear hb;have hb1 := bA w1 (.cells #[.bool ng, .slice ao n cap, .bool nh, .slice ap m caq] 34);obtain ⟨y0, y1, y2, y3, y4, y5⟩ := rO.n6;have z4 := (hb1.cell (p := ⟨g, 4, none⟩) (cell_lt y4)).trans y4;have z5 := (hb1.cell (p := ⟨g, 5, none⟩) (cell_lt y5)).trans y5;clear hb1;go_wp2_with fail;clear y0 y1 y2 y3 y4 y5 z4 z5;obtain ⟨wx, hwx, r1, r2, hb⟩ := two_rows w1 34 27 [.bool ng, .slice ao n cap, .bool nh, .slice ap m caq] [.slice (some ⟨w1.heap.size, 0, none⟩) 1 1, .slice ax x.length cx, .slice ay y.length cy];simp only [List.toArray] at hwx;rw [← hwx];clear hwx;have uv : UQ wx (some ⟨w1.heap.size, 0, none⟩) [v] := UQ.one r1.box4 (hv.mono hb);have ux := ux.mono hb;have uy := uy.mono hb;have hE := hE.mono hb;have hbw := bu hbw hb;obtain ⟨g2, hg2⟩ := exi (w1.heap.size + 1);rw [← hg2] at r2 ⊢;clear hg2;obtain ⟨rows, hrows⟩ : ∃ rows, rows = [[v], x, y] := ⟨_, rfl⟩;have hrl : rows.length = 3 := by rw [hrows]; rfl
 have uM : UM wx (some ⟨g2, 0, none⟩) rows := by
  rw [hrows];obtain ⟨z0, z1, z2⟩ := r2.n3;intro i row hi
  match i, hi with
  | 0, hi => simp at hi; subst hi; exact ⟨g2, 0, _, _, rfl, z0, uv⟩
  | 1, hi => simp at hi; subst hi; exact ⟨g2, 0, _, _, rfl, z1, ux⟩
  | 2, hi => simp at hi; subst hi; exact ⟨g2, 0, _, _, rfl, z2, uy⟩
  | i + 3, hi => simp at hi
 have HL : Hid (∀ r ∈ rows, r.length ≤ 50) := hii (by
  rw [hrows]; intro r hr;simp only [List.mem_cons, List.not_mem_nil, or_false] at hr;rcases hr with rfl | rfl | rfl
  ·simp
  ·omega
  ·omega)
 have HSm := hii (fmT_len uv.short ux.short uy.short (by omega) (by omega));rw [← hrows] at HSm;have HT : Hid (T = if rows.any badQ then [] else joinT [59, 32] (rows.map txT)) := hii (by rw [hrows]; exact HT.out);have HK : Hid (K = if rows.any badQ then 1 else 0) := hii (by rw [hrows]; exact HK.out);obtain ⟨w2, rfl⟩ := exi wx;clear hrows uv ux uy hb r1 r2 rO hv;have hb0 := Below.refl w2.heap.size w2;have HRL := hii hrl;clear hrl;go_loopw [4, 19] (fun s c wr => ∃ k : Nat, k ≤ 3 ∧ c = .int .i64 k ∧ OwnT wr w2.heap.size s ((rows.take k).map txT) ∧ Hid (∀ x ∈ rows.take k, badQ x = false) ∧ Env wr ∧ Below w2.heap.size w2 wr) (fun _ c _ => 3 - (intOf c).toNat)
 case atStart => exact ⟨0, Nat.zero_le _, rfl, OwnT.nil _ _, hii (by simp), hE, hb0⟩
 case round =>
  clear hE hb0;obtain ⟨k, hk, rfl, hown, HN, hE, hbr⟩ := hrel
  by_cases hlt : k < 3
  ·obtain ⟨row, hrow⟩ : ∃ x, rows[k]? = some x := ⟨rows[k]'(by rw [HRL.out]; exact hlt), gE _⟩;obtain ⟨b0, off0, ar, cr, ea, hc, uR⟩ := (uM.mono hbr) k row hrow
   cases ea
   simp only [Nat.zero_add] at hc;have HM := hii (map_takeT hrow);have HTk := hii (fun h => take_all hrow HN.out h);have HO := hii hrow;have hrl := HL.out row (List.mem_of_getElem? hrow);obtain ⟨tt, htt⟩ : ∃ t, t = txT row := ⟨_, rfl⟩;obtain ⟨te, hte⟩ : ∃ t, t = txE row := ⟨_, rfl⟩;have hX := dtexts_any row ar cr wr hrl uR hE;rw [← htt, ← hte] at hX;have HX := hii hX;have Htt := hii htt;have Hte := hii hte;clear hX htt hte hrow uR hrl;go_wp2_with fail;(with_reducible refine (HX.out).mono ?_);rintro e v2 ⟨rfl, hb⟩;have hE := hE.mono hb;have hown := hown.mono hb;have hbr := bu hbr hb;clear hb HX
   cases hbd : badQ row with
   | true =>
    obtain rfl : te = 1 := by rw [Hte.out]; unfold txE; rw [hbd]; rfl
    have hany := any_at HO.out hbd;have HT1 : Hid (T = []) := hii (by rw [HT.out, hany]; rfl);have HK1 : Hid (K = 1) := hii (by rw [HK.out, hany]; rfl);have hbw := bu hbw hbr;clear hbd hany hc;go_wp2;go_ret2;exact ⟨by rw [HT1.out, HK1.out]; rfl, hbw⟩
   | false =>
    obtain rfl : te = 0 := by rw [Hte.out]; unfold txE; rw [hbd]; rfl
    have Hbd := hii (HTk.out hbd);have hsz := hbr.size;have hll : ((rows.take k).map txT).length ≤ 1000000 := by simp; omega
    have HLL := hii hll;clear hbd hll hc;go_wp2_with (at_builtin; refine app_t _ rfl (.tmp 31) (.tmp 33) rfl w2 w2.heap.size _ ((rows.take k).map txT) tt rfl hown hsz hbr rfl HLL.out ?_; intro v3 w3 hown3 hbel3 hsz3);have hE := (hE0.mono hbw).mono hbel3;go_roundw
    case rel => exact ⟨k + 1, by omega, by go_num, by rw [HM.out, ← Htt.out]; exact hown3, Hbd, hE, hbel3⟩
    case measure => simp [intOf]; omega
  ·obtain rfl : k = 3 := by omega
   have e0 : rows.take 3 = rows := by rw [← HRL.out]; exact List.take_length
   rw [e0] at hown HN;obtain ⟨ao, cap, rfl, hcap, hU⟩ := hown.read;have hany := any_no HN.out;have HT1 : Hid (T = joinT [59, 32] (rows.map txT)) := hii (by rw [HT.out, hany]; rfl);have HK1 : Hid (K = 0) := hii (by rw [HK.out, hany]; rfl);have HTl : T.length ≤ 60000 := by rw [HT1.out]; exact HSm.out.2
   have hJ := Join_any (rows.map txT) [59, 32] ao cap wr (by simp; have := HRL.out; omega) hcap (by simp) (by simp) (by have := HSm.out.1; omega) hU;rw [← HT1.out] at hJ;have hml : (rows.map txT).length = 3 := by rw [List.length_map, HRL.out]
   rw [hml] at hJ ⊢;have HJ := hii hJ;have hbw := bu hbw hbr;have hTs : (⟨T.toArray⟩ : ByteArray).size = T.length := rfl;obtain ⟨tl, htl⟩ : ∃ tl, tl = T.length := ⟨_, rfl⟩;rw [← htl] at hTs HTl;have g1 : ¬ (65536 : Int) < (tl : Int) := by omega
   clear hJ hU hown hany e0 hml htl;go_wp2_with fail;(with_reducible refine (HJ.out).mono ?_);rintro e v2 ⟨rfl, hb⟩;have hbw := bu hbw hb;clear hb HJ;go_wp2;go_ret2;exact ⟨by rw [HK1.out]; rfl, hbw⟩
end Go.Proofs.YtgfpbghgpdpepaaGreatDoor
