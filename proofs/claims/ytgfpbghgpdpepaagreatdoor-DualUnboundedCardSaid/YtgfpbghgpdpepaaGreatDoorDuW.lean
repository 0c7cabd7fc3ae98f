/-
  slices.Repeat of one fraction.
-/
import Derived.Test.YtgfpbghgpdpepaaGreatDoorDuV
import Derived.Test.YtgfpbghgpdpepaaGreatDoorShelfE
import Derived.Test.YtgfpbghgpdpepaaGreatDoorDF
set_option linter.unusedVariables false
set_option linter.unusedSimpArgs false
set_option maxRecDepth 100000
set_option maxHeartbeats 25600000
namespace Go.Proofs.YtgfpbghgpdpepaaGreatDoor
open Go.RowKit
def RepQ (w : World) (g n k : Nat) (v4 : List Value) : Prop :=
 ∃ xs, Row w g 34 xs ∧ xs.length = n * 4 ∧ ∀ j, j < k * 4 → xs[j]? = v4[j % 4]?
theorem RepQ.mono {w w' : World} {g n k : Nat} {v4 : List Value} (h : RepQ w g n k v4) (hb : Below w.heap.size w w') : RepQ w' g n k v4 := by
 obtain ⟨xs, h1, h2, h3⟩ := h;exact ⟨xs, h1.below hb, h2, h3⟩
theorem add_off (g o j : Nat) : (⟨g, o, none⟩ : Addr).add j = ⟨g, o + j, none⟩ := by
 unfold Addr.add; split
 ·subst j; rfl
 ·rfl
theorem run_copy4 (w : World) (g n k m : Nat) (v4 : List Value) (hR : RepQ w g n k v4) (hv : v4.length = 4) (h1 : ∀ u ∈ v4, u.oneCell' = true) (a : Addr) (sLen sCap dCap : Nat) (hm : m = Nat.min sLen (n - k)) (hkn : k ≤ n)
  (hsrc : ∀ j u, j < m * 4 → v4[j % 4]? = some u → w.cell? (a.add j) = some u) :
  ∃ w', (∀ ty, (Builtin.copy_ #[27, 27] ty #[.slice (some ⟨g, k * 4, none⟩) (n - k) dCap, .slice (some a) sLen sCap]).run Tryz.prog w = .ok (.int .i64 m) w') ∧ RepQ w' g n (k + m) v4 ∧ Kept (fun b => b = g) w w' := by
 obtain ⟨i0, hi, hz0, hz1, hz2⟩ := info_parts Tryz.info34;obtain ⟨xs, hr, hx, hk⟩ := hR
 let cs : List Value := (List.range (m * 4)).map fun j => v4.getD (j % 4) undef
 have hcl : cs.length = m * 4 := by simp [cs]
 have hat : ∀ j, j < m * 4 → cs[j]? = v4[j % 4]? := by
  intro j hj;have h4 : j % 4 < v4.length := by rw [hv]; exact Nat.mod_lt _ (by decide)
  simp only [cs, List.getElem?_map, List.getElem?_range hj, Option.map_some, List.getD_eq_getElem?_getD, gE h4, Option.getD_some]
 have hmn : m ≤ n - k := by rw [hm]; exact Nat.min_le_right _ _
 have hl := run_loadCells_list (P := Tryz.prog) (w := w) a cs (fun j u hj => by
  have hlt : j < m * 4 := by have := (List.getElem?_eq_some_iff.1 hj).1; omega
  exact hsrc j u hlt (by rw [← hat j hlt]; exact hj))
 have hmem : ∀ u ∈ cs, u.oneCell' = true := by
  intro u hu;obtain ⟨j, hj⟩ := List.getElem?_of_mem hu;have hlt : j < m * 4 := by have := (List.getElem?_eq_some_iff.1 hj).1; omega
  rw [hat j hlt] at hj;exact h1 u (List.mem_of_getElem? hj)
 have hst := run_storeCells_at (P := Tryz.prog) g (k * 4) 34 cs 0 xs.toArray w hr (by simp [hcl, hx]; omega) hmem;simp only [Nat.add_zero] at hst;have hrun : ∀ ty, (Builtin.copy_ #[27, 27] ty #[.slice (some ⟨g, k * 4, none⟩) (n - k) dCap, .slice (some a) sLen sCap]).run Tryz.prog w = .ok (.int .i64 m) (w.setRow g (xs.take (k * 4) ++ cs ++ xs.drop (k * 4 + cs.length)).toArray) := by
  intro ty;have hl2 : (loadCells a (m * 4)).run Tryz.prog w = .ok cs.toArray w := by rw [← hcl]; exact hl
  simp [Builtin.copy_, run_underlying Tryz.underlying27, Builtin.lenOf, Builtin.firstCells, sizeOf, typeInfo, hi, hz1, hl2, hst, ← hm, goInt]
 refine ⟨_, hrun, ⟨xs.take (k * 4) ++ cs ++ xs.drop (k * 4 + cs.length), setRow_heap w g _ _ _ _ hr, ?_, ?_⟩, (Kept.refl (G := fun b => b = g) w).setRow rfl _⟩
 ·simp [hcl, hx]; omega
 ·intro j hj
  by_cases h2 : j < k * 4
  ·rw [List.append_assoc, List.getElem?_append_left (by simp; omega), List.getElem?_take, if_pos h2]; exact hk j h2
  ·have hlt : j - k * 4 < m * 4 := by omega
   have hlen : (xs.take (k * 4)).length = k * 4 := by simp; omega
   rw [List.append_assoc, List.getElem?_append_right (by omega), hlen, List.getElem?_append_left (by omega), hat _ hlt];rw [show (j - k * 4) % 4 = j % 4 by omega]
theorem oper_copy {P : Program} {o : Oper} {a : Act} {Q : Exit → Act → World → Prop} {next : Act → World → Prop} {T : TypeId} {v u v' : Value} {w w' : World} (s x : Operand) (ho : o.op = .call { callee := .builtin .copy, args := #[s, x], argTypes := #[T, T] }) (hs : a.eval s = v) (hx : a.eval x = u)
  (hr : (Builtin.copy_ #[T, T] o.type #[v, u]).run P w = .ok v' w') (hK : next (a.put o.dst v') w') : o.wp P a w next Q := by
 unfold Oper.wp;simp [execOp, ho, resolve, invoke, builtin, hs, hx, hr, Result.andThen];exact hK
theorem RepQ.all {w : World} {g n : Nat} {n1 : Bool} {a1 : Option Addr} {l1 c1 : Nat} {n2 : Bool} {a2 : Option Addr} {l2 c2 : Nat} {o : Qo} (h : RepQ w g n n [.bool n1, .slice a1 l1 c1, .bool n2, .slice a2 l2 c2]) (hv : QV w (.agg #[.bool n1, .slice a1 l1 c1, .bool n2, .slice a2 l2 c2]) o) : UQ w (some ⟨g, 0, none⟩) (List.replicate n o) := by
 obtain ⟨xs, h1, h2, h3⟩ := h;intro i q hi;rw [List.getElem?_replicate] at hi
 split at hi
 ·next hlt =>
  cases hi
  have hc : ∀ j u, xs[j]? = some u → w.cell? ⟨g, 0 + j, none⟩ = some u := by
   intro j u hu;obtain ⟨hj, rfl⟩ := List.getElem?_eq_some_iff.1 hu;rw [Nat.zero_add]; exact h1.cell hj
  have e : ∀ m, m < 4 → (i * 4 + m) % 4 = m := fun m hm => by omega
  refine ⟨g, 0, n1, a1, l1, c1, n2, a2, l2, c2, rfl, ⟨hc (i * 4) _ ?_, hc (i * 4 + 1) _ ?_, hc (i * 4 + 2) _ ?_, hc (i * 4 + 3) _ ?_, trivial, trivial, trivial, trivial⟩, hv⟩
  ·rw [h3 _ (by omega)]; simp
  ·rw [h3 _ (by omega), e 1 (by omega)]; simp
  ·rw [h3 _ (by omega), e 2 (by omega)]; simp
  ·rw [h3 _ (by omega), e 3 (by omega)]; simp
 ·cases hi
theorem u64_of (z : Nat) (h : z < 18446744073709551616) : IntKind.u64.wrap (z : Int) = (z : Int) := by
 simp [IntKind.wrap, IntKind.bits, IntKind.signed]; omega
theorem i64_of (z : Nat) (h : z < 9223372036854775808) : IntKind.i64.wrap (z : Int) = (z : Int) := by
 simp [IntKind.wrap, IntKind.bits, IntKind.signed]; omega
theorem Repeat_one (n b : Nat) (n1 : Bool) (a1 : Option Addr) (l1 c1 : Nat) (n2 : Bool) (a2 : Option Addr) (l2 c2 : Nat) (w : World) (hn : n ≤ 1000000) (hB : Box4 w b (.bool n1) (.slice a1 l1 c1) (.bool n2) (.slice a2 l2 c2)) :
  Calls Tryz.prog 61 #[.slice (some ⟨b, 0, none⟩) 1 1, .int .i64 n] w fun e w' => (∃ g, e = .returned (.slice (some ⟨g, 0, none⟩) n n) ∧ RepQ w' g n n [.bool n1, .slice a1 l1 c1, .bool n2, .slice a2 l2 c2]) ∧ Below w.heap.size w w' := by
 have Hn := hii hn;have hw1 : IntKind.u64.wrap (n : Int) = (n : Int) := u64_of n (by omega);have hw2 : IntKind.i64.wrap (n : Int) = (n : Int) := i64_of n (by omega);have hd : n / 18446744073709551616 = 0 := Nat.div_eq_of_lt (by omega);have hm : n % 18446744073709551616 = n := Nat.mod_eq_of_lt (by omega);have g1 : ¬ (9223372036854775807 : Int) < (n : Int) := by omega
 go_enter Tryz.func61, Tryz.ntmps61;go_wp2_with fail;have hM := Tryz.bits_Mul 1 n (by decide) (by omega) w;rw [Nat.one_mul, hd, hm] at hM;simp only [Int.natCast_one, Int.natCast_zero] at hM;(with_reducible refine hM.mono ?_);rintro e w1 ⟨rfl, rfl⟩;obtain ⟨v4, hv4⟩ : ∃ v4 : List Value, v4 = [.bool n1, .slice a1 l1 c1, .bool n2, .slice a2 l2 c2] := ⟨_, rfl⟩;have hvl : Hid (v4.length = 4) := hii (by rw [hv4]; rfl);have hv1 : Hid (∀ u ∈ v4, u.oneCell' = true) := hii (by rw [hv4]; intro u hu; simp at hu; rcases hu with rfl | rfl | rfl | rfl <;> rfl);have hsrc : Hid (∀ (W : World), Below w1.heap.size w1 W → ∀ j u, j < 4 → v4[j % 4]? = some u → W.cell? ((⟨b, 0, none⟩ : Addr).add j) = some u) := hii (by
  intro W hb j u hj hu;have hB := hB.mono hb;rw [hv4, Nat.mod_eq_of_lt hj] at hu;rw [add_off, Nat.zero_add]
  match j, hj with
  | 0, _ => simp at hu; subst hu; exact hB.c0
  | 1, _ => simp at hu; subst hu; exact hB.c1
  | 2, _ => simp at hu; subst hu; exact hB.c2
  | 3, _ => simp at hu; subst hu; exact hB.c3)
 have Hv4 := hii hv4;clear hv4 hM hB;go_wp2_with (at_make; refine make_q w1 rfl _ _ rfl n rfl rfl hn ?_; intro w2 hQ hb);have hR : RepQ w2 w1.heap.size n 0 v4 := by
  obtain ⟨xs, h1, h2, _⟩ := hQ;exact ⟨xs, h1, by simpa using h2, fun j hj => by omega⟩
 obtain ⟨g, hg⟩ := exi (w1.heap.size);have Hg : Hid (w1.heap.size ≤ g) := hii (by omega);simp only [← hg] at hR ⊢;obtain ⟨w3, hr, hR3, hk3⟩ := run_copy4 w2 g n 0 (Nat.min 1 n) v4 hR hvl.out hv1.out ⟨b, 0, none⟩ 1 1 n (by rw [Nat.sub_zero]) (Nat.zero_le _) (fun j u hj hu => hsrc.out w2 hb j u (by have : Nat.min 1 n ≤ 1 := Nat.min_le_left 1 n; omega) hu);simp only [Nat.zero_mul, Nat.sub_zero, Nat.zero_add] at hr hR3;have hbw : Below w1.heap.size w1 w3 := hb.trans (hk3.below (fun b hb => by rw [hb]; exact Hg.out) hb.size);clear hg hR hQ hb hk3 hsrc;go_wp2_with fail;rw [hr];clear hr;go_wp2_with fail;go_loopw [8] (fun s wr => ∃ k : Nat, k ≤ n ∧ s = .int .i64 k ∧ (n ≠ 0 → 0 < k) ∧ RepQ wr g n k v4 ∧ Below w1.heap.size w1 wr) (fun s _ => n - (intOf s).toNat)
 case atStart => exact ⟨Nat.min 1 n, Nat.min_le_right _ _, rfl, fun h => by have := Nat.le_min.2 ⟨Nat.le_refl 1, (by omega : 1 ≤ n)⟩; exact this, hR3, hbw⟩
 case round =>
  clear hR3 hbw;obtain ⟨k, hk, rfl, hk0, hR, hbw⟩ := hrel
  by_cases hlt : k < n
  ·have hk1 := hk0 (by omega);clear hk0;obtain ⟨m, hmin⟩ : ∃ m, m = Nat.min k (n - k) := ⟨_, rfl⟩;have hml : m ≤ k := by rw [hmin]; exact Nat.min_le_left _ _
   have hmr : m ≤ n - k := by rw [hmin]; exact Nat.min_le_right _ _
   have hm1 : 0 < m := by rw [hmin]; exact Nat.lt_min.2 ⟨hk1, by omega⟩
   have hmn : k + m ≤ n := by omega
   have hnk : ¬ n = k := by omega
   have Hml := hii hml;have Hwr : Hid (IntKind.i64.wrap ((k : Int) + (m : Int)) = (k : Int) + (m : Int)) := hii (by have := i64_of (k + m) (by omega); simpa using this);have Hmin := hii hmin;clear hmin;go_upto_region 9 with fail;refine wp_region_use2 (wx := w1) [(vf <| .int .i64 k), (fun W v => v = .slice (some ⟨g, 0, none⟩) n n ∧ RepQ W g n k v4), (vf <| .int .i64 k), (fun W v => v = .slice (some ⟨g, k * 4, none⟩) (n - k) (n - k) ∧ RepQ W g n k v4), (vf <| .slice (some ⟨g, 0, none⟩) n n), (vf <| .int .i64 k), (vf <| .slice (some ⟨g, 0, none⟩) k n), (fun W v => v = .int .i64 m ∧ RepQ W g n (k + m) v4), (vf <| .int .i64 ((k : Int) + (m : Int))), (vf <| .int .i64 ((k : Int) + (m : Int)))] [none, some 3, none, some 7, none, none, none, none, none, none] [true, false, true, false, true, true, true, false, true, true] [some 38, some 39, some 40, some 41, some 42, some 43, some 44, some 45, some 46, some 8] [38, 39, 40, 41, 42, 43, 44, 45, 46, 8] 1 7 (fun W _ => RepQ W g n k v4) [(8, .int .i64 k)] (by decide) (by kernel_rfl) (by kernel_rfl) (by kernel_rfl) (by kernel_rfl) (of_decide_eq_true (by kernel_rfl)) (by kernel_rfl) (by kernel_rfl) (hR.mono br.drew) (fun _ _ _ h hb => h.mono hb) (by kernel_rfl) ⟨rfl, trivial⟩ (hbw) ⟨sV _, fun _ _ _ ⟨e, h⟩ hb => ⟨e, h.mono hb⟩, sV _, fun _ _ _ ⟨e, h⟩ hb => ⟨e, h.mono hb⟩, sV _, sV _, sV _, fun _ _ _ ⟨e, h⟩ hb => ⟨e, h.mono hb⟩, sV _, sV _, trivial⟩ ⟨fun _ => cV _, (fun h => absurd h (by decide)), fun _ => cV _, (fun h => absurd h (by decide)), fun _ => cV _, fun _ => cV _, fun _ => cV _, (fun h => absurd h (by decide)), fun _ => cV _, fun _ => cV _, trivial⟩ ⟨?s0, ?s1, ?s2, ?s3, ?s4, ?s5, ?s6, ?s7, ?s8, ?s9, trivial⟩ ?he
   case s0 | s2 | s4 | s5 =>
    rintro T W hb hp hI hA K hK;have i8 : T 8 = .int .i64 k := hI.1;have hp := trivial;simp only [ovr, Act.put, sT, sZ, sS, i8] at hK ⊢;have HK := hii hK;clear hK hA;refine wO rfl (by rfl) ?_;go_simp;exact HK.out _ _ ⟨hb, fun _ => br⟩ rfl
   case s1 =>
    rintro T W hb hp hI hA K hK;have i8 : T 8 = .int .i64 k := hI.1;have hp := hp rfl;simp only [ovr, Act.put, sT, sZ, sS, i8] at hK ⊢;have HK := hii hK;clear hK hA;refine wO rfl (by rfl) ?_;go_simp;exact HK.out _ _ ⟨hb, fun _ => br⟩ (⟨rfl, hp⟩)
   case s3 =>
    rintro T W hb hp hI hA K hK;have i8 : T 8 = .int .i64 k := hI.1;have r1 : ((fun W v => v = .slice (some ⟨g, 0, none⟩) n n ∧ RepQ W g n k v4) : World → Value → Prop) W (T 39) := hA.1 (by decide);have e2 : T 40 = .int .i64 k := hA.2.1 (by decide);have hp := trivial;obtain ⟨e1, hR1⟩ := r1;simp only [ovr, Act.put, sT, sZ, sS, i8, e2, e1] at hK ⊢;have HK := hii hK;clear hK hA;refine wO rfl (by rfl) ?_;go_simp;exact HK.out _ _ ⟨hb, fun _ => br⟩ (⟨rfl, hR1⟩)
   case s6 =>
    rintro T W hb hp hI hA K hK;have i8 : T 8 = .int .i64 k := hI.1;have e4 : T 42 = .slice (some ⟨g, 0, none⟩) n n := hA.1 (by decide);have e5 : T 43 = .int .i64 k := hA.2.1 (by decide);have hp := trivial;simp only [ovr, Act.put, sT, sZ, sS, i8, e4, e5] at hK ⊢;have HK := hii hK;clear hK hA;refine wO rfl (by rfl) ?_;go_simp;exact HK.out _ _ ⟨hb, fun _ => br⟩ rfl
   case s7 =>
    rintro T W hb hp hI hA K hK;have i8 : T 8 = .int .i64 k := hI.1;have r3 : ((fun W v => v = .slice (some ⟨g, k * 4, none⟩) (n - k) (n - k) ∧ RepQ W g n k v4) : World → Value → Prop) W (T 41) := hA.1 (by decide);have e6 : T 44 = .slice (some ⟨g, 0, none⟩) k n := hA.2.1 (by decide);have hp := trivial;obtain ⟨e3, hR3⟩ := r3;simp only [ovr, Act.put, sT, sZ, sS, i8, e6, e3] at hK ⊢;have HK := hii hK;clear hK hA;obtain ⟨w1', hr0, hR4, hk4⟩ := run_copy4 W g n k m v4 hR3 hvl.out hv1.out ⟨g, 0, none⟩ k n (n - k) Hmin.out hk (fun j u hj hu => by
     obtain ⟨xs, q1, q2, q3⟩ := hR3;rw [add_off, Nat.zero_add];have hjk : j < k * 4 := by have := Hml.out; omega
     have hx := q3 j hjk;rw [hu] at hx;obtain ⟨hj2, rfl⟩ := List.getElem?_eq_some_iff.1 hx;exact q1.cell hj2)
    have hr := hr0 3;have hbw1 : Below w1.heap.size w1 w1' := hb.trans (hk4.below (fun b hb => by rw [hb]; exact Hg.out) hb.size);refine wO rfl (by rfl) ?_;refine oper_copy _ _ rfl rfl rfl hr ?_;simp only [Act.put, List.setIfInBounds_toArray, List.set_cons_zero, List.set_cons_succ];exact HK.out _ _ ⟨hbw1, fun h => absurd h (by decide)⟩ (⟨rfl, hR4⟩)
   case s8 =>
    rintro T W hb hp hI hA K hK;have i8 : T 8 = .int .i64 k := hI.1;have e0 : T 38 = .int .i64 k := hA.1 (by decide);have r7 : ((fun W v => v = .int .i64 m ∧ RepQ W g n (k + m) v4) : World → Value → Prop) W (T 45) := hA.2.1 (by decide);have hp := trivial;obtain ⟨e7, _⟩ := r7;simp only [ovr, Act.put, sT, sZ, sS, i8, e0, e7] at hK ⊢;have HK := hii hK;clear hK hA;refine wO rfl (by rfl) ?_;go_simp;exact HK.out _ _ ⟨hb, fun _ => br⟩ (congrArg (Value.int .i64) Hwr.out)
   case s9 =>
    rintro T W hb hp hI hA K hK;have i8 : T 8 = .int .i64 k := hI.1;have e8 : T 46 = .int .i64 ((k : Int) + (m : Int)) := hA.1 (by decide);have r7 : ((fun W v => v = .int .i64 m ∧ RepQ W g n (k + m) v4) : World → Value → Prop) W (T 45) := hA.2.1 (by decide);have e0 : T 38 = .int .i64 k := hA.2.2.1 (by decide);have e2 : T 40 = .int .i64 k := hA.2.2.2.2.1 (by decide);have e4 : T 42 = .slice (some ⟨g, 0, none⟩) n n := hA.2.2.2.2.2.2.1 (by decide);have e5 : T 43 = .int .i64 k := hA.2.2.2.2.2.2.2.1 (by decide);have e6 : T 44 = .slice (some ⟨g, 0, none⟩) k n := hA.2.2.2.2.2.2.2.2.1 (by decide);have hp := trivial;obtain ⟨e7, _⟩ := r7;simp only [ovr, Act.put, sT, sZ, sS, i8, e8, e0, e2, e4, e5, e6, e7] at hK ⊢;have HK := hii hK;clear hK hA;refine wO rfl (by rfl) ?_;go_simp;exact HK.out _ _ ⟨hb, fun _ => br⟩ rfl
   case he =>
    rintro T W hb hA;have f7 : ((fun W v => v = .int .i64 m ∧ RepQ W g n (k + m) v4) : World → Value → Prop) W (T 45) := hA.of 7 (by decide) (by decide);have f9 : T 8 = .int .i64 ((k : Int) + (m : Int)) := hA.of 9 (by decide) (by decide);obtain ⟨-, hR5⟩ := f7;simp only [ovr, sT, sZ, sS, f9];clear hA f9;obtain ⟨wz, rfl⟩ := exi W;go_wp2;go_roundw
    case rel => exact ⟨k + m, hmn, by simp, fun _ => by omega, hR5, hb⟩
    case measure => simp [intOf]; omega
  ·obtain rfl : k = n := by omega
   go_wp2;go_ret;exact ⟨⟨g, rfl, by rw [← Hv4.out]; exact hR⟩, hbw⟩
end Go.Proofs.YtgfpbghgpdpepaaGreatDoor
