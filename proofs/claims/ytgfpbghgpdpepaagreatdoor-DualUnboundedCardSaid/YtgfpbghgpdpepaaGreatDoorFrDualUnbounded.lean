/-
  'sederuntlaw14.DualUnbounded' returns true for every input, and leaves its arguments as they were. The row's listed variables of Go's library hold what the program's text lays (the card ties them to it).
-/
import Derived.Test.YtgfpbghgpdpepaaGreatDoorWP
import Derived.Test.YtgfpbghgpdpepaaGreatDoorDuAE
import Derived.ChangeSlices
import Derived.Test.YtgfpbghgpdpepaaGreatDoorDuAF
set_option linter.unusedVariables false
set_option linter.unusedSimpArgs false
set_option maxRecDepth 100000
set_option maxHeartbeats 25600000
namespace Go.Proofs.YtgfpbghgpdpepaaGreatDoor
open Go.ChangeShapes Go.WideShapes Go.ChangeAt Go.RowKit Go.Deep
theorem wfU_u8 {n : Int} (h : (Lit.int .u8 n).wf = true) : 0 ≤ n ∧ n ≤ 255 := by
 simp [Lit.wf, IntKind.min, IntKind.max, IntKind.signed, IntKind.bits] at h;omega
theorem wfU_i8 {n : Int} (h : (Lit.int .i8 n).wf = true) : -128 ≤ n ∧ n ≤ 127 := by
 simp [Lit.wf, IntKind.min, IntKind.max, IntKind.signed, IntKind.bits] at h;omega
theorem cellsU_u8 : Tryz.prog.cellsOf 5 = 1 := by kernel_rfl
theorem trod_u8 {H : Type} {enc : TypeId × Value → H} {W : World} {n : Nat} {v : Value} {x : DataW H × List MemPlace} (h : DataW.trod enc Tryz.prog W 0 (fun _ => true) true n 23 [v] = some x) :
  ∃ (a : Option Addr) (l : List Int) (c : Nat), v = .slice a l.length c ∧ l.length ≤ 9223372036854775807 ∧ UK .u8 W a l ∧ ∀ z ∈ l, 0 ≤ z ∧ z ≤ 255 := by
 rcases open_ints Tryz.underlying23 Tryz.underlying5 cellsU_u8 h with ⟨hcs, _⟩ | ⟨a, len, cap, zs, hcs, _, hl, hm, hz, _, hcell, hwz⟩
 ·simp only [List.cons.injEq, and_true] at hcs;exact ⟨none, [], 0, hcs, by simp, fun i z h => by simp at h, fun z h => by simp at h⟩
 ·simp only [List.cons.injEq, and_true] at hcs;subst hcs;rw [if_pos rfl] at hz;have hlen : (zs.take len).length = len := by simp; omega
  refine ⟨some a, zs.take len, cap, by rw [hlen], by rw [hlen]; unfold maxLen at hm; omega, ?_, fun z hz => wfU_u8 (hwz z (List.mem_of_mem_take hz))⟩;intro i z hy;have hi : i < len := by
   obtain ⟨h1, _⟩ := List.getElem?_eq_some_iff.1 hy;simp at h1; omega
  rw [List.getElem?_take_of_lt hi] at hy;have c0 := hcell 0 (by omega);have ci := hcell i (by omega);have hsp : a.spot = none := by
   have : a.add 0 = a := by simp [Addr.add]
   rw [this] at c0;exact spot_noneX c0
  obtain ⟨bb, off, sp⟩ := a;simp only at hsp;subst hsp;rw [add_plainX] at ci;refine ⟨bb, off, rfl, ?_⟩;rw [ci, List.getD_eq_getElem?_getD, hy]
  rfl
theorem openU_u8 {H : Type} {enc : TypeId × Value → H} {r : Reach} {b0 : Nat} {W : World} {v : Value} {d : DataW H} {p : List MemPlace} (hv : Value.okWide Tryz.prog W r b0 23 v) (h : DataW.Trod enc Tryz.prog W 0 (fun _ => true) true 23 v d p) :
  ∃ (a : Option Addr) (l : List Int) (c : Nat), v = .slice a l.length c ∧ l.length ≤ 9223372036854775807 ∧ UK .u8 W a l ∧ ∀ z ∈ l, 0 ≤ z ∧ z ≤ 255 := by
 obtain ⟨a0, len0, cap0, rfl⟩ := okWide_slice Tryz.underlying23 hv;obtain ⟨fuel, hf⟩ := h;exact trod_u8 hf
theorem cellsU_i8 : Tryz.prog.cellsOf 52 = 1 := by kernel_rfl
theorem trod_i8 {H : Type} {enc : TypeId × Value → H} {W : World} {n : Nat} {v : Value} {x : DataW H × List MemPlace} (h : DataW.trod enc Tryz.prog W 0 (fun _ => true) true n 47 [v] = some x) :
  ∃ (a : Option Addr) (l : List Int) (c : Nat), v = .slice a l.length c ∧ l.length ≤ 9223372036854775807 ∧ UK .i8 W a l ∧ ∀ z ∈ l, -128 ≤ z ∧ z ≤ 127 := by
 rcases open_ints Tryz.underlying47 Tryz.underlying52 cellsU_i8 h with ⟨hcs, _⟩ | ⟨a, len, cap, zs, hcs, _, hl, hm, hz, _, hcell, hwz⟩
 ·simp only [List.cons.injEq, and_true] at hcs;exact ⟨none, [], 0, hcs, by simp, fun i z h => by simp at h, fun z h => by simp at h⟩
 ·simp only [List.cons.injEq, and_true] at hcs;subst hcs;rw [if_pos rfl] at hz;have hlen : (zs.take len).length = len := by simp; omega
  refine ⟨some a, zs.take len, cap, by rw [hlen], by rw [hlen]; unfold maxLen at hm; omega, ?_, fun z hz => wfU_i8 (hwz z (List.mem_of_mem_take hz))⟩;intro i z hy;have hi : i < len := by
   obtain ⟨h1, _⟩ := List.getElem?_eq_some_iff.1 hy;simp at h1; omega
  rw [List.getElem?_take_of_lt hi] at hy;have c0 := hcell 0 (by omega);have ci := hcell i (by omega);have hsp : a.spot = none := by
   have : a.add 0 = a := by simp [Addr.add]
   rw [this] at c0;exact spot_noneX c0
  obtain ⟨bb, off, sp⟩ := a;simp only at hsp;subst hsp;rw [add_plainX] at ci;refine ⟨bb, off, rfl, ?_⟩;rw [ci, List.getD_eq_getElem?_getD, hy]
  rfl
theorem openU_i8 {H : Type} {enc : TypeId × Value → H} {r : Reach} {b0 : Nat} {W : World} {v : Value} {d : DataW H} {p : List MemPlace} (hv : Value.okWide Tryz.prog W r b0 47 v) (h : DataW.Trod enc Tryz.prog W 0 (fun _ => true) true 47 v d p) :
  ∃ (a : Option Addr) (l : List Int) (c : Nat), v = .slice a l.length c ∧ l.length ≤ 9223372036854775807 ∧ UK .i8 W a l ∧ ∀ z ∈ l, -128 ≤ z ∧ z ≤ 127 := by
 obtain ⟨a0, len0, cap0, rfl⟩ := okWide_slice Tryz.underlying47 hv;obtain ⟨fuel, hf⟩ := h;exact trod_i8 hf
theorem trod_ur {H : Type} {enc : TypeId × Value → H} {W : World} {n : Nat} {v : Value} {x : DataW H × List MemPlace} (h : DataW.trod enc Tryz.prog W 0 (fun _ => true) true n 22 [v] = some x) :
  ∃ (a : Option Addr) (rows : List (List Int)) (c : Nat), v = .slice a rows.length c ∧ rows.length ≤ 9223372036854775807 ∧ UR W a rows ∧ (∀ row ∈ rows, row.length ≤ 9223372036854775807) ∧ ∀ row ∈ rows, ∀ z ∈ row, -128 ≤ z ∧ z ≤ 127 := by
 rcases open_slice1 Tryz.underlying22 (by kernel_rfl) h with ⟨hcs, _⟩ | ⟨a, len, cap, m, n, V, D, Pl, hcs, _, hl, hm, hmm, _, hi⟩
 ·simp only [List.cons.injEq, and_true] at hcs;exact ⟨none, [], 0, hcs, by simp, fun i z h => by simp at h, fun z h => by simp at h, fun z h => by simp at h⟩
 ·simp only [List.cons.injEq, and_true] at hcs;subst hcs;rw [if_pos rfl] at hmm;subst hmm;have hex : ∀ i, i < len → ∃ (row : List Int) (b off : Nat) (ar : Option Addr) (cr : Nat), a = ⟨b, off, none⟩ ∧ W.cell? ⟨b, off + i, none⟩ = some (.slice ar row.length cr) ∧ UK .i8 W ar row ∧ row.length ≤ 9223372036854775807 ∧ ∀ z ∈ row, -128 ≤ z ∧ z ≤ 127 := by
   intro i hlt;obtain ⟨h1, h2⟩ := hi i (by omega);obtain ⟨ar, row, cr, e, hlr, hu, hz⟩ := trod_i8 h2;rw [e] at h1;have hsp : a.spot = none := by
    have g := (hi 0 (by omega)).1;have e1 : a.add 0 = a := by simp [Addr.add]
    rw [e1] at g;exact spot_noneX g
   obtain ⟨b, off, sp⟩ := a;simp only at hsp;subst hsp;rw [add_plainX] at h1;exact ⟨row, b, off, ar, cr, rfl, h1, hu, hlr, hz⟩
  obtain ⟨f, hf⟩ : ∃ f : Nat → List Int, ∀ i, i < len → ∃ (b off : Nat) (ar : Option Addr) (cr : Nat), a = ⟨b, off, none⟩ ∧ W.cell? ⟨b, off + i, none⟩ = some (.slice ar (f i).length cr) ∧ UK .i8 W ar (f i) ∧ (f i).length ≤ 9223372036854775807 ∧ ∀ z ∈ f i, -128 ≤ z ∧ z ≤ 127 := by
   classical
   refine ⟨fun i => if h : i < len then (hex i h).choose else [], fun i h => ?_⟩;have := (hex i h).choose_spec;simp only [dif_pos h];exact this
  refine ⟨some a, (List.range len).map f, m, by simp, by simp; unfold maxLen at hm; omega, ?_, ?_, ?_⟩
  ·intro i row hr;rw [List.getElem?_map] at hr;obtain ⟨j, hj, rfl⟩ := Option.map_eq_some_iff.1 hr;obtain ⟨hlt, e⟩ := List.getElem?_eq_some_iff.1 hj;simp at hlt e;subst e;obtain ⟨b, off, ar, cr, e, hc, hu, _⟩ := hf i hlt;exact ⟨b, off, ar, cr, by rw [e], hc, hu⟩
  ·intro row hr;obtain ⟨j, hj, rfl⟩ := List.mem_map.1 hr;obtain ⟨_, _, _, _, _, _, _, h1, _⟩ := hf j (by simpa using hj);exact h1
  ·intro row hr;obtain ⟨j, hj, rfl⟩ := List.mem_map.1 hr;obtain ⟨_, _, _, _, _, _, _, _, h1⟩ := hf j (by simpa using hj);exact h1
theorem open_draft13 {H : Type} {enc : TypeId × Value → H} {r : Reach} {b0 : Nat} {W : World} {v : Value} {d : DataW H} {p : List MemPlace} (hv : Value.okWide Tryz.prog W r b0 49 v) (h : DataW.Trod enc Tryz.prog W 0 (fun _ => true) true 49 v d p) :
  ∃ (aA : Option Addr) (A : List (List Int)) (cA : Nat) (aB : Option Addr) (B : List Int) (cB : Nat) (aC : Option Addr) (C : List Int) (cC : Nat), v = .agg #[.slice aA A.length cA, .slice aB B.length cB, .slice aC C.length cC] ∧
   A.length ≤ 9223372036854775807 ∧ B.length ≤ 9223372036854775807 ∧ C.length ≤ 9223372036854775807 ∧ (∀ row ∈ A, row.length ≤ 9223372036854775807) ∧ (∀ row ∈ A, ∀ z ∈ row, -128 ≤ z ∧ z ≤ 127) ∧ (∀ z ∈ B, 0 ≤ z ∧ z ≤ 255) ∧ (∀ z ∈ C, -128 ≤ z ∧ z ≤ 127) ∧ UR W aA A ∧ UK .u8 W aB B ∧ UK .i8 W aC C := by
 obtain ⟨cs, rfl, hsz⟩ := okWide_struct Tryz.underlying49 hv;have h3 : Tryz.prog.cellsOf 49 = 3 := by kernel_rfl
 obtain ⟨x0, x1, x2, rfl⟩ := array_three (hsz.trans h3);obtain ⟨fuel, hf⟩ := h;obtain ⟨xs, m, _, _, _, hl, hx⟩ := DataW.trod_struct Tryz.underlying49 hf;obtain ⟨y0, y1, y2, rfl⟩ := list_three hl;have t0 := hx 0 _ rfl;have t1 := hx 1 _ rfl;have t2 := hx 2 _ rfl;simp only [Value.cells, List.getElem?_cons_zero, List.getElem?_cons_succ] at t0 t1 t2;obtain ⟨aA, A, cA, rfl, nA, uA, lA, zA⟩ := trod_ur t0;obtain ⟨aB, B, cB, rfl, nB, uB, zB⟩ := trod_u8 t1;obtain ⟨aC, C, cC, rfl, nC, uC, zC⟩ := trod_i8 t2;exact ⟨aA, A, cA, aB, B, cB, aC, C, cC, rfl, nA, nB, nC, lA, zA, zB, zC, uA, uB, uC⟩
end Go.Proofs.YtgfpbghgpdpepaaGreatDoor
namespace Go.Proofs.YtgfpbghgpdpepaaGreatDoor.dualUnbounded
open Go.ChangeShapes Go.WideShapes Go.ChangeAt Go.RowKit Go.Deep
theorem contract (H : Type) (enc : TypeId × Value → H) (W : World) (base : Nat) (args : Array Value) (ds gs : List (DataW H)) (before : List MemPlace)
  (hval : ∀ (j : Nat) t v, Tryz.f6.params[j]? = some t → args[j]? = some v → Value.okWide Tryz.prog W .any base t v)
  (hW : DataW.Whole enc Tryz.prog Tryz.f6.params.toList Rows.dualUnboundedSpec.vars false W args.toList ds gs before) (hL : laidMetH Tryz.prog Rows.dualUnboundedRow.laid W) (hSh : W.ShapedOpen Tryz.prog) :
  Calls Tryz.prog 6 args W fun e W' => ∃ v, e = .returned v ∧ Rows.dualUnboundedSpec.post enc Tryz.prog Tryz.f6 false true false false W args v W' := by
 have hE : Env W := env_of hL;have hW' := hW;obtain ⟨p, q, hA0, hV, rfl, hfz, hnd⟩ := hW;have hA : DataW.TrodAll enc Tryz.prog W 0 (fun _ => true) true Tryz.f6.params.toList args.toList ds p := hA0;have hlt : ∀ x ∈ p, x.block < W.heap.size := fun x hx => hW'.lt x (by simp [hx])
 obtain ⟨rfl, rfl⟩ := trodVars_none hV;rw [Tryz.params6] at hA hval;obtain ⟨v0, vs0, d0, ds0, p0, q0, hargs, rfl, rfl, h0, r0⟩ := trodAll_cons hA;obtain ⟨v1, vs1, d1, ds1, p1, q1, rfl, rfl, rfl, h1, r1⟩ := trodAll_cons r0;obtain ⟨v2, vs2, d2, ds2, p2, q2, rfl, rfl, rfl, h2, r2⟩ := trodAll_cons r1;obtain ⟨rfl, rfl, rfl⟩ := trodAll_nil r2;obtain rfl : args = #[v0, v1, v2] := by cases args; simp_all
 obtain ⟨aA, A, cA, aB, B, cB, aC, C, cC, rfl, nA, nB, nC, lA, zA, zB, zC, uA, uB, uC⟩ := open_draft13 (hval 0 49 v0 rfl rfl) h0;obtain ⟨a1, l1, c1, rfl, n1, u1, z1⟩ := openU_i8 (hval 1 47 v1 rfl rfl) h1;obtain ⟨a2, l2, c2, rfl, n2, u2, z2⟩ := openU_u8 (hval 2 23 v2 rfl rfl) h2;refine (unbounded_law A B C l1 l2 aA aB aC a1 a2 cA cB cC c1 c2 W nA nB nC n1 n2 (hii lA) (hii zA) (hii zB) (hii zC) (hii z1) (hii z2) uA uB uC u1 u2 hE).mono fun e W' ⟨he, hb⟩ => ?_
 subst he;refine ⟨_, rfl, post_of_below (pa := _) (pv := []) hW' (fun _ _ _ => trodAll_cons_mk (shut_bool Tryz.underlying4 _) trodAll_mk0) (fun sp hs => ?_) (fun _ _ => rfl) rfl hb (ok_one (by kernel_rfl) rfl (okWide_bool_mk Tryz.underlying4 _))⟩;exact trodAll_stays laidOut hb (fun t ht => by
  have : Tryz.f6.params.toList = [49, 47, 23] := by rw [Tryz.params6]
  rw [this] at ht;simp only [List.mem_cons, List.not_mem_nil, or_false] at ht;rcases ht with rfl | rfl | rfl <;> exact ⟨by kernel_rfl, of_decide_eq_true (by kernel_rfl)⟩) hA0 hlt sp (fun x hx => hs x (by simp at hx ⊢; exact hx))
theorem reads (os : Os) {H : Type} (enc : TypeId × Value → H) : ∃ places, DataW.whole enc Tryz.prog ((laidWorld os).forCall (fun _ _ => 0) ⟨#[], #[.agg #[.slice none 0 0, .slice none 0 0, .slice none 0 0], .slice none 0 0, .slice none 0 0], []⟩).memory Tryz.f6.params.toList Rows.dualUnboundedSpec.vars false #[Value.agg #[.slice none 0 0, .slice none 0 0, .slice none 0 0], Value.slice none 0 0, Value.slice none 0 0].toList 8 = some ([.agg [.nil, .nil, .nil], .nil, .nil], [], places) :=
 ⟨[], by kernel_rfl⟩
theorem lifted (os : Os) (started : os.Started) (H : Type) (enc : TypeId × Value → H) (F : Stop.Interp) :
  ReturnsInHanded {} Tryz.checked os 6 .any ((OpenSpec.ofChange Rows.dualUnboundedSpec).preRow enc Tryz.prog Tryz.f6 Rows.dualUnboundedRow.domain false Rows.dualUnboundedRow.laid) (((OpenSpec.ofChange Rows.dualUnboundedSpec).at F).post enc Tryz.prog Tryz.f6 false true false false) := by
 obtain ⟨places, hx⟩ := reads os enc;refine returnsInHanded_of_row (C := Tryz.checked) (s := OpenSpec.ofChange Rows.dualUnboundedSpec) own started (by kernel_rfl) Tryz.func6
  (witness_row_atRef (enc := enc) (C := Tryz.checked) false (laidWorld os) #[.agg #[.slice none 0 0, .slice none 0 0, .slice none 0 0], .slice none 0 0, .slice none 0 0] rfl (by kernel_rfl) (by kernel_rfl) (by kernel_rfl)
   (OpenSpec.preRow_of_cond 8 hx (by kernel_rfl) (fun k hk => by cases hk) (by kernel_rfl) (laid_met os _))) ?_
 intro W base args ds gs before hval hW _ _ _ hL hSh _;exact contract H enc W base args ds gs before hval hW hL hSh
theorem said : Rows.DualUnboundedSaid :=
 OpenClaim.holds_of_cond 6 Tryz.f6 rfl rfl rfl rfl rfl rfl rfl ⟨rfl, rfl, rfl, rfl, rfl⟩ rfl rfl rfl rfl rfl (by kernel_rfl) Tryz.func6 (by kernel_rfl)
  (of_decide_eq_true (by kernel_rfl)) (by unfold Func.isWrapper; first | (rw [if_pos (by decide +kernel)]; kernel_rfl) | (rw [if_neg (by decide +kernel)]; exact ⟨rfl, rfl⟩))
  (fun os started H enc _ F => by rw [OpenClaim.pre_eq_preRow]; exact lifted os started H enc F)
theorem plain (f : FuncId) (fn : Func) (hf : Tryz.pinned.checked.prog.funcNamed "sederunt/sederuntlaw14.DualUnbounded" = some f) (hfn : Tryz.pinned.checked.prog.funcs[f]? = some fn) :
  true = Tryz.pinned.checked.prog.looks [] ∧ ∀ (j : Nat) t, fn.params[j]? = some t → Tryz.pinned.checked.prog.wantsStandIn t = false := by
 obtain rfl : f = 6 := Option.some.inj ((show Tryz.prog.funcNamed "sederunt/sederuntlaw14.DualUnbounded" = some 6 by kernel_rfl).symm.trans hf) |>.symm
 obtain rfl : fn = Tryz.f6 := (Option.some.inj (Tryz.func6.symm.trans hfn)).symm;refine ⟨by kernel_rfl, fun j t ht => ?_⟩;rw [Tryz.params6] at ht;have ht' := Array.mem_of_getElem? ht;simp only [List.mem_toArray, List.mem_cons, List.not_mem_nil, or_false] at ht';rcases ht' with rfl | rfl | rfl
 ·exact (show Tryz.prog.wantsStandIn 49 = false by kernel_rfl)
 ·exact (show Tryz.prog.wantsStandIn 47 = false by kernel_rfl)
 ·exact (show Tryz.prog.wantsStandIn 23 = false by kernel_rfl)
theorem card : Rows.DualUnboundedCardSaid :=
 Claim7.holds_tied_plain_at .later [] _ _ _ _ said (fun _ h => by cases h) (by kernel_rfl) (fun _ h => by cases h) dualUnbounded_row_tie rfl ⟨rfl, rfl⟩ (by kernel_rfl) rfl plain (by kernel_rfl)
end Go.Proofs.YtgfpbghgpdpepaaGreatDoor.dualUnbounded
