/-
  'sederuntlaw14.DualPrograms' returns true for every input, and leaves its arguments as they were. The row's listed variables of Go's library hold what the program's text lays (the card ties them to it).
-/
import Derived.Test.YtgfpbghgpdpepaaGreatDoorWP
import Derived.Test.YtgfpbghgpdpepaaGreatDoorDuAD
set_option linter.unusedVariables false
set_option linter.unusedSimpArgs false
set_option maxRecDepth 100000
set_option maxHeartbeats 25600000
namespace Go.Proofs.YtgfpbghgpdpepaaGreatDoor.dualPrograms
open Go.ChangeShapes Go.WideShapes Go.ChangeAt Go.RowKit Go.Deep
theorem contract (H : Type) (enc : TypeId × Value → H) (W : World) (base : Nat) (args : Array Value) (ds gs : List (DataW H)) (before : List MemPlace)
  (hval : ∀ (j : Nat) t v, Tryz.f7.params[j]? = some t → args[j]? = some v → Value.okWide Tryz.prog W .any base t v)
  (hW : DataW.Whole enc Tryz.prog Tryz.f7.params.toList Rows.dualProgramsSpec.vars false W args.toList ds gs before) (hL : laidMetH Tryz.prog Rows.dualProgramsRow.laid W) (hSh : W.ShapedOpen Tryz.prog) :
  Calls Tryz.prog 7 args W fun e W' => ∃ v, e = .returned v ∧ Rows.dualProgramsSpec.post enc Tryz.prog Tryz.f7 false true false false W args v W' := by
 have hE : Env W := env_of hL;have hW' := hW;obtain ⟨p, q, hA0, hV, rfl, hfz, hnd⟩ := hW;have hA : DataW.TrodAll enc Tryz.prog W 0 (fun _ => true) true Tryz.f7.params.toList args.toList ds p := hA0;have hlt : ∀ x ∈ p, x.block < W.heap.size := fun x hx => hW'.lt x (by simp [hx])
 obtain ⟨rfl, rfl⟩ := trodVars_none hV;rw [Tryz.params7] at hA hval;obtain ⟨v0, vs0, d0, ds0, p0, q0, hargs, rfl, rfl, h0, r0⟩ := trodAll_cons hA;obtain ⟨v1, vs1, d1, ds1, p1, q1, rfl, rfl, rfl, h1, r1⟩ := trodAll_cons r0;obtain ⟨v2, vs2, d2, ds2, p2, q2, rfl, rfl, rfl, h2, r2⟩ := trodAll_cons r1;obtain ⟨rfl, rfl, rfl⟩ := trodAll_nil r2;obtain rfl : args = #[v0, v1, v2] := by cases args; simp_all
 obtain ⟨aA0, nA0, cA0, aB0, nB0, cB0, aC0, nC0, cC0, rfl, lA0, lB0, lC0, uA0, uB0, uC0⟩ := open_rawP (hval 0 29 v0 rfl rfl) h0;obtain ⟨a1, n1, c1, rfl, l1, u1⟩ := open_rawL (hval 1 27 v1 rfl rfl) h1;obtain ⟨a2, n2, c2, rfl, l2, u2⟩ := open_rawL (hval 2 27 v2 rfl rfl) h2;refine (programs_law nA0 nB0 nC0 n1 n2 aA0 aB0 aC0 a1 a2 cA0 cB0 cC0 c1 c2 W lA0 lB0 lC0 l1 l2 uA0 uB0 uC0 u1 u2 hE).mono fun e W' ⟨he, hb⟩ => ?_
 subst he;refine ⟨_, rfl, post_of_below (pa := _) (pv := []) hW' (fun _ _ _ => trodAll_cons_mk (shut_bool Tryz.underlying4 _) trodAll_mk0) (fun sp hs => ?_) (fun _ _ => rfl) rfl hb (ok_one (by kernel_rfl) rfl (okWide_bool_mk Tryz.underlying4 _))⟩;exact trodAll_stays laidOut hb (fun t ht => by
  have : Tryz.f7.params.toList = [29, 27, 27] := by rw [Tryz.params7]
  rw [this] at ht;simp only [List.mem_cons, List.not_mem_nil, or_false] at ht;rcases ht with rfl | rfl | rfl <;> exact ⟨by kernel_rfl, of_decide_eq_true (by kernel_rfl)⟩) hA0 hlt sp (fun x hx => hs x (by simp at hx ⊢; exact hx))
theorem reads (os : Os) {H : Type} (enc : TypeId × Value → H) : ∃ places, DataW.whole enc Tryz.prog ((laidWorld os).forCall (fun _ _ => 0) ⟨#[], #[.agg #[.slice none 0 0, .slice none 0 0, .slice none 0 0], .slice none 0 0, .slice none 0 0], []⟩).memory Tryz.f7.params.toList Rows.dualProgramsSpec.vars false #[Value.agg #[.slice none 0 0, .slice none 0 0, .slice none 0 0], Value.slice none 0 0, Value.slice none 0 0].toList 8 = some ([.agg [.nil, .nil, .nil], .nil, .nil], [], places) :=
 ⟨[], by kernel_rfl⟩
theorem lifted (os : Os) (started : os.Started) (H : Type) (enc : TypeId × Value → H) (F : Stop.Interp) :
  ReturnsInHanded {} Tryz.checked os 7 .any ((OpenSpec.ofChange Rows.dualProgramsSpec).preRow enc Tryz.prog Tryz.f7 Rows.dualProgramsRow.domain false Rows.dualProgramsRow.laid) (((OpenSpec.ofChange Rows.dualProgramsSpec).at F).post enc Tryz.prog Tryz.f7 false true false false) := by
 obtain ⟨places, hx⟩ := reads os enc;refine returnsInHanded_of_row (C := Tryz.checked) (s := OpenSpec.ofChange Rows.dualProgramsSpec) own started (by kernel_rfl) Tryz.func7
  (witness_row_atRef (enc := enc) (C := Tryz.checked) false (laidWorld os) #[.agg #[.slice none 0 0, .slice none 0 0, .slice none 0 0], .slice none 0 0, .slice none 0 0] rfl (by kernel_rfl) (by kernel_rfl) (by kernel_rfl)
   (OpenSpec.preRow_of_cond 8 hx (by kernel_rfl) (fun k hk => by cases hk) (by kernel_rfl) (laid_met os _))) ?_
 intro W base args ds gs before hval hW _ _ _ hL hSh _;exact contract H enc W base args ds gs before hval hW hL hSh
theorem said : Rows.DualProgramsSaid :=
 OpenClaim.holds_of_cond 7 Tryz.f7 rfl rfl rfl rfl rfl rfl rfl ⟨rfl, rfl, rfl, rfl, rfl⟩ rfl rfl rfl rfl rfl (by kernel_rfl) Tryz.func7 (by kernel_rfl)
  (of_decide_eq_true (by kernel_rfl)) (by unfold Func.isWrapper; first | (rw [if_pos (by decide +kernel)]; kernel_rfl) | (rw [if_neg (by decide +kernel)]; exact ⟨rfl, rfl⟩))
  (fun os started H enc _ F => by rw [OpenClaim.pre_eq_preRow]; exact lifted os started H enc F)
theorem plain (f : FuncId) (fn : Func) (hf : Tryz.pinned.checked.prog.funcNamed "sederunt/sederuntlaw14.DualPrograms" = some f) (hfn : Tryz.pinned.checked.prog.funcs[f]? = some fn) :
  true = Tryz.pinned.checked.prog.looks [] ∧ ∀ (j : Nat) t, fn.params[j]? = some t → Tryz.pinned.checked.prog.wantsStandIn t = false := by
 obtain rfl : f = 7 := Option.some.inj ((show Tryz.prog.funcNamed "sederunt/sederuntlaw14.DualPrograms" = some 7 by kernel_rfl).symm.trans hf) |>.symm
 obtain rfl : fn = Tryz.f7 := (Option.some.inj (Tryz.func7.symm.trans hfn)).symm;refine ⟨by kernel_rfl, fun j t ht => ?_⟩;rw [Tryz.params7] at ht;have ht' := Array.mem_of_getElem? ht;simp only [List.mem_toArray, List.mem_cons, List.not_mem_nil, or_false] at ht';rcases ht' with rfl | rfl | rfl
 ·exact (show Tryz.prog.wantsStandIn 29 = false by kernel_rfl)
 ·exact (show Tryz.prog.wantsStandIn 27 = false by kernel_rfl)
 ·exact (show Tryz.prog.wantsStandIn 27 = false by kernel_rfl)
theorem card : Rows.DualProgramsCardSaid :=
 Claim7.holds_tied_plain_at .later [] _ _ _ _ said (fun _ h => by cases h) (by kernel_rfl) (fun _ h => by cases h) dualPrograms_row_tie rfl ⟨rfl, rfl⟩ (by kernel_rfl) rfl plain (by kernel_rfl)
end Go.Proofs.YtgfpbghgpdpepaaGreatDoor.dualPrograms
