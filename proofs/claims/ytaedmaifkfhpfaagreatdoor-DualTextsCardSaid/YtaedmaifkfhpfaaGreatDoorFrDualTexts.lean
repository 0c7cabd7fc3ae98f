/-
  'sederuntlaw14.DualTexts' returns true for every input, and leaves its arguments as they were. The row's listed variables of Go's library hold what the program's text lays (the card ties them to it).
-/
import Derived.Test.YtaedmaifkfhpfaaGreatDoorWY
import Derived.Test.YtaedmaifkfhpfaaGreatDoorDpX
set_option linter.unusedVariables false
set_option linter.unusedSimpArgs false
set_option maxRecDepth 100000
set_option maxHeartbeats 25600000
namespace Go.Proofs.YtaedmaifkfhpfaaGreatDoor.dualTexts
open Go.ChangeShapes Go.WideShapes Go.ChangeAt Go.RowKit Go.Deep
theorem contract (H:Type) (enc:TypeId × Value→H) (W:World) (base:Nat) (args:Array Value) (ds gs:List (DataW H)) (before:List MemPlace)
  (hval:∀ (j:Nat) t v,Tryz.f3.params[j]?=some t→args[j]?=some v→Value.okWide Tryz.prog W .any base t v)
  (hW:DataW.Whole enc Tryz.prog Tryz.f3.params.toList Rows.dualTextsSpec.vars false W args.toList ds gs before) (hz:(DataW.weightsEach Tryz.prog (Tryz.f3.params.toList ++ (OpenSpec.ofChange Rows.dualTextsSpec).bare.plain.varTypes Tryz.prog) (ds ++ gs)).all (·≤reachBytes)=true) (hL:laidMetH Tryz.prog Rows.dualTextsRow.laid W) (hSh:W.ShapedOpen Tryz.prog) :
  Calls Tryz.prog 3 args W fun e W' => ∃ v,e=.returned v∧Rows.dualTextsSpec.post enc Tryz.prog Tryz.f3 false true false false W args v W':=by
 have hE:Env W:=env_of hL;have hM:MaxV W:=max_of hSh;have hW':=hW;obtain ⟨p,q,hA0,hV,rfl,hfz,hnd⟩:=hW;have hA:DataW.TrodAll enc Tryz.prog W 0 (fun _ => true) true Tryz.f3.params.toList args.toList ds p:=hA0;have hlt:∀ x∈p,x.block < W.heap.size:=fun x hx => hW'.lt x (by simp [hx])
 obtain ⟨rfl,rfl⟩:=trodVars_none hV;rw [Tryz.params3] at hA hval hz;obtain ⟨v0,vs0,d0,ds0,p0,q0,hargs,rfl,rfl,h0,r0⟩:=trodAll_cons hA;obtain ⟨v1,vs1,d1,ds1,p1,q1,rfl,rfl,rfl,h1,r1⟩:=trodAll_cons r0;obtain ⟨v2,vs2,d2,ds2,p2,q2,rfl,rfl,rfl,h2,r2⟩:=trodAll_cons r1;obtain ⟨rfl,rfl,rfl⟩:=trodAll_nil r2;obtain rfl:args=#[v0,v1,v2]:=by cases args; simp_all
 have V0:=open_rawQX (hval 0 26 v0 rfl rfl) h0 (fun n hn => by have:=List.all_eq_true.1 hz n (DataW.weights_mem_each (j:=0) (t:=26) (d:=d0) rfl rfl n hn); simpa using this);have V1:=open_rawLX (hval 1 27 v1 rfl rfl) h1 (fun n hn => by have:=List.all_eq_true.1 hz n (DataW.weights_mem_each (j:=1) (t:=27) (d:=d1) rfl rfl n hn); simpa using this);have V2:=open_rawLX (hval 2 27 v2 rfl rfl) h2 (fun n hn => by have:=List.all_eq_true.1 hz n (DataW.weights_mem_each (j:=2) (t:=27) (d:=d2) rfl rfl n hn); simpa using this);refine (dualTexts_law v0 v1 v2 W V0 V1 V2 hE hM).mono fun e W' ⟨he,hb⟩ => ?_
 subst he;refine ⟨_,rfl,post_of_below (pa:=_) (pv:=[]) hW' (fun _ _ _ => trodAll_cons_mk (shut_bool Tryz.underlying4 _) trodAll_mk0) (fun sp hs => ?_) (fun _ _ => rfl) rfl hb (ok_one (by kernel_rfl) rfl (okWide_bool_mk Tryz.underlying4 _))⟩;exact trodAll_stays laidOut hb (fun t ht => by
  have:Tryz.f3.params.toList=[26,27,27]:=by rw [Tryz.params3]
  rw [this] at ht;simp only [List.mem_cons,List.not_mem_nil,or_false] at ht;rcases ht with rfl | rfl | rfl <;> exact ⟨by kernel_rfl,of_decide_eq_true (by kernel_rfl)⟩) hA0 hlt sp (fun x hx => hs x (by simp at hx ⊢; exact hx))
theorem reads (os:Os) {H:Type} (enc:TypeId × Value→H):∃ places,DataW.whole enc Tryz.prog ((laidWorld os).forCall (fun _ _ => 0) ⟨#[],#[.agg #[.bool false,.slice none 0 0,.bool false,.slice none 0 0],.slice none 0 0,.slice none 0 0],[]⟩).memory Tryz.f3.params.toList Rows.dualTextsSpec.vars false #[Value.agg #[.bool false,.slice none 0 0,.bool false,.slice none 0 0],Value.slice none 0 0,Value.slice none 0 0].toList 8=some ([.agg [.agg [.lit (.bool false),.nil],.agg [.lit (.bool false),.nil]],.nil,.nil],[],places) :=
 ⟨[],by kernel_rfl⟩
theorem lifted (os:Os) (started:os.Started) (H:Type) (enc:TypeId × Value→H) (F:Stop.Interp) :
  ReturnsInHanded {} Tryz.checked os 3 .any ((OpenSpec.ofChange Rows.dualTextsSpec).preRow enc Tryz.prog Tryz.f3 Rows.dualTextsRow.domain false Rows.dualTextsRow.laid) (((OpenSpec.ofChange Rows.dualTextsSpec).at F).post enc Tryz.prog Tryz.f3 false true false false):=by
 obtain ⟨places,hx⟩:=reads os enc;refine returnsInHanded_of_row (C:=Tryz.checked) (s:=OpenSpec.ofChange Rows.dualTextsSpec) own started (by kernel_rfl) Tryz.func3
  (witness_row_atRef (enc:=enc) (C:=Tryz.checked) false (laidWorld os) #[.agg #[.bool false,.slice none 0 0,.bool false,.slice none 0 0],.slice none 0 0,.slice none 0 0] rfl (by kernel_rfl) (by kernel_rfl) (by kernel_rfl)
   (OpenSpec.preRow_of_cond 8 hx (by kernel_rfl) (fun k hk => by cases hk) (by kernel_rfl) (laid_met os _))) ?_
 intro W base args ds gs before hval hW _ _ hz hL hSh _;exact contract H enc W base args ds gs before hval hW hz hL hSh
theorem said:Rows.DualTextsSaid :=
 OpenClaim.holds_of_cond 3 Tryz.f3 rfl rfl rfl rfl rfl rfl rfl ⟨rfl,rfl,rfl,rfl,rfl⟩ rfl rfl rfl rfl rfl (by kernel_rfl) Tryz.func3 (by kernel_rfl)
  (of_decide_eq_true (by kernel_rfl)) (by unfold Func.isWrapper; first | (rw [if_pos (by decide +kernel)]; kernel_rfl) | (rw [if_neg (by decide +kernel)]; exact ⟨rfl,rfl⟩))
  (fun os started H enc _ F => by rw [OpenClaim.pre_eq_preRow]; exact lifted os started H enc F)
theorem plain (f : FuncId) (fn : Func) (hf : Tryz.pinned.checked.prog.funcNamed "sederunt/sederuntlaw14.DualTexts" = some f) (hfn : Tryz.pinned.checked.prog.funcs[f]? = some fn) :
  true=Tryz.pinned.checked.prog.looks []∧∀ (j:Nat) t,fn.params[j]?=some t→Tryz.pinned.checked.prog.wantsStandIn t=false:=by
 obtain rfl : f = 3 := Option.some.inj ((show Tryz.prog.funcNamed "sederunt/sederuntlaw14.DualTexts" = some 3 by kernel_rfl).symm.trans hf) |>.symm
 obtain rfl:fn=Tryz.f3:=(Option.some.inj (Tryz.func3.symm.trans hfn)).symm;refine ⟨by kernel_rfl,fun j t ht => ?_⟩;rw [Tryz.params3] at ht;have ht':=Array.mem_of_getElem? ht;simp only [List.mem_toArray,List.mem_cons,List.not_mem_nil,or_false] at ht';rcases ht' with rfl | rfl | rfl
 ·exact (show Tryz.prog.wantsStandIn 26=false by kernel_rfl)
 ·exact (show Tryz.prog.wantsStandIn 27=false by kernel_rfl)
 ·exact (show Tryz.prog.wantsStandIn 27=false by kernel_rfl)
theorem card:Rows.DualTextsCardSaid :=
 Claim7.holds_tied_plain_at .later [] _ _ _ _ said (fun _ h => by cases h) (by kernel_rfl) (fun _ h => by cases h) dualTexts_row_tie rfl ⟨rfl,rfl⟩ (by kernel_rfl) rfl plain (by kernel_rfl)
end Go.Proofs.YtaedmaifkfhpfaaGreatDoor.dualTexts
