/-
  'sederuntlaw15.LoadScaled' returns true for every input, and leaves its arguments as they were. The row's listed variables of Go's library hold what the program's text lays (the card ties them to it).
-/
import Derived.Test.YtfgffkmddanjjaaGreatDoorWitM
import Derived.Test.YtfgffkmddanjjaaGreatDoorMh
set_option linter.unusedVariables false
set_option linter.unusedSimpArgs false
set_option maxRecDepth 100000
set_option maxHeartbeats 25600000
namespace Go.Proofs.YtfgffkmddanjjaaGreatDoor.loadScaled
open _root_.Go.Proofs.Tryz
open Go.ChangeShapes Go.WideShapes Go.ChangeAt Go.RowKit Go.Deep
theorem contract (H:Type) (enc:TypeId × Value->H) (W:World) (base:Nat) (args:Array Value) (ds gs:List (DataW H)) (before:List MemPlace)
  (hval:∀ (j:Nat) t v,Tryz.f3.params[j]?=some t->args[j]?=some v->Value.okWide Tryz.prog W .any base t v)
  (hW:DataW.Whole enc Tryz.prog Tryz.f3.params.toList Rows.loadScaledSpec.vars false W args.toList ds gs before) (hL:laidMetH Tryz.prog Rows.loadScaledRow.laid W) (hSh:W.ShapedOpen Tryz.prog) :
  Calls Tryz.prog 3 args W λ e W' => ∃ v,e=.returned v/\Rows.loadScaledSpec.post enc Tryz.prog Tryz.f3 false true false false W args v W':=by
 have hE:Env W:=env_of hL;have hW':=hW;obtain ⟨p,q,hA0,hV,rfl,hfz,hnd⟩:=hW;have hA:DataW.TrodAll enc Tryz.prog W 0 (λ _ => true) true Tryz.f3.params.toList args.toList ds p:=hA0;have hlt:∀ x∈p,x.block < W.heap.size:=λ x hx => hW'.lt x (by simp [hx])
 obtain ⟨rfl,rfl⟩:=trodVars_none hV;rw [Tryz.params3] at hA hval;obtain ⟨v0,vs0,d0,ds0,p0,q0,hargs,rfl,rfl,h0,r0⟩:=trodAll_cons hA;obtain ⟨rfl,rfl,rfl⟩:=trodAll_nil r0;obtain rfl:args=#[v0]:=by cases args; simp_all
 obtain ⟨xN,aR,lR,cR,aW,lW,cW,xF,aC,lC,cC,rfl,bN,bF,nR,nW,nC,uR,uW,uC,zR,zW,zC⟩:=open_case (hval 0 25 v0 rfl rfl) h0;refine (zdL xN xF lR lW lC aR aW aC cR cW cC W bN bF nR nW nC uR uW uC (hii zR) (hii zW) (hii zC) hE).mono λ e W' ⟨he,hb⟩ => ?_
 subst he;refine ⟨_,rfl,post_of_below (pa:=_) (pv:=[]) hW' (λ _ _ _ => trodAll_cons_mk (shut_bool Tryz.underlying4 _) trodAll_mk0) (λ sp hs => ?_) (λ _ _ => rfl) rfl hb (ok_one (by kernel_rfl) rfl (okWide_bool_mk Tryz.underlying4 _))⟩;exact trodAll_stays laidOut hb (λ t ht => by
  have:Tryz.f3.params.toList=[25]:=by rw [Tryz.params3]
  rw [this] at ht;obtain rfl:t=25:=by simpa using ht
  exact ⟨by kernel_rfl,of_decide_eq_true (by kernel_rfl)⟩) hA0 hlt sp (λ x hx => hs x (by simp at hx |-; exact hx))
theorem reads (os:Os) {H:Type} (enc:TypeId × Value->H):∃ places,DataW.whole enc Tryz.prog ((laidWorld os).forCall (λ _ _ => 0) ⟨#[],#[.agg #[.int .u8 0,.slice none 0 0,.slice none 0 0,.int .u8 0,.slice none 0 0]],[]⟩).memory Tryz.f3.params.toList Rows.loadScaledSpec.vars false #[Value.agg #[.int .u8 0,.slice none 0 0,.slice none 0 0,.int .u8 0,.slice none 0 0]].toList 8=some ([.agg [.lit (.int .u8 0),.nil,.nil,.lit (.int .u8 0),.nil]],[],places) :=
 ⟨[],by kernel_rfl⟩
theorem lifted (os:Os) (started:os.Started) (H:Type) (enc:TypeId × Value->H) (F:Stop.Interp) :
  ReturnsInHanded {} Tryz.checked os 3 .any ((OpenSpec.ofChange Rows.loadScaledSpec).preRow enc Tryz.prog Tryz.f3 Rows.loadScaledRow.domain false Rows.loadScaledRow.laid) (((OpenSpec.ofChange Rows.loadScaledSpec).at F).post enc Tryz.prog Tryz.f3 false true false false):=by
 obtain ⟨places,hx⟩:=reads os enc;refine returnsInHanded_of_row (C:=Tryz.checked) (s:=OpenSpec.ofChange Rows.loadScaledSpec) own started (by kernel_rfl) func3
  (witness_row_atRef (enc:=enc) (C:=Tryz.checked) false (laidWorld os) #[.agg #[.int .u8 0,.slice none 0 0,.slice none 0 0,.int .u8 0,.slice none 0 0]] rfl (by kernel_rfl) (by kernel_rfl) (by kernel_rfl)
   (OpenSpec.preRow_of_cond 8 hx (by kernel_rfl) (λ k hk => by cases hk) (by kernel_rfl) (laid_met os _))) ?_
 intro W base args ds gs before hval hW _ _ _ hL hSh _;exact contract H enc W base args ds gs before hval hW hL hSh
theorem said:Rows.LoadScaledSaid :=
 OpenClaim.holds_of_cond 3 Tryz.f3 rfl rfl rfl rfl rfl rfl rfl ⟨rfl,rfl,rfl,rfl,rfl⟩ rfl rfl rfl rfl rfl (by kernel_rfl) func3 (by kernel_rfl)
  (of_decide_eq_true (by kernel_rfl)) (by unfold Func.isWrapper; first | (rw [if_pos (by decide +kernel)]; kernel_rfl) | (rw [if_neg (by decide +kernel)]; exact ⟨rfl,rfl⟩))
  (λ os started H enc _ F => by rw [OpenClaim.pre_eq_preRow]; exact lifted os started H enc F)
theorem plain (f : FuncId) (fn : Func) (hf : Tryz.pinned.checked.prog.funcNamed "sederunt/sederuntlaw15.LoadScaled" = some f) (hfn : Tryz.pinned.checked.prog.funcs[f]? = some fn) :
  false=Tryz.pinned.checked.prog.looks []/\∀ (j:Nat) t,fn.params[j]?=some t->Tryz.pinned.checked.prog.wantsStandIn t=false:=by
 obtain rfl : f = 3 := Option.some.inj ((show Tryz.prog.funcNamed "sederunt/sederuntlaw15.LoadScaled" = some 3 by kernel_rfl).symm.trans hf) |>.symm
 obtain rfl:fn=Tryz.f3:=(Option.some.inj (func3.symm.trans hfn)).symm;refine ⟨by kernel_rfl,λ j t ht => ?_⟩;rw [Tryz.params3] at ht;have ht':=Array.mem_of_getElem? ht;obtain rfl:t=25:=by simpa using ht'
 exact (show Tryz.prog.wantsStandIn 25=false by kernel_rfl)
theorem card:Rows.LoadScaledCardSaid :=
 Claim7.holds_tied_plain_at .later [] _ _ _ _ said (λ _ h => by cases h) (by kernel_rfl) (λ _ h => by cases h) loadScaled_row_tie rfl ⟨rfl,rfl⟩ (by kernel_rfl) rfl plain (by kernel_rfl)
end Go.Proofs.YtfgffkmddanjjaaGreatDoor.loadScaled
