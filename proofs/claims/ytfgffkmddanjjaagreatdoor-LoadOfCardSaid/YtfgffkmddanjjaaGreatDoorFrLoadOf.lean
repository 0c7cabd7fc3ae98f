/-
  'sederuntlaw15.LoadOf' returns true for every input, and leaves its arguments as they were. The row's listed variables of Go's library hold what the program's text lays (the card ties them to it).
-/
import Derived.Test.YtfgffkmddanjjaaGreatDoorWitM
import Derived.Test.YtfgffkmddanjjaaGreatDoorNe
set_option linter.unusedVariables false
set_option linter.unusedSimpArgs false
set_option maxRecDepth 100000
set_option maxHeartbeats 25600000
namespace Go.Proofs.YtfgffkmddanjjaaGreatDoor.loadOf
open _root_.Go.Proofs.Tryz
open Go.ChangeShapes Go.WideShapes Go.ChangeAt Go.RowKit Go.Deep
theorem contract(H:Type)(enc:TypeId×Value->H)(W:World)(base:Nat)(args:Array Value)(ds gs:List (DataW H))(before:List MemPlace)
  (hval:∀(j:Nat) t v,Tryz.f6.params[j]?=some t->args[j]?=some v->Value.okWide Tryz.prog W .any base t v)
  (hW:DataW.Whole enc Tryz.prog Tryz.f6.params.toList Rows.loadOfSpec.vars false W args.toList ds gs before)(hL:laidMetH Tryz.prog Rows.loadOfRow.laid W)(hSh:W.ShapedOpen Tryz.prog) :
  Calls Tryz.prog 6 args W λe W'=>∃v,e=.returned v/\Rows.loadOfSpec.post enc Tryz.prog Tryz.f6 false true false false W args v W':=by
 have hE:Env W:=env_of hL;have hW':=hW;obtain⟨p,q,hA0,hV,rfl,hfz,hnd⟩:=hW;have hA:DataW.TrodAll enc Tryz.prog W 0 (λ_=>true) true Tryz.f6.params.toList args.toList ds p:=hA0;have hlt:∀x∈p,x.block<W.heap.size:=λx hx=>hW'.lt x (by simp[hx])
 obtain⟨rfl,rfl⟩:=trodVars_none hV;rw[Tryz.params6]at hA hval;obtain⟨v0,vs0,d0,ds0,p0,q0,hargs,rfl,rfl,h0,r0⟩:=trodAll_cons hA;obtain⟨v1,vs1,d1,ds1,p1,q1,rfl,rfl,rfl,h1,r1⟩:=trodAll_cons r0;obtain⟨v2,vs2,d2,ds2,p2,q2,rfl,rfl,rfl,h2,r2⟩:=trodAll_cons r1;obtain⟨rfl,rfl,rfl⟩:=trodAll_nil r2;obtain rfl:args=#[v0,v1,v2]:=by cases args;simp_all
 obtain⟨xN,aR,lR,cR,aW,lW,cW,xF,aC,lC,cC,rfl,bN,bF,nR,nW,nC,uR,uW,uC,zR,zW,zC⟩:=open_case (hval 0 25 v0 rfl rfl) h0;obtain⟨a1,l1,c1,rfl,n1,u1,z1⟩:=openM_u8 (hval 1 23 v1 rfl rfl) h1;obtain⟨xr,xs,J9,ao9,n9,Y9,K9,ap9,m9,Z9,rfl,hxr,hxs,VP⟩:=open_share (hval 2 59 v2 rfl rfl) h2;refine(ziy xN xF lR lW lC aR aW aC cR cW cC l1 a1 c1 xr xs W bN bF nR nW nC uR uW uC (hii zR) (hii zW) (hii zC) n1 u1 (hii z1) hxr hxs VP hE).mono λe W' ⟨he,hb⟩=>?_
 subst he;refine⟨_,rfl,post_of_below (pa:=_) (pv:=[]) hW' (λ_ _ _=>trodAll_cons_mk (shut_bool Tryz.underlying4 _) trodAll_mk0) (λsp hs=>?_) (λ_ _=>rfl) rfl hb (ok_one (by kernel_rfl) rfl (okWide_bool_mk Tryz.underlying4 _))⟩;exact trodAll_stays laidOut hb (λt ht=>by
  have:Tryz.f6.params.toList=[25,23,59]:=by rw[Tryz.params6]
  rw[this]at ht;simp only[List.mem_cons,List.not_mem_nil,or_false]at ht;rcases ht with rfl|rfl|rfl<;>exact⟨by kernel_rfl,of_decide_eq_true (by kernel_rfl)⟩) hA0 hlt sp (λx hx=>hs x (by simp at hx|-;exact hx))
theorem reads(os:Os){H:Type}(enc:TypeId×Value->H):∃places,DataW.whole enc Tryz.prog ((laidWorld os).forCall (λ_ _=>0) ⟨#[],#[.agg #[.int .u8 0,.slice none 0 0,.slice none 0 0,.int .u8 0,.slice none 0 0],.slice none 0 0,.agg #[.int .u16 0,.int .u16 0,.bool false,.slice none 0 0,.bool false,.slice none 0 0]],[]⟩).memory Tryz.f6.params.toList Rows.loadOfSpec.vars false #[Value.agg #[.int .u8 0,.slice none 0 0,.slice none 0 0,.int .u8 0,.slice none 0 0],Value.slice none 0 0,Value.agg #[.int .u16 0,.int .u16 0,.bool false,.slice none 0 0,.bool false,.slice none 0 0]].toList 8=some ([.agg [.lit (.int .u8 0),.nil,.nil,.lit (.int .u8 0),.nil],.nil,.agg [.lit (.int .u16 0),.lit (.int .u16 0),.agg [.agg [.lit (.bool false),.nil],.agg [.lit (.bool false),.nil]]]],[],places) :=
 ⟨[],by kernel_rfl⟩
theorem lifted(os:Os)(started:os.Started)(H:Type)(enc:TypeId×Value->H)(F:Stop.Interp) :
  ReturnsInHanded {} Tryz.checked os 6 .any ((OpenSpec.ofChange Rows.loadOfSpec).preRow enc Tryz.prog Tryz.f6 Rows.loadOfRow.domain false Rows.loadOfRow.laid) (((OpenSpec.ofChange Rows.loadOfSpec).at F).post enc Tryz.prog Tryz.f6 false true false false):=by
 obtain⟨places,hx⟩:=reads os enc;refine returnsInHanded_of_row (C:=Tryz.checked) (s:=OpenSpec.ofChange Rows.loadOfSpec) own started (by kernel_rfl) func6
  (witness_row_atRef (enc:=enc) (C:=Tryz.checked) false (laidWorld os) #[.agg #[.int .u8 0,.slice none 0 0,.slice none 0 0,.int .u8 0,.slice none 0 0],.slice none 0 0,.agg #[.int .u16 0,.int .u16 0,.bool false,.slice none 0 0,.bool false,.slice none 0 0]] rfl (by kernel_rfl) (by kernel_rfl) (by kernel_rfl)
   (OpenSpec.preRow_of_cond 8 hx (by kernel_rfl) (λk hk=>by cases hk) (by kernel_rfl) (laid_met os _))) ?_
 intro W base args ds gs before hval hW _ _ _ hL hSh _;exact contract H enc W base args ds gs before hval hW hL hSh
theorem said:Rows.LoadOfSaid :=
 OpenClaim.holds_of_cond 6 Tryz.f6 rfl rfl rfl rfl rfl rfl rfl ⟨rfl,rfl,rfl,rfl,rfl⟩ rfl rfl rfl rfl rfl (by kernel_rfl) func6 (by kernel_rfl)
  (of_decide_eq_true (by kernel_rfl)) (by unfold Func.isWrapper;first|(rw[if_pos (by decide+kernel)];kernel_rfl)|(rw[if_neg (by decide+kernel)];exact⟨rfl,rfl⟩))
  (λos started H enc _ F=>by rw[OpenClaim.pre_eq_preRow];exact lifted os started H enc F)
theorem plain(f : FuncId)(fn : Func)(hf : Tryz.pinned.checked.prog.funcNamed "sederunt/sederuntlaw15.LoadOf" = some f)(hfn : Tryz.pinned.checked.prog.funcs[f]? = some fn) :
  false=Tryz.pinned.checked.prog.looks []/\∀(j:Nat) t,fn.params[j]?=some t->Tryz.pinned.checked.prog.wantsStandIn t=false:=by
 obtain rfl : f = 6 := Option.some.inj ((show Tryz.prog.funcNamed "sederunt/sederuntlaw15.LoadOf" = some 6 by kernel_rfl).symm.trans hf) |>.symm
 obtain rfl:fn=Tryz.f6:=(Option.some.inj (func6.symm.trans hfn)).symm;refine⟨by kernel_rfl,λj t ht=>?_⟩;rw[Tryz.params6]at ht;have ht':=Array.mem_of_getElem? ht;simp only[List.mem_toArray,List.mem_cons,List.not_mem_nil,or_false]at ht';rcases ht' with rfl|rfl|rfl
 ·exact(show Tryz.prog.wantsStandIn 25=false by kernel_rfl)
 ·exact(show Tryz.prog.wantsStandIn 23=false by kernel_rfl)
 ·exact(show Tryz.prog.wantsStandIn 59=false by kernel_rfl)
theorem card:Rows.LoadOfCardSaid :=
 Claim7.holds_tied_plain_at .later [] _ _ _ _ said (λ_ h=>by cases h) (by kernel_rfl) (λ_ h=>by cases h) loadOf_row_tie rfl ⟨rfl,rfl⟩ (by kernel_rfl) rfl plain (by kernel_rfl)
end Go.Proofs.YtfgffkmddanjjaaGreatDoor.loadOf
