/-
  'sederuntlaw15.LoadBound' returns true for every input, and leaves its arguments as they were. The row's listed variables of Go's library hold what the program's text lays (the card ties them to it).
-/
import Derived.Test.YtfgffkmddanjjaaGreatDoorWitM
import Derived.Test.YtfgffkmddanjjaaGreatDoorMi
set_option linter.unusedVariables false
set_option linter.unusedSimpArgs false
set_option maxRecDepth 100000
set_option maxHeartbeats 25600000
namespace Go.Proofs.YtfgffkmddanjjaaGreatDoor
open _root_.Go.Proofs.Tryz
open Go.ChangeShapes Go.WideShapes Go.ChangeAt Go.RowKit Go.Deep
theorem wfL_u16{n:Int}(h:(Lit.int .u16 n).wf=true):0<=n/\n<=65535:=by
 simp[Lit.wf,IntKind.min,IntKind.max,IntKind.signed,IntKind.bits]at h;omega
open Go.ChangeShapes Go.WideShapes Go.ChangeAt Go.RowKit Go.Deep
theorem wfM_u16{n:Int}(h:(Lit.int .u16 n).wf=true):0<=n/\n<=65535:=wfL_u16 h
theorem cellsM_u16:Tryz.prog.cellsOf 51=1:=by kernel_rfl
theorem trodM_u16{H:Type}{enc:TypeId×Value->H}{W:World}{n:Nat}{v:Value}{x:DataW H×List MemPlace}(h:DataW.trod enc Tryz.prog W 0 (λ_=>true) true n 22 [v]=some x) :
  ∃(a:Option Addr)(l:List Nat)(c:Nat),v=.slice a l.length c/\l.length<=9223372036854775807/\zaR W a l/\∀x∈l,x<65536:=by
 rcases open_ints Tryz.underlying22 Tryz.underlying51 cellsM_u16 h with⟨hcs,_⟩|⟨a,len,cap,zs,hcs,_,hl,hm,hz,_,hcell,hwz⟩
 ·simp only[List.cons.injEq,and_true]at hcs;exact⟨none,[],0,hcs,by simp,λi x h=>by simp at h,λx h=>by simp at h⟩
 ·simp only[List.cons.injEq,and_true]at hcs;subst hcs;rw[if_pos rfl]at hz;have hlen:((zs.take len).map Int.toNat).length=len:=by simp;omega
  refine⟨some a,(zs.take len).map Int.toNat,cap,by rw[hlen],by rw[hlen];unfold maxLen at hm;omega,?_,λx hx=>?_⟩
  ·intro i x hx;have hi:i<len:=by
    have:=(List.getElem?_eq_some_iff.1 hx).1;rw[hlen]at this;exact this
   have c0:=hcell 0 (by omega);have ci:=hcell i (by omega);have hsp:a.spot=none:=by
    have e:a.add 0=a:=by simp[Addr.add]
    rw[e]at c0;exact spot_noneL c0 ⟨_,_,rfl⟩
   obtain⟨bb,off,sp⟩:=a;simp only at hsp;subst hsp;refine⟨bb,off,rfl,?_⟩;have e:(⟨bb,off,none⟩:Addr).add i=⟨bb,off+i,none⟩:=by
    unfold Addr.add;split
    ·subst i;rfl
    ·rfl
   rw[e]at ci;rw[ci];rw[List.getElem?_map,List.getElem?_take_of_lt hi,gE (by omega),Option.map_some,Option.some.injEq]at hx;have hm':zs[i]'(by omega)∈zs:=List.getElem_mem _;have hw:=wfM_u16 (hwz _ hm');rw[List.getD_eq_getElem?_getD,gE (by omega)];simp only[Option.getD_some]
   congr 2
   omega
  ·obtain⟨y,hy,rfl⟩:=List.mem_map.1 hx;have:=wfM_u16 (hwz y (List.mem_of_mem_take hy));omega
theorem list_fiveM{α:Type}{l:List α}(h:l.length=5):∃a b c d e,l=[a,b,c,d,e]:=by
 match l,h with
 |[a,b,c,d,e],_=>exact⟨a,b,c,d,e,rfl⟩
theorem open_case{H:Type}{enc:TypeId×Value->H}{r:Reach}{b0:Nat}{W:World}{v:Value}{d:DataW H}{p:List MemPlace}(hv:Value.okWide Tryz.prog W r b0 25 v)(h:DataW.Trod enc Tryz.prog W 0 (λ_=>true) true 25 v d p) :
  ∃(xN:Nat)(aR:Option Addr)(lR:List Nat)(cR:Nat)(aW:Option Addr)(lW:List Nat)(cW xF:Nat)(aC:Option Addr)(lC:List Nat)(cC:Nat),v=.agg #[.int .u8 (xN:Nat),.slice aR lR.length cR,.slice aW lW.length cW,.int .u8 (xF:Nat),.slice aC lC.length cC] /\
   xN<256/\xF<256/\lR.length<=9223372036854775807/\lW.length<=9223372036854775807/\lC.length<=9223372036854775807/\zaR W aR lR/\zaR W aW lW/\ByU W aC lC/\(∀x∈lR,x<65536)/\(∀x∈lW,x<65536)/\∀x∈lC,x<256:=by
 obtain⟨cs,rfl,hsz⟩:=okWide_struct Tryz.underlying25 hv;have h5:Tryz.prog.cellsOf 25=5:=by kernel_rfl
 obtain⟨cs⟩:=cs;obtain⟨x0,x1,x2,x3,x4,rfl⟩:=list_fiveM (show cs.length=5 from hsz.trans h5);obtain⟨fuel,hf⟩:=h;obtain⟨xs,m,_,_,_,hl,hx⟩:=DataW.trod_struct Tryz.underlying25 hf;obtain⟨y0,y1,y2,y3,y4,rfl⟩:=list_fiveM hl;have t0:=hx 0 _ rfl;have t1:=hx 1 _ rfl;have t2:=hx 2 _ rfl;have t3:=hx 3 _ rfl;have t4:=hx 4 _ rfl;simp only[Value.cells,List.getElem?_cons_zero,List.getElem?_cons_succ]at t0 t1 t2 t3 t4;obtain⟨z0,e0,_,w0⟩:=DataW.trod_int Tryz.underlying5 t0;obtain⟨aR,lR,cR,rfl,nR,uR,zR⟩:=trodM_u16 t1;obtain⟨aW,lW,cW,rfl,nW,uW,zW⟩:=trodM_u16 t2;obtain⟨z3,e3,_,w3⟩:=DataW.trod_int Tryz.underlying5 t3;obtain⟨aC,lC,cC,rfl,nC,uC,zC⟩:=trodM_u8 t4
 cases e0
 cases e3
 obtain⟨k0,rfl,b0⟩:=nat_of_int (k:=255) (wfM_u8 w0);obtain⟨k3,rfl,b3⟩:=nat_of_int (k:=255) (wfM_u8 w3);exact⟨k0,aR,lR,cR,aW,lW,cW,k3,aC,lC,cC,rfl,b0,b3,nR,nW,nC,uR,uW,uC,zR,zW,zC⟩
end Go.Proofs.YtfgffkmddanjjaaGreatDoor
namespace Go.Proofs.YtfgffkmddanjjaaGreatDoor.loadBound
open _root_.Go.Proofs.Tryz
open Go.ChangeShapes Go.WideShapes Go.ChangeAt Go.RowKit Go.Deep
theorem contract(H:Type)(enc:TypeId×Value->H)(W:World)(base:Nat)(args:Array Value)(ds gs:List (DataW H))(before:List MemPlace)
  (hval:∀(j:Nat) t v,Tryz.f7.params[j]?=some t->args[j]?=some v->Value.okWide Tryz.prog W .any base t v)
  (hW:DataW.Whole enc Tryz.prog Tryz.f7.params.toList Rows.loadBoundSpec.vars false W args.toList ds gs before)(hL:laidMetH Tryz.prog Rows.loadBoundRow.laid W)(hSh:W.ShapedOpen Tryz.prog) :
  Calls Tryz.prog 7 args W λe W'=>∃v,e=.returned v/\Rows.loadBoundSpec.post enc Tryz.prog Tryz.f7 false true false false W args v W':=by
 have hE:Env W:=env_of hL;have hW':=hW;obtain⟨p,q,hA0,hV,rfl,hfz,hnd⟩:=hW;have hA:DataW.TrodAll enc Tryz.prog W 0 (λ_=>true) true Tryz.f7.params.toList args.toList ds p:=hA0;have hlt:∀x∈p,x.block<W.heap.size:=λx hx=>hW'.lt x (by simp[hx])
 obtain⟨rfl,rfl⟩:=trodVars_none hV;rw[Tryz.params7]at hA hval;obtain⟨v0,vs0,d0,ds0,p0,q0,hargs,rfl,rfl,h0,r0⟩:=trodAll_cons hA;obtain⟨rfl,rfl,rfl⟩:=trodAll_nil r0;obtain rfl:args=#[v0]:=by cases args;simp_all
 obtain⟨xN,aR,lR,cR,aW,lW,cW,xF,aC,lC,cC,rfl,bN,bF,nR,nW,nC,uR,uW,uC,zR,zW,zC⟩:=open_case (hval 0 25 v0 rfl rfl) h0;refine(zeS xN xF lR lW lC aR aW aC cR cW cC W bN bF nR nW nC uR uW uC (hii zR) (hii zW) (hii zC) hE).mono λe W' ⟨he,hb⟩=>?_
 subst he;refine⟨_,rfl,post_of_below (pa:=_) (pv:=[]) hW' (λ_ _ _=>trodAll_cons_mk (shut_bool Tryz.underlying4 _) trodAll_mk0) (λsp hs=>?_) (λ_ _=>rfl) rfl hb (ok_one (by kernel_rfl) rfl (okWide_bool_mk Tryz.underlying4 _))⟩;exact trodAll_stays laidOut hb (λt ht=>by
  have:Tryz.f7.params.toList=[25]:=by rw[Tryz.params7]
  rw[this]at ht;obtain rfl:t=25:=by simpa using ht
  exact⟨by kernel_rfl,of_decide_eq_true (by kernel_rfl)⟩) hA0 hlt sp (λx hx=>hs x (by simp at hx|-;exact hx))
theorem reads(os:Os){H:Type}(enc:TypeId×Value->H):∃places,DataW.whole enc Tryz.prog ((laidWorld os).forCall (λ_ _=>0) ⟨#[],#[.agg #[.int .u8 0,.slice none 0 0,.slice none 0 0,.int .u8 0,.slice none 0 0]],[]⟩).memory Tryz.f7.params.toList Rows.loadBoundSpec.vars false #[Value.agg #[.int .u8 0,.slice none 0 0,.slice none 0 0,.int .u8 0,.slice none 0 0]].toList 8=some ([.agg [.lit (.int .u8 0),.nil,.nil,.lit (.int .u8 0),.nil]],[],places) :=
 ⟨[],by kernel_rfl⟩
theorem lifted(os:Os)(started:os.Started)(H:Type)(enc:TypeId×Value->H)(F:Stop.Interp) :
  ReturnsInHanded {} Tryz.checked os 7 .any ((OpenSpec.ofChange Rows.loadBoundSpec).preRow enc Tryz.prog Tryz.f7 Rows.loadBoundRow.domain false Rows.loadBoundRow.laid) (((OpenSpec.ofChange Rows.loadBoundSpec).at F).post enc Tryz.prog Tryz.f7 false true false false):=by
 obtain⟨places,hx⟩:=reads os enc;refine returnsInHanded_of_row (C:=Tryz.checked) (s:=OpenSpec.ofChange Rows.loadBoundSpec) own started (by kernel_rfl) func7
  (witness_row_atRef (enc:=enc) (C:=Tryz.checked) false (laidWorld os) #[.agg #[.int .u8 0,.slice none 0 0,.slice none 0 0,.int .u8 0,.slice none 0 0]] rfl (by kernel_rfl) (by kernel_rfl) (by kernel_rfl)
   (OpenSpec.preRow_of_cond 8 hx (by kernel_rfl) (λk hk=>by cases hk) (by kernel_rfl) (laid_met os _))) ?_
 intro W base args ds gs before hval hW _ _ _ hL hSh _;exact contract H enc W base args ds gs before hval hW hL hSh
theorem said:Rows.LoadBoundSaid :=
 OpenClaim.holds_of_cond 7 Tryz.f7 rfl rfl rfl rfl rfl rfl rfl ⟨rfl,rfl,rfl,rfl,rfl⟩ rfl rfl rfl rfl rfl (by kernel_rfl) func7 (by kernel_rfl)
  (of_decide_eq_true (by kernel_rfl)) (by unfold Func.isWrapper;first|(rw[if_pos (by decide+kernel)];kernel_rfl)|(rw[if_neg (by decide+kernel)];exact⟨rfl,rfl⟩))
  (λos started H enc _ F=>by rw[OpenClaim.pre_eq_preRow];exact lifted os started H enc F)
theorem plain(f : FuncId)(fn : Func)(hf : Tryz.pinned.checked.prog.funcNamed "sederunt/sederuntlaw15.LoadBound" = some f)(hfn : Tryz.pinned.checked.prog.funcs[f]? = some fn) :
  false=Tryz.pinned.checked.prog.looks []/\∀(j:Nat) t,fn.params[j]?=some t->Tryz.pinned.checked.prog.wantsStandIn t=false:=by
 obtain rfl : f = 7 := Option.some.inj ((show Tryz.prog.funcNamed "sederunt/sederuntlaw15.LoadBound" = some 7 by kernel_rfl).symm.trans hf) |>.symm
 obtain rfl:fn=Tryz.f7:=(Option.some.inj (func7.symm.trans hfn)).symm;refine⟨by kernel_rfl,λj t ht=>?_⟩;rw[Tryz.params7]at ht;have ht':=Array.mem_of_getElem? ht;obtain rfl:t=25:=by simpa using ht'
 exact(show Tryz.prog.wantsStandIn 25=false by kernel_rfl)
theorem card:Rows.LoadBoundCardSaid :=
 Claim7.holds_tied_plain_at .later [] _ _ _ _ said (λ_ h=>by cases h) (by kernel_rfl) (λ_ h=>by cases h) loadBound_row_tie rfl ⟨rfl,rfl⟩ (by kernel_rfl) rfl plain (by kernel_rfl)
end Go.Proofs.YtfgffkmddanjjaaGreatDoor.loadBound
