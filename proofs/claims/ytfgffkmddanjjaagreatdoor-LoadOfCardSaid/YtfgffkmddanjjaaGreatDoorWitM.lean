import Derived.Test.YtfgffkmddanjjaaGreatDoorLu
import Derived.ChangeSlices
import Derived.Shelf.Vars
import Derived.Test.YtfgffkmddanjjaaGreatDoorCards
import Derived.Test.YtfgffkmddanjjaaGreatDoorTie
import Derived.ProofKit
import Derived.OpenShut
import Derived.Below
import Derived.ChangeSame
import Derived.Lib.SmallJoins
import Derived.Lib.LaidU8
import Derived.Lib.LaidTab
import Derived.Deep.DeepHandedRow
import Derived.Deep.DeepWitnessRowRef
import Derived.Test.YtfgffkmddanjjaaGreatDoorMe
import Derived.Test.YtfgffkmddanjjaaGreatDoorNd
set_option linter.unusedVariables false
set_option linter.unusedSimpArgs false
set_option maxRecDepth 100000
set_option maxHeartbeats 25600000
namespace Go.Proofs.YtfgffkmddanjjaaGreatDoor
open Go.ChangeShapes Go.WideShapes Go.ChangeAt Go.RowKit Go.Deep
theorem own:ownKnob Tryz.prog.godebug=none:=by kernel_rfl
theorem laidOut:laidOutB Tryz.prog=true:=by kernel_rfl
section
variable {H : Type} {enc : TypeId × Vl → H} {P : Program}
theorem post_of_below{f:Func}{s:ChangeSpec}{apart fresh handsOn again:Bool}{W W':Wo}{args:Array Vl}{v:Vl}{ds gs:List (DataW H)}{before pa pv:List MemPlace}
  (hW:DataW.Whole enc P f.params.toList s.vars apart W args.toList ds gs before)
  (hres:∀(b:Nat)(sp:Nat->Bool)(hd:Bool),DataW.TrodAll enc P W' b sp hd f.resultTypes.toList (v.resultList f.resultTypes.size) (s.fn H (ds++gs)).results [])
  (hargs:∀sp:Nat->Bool,(∀p∈before,sp p.block=true)->DataW.TrodAll enc P W' 0 sp true f.params.toList args.toList (s.fn H (ds++gs)).args pa)
  (hvars:∀sp:Nat->Bool,(∀p∈before,sp p.block=true)->DataW.TrodVars enc P W' sp s.vars (s.fn H (ds++gs)).vars pv)
  (hps:before=pa++pv)(hb:BH W W')
  (hok:∀(j:Nat)(t:TypeId)(r:Vl),f.resultTypes[j]?=some t->(v.resultList f.resultTypes.size)[j]?=some r->Value.okWide P W' .any 0 t r) :
  s.post enc P f apart fresh handsOn again W args v W':=by
 have hlt:∀p∈before,p.block<W.heap.size:=λp hp=>hW.lt p hp
 have hold:∀p∈before,(λb=>decide (b<W.heap.size)) p.block=true:=λp hp=>by simpa using hlt p hp
 refine⟨ds,gs,before,[],pa,pv,hW,hres _ _ _,hargs _ hold,hvars _ hold,World.keptBut_mono (λp hp=>⟨hp,?_⟩) (hb.frame (·∈before)),λ_=>?_⟩
 ·rw[hps,List.mem_append]at hp;exact Or.inr hp
 ·obtain⟨_,_,_,_,_,hz,hn⟩:=hW;refine⟨hok,_,_,([]++pa)++pv,⟨[]++pa,pv,trodAll_append (hargs _ (λ_ _=>rfl)) (hres _ _ _),hvars _ (λ_ _=>rfl),rfl,?_,?_⟩,?_⟩
  ·intro b off hp;have hin:MemPlace.cell b off∈before:=by rw[hps];simpa using hp
   rw[hb.frozen (hlt _ hin)];exact hz b off hin
  ·intro ha;have:=hn ha;rw[hps]at this
   simpa using this
  ·intro p hp _;rw[hps]
   simpa using hp
theorem trodAll_stays(hl:laidOutB P=true){W W':Wo}(hb:BH W W'):∀{ts:List TypeId} {vs:List Vl} {ds:List (DataW H)} {ps:List MemPlace},(∀t∈ts,P.readableRec t=true/\t<P.types.size) ->
  DataW.TrodAll enc P W 0 (λ_=>true) true ts vs ds ps->(∀p∈ps,p.block<W.heap.size)->∀sp:Nat->Bool,(∀p∈ps,sp p.block=true)->DataW.TrodAll enc P W' 0 sp true ts vs ds ps
 |[],vs,ds,ps,_,h,_,_,_=>by
  obtain⟨rfl,rfl,rfl⟩:=trodAll_nil h;exact h
 |t :: ts,vs,ds,ps,hk,h,hlt,sp,hs=>by
  obtain⟨v,vs',d,ds',p,q,rfl,rfl,rfl,hd,hr⟩:=trodAll_cons h;have ht:=hk t sM;exact⟨p,q,WideElems.Trod_stays hl ht.1 ht.2 hd (λx hx=>hb.same (hlt x (by simp[hx]))) (λx hx=>hs x (by simp[hx])),
   trodAll_stays hl hb (λt' h'=>hk t' (by simp[h'])) hr (λx hx=>hlt x (by simp[hx])) sp (λx hx=>hs x (by simp[hx])),rfl⟩
end
theorem gPow : Tryz.prog.globalNamed "internal/strconv.uint64pow10" = some 0 := by kernel_rfl
theorem gPowType:(Tryz.prog.globals[0]?).map (·.type)=some 225:=by kernel_rfl
theorem cellsPow:Tryz.prog.cellsOf 225=20:=by kernel_rfl
theorem cells64:Tryz.prog.cellsOf 153=1:=by kernel_rfl
theorem cellsU32:Tryz.prog.cellsOf 128=1:=by kernel_rfl
theorem env_of{W:Wo}(h:laidMetH Tryz.prog Rows.loadBoundsRow.laid W):Env W:=by
 have h' : laidMet Tryz.prog Rows.loadBoundsRow.laid W := h;obtain⟨g', t', cs, fuel, p, hg', ht', hvar, hd⟩ := Lib.laidMet.reads h' (n := "internal/strconv.uint64pow10") (d := Lib.tabData .u64 Lib.pow10Tab) (.tail _ (.tail _ (.head _)));obtain rfl := Option.some.inj (gPow.symm.trans hg');obtain rfl := Option.some.inj (gPowType.symm.trans ht');refine⟨?_⟩;unfold Lib.TabIs;rw[hvar, ← Lib.cells_of_tab Tryz.underlying225 Tryz.underlying153 cells64 cellsPow hd]
theorem wfL_u16{n:Int}(h:(Lit.int .u16 n).wf=true):0<=n/\n<=65535:=by
 exact dZ
theorem spot_noneL{w:Wo}{a:Addr}{v:Vl}(h:w.cell? a=some v)(hi:∃k n,v=.int k n):a.spot=none:=by
 obtain⟨k,n,rfl⟩:=hi;unfold World.cell? at h
 cases hsp:a.spot with
 |none=>rfl
 |some k=>rw[hsp]at h;simp at h;split at h<;>simp at h
noncomputable def laidWorld(os:Os):Wo :=
 let w0:=World.holding Tryz.prog os ⟨#[],#[],[]⟩
 let put (h:Array Obj) (g:Nat) (cs:Array Vl):Array Obj:=h.modify g fun
  |.cells _ t frozen=>.cells cs t frozen
  |o=>o
 let h3:=put w0.heap 0 (Lib.pow10Tab.map λz=>Value.int .u64 z).toArray
 let h4:=put h3 2 #[.int .u8 0,.int .u8 1,.int .u8 28,.int .u8 2,.int .u8 29,.int .u8 14,.int .u8 24,.int .u8 3,.int .u8 30,.int .u8 22,.int .u8 20,.int .u8 15,.int .u8 25,.int .u8 17,.int .u8 4,.int .u8 8,.int .u8 31,.int .u8 27,.int .u8 13,.int .u8 23,.int .u8 21,.int .u8 19,.int .u8 16,.int .u8 7,.int .u8 26,.int .u8 12,.int .u8 18,.int .u8 6,.int .u8 11,.int .u8 5,.int .u8 10,.int .u8 9]
 let h5:=put h4 3 #[.int .u8 0,.int .u8 1,.int .u8 56,.int .u8 2,.int .u8 57,.int .u8 49,.int .u8 28,.int .u8 3,.int .u8 61,.int .u8 58,.int .u8 42,.int .u8 50,.int .u8 38,.int .u8 29,.int .u8 17,.int .u8 4,.int .u8 62,.int .u8 47,.int .u8 59,.int .u8 36,.int .u8 45,.int .u8 43,.int .u8 51,.int .u8 22,.int .u8 53,.int .u8 39,.int .u8 33,.int .u8 30,.int .u8 24,.int .u8 18,.int .u8 12,.int .u8 5,.int .u8 63,.int .u8 55,.int .u8 48,.int .u8 27,.int .u8 60,.int .u8 41,.int .u8 37,.int .u8 16,.int .u8 46,.int .u8 35,.int .u8 44,.int .u8 21,.int .u8 52,.int .u8 32,.int .u8 23,.int .u8 11,.int .u8 54,.int .u8 26,.int .u8 40,.int .u8 15,.int .u8 34,.int .u8 20,.int .u8 31,.int .u8 10,.int .u8 25,.int .u8 14,.int .u8 19,.int .u8 9,.int .u8 13,.int .u8 8,.int .u8 7,.int .u8 6]
 {w0 with heap:=h5}
theorem laid_met(os:Os)(args:Array Vl):laidMet Tryz.prog Rows.loadBoundsRow.laid ((laidWorld os).forCall (λ_ _=>0) ⟨#[],args,[]⟩).memory :=
 laidMet_of_run' 8 (by kernel_rfl) (by kernel_rfl)
open Go.ChangeShapes Go.WideShapes Go.ChangeAt Go.RowKit Go.Deep
theorem wfM_u8{n:Int}(h:(Lit.int .u8 n).wf=true):0<=n/\n<=255:=by
 exact dZ
theorem wfM_u16{n:Int}(h:(Lit.int .u16 n).wf=true):0<=n/\n<=65535:=wfL_u16 h
theorem cellsM_u16:Tryz.prog.cellsOf 51=1:=by kernel_rfl
theorem trodM_u16{H:Type}{enc:TypeId×Vl->H}{W:Wo}{n:Nat}{v:Vl}{x:DataW H×List MemPlace}(h:DataW.trod enc Tryz.prog W 0 (λ_=>true) true n 22 [v]=some x) :
  ∃(a:OA)(l:LN)(c:Nat),v=.slice a l.length c/\l.length<=9223372036854775807/\zaF W a l/\∀x∈l,x<65536:=by
 rcases open_ints Tryz.underlying22 Tryz.underlying51 cellsM_u16 h with⟨hcs,_⟩|⟨a,len,cap,zs,hcs,_,hl,hm,hz,_,hcell,hwz⟩
 ·simp only[List.cons.injEq,and_true]at hcs;exact⟨none,[],0,hcs,sM,λi x h=>by simp at h,λx h=>by simp at h⟩
 ·simp only[List.cons.injEq,and_true]at hcs;subst hcs;rw[if_pos rfl]at hz;have hlen:((zs.take len).map Int.toNat).length=len:=by simp;omega
  refine⟨some a,(zs.take len).map Int.toNat,cap,by rw[hlen],by rw[hlen];unfold maxLen at hm;omega,?_,λx hx=>?_⟩
  ·intro i x hx;have hi:i<len:=by
    have:=(List.getElem?_eq_some_iff.1 hx).1;rw[hlen]at this;exact this
   have c0:=hcell 0 oM;have ci:=hcell i oM;have hsp:a.spot=none:=by
    have e:a.add 0=a:=by simp[Addr.add]
    rw[e]at c0;exact spot_noneL c0 ⟨_,_,rfl⟩
   obtain⟨bb,off,sp⟩:=a;simp only at hsp;subst hsp;refine⟨bb,off,rfl,?_⟩;have e:(⟨bb,off,none⟩:Addr).add i=⟨bb,off+i,none⟩:=by
    unfold Addr.add;split
    ·subst i;rfl
    ·rfl
   rw[e]at ci;rw[ci];rw[List.getElem?_map,List.getElem?_take_of_lt hi,gE oM,Option.map_some,Option.some.injEq]at hx;have hm':zs[i]'oM∈zs:=List.getElem_mem _;have hw:=wfM_u16 (hwz _ hm');rw[List.getD_eq_getElem?_getD,gE oM];simp only[Option.getD_some]
   congr 2
   omega
  ·obtain⟨y,hy,rfl⟩:=List.mem_map.1 hx;have:=wfM_u16 (hwz y (List.mem_of_mem_take hy));omega
theorem cellsM_u8:Tryz.prog.cellsOf 5=1:=by kernel_rfl
theorem trodM_u8{H:Type}{enc:TypeId×Vl->H}{W:Wo}{n:Nat}{v:Vl}{x:DataW H×List MemPlace}(h:DataW.trod enc Tryz.prog W 0 (λ_=>true) true n 23 [v]=some x) :
  ∃(a:OA)(l:LN)(c:Nat),v=.slice a l.length c/\l.length<=9223372036854775807/\ByU W a l/\∀x∈l,x<256:=by
 rcases open_ints Tryz.underlying23 Tryz.underlying5 cellsM_u8 h with⟨hcs,_⟩|⟨a,len,cap,zs,hcs,_,hl,hm,hz,_,hcell,hwz⟩
 ·simp only[List.cons.injEq,and_true]at hcs;exact⟨none,[],0,hcs,sM,λi x h=>by simp at h,λx h=>by simp at h⟩
 ·simp only[List.cons.injEq,and_true]at hcs;subst hcs;rw[if_pos rfl]at hz;have hlen:((zs.take len).map Int.toNat).length=len:=by simp;omega
  refine⟨some a,(zs.take len).map Int.toNat,cap,by rw[hlen],by rw[hlen];unfold maxLen at hm;omega,?_,λx hx=>?_⟩
  ·intro i x hx;have hi:i<len:=by
    have:=(List.getElem?_eq_some_iff.1 hx).1;rw[hlen]at this;exact this
   have c0:=hcell 0 oM;have ci:=hcell i oM;have hsp:a.spot=none:=by
    have e:a.add 0=a:=by simp[Addr.add]
    rw[e]at c0;exact spot_noneL c0 ⟨_,_,rfl⟩
   obtain⟨bb,off,sp⟩:=a;simp only at hsp;subst hsp;refine⟨bb,off,rfl,?_⟩;have e:(⟨bb,off,none⟩:Addr).add i=⟨bb,off+i,none⟩:=by
    unfold Addr.add;split
    ·subst i;rfl
    ·rfl
   rw[e]at ci;rw[ci];rw[List.getElem?_map,List.getElem?_take_of_lt hi,gE oM,Option.map_some,Option.some.injEq]at hx;have hm':zs[i]'oM∈zs:=List.getElem_mem _;have hw:=wfM_u8 (hwz _ hm');rw[List.getD_eq_getElem?_getD,gE oM];simp only[Option.getD_some]
   congr 2
   omega
  ·obtain⟨y,hy,rfl⟩:=List.mem_map.1 hx;have:=wfM_u8 (hwz y (List.mem_of_mem_take hy));omega
theorem openM_u8{H:Type}{enc:TypeId×Vl->H}{r:Reach}{b0:Nat}{W:Wo}{v:Vl}{d:DataW H}{p:List MemPlace}(hv:Value.okWide Tryz.prog W r b0 23 v)(h:DataW.Trod enc Tryz.prog W 0 (λ_=>true) true 23 v d p) :
  ∃(a:OA)(l:LN)(c:Nat),v=.slice a l.length c/\l.length<=9223372036854775807/\ByU W a l/\∀x∈l,x<256:=by
 obtain⟨a0,len0,Y0,rfl⟩:=okWide_slice Tryz.underlying23 hv;obtain⟨fuel,hf⟩:=h;exact trodM_u8 hf
theorem list_fiveM{α:Type}{l:List α}(h:l.length=5):∃a b c d e,l=[a,b,c,d,e]:=by
 match l,h with
 |[a,b,c,d,e],_=>exact⟨a,b,c,d,e,rfl⟩
theorem nat_of_int{z:Int}{k:Nat}(h:0<=z/\z<=k):∃n:Nat,z=(n:Int)/\n<k+1:=⟨z.toNat,oM,oM⟩
theorem open_case{H:Type}{enc:TypeId×Vl->H}{r:Reach}{b0:Nat}{W:Wo}{v:Vl}{d:DataW H}{p:List MemPlace}(hv:Value.okWide Tryz.prog W r b0 25 v)(h:DataW.Trod enc Tryz.prog W 0 (λ_=>true) true 25 v d p) :
  ∃(xN:Nat)(aR:OA)(lR:LN)(cR:Nat)(aW:OA)(lW:LN)(cW xF:Nat)(aC:OA)(lC:LN)(cC:Nat),v=.agg #[.int .u8 (xN:Nat),.slice aR lR.length cR,.slice aW lW.length cW,.int .u8 (xF:Nat),.slice aC lC.length cC] /\
   xN<256/\xF<256/\lR.length<=9223372036854775807/\lW.length<=9223372036854775807/\lC.length<=9223372036854775807/\zaF W aR lR/\zaF W aW lW/\ByU W aC lC/\(∀x∈lR,x<65536)/\(∀x∈lW,x<65536)/\∀x∈lC,x<256:=by
 obtain⟨cs,rfl,hsz⟩:=okWide_struct Tryz.underlying25 hv;have h5:Tryz.prog.cellsOf 25=5:=by kernel_rfl
 obtain⟨cs⟩:=cs;obtain⟨x0,x1,x2,x3,x4,rfl⟩:=list_fiveM (show cs.length=5 from hsz.trans h5);obtain⟨fuel,hf⟩:=h;obtain⟨xs,m,_,_,_,hl,hx⟩:=DataW.trod_struct Tryz.underlying25 hf;obtain⟨y0,y1,y2,y3,y4,rfl⟩:=list_fiveM hl;have t0:=hx 0 _ rfl;have t1:=hx 1 _ rfl;have t2:=hx 2 _ rfl;have t3:=hx 3 _ rfl;have t4:=hx 4 _ rfl;simp only[Value.cells,List.getElem?_cons_zero,List.getElem?_cons_succ]at t0 t1 t2 t3 t4;obtain⟨z0,e0,_,w0⟩:=DataW.trod_int Tryz.underlying5 t0;obtain⟨aR,lR,cR,rfl,nR,uR,zR⟩:=trodM_u16 t1;obtain⟨aW,lW,cW,rfl,nW,uW,zW⟩:=trodM_u16 t2;obtain⟨z3,e3,_,w3⟩:=DataW.trod_int Tryz.underlying5 t3;obtain⟨aC,lC,cC,rfl,nC,uC,zC⟩:=trodM_u8 t4
 cases e0
 cases e3
 obtain⟨k0,rfl,b0⟩:=nat_of_int (k:=255) (wfM_u8 w0);obtain⟨k3,rfl,b3⟩:=nat_of_int (k:=255) (wfM_u8 w3);exact⟨k0,aR,lR,cR,aW,lW,cW,k3,aC,lC,cC,rfl,b0,b3,nR,nW,nC,uR,uW,uC,zR,zW,zC⟩
open Go.ChangeShapes Go.WideShapes Go.ChangeAt Go.RowKit Go.Deep
def RawJ(w:Wo)(v:Vl):Prop :=
 ∃(neg:Bool)(ao:OA)(l:LN)(cap:Nat),v=.agg #[.bool neg,.slice ao l.length cap]/\l.length<=cap/\U w ao l
theorem list_twoN{α:Type}{l:List α}(h:l.length=2):∃a b,l=[a,b]:=by
 match l,h with
 |[a,b],_=>exact⟨a,b,rfl⟩
theorem list_threeN{α:Type}{l:List α}(h:l.length=3):∃a b c,l=[a,b,c]:=by
 match l,h with
 |[a,b,c],_=>exact⟨a,b,c,rfl⟩
theorem list_sixN{α:Type}{l:List α}(h:l.length=6):∃a b c d e f,l=[a,b,c,d,e,f]:=by
 match l,h with
 |[a,b,c,d,e,f],_=>exact⟨a,b,c,d,e,f,rfl⟩
theorem wfN_u32{n:Int}(h:(Lit.int .u32 n).wf=true):0<=n/\n<=4294967295:=by
 exact dZ
theorem raw_cellsN{H:Type}{enc:TypeId×Vl->H}{W:Wo}{t:TypeId}{f0 f1:Field}{c0 c1:Vl}{n:Nat}{x:DataW H×List MemPlace}(hs:Tryz.prog.underlying t=some (.struct #[f0,f1]))(o0:f0.offset=0)(o1:f1.offset=1)
  (k0:Tryz.prog.cellsOf f0.type=1)(k1:Tryz.prog.cellsOf f1.type=1)(h0:Tryz.prog.underlying f0.type=some .bool)(h1:Tryz.prog.underlying f1.type=some (.slice 128))
  (h:DataW.trod enc Tryz.prog W 0 (λ_=>true) true n t [c0,c1]=some x):RawJ W (.agg #[c0,c1]):=by
 obtain⟨xs,m,_,_,_,hl,hx⟩:=DataW.trod_struct hs h;obtain⟨y0,y1,rfl⟩:=list_twoN hl;have t0:=hx 0 f0 rfl;have t1:=hx 1 f1 rfl;rw[o0,k0]at t0;rw[o1,k1]at t1;simp only[List.drop_zero,List.take_succ_cons,List.take_zero,List.drop_succ_cons,List.getElem?_cons_zero,List.getElem?_cons_succ]at t0 t1;obtain⟨b,hc,_⟩:=DataW.trod_bool h0 t0;simp only[List.cons.injEq,and_true]at hc;subst hc;rcases open_ints h1 Tryz.underlying128 cellsU32 t1 with⟨hcs,_⟩|⟨a,len,cap,zs,hcs,_,hlc,hm,hz,_,hcell,hwz⟩
 ·simp only[List.cons.injEq,and_true]at hcs;subst hcs;exact⟨b,none,[],0,rfl,sM,U.nil _ _⟩
 ·simp only[List.cons.injEq,and_true]at hcs;subst hcs;rw[if_pos rfl]at hz;have hlen:((zs.take len).map Int.toNat).length=len:=by simp;omega
  refine⟨b,some a,(zs.take len).map Int.toNat,cap,by rw[hlen],?_,?_⟩
  ·rw[hlen];omega
  ·intro i hi;rw[hlen]at hi;have c0:=hcell 0 oM;have ci:=hcell i oM;have hsp:a.spot=none:=by
    have:a.add 0=a:=by simp[Addr.add]
    rw[this]at c0;unfold World.cell? at c0
    cases hsp:a.spot with
    |none=>rfl
    |some k=>rw[hsp]at c0;simp at c0;split at c0<;>simp at c0
   obtain⟨bb,off,sp⟩:=a;simp only at hsp;subst hsp;refine⟨bb,off,rfl,?_⟩;have e:(⟨bb,off,none⟩:Addr).add i=⟨bb,off+i,none⟩:=by
    unfold Addr.add;split
    ·subst i;rfl
    ·rfl
   rw[e]at ci;rw[ci];have hm':zs[i]'oM∈zs:=List.getElem_mem _;have hw:=wfN_u32 (hwz _ hm');simp only[List.getElem_map,List.getElem_take];rw[List.getD_eq_getElem?_getD,gE oM];simp only[Option.getD_some]
   congr 2
   omega
theorem open_share{H:Type}{enc:TypeId×Vl->H}{r:Reach}{b0:Nat}{W:Wo}{v:Vl}{d:DataW H}{p:List MemPlace}(hv:Value.okWide Tryz.prog W r b0 59 v)(h:DataW.Trod enc Tryz.prog W 0 (λ_=>true) true 59 v d p) :
  ∃(xr xs:Nat)(n1:Bool)(a1:OA)(l1 c1:Nat)(n2:Bool)(a2:OA)(l2 c2:Nat),v=.agg #[.int .u16 (xr:Nat),.int .u16 (xs:Nat),.bool n1,.slice a1 l1 c1,.bool n2,.slice a2 l2 c2]/\xr<65536/\xs<65536/\zmb W (.agg #[.bool n1,.slice a1 l1 c1,.bool n2,.slice a2 l2 c2]):=by
 obtain⟨cs,rfl,hsz⟩:=okWide_struct Tryz.underlying59 hv;have h6:Tryz.prog.cellsOf 59=6:=by kernel_rfl
 obtain⟨cs⟩:=cs;obtain⟨x0,x1,x2,x3,x4,x5,rfl⟩:=list_sixN (show cs.length=6 from hsz.trans h6);obtain⟨fuel,hf⟩:=h;obtain⟨xs,m,_,_,_,hl,hx⟩:=DataW.trod_struct Tryz.underlying59 hf;obtain⟨y0,y1,y2,rfl⟩:=list_threeN hl;have t0:=hx 0 _ rfl;have t1:=hx 1 _ rfl;have t2:=hx 2 _ rfl;simp only[Value.cells,List.getElem?_cons_zero,List.getElem?_cons_succ]at t0 t1 t2;obtain⟨z0,e0,_,w0⟩:=DataW.trod_int Tryz.underlying52 t0;obtain⟨z1,e1,_,w1⟩:=DataW.trod_int Tryz.underlying52 t1
 cases e0
 cases e1
 obtain⟨k0,rfl,b0⟩:=nat_of_int (k:=65535) (wfM_u16 w0);obtain⟨k1,rfl,b1⟩:=nat_of_int (k:=65535) (wfM_u16 w1);obtain⟨ys,m2,_,_,_,hl2,hx2⟩:=DataW.trod_struct Tryz.underlying32 t2;obtain⟨u0,u1,rfl⟩:=list_twoN hl2;have s0:=hx2 0 _ rfl;have s1:=hx2 1 _ rfl;simp only[List.getElem?_cons_zero,List.getElem?_cons_succ]at s0 s1;have D0:RawJ W (.agg #[x2,x3]):=raw_cellsN Tryz.underlying30 rfl rfl (by kernel_rfl) (by kernel_rfl) (by kernel_rfl) (by kernel_rfl) s0;have D1:RawJ W (.agg #[x4,x5]):=raw_cellsN Tryz.underlying30 rfl rfl (by kernel_rfl) (by kernel_rfl) (by kernel_rfl) (by kernel_rfl) s1;obtain⟨n1,a1,l1,c1,e1,g1,u1⟩:=D0;obtain⟨n2,a2,l2,c2,e2,g2,u2⟩:=D1;simp only[Value.agg.injEq,Array.mk.injEq,List.cons.injEq,and_true]at e1 e2;obtain⟨rfl,rfl⟩:=e1;obtain⟨rfl,rfl⟩:=e2;exact⟨k0,k1,n1,a1,_,c1,n2,a2,_,c2,rfl,b0,b1,n1,n2,l1,l2,a1,a2,c1,c2,rfl,g1,g2,u1,u2⟩
end Go.Proofs.YtfgffkmddanjjaaGreatDoor
