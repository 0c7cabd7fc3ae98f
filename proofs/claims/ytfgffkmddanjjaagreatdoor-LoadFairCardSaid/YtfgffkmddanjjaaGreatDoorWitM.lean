import Derived.Test.YtfgffkmddanjjaaGreatDoorLu
import Derived.ChangeSlices
import Derived.Shelf.Vars
import Derived.Test.YtfgffkmddanjjaaGreatDoorCards
import Derived.Test.YtfgffkmddanjjaaGreatDoorTie
import Derived.ProofKit
import Derived.OpenShut
import Derived.Below
import Derived.ChangeSame
import Derived.Lib.SmallJoins
import Derived.Lib.LaidU8
import Derived.Lib.LaidTab
import Derived.Deep.DeepHandedRow
import Derived.Deep.DeepWitnessRowRef
import Derived.Test.YtfgffkmddanjjaaGreatDoorMe
set_option linter.unusedVariables false
set_option linter.unusedSimpArgs false
set_option maxRecDepth 100000
set_option maxHeartbeats 25600000
namespace Go.Proofs.YtfgffkmddanjjaaGreatDoor
open Go.ChangeShapes Go.WideShapes Go.ChangeAt Go.RowKit Go.Deep
theorem own:ownKnob Tryz.prog.godebug=none:=by kernel_rfl
theorem laidOut:laidOutB Tryz.prog=true:=by kernel_rfl
section
variable {H : Type} {enc : TypeId × Vl → H} {P : Program}
theorem post_of_below{f:Func}{s:ChangeSpec}{apart fresh handsOn again:Bool}{W W':Wo}{args:Array Vl}{v:Vl}{ds gs:List (DataW H)}{before pa pv:List MemPlace}
  (hW:DataW.Whole enc P f.params.toList s.vars apart W args.toList ds gs before)
  (hres:∀(b:Nat)(sp:Nat->Bool)(hd:Bool),DataW.TrodAll enc P W' b sp hd f.resultTypes.toList (v.resultList f.resultTypes.size) (s.fn H (ds++gs)).results [])
  (hargs:∀sp:Nat->Bool,(∀p∈before,sp p.block=true)->DataW.TrodAll enc P W' 0 sp true f.params.toList args.toList (s.fn H (ds++gs)).args pa)
  (hvars:∀sp:Nat->Bool,(∀p∈before,sp p.block=true)->DataW.TrodVars enc P W' sp s.vars (s.fn H (ds++gs)).vars pv)
  (hps:before=pa++pv)(hb:BH W W')
  (hok:∀(j:Nat)(t:TypeId)(r:Vl),f.resultTypes[j]?=some t->(v.resultList f.resultTypes.size)[j]?=some r->Value.okWide P W' .any 0 t r) :
  s.post enc P f apart fresh handsOn again W args v W':=by
 have hlt:∀p∈before,p.block<W.heap.size:=λp hp=>hW.lt p hp
 have hold:∀p∈before,(λb=>decide (b<W.heap.size)) p.block=true:=λp hp=>by simpa using hlt p hp
 refine⟨ds,gs,before,[],pa,pv,hW,hres _ _ _,hargs _ hold,hvars _ hold,World.keptBut_mono (λp hp=>⟨hp,?_⟩) (hb.frame (·∈before)),λ_=>?_⟩
 ·rw[hps,List.mem_append]at hp;exact Or.inr hp
 ·obtain⟨_,_,_,_,_,hz,hn⟩:=hW;refine⟨hok,_,_,([]++pa)++pv,⟨[]++pa,pv,trodAll_append (hargs _ (λ_ _=>rfl)) (hres _ _ _),hvars _ (λ_ _=>rfl),rfl,?_,?_⟩,?_⟩
  ·intro b off hp;have hin:MemPlace.cell b off∈before:=by rw[hps];simpa using hp
   rw[hb.frozen (hlt _ hin)];exact hz b off hin
  ·intro ha;have:=hn ha;rw[hps]at this
   simpa using this
  ·intro p hp _;rw[hps]
   simpa using hp
theorem trodAll_stays(hl:laidOutB P=true){W W':Wo}(hb:BH W W'):∀{ts:List TypeId} {vs:List Vl} {ds:List (DataW H)} {ps:List MemPlace},(∀t∈ts,P.readableRec t=true/\t<P.types.size) ->
  DataW.TrodAll enc P W 0 (λ_=>true) true ts vs ds ps->(∀p∈ps,p.block<W.heap.size)->∀sp:Nat->Bool,(∀p∈ps,sp p.block=true)->DataW.TrodAll enc P W' 0 sp true ts vs ds ps
 |[],vs,ds,ps,_,h,_,_,_=>by
  obtain⟨rfl,rfl,rfl⟩:=trodAll_nil h;exact h
 |t :: ts,vs,ds,ps,hk,h,hlt,sp,hs=>by
  obtain⟨v,vs',d,ds',p,q,rfl,rfl,rfl,hd,hr⟩:=trodAll_cons h;have ht:=hk t (by simp);exact⟨p,q,WideElems.Trod_stays hl ht.1 ht.2 hd (λx hx=>hb.same (hlt x (by simp[hx]))) (λx hx=>hs x (by simp[hx])),
   trodAll_stays hl hb (λt' h'=>hk t' (by simp[h'])) hr (λx hx=>hlt x (by simp[hx])) sp (λx hx=>hs x (by simp[hx])),rfl⟩
end
theorem gPow : Tryz.prog.globalNamed "internal/strconv.uint64pow10" = some 0 := by kernel_rfl
theorem gPowType:(Tryz.prog.globals[0]?).map (·.type)=some 225:=by kernel_rfl
theorem cellsPow:Tryz.prog.cellsOf 225=20:=by kernel_rfl
theorem cells64:Tryz.prog.cellsOf 153=1:=by kernel_rfl
theorem env_of{W:Wo}(h:laidMetH Tryz.prog Rows.loadBoundsRow.laid W):Env W:=by
 have h' : laidMet Tryz.prog Rows.loadBoundsRow.laid W := h;obtain⟨g', t', cs, fuel, p, hg', ht', hvar, hd⟩ := Lib.laidMet.reads h' (n := "internal/strconv.uint64pow10") (d := Lib.tabData .u64 Lib.pow10Tab) (.tail _ (.tail _ (.head _)));obtain rfl := Option.some.inj (gPow.symm.trans hg');obtain rfl := Option.some.inj (gPowType.symm.trans ht');refine⟨?_⟩;unfold Lib.TabIs;rw[hvar, ← Lib.cells_of_tab Tryz.underlying225 Tryz.underlying153 cells64 cellsPow hd]
theorem spot_noneL{w:Wo}{a:Addr}{v:Vl}(h:w.cell? a=some v)(hi:∃k n,v=.int k n):a.spot=none:=by
 obtain⟨k,n,rfl⟩:=hi;unfold World.cell? at h
 cases hsp:a.spot with
 |none=>rfl
 |some k=>rw[hsp]at h;simp at h;split at h<;>simp at h
noncomputable def laidWorld(os:Os):Wo :=
 let w0:=World.holding Tryz.prog os ⟨#[],#[],[]⟩
 let put (h:Array Obj) (g:Nat) (cs:Array Vl):Array Obj:=h.modify g fun
  |.cells _ t frozen=>.cells cs t frozen
  |o=>o
 let h3:=put w0.heap 0 (Lib.pow10Tab.map λz=>Value.int .u64 z).toArray
 let h4:=put h3 2 #[.int .u8 0,.int .u8 1,.int .u8 28,.int .u8 2,.int .u8 29,.int .u8 14,.int .u8 24,.int .u8 3,.int .u8 30,.int .u8 22,.int .u8 20,.int .u8 15,.int .u8 25,.int .u8 17,.int .u8 4,.int .u8 8,.int .u8 31,.int .u8 27,.int .u8 13,.int .u8 23,.int .u8 21,.int .u8 19,.int .u8 16,.int .u8 7,.int .u8 26,.int .u8 12,.int .u8 18,.int .u8 6,.int .u8 11,.int .u8 5,.int .u8 10,.int .u8 9]
 let h5:=put h4 3 #[.int .u8 0,.int .u8 1,.int .u8 56,.int .u8 2,.int .u8 57,.int .u8 49,.int .u8 28,.int .u8 3,.int .u8 61,.int .u8 58,.int .u8 42,.int .u8 50,.int .u8 38,.int .u8 29,.int .u8 17,.int .u8 4,.int .u8 62,.int .u8 47,.int .u8 59,.int .u8 36,.int .u8 45,.int .u8 43,.int .u8 51,.int .u8 22,.int .u8 53,.int .u8 39,.int .u8 33,.int .u8 30,.int .u8 24,.int .u8 18,.int .u8 12,.int .u8 5,.int .u8 63,.int .u8 55,.int .u8 48,.int .u8 27,.int .u8 60,.int .u8 41,.int .u8 37,.int .u8 16,.int .u8 46,.int .u8 35,.int .u8 44,.int .u8 21,.int .u8 52,.int .u8 32,.int .u8 23,.int .u8 11,.int .u8 54,.int .u8 26,.int .u8 40,.int .u8 15,.int .u8 34,.int .u8 20,.int .u8 31,.int .u8 10,.int .u8 25,.int .u8 14,.int .u8 19,.int .u8 9,.int .u8 13,.int .u8 8,.int .u8 7,.int .u8 6]
 {w0 with heap:=h5}
theorem laid_met(os:Os)(args:Array Vl):laidMet Tryz.prog Rows.loadBoundsRow.laid ((laidWorld os).forCall (λ_ _=>0) ⟨#[],args,[]⟩).memory :=
 laidMet_of_run' 8 (by kernel_rfl) (by kernel_rfl)
open Go.ChangeShapes Go.WideShapes Go.ChangeAt Go.RowKit Go.Deep
theorem wfM_u8{n:Int}(h:(Lit.int .u8 n).wf=true):0<=n/\n<=255:=by
 simp[Lit.wf,IntKind.min,IntKind.max,IntKind.signed,IntKind.bits]at h;omega
theorem cellsM_u8:Tryz.prog.cellsOf 5=1:=by kernel_rfl
theorem trodM_u8{H:Type}{enc:TypeId×Vl->H}{W:Wo}{n:Nat}{v:Vl}{x:DataW H×List MemPlace}(h:DataW.trod enc Tryz.prog W 0 (λ_=>true) true n 23 [v]=some x) :
  ∃(a:OA)(l:LN)(c:Nat),v=.slice a l.length c/\l.length<=9223372036854775807/\ByU W a l/\∀x∈l,x<256:=by
 rcases open_ints Tryz.underlying23 Tryz.underlying5 cellsM_u8 h with⟨hcs,_⟩|⟨a,len,cap,zs,hcs,_,hl,hm,hz,_,hcell,hwz⟩
 ·simp only[List.cons.injEq,and_true]at hcs;exact⟨none,[],0,hcs,by simp,λi x h=>by simp at h,λx h=>by simp at h⟩
 ·simp only[List.cons.injEq,and_true]at hcs;subst hcs;rw[if_pos rfl]at hz;have hlen:((zs.take len).map Int.toNat).length=len:=by simp;omega
  refine⟨some a,(zs.take len).map Int.toNat,cap,by rw[hlen],by rw[hlen];unfold maxLen at hm;omega,?_,λx hx=>?_⟩
  ·intro i x hx;have hi:i<len:=by
    have:=(List.getElem?_eq_some_iff.1 hx).1;rw[hlen]at this;exact this
   have c0:=hcell 0 (by omega);have ci:=hcell i (by omega);have hsp:a.spot=none:=by
    have e:a.add 0=a:=by simp[Addr.add]
    rw[e]at c0;exact spot_noneL c0 ⟨_,_,rfl⟩
   obtain⟨bb,off,sp⟩:=a;simp only at hsp;subst hsp;refine⟨bb,off,rfl,?_⟩;have e:(⟨bb,off,none⟩:Addr).add i=⟨bb,off+i,none⟩:=by
    unfold Addr.add;split
    ·subst i;rfl
    ·rfl
   rw[e]at ci;rw[ci];rw[List.getElem?_map,List.getElem?_take_of_lt hi,gE (by omega),Option.map_some,Option.some.injEq]at hx;have hm':zs[i]'(by omega)∈zs:=List.getElem_mem _;have hw:=wfM_u8 (hwz _ hm');rw[List.getD_eq_getElem?_getD,gE (by omega)];simp only[Option.getD_some]
   congr 2
   omega
  ·obtain⟨y,hy,rfl⟩:=List.mem_map.1 hx;have:=wfM_u8 (hwz y (List.mem_of_mem_take hy));omega
theorem openM_u8{H:Type}{enc:TypeId×Vl->H}{r:Reach}{b0:Nat}{W:Wo}{v:Vl}{d:DataW H}{p:List MemPlace}(hv:Value.okWide Tryz.prog W r b0 23 v)(h:DataW.Trod enc Tryz.prog W 0 (λ_=>true) true 23 v d p) :
  ∃(a:OA)(l:LN)(c:Nat),v=.slice a l.length c/\l.length<=9223372036854775807/\ByU W a l/\∀x∈l,x<256:=by
 obtain⟨a0,len0,Y0,rfl⟩:=okWide_slice Tryz.underlying23 hv;obtain⟨fuel,hf⟩:=h;exact trodM_u8 hf
theorem nat_of_int{z:Int}{k:Nat}(h:0<=z/\z<=k):∃n:Nat,z=(n:Int)/\n<k+1:=⟨z.toNat,by omega,by omega⟩
end Go.Proofs.YtfgffkmddanjjaaGreatDoor
