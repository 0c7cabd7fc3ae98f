import Derived.Test.YtileholjbdhmjaaGreatDoorDuAC
import Derived.Shelf.Vars
import Derived.Test.YtileholjbdhmjaaGreatDoorCards
import Derived.Test.YtileholjbdhmjaaGreatDoorTie
import Derived.ProofKit
import Derived.OpenShut
import Derived.Below
import Derived.ChangeSame
import Derived.Lib.SmallJoins
import Derived.Lib.LaidU8
import Derived.Lib.LaidTab
import Derived.Deep.DeepHandedRow
import Derived.Deep.DeepWitnessRowRef
import Derived.Deep.Slices
set_option linter.unusedVariables false
set_option linter.unusedSimpArgs false
set_option maxRecDepth 100000
set_option maxHeartbeats 25600000
namespace Go.Proofs.YtileholjbdhmjaaGreatDoor
open Go.ChangeShapes Go.WideShapes Go.ChangeAt Go.RowKit Go.Deep
theorem own:ownKnob Tryz.prog.godebug=none:=by kernel_rfl
theorem laidOut:laidOutB Tryz.prog=true:=by kernel_rfl
section
variable {H : Type} {enc : TypeId × Value → H} {P : Program}
theorem post_of_below {f:Func} {s:ChangeSpec} {apart fresh handsOn again:Bool} {W W':World} {args:Array Value} {v:Value} {ds gs:List (DataW H)} {before pa pv:List MemPlace}
  (hW:DataW.Whole enc P f.params.toList s.vars apart W args.toList ds gs before)
  (hres:∀ (b:Nat) (sp:Nat→Bool) (hd:Bool),DataW.TrodAll enc P W' b sp hd f.resultTypes.toList (v.resultList f.resultTypes.size) (s.fn H (ds ++ gs)).results [])
  (hargs:∀ sp:Nat→Bool,(∀ p∈before,sp p.block=true)→DataW.TrodAll enc P W' 0 sp true f.params.toList args.toList (s.fn H (ds ++ gs)).args pa)
  (hvars:∀ sp:Nat→Bool,(∀ p∈before,sp p.block=true)→DataW.TrodVars enc P W' sp s.vars (s.fn H (ds ++ gs)).vars pv)
  (hps:before=pa ++ pv) (hb:Below W.heap.size W W')
  (hok:∀ (j:Nat) (t:TypeId) (r:Value),f.resultTypes[j]?=some t→(v.resultList f.resultTypes.size)[j]?=some r→Value.okWide P W' .any 0 t r) :
  s.post enc P f apart fresh handsOn again W args v W':=by
 have hlt:∀ p∈before,p.block < W.heap.size:=fun p hp => hW.lt p hp
 have hold:∀ p∈before,(fun b => decide (b < W.heap.size)) p.block=true:=fun p hp => by simpa using hlt p hp
 refine ⟨ds,gs,before,[],pa,pv,hW,hres _ _ _,hargs _ hold,hvars _ hold,World.keptBut_mono (fun p hp => ⟨hp,?_⟩) (hb.frame (·∈before)),fun _ => ?_⟩
 ·rw [hps,List.mem_append] at hp;exact Or.inr hp
 ·obtain ⟨_,_,_,_,_,hz,hn⟩:=hW;refine ⟨hok,_,_,([] ++ pa) ++ pv,⟨[] ++ pa,pv,trodAll_append (hargs _ (fun _ _ => rfl)) (hres _ _ _),hvars _ (fun _ _ => rfl),rfl,?_,?_⟩,?_⟩
  ·intro b off hp;have hin:MemPlace.cell b off∈before:=by rw [hps]; simpa using hp
   rw [hb.frozen (hlt _ hin)];exact hz b off hin
  ·intro ha;have:=hn ha;rw [hps] at this
   simpa using this
  ·intro p hp _;rw [hps]
   simpa using hp
theorem trodAll_stays (hl:laidOutB P=true) {W W':World} (hb:Below W.heap.size W W'):∀ {ts:List TypeId} {vs:List Value} {ds:List (DataW H)} {ps:List MemPlace},(∀ t∈ts,P.readableRec t=true∧t < P.types.size) →
  DataW.TrodAll enc P W 0 (fun _ => true) true ts vs ds ps→(∀ p∈ps,p.block < W.heap.size)→∀ sp:Nat→Bool,(∀ p∈ps,sp p.block=true)→DataW.TrodAll enc P W' 0 sp true ts vs ds ps
 | [],vs,ds,ps,_,h,_,_,_ => by
  obtain ⟨rfl,rfl,rfl⟩:=trodAll_nil h;exact h
 | t :: ts,vs,ds,ps,hk,h,hlt,sp,hs => by
  obtain ⟨v,vs',d,ds',p,q,rfl,rfl,rfl,hd,hr⟩:=trodAll_cons h;have ht:=hk t (by simp);exact ⟨p,q,WideElems.Trod_stays hl ht.1 ht.2 hd (fun x hx => hb.same (hlt x (by simp [hx]))) (fun x hx => hs x (by simp [hx])),
   trodAll_stays hl hb (fun t' h' => hk t' (by simp [h'])) hr (fun x hx => hlt x (by simp [hx])) sp (fun x hx => hs x (by simp [hx])),rfl⟩
end
theorem gPow : Tryz.prog.globalNamed "internal/strconv.uint64pow10" = some 0 := by kernel_rfl
theorem gPowType:(Tryz.prog.globals[0]?).map (·.type)=some 183:=by kernel_rfl
theorem cellsPow:Tryz.prog.cellsOf 183=20:=by kernel_rfl
theorem cells64:Tryz.prog.cellsOf 119=1:=by kernel_rfl
theorem cellsU32:Tryz.prog.cellsOf 118=1:=by kernel_rfl
theorem env_of {W:World} (h:laidMetH Tryz.prog Rows.simplexErrorsRow.laid W):Env W:=by
 have h' : laidMet Tryz.prog Rows.simplexErrorsRow.laid W := h;obtain ⟨g', t', cs, fuel, p, hg', ht', hvar, hd⟩ := Lib.laidMet.reads h' (n := "internal/strconv.uint64pow10") (d := Lib.tabData .u64 Lib.pow10Tab) (.tail _ (.tail _ (.head _)));obtain rfl := Option.some.inj (gPow.symm.trans hg');obtain rfl := Option.some.inj (gPowType.symm.trans ht');refine ⟨?_⟩;unfold Lib.TabIs;rw [hvar, ← Lib.cells_of_tab Tryz.underlying183 Tryz.underlying119 cells64 cellsPow hd]
theorem wf_u32 {n:Int} (h:(Lit.int .u32 n).wf=true):0≤n∧n < 4294967296:=by
 simp [Lit.wf,IntKind.min,IntKind.max,IntKind.signed,IntKind.bits] at h;omega
noncomputable def laidWorld (os:Os):World :=
 let w0:=World.holding Tryz.prog os ⟨#[],#[],[]⟩
 let put (h:Array Obj) (g:Nat) (cs:Array Value):Array Obj:=h.modify g fun
  | .cells _ t frozen => .cells cs t frozen
  | o => o
 let h3:=put w0.heap 0 (Lib.pow10Tab.map fun z => Value.int .u64 z).toArray
 let h4:=put h3 2 #[.int .u8 0,.int .u8 1,.int .u8 28,.int .u8 2,.int .u8 29,.int .u8 14,.int .u8 24,.int .u8 3,.int .u8 30,.int .u8 22,.int .u8 20,.int .u8 15,.int .u8 25,.int .u8 17,.int .u8 4,.int .u8 8,.int .u8 31,.int .u8 27,.int .u8 13,.int .u8 23,.int .u8 21,.int .u8 19,.int .u8 16,.int .u8 7,.int .u8 26,.int .u8 12,.int .u8 18,.int .u8 6,.int .u8 11,.int .u8 5,.int .u8 10,.int .u8 9]
 let h5:=put h4 3 #[.int .u8 0,.int .u8 1,.int .u8 56,.int .u8 2,.int .u8 57,.int .u8 49,.int .u8 28,.int .u8 3,.int .u8 61,.int .u8 58,.int .u8 42,.int .u8 50,.int .u8 38,.int .u8 29,.int .u8 17,.int .u8 4,.int .u8 62,.int .u8 47,.int .u8 59,.int .u8 36,.int .u8 45,.int .u8 43,.int .u8 51,.int .u8 22,.int .u8 53,.int .u8 39,.int .u8 33,.int .u8 30,.int .u8 24,.int .u8 18,.int .u8 12,.int .u8 5,.int .u8 63,.int .u8 55,.int .u8 48,.int .u8 27,.int .u8 60,.int .u8 41,.int .u8 37,.int .u8 16,.int .u8 46,.int .u8 35,.int .u8 44,.int .u8 21,.int .u8 52,.int .u8 32,.int .u8 23,.int .u8 11,.int .u8 54,.int .u8 26,.int .u8 40,.int .u8 15,.int .u8 34,.int .u8 20,.int .u8 31,.int .u8 10,.int .u8 25,.int .u8 14,.int .u8 19,.int .u8 9,.int .u8 13,.int .u8 8,.int .u8 7,.int .u8 6]
 { w0 with heap:=h5 }
theorem laid_met (os:Os) (args:Array Value):laidMet Tryz.prog Rows.simplexErrorsRow.laid ((laidWorld os).forCall (fun _ _ => 0) ⟨#[],args,[]⟩).memory :=
 laidMet_of_run' 8 (by kernel_rfl) (by kernel_rfl)
open Go.ChangeShapes Go.WideShapes Go.ChangeAt Go.RowKit Go.Deep
theorem array_three {cs:Array Value} (h:cs.size=3):∃ x0 x1 x2,cs=#[x0,x1,x2]:=by
 rcases cs with ⟨cs⟩
 simp only [List.size_toArray] at h
 match cs,h with
 | [x0,x1,x2],_ => exact ⟨x0,x1,x2,rfl⟩
theorem list_two {α:Type} {l:List α} (h:l.length=2):∃ x y,l=[x,y]:=by
 match l,h with
 | [x,y],_ => exact ⟨x,y,rfl⟩
theorem list_three {α:Type} {l:List α} (h:l.length=3):∃ x y z,l=[x,y,z]:=by
 match l,h with
 | [x,y,z],_ => exact ⟨x,y,z,rfl⟩
def RawI (w:World) (v:Value):Prop :=
 ∃ (neg:Bool) (ao:Option Addr) (l:List Nat) (cap:Nat),v=.agg #[.bool neg,.slice ao l.length cap]∧l.length≤cap∧U w ao l
theorem raw_cellsV {H:Type} {enc:TypeId × Value→H} {W:World} {t:TypeId} {f0 f1:Field} {c0 c1:Value} {n:Nat} {x:DataW H × List MemPlace} (hs:Tryz.prog.underlying t=some (.struct #[f0,f1])) (o0:f0.offset=0) (o1:f1.offset=1)
  (k0:Tryz.prog.cellsOf f0.type=1) (k1:Tryz.prog.cellsOf f1.type=1) (h0:Tryz.prog.underlying f0.type=some .bool) (h1:Tryz.prog.underlying f1.type=some (.slice 118))
  (h:DataW.trod enc Tryz.prog W 0 (fun _ => true) true n t [c0,c1]=some x):RawI W (.agg #[c0,c1]):=by
 obtain ⟨xs,m,_,_,_,hl,hx⟩:=DataW.trod_struct hs h;obtain ⟨y0,y1,rfl⟩:=list_two hl;have t0:=hx 0 f0 rfl;have t1:=hx 1 f1 rfl;rw [o0,k0] at t0;rw [o1,k1] at t1;simp only [List.drop_zero,List.take_succ_cons,List.take_zero,List.drop_succ_cons,List.getElem?_cons_zero,List.getElem?_cons_succ] at t0 t1;obtain ⟨b,hc,_⟩:=DataW.trod_bool h0 t0;simp only [List.cons.injEq,and_true] at hc;subst hc;rcases open_ints h1 Tryz.underlying118 cellsU32 t1 with ⟨hcs,_⟩ | ⟨a,len,cap,zs,hcs,_,hlc,hm,hz,_,hcell,hwz⟩
 ·simp only [List.cons.injEq,and_true] at hcs;subst hcs;exact ⟨b,none,[],0,rfl,by simp,U.nil _ _⟩
 ·simp only [List.cons.injEq,and_true] at hcs;subst hcs;rw [if_pos rfl] at hz;have hlen:((zs.take len).map Int.toNat).length=len:=by simp; omega
  refine ⟨b,some a,(zs.take len).map Int.toNat,cap,by rw [hlen],?_,?_⟩
  ·rw [hlen]; omega
  ·intro i hi;rw [hlen] at hi;have c0:=hcell 0 (by omega);have ci:=hcell i (by omega);have hsp:a.spot=none:=by
    have:a.add 0=a:=by simp [Addr.add]
    rw [this] at c0;unfold World.cell? at c0
    cases hsp:a.spot with
    | none => rfl
    | some k => rw [hsp] at c0; simp at c0; split at c0 <;> simp at c0
   obtain ⟨bb,off,sp⟩:=a;simp only at hsp;subst hsp;refine ⟨bb,off,rfl,?_⟩;have e:(⟨bb,off,none⟩:Addr).add i=⟨bb,off + i,none⟩:=by
    unfold Addr.add; split
    ·subst i; rfl
    ·rfl
   rw [e] at ci;rw [ci];have hm':zs[i]'(by omega)∈zs:=List.getElem_mem _;have hw:=wf_u32 (hwz _ hm');simp only [List.getElem_map,List.getElem_take];rw [List.getD_eq_getElem?_getD,gE (by omega)];simp only [Option.getD_some]
   congr 2
   omega
theorem spot_noneX {w:World} {a:Addr} {v:Value} (h:w.cell? a=some v):a.spot=none:=by
 unfold World.cell? at h
 cases hsp:a.spot with
 | none => rfl
 | some k => rw [hsp] at h; simp at h; split at h <;> simp at h
theorem add_plainX (b off i:Nat):(⟨b,off,none⟩:Addr).add i=⟨b,off + i,none⟩:=by
 unfold Addr.add; split
 ·subst i; rfl
 ·rfl
theorem rawU_trod {H:Type} {enc:TypeId × Value→H} {W:World} {n:Nat} {v:Value} {x:DataW H × List MemPlace} (h:DataW.trod enc Tryz.prog W 0 (fun _ => true) true n 28 [v]=some x) :
  ∃ (a:Option Addr) (l c:Nat),v=.slice a l c∧l≤9223372036854775807∧RawU W a l:=by
 have hC:Tryz.prog.cellsOf 38=4:=by kernel_rfl
 rcases open_slice Tryz.underlying28 h with ⟨hcs,_⟩ | ⟨a,len,cap,m,n,D,Pl,hcs,_,hl,hm,hmm,_,hi⟩
 ·simp only [List.cons.injEq,and_true] at hcs;exact ⟨none,0,0,hcs,by omega,fun i h => absurd h (by omega)⟩
 ·simp only [List.cons.injEq,and_true] at hcs;subst hcs;rw [if_pos rfl] at hmm;subst hmm;refine ⟨some a,_,_,rfl,by unfold maxLen at hm; omega,fun i hlt => ?_⟩;obtain ⟨cs',hc,ht⟩:=hi i (by omega);rw [hC] at hc;obtain ⟨_,hcl,hat⟩:=World.cells?_some hc;obtain ⟨x0,x1,x2,x3,rfl⟩:∃ x0 x1 x2 x3,cs'=[x0,x1,x2,x3]:=by
   match cs',hcl with
   | [x0,x1,x2,x3],_ => exact ⟨x0,x1,x2,x3,rfl⟩
  have g0:=hat 0 (by omega);have g1:=hat 1 (by omega);have g2:=hat 2 (by omega);have g3:=hat 3 (by omega);have hsp:a.spot=none:=by
   obtain ⟨cs0,hc0,_⟩:=hi 0 (by omega);rw [hC] at hc0;obtain ⟨_,hcl0,hat0⟩:=World.cells?_some hc0;have g:=hat0 0 (by omega);have e1:∀ x:Addr,x.add 0=x:=fun x => by simp [Addr.add]
   rw [Nat.zero_mul,e1,e1,gE (by omega)] at g;exact spot_noneX g
  obtain ⟨b,off,sp⟩:=a;simp only at hsp;subst hsp;rw [add_plainX,add_plainX] at g0 g1 g2 g3;simp only [List.getElem?_cons_zero,List.getElem?_cons_succ,Nat.add_zero] at g0 g1 g2 g3;obtain ⟨xs,m',_,_,_,hl2,hx⟩:=DataW.trod_struct Tryz.underlying38 ht;obtain ⟨y0,y1,rfl⟩:=list_two hl2;have t0:=hx 0 _ rfl;have t1:=hx 1 _ rfl;simp only [List.getElem?_cons_zero,List.getElem?_cons_succ] at t0 t1;have D0:=raw_cellsV Tryz.underlying36 rfl rfl (by kernel_rfl) (by kernel_rfl) (by kernel_rfl) (by kernel_rfl) t0;have D1:=raw_cellsV Tryz.underlying36 rfl rfl (by kernel_rfl) (by kernel_rfl) (by kernel_rfl) (by kernel_rfl) t1;obtain ⟨n1,a1,l1,c1,e1,k1,u1⟩:=D0;obtain ⟨n2,a2,l2,c2,e2,k2,u2⟩:=D1;simp only [Value.agg.injEq,Array.mk.injEq,List.cons.injEq,and_true] at e1 e2;obtain ⟨rfl,rfl⟩:=e1;obtain ⟨rfl,rfl⟩:=e2;exact ⟨b,off,rfl,n1,a1,l1,c1,n2,a2,l2,c2,⟨g0,g1,g2,g3,trivial,trivial,trivial,trivial⟩,k1,k2,u1,u2⟩
theorem rawM_trod {H:Type} {enc:TypeId × Value→H} {W:World} {n:Nat} {v:Value} {x:DataW H × List MemPlace} (h:DataW.trod enc Tryz.prog W 0 (fun _ => true) true n 27 [v]=some x) :
  ∃ (a:Option Addr) (l c:Nat),v=.slice a l c∧l≤9223372036854775807∧RawM W a l:=by
 rcases open_slice1 Tryz.underlying27 (by kernel_rfl) h with ⟨hcs,_⟩ | ⟨a,len,cap,m,n,V,D,Pl,hcs,_,hl,hm,hmm,_,hi⟩
 ·simp only [List.cons.injEq,and_true] at hcs;exact ⟨none,0,0,hcs,by omega,fun i h => absurd h (by omega)⟩
 ·simp only [List.cons.injEq,and_true] at hcs;subst hcs;rw [if_pos rfl] at hmm;subst hmm;refine ⟨some a,_,_,rfl,by unfold maxLen at hm; omega,fun i hlt => ?_⟩;obtain ⟨h1,h2⟩:=hi i (by omega);obtain ⟨ar,lr,cr,e,hlr,hu⟩:=rawU_trod h2;rw [e] at h1;have hsp:a.spot=none:=by
   have g:=(hi 0 (by omega)).1;have e1:a.add 0=a:=by simp [Addr.add]
   rw [e1] at g;exact spot_noneX g
  obtain ⟨b,off,sp⟩:=a;simp only at hsp;subst hsp;rw [add_plainX] at h1;exact ⟨b,off,ar,lr,cr,rfl,h1,hlr,hu⟩
def RawP (W:World) (v:Value):Prop:=∃ (aA:Option Addr) (m cA:Nat) (aB:Option Addr) (mB cB:Nat) (aC:Option Addr) (nC cC:Nat),v=.agg #[.slice aA m cA,.slice aB mB cB,.slice aC nC cC]∧m≤9223372036854775807∧mB≤9223372036854775807∧nC≤9223372036854775807∧RawM W aA m∧RawU W aB mB∧RawU W aC nC
theorem open_rawP {H:Type} {enc:TypeId × Value→H} {r:Reach} {b0:Nat} {W:World} {v:Value} {d:DataW H} {p:List MemPlace} (hv:Value.okWide Tryz.prog W r b0 30 v) (h:DataW.Trod enc Tryz.prog W 0 (fun _ => true) true 30 v d p):RawP W v:=by
 obtain ⟨cs,rfl,hsz⟩:=okWide_struct Tryz.underlying30 hv;have h3:Tryz.prog.cellsOf 30=3:=by kernel_rfl
 obtain ⟨x0,x1,x2,rfl⟩:=array_three (hsz.trans h3);obtain ⟨fuel,hf⟩:=h;obtain ⟨xs,m,_,_,_,hl,hx⟩:=DataW.trod_struct Tryz.underlying30 hf;obtain ⟨y0,y1,y2,rfl⟩:=list_three hl;have t0:=hx 0 _ rfl;have t1:=hx 1 _ rfl;have t2:=hx 2 _ rfl;simp only [Value.cells,List.getElem?_cons_zero,List.getElem?_cons_succ] at t0 t1 t2;obtain ⟨aA,lA,cA,rfl,nA,uA⟩:=rawM_trod t0;obtain ⟨aB,lB,cB,rfl,nB,uB⟩:=rawU_trod t1;obtain ⟨aC,lC,cC,rfl,nC,uC⟩:=rawU_trod t2;exact ⟨aA,lA,cA,aB,lB,cB,aC,lC,cC,rfl,nA,nB,nC,uA,uB,uC⟩
end Go.Proofs.YtileholjbdhmjaaGreatDoor
