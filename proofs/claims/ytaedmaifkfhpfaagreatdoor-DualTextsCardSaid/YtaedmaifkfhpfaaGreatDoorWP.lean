import Derived.Test.YtaedmaifkfhpfaaGreatDoorQ7
import Derived.Shelf.Vars
import Derived.Test.YtaedmaifkfhpfaaGreatDoorCards
import Derived.Test.YtaedmaifkfhpfaaGreatDoorTie
import Derived.ProofKit
import Derived.OpenShut
import Derived.Below
import Derived.ChangeSame
import Derived.Lib.SmallJoins
import Derived.Lib.LaidU8
import Derived.Lib.LaidTab
import Derived.Deep.DeepHandedRow
import Derived.Deep.DeepWitnessRowRef
set_option linter.unusedVariables false
set_option linter.unusedSimpArgs false
set_option maxRecDepth 100000
set_option maxHeartbeats 25600000
namespace Go.Proofs.YtaedmaifkfhpfaaGreatDoor
open Go.ChangeShapes Go.WideShapes Go.ChangeAt Go.RowKit Go.Deep
theorem own:ownKnob Tryz.prog.godebug=none:=by kernel_rfl
theorem laidOut:laidOutB Tryz.prog=true:=by kernel_rfl
section
variable {H : Type} {enc : TypeId × Value → H} {P : Program}
theorem post_of_below {f:Func} {s:ChangeSpec} {apart fresh handsOn again:Bool} {W W':World} {args:Array Value} {v:Value} {ds gs:List (DataW H)} {before pa pv:List MemPlace}
  (hW:DataW.Whole enc P f.params.toList s.vars apart W args.toList ds gs before)
  (hres:∀ (b:Nat) (sp:Nat→Bool) (hd:Bool),DataW.TrodAll enc P W' b sp hd f.resultTypes.toList (v.resultList f.resultTypes.size) (s.fn H (ds ++ gs)).results [])
  (hargs:∀ sp:Nat→Bool,(∀ p∈before,sp p.block=true)→DataW.TrodAll enc P W' 0 sp true f.params.toList args.toList (s.fn H (ds ++ gs)).args pa)
  (hvars:∀ sp:Nat→Bool,(∀ p∈before,sp p.block=true)→DataW.TrodVars enc P W' sp s.vars (s.fn H (ds ++ gs)).vars pv)
  (hps:before=pa ++ pv) (hb:Below W.heap.size W W')
  (hok:∀ (j:Nat) (t:TypeId) (r:Value),f.resultTypes[j]?=some t→(v.resultList f.resultTypes.size)[j]?=some r→Value.okWide P W' .any 0 t r) :
  s.post enc P f apart fresh handsOn again W args v W':=by
 have hlt:∀ p∈before,p.block < W.heap.size:=fun p hp => hW.lt p hp
 have hold:∀ p∈before,(fun b => decide (b < W.heap.size)) p.block=true:=fun p hp => by simpa using hlt p hp
 refine ⟨ds,gs,before,[],pa,pv,hW,hres _ _ _,hargs _ hold,hvars _ hold,World.keptBut_mono (fun p hp => ⟨hp,?_⟩) (hb.frame (·∈before)),fun _ => ?_⟩
 ·rw [hps,List.mem_append] at hp;exact Or.inr hp
 ·obtain ⟨_,_,_,_,_,hz,hn⟩:=hW;refine ⟨hok,_,_,([] ++ pa) ++ pv,⟨[] ++ pa,pv,trodAll_append (hargs _ (fun _ _ => rfl)) (hres _ _ _),hvars _ (fun _ _ => rfl),rfl,?_,?_⟩,?_⟩
  ·intro b off hp;have hin:MemPlace.cell b off∈before:=by rw [hps]; simpa using hp
   rw [hb.frozen (hlt _ hin)];exact hz b off hin
  ·intro ha;have:=hn ha;rw [hps] at this
   simpa using this
  ·intro p hp _;rw [hps]
   simpa using hp
theorem trodAll_stays (hl:laidOutB P=true) {W W':World} (hb:Below W.heap.size W W'):∀ {ts:List TypeId} {vs:List Value} {ds:List (DataW H)} {ps:List MemPlace},(∀ t∈ts,P.readableRec t=true∧t < P.types.size) →
  DataW.TrodAll enc P W 0 (fun _ => true) true ts vs ds ps→(∀ p∈ps,p.block < W.heap.size)→∀ sp:Nat→Bool,(∀ p∈ps,sp p.block=true)→DataW.TrodAll enc P W' 0 sp true ts vs ds ps
 | [],vs,ds,ps,_,h,_,_,_ => by
  obtain ⟨rfl,rfl,rfl⟩:=trodAll_nil h;exact h
 | t :: ts,vs,ds,ps,hk,h,hlt,sp,hs => by
  obtain ⟨v,vs',d,ds',p,q,rfl,rfl,rfl,hd,hr⟩:=trodAll_cons h;have ht:=hk t (by simp);exact ⟨p,q,WideElems.Trod_stays hl ht.1 ht.2 hd (fun x hx => hb.same (hlt x (by simp [hx]))) (fun x hx => hs x (by simp [hx])),
   trodAll_stays hl hb (fun t' h' => hk t' (by simp [h'])) hr (fun x hx => hlt x (by simp [hx])) sp (fun x hx => hs x (by simp [hx])),rfl⟩
end
theorem gPow : Tryz.prog.globalNamed "internal/strconv.uint64pow10" = some 5 := by kernel_rfl
theorem gPowType:(Tryz.prog.globals[5]?).map (·.type)=some 198:=by kernel_rfl
theorem cellsPow:Tryz.prog.cellsOf 198=20:=by kernel_rfl
theorem cells64:Tryz.prog.cellsOf 92=1:=by kernel_rfl
theorem cellsU32:Tryz.prog.cellsOf 94=1:=by kernel_rfl
theorem env_of {W:World} (h:laidMetH Tryz.prog Rows.dualParseRow.laid W):Env W:=by
 have h' : laidMet Tryz.prog Rows.dualParseRow.laid W := h;obtain ⟨g', t', cs, fuel, p, hg', ht', hvar, hd⟩ := Lib.laidMet.reads h' (n := "internal/strconv.uint64pow10") (d := Lib.tabData .u64 Lib.pow10Tab) (.tail _ (.tail _ (.head _)));obtain rfl := Option.some.inj (gPow.symm.trans hg');obtain rfl := Option.some.inj (gPowType.symm.trans ht');refine ⟨?_⟩;unfold Lib.TabIs;rw [hvar, ← Lib.cells_of_tab Tryz.underlying198 Tryz.underlying92 cells64 cellsPow hd]
theorem max_of {W:World} (h:W.ShapedOpen Tryz.prog):MaxV W :=
 Go.Proofs.cell_of_shapedOpen_int (zero:=#[.int .i64 0]) (t:=3) h (of_decide_eq_true (by kernel_rfl)) (by kernel_rfl) rfl (by kernel_rfl) (by kernel_rfl) Tryz.underlying3
theorem wf_u32 {n:Int} (h:(Lit.int .u32 n).wf=true):0≤n∧n < 4294967296:=by
 simp [Lit.wf,IntKind.min,IntKind.max,IntKind.signed,IntKind.bits] at h;omega
theorem open_bu {H:Type} {enc:TypeId × Value→H} {r:Reach} {b0:Nat} {W:World} {t:TypeId} {f0 f1:Field} {v:Value} {d:DataW H} {p:List MemPlace} (hs:Tryz.prog.underlying t=some (.struct #[f0,f1])) (hone:oneCellFields Tryz.prog #[f0,f1]=true) (hC:Tryz.prog.cellsOf t=2)
  (h0:Tryz.prog.underlying f0.type=some .bool) (h1:Tryz.prog.underlying f1.type=some (.slice 94))
  (hv:Value.okWide Tryz.prog W r b0 t v) (h:DataW.Trod enc Tryz.prog W 0 (fun _ => true) true t v d p):DraftV W v:=by
 obtain ⟨v0,v1,y0,y1,n,rfl,rfl,rfl,t0,t1⟩:=Joins.open_agg2 hs hone hC hv h;obtain ⟨b,hc,_⟩:=DataW.trod_bool h0 t0;simp only [List.cons.injEq,and_true] at hc;subst hc;rcases open_ints h1 Tryz.underlying94 cellsU32 t1 with ⟨hcs,_⟩ | ⟨a,len,cap,zs,hcs,_,hl,hm,hz,_,hcell,hwz⟩
 ·simp only [List.cons.injEq,and_true] at hcs;subst hcs;exact ⟨b,none,[],0,rfl,by simp,U.nil _ _,hii (by simp)⟩
 ·simp only [List.cons.injEq,and_true] at hcs;subst hcs;rw [if_pos rfl] at hz;have hlen:((zs.take len).map Int.toNat).length=len:=by simp; omega
  refine ⟨b,some a,(zs.take len).map Int.toNat,cap,by rw [hlen],?_,?_,hii ?_⟩
  ·rw [hlen]; unfold maxLen at hm; omega
  ·intro i hi;rw [hlen] at hi;have c0:=hcell 0 (by omega);have ci:=hcell i (by omega);have hsp:a.spot=none:=by
    have:a.add 0=a:=by simp [Addr.add]
    rw [this] at c0;unfold World.cell? at c0
    cases hsp:a.spot with
    | none => rfl
    | some k => rw [hsp] at c0; simp at c0; split at c0 <;> simp at c0
   obtain ⟨bb,off,sp⟩:=a;simp only at hsp;subst hsp;refine ⟨bb,off,rfl,?_⟩;have e:(⟨bb,off,none⟩:Addr).add i=⟨bb,off + i,none⟩:=by
    unfold Addr.add; split
    ·subst i; rfl
    ·rfl
   rw [e] at ci;rw [ci];have hm':zs[i]'(by omega)∈zs:=List.getElem_mem _;have hw:=wf_u32 (hwz _ hm');simp only [List.getElem_map,List.getElem_take];rw [List.getD_eq_getElem?_getD,gE (by omega)];simp only [Option.getD_some]
   congr 2
   omega
  ·intro x hx;obtain ⟨y,hy,rfl⟩:=List.mem_map.1 hx;have:=wf_u32 (hwz y (List.mem_of_mem_take hy));omega
noncomputable def laidWorld (os:Os):World :=
 let N:=(World.settled Tryz.prog os).heap.size
 let w0:=World.holding Tryz.prog os ⟨#[.cells #[.string ⟨#[105,110,118,97,108,105,100,32,115,121,110,116,97,120]⟩] 196,.cells #[.string ⟨#[118,97,108,117,101,32,111,117,116,32,111,102,32,114,97,110,103,101]⟩] 196],#[],[]⟩
 let put (h:Array Obj) (g:Nat) (cs:Array Value):Array Obj:=h.modify g fun
  | .cells _ t frozen => .cells cs t frozen
  | o => o
 let h0:=put (put w0.heap 3 #[.iface 194 (.pointer (some ⟨N,0,none⟩))]) 4 #[.iface 194 (.pointer (some ⟨N + 1,0,none⟩))]
 let h1:=put h0 1 (Lib.firstTab.map fun z => Value.int .u8 z).toArray
 let h2:=put h1 2 ((List.range 16).flatMap fun i => [Value.int .u8 (Lib.accLo i),Value.int .u8 (Lib.accHi i)]).toArray
 let h3:=put h2 5 (Lib.pow10Tab.map fun z => Value.int .u64 z).toArray
 let h4:=put h3 6 #[.int .u8 0,.int .u8 1,.int .u8 28,.int .u8 2,.int .u8 29,.int .u8 14,.int .u8 24,.int .u8 3,.int .u8 30,.int .u8 22,.int .u8 20,.int .u8 15,.int .u8 25,.int .u8 17,.int .u8 4,.int .u8 8,.int .u8 31,.int .u8 27,.int .u8 13,.int .u8 23,.int .u8 21,.int .u8 19,.int .u8 16,.int .u8 7,.int .u8 26,.int .u8 12,.int .u8 18,.int .u8 6,.int .u8 11,.int .u8 5,.int .u8 10,.int .u8 9]
 let h5:=put h4 7 #[.int .u8 0,.int .u8 1,.int .u8 56,.int .u8 2,.int .u8 57,.int .u8 49,.int .u8 28,.int .u8 3,.int .u8 61,.int .u8 58,.int .u8 42,.int .u8 50,.int .u8 38,.int .u8 29,.int .u8 17,.int .u8 4,.int .u8 62,.int .u8 47,.int .u8 59,.int .u8 36,.int .u8 45,.int .u8 43,.int .u8 51,.int .u8 22,.int .u8 53,.int .u8 39,.int .u8 33,.int .u8 30,.int .u8 24,.int .u8 18,.int .u8 12,.int .u8 5,.int .u8 63,.int .u8 55,.int .u8 48,.int .u8 27,.int .u8 60,.int .u8 41,.int .u8 37,.int .u8 16,.int .u8 46,.int .u8 35,.int .u8 44,.int .u8 21,.int .u8 52,.int .u8 32,.int .u8 23,.int .u8 11,.int .u8 54,.int .u8 26,.int .u8 40,.int .u8 15,.int .u8 34,.int .u8 20,.int .u8 31,.int .u8 10,.int .u8 25,.int .u8 14,.int .u8 19,.int .u8 9,.int .u8 13,.int .u8 8,.int .u8 7,.int .u8 6]
 { w0 with heap:=h5 }
theorem laid_met (os:Os) (args:Array Value):laidMet Tryz.prog Rows.dualParseRow.laid ((laidWorld os).forCall (fun _ _ => 0) ⟨#[],args,[]⟩).memory :=
 laidMet_of_run' 8 (by kernel_rfl) (by kernel_rfl)
end Go.Proofs.YtaedmaifkfhpfaaGreatDoor
