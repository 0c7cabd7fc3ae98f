/-
  Programs and lists as they come in; Few and Short.
-/
import Derived.Test.YtagdgdacecibiaaGreatDoorDuV
import Derived.Shelf.Vars
import Derived.Test.YtagdgdacecibiaaGreatDoorCards
import Derived.Test.YtagdgdacecibiaaGreatDoorTie
import Derived.ProofKit
import Derived.OpenShut
import Derived.Below
import Derived.ChangeSame
import Derived.Lib.SmallJoins
import Derived.Lib.LaidU8
import Derived.Lib.LaidTab
import Derived.Deep.DeepHandedRow
import Derived.Deep.DeepWitnessRowRef
import Derived.Deep.Slices
import Derived.Test.YtagdgdacecibiaaGreatDoorE14
import Derived.ChangeSlices
set_option linter.unusedVariables false
set_option linter.unusedSimpArgs false
set_option maxRecDepth 100000
set_option maxHeartbeats 25600000
namespace Go.Proofs.YtagdgdacecibiaaGreatDoor
open Go.RowKit
def RawFour (w:World) (b off:Nat):Prop:=∃ (n1:Bool) (a1:Option Addr) (L1:List Nat) (c1:Nat) (n2:Bool) (a2:Option Addr) (L2:List Nat) (c2:Nat),
 Four w b off (.bool n1) (.slice a1 L1.length c1) (.bool n2) (.slice a2 L2.length c2)∧L1.length≤c1∧L2.length≤c2∧U w a1 L1∧U w a2 L2
theorem RawFour.mono {w w':World} {b off:Nat} (h:RawFour w b off) (hb:Below w.heap.size w w'):RawFour w' b off:=by
 obtain ⟨n1,a1,L1,c1,n2,a2,L2,c2,F,k1,k2,u1,u2⟩:=h;exact ⟨n1,a1,L1,c1,n2,a2,L2,c2,F.mono hb,k1,k2,u1.mono hb,u2.mono hb⟩
def RawU (w:World) (ao:Option Addr) (n:Nat):Prop:=∀ i,i < n→∃ b off,ao=some ⟨b,off,none⟩∧RawFour w b (off + i * 4)
theorem RawU.mono {w w':World} {ao:Option Addr} {n:Nat} (h:RawU w ao n) (hb:Below w.heap.size w w'):RawU w' ao n:=fun i hi => by
 obtain ⟨b,off,e,h⟩:=h i hi;exact ⟨b,off,e,h.mono hb⟩
def RawM (w:World) (ao:Option Addr) (m:Nat):Prop:=∀ i,i < m→∃ b off ar n cr,ao=some ⟨b,off,none⟩∧w.cell? ⟨b,off + i,none⟩=some (.slice ar n cr)∧n≤9223372036854775807∧RawU w ar n
theorem RawM.mono {w w':World} {ao:Option Addr} {n:Nat} (h:RawM w ao n) (hb:Below w.heap.size w w'):RawM w' ao n:=fun i hi => by
 obtain ⟨b,off,ar,n,cr,e,hc,hn,h⟩:=h i hi;exact ⟨b,off,ar,n,cr,e,(hb.cell (cell_lt hc)).trans hc,hn,h.mono hb⟩
def FewAt (w:World) (ao:Option Addr) (i:Nat):Prop:=∃ b off n1 a1 L1 c1 n2 a2 L2 c2,ao=some ⟨b,off,none⟩∧Four w b (off + i * 4) (.bool n1) (.slice a1 (List.length (α:=Nat) L1) c1) (.bool n2) (.slice a2 (List.length (α:=Nat) L2) c2)∧L1.length≤c1∧L2.length≤c2∧U w a1 L1∧U w a2 L2∧L1.length≤6∧L2.length≤6
theorem FewAt.qv {w:World} {ao:Option Addr} {i:Nat} (h:FewAt w ao i):∃ o:Qo,∃ (b off:Nat) (n1:Bool) (a1:Option Addr) (l1 c1:Nat) (n2:Bool) (a2:Option Addr) (l2 c2:Nat),ao=some ⟨b,off,none⟩∧Four w b (off + i * 4) (.bool n1) (.slice a1 l1 c1) (.bool n2) (.slice a2 l2 c2)∧QV w (.agg #[.bool n1,.slice a1 l1 c1,.bool n2,.slice a2 l2 c2]) o:=by
 classical
 obtain ⟨b,off,n1,a1,L1,c1,n2,a2,L2,c2,e,F,k1,k2,u1,u2,h1,h2⟩:=h
 by_cases hv:ValidR n1 L1 n2 L2
 ·have hq:VQ w (.agg #[.bool n1,.slice a1 L1.length c1,.bool n2,.slice a2 L2.length c2]) true:=⟨n1,n2,L1,L2,a1,a2,c1,c2,rfl,by omega,by omega,k1,k2,u1,u2,hii ⟨fun _ => hv,fun _ => rfl⟩⟩;obtain ⟨r,hr⟩:=hq.rat;exact ⟨some r,b,off,n1,a1,L1.length,c1,n2,a2,L2.length,c2,e,F,hr⟩
 ·have hq:VQ w (.agg #[.bool n1,.slice a1 L1.length c1,.bool n2,.slice a2 L2.length c2]) false:=⟨n1,n2,L1,L2,a1,a2,c1,c2,rfl,by omega,by omega,k1,k2,u1,u2,hii ⟨(fun h => nomatch h),fun h => absurd h hv⟩⟩;exact ⟨none,b,off,n1,a1,L1.length,c1,n2,a2,L2.length,c2,e,F,hq⟩
def RowsAt (w:World) (ao:Option Addr) (n:Nat):Prop:=∀ i,i < n→∃ row:List Qo,row.length≤8∧∃ b off ar cr,ao=some ⟨b,off,none⟩∧w.cell? ⟨b,off + i,none⟩=some (.slice ar row.length cr)∧UQ w ar row
theorem RowsAt.mono {w w':World} {ao:Option Addr} {n:Nat} (h:RowsAt w ao n) (hb:Below w.heap.size w w'):RowsAt w' ao n:=fun i hi => by
 obtain ⟨row,hl,b,off,ar,cr,e,hc,hu⟩:=h i hi;exact ⟨row,hl,b,off,ar,cr,e,(hb.cell (cell_lt hc)).trans hc,hu.mono hb⟩
open Go.ChangeShapes Go.WideShapes Go.ChangeAt Go.RowKit Go.Deep
theorem own:ownKnob Tryz.prog.godebug=none:=by kernel_rfl
theorem laidOut:laidOutB Tryz.prog=true:=by kernel_rfl
section
variable {H : Type} {enc : TypeId × Value → H} {P : Program}
theorem post_of_below {f:Func} {s:ChangeSpec} {apart fresh handsOn again:Bool} {W W':World} {args:Array Value} {v:Value} {ds gs:List (DataW H)} {before pa pv:List MemPlace}
  (hW:DataW.Whole enc P f.params.toList s.vars apart W args.toList ds gs before)
  (hres:∀ (b:Nat) (sp:Nat→Bool) (hd:Bool),DataW.TrodAll enc P W' b sp hd f.resultTypes.toList (v.resultList f.resultTypes.size) (s.fn H (ds ++ gs)).results [])
  (hargs:∀ sp:Nat→Bool,(∀ p∈before,sp p.block=true)→DataW.TrodAll enc P W' 0 sp true f.params.toList args.toList (s.fn H (ds ++ gs)).args pa)
  (hvars:∀ sp:Nat→Bool,(∀ p∈before,sp p.block=true)→DataW.TrodVars enc P W' sp s.vars (s.fn H (ds ++ gs)).vars pv)
  (hps:before=pa ++ pv) (hb:Below W.heap.size W W')
  (hok:∀ (j:Nat) (t:TypeId) (r:Value),f.resultTypes[j]?=some t→(v.resultList f.resultTypes.size)[j]?=some r→Value.okWide P W' .any 0 t r) :
  s.post enc P f apart fresh handsOn again W args v W':=by
 have hlt:∀ p∈before,p.block < W.heap.size:=fun p hp => hW.lt p hp
 have hold:∀ p∈before,(fun b => decide (b < W.heap.size)) p.block=true:=fun p hp => by simpa using hlt p hp
 refine ⟨ds,gs,before,[],pa,pv,hW,hres _ _ _,hargs _ hold,hvars _ hold,World.keptBut_mono (fun p hp => ⟨hp,?_⟩) (hb.frame (·∈before)),fun _ => ?_⟩
 ·rw [hps,List.mem_append] at hp;exact Or.inr hp
 ·obtain ⟨_,_,_,_,_,hz,hn⟩:=hW;refine ⟨hok,_,_,([] ++ pa) ++ pv,⟨[] ++ pa,pv,trodAll_append (hargs _ (fun _ _ => rfl)) (hres _ _ _),hvars _ (fun _ _ => rfl),rfl,?_,?_⟩,?_⟩
  ·intro b off hp;have hin:MemPlace.cell b off∈before:=by rw [hps]; simpa using hp
   rw [hb.frozen (hlt _ hin)];exact hz b off hin
  ·intro ha;have:=hn ha;rw [hps] at this
   simpa using this
  ·intro p hp _;rw [hps]
   simpa using hp
theorem trodAll_stays (hl:laidOutB P=true) {W W':World} (hb:Below W.heap.size W W'):∀ {ts:List TypeId} {vs:List Value} {ds:List (DataW H)} {ps:List MemPlace},(∀ t∈ts,P.readableRec t=true∧t < P.types.size) →
  DataW.TrodAll enc P W 0 (fun _ => true) true ts vs ds ps→(∀ p∈ps,p.block < W.heap.size)→∀ sp:Nat→Bool,(∀ p∈ps,sp p.block=true)→DataW.TrodAll enc P W' 0 sp true ts vs ds ps
 | [],vs,ds,ps,_,h,_,_,_ => by
  obtain ⟨rfl,rfl,rfl⟩:=trodAll_nil h;exact h
 | t :: ts,vs,ds,ps,hk,h,hlt,sp,hs => by
  obtain ⟨v,vs',d,ds',p,q,rfl,rfl,rfl,hd,hr⟩:=trodAll_cons h;have ht:=hk t (by simp);exact ⟨p,q,WideElems.Trod_stays hl ht.1 ht.2 hd (fun x hx => hb.same (hlt x (by simp [hx]))) (fun x hx => hs x (by simp [hx])),
   trodAll_stays hl hb (fun t' h' => hk t' (by simp [h'])) hr (fun x hx => hlt x (by simp [hx])) sp (fun x hx => hs x (by simp [hx])),rfl⟩
end
theorem gPow : Tryz.prog.globalNamed "internal/strconv.uint64pow10" = some 5 := by kernel_rfl
theorem gPowType:(Tryz.prog.globals[5]?).map (·.type)=some 242:=by kernel_rfl
theorem cellsPow:Tryz.prog.cellsOf 242=20:=by kernel_rfl
theorem cells64:Tryz.prog.cellsOf 153=1:=by kernel_rfl
theorem env_of {W:World} (h:laidMetH Tryz.prog Rows.dualOptimalRow.laid W):Env W:=by
 have h' : laidMet Tryz.prog Rows.dualOptimalRow.laid W := h;obtain ⟨g', t', cs, fuel, p, hg', ht', hvar, hd⟩ := Lib.laidMet.reads h' (n := "internal/strconv.uint64pow10") (d := Lib.tabData .u64 Lib.pow10Tab) (.tail _ (.tail _ (.head _)));obtain rfl := Option.some.inj (gPow.symm.trans hg');obtain rfl := Option.some.inj (gPowType.symm.trans ht');refine ⟨?_⟩;unfold Lib.TabIs;rw [hvar, ← Lib.cells_of_tab Tryz.underlying242 Tryz.underlying153 cells64 cellsPow hd]
noncomputable def laidWorld (os:Os):World :=
 let N:=(World.settled Tryz.prog os).heap.size
 let w0:=World.holding Tryz.prog os ⟨#[.cells #[.string ⟨#[105,110,118,97,108,105,100,32,115,121,110,116,97,120]⟩] 240,.cells #[.string ⟨#[118,97,108,117,101,32,111,117,116,32,111,102,32,114,97,110,103,101]⟩] 240],#[],[]⟩
 let put (h:Array Obj) (g:Nat) (cs:Array Value):Array Obj:=h.modify g fun
  | .cells _ t frozen => .cells cs t frozen
  | o => o
 let h0:=put (put w0.heap 3 #[.iface 238 (.pointer (some ⟨N,0,none⟩))]) 4 #[.iface 238 (.pointer (some ⟨N + 1,0,none⟩))]
 let h1:=put h0 1 (Lib.firstTab.map fun z => Value.int .u8 z).toArray
 let h2:=put h1 2 ((List.range 16).flatMap fun i => [Value.int .u8 (Lib.accLo i),Value.int .u8 (Lib.accHi i)]).toArray
 let h3:=put h2 5 (Lib.pow10Tab.map fun z => Value.int .u64 z).toArray
 let h4:=put h3 6 #[.int .u8 0,.int .u8 1,.int .u8 28,.int .u8 2,.int .u8 29,.int .u8 14,.int .u8 24,.int .u8 3,.int .u8 30,.int .u8 22,.int .u8 20,.int .u8 15,.int .u8 25,.int .u8 17,.int .u8 4,.int .u8 8,.int .u8 31,.int .u8 27,.int .u8 13,.int .u8 23,.int .u8 21,.int .u8 19,.int .u8 16,.int .u8 7,.int .u8 26,.int .u8 12,.int .u8 18,.int .u8 6,.int .u8 11,.int .u8 5,.int .u8 10,.int .u8 9]
 let h5:=put h4 7 #[.int .u8 0,.int .u8 1,.int .u8 56,.int .u8 2,.int .u8 57,.int .u8 49,.int .u8 28,.int .u8 3,.int .u8 61,.int .u8 58,.int .u8 42,.int .u8 50,.int .u8 38,.int .u8 29,.int .u8 17,.int .u8 4,.int .u8 62,.int .u8 47,.int .u8 59,.int .u8 36,.int .u8 45,.int .u8 43,.int .u8 51,.int .u8 22,.int .u8 53,.int .u8 39,.int .u8 33,.int .u8 30,.int .u8 24,.int .u8 18,.int .u8 12,.int .u8 5,.int .u8 63,.int .u8 55,.int .u8 48,.int .u8 27,.int .u8 60,.int .u8 41,.int .u8 37,.int .u8 16,.int .u8 46,.int .u8 35,.int .u8 44,.int .u8 21,.int .u8 52,.int .u8 32,.int .u8 23,.int .u8 11,.int .u8 54,.int .u8 26,.int .u8 40,.int .u8 15,.int .u8 34,.int .u8 20,.int .u8 31,.int .u8 10,.int .u8 25,.int .u8 14,.int .u8 19,.int .u8 9,.int .u8 13,.int .u8 8,.int .u8 7,.int .u8 6]
 { w0 with heap:=h5 }
theorem laid_met (os:Os) (args:Array Value):laidMet Tryz.prog Rows.dualOptimalRow.laid ((laidWorld os).forCall (fun _ _ => 0) ⟨#[],args,[]⟩).memory :=
 laidMet_of_run' 8 (by kernel_rfl) (by kernel_rfl)
open Go.ChangeShapes Go.WideShapes Go.ChangeAt Go.RowKit Go.Deep
theorem spot_noneX {w:World} {a:Addr} {v:Value} (h:w.cell? a=some v):a.spot=none:=by
 unfold World.cell? at h
 cases hsp:a.spot with
 | none => rfl
 | some k => rw [hsp] at h; simp at h; split at h <;> simp at h
theorem add_plainX (b off i:Nat):(⟨b,off,none⟩:Addr).add i=⟨b,off + i,none⟩:=by
 unfold Addr.add; split
 ·subst i; rfl
 ·rfl
open Go.ChangeShapes Go.WideShapes Go.ChangeAt Go.RowKit Go.Deep
theorem wfU_u8 {n:Int} (h:(Lit.int .u8 n).wf=true):0≤n∧n≤255:=by
 simp [Lit.wf,IntKind.min,IntKind.max,IntKind.signed,IntKind.bits] at h;omega
theorem wfU_i8 {n:Int} (h:(Lit.int .i8 n).wf=true):-128≤n∧n≤127:=by
 simp [Lit.wf,IntKind.min,IntKind.max,IntKind.signed,IntKind.bits] at h;omega
theorem cellsU_u8:Tryz.prog.cellsOf 5=1:=by kernel_rfl
theorem trod_u8 {H:Type} {enc:TypeId × Value→H} {W:World} {n:Nat} {v:Value} {x:DataW H × List MemPlace} (h:DataW.trod enc Tryz.prog W 0 (fun _ => true) true n 23 [v]=some x) :
  ∃ (a:Option Addr) (l:List Int) (c:Nat),v=.slice a l.length c∧l.length≤9223372036854775807∧UK .u8 W a l∧∀ z∈l,0≤z∧z≤255:=by
 rcases open_ints Tryz.underlying23 Tryz.underlying5 cellsU_u8 h with ⟨hcs,_⟩ | ⟨a,len,cap,zs,hcs,_,hl,hm,hz,_,hcell,hwz⟩
 ·simp only [List.cons.injEq,and_true] at hcs;exact ⟨none,[],0,hcs,by simp,fun i z h => by simp at h,fun z h => by simp at h⟩
 ·simp only [List.cons.injEq,and_true] at hcs;subst hcs;rw [if_pos rfl] at hz;have hlen:(zs.take len).length=len:=by simp; omega
  refine ⟨some a,zs.take len,cap,by rw [hlen],by rw [hlen]; unfold maxLen at hm; omega,?_,fun z hz => wfU_u8 (hwz z (List.mem_of_mem_take hz))⟩;intro i z hy;have hi:i < len:=by
   obtain ⟨h1,_⟩:=List.getElem?_eq_some_iff.1 hy;simp at h1; omega
  rw [List.getElem?_take_of_lt hi] at hy;have c0:=hcell 0 (by omega);have ci:=hcell i (by omega);have hsp:a.spot=none:=by
   have:a.add 0=a:=by simp [Addr.add]
   rw [this] at c0;exact spot_noneX c0
  obtain ⟨bb,off,sp⟩:=a;simp only at hsp;subst hsp;rw [add_plainX] at ci;refine ⟨bb,off,rfl,?_⟩;rw [ci,List.getD_eq_getElem?_getD,hy]
  rfl
theorem cellsU_i8:Tryz.prog.cellsOf 66=1:=by kernel_rfl
theorem trod_i8 {H:Type} {enc:TypeId × Value→H} {W:World} {n:Nat} {v:Value} {x:DataW H × List MemPlace} (h:DataW.trod enc Tryz.prog W 0 (fun _ => true) true n 67 [v]=some x) :
  ∃ (a:Option Addr) (l:List Int) (c:Nat),v=.slice a l.length c∧l.length≤9223372036854775807∧UK .i8 W a l∧∀ z∈l,-128≤z∧z≤127:=by
 rcases open_ints Tryz.underlying67 Tryz.underlying66 cellsU_i8 h with ⟨hcs,_⟩ | ⟨a,len,cap,zs,hcs,_,hl,hm,hz,_,hcell,hwz⟩
 ·simp only [List.cons.injEq,and_true] at hcs;exact ⟨none,[],0,hcs,by simp,fun i z h => by simp at h,fun z h => by simp at h⟩
 ·simp only [List.cons.injEq,and_true] at hcs;subst hcs;rw [if_pos rfl] at hz;have hlen:(zs.take len).length=len:=by simp; omega
  refine ⟨some a,zs.take len,cap,by rw [hlen],by rw [hlen]; unfold maxLen at hm; omega,?_,fun z hz => wfU_i8 (hwz z (List.mem_of_mem_take hz))⟩;intro i z hy;have hi:i < len:=by
   obtain ⟨h1,_⟩:=List.getElem?_eq_some_iff.1 hy;simp at h1; omega
  rw [List.getElem?_take_of_lt hi] at hy;have c0:=hcell 0 (by omega);have ci:=hcell i (by omega);have hsp:a.spot=none:=by
   have:a.add 0=a:=by simp [Addr.add]
   rw [this] at c0;exact spot_noneX c0
  obtain ⟨bb,off,sp⟩:=a;simp only at hsp;subst hsp;rw [add_plainX] at ci;refine ⟨bb,off,rfl,?_⟩;rw [ci,List.getD_eq_getElem?_getD,hy]
  rfl
theorem trod_ur {H:Type} {enc:TypeId × Value→H} {W:World} {n:Nat} {v:Value} {x:DataW H × List MemPlace} (h:DataW.trod enc Tryz.prog W 0 (fun _ => true) true n 22 [v]=some x) :
  ∃ (a:Option Addr) (rows:List (List Int)) (c:Nat),v=.slice a rows.length c∧rows.length≤9223372036854775807∧UR W a rows∧(∀ row∈rows,row.length≤9223372036854775807)∧∀ row∈rows,∀ z∈row,-128≤z∧z≤127:=by
 rcases open_slice1 Tryz.underlying22 (by kernel_rfl) h with ⟨hcs,_⟩ | ⟨a,len,cap,m,n,V,D,Pl,hcs,_,hl,hm,hmm,_,hi⟩
 ·simp only [List.cons.injEq,and_true] at hcs;exact ⟨none,[],0,hcs,by simp,fun i z h => by simp at h,fun z h => by simp at h,fun z h => by simp at h⟩
 ·simp only [List.cons.injEq,and_true] at hcs;subst hcs;rw [if_pos rfl] at hmm;subst hmm;have hex:∀ i,i < len→∃ (row:List Int) (b off:Nat) (ar:Option Addr) (cr:Nat),a=⟨b,off,none⟩∧W.cell? ⟨b,off + i,none⟩=some (.slice ar row.length cr)∧UK .i8 W ar row∧row.length≤9223372036854775807∧∀ z∈row,-128≤z∧z≤127:=by
   intro i hlt;obtain ⟨h1,h2⟩:=hi i (by omega);obtain ⟨ar,row,cr,e,hlr,hu,hz⟩:=trod_i8 h2;rw [e] at h1;have hsp:a.spot=none:=by
    have g:=(hi 0 (by omega)).1;have e1:a.add 0=a:=by simp [Addr.add]
    rw [e1] at g;exact spot_noneX g
   obtain ⟨b,off,sp⟩:=a;simp only at hsp;subst hsp;rw [add_plainX] at h1;exact ⟨row,b,off,ar,cr,rfl,h1,hu,hlr,hz⟩
  obtain ⟨f,hf⟩:∃ f:Nat→List Int,∀ i,i < len→∃ (b off:Nat) (ar:Option Addr) (cr:Nat),a=⟨b,off,none⟩∧W.cell? ⟨b,off + i,none⟩=some (.slice ar (f i).length cr)∧UK .i8 W ar (f i)∧(f i).length≤9223372036854775807∧∀ z∈f i,-128≤z∧z≤127:=by
   classical
   refine ⟨fun i => if h:i < len then (hex i h).choose else [],fun i h => ?_⟩;have:=(hex i h).choose_spec;simp only [dif_pos h];exact this
  refine ⟨some a,(List.range len).map f,m,by simp,by simp; unfold maxLen at hm; omega,?_,?_,?_⟩
  ·intro i row hr;rw [List.getElem?_map] at hr;obtain ⟨j,hj,rfl⟩:=Option.map_eq_some_iff.1 hr;obtain ⟨hlt,e⟩:=List.getElem?_eq_some_iff.1 hj;simp at hlt e;subst e;obtain ⟨b,off,ar,cr,e,hc,hu,_⟩:=hf i hlt;exact ⟨b,off,ar,cr,by rw [e],hc,hu⟩
  ·intro row hr;obtain ⟨j,hj,rfl⟩:=List.mem_map.1 hr;obtain ⟨_,_,_,_,_,_,_,h1,_⟩:=hf j (by simpa using hj);exact h1
  ·intro row hr;obtain ⟨j,hj,rfl⟩:=List.mem_map.1 hr;obtain ⟨_,_,_,_,_,_,_,_,h1⟩:=hf j (by simpa using hj);exact h1
open Go.ChangeShapes Go.WideShapes Go.ChangeAt Go.RowKit Go.Deep
theorem list_nine {α:Type} {l:List α} (h:l.length=9):∃ a b c d e f x y z,l=[a,b,c,d,e,f,x,y,z]:=by
 match l,h with
 | [a,b,c,d,e,f,x,y,z],_ => exact ⟨a,b,c,d,e,f,x,y,z,rfl⟩
theorem open_draft14 {H:Type} {enc:TypeId × Value→H} {r:Reach} {b0:Nat} {W:World} {v:Value} {d:DataW H} {p:List MemPlace} (hv:Value.okWide Tryz.prog W r b0 25 v) (h:DataW.Trod enc Tryz.prog W 0 (fun _ => true) true 25 v d p) :
  ∃ (aA:Option Addr) (A:List (List Int)) (cA:Nat) (aX:Option Addr) (X:List Int) (cX:Nat) (aY:Option Addr) (Y:List Int) (cY:Nat) (aR:Option Addr) (R:List Int) (cR:Nat) (aL:Option Addr) (L:List Int) (cL:Nat) (hf:Bool) (sp ap vv:Int),v=.agg #[.slice aA A.length cA,.slice aX X.length cX,.slice aY Y.length cY,.slice aR R.length cR,.slice aL L.length cL,.bool hf,.int .u8 sp,.int .u8 ap,.int .u8 vv] ∧
   A.length≤9223372036854775807∧X.length≤9223372036854775807∧Y.length≤9223372036854775807∧R.length≤9223372036854775807∧L.length≤9223372036854775807∧(∀ row∈A,row.length≤9223372036854775807)∧(∀ row∈A,∀ z∈row,-128≤z∧z≤127)∧(∀ z∈X,0≤z∧z≤255)∧(∀ z∈Y,0≤z∧z≤255)∧(∀ z∈R,0≤z∧z≤255)∧(∀ z∈L,0≤z∧z≤255)∧(0≤sp∧sp≤255)∧(0≤ap∧ap≤255)∧(0≤vv∧vv≤255) ∧
   UR W aA A∧UK .u8 W aX X∧UK .u8 W aY Y∧UK .u8 W aR R∧UK .u8 W aL L:=by
 obtain ⟨cs,rfl,hsz⟩:=okWide_struct Tryz.underlying25 hv;have h9:Tryz.prog.cellsOf 25=9:=by kernel_rfl
 obtain ⟨cs⟩:=cs;obtain ⟨x0,x1,x2,x3,x4,x5,x6,x7,x8,rfl⟩:=list_nine (show cs.length=9 from hsz.trans h9);obtain ⟨fuel,hf⟩:=h;obtain ⟨xs,m,_,_,_,hl,hx⟩:=DataW.trod_struct Tryz.underlying25 hf;obtain ⟨y0,y1,y2,y3,y4,y5,y6,y7,y8,rfl⟩:=list_nine hl;have t0:=hx 0 _ rfl;have t1:=hx 1 _ rfl;have t2:=hx 2 _ rfl;have t3:=hx 3 _ rfl;have t4:=hx 4 _ rfl;have t5:=hx 5 _ rfl;have t6:=hx 6 _ rfl;have t7:=hx 7 _ rfl;have t8:=hx 8 _ rfl;simp only [Value.cells,List.getElem?_cons_zero,List.getElem?_cons_succ] at t0 t1 t2 t3 t4 t5 t6 t7 t8;obtain ⟨aA,A,cA,rfl,nA,uA,lA,zA⟩:=trod_ur t0;obtain ⟨aX,X,cX,rfl,nX,uX,zX⟩:=trod_u8 t1;obtain ⟨aY,Y,cY,rfl,nY,uY,zY⟩:=trod_u8 t2;obtain ⟨aR,R,cR,rfl,nR,uR,zR⟩:=trod_u8 t3;obtain ⟨aL,L,cL,rfl,nL,uL,zL⟩:=trod_u8 t4;obtain ⟨hfb,eb,_⟩:=DataW.trod_bool Tryz.underlying4 t5;obtain ⟨sp,es,_,ws⟩:=DataW.trod_int Tryz.underlying5 t6;obtain ⟨ap,ea,_,wa⟩:=DataW.trod_int Tryz.underlying5 t7;obtain ⟨vv,ev,_,wv⟩:=DataW.trod_int Tryz.underlying5 t8
 cases eb
 cases es
 cases ea
 cases ev
 exact ⟨aA,A,cA,aX,X,cX,aY,Y,cY,aR,R,cR,aL,L,cL,hfb,sp,ap,vv,rfl,nA,nX,nY,nR,nL,lA,zA,zX,zY,zR,zL,wfU_u8 ws,wfU_u8 wa,wfU_u8 wv,uA,uX,uY,uR,uL⟩
end Go.Proofs.YtagdgdacecibiaaGreatDoor
