import Derived.Test.YtaedmaifkfhpfaaGreatDoorWP
import Derived.Test.YtaedmaifkfhpfaaGreatDoorDpX
import Derived.Deep.Slices
import Derived.SizedLaws
set_option linter.unusedVariables false
set_option linter.unusedSimpArgs false
set_option maxRecDepth 100000
set_option maxHeartbeats 25600000
namespace Go.Proofs.YtaedmaifkfhpfaaGreatDoor
open Go.ChangeShapes Go.WideShapes Go.ChangeAt Go.RowKit Go.Deep
theorem mem_weightsAll {H:Type} {P:Program} {e:TypeId}:∀ {l:List (DataW H)} {d:DataW H} (_:d∈l) {n:Nat} (_:n∈d.weights P e),n∈DataW.weightsAll P e l
 | x :: r,d,hd,n,hn => by
  rw [DataW.weightsAll,List.mem_append];rcases List.mem_cons.1 hd with rfl | hd
  ·exact .inl hn
  ·exact .inr (mem_weightsAll hd hn)
theorem reach47 {n:Nat} (h:n≤reachBytes):n≤140737488355328:=by have:=reachBytes_lt; omega
theorem y_two {α:Type} {l:List α} (h:l.length=2):∃ x y,l=[x,y]:=by
 match l,h with
 | [x,y],_ => exact ⟨x,y,rfl⟩
theorem y_four {cs:Array Value} (h:cs.size=4):∃ x0 x1 x2 x3,cs=#[x0,x1,x2,x3]:=by
 rcases cs with ⟨cs⟩
 simp only [List.size_toArray] at h
 match cs,h with
 | [x0,x1,x2,x3],_ => exact ⟨x0,x1,x2,x3,rfl⟩
theorem y_spot {w:World} {a:Addr} {v:Value} (h:w.cell? a=some v):a.spot=none:=by
 unfold World.cell? at h
 cases hsp:a.spot with
 | none => rfl
 | some k => rw [hsp] at h; simp at h; split at h <;> simp at h
theorem y_add (b off i:Nat):(⟨b,off,none⟩:Addr).add i=⟨b,off + i,none⟩:=by
 unfold Addr.add; split
 ·subst i; rfl
 ·rfl
def RawIX (w:World) (v:Value):Prop :=
 ∃ (neg:Bool) (ao:Option Addr) (l:List Nat) (cap:Nat),v=.agg #[.bool neg,.slice ao l.length cap]∧l.length≤cap∧U w ao l∧l.length≤140737488355328
theorem raw_cellsX {H:Type} {enc:TypeId × Value→H} {W:World} {t:TypeId} {f0 f1:Field} {c0 c1:Value} {n:Nat} {x:DataW H × List MemPlace} (hs:Tryz.prog.underlying t=some (.struct #[f0,f1])) (o0:f0.offset=0) (o1:f1.offset=1)
  (k0:Tryz.prog.cellsOf f0.type=1) (k1:Tryz.prog.cellsOf f1.type=1) (h0:Tryz.prog.underlying f0.type=some .bool) (h1:Tryz.prog.underlying f1.type=some (.slice 94))
  (h:DataW.trod enc Tryz.prog W 0 (fun _ => true) true n t [c0,c1]=some x) (hzw:∀ m∈x.1.weights Tryz.prog t,m≤reachBytes):RawIX W (.agg #[c0,c1]):=by
 obtain ⟨xs,m,_,hxe,_,hl,hx⟩:=DataW.trod_struct hs h;obtain ⟨y0,y1,rfl⟩:=y_two hl;have t0:=hx 0 f0 rfl;have t1:=hx 1 f1 rfl;rw [o0,k0] at t0;rw [o1,k1] at t1;simp only [List.drop_zero,List.take_succ_cons,List.take_zero,List.drop_succ_cons,List.getElem?_cons_zero,List.getElem?_cons_succ] at t0 t1;obtain ⟨b,hc,_⟩:=DataW.trod_bool h0 t0;simp only [List.cons.injEq,and_true] at hc;subst hc;have hw1:∀ q∈y1.1.weights Tryz.prog f1.type,q≤reachBytes:=fun q hq => hzw q (by
  rw [hxe];have e:(DataW.agg (H:=H) ([y0,y1].map (·.1))).weights Tryz.prog t=DataW.weightsEach Tryz.prog ([f0,f1].map (·.type)) ([y0,y1].map (·.1)):=by simp [DataW.weights,hs]
  rw [e];exact DataW.weights_mem_each (j:=1) rfl rfl q hq)
 rcases open_ints h1 Tryz.underlying94 cellsU32 t1 with ⟨hcs,_⟩ | ⟨a,len,cap,zs,hcs,_,hlc,hm,hz,hx1,hcell,hwz⟩
 ·simp only [List.cons.injEq,and_true] at hcs;subst hcs;exact ⟨b,none,[],0,rfl,by simp,U.nil _ _,by simp⟩
 ·simp only [List.cons.injEq,and_true] at hcs;subst hcs;rw [if_pos rfl] at hz;have hb:Tryz.prog.bytesOf 94=4:=by kernel_rfl
  have hzz:len≤140737488355328:=by
   have h2:=hw1 (((lits (H:=H) .u32 (zs.take len)).length + (lits (H:=H) .u32 (zs.drop len)).length) * Tryz.prog.bytesOf 94) (by rw [hx1]; simp [DataW.weights,h1]);rw [hb] at h2;have h3:(lits (H:=H) .u32 (zs.take len)).length=len:=by simp [lits]; omega
   have:=reach47 h2;omega
  have hlen:((zs.take len).map Int.toNat).length=len:=by simp; omega
  refine ⟨b,some a,(zs.take len).map Int.toNat,cap,by rw [hlen],?_,?_,by rw [hlen]; exact hzz⟩
  ·rw [hlen]; omega
  ·intro i hi;rw [hlen] at hi;have c0:=hcell 0 (by omega);have ci:=hcell i (by omega);have hsp:a.spot=none:=by
    have:a.add 0=a:=by simp [Addr.add]
    rw [this] at c0;exact y_spot c0
   obtain ⟨bb,off,sp⟩:=a;simp only at hsp;subst hsp;refine ⟨bb,off,rfl,?_⟩;rw [y_add] at ci;rw [ci];have hm':zs[i]'(by omega)∈zs:=List.getElem_mem _;have hw:=wf_u32 (hwz _ hm');simp only [List.getElem_map,List.getElem_take];rw [List.getD_eq_getElem?_getD,gE (by omega)];simp only [Option.getD_some]
   congr 2
   omega
theorem raw_fourX {H:Type} {enc:TypeId × Value→H} {W:World} {n:Nat} {x0 x1 x2 x3:Value} {x:DataW H × List MemPlace} (h:DataW.trod enc Tryz.prog W 0 (fun _ => true) true n 26 [x0,x1,x2,x3]=some x) (hzw:∀ m∈x.1.weights Tryz.prog 26,m≤reachBytes) :
  RawIX W (.agg #[x0,x1])∧RawIX W (.agg #[x2,x3]):=by
 obtain ⟨xs,m',_,hxe,_,hl2,hx⟩:=DataW.trod_struct Tryz.underlying26 h;obtain ⟨y0,y1,rfl⟩:=y_two hl2;have t0:=hx 0 _ rfl;have t1:=hx 1 _ rfl;simp only [List.getElem?_cons_zero,List.getElem?_cons_succ] at t0 t1;have e:(DataW.agg (H:=H) ([y0,y1].map (·.1))).weights Tryz.prog 26=DataW.weightsEach Tryz.prog [24,24] ([y0,y1].map (·.1)):=by simp [DataW.weights,Tryz.underlying26]
 exact ⟨raw_cellsX Tryz.underlying24 rfl rfl (by kernel_rfl) (by kernel_rfl) (by kernel_rfl) (by kernel_rfl) t0 (fun q hq => hzw q (by rw [hxe,e]; exact DataW.weights_mem_each (j:=0) rfl rfl q hq)),
  raw_cellsX Tryz.underlying24 rfl rfl (by kernel_rfl) (by kernel_rfl) (by kernel_rfl) (by kernel_rfl) t1 (fun q hq => hzw q (by rw [hxe,e]; exact DataW.weights_mem_each (j:=1) rfl rfl q hq))⟩
theorem open_rawLX {H:Type} {enc:TypeId × Value→H} {r:Reach} {b0:Nat} {W:World} {v:Value} {d:DataW H} {p:List MemPlace} (hv:Value.okWide Tryz.prog W r b0 27 v) (h:DataW.Trod enc Tryz.prog W 0 (fun _ => true) true 27 v d p) (hzw:∀ m∈d.weights Tryz.prog 27,m≤reachBytes):RawLX W v:=by
 obtain ⟨a0,len0,cap0,rfl⟩:=okWide_slice Tryz.underlying27 hv;obtain ⟨fuel,hf⟩:=h;have hC:Tryz.prog.cellsOf 26=4:=by kernel_rfl
 rcases open_slice Tryz.underlying27 hf with ⟨hcs,_⟩ | ⟨a,len,cap,m,n,D,Pl,hcs,_,hl,hm,hmm,hxe,hi⟩
 ·simp only [Value.cells,List.cons.injEq,Value.slice.injEq,and_true] at hcs;obtain ⟨rfl,rfl,rfl⟩:=hcs;exact ⟨none,0,0,rfl,by omega,fun i h => absurd h (by omega)⟩
 ·simp only [Value.cells,List.cons.injEq,Value.slice.injEq,and_true] at hcs;obtain ⟨rfl,rfl,rfl⟩:=hcs;rw [if_pos rfl] at hmm;subst hmm;have hd:d=.slice ((List.range len0).map D) ((List.range (m - len0)).map fun j => D (len0 + j)):=(Prod.mk.inj hxe).1;have hw:∀ i,i < len0→∀ q∈(D i).weights Tryz.prog 26,q≤reachBytes:=by
   intro i hlt q hq;refine hzw q ?_;rw [hd];have e:(DataW.slice (H:=H) ((List.range len0).map D) ((List.range (m - len0)).map fun j => D (len0 + j))).weights Tryz.prog 27=(((List.range len0).map D).length + ((List.range (m - len0)).map fun j => D (len0 + j)).length) * Tryz.prog.bytesOf 26 :: (DataW.weightsAll Tryz.prog 26 ((List.range len0).map D) ++ DataW.weightsAll Tryz.prog 26 ((List.range (m - len0)).map fun j => D (len0 + j))):=by
    simp [DataW.weights,Tryz.underlying27]
   rw [e];exact List.mem_cons_of_mem _ (List.mem_append_left _ (mem_weightsAll (d:=D i) (List.mem_map_of_mem (by simpa using hlt)) hq))
  refine ⟨some a,_,_,rfl,by unfold maxLen at hm; omega,fun i hlt => ?_⟩;obtain ⟨cs',hc,ht⟩:=hi i (by omega);rw [hC] at hc;obtain ⟨_,hcl,hat⟩:=World.cells?_some hc;obtain ⟨x0,x1,x2,x3,rfl⟩:∃ x0 x1 x2 x3,cs'=[x0,x1,x2,x3]:=by
   match cs',hcl with
   | [x0,x1,x2,x3],_ => exact ⟨x0,x1,x2,x3,rfl⟩
  have g0:=hat 0 (by omega);have g1:=hat 1 (by omega);have g2:=hat 2 (by omega);have g3:=hat 3 (by omega);have hsp:a.spot=none:=by
   obtain ⟨cs0,hc0,_⟩:=hi 0 (by omega);rw [hC] at hc0;obtain ⟨_,hcl0,hat0⟩:=World.cells?_some hc0;have g:=hat0 0 (by omega);have e1:∀ x:Addr,x.add 0=x:=fun x => by simp [Addr.add]
   rw [Nat.zero_mul,e1,e1,gE (by omega)] at g;exact y_spot g
  obtain ⟨b,off,sp⟩:=a;simp only at hsp;subst hsp;rw [y_add,y_add] at g0 g1 g2 g3;simp only [List.getElem?_cons_zero,List.getElem?_cons_succ,Nat.add_zero] at g0 g1 g2 g3;obtain ⟨⟨n1,a1,l1,c1,e1,k1,u1,b1⟩,⟨n2,a2,l2,c2,e2,k2,u2,b2⟩⟩:=raw_fourX ht (hw i hlt);simp only [Value.agg.injEq,Array.mk.injEq,List.cons.injEq,and_true] at e1 e2;obtain ⟨rfl,rfl⟩:=e1;obtain ⟨rfl,rfl⟩:=e2;exact ⟨b,off,rfl,n1,a1,l1,c1,n2,a2,l2,c2,⟨g0,g1,g2,g3,trivial,trivial,trivial,trivial⟩,k1,k2,u1,u2,b1,b2⟩
theorem open_rawQX {H:Type} {enc:TypeId × Value→H} {r:Reach} {b0:Nat} {W:World} {v:Value} {d:DataW H} {p:List MemPlace} (hv:Value.okWide Tryz.prog W r b0 26 v) (h:DataW.Trod enc Tryz.prog W 0 (fun _ => true) true 26 v d p) (hzw:∀ m∈d.weights Tryz.prog 26,m≤reachBytes):RawQX W v:=by
 obtain ⟨cs,rfl,hsz⟩:=okWide_struct Tryz.underlying26 hv;have h4:Tryz.prog.cellsOf 26=4:=by kernel_rfl
 obtain ⟨x0,x1,x2,x3,rfl⟩:=y_four (hsz.trans h4);obtain ⟨fuel,hf⟩:=h;obtain ⟨⟨n1,a1,l1,c1,e1,k1,u1,b1⟩,⟨n2,a2,l2,c2,e2,k2,u2,b2⟩⟩:=raw_fourX hf hzw;simp only [Value.agg.injEq,Array.mk.injEq,List.cons.injEq,and_true] at e1 e2;obtain ⟨rfl,rfl⟩:=e1;obtain ⟨rfl,rfl⟩:=e2;exact ⟨n1,n2,l1,l2,a1,a2,c1,c2,rfl,k1,k2,u1,u2,b1,b2⟩
end Go.Proofs.YtaedmaifkfhpfaaGreatDoor
