/-
  As wp_region_use; one operation uses up a fact and writes nothing (a slice that is built of a value).
-/
import Derived.Test.YtagdgdacecibiaaGreatDoorOQ
import Derived.Test.YtagdgdacecibiaaGreatDoorD5
import Derived.Maps.AppendAt
set_option linter.unusedVariables false
set_option linter.unusedSimpArgs false
set_option maxRecDepth 100000
set_option maxHeartbeats 25600000
namespace Go.Proofs.YtagdgdacecibiaaGreatDoor
open Go.RowKit
section
variable {P : Program} {ops : Array Oper} {Q : Exit → Act → World → Prop}
def bigQ (us:List (Option Nat)) (qi i:Nat):Bool:=us.any (· == some i) && !(i == qi)
def okUseQ (ops:Array Oper) (us:List (Option Nat)) (qi:Nat) (cs:List Bool):Bool :=
 (List.range ops.size).all fun i => !bigQ us qi i || (List.range ops.size).all fun k =>
  k == i || us.getD k none == some i || cs.getD k false || (waitsAt ops k).contains i || (match us.getD k none with | some u => (waitsAt ops i).contains u | none => false)
def okPreQ (ops:Array Oper) (us:List (Option Nat)) (qi:Nat) (ds:List (Option Nat)) (pi d0:Nat):Bool :=
 (List.range ops.size).all fun i => (!bigQ us qi i && !(ds.getD i none == some d0)) || i == pi || (waitsAt ops i).any fun j => decide (j < ops.size) && (j == pi || (waitsAt ops j).contains pi)
def StepQ (us:List (Option Nat)) (qi i:Nat) (wx W W':World):Prop:=Below wx.heap.size wx W'∧(bigQ us qi i=false→Below W.heap.size W W')
theorem wp_region_useq {id:Nat} {a:Act} {w wx:World} (Fs:List (World→Value→Prop)) (us:List (Option Nat)) (qi:Nat) (cs:List Bool) (ds:List (Option Nat)) (dl:List Nat) (pi d0:Nat) (P0:World→Value→Prop) (hpi:pi < ops.size)
  (hm:P.follows .mixedOrders=true) (ht:topo .any ops=true) (hd:ops.toList.map (·.dst)=ds) (hdl:ds.filterMap (fun x => x)=dl) (hnd:dl.Nodup) (hok:okUseQ ops us qi cs=true) (hop:okPreQ ops us qi ds pi d0=true) (hP0:P0 w.drew (a.tmps.getD d0 undef)) (hPS:StayB P0)
  (hw:Below wx.heap.size wx w) (hS:AllS Fs) (hC:AllK cs Fs)
  (hs:EachOp (fun i o => ∀ (T:Nat→Value) (W:World),Below wx.heap.size wx W→(i=pi→P0 W (T d0))→AllU Fs us i ds T W (waits .any o) →
   ∀ K:Act→World→Prop,(∀ v W',StepQ us qi i wx W W'→(Fs.getD i fun _ _ => True) W' ((o.dst.map fun _ => v).getD undef)→K (({ a with tmps:=ovr a.tmps T dl }:Act).put o.dst v) W') →
    wpOp P ops Q i K { a with tmps:=ovr a.tmps T dl } W) 0 ops.toList)
  (he:∀ T W,Below wx.heap.size wx W→AllU Fs us ops.size ds T W (List.range ops.size)→Q .normal { a with tmps:=ovr a.tmps T dl } W):(Code.region id ops true).wp P Q a w:=by
 have hnd':(ds.filterMap _root_.id).Nodup:=by
  have:ds.filterMap _root_.id=dl:=hdl;rw [this]; exact hnd
 have hdst:∀ (i:Nat) (o:Oper),ops[i]?=some o→i < ops.size∧o.dst=ds.getD i none:=by
  intro i o ho;have hi:i < ops.size:=(Array.getElem?_eq_some_iff.1 ho).1;refine ⟨hi,?_⟩;have h1:(ops.toList.map (·.dst))[i]?=some o.dst:=by simp [ho]
  rw [hd] at h1;rw [List.getD_eq_getElem?_getD,h1]; rfl
 have hus:∀ k,ops.size≤k→True:=fun _ _ => trivial
 have huse:∀ i k,i < ops.size→k < ops.size→bigQ us qi i=true→k ≠ i→us.getD k none ≠ some i→cs.getD k false=true∨i∈waitsAt ops k∨∃ u,us.getD k none=some u∧u∈waitsAt ops i:=by
  intro i k hi hk hb hne hnu;unfold okUseQ at hok;rw [List.all_eq_true] at hok;have h1:=hok i (by simpa using hi);rw [hb,Bool.not_true,Bool.false_or,List.all_eq_true] at h1;have h2:=h1 k (by simpa using hk);simp only [Bool.or_eq_true,beq_iff_eq,List.contains_iff_mem] at h2;rcases h2 with (((h | h) | h) | h) | h
  ·exact absurd h hne
  ·exact absurd h hnu
  ·exact .inl h
  ·exact .inr (.inl h)
  ·refine .inr (.inr ?_)
   cases hu:us.getD k none with
   | none => rw [hu] at h; simp at h
   | some u => rw [hu] at h; exact ⟨u,rfl,by simpa using h⟩
 have hwt:∀ k o,ops[k]?=some o→waitsAt ops k=waits .any o:=by
  intro k o ho; unfold waitsAt; rw [ho]; rfl
 have hpre:∀ i,i < ops.size→(bigQ us qi i=true∨ds.getD i none=some d0)→i ≠ pi→∃ j,j < ops.size∧j∈waitsAt ops i∧(j=pi∨pi∈waitsAt ops j):=by
  intro i hi hb hne;unfold okPreQ at hop;rw [List.all_eq_true] at hop;have h1:=hop i (by simpa using hi);simp only [Bool.or_eq_true,beq_iff_eq,List.any_eq_true,Bool.and_eq_true,decide_eq_true_eq,List.contains_iff_mem,Bool.not_eq_true',beq_eq_false_iff_ne] at h1;rcases h1 with (h | h) | ⟨j,hj,hjl,h⟩
  ·exfalso
   rcases hb with hb | hb
   ·rw [h.1] at hb; cases hb
   ·exact h.2 hb
  ·exact absurd h hne
  ·exact ⟨j,hjl,hj,h⟩
 refine wp_region_flow0 (fun L T W => Below wx.heap.size wx W∧(¬ L pi→P0 W (T d0))∧(∀ k,k < ops.size→L k→∀ d∈waitsAt ops k,L d)∧∀ k,k < ops.size→L k→(∀ u,us.getD k none=some u→u < ops.size→¬ L u)→(Fs.getD k fun _ _ => True) W (dv ds T k)) dl hm ht ?_ ⟨hw.drew,fun _ => hP0,fun k _ h => h.elim,fun k _ h => h.elim⟩ ?_ ?_ ?_
 ·unfold dsts;rw [← hdl,← hd];simp [List.filterMap_map]
  rfl
 ·have key:∀ (l:List Oper) (k:Nat),(∀ j o,l[j]?=some o→ops[k + j]?=some o) →
    EachOp (fun i o => ∀ (T:Nat→Value) (W:World),Below wx.heap.size wx W→(i=pi→P0 W (T d0))→AllU Fs us i ds T W (waits .any o) →
     ∀ K:Act→World→Prop,(∀ v W',StepQ us qi i wx W W'→(Fs.getD i fun _ _ => True) W' ((o.dst.map fun _ => v).getD undef)→K (({ a with tmps:=ovr a.tmps T dl }:Act).put o.dst v) W') →
      wpOp P ops Q i K { a with tmps:=ovr a.tmps T dl } W) k l →
    EachOp (fun i o => ∀ (L:Nat→Prop) (T:Nat→Value) (w:World),AllL L (waits .any o)→¬ L i→(Below wx.heap.size wx w∧(¬ L pi→P0 w (T d0))∧(∀ k,k < ops.size→L k→∀ d∈waitsAt ops k,L d)∧∀ k,k < ops.size→L k→(∀ u,us.getD k none=some u→u < ops.size→¬ L u)→(Fs.getD k fun _ _ => True) w (dv ds T k)) →
     ∀ K:Act→World→Prop,(∀ v w',(Below wx.heap.size wx w'∧(¬ (pi=i∨L pi)→P0 w' (updO T o.dst v d0))∧(∀ k,k < ops.size→(k=i∨L k)→∀ d∈waitsAt ops k,(d=i∨L d))∧∀ k,k < ops.size→(k=i∨L k)→(∀ u,us.getD k none=some u→u < ops.size→¬ (u=i∨L u))→(Fs.getD k fun _ _ => True) w' (dv ds (updO T o.dst v) k))→K (({ a with tmps:=ovr a.tmps T dl }:Act).put o.dst v) w') →
      wpOp P ops Q i K { a with tmps:=ovr a.tmps T dl } w) k l:=by
   intro l
   induction l with
   | nil => intro k _ _; trivial
   | cons o r ih =>
    intro k hin h;refine ⟨?_,ih (k + 1) (fun j o' ho => by have:=hin (j + 1) o' (by simpa using ho); rw [show k + 1 + j=k + (j + 1) by omega]; exact this) h.2⟩;rintro L T W hL hn ⟨hb,hp,hcl,hJ⟩ K hK;have hko:ops[k]?=some o:=by simpa using hin 0 o rfl
    obtain ⟨hkl,hkd⟩:=hdst k o hko;have hks:k < ops.size:=hkl;have hall:=AllL.all hL;refine h.1 T W hb (fun e => hp (e ▸ hn)) (AllU.mem fun d hdw hu => hJ d (Nat.lt_trans (topo_lt ht hko hdw) hks) (hall d hdw) fun u hu' _ hLu => ?_) K fun v W' hst hv => hK v W' ⟨hst.1,?_,?_,?_⟩
    ·rcases hu with hu | hu
     ·rw [hu] at hu'; cases hu'
     ·rw [hu] at hu'; cases hu'; exact hn hLu
    ·intro hnp;have hP:=hp fun h => hnp (.inr h)
     by_cases hbg:bigQ us qi k=true∨ds.getD k none=some d0
     ·exfalso
      obtain ⟨j,hjl,hj,hjp⟩:=hpre k hks hbg fun e => hnp (.inl e.symm)
      rw [hwt _ _ hko] at hj;have hLj:=hall j hj;rcases hjp with rfl | hjp
      ·exact hnp (.inr hLj)
      ·exact hnp (.inr (hcl j hjl hLj pi hjp))
     ·have h1:bigQ us qi k=false:=by
       cases hbb:bigQ us qi k with
       | false => rfl
       | true => exact absurd (.inl hbb) hbg
      have hval:updO T o.dst v d0=T d0:=by
       cases hdo:o.dst with
       | none => rfl
       | some d' =>
        have hne:d0 ≠ d':=fun e => hbg (.inr (by rw [← hkd,hdo,e]))
        simp [updO,upd,hne]
      rw [hval];exact hPS _ _ _ hP (hst.2 h1)
    ·rintro j hj (rfl | hLj) d hd
     ·rw [hwt _ _ hko] at hd; exact .inr (hall d hd)
     ·exact .inr (hcl j hj hLj d hd)
    ·rintro j hj hLj halive
     by_cases hjk:j=k
     ·subst hjk;have:dv ds (updO T o.dst v) j=(o.dst.map fun _ => v).getD undef:=by
       unfold dv;rw [← hkd]
       cases hdo:o.dst with
       | none => rfl
       | some d => simp [updO,upd]
      rw [this]; exact hv
     ·have hLj:L j:=hLj.resolve_left hjk;have hval:dv ds (updO T o.dst v) j=dv ds T j:=by
       unfold dv
       cases hdj:ds.getD j none with
       | none => rfl
       | some d =>
        cases hdo:o.dst with
        | none => rfl
        | some d' =>
         have hne:d ≠ d':=fun e => by
          rw [hdo] at hkd;exact hjk (nodup_some hnd' hdj (by rw [← hkd,e]))
         simp [updO,upd,hne]
      rw [hval];have hF:=hJ j hj hLj fun u hu hul hLu => halive u hu hul (.inr hLu)
      cases hbig:bigQ us qi k with
      | false => exact AllS.get j hS _ _ _ hF (hst.2 hbig)
      | true =>
       have hnu:us.getD j none ≠ some k:=fun e => halive k e hks (.inl rfl)
       rcases huse k j hks hj hbig hjk hnu with hc | hc | ⟨u,hu,hc⟩
       ·exact AllK.get j hC hc _ _ _ hF
       ·exact absurd (hcl j hj hLj k hc) hn
       ·rw [hwt _ _ hko] at hc;exact absurd (.inr (hall u hc)) (halive u hu (Nat.lt_trans (topo_lt ht hko hc) hks))
  exact key ops.toList 0 (fun j o ho => by simpa using ho) hs
 ·rintro T W ⟨hb,_,_,hJ⟩;refine he T W hb (AllU.mem fun k hk hu => hJ k (by simpa using hk) (by simpa using hk) fun u hu' hul _ => ?_);rcases hu with hu | hu
  ·rw [hu] at hu'; cases hu'
  ·rw [hu] at hu'; cases hu'; omega
 ·rintro L T W hL ⟨hb,hp,hcl,hJ⟩;refine ⟨hb,fun h => ?_,fun k hk _ d hd => ?_,fun k hk _ hal => hJ k hk (hL k hk) fun u hu hul _ => hal u hu hul hul⟩
  ·exact absurd hpi h
  obtain ⟨o,ho⟩:∃ o,ops[k]?=some o:=⟨ops[k],Array.getElem?_eq_getElem hk⟩;rw [hwt k o ho] at hd;exact Nat.lt_trans (topo_lt ht ho hd) hk
end
theorem Kept.of_grown {w w':World} {row:Option Nat} (h:w.grownBy w' row):Kept (fun k => row=some k) w w' :=
 ⟨h.os,h.tape,h.output,h.size,fun k hk hg => h.block k hk fun e => hg e.symm⟩
structure Grw (W W':World) (v v':Value):Prop where
 grown:W.grownBy W' v.ownBlock
 noi:NoI W v
 new:v'.ownBlock=v.ownBlock∨v'.ownBlock=some W.heap.size
theorem Grw.kept {W W':World} {v v':Value} (h:Grw W W' v v'):Kept (fun k => v.ownBlock=some k) W W':=.of_grown h.grown
theorem Grw.noG {W W':World} {v v':Value} (h:Grw W W' v v'):NoG (fun k => v.ownBlock=some k) W:=fun g hg cur t fr hc => h.noi g hg cur t fr hc
def Sep (u v:Value):Prop:=∀ b,u.ownBlock=some b→v.ownBlock ≠ some b
theorem Sep.symm {u v:Value} (h:Sep u v):Sep v u:=fun b hv hu => h b hu hv
theorem Sep.grw {W W':World} {u v v':Value} (h:Sep u v) (hu:∀ b,u.ownBlock=some b→b < W.heap.size) (g:Grw W W' v v'):Sep u v':=by
 intro b hb;rcases g.new with e | e
 ·rw [e]; exact h b hb
 ·rw [e]; intro e2;have:=hu b hb;simp only [Option.some.injEq] at e2;omega
theorem sep_nil (v:Value):Sep (.slice none 0 0) v:=fun b h => by simp [Value.ownBlock] at h
def SepR (W:World) (xs:List Value) (v:Value):Prop:=∀ x∈xs,(∀ b,x.ownBlock=some b→b < W.heap.size)∧Sep x v
theorem SepR.nil (W:World) (v:Value):SepR W [] v:=fun x h => by simp at h
theorem SepR.mono {W W':World} {xs:List Value} {v:Value} (h:SepR W xs v) (hs:W.heap.size≤W'.heap.size):SepR W' xs v :=
 fun x hx => ⟨fun b hb => Nat.lt_of_lt_of_le ((h x hx).1 b hb) hs,(h x hx).2⟩
theorem SepR.grw {W W':World} {xs:List Value} {v v':Value} (h:SepR W xs v) (g:Grw W W' v v'):SepR W' xs v' :=
 fun x hx => ⟨fun b hb => Nat.lt_of_lt_of_le ((h x hx).1 b hb) g.grown.size,(h x hx).2.grw (h x hx).1 g⟩
theorem SepR.snoc {W:World} {xs:List Value} {v x:Value} (h:SepR W xs v) (hx:∀ b,x.ownBlock=some b→b < W.heap.size) (hs:Sep x v):SepR W (xs ++ [x]) v:=by
 intro y hy;rcases List.mem_append.1 hy with hy | hy
 ·exact h y hy
 ·simp at hy; subst hy; exact ⟨hx,hs⟩
theorem ownsRow_kept {G:Nat→Prop} {w w':World} {B e size n:Nat} {v:Value} {xs:List Value} (h:w.ownsRow B e size v n xs) (hk:Kept G w w') (hv:∀ b,v.ownBlock=some b→¬ G b):w'.ownsRow B e size v n xs:=by
 refine ⟨h.1,h.2.imp id ?_⟩;rintro ⟨g,cap,cur,rfl,hB,hg,r⟩;exact ⟨g,cap,cur,rfl,hB,hk.heap hg (hv g rfl),r⟩
theorem NoI.kept {G:Nat→Prop} {w w':World} {B e size n:Nat} {v:Value} {xs:List Value} (hn:NoI w v) (h:w.ownsRow B e size v n xs) (hk:Kept G w w') (hv:∀ b,v.ownBlock=some b→¬ G b):NoI w' v:=by
 intro g hg cur t fr hc;have hlt:=(h.lt g hg).2;exact hn g hg cur t fr ((hk.block g hlt (hv g hg)).symm.trans hc)
theorem OwnO.kept {G:Nat→Prop} {w w':World} {B:Nat} {v:Value} {l:List Qo} (h:OwnO w B v l) (hk:Kept G w w') (hp:NoG G w) (hv:∀ b,v.ownBlock=some b→¬ G b):OwnO w' B v l:=by
 obtain ⟨xs,h1,h2,h3⟩:=h;exact ⟨xs,ownsRow_kept h1 hk hv,h2.kept h1 hk hv,fun i o hi => (h3 i o hi).kept hk hp⟩
theorem OwnO.lt {w:World} {B:Nat} {v:Value} {l:List Qo} (h:OwnO w B v l):∀ b,v.ownBlock=some b→B≤b∧b < w.heap.size:=by
 obtain ⟨xs,h1,_⟩:=h;exact h1.lt
def OwnR (w:World) (B:Nat) (v:Value) (xs:List Value):Prop:=OwnS w B v xs∧NoI w v
theorem OwnR.nil (w:World) (B:Nat):OwnR w B (.slice none 0 0) []:=⟨World.ownsRow_nil _ _ _ _,fun g hg => by simp [Value.ownBlock] at hg⟩
theorem OwnR.kept {G:Nat→Prop} {w w':World} {B:Nat} {v:Value} {xs:List Value} (h:OwnR w B v xs) (hk:Kept G w w') (hv:∀ b,v.ownBlock=some b→¬ G b):OwnR w' B v xs :=
 ⟨ownsRow_kept h.1 hk hv,h.2.kept h.1 hk hv⟩
theorem OwnR.lt {w:World} {B:Nat} {v:Value} {xs:List Value} (h:OwnR w B v xs):∀ b,v.ownBlock=some b→B≤b∧b < w.heap.size:=World.ownsRow.lt h.1
theorem RowsOf.kept {G:Nat→Prop} {w w':World} {xs:List Value} {rows:List (List Qo)} (h:RowsOf w xs rows) (hk:Kept G w w') (hp:NoG G w) (hv:∀ x∈xs,∀ b,x.ownBlock=some b→¬ G b):RowsOf w' xs rows:=by
 refine ⟨h.1,fun i row hi => ?_⟩;obtain ⟨ar,cr,e,hq⟩:=h.2 i row hi;refine ⟨ar,cr,e,hq.kept hk hp ?_⟩;rintro a rfl;exact hv _ (List.mem_of_getElem? e) a.block rfl
theorem RowsOf.snoc {w:World} {xs:List Value} {rows:List (List Qo)} {a:List Qo} {aa:Option Addr} {ca:Nat} (h:RowsOf w xs rows) (ha:UQ w aa a) :
  RowsOf w (xs ++ [.slice aa a.length ca]) (rows ++ [a]):=by
 refine ⟨by simp [h.1],fun i row hi => ?_⟩;rcases Nat.lt_or_ge i rows.length with hl | hl
 ·rw [List.getElem?_append_left hl] at hi;obtain ⟨ar,cr,e,hq⟩:=h.2 i row hi;exact ⟨ar,cr,by rw [List.getElem?_append_left (by rw [h.1]; exact hl)]; exact e,hq⟩
 ·rw [List.getElem?_append_right hl] at hi;have hx:=h.1
  match hj:i - rows.length,hi with
  | 0,hi =>
   simp at hi; subst hi;exact ⟨aa,ca,by rw [List.getElem?_append_right (by omega),show i - xs.length=0 by omega]; rfl,ha⟩
  | j + 1,hi => simp at hi
theorem run_app_r (w W:World) (ty:TypeId) (B:Nat) (v:Value) (xs:List Value) (ar:Option Addr) (n cr bx c:Nat) (hown:OwnR w B v xs) (hB:B≤w.heap.size) (hb:Below B W w)
  (hc:w.cell? ⟨bx,0,none⟩=some (.slice ar n cr)) (hl:xs.length≤1000000) :
  ∃ v' w',(Builtin.append_ #[26,26] ty #[v,.slice (some ⟨bx,0,none⟩) 1 c]).run Tryz.prog w=.ok v' w'∧OwnR w' B v' (xs ++ [.slice ar n cr])∧Below B W w'∧Grw w w' v v':=by
 obtain ⟨i0,hi,hz0,hz1,hz2⟩:=info_parts Tryz.info27;have hn:∀ (j:Nat) (u:Value),[Value.slice ar n cr][j]?=some u→w.cell? ((⟨bx,0,none⟩:Addr).add j)=some u:=by
  intro j u hj
  match j,hj with
  | 0,hj => simp at hj; subst hj; simpa [Addr.add] using hc
  | j + 1,hj => simp at hj
 have h1:∀ u∈[Value.slice ar n cr],u.oneCell'=true:=by intro u hu; simp at hu; subst hu; rfl
 obtain ⟨v',w',hr,h3,h4,h5⟩:=run_append_noI (P:=Tryz.prog) w B 26 ty 27 i0 (.slice none 0 0) Tryz.underlying26 hi hz0 (by rw [hz1]; rfl) (by rw [hz1]; decide) v xs.length xs (by rw [hz1]; exact hown.1) hown.2 ⟨bx,0,none⟩ 1 c [.slice ar n cr] (by rw [hz1]; rfl) hn h1 (by unfold maxLen; omega) (by rw [hz2]; omega) hB (by omega)
  (by intro u hu k z e; simp [Value.cells] at hu; subst hu; cases e) (by intro u hu k z e; simp at hu; subst hu; cases e)
 obtain ⟨v2,w2,hr2,_,_,_,hat⟩:=run_append_own_at (P:=Tryz.prog) w B 26 ty 27 i0 (.slice none 0 0) i0.size i0.bytes Tryz.underlying26 hi hz0 rfl rfl (by rw [hz1]; rfl) (by rw [hz1]; decide) v xs.length xs (by rw [hz1]; exact hown.1) ⟨bx,0,none⟩ 1 c [.slice ar n cr] (by rw [hz1]; rfl) hn h1 (by unfold maxLen; omega) (by rw [hz2]; omega) hB;have he:=hr.symm.trans hr2;simp only [Result.ok.injEq] at he;obtain ⟨rfl,rfl⟩:=he;refine ⟨v',w',hr,⟨?_,h5⟩,hb.grown h4 hB fun k hk => (hown.1.lt k hk).1,⟨h4,hown.2,hat⟩⟩;unfold OwnS;rw [List.length_append]; rw [hz1] at h3; exact h3
theorem run_app_o (w W:World) (ty:TypeId) (B:Nat) (v:Value) (l:List Qo) (o:Qo) (ao:Option Addr) (c:Nat) (hown:OwnO w B v l) (hB:B≤w.heap.size) (hb:Below B W w) (hm:UQ w ao [o]) (hl:l.length≤100000) :
  ∃ v' w',(Builtin.append_ #[27,27] ty #[v,.slice ao 1 c]).run Tryz.prog w=.ok v' w'∧OwnO w' B v' (l ++ [o])∧Below B W w'∧Grw w w' v v':=by
 obtain ⟨v',w',hr,h1,h2,h3,h4⟩:=run_app_os w W ty B v l [o] ao c hown hB hb hm (by simp) (by simp; omega);obtain ⟨xs,hrow,hno,hel⟩:=hown;obtain ⟨b,off,m1,b1,k1,d1,m2,b2,k2,d2,rfl,hf,hq⟩:=hm 0 o rfl;obtain ⟨i0,hi,hz0,hz1,hz2⟩:=info_parts Tryz.info34;have hn:∀ (j:Nat) (u:Value),[Value.bool m1,.slice b1 k1 d1,.bool m2,.slice b2 k2 d2][j]?=some u→w.cell? ((⟨b,off,none⟩:Addr).add j)=some u:=by
  intro j u hj;have ha:∀ j,(⟨b,off,none⟩:Addr).add j=⟨b,off + j,none⟩:=by
   intro j; unfold Addr.add; split
   ·subst j; rfl
   ·rfl
  rw [ha]
  match j,hj with
  | 0,hj => simp at hj; subst hj; exact hf.c0
  | 1,hj => simp at hj; subst hj; exact hf.c1
  | 2,hj => simp at hj; subst hj; exact hf.c2
  | 3,hj => simp at hj; subst hj; exact hf.c3
  | j + 4,hj => simp at hj
 obtain ⟨v2,w2,hr2,_,_,_,hat⟩:=run_append_own_at (P:=Tryz.prog) w B 27 ty 34 i0 (.agg #[.bool false,.slice none 0 0,.bool false,.slice none 0 0]) i0.size i0.bytes Tryz.underlying27 hi hz0 rfl rfl (by rw [hz1]; rfl) (by rw [hz1]; decide) v l.length xs (by rw [hz1]; exact hrow) ⟨b,off,none⟩ 1 c [.bool m1,.slice b1 k1 d1,.bool m2,.slice b2 k2 d2] (by rw [hz1]; rfl) hn (by intro u hu; simp at hu; rcases hu with rfl | rfl | rfl | rfl <;> rfl) (by unfold maxLen; omega) (by rw [hz2]; omega) hB;have he:=hr.symm.trans hr2;simp only [Result.ok.injEq] at he;obtain ⟨rfl,rfl⟩:=he;exact ⟨v',w',hr,h1,h2,⟨h4,hno,hat⟩⟩
def LowR (B:Nat) (xs:List Value):Prop:=∀ x∈xs,∀ b,x.ownBlock=some b→B≤b
theorem LowR.snoc {B:Nat} {xs:List Value} {x:Value} (h:LowR B xs) (hx:∀ b,x.ownBlock=some b→B≤b):LowR B (xs ++ [x]):=by
 intro y hy;rcases List.mem_append.1 hy with hy | hy
 ·exact h y hy
 ·simp at hy; subst hy; exact hx
section
variable {W W' : World} {B : Nat} {vA vB vC : Value} {rows : List (List Qo)} {lb lc : List Qo}
end
def UK (k:IntKind) (w:World) (ao:Option Addr) (l:List Int):Prop:=∀ i z,l[i]?=some z→∃ b off,ao=some ⟨b,off,none⟩∧w.cell? ⟨b,off + i,none⟩=some (.int k z)
theorem UK.mono {k:IntKind} {w w':World} {ao:Option Addr} {l:List Int} (h:UK k w ao l) (hb:Below w.heap.size w w'):UK k w' ao l:=by
 intro i s hi;obtain ⟨b,off,e,hc⟩:=h i s hi;exact ⟨b,off,e,(hb.cell (cell_lt hc)).trans hc⟩
def UR (w:World) (ao:Option Addr) (rows:List (List Int)):Prop:=∀ i row,rows[i]?=some row→∃ b off ar cr,ao=some ⟨b,off,none⟩∧w.cell? ⟨b,off + i,none⟩=some (.slice ar row.length cr)∧UK .i8 w ar row
theorem UR.mono {w w':World} {ao:Option Addr} {rows:List (List Int)} (h:UR w ao rows) (hb:Below w.heap.size w w'):UR w' ao rows:=by
 intro i row hi;obtain ⟨b,off,ar,cr,e,hc,hk⟩:=h i row hi;exact ⟨b,off,ar,cr,e,(hb.cell (cell_lt hc)).trans hc,hk.mono hb⟩
theorem Below.put3 {B:Nat} {w w':World} {n:Nat} (h:Below B w w') (hn:B≤n) (x0 x1 x2:Value):Below B w (((w'.setCell ⟨n,0,none⟩ x0).setCell ⟨n,1,none⟩ x1).setCell ⟨n,2,none⟩ x2) :=
 ((h.setCell hn _).setCell hn _).setCell hn _
def elA (A:List (List Int)) (i k:Nat):Int:=(A.getD i []).getD k 0
theorem range_snoc {α:Type} (f:Nat→α) (k:Nat):(List.range (k + 1)).map f=(List.range k).map f ++ [f k]:=by rw [List.range_succ]; simp
theorem noInt_slice (a:Option Addr) (n c:Nat):NoInt (.slice a n c):=fun k z e => by cases e
theorem own_slice {w:World} {B e s n:Nat} {v:Value} {xs:List Value} (h:w.ownsRow B e s v n xs):∃ a n c,v=.slice a n c:=by
 rcases h.2 with ⟨h,_⟩ | ⟨_,_,_,h,_⟩
 ·exact ⟨_,_,_,h⟩
 ·exact ⟨_,_,_,h⟩
theorem Row.grw {W W':World} {g:Nat} {E:TypeId} {xs:List Value} {v v':Value} (h:Row W g E xs) (gr:Grw W W' v v') (hv:∀ b,v.ownBlock=some b→g + 1≤b):Row W' g E xs :=
 h.mono gr.kept fun e => by have:=hv g e; omega
section
variable {ops : Array Oper} {rest : List Oper} {o : Oper} {a : Act} {Q : Exit → Act → World → Prop}
theorem uq_one {w:World} {n1:Bool} {a1:Option Addr} {l1 c1:Nat} {n2:Bool} {a2:Option Addr} {l2 c2:Nat} {q:Rat} (hr:RatV w (.agg #[.bool n1,.slice a1 l1 c1,.bool n2,.slice a2 l2 c2]) q) :
  UQ (w.alloc (.cells #[.bool n1,.slice a1 l1 c1,.bool n2,.slice a2 l2 c2] 34)) (some ⟨w.heap.size,0,none⟩) [some q]:=by
 have r:Row (w.alloc (.cells #[.bool n1,.slice a1 l1 c1,.bool n2,.slice a2 l2 c2] 34)) w.heap.size 34 [.bool n1,.slice a1 l1 c1,.bool n2,.slice a2 l2 c2]:=heap_alloc_new _ _;intro i o hi
 match i,hi with
 | 0,hi =>
  simp at hi; subst hi;exact ⟨_,0,n1,a1,l1,c1,n2,a2,l2,c2,rfl,⟨r.n4.1,r.n4.2.1,r.n4.2.2.1,r.n4.2.2.2,trivial,trivial,trivial,trivial⟩,hr.mono (bA _ _)⟩
 | i + 1,hi => simp at hi
theorem app_o1 (w W:World) {n1:Bool} {a1:Option Addr} {l1 c1:Nat} {n2:Bool} {a2:Option Addr} {l2 c2:Nat} {q:Rat} (hgd:o.guard=none) (s x:Operand) (ho:o.op=.call { callee:=.builtin .append,args:=#[s,x],argTypes:=#[27,27] })
  (B:Nat) (v:Value) (l:List Qo) (hs:a.eval s=v) (hown:OwnO w B v l) (hB:B≤w.heap.size) (hb:Below B W w) (hr:RatV w (.agg #[.bool n1,.slice a1 l1 c1,.bool n2,.slice a2 l2 c2]) q)
  (hx:a.eval x=.slice (some ⟨w.heap.size,0,none⟩) 1 1) (hl:l.length≤100000)
  (hK:∀ v' w',OwnO w' B v' (l ++ [some q])→Below B W w'→wpList Tryz.prog ops Q rest (a.put o.dst v') w') :
  wpList Tryz.prog ops Q (o :: rest) a (w.alloc (.cells #[.bool n1,.slice a1 l1 c1,.bool n2,.slice a2 l2 c2] 34)):=by
 have hba:=bA w (.cells #[.bool n1,.slice a1 l1 c1,.bool n2,.slice a2 l2 c2] 34);have hsz:=hba.size;obtain ⟨v',w',hr',h1,h2,_⟩:=run_app_o _ W o.type B v l (some q) _ 1 (hown.mono hba) (by omega) (hb.alloc hB _) (uq_one hr) hl;refine wpList_plain hgd fun K hK' => ?_
 unfold Oper.wp;simp [execOp,ho,resolve,invoke,builtin,hs,hx,hr',Result.andThen];exact hK' _ _ (hK v' w' h1 h2)
end
section
variable {P : Program} {ops : Array Oper} {Q : Exit → Act → World → Prop}
def StayK (G:Nat→Prop) (F:World→Value→Prop):Prop:=∀ (W W':World) (v:Value),F W v→Kept G W W'→F W' v
theorem stayK_val (G:Nat→Prop) (u:Value):StayK G (fun _ v => v=u):=fun _ _ _ h _ => h
def AllSK (G:Nat→Prop):List (World→Value→Prop)→Prop
 | [] => True
 | F :: r => StayK G F∧AllSK G r
theorem AllSK.get {G:Nat→Prop}:∀ {l:List (World→Value→Prop)} (k:Nat),AllSK G l→StayK G (l.getD k fun _ _ => True)
 | [],_,_ => fun _ _ _ _ _ => trivial
 | _ :: _,0,h => h.1
 | _ :: r,k + 1,h => AllSK.get (l:=r) k h.2
def AllF (Fs:List (World→Value→Prop)) (ds:List (Option Nat)) (T:Nat→Value) (W:World):List Nat→Prop
 | [] => True
 | k :: r => (Fs.getD k fun _ _ => True) W (dv ds T k)∧AllF Fs ds T W r
theorem AllF.mem {Fs:List (World→Value→Prop)} {ds:List (Option Nat)} {T:Nat→Value} {W:World}:∀ {l:List Nat},(∀ k∈l,(Fs.getD k fun _ _ => True) W (dv ds T k))→AllF Fs ds T W l
 | [],_ => trivial
 | k :: r,h => ⟨h k (by simp),AllF.mem fun x hx => h x (by simp [hx])⟩
theorem AllF.at {Fs:List (World→Value→Prop)} {ds:List (Option Nat)} {T:Nat→Value} {W:World}:∀ {l:List Nat} (k:Nat),AllF Fs ds T W l→k∈l→(Fs.getD k fun _ _ => True) W (dv ds T k)
 | [],_,_,h => by simp at h
 | x :: r,k,h,hk => by
  rcases List.mem_cons.1 hk with rfl | hk
  ·exact h.1
  ·exact AllF.at k h.2 hk
theorem wp_region_put {id:Nat} {a:Act} {w wx:World} (G:Nat→Prop) (Fs:List (World→Value→Prop)) (ds:List (Option Nat)) (dl:List Nat) (si:Nat) (P0 R:World→Prop) (hsi:si < ops.size)
  (hm:P.follows .mixedOrders=true) (ht:topo .any ops=true) (hd:ops.toList.map (·.dst)=ds) (hdl:ds.filterMap (fun x => x)=dl) (hnd:dl.Nodup) (hP0:P0 w.drew) (hPS:∀ W W',P0 W→Below W.heap.size W W'→P0 W') (hRS:∀ W W',R W→Below W.heap.size W W'→R W')
  (hw:Kept G wx w) (hS:AllSK G Fs)
  (hs:EachOp (fun i o => ∀ (T:Nat→Value) (W:World),Kept G wx W→(i=si∨i∈waitsAt ops si→P0 W)→AllF Fs ds T W (waits .any o) →
   ∀ K:Act→World→Prop,(∀ v W',((i ≠ si→Below W.heap.size W W')∧(i=si→R W')∧Kept G W W')→(Fs.getD i fun _ _ => True) W' ((o.dst.map fun _ => v).getD undef)→K (({ a with tmps:=ovr a.tmps T dl }:Act).put o.dst v) W') →
    wpOp P ops Q i K { a with tmps:=ovr a.tmps T dl } W) 0 ops.toList)
  (he:∀ T W,Kept G wx W→R W→AllF Fs ds T W (List.range ops.size)→Q .normal { a with tmps:=ovr a.tmps T dl } W):(Code.region id ops true).wp P Q a w:=by
 have hnd':(ds.filterMap _root_.id).Nodup:=by
  have:ds.filterMap _root_.id=dl:=hdl;rw [this]; exact hnd
 have hdst:∀ (i:Nat) (o:Oper),ops[i]?=some o→i < ops.size∧o.dst=ds.getD i none:=by
  intro i o ho;have hi:i < ops.size:=(Array.getElem?_eq_some_iff.1 ho).1;refine ⟨hi,?_⟩;have h1:(ops.toList.map (·.dst))[i]?=some o.dst:=by simp [ho]
  rw [hd] at h1;rw [List.getD_eq_getElem?_getD,h1]; rfl
 have hwt:∀ k o,ops[k]?=some o→waitsAt ops k=waits .any o:=by
  intro k o ho; unfold waitsAt; rw [ho]; rfl
 refine wp_region_flow0 (fun L T W => Kept G wx W∧(¬ L si→P0 W)∧(L si→R W)∧(∀ k,k < ops.size→L k→∀ d∈waitsAt ops k,L d)∧∀ k,k < ops.size→L k→(Fs.getD k fun _ _ => True) W (dv ds T k)) dl hm ht ?_ ⟨hw.drew,fun _ => hP0,fun h => h.elim,fun k _ h => h.elim,fun k _ h => h.elim⟩ ?_ ?_ ?_
 ·unfold dsts;rw [← hdl,← hd];simp [List.filterMap_map]
  rfl
 ·have key:∀ (l:List Oper) (k:Nat),(∀ j o,l[j]?=some o→ops[k + j]?=some o) →
    EachOp (fun i o => ∀ (T:Nat→Value) (W:World),Kept G wx W→(i=si∨i∈waitsAt ops si→P0 W)→AllF Fs ds T W (waits .any o) →
     ∀ K:Act→World→Prop,(∀ v W',((i ≠ si→Below W.heap.size W W')∧(i=si→R W')∧Kept G W W')→(Fs.getD i fun _ _ => True) W' ((o.dst.map fun _ => v).getD undef)→K (({ a with tmps:=ovr a.tmps T dl }:Act).put o.dst v) W') →
      wpOp P ops Q i K { a with tmps:=ovr a.tmps T dl } W) k l →
    EachOp (fun i o => ∀ (L:Nat→Prop) (T:Nat→Value) (w:World),AllL L (waits .any o)→¬ L i→(Kept G wx w∧(¬ L si→P0 w)∧(L si→R w)∧(∀ k,k < ops.size→L k→∀ d∈waitsAt ops k,L d)∧∀ k,k < ops.size→L k→(Fs.getD k fun _ _ => True) w (dv ds T k)) →
     ∀ K:Act→World→Prop,(∀ v w',(Kept G wx w'∧(¬ (si=i∨L si)→P0 w')∧((si=i∨L si)→R w')∧(∀ k,k < ops.size→(k=i∨L k)→∀ d∈waitsAt ops k,(d=i∨L d))∧∀ k,k < ops.size→(k=i∨L k)→(Fs.getD k fun _ _ => True) w' (dv ds (updO T o.dst v) k))→K (({ a with tmps:=ovr a.tmps T dl }:Act).put o.dst v) w') →
      wpOp P ops Q i K { a with tmps:=ovr a.tmps T dl } w) k l:=by
   intro l
   induction l with
   | nil => intro k _ _; trivial
   | cons o r ih =>
    intro k hin h;refine ⟨?_,ih (k + 1) (fun j o' ho => by have:=hin (j + 1) o' (by simpa using ho); rw [show k + 1 + j=k + (j + 1) by omega]; exact this) h.2⟩;rintro L T W hL hn ⟨hb,hp,hr,hcl,hJ⟩ K hK;have hko:ops[k]?=some o:=by simpa using hin 0 o rfl
    obtain ⟨hkl,hkd⟩:=hdst k o hko;have hks:k < ops.size:=hkl;have hall:=AllL.all hL;have hnsi:k=si∨k∈waitsAt ops si→¬ L si:=by
     rintro (rfl | hk) hl
     ·exact hn hl
     ·exact hn (hcl si hsi hl k hk)
    refine h.1 T W hb (fun e => hp (hnsi e)) (AllF.mem fun d hdw => hJ d (Nat.lt_trans (topo_lt ht hko hdw) hks) (hall d hdw)) K fun v W' hst hv => hK v W' ⟨hb.trans hst.2.2,?_,?_,?_,?_⟩
    ·intro hnp;exact hPS _ _ (hp fun h => hnp (.inr h)) (hst.1 fun e => hnp (.inl e.symm))
    ·rintro (e | hl)
     ·exact hst.2.1 e.symm
     ·by_cases e:k=si
      ·exact hst.2.1 e
      ·exact hRS _ _ (hr hl) (hst.1 e)
    ·rintro j hj (rfl | hLj) d hd
     ·rw [hwt _ _ hko] at hd; exact .inr (hall d hd)
     ·exact .inr (hcl j hj hLj d hd)
    ·rintro j hj hLj
     by_cases hjk:j=k
     ·subst hjk;have:dv ds (updO T o.dst v) j=(o.dst.map fun _ => v).getD undef:=by
       unfold dv;rw [← hkd]
       cases hdo:o.dst with
       | none => rfl
       | some d => simp [updO,upd]
      rw [this]; exact hv
     ·have hLj:L j:=hLj.resolve_left hjk;have hval:dv ds (updO T o.dst v) j=dv ds T j:=by
       unfold dv
       cases hdj:ds.getD j none with
       | none => rfl
       | some d =>
        cases hdo:o.dst with
        | none => rfl
        | some d' =>
         have hne:d ≠ d':=fun e => by
          rw [hdo] at hkd;exact hjk (nodup_some hnd' hdj (by rw [← hkd,e]))
         simp [updO,upd,hne]
      rw [hval];exact AllSK.get j hS _ _ _ (hJ j hj hLj) hst.2.2
  exact key ops.toList 0 (fun j o ho => by simpa using ho) hs
 ·rintro T W ⟨hb,_,hr,_,hJ⟩;exact he T W hb (hr hsi) (AllF.mem fun k hk => hJ k (by simpa using hk) (by simpa using hk))
 ·rintro L T W hL ⟨hb,hp,hr,hcl,hJ⟩;refine ⟨hb,fun h => absurd hsi h,fun _ => hr (hL si hsi),fun k hk _ d hd => ?_,fun k hk _ => hJ k hk (hL k hk)⟩;obtain ⟨o,ho⟩:∃ o,ops[k]?=some o:=⟨ops[k],Array.getElem?_eq_getElem hk⟩;rw [hwt k o ho] at hd;exact Nat.lt_trans (topo_lt ht ho hd) hk
end
def RK (G:Nat→Prop) (r:Rat) (W:World) (v:Value):Prop:=∀ W',Kept G W W'→RatV W' v r
theorem RK.stay {G:Nat→Prop} {r:Rat}:StayK G (RK G r):=fun W W' v h hk W'' hk' => h W'' (hk.trans hk')
theorem RK.rat {G:Nat→Prop} {r:Rat} {W:World} {v:Value} (h:RK G r W v):RatV W v r:=h W (Kept.refl W)
theorem RK.at {G:Nat→Prop} {r:Rat} {W W':World} {v:Value} (h:RK G r W v) (hk:Kept G W W'):RatV W' v r:=h W' hk
theorem RatV.rk {G:Nat→Prop} {r:Rat} {W:World} {v:Value} (h:RatV W v r) (hn:NoG G W):RK G r W v:=fun W' hk => h.kept hk hn
theorem rOf14_ok (n d:Int) (w:World) (hn1:-9223372036854775808≤n) (hn2:n≤9223372036854775807) (hd1:-9223372036854775808≤d) (hd2:d≤9223372036854775807) (hd:Hid (d ≠ 0)) (hE:Env w) :
  Calls Tryz.prog 97 #[.int .i64 n,.int .i64 d] w fun e w' => GotQ w' (Rat.divInt n d) e∧Below w.heap.size w w':=by
 have hbw:=Below.refl w.heap.size w;go_enter Tryz.func97,Tryz.ntmps97;go_upto_region 1 with fail;have X3:=Box4.new w (.bool false) (.slice none 0 0) (.bool false) (.slice none 0 0) 34;have hb:=bA w (.cells #[.bool false,.slice none 0 0,.bool false,.slice none 0 0] 34);generalize w.alloc (.cells #[.bool false,.slice none 0 0,.bool false,.slice none 0 0] 34)=v1 at *;have hE:=hE.mono hb;have hbw:=bu hbw hb;clear hb;go_wp2_with fail;(with_reducible refine (rof_any n hn1 hn2 v1 hE).mono ?_);rintro e v2 ⟨⟨ng1,ao1,n1,cap1,rfl,HV1⟩,hb⟩;have X3:=X3.mono hb;have hE:=hE.mono hb;have hbw:=bu hbw hb;clear hb;go_wp2_with fail;(with_reducible refine (rof_any d hd1 hd2 v2 hE).mono ?_);rintro e v3 ⟨⟨ng2,ao2,n2,cap2,rfl,HV2⟩,hb⟩;have X3:=X3.mono hb;have HV1:=hii (HV1.out.mono hb);have hE:=hE.mono hb;have hbw:=bu hbw hb;clear hb;go_wp2_with fail;(with_reducible refine (rMake_ok _ _ n d v3 HV1.out HV2.out hd hE).mono ?_);rintro e v4 ⟨⟨ng3,ao3,n3,cap3,ng4,ao4,n4,cap4,rfl,HV3,HV4⟩,hb⟩;have X3:=X3.mono hb;have hbw:=bu hbw hb;clear hb;obtain ⟨x3a,x3b,x3c,x3d,_,_,_,_⟩:=id X3;go_wp2;refine bodyPost_ret (v:=.tuple #[.agg #[.bool ng3,.slice ao3 n3 cap3,.bool ng4,.slice ao4 n4 cap4],.int .i64 0]) (by simp [results,Tryz.results97,go_sem,x3a,x3b,x3c,x3d]) rfl ⟨⟨ng3,ao3,n3,cap3,ng4,ao4,n4,cap4,rfl,hii (HV3.out.put4B X3 (.bool ng3) (.slice ao3 n3 cap3) (.bool ng4) (.slice ao4 n4 cap4)),hii (HV4.out.put4B X3 (.bool ng3) (.slice ao3 n3 cap3) (.bool ng4) (.slice ao4 n4 cap4))⟩,Below.put4 hbw (by omega) (.bool ng3) (.slice ao3 n3 cap3) (.bool ng4) (.slice ao4 n4 cap4)⟩
def cd (l:List Int) (i:Nat):Int:=l.getD i 0
theorem code14_any (l:List Int) (i:Nat) (ao:Option Addr) (cap:Nat) (w:World) (hl:l.length≤9223372036854775807) (hi:i≤1000000) (u:UK .u8 w ao l) :
  Calls Tryz.prog 37 #[.slice ao l.length cap,.int .i64 i] w fun e w' => e=.returned (.int .u8 (cd l i))∧Below w.heap.size w w':=by
 have hbw:=Below.refl w.heap.size w
 by_cases h:(i:Int) < (l.length:Int)
 ·obtain ⟨z,hz⟩:∃ z,l[i]?=some z:=⟨l[i]'(by omega),gE _⟩;obtain ⟨b,off,rfl,hc⟩:=u i z hz;have HZ:Hid (cd l i=z):=hii (by unfold cd; rw [List.getD_eq_getElem?_getD,hz]; rfl);clear hz u;go_enter Tryz.func37,Tryz.ntmps37;go_wp2;go_ret;exact ⟨by rw [HZ.out]; rfl,hbw⟩
 ·have HZ:Hid (cd l i=0):=hii (by unfold cd; rw [List.getD_eq_getElem?_getD,List.getElem?_eq_none (show l.length≤i by omega)]; rfl);clear u;go_enter Tryz.func37,Tryz.ntmps37;go_wp2;go_ret;exact ⟨by rw [HZ.out]; rfl,hbw⟩
theorem number14_any (n:Int) (hf:Bool) (w:World) (hn:0≤n∧n≤100) (hE:Env w) :
  Calls Tryz.prog 36 #[.int .i64 n,.bool hf] w fun e w' => GotR w' (Rat.divInt n (if hf then 2 else 1)) e∧Below w.heap.size w w':=by
 go_enter Tryz.func36,Tryz.ntmps36;go_upto_region 1 with fail;have hb:=bA w (.cells #[.bool false,.slice none 0 0,.bool false,.slice none 0 0] 34);have X4:=Box4.new w (.bool false) (.slice none 0 0) (.bool false) (.slice none 0 0) 34;obtain ⟨g4,hg⟩:∃ g,g=w.heap.size:=⟨_,rfl⟩;have Hg4:Hid (w.heap.size≤g4):=hii (by omega);rw [← hg] at X4 ⊢;clear hg;generalize w.alloc (.cells #[.bool false,.slice none 0 0,.bool false,.slice none 0 0] 34)=w1 at *;have hE:=hE.mono hb;have hbw:=hb;clear hb
 cases hf with
 | false =>
  go_wp2_with fail;(with_reducible refine (rOf14_ok n 1 w1 (by omega) (by omega) (by omega) (by omega) (hii (by decide)) hE).mono ?_);rintro e w1 ⟨⟨ng,ao,nn,cap,nh,ap,m,caq,rfl,h1,h2⟩,hb⟩;have X4:=X4.mono hb;have hbw:=bu hbw hb;clear hb;go_upto_region 5 with fail;have V:=RatV.mk' h1 h2;clear h1 h2;have X6:=Box4.new w1 (.bool ng) (.slice ao nn cap) (.bool nh) (.slice ap m caq) 34;have hb:=bA w1 (.cells #[.bool ng,.slice ao nn cap,.bool nh,.slice ap m caq] 34);obtain ⟨g6,hg⟩:∃ g,g=w1.heap.size:=⟨_,rfl⟩;rw [← hg] at X6 ⊢;clear hg;generalize w1.alloc (.cells #[.bool ng,.slice ao nn cap,.bool nh,.slice ap m caq] 34)=v2 at *;have V:=V.mono hb;have X4:=X4.mono hb;have hbw:=bu hbw hb;clear hb;obtain ⟨c0,c1,c2,c3,_,_,_,_⟩:=id X6;obtain ⟨d0,d1,d2,d3,q0,q1,q2,q3⟩:=id X4;go_wp2;refine bodyPost_ret (v:=.agg #[.bool ng,.slice ao nn cap,.bool nh,.slice ap m caq]) (by simp [results,Tryz.results36,go_sem,d0,d1,d2,d3]) rfl ⟨?_,Below.put4 hbw Hg4.out _ _ _ _⟩;obtain ⟨_,_,_,_,_,_,_,_,e,k1,k2⟩:=V.put4B X4 (.bool ng) (.slice ao nn cap) (.bool nh) (.slice ap m caq)
  cases e
  exact ⟨_,_,_,_,_,_,_,_,rfl,hii k1,hii k2⟩
 | true =>
  go_wp2_with fail;(with_reducible refine (rOf14_ok n 2 w1 (by omega) (by omega) (by omega) (by omega) (hii (by decide)) hE).mono ?_);rintro e w3 ⟨⟨ng,ao,nn,cap,nh,ap,m,caq,rfl,h1,h2⟩,hb⟩;have X4:=X4.mono hb;have hbw:=bu hbw hb;clear hb;go_upto_region 5 with fail;have V:=RatV.mk' h1 h2;clear h1 h2;have X6:=Box4.new w3 (.bool ng) (.slice ao nn cap) (.bool nh) (.slice ap m caq) 34;have hb:=bA w3 (.cells #[.bool ng,.slice ao nn cap,.bool nh,.slice ap m caq] 34);obtain ⟨g6,hg⟩:∃ g,g=w3.heap.size:=⟨_,rfl⟩;rw [← hg] at X6 ⊢;clear hg;generalize w3.alloc (.cells #[.bool ng,.slice ao nn cap,.bool nh,.slice ap m caq] 34)=v4 at *;have V:=V.mono hb;have X4:=X4.mono hb;have hbw:=bu hbw hb;clear hb;obtain ⟨c0,c1,c2,c3,_,_,_,_⟩:=id X6;obtain ⟨d0,d1,d2,d3,q0,q1,q2,q3⟩:=id X4;go_wp2;refine bodyPost_ret (v:=.agg #[.bool ng,.slice ao nn cap,.bool nh,.slice ap m caq]) (by simp [results,Tryz.results36,go_sem,d0,d1,d2,d3]) rfl ⟨?_,Below.put4 hbw Hg4.out _ _ _ _⟩;obtain ⟨_,_,_,_,_,_,_,_,e,k1,k2⟩:=V.put4B X4 (.bool ng) (.slice ao nn cap) (.bool nh) (.slice ap m caq)
  cases e
  exact ⟨_,_,_,_,_,_,_,_,rfl,hii k1,hii k2⟩
structure MX (W:World) (B:Nat) (vA:Value) (rows:List (List Qo)) (ow:List (Value × List Qo)):Prop where
 ex:∃ xs,OwnR W B vA xs∧RowsOf W xs rows∧SepR W xs vA∧LowR B xs∧∀ p∈ow,SepR W xs p.1
 o:∀ p∈ow,OwnO W B p.1 p.2∧Sep vA p.1
 s:ow.Pairwise fun p q => Sep p.1 q.1
theorem MX.nil (W:World) (B:Nat) (n:Nat):MX W B (.slice none 0 0) [] (List.replicate n (.slice none 0 0,[])):=by
 refine ⟨⟨[],OwnR.nil _ _,⟨rfl,fun i row h => by simp at h⟩,SepR.nil _ _,fun x h => by simp at h,fun p _ => SepR.nil _ _⟩,fun p hp => ?_,?_⟩
 ·obtain ⟨_,rfl⟩:=List.mem_replicate.1 hp;exact ⟨OwnO.nil _ _,sep_nil _⟩
 ·exact List.pairwise_replicate.2 (.inr (sep_nil _))
section
variable {W W' : World} {B : Nat} {vA : Value} {rows : List (List Qo)} {ow : List (Value × List Qo)}
theorem MX.kept {G:Nat→Prop} (h:MX W B vA rows ow) (hk:Kept G W W') (hp:NoG G W) (hG:∀ b,G b→b < B):MX W' B vA rows ow:=by
 obtain ⟨⟨xs,h1,h2,h3,h4,h5⟩,ho,hs⟩:=h;have out:∀ (b:Nat),B≤b→¬ G b:=fun b hb hg => by have:=hG b hg; omega
 exact ⟨⟨xs,h1.kept hk (fun b e => out b (h1.lt b e).1),h2.kept hk hp (fun x hx b e => out b (h4 x hx b e)),h3.mono hk.size,h4,fun p hp' => (h5 p hp').mono hk.size⟩,
  fun p hp' => ⟨(ho p hp').1.kept hk hp fun b e => out b ((ho p hp').1.lt b e).1,(ho p hp').2⟩,hs⟩
theorem MX.mono (h:MX W B vA rows ow) (hb:Below W.heap.size W W'):MX W' B vA rows ow:=by
 obtain ⟨⟨xs,h1,h2,h3,h4,h5⟩,ho,hs⟩:=h;have hk:Kept (fun _ => False) W W':=.of_below hb;exact ⟨⟨xs,h1.kept hk (fun _ _ h => h),h2.mono hb,h3.mono hb.size,h4,fun p hp => (h5 p hp).mono hb.size⟩,fun p hp => ⟨(ho p hp).1.mono hb,(ho p hp).2⟩,hs⟩
theorem MX.turn {pre post:List (Value × List Qo)} {v v':Value} {l l':List Qo} (h:MX W B vA rows (pre ++ (v,l) :: post)) (g:Grw W W' v v') (hn:OwnO W' B v' l'):MX W' B vA rows (pre ++ (v',l') :: post):=by
 obtain ⟨⟨xs,h1,h2,h3,h4,h5⟩,ho,hs⟩:=h;have hv:=h5 (v,l) (by simp);have hov:=ho (v,l) (by simp);have la:=fun b e => (h1.lt b e).2
 rw [List.pairwise_append,List.pairwise_cons] at hs;obtain ⟨s1,⟨s2,s3⟩,s4⟩:=hs;have sep:∀ p∈pre ++ post,Sep p.1 v:=by
  intro p hp;rcases List.mem_append.1 hp with hp | hp
  ·exact s4 p hp (v,l) (by simp)
  ·exact (s2 p hp).symm
 have hO:∀ p∈pre ++ post,OwnO W B p.1 p.2∧Sep vA p.1∧SepR W xs p.1:=by
  intro p hp;have hp':p∈pre ++ (v,l) :: post:=by
   rcases List.mem_append.1 hp with hp | hp
   ·simp [hp]
   ·simp [hp]
  exact ⟨(ho p hp').1,(ho p hp').2,h5 p hp'⟩
 have sep':∀ p∈pre ++ post,Sep p.1 v':=fun p hp => (sep p hp).grw (fun b e => ((hO p hp).1.lt b e).2) g
 have mem:∀ {q:Value × List Qo},q∈pre ++ (v',l') :: post→q=(v',l')∨q∈pre ++ post:=by
  intro q hq;simp only [List.mem_append,List.mem_cons] at hq ⊢;rcases hq with hq | hq | hq
  ·exact .inr (.inl hq)
  ·exact .inl hq
  ·exact .inr (.inr hq)
 refine ⟨⟨xs,h1.kept g.kept (fun b e => hov.2 b e),h2.kept g.kept g.noG (fun x hx b e => (hv x hx).2 b e),h3.mono g.grown.size,h4,?_⟩,?_,?_⟩
 ·intro q hq;rcases mem hq with rfl | hq
  ·exact hv.grw g
  ·exact (hO q hq).2.2.mono g.grown.size
 ·intro q hq;rcases mem hq with rfl | hq
  ·exact ⟨hn,hov.2.grw la g⟩
  ·exact ⟨(hO q hq).1.kept g.kept g.noG fun b e => (sep q hq) b e,(hO q hq).2.1⟩
 ·rw [List.pairwise_append,List.pairwise_cons];refine ⟨s1,⟨fun q hq => (sep' q (by simp [hq])).symm,s3⟩,fun p hp q hq => ?_⟩;rcases List.mem_cons.1 hq with rfl | hq
  ·exact sep' p (by simp [hp])
  ·exact s4 p hp q (by simp [hq])
theorem MX.run_row (h:MX W B vA rows ow) (X:World) (ty:TypeId) {row:List Qo} {ar:Option Addr} {cr bx c:Nat} (hq:UQ W ar row) (hs:∀ b,(Value.slice ar row.length cr).ownBlock=some b→B≤b∧b < W.heap.size∧vA.ownBlock ≠ some b∧∀ p∈ow,p.1.ownBlock ≠ some b)
  (hB:B≤W.heap.size) (hb:Below B X W) (hc:W.cell? ⟨bx,0,none⟩=some (.slice ar row.length cr)) (hl:rows.length≤1000000) :
  ∃ v' w',(Builtin.append_ #[26,26] ty #[vA,.slice (some ⟨bx,0,none⟩) 1 c]).run Tryz.prog W=.ok v' w'∧MX w' B v' (rows ++ [row]) ow∧Below B X w'∧Grw W w' vA v':=by
 obtain ⟨⟨xs,h1,h2,h3,h4,h5⟩,ho,hsp⟩:=h;obtain ⟨v',w',hr,k1,k2,g⟩:=run_app_r W X ty B vA xs ar row.length cr bx c h1 hB hb hc (by rw [h2.1]; exact hl);have ha:∀ a,ar=some a→¬ vA.ownBlock=some a.block:=by rintro a rfl; exact (hs a.block rfl).2.2.1
 have hs':∀ b,(Value.slice ar row.length cr).ownBlock=some b→b < w'.heap.size:=fun b e => Nat.lt_of_lt_of_le (hs b e).2.1 g.grown.size
 have hsv:Sep (.slice ar row.length cr) v':=Sep.grw (W:=W) (fun b e => (hs b e).2.2.1) (fun b e => (hs b e).2.1) g;exact ⟨v',w',hr,⟨⟨_,k1,(h2.kept g.kept g.noG (fun x hx b e => (h3 x hx).2 b e)).snoc (hq.kept g.kept g.noG ha),(h3.grw g).snoc hs' hsv,h4.snoc (fun b e => (hs b e).1),fun p hp => ((h5 p hp).mono g.grown.size).snoc hs' (fun b e => (hs b e).2.2.2 p hp)⟩,
  fun p hp => ⟨(ho p hp).1.kept g.kept g.noG (fun b e => (ho p hp).2.symm b e),((ho p hp).2.symm.grw (fun b e => ((ho p hp).1.lt b e).2) g).symm⟩,hsp⟩,k2,g⟩
theorem MX.own (h:MX W B vA rows ow) {p:Value × List Qo} (hp:p∈ow):OwnO W B p.1 p.2:=(h.o p hp).1
theorem MX.um (h:MX W B vA rows ow):∃ ao cap,vA=.slice ao rows.length cap∧UM W ao rows:=by
 obtain ⟨⟨xs,h1,h2,_⟩,_,_⟩:=h;exact h1.1.um h2
theorem MX.ltA (h:MX W B vA rows ow):∀ b,vA.ownBlock=some b→B≤b∧b < W.heap.size:=by
 obtain ⟨⟨xs,h1,_⟩,_,_⟩:=h;exact h1.lt
end
theorem ownsRow_set {w:World} {B e s g n cap m k:Nat} {xs:List Value} {x:Value} (h:w.ownsRow B e s (.slice (some ⟨g,0,none⟩) n cap) m xs):(w.setCell ⟨g,k,none⟩ x).ownsRow B e s (.slice (some ⟨g,0,none⟩) n cap) m (xs.set k x):=by
 obtain ⟨hl,hr⟩:=h;refine ⟨by simp [hl],?_⟩;rcases hr with ⟨hv,_⟩ | ⟨g',cap',cur,hv,hB,hg,hn,hm,hs,ht⟩
 ·cases hv
 ·cases hv
  refine .inr ⟨g,cap,cur.setIfInBounds k x,rfl,hB,?_,hn,hm,by simp [hs],?_⟩
  ·rw [setCell_eq_setRow w g k cur e (0,0) x hg,setRow_heap w g cur _ e _ hg]
  ·rw [Array.toList_setIfInBounds,List.take_set,ht]
theorem noI_set {w:World} {B e s g n cap m k:Nat} {xs:List Value} {x:Value} (hn:NoI w (.slice (some ⟨g,0,none⟩) n cap)) (h:w.ownsRow B e s (.slice (some ⟨g,0,none⟩) n cap) m xs) (hx:NoInt x):NoI (w.setCell ⟨g,k,none⟩ x) (.slice (some ⟨g,0,none⟩) n cap):=by
 obtain ⟨hl,hr⟩:=h;rcases hr with ⟨hv,_⟩ | ⟨g',cap',cur,hv,hB,hg,_⟩
 ·cases hv
 ·cases hv
  intro g' hg' cur' t fr hc u hu;simp only [Value.ownBlock,Option.some.injEq] at hg';subst hg';rw [setCell_eq_setRow w g k cur e (0,0) x hg,setRow_heap w g cur _ e _ hg] at hc;simp only [Option.some.injEq,Obj.cells.injEq] at hc;obtain ⟨rfl,_,_⟩:=hc;rw [Array.toList_setIfInBounds] at hu;rcases List.mem_or_eq_of_mem_set hu with hu | rfl
  ·exact hn g rfl cur e _ hg u hu
  ·exact hx
theorem OwnO.put {w:World} {B g i n cap:Nat} {l:List Qo} {n1:Bool} {a1:Option Addr} {l1 c1:Nat} {n2:Bool} {a2:Option Addr} {l2 c2:Nat} {o:Qo} (h:OwnO w B (.slice (some ⟨g,0,none⟩) n cap) l) (hi:i < l.length) (hv:QV w (.agg #[.bool n1,.slice a1 l1 c1,.bool n2,.slice a2 l2 c2]) o) :
  OwnO ((((w.setCell ⟨g,i * 4,none⟩ (.bool n1)).setCell ⟨g,i * 4 + 1,none⟩ (.slice a1 l1 c1)).setCell ⟨g,i * 4 + 2,none⟩ (.bool n2)).setCell ⟨g,i * 4 + 3,none⟩ (.slice a2 l2 c2)) B (.slice (some ⟨g,0,none⟩) n cap) (l.set i o) ∧
  Grw w ((((w.setCell ⟨g,i * 4,none⟩ (.bool n1)).setCell ⟨g,i * 4 + 1,none⟩ (.slice a1 l1 c1)).setCell ⟨g,i * 4 + 2,none⟩ (.bool n2)).setCell ⟨g,i * 4 + 3,none⟩ (.slice a2 l2 c2)) (.slice (some ⟨g,0,none⟩) n cap) (.slice (some ⟨g,0,none⟩) n cap):=by
 obtain ⟨xs,h1,h2,h3⟩:=h;have hno:NoG (fun k => k=g) w:=fun k hk cur t fr hc => by subst hk; exact h2 k rfl cur t fr hc
 have hk:Kept (fun k => k=g) w ((((w.setCell ⟨g,i * 4,none⟩ (.bool n1)).setCell ⟨g,i * 4 + 1,none⟩ (.slice a1 l1 c1)).setCell ⟨g,i * 4 + 2,none⟩ (.bool n2)).setCell ⟨g,i * 4 + 3,none⟩ (.slice a2 l2 c2)) :=
  (((((Kept.refl w:Kept (fun k => k=g) w w)).setCell (p:=⟨g,i * 4,none⟩) rfl _).setCell (p:=⟨g,i * 4 + 1,none⟩) rfl _).setCell (p:=⟨g,i * 4 + 2,none⟩) rfl _).setCell (p:=⟨g,i * 4 + 3,none⟩) rfl _
 have b1:NoInt (.bool n1):=by intro k z e; cases e
 have b2:NoInt (.bool n2):=by intro k z e; cases e
 have r1:=ownsRow_set (k:=i * 4) (x:=.bool n1) h1;have r2:=ownsRow_set (k:=i * 4 + 1) (x:=.slice a1 l1 c1) r1;have r3:=ownsRow_set (k:=i * 4 + 2) (x:=.bool n2) r2;have r4:=ownsRow_set (k:=i * 4 + 3) (x:=.slice a2 l2 c2) r3;have n4:=noI_set (k:=i * 4 + 3) (x:=.slice a2 l2 c2) (noI_set (k:=i * 4 + 2) (x:=.bool n2) (noI_set (k:=i * 4 + 1) (x:=.slice a1 l1 c1) (noI_set (k:=i * 4) (x:=.bool n1) h2 h1 b1) r1 (noInt_slice _ _ _)) r2 b2) r3 (noInt_slice _ _ _);have hxl:xs.length=l.length * 4:=h1.1;refine ⟨⟨_,by rw [List.length_set]; exact r4,n4,?_⟩,⟨⟨hk.os,hk.tape,hk.output,hk.size,fun k hk1 hk2 => hk.block k hk1 fun e => hk2 (by rw [e]; rfl)⟩,h2,.inl rfl⟩⟩;intro j q hj
 by_cases hji:j=i
 ·subst hji;rw [List.getElem?_set_self hi] at hj
  cases hj
  refine ⟨n1,a1,l1,c1,n2,a2,l2,c2,?_,?_,?_,?_,hv.kept hk hno⟩
  ·rw [List.getElem?_set_ne (by omega),List.getElem?_set_ne (by omega),List.getElem?_set_ne (by omega),List.getElem?_set_self (by omega)]
  ·rw [List.getElem?_set_ne (by omega),List.getElem?_set_ne (by omega),List.getElem?_set_self (by simp; omega)]
  ·rw [List.getElem?_set_ne (by omega),List.getElem?_set_self (by simp; omega)]
  ·rw [List.getElem?_set_self (by simp; omega)]
 ·rw [List.getElem?_set_ne (fun e => hji e.symm)] at hj;obtain ⟨m1,b1,k1,d1,m2,b2,k2,d2,e0,e1,e2,e3,hr⟩:=h3 j q hj;have hs:∀ m,m < 4→((((xs.set (i * 4) (.bool n1)).set (i * 4 + 1) (.slice a1 l1 c1)).set (i * 4 + 2) (.bool n2)).set (i * 4 + 3) (.slice a2 l2 c2))[j * 4 + m]?=xs[j * 4 + m]?:=by
   intro m hm;rw [List.getElem?_set_ne (by omega),List.getElem?_set_ne (by omega),List.getElem?_set_ne (by omega),List.getElem?_set_ne (by omega)]
  exact ⟨m1,b1,k1,d1,m2,b2,k2,d2,(hs 0 (by omega)).trans e0,(hs 1 (by omega)).trans e1,(hs 2 (by omega)).trans e2,(hs 3 (by omega)).trans e3,hr.kept hk hno⟩
theorem sm_40 {z:Int} (h:z.natAbs≤10 ^ 40):Rq.Sm z:=by
 have h1:KK ^ 2 < Bi.Big:=kk_lt (by omega);have h2:KK ^ 2=10 ^ 50:=by unfold KK; rw [← Nat.pow_mul]
 have h3:10 ^ 40≤10 ^ 50:=Nat.pow_le_pow_right (by omega) (by omega);unfold Rq.Sm;omega
theorem p162 {j:Nat} (h:j≤5):162 ^ j≤162 ^ 5:=Nat.pow_le_pow_right (by omega) h
theorem dotS_nine:∀ (la lb:List Rat) (acc:Rat) (j:Nat),(∀ r∈la,Rq.Bd r 9 9)→(∀ r∈lb,Rq.Bd r 9 9)→Rq.Bd acc (162 ^ j) (162 ^ j)→j + la.length≤5→∃ s,DotS acc la lb (some s)∧Rq.Bd s (162 ^ 5) (162 ^ 5)
 | [],lb,acc,j,_,_,hb,hj => ⟨acc,rfl,Bd.mono hb (p162 (by simpa using hj)) (p162 (by simpa using hj))⟩
 | _ :: _,[],acc,j,_,_,hb,hj => ⟨acc,rfl,Bd.mono hb (p162 (by omega)) (p162 (by omega))⟩
 | a :: la,b :: lb,acc,j,h1,h2,hb,hj => by
  have ha:Rq.Bd a 9 9:=h1 a (by simp);have hb2:Rq.Bd b 9 9:=h2 b (by simp);have hj:j + (la.length + 1)≤5:=by simpa using hj
  have hab:=Rq.bd_mul ha hb2;have hk:162 ^ (j + 1)=162 ^ j * 162:=Nat.pow_succ ..;have hp:=p162 (j:=j) (by omega);have hsum:=Rq.bd_add hb hab;have n1:=Rq.bd_x hb hab;have n2:=Rq.bd_x hab hb;have n3:=Rq.bd_dd hb hab;have hM:MulS a b:=⟨sm_40 (by have:=Rq.mul_bd ha.1 hb2.1; omega),sm_40 (by have:=Rq.bd_dd ha hb2; omega)⟩;have hA:AddS acc (a * b):=⟨⟨sm_40 (by omega),sm_40 (by omega)⟩,sm_40 (by omega),sm_40 (by omega)⟩;obtain ⟨s,hs1,hs2⟩:=dotS_nine la lb (acc + a * b) (j + 1) (fun r hr => h1 r (by simp [hr])) (fun r hr => h2 r (by simp [hr])) (Bd.mono hsum (by rw [hk]; omega) (by rw [hk]; omega)) (by omega);exact ⟨s,.inl ⟨hM,hA,hs1⟩,hs2⟩
theorem dot_nine {la lb:List Rat} (h1:∀ r∈la,Rq.Bd r 9 9) (h2:∀ r∈lb,Rq.Bd r 9 9) (hl:la.length≤5):∃ s,DotS 0 la lb (some s)∧Rq.Bd s (162 ^ 5) (162 ^ 5) :=
 dotS_nine la lb 0 0 h1 h2 ⟨by rw [show ((0:Rat).num)=0 from rfl]; simp,by rw [show ((0:Rat).den)=1 from rfl]; simp⟩ (by simpa using hl)
theorem bd_sub14 {a b:Rat} {N M D E:Nat} (h1:Rq.Bd a N D) (h2:Rq.Bd b M E):Rq.Bd (a - b) (N * E + M * D) (D * E):=by
 rw [← Rq.sub_eq];refine Rq.bd_of (Rq.dd_ne' a b) ?_ (Rq.bd_dd h1 h2);have:=Rq.bd_x h1 h2;have:=Rq.bd_x h2 h1;omega
theorem bd_int {z:Int} {N D:Nat} (h:z.natAbs≤N) (hd:1≤D):Rq.Bd ((z:Int):Rat) N D:=⟨by rw [Rat.num_intCast]; exact h,by rw [Rat.den_intCast]; exact hd⟩
theorem add_nine {s:Rat} {z:Int} (h:Rq.Bd s (162 ^ 5) (162 ^ 5)) (hz:z.natAbs≤9):AddS s z∧Sh (s + z)∧SubS s z∧Sh (s - z):=by
 have hb:Rq.Bd (z:Rat) 9 1:=bd_int hz (by omega);have n1:=Rq.bd_x h hb;have n2:=Rq.bd_x hb h;have n3:=Rq.bd_dd h hb;refine ⟨⟨⟨sm_40 (by omega),sm_40 (by omega)⟩,sm_40 (by omega),sm_40 (by omega)⟩,Bd.mono (Rq.bd_add h hb) (by decide) (by decide),⟨⟨sm_40 (by omega),sm_40 (by omega)⟩,sm_40 (by omega),sm_40 (by omega)⟩,Bd.mono (bd_sub14 h hb) (by decide) (by decide)⟩
theorem half_bd {n:Int} {d:Int} (hn:0≤n∧n≤4) (hd:d=1∨d=2):Rq.Bd (Rat.divInt n d) 4 2:=by
 rcases hd with rfl | rfl
 ·exact Rq.bd_of (by decide) (by omega) (by decide)
 ·exact Rq.bd_of (by decide) (by omega) (by decide)
theorem add_one14 {r:Rat} {z:Int} (h:Rq.Bd r 4 2) (hz:z.natAbs≤2):AddS r z∧Sx (r + z):=by
 have hb:Rq.Bd (z:Rat) 2 1:=bd_int hz (by omega);have n1:=Rq.bd_x h hb;have n2:=Rq.bd_x hb h;have n3:=Rq.bd_dd h hb;exact ⟨⟨⟨sm_40 (by omega),sm_40 (by omega)⟩,sm_40 (by omega),sm_40 (by omega)⟩,Bd.mono (Rq.bd_add h hb) (by decide) (by decide)⟩
theorem add_val14 {r:Rat} {z:Int} (h:Rq.Bd r (KK ^ 5) (KK ^ 5)) (hz:z.natAbs≤2):AddS r z:=by
 have hb:Rq.Bd (z:Rat) (KK ^ 5) (KK ^ 5):=bd_int (Nat.le_trans hz (Nat.le_trans (show 2≤KK by unfold KK; decide) (by have:=kk_le (i:=1) (j:=5) (by omega); rwa [Nat.pow_one] at this))) (by have:=kk_le (i:=0) (j:=5) (by omega); rwa [Nat.pow_zero] at this);have n1:=Rq.bd_x h hb;have n2:=Rq.bd_x hb h;have n3:=Rq.bd_dd h hb;have e:KK ^ 5 * KK ^ 5=KK ^ 10:=by rw [← Nat.pow_add]
 have e2:KK ^ 11=KK ^ 10 * KK:=Nat.pow_succ ..;have e3:KK ^ 10 * 2≤KK ^ 10 * KK:=Nat.mul_le_mul_left _ kk_one;rw [e] at n1 n2 n3;exact ⟨cr_small h hb,sm_kk (n:=11) (by omega) (by omega),sm_kk (n:=10) (by omega) n3⟩
theorem OwnQ.readF {w:World} {B:Nat} {v:Value} {l:List Rat} (h:OwnQ w B v l):∃ ao cap,v=.slice ao l.length cap∧(∀ a,ao=some a→B≤a.block∧a.block < w.heap.size)∧UQ w ao (l.map some):=by
 have hr:=h.read;obtain ⟨ao,cap,e,hu⟩:=hr;refine ⟨ao,cap,e,fun a ha => ?_,hu⟩;subst ha;obtain ⟨xs,h1,_⟩:=h;have:=h1.lt a.block (by rw [e]; rfl);exact this
def ColF (B:Nat) (w':World) (l:List Rat) (e:Ending):Prop:=∃ ao cap,e=.returned (.slice ao l.length cap)∧(∀ a,ao=some a→B≤a.block∧a.block < w'.heap.size)∧UQ w' ao (l.map some)
theorem rcolF_any (A:List (List Rat)) (j:Nat) (aA:Option Addr) (cA:Nat) (wl:World) (hm:A.length≤1000000) (uA:UM wl aA (A.map (·.map some))) (hj:∀ r∈A,j < r.length) :
  Calls Tryz.prog 42 #[.slice aA A.length cA,.int .i64 j] wl fun e w' => ColF wl.heap.size w' (colR A j) e∧Below wl.heap.size wl w':=by
 have hj:=hii hj;go_enter Tryz.func42,Tryz.ntmps42;go_wp2_with fail;go_loopw [5,6] (fun s c wr => ∃ k:Nat,k≤A.length∧c=.int .i64 k∧OwnQ wr wl.heap.size s (colR (A.take k) j)∧Below wl.heap.size wl wr) (fun _ c _ => A.length - (intOf c).toNat)
 case atStart => exact ⟨0,Nat.zero_le _,rfl,OwnQ.nil _ _,br⟩
 case round =>
  obtain ⟨k,hk,rfl,hown,hbr⟩:=hrel
  by_cases hlt:k < A.length
  ·obtain ⟨row,hrow⟩:∃ x,A[k]?=some x:=⟨A[k],gE hlt⟩;have hjr:=hj.out row (List.mem_of_getElem? hrow);obtain ⟨q,hq⟩:∃ x,row[j]?=some x:=⟨row[j],gE hjr⟩;obtain ⟨b0,off0,ar,cr,ea,hc,uR⟩:=(uA.mono hbr) k (row.map some) (by simp [hrow]);obtain ⟨b1,off1,ng1,ao1,n1,cap1,ng2,ao2,n2,cap2,eb,FA,hv⟩:=uR j (some q) (by simp [hq]);have HC:=hii (colR_snoc hrow hq);have hl0:=colR_length (A.take k) j;have HL:Hid ((colR (A.take k) j).length≤1000000):=hii (by rw [hl0]; simp; omega);rw [List.length_map] at hc;subst ea;subst eb;clear hrow hq uA uR hl0;obtain ⟨n1',a1',l1',c1',n2',a2',l2',c2',ev,hv1,hv2⟩:=(hv:RatV wr _ q)
   cases ev
   have HV1:=hii hv1;have HV2:=hii hv2;clear hv1 hv2;obtain ⟨f0,f1,f2,f3,_,_,_,_⟩:=FA;have hsz:=hbr.size;go_wp2_with (at_builtin; refine app_q _ rfl _ _ rfl wl wl.heap.size _ (colR (A.take k) j) rfl hown hsz hbr HV1 HV2 rfl HL.out ?_; intro v2 w2 hown2 hbel2 hsz2);go_roundw
   case rel => exact ⟨k + 1,by omega,by go_num,by rw [HC.out]; exact hown2,hbel2⟩
   case measure => simp [intOf]; omega
  ·obtain rfl:k=A.length:=by omega
   rw [colR_take] at hown;obtain ⟨ao,cap,rfl,ha,hU⟩:=hown.readF;go_wp2;go_ret;exact ⟨⟨ao,cap,rfl,ha,hU⟩,hbr⟩
end Go.Proofs.YtagdgdacecibiaaGreatDoor
