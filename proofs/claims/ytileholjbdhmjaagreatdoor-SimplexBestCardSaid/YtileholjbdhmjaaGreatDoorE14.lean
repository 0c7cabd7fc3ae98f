/-
  As wp_region_use; one operation uses up a fact and writes nothing (a slice that is built of a value).
-/
import Derived.Test.YtileholjbdhmjaaGreatDoorOQ
import Derived.Test.YtileholjbdhmjaaGreatDoorD5
import Derived.Maps.AppendAt
set_option linter.unusedVariables false
set_option linter.unusedSimpArgs false
set_option maxRecDepth 100000
set_option maxHeartbeats 25600000
namespace Go.Proofs.YtileholjbdhmjaaGreatDoor
open Go.RowKit
section
variable {P : Program} {ops : Array Oper} {Q : Exit → Act → World → Prop}
def bigQ (us:List (Option Nat)) (qi i:Nat):Bool:=us.any (· == some i) && !(i == qi)
def okUseQ (ops:Array Oper) (us:List (Option Nat)) (qi:Nat) (cs:List Bool):Bool :=
 (List.range ops.size).all λ i => !bigQ us qi i || (List.range ops.size).all λ k =>
  k == i || us.getD k none == some i || cs.getD k false || (waitsAt ops k).contains i || (match us.getD k none with | some u => (waitsAt ops i).contains u | none => false)
def okPreQ (ops:Array Oper) (us:List (Option Nat)) (qi:Nat) (ds:List (Option Nat)) (pi d0:Nat):Bool :=
 (List.range ops.size).all λ i => (!bigQ us qi i && !(ds.getD i none == some d0)) || i == pi || (waitsAt ops i).any λ j => decide (j < ops.size) && (j == pi || (waitsAt ops j).contains pi)
def StepQ (us:List (Option Nat)) (qi i:Nat) (wx W W':World):Prop:=Below wx.heap.size wx W'/\(bigQ us qi i=false->Below W.heap.size W W')
theorem wp_region_useq {id:Nat} {a:Act} {w wx:World} (Fs:List (World->Value->Prop)) (us:List (Option Nat)) (qi:Nat) (cs:List Bool) (ds:List (Option Nat)) (dl:List Nat) (pi d0:Nat) (P0:World->Value->Prop) (hpi:pi < ops.size)
  (hm:P.follows .mixedOrders=true) (ht:topo .any ops=true) (hd:ops.toList.map (·.dst)=ds) (hdl:ds.filterMap (λ x => x)=dl) (hnd:dl.Nodup) (hok:okUseQ ops us qi cs=true) (hop:okPreQ ops us qi ds pi d0=true) (hP0:P0 w.drew (a.tmps.getD d0 undef)) (hPS:StayB P0)
  (hw:Below wx.heap.size wx w) (hS:AllS Fs) (hC:AllK cs Fs)
  (hs:EachOp (λ i o => ∀ (T:Nat->Value) (W:World),Below wx.heap.size wx W->(i=pi->P0 W (T d0))->AllU Fs us i ds T W (waits .any o) ->
   ∀ K:Act->World->Prop,(∀ v W',StepQ us qi i wx W W'->(Fs.getD i λ _ _ => True) W' ((o.dst.map λ _ => v).getD undef)->K (({ a with tmps:=ovr a.tmps T dl }:Act).put o.dst v) W') ->
    wpOp P ops Q i K { a with tmps:=ovr a.tmps T dl } W) 0 ops.toList)
  (he:∀ T W,Below wx.heap.size wx W->AllU Fs us ops.size ds T W (List.range ops.size)->Q .normal { a with tmps:=ovr a.tmps T dl } W):(Code.region id ops true).wp P Q a w:=by
 have hnd':(ds.filterMap _root_.id).Nodup:=by
  have:ds.filterMap _root_.id=dl:=hdl;rw [this]; exact hnd
 have hdst:∀ (i:Nat) (o:Oper),ops[i]?=some o->i < ops.size/\o.dst=ds.getD i none:=by
  intro i o ho;have hi:i < ops.size:=(Array.getElem?_eq_some_iff.1 ho).1;refine ⟨hi,?_⟩;have h1:(ops.toList.map (·.dst))[i]?=some o.dst:=by simp [ho]
  rw [hd] at h1;rw [List.getD_eq_getElem?_getD,h1]; rfl
 have hus:∀ k,ops.size<=k->True:=λ _ _ => trivial
 have huse:∀ i k,i < ops.size->k < ops.size->bigQ us qi i=true->k ≠ i->us.getD k none ≠ some i->cs.getD k false=true\/i∈waitsAt ops k\/∃ u,us.getD k none=some u/\u∈waitsAt ops i:=by
  intro i k hi hk hb hne hnu;unfold okUseQ at hok;rw [List.all_eq_true] at hok;have h1:=hok i (by simpa using hi);rw [hb,Bool.not_true,Bool.false_or,List.all_eq_true] at h1;have h2:=h1 k (by simpa using hk);simp only [Bool.or_eq_true,beq_iff_eq,List.contains_iff_mem] at h2;rcases h2 with (((h | h) | h) | h) | h
  ·exact absurd h hne
  ·exact absurd h hnu
  ·exact .inl h
  ·exact .inr (.inl h)
  ·refine .inr (.inr ?_)
   cases hu:us.getD k none with
   | none => rw [hu] at h; simp at h
   | some u => rw [hu] at h; exact ⟨u,rfl,by simpa using h⟩
 have hwt:∀ k o,ops[k]?=some o->waitsAt ops k=waits .any o:=by
  intro k o ho; unfold waitsAt; rw [ho]; rfl
 have hpre:∀ i,i < ops.size->(bigQ us qi i=true\/ds.getD i none=some d0)->i ≠ pi->∃ j,j < ops.size/\j∈waitsAt ops i/\(j=pi\/pi∈waitsAt ops j):=by
  intro i hi hb hne;unfold okPreQ at hop;rw [List.all_eq_true] at hop;have h1:=hop i (by simpa using hi);simp only [Bool.or_eq_true,beq_iff_eq,List.any_eq_true,Bool.and_eq_true,decide_eq_true_eq,List.contains_iff_mem,Bool.not_eq_true',beq_eq_false_iff_ne] at h1;rcases h1 with (h | h) | ⟨j,hj,hjl,h⟩
  ·exfalso
   rcases hb with hb | hb
   ·rw [h.1] at hb; cases hb
   ·exact h.2 hb
  ·exact absurd h hne
  ·exact ⟨j,hjl,hj,h⟩
 refine wp_region_flow0 (λ L T W => Below wx.heap.size wx W/\(¬ L pi->P0 W (T d0))/\(∀ k,k < ops.size->L k->∀ d∈waitsAt ops k,L d)/\∀ k,k < ops.size->L k->(∀ u,us.getD k none=some u->u < ops.size->¬ L u)->(Fs.getD k λ _ _ => True) W (dv ds T k)) dl hm ht ?_ ⟨hw.drew,λ _ => hP0,λ k _ h => h.elim,λ k _ h => h.elim⟩ ?_ ?_ ?_
 ·unfold dsts;rw [<- hdl,<- hd];simp [List.filterMap_map]
  rfl
 ·have key:∀ (l:List Oper) (k:Nat),(∀ j o,l[j]?=some o->ops[k + j]?=some o) ->
    EachOp (λ i o => ∀ (T:Nat->Value) (W:World),Below wx.heap.size wx W->(i=pi->P0 W (T d0))->AllU Fs us i ds T W (waits .any o) ->
     ∀ K:Act->World->Prop,(∀ v W',StepQ us qi i wx W W'->(Fs.getD i λ _ _ => True) W' ((o.dst.map λ _ => v).getD undef)->K (({ a with tmps:=ovr a.tmps T dl }:Act).put o.dst v) W') ->
      wpOp P ops Q i K { a with tmps:=ovr a.tmps T dl } W) k l ->
    EachOp (λ i o => ∀ (L:Nat->Prop) (T:Nat->Value) (w:World),AllL L (waits .any o)->¬ L i->(Below wx.heap.size wx w/\(¬ L pi->P0 w (T d0))/\(∀ k,k < ops.size->L k->∀ d∈waitsAt ops k,L d)/\∀ k,k < ops.size->L k->(∀ u,us.getD k none=some u->u < ops.size->¬ L u)->(Fs.getD k λ _ _ => True) w (dv ds T k)) ->
     ∀ K:Act->World->Prop,(∀ v w',(Below wx.heap.size wx w'/\(¬ (pi=i\/L pi)->P0 w' (updO T o.dst v d0))/\(∀ k,k < ops.size->(k=i\/L k)->∀ d∈waitsAt ops k,(d=i\/L d))/\∀ k,k < ops.size->(k=i\/L k)->(∀ u,us.getD k none=some u->u < ops.size->¬ (u=i\/L u))->(Fs.getD k λ _ _ => True) w' (dv ds (updO T o.dst v) k))->K (({ a with tmps:=ovr a.tmps T dl }:Act).put o.dst v) w') ->
      wpOp P ops Q i K { a with tmps:=ovr a.tmps T dl } w) k l:=by
   intro l
   induction l with
   | nil => intro k _ _; trivial
   | cons o r ih =>
    intro k hin h;refine ⟨?_,ih (k + 1) (λ j o' ho => by have:=hin (j + 1) o' (by simpa using ho); rw [show k + 1 + j=k + (j + 1) by omega]; exact this) h.2⟩;rintro L T W hL hn ⟨hb,hp,hcl,hJ⟩ K hK;have hko:ops[k]?=some o:=by simpa using hin 0 o rfl
    obtain ⟨hkl,hkd⟩:=hdst k o hko;have hks:k < ops.size:=hkl;have hall:=AllL.all hL;refine h.1 T W hb (λ e => hp (e ▸ hn)) (AllU.mem λ d hdw hu => hJ d (Nat.lt_trans (topo_lt ht hko hdw) hks) (hall d hdw) λ u hu' _ hLu => ?_) K λ v W' hst hv => hK v W' ⟨hst.1,?_,?_,?_⟩
    ·rcases hu with hu | hu
     ·rw [hu] at hu'; cases hu'
     ·rw [hu] at hu'; cases hu'; exact hn hLu
    ·intro hnp;have hP:=hp λ h => hnp (.inr h)
     by_cases hbg:bigQ us qi k=true\/ds.getD k none=some d0
     ·exfalso
      obtain ⟨j,hjl,hj,hjp⟩:=hpre k hks hbg λ e => hnp (.inl e.symm)
      rw [hwt _ _ hko] at hj;have hLj:=hall j hj;rcases hjp with rfl | hjp
      ·exact hnp (.inr hLj)
      ·exact hnp (.inr (hcl j hjl hLj pi hjp))
     ·have h1:bigQ us qi k=false:=by
       cases hbb:bigQ us qi k with
       | false => rfl
       | true => exact absurd (.inl hbb) hbg
      have hval:updO T o.dst v d0=T d0:=by
       cases hdo:o.dst with
       | none => rfl
       | some d' =>
        have hne:d0 ≠ d':=λ e => hbg (.inr (by rw [<- hkd,hdo,e]))
        simp [updO,upd,hne]
      rw [hval];exact hPS _ _ _ hP (hst.2 h1)
    ·rintro j hj (rfl | hLj) d hd
     ·rw [hwt _ _ hko] at hd; exact .inr (hall d hd)
     ·exact .inr (hcl j hj hLj d hd)
    ·rintro j hj hLj halive
     by_cases hjk:j=k
     ·subst hjk;have:dv ds (updO T o.dst v) j=(o.dst.map λ _ => v).getD undef:=by
       unfold dv;rw [<- hkd]
       cases hdo:o.dst with
       | none => rfl
       | some d => simp [updO,upd]
      rw [this]; exact hv
     ·have hLj:L j:=hLj.resolve_left hjk;have hval:dv ds (updO T o.dst v) j=dv ds T j:=by
       unfold dv
       cases hdj:ds.getD j none with
       | none => rfl
       | some d =>
        cases hdo:o.dst with
        | none => rfl
        | some d' =>
         have hne:d ≠ d':=λ e => by
          rw [hdo] at hkd;exact hjk (nodup_some hnd' hdj (by rw [<- hkd,e]))
         simp [updO,upd,hne]
      rw [hval];have hF:=hJ j hj hLj λ u hu hul hLu => halive u hu hul (.inr hLu)
      cases hbig:bigQ us qi k with
      | false => exact AllS.get j hS _ _ _ hF (hst.2 hbig)
      | true =>
       have hnu:us.getD j none ≠ some k:=λ e => halive k e hks (.inl rfl)
       rcases huse k j hks hj hbig hjk hnu with hc | hc | ⟨u,hu,hc⟩
       ·exact AllK.get j hC hc _ _ _ hF
       ·exact absurd (hcl j hj hLj k hc) hn
       ·rw [hwt _ _ hko] at hc;exact absurd (.inr (hall u hc)) (halive u hu (Nat.lt_trans (topo_lt ht hko hc) hks))
  exact key ops.toList 0 (λ j o ho => by simpa using ho) hs
 ·rintro T W ⟨hb,_,_,hJ⟩;refine he T W hb (AllU.mem λ k hk hu => hJ k (by simpa using hk) (by simpa using hk) λ u hu' hul _ => ?_);rcases hu with hu | hu
  ·rw [hu] at hu'; cases hu'
  ·rw [hu] at hu'; cases hu'; omega
 ·rintro L T W hL ⟨hb,hp,hcl,hJ⟩;refine ⟨hb,λ h => ?_,λ k hk _ d hd => ?_,λ k hk _ hal => hJ k hk (hL k hk) λ u hu hul _ => hal u hu hul hul⟩
  ·exact absurd hpi h
  obtain ⟨o,ho⟩:∃ o,ops[k]?=some o:=⟨ops[k],Array.getElem?_eq_getElem hk⟩;rw [hwt k o ho] at hd;exact Nat.lt_trans (topo_lt ht ho hd) hk
end
theorem Kept.of_grown {w w':World} {row:Option Nat} (h:w.grownBy w' row):Kept (λ k => row=some k) w w' :=
 ⟨h.os,h.tape,h.output,h.size,λ k hk hg => h.block k hk λ e => hg e.symm⟩
structure Grw (W W':World) (v v':Value):Prop where
 grown:W.grownBy W' v.ownBlock
 noi:NoI W v
 new:v'.ownBlock=v.ownBlock\/v'.ownBlock=some W.heap.size
theorem Grw.kept {W W':World} {v v':Value} (h:Grw W W' v v'):Kept (λ k => v.ownBlock=some k) W W':=.of_grown h.grown
theorem Grw.noG {W W':World} {v v':Value} (h:Grw W W' v v'):NoG (λ k => v.ownBlock=some k) W:=λ g hg cur t fr hc => h.noi g hg cur t fr hc
def Sep (u v:Value):Prop:=∀ b,u.ownBlock=some b->v.ownBlock ≠ some b
theorem Sep.symm {u v:Value} (h:Sep u v):Sep v u:=λ b hv hu => h b hu hv
theorem Sep.grw {W W':World} {u v v':Value} (h:Sep u v) (hu:∀ b,u.ownBlock=some b->b < W.heap.size) (g:Grw W W' v v'):Sep u v':=by
 intro b hb;rcases g.new with e | e
 ·rw [e]; exact h b hb
 ·rw [e]; intro e2;have:=hu b hb;simp only [Option.some.injEq] at e2;omega
theorem sep_nil (v:Value):Sep (.slice none 0 0) v:=λ b h => by simp [Value.ownBlock] at h
def SepR (W:World) (xs:List Value) (v:Value):Prop:=∀ x∈xs,(∀ b,x.ownBlock=some b->b < W.heap.size)/\Sep x v
theorem SepR.nil (W:World) (v:Value):SepR W [] v:=λ x h => by simp at h
theorem SepR.mono {W W':World} {xs:List Value} {v:Value} (h:SepR W xs v) (hs:W.heap.size<=W'.heap.size):SepR W' xs v :=
 λ x hx => ⟨λ b hb => Nat.lt_of_lt_of_le ((h x hx).1 b hb) hs,(h x hx).2⟩
theorem SepR.grw {W W':World} {xs:List Value} {v v':Value} (h:SepR W xs v) (g:Grw W W' v v'):SepR W' xs v' :=
 λ x hx => ⟨λ b hb => Nat.lt_of_lt_of_le ((h x hx).1 b hb) g.grown.size,(h x hx).2.grw (h x hx).1 g⟩
theorem SepR.snoc {W:World} {xs:List Value} {v x:Value} (h:SepR W xs v) (hx:∀ b,x.ownBlock=some b->b < W.heap.size) (hs:Sep x v):SepR W (xs ++ [x]) v:=by
 intro y hy;rcases List.mem_append.1 hy with hy | hy
 ·exact h y hy
 ·simp at hy; subst hy; exact ⟨hx,hs⟩
theorem ownsRow_kept {G:Nat->Prop} {w w':World} {B e size n:Nat} {v:Value} {xs:List Value} (h:w.ownsRow B e size v n xs) (hk:Kept G w w') (hv:∀ b,v.ownBlock=some b->¬ G b):w'.ownsRow B e size v n xs:=by
 refine ⟨h.1,h.2.imp id ?_⟩;rintro ⟨g,cap,cur,rfl,hB,hg,r⟩;exact ⟨g,cap,cur,rfl,hB,hk.heap hg (hv g rfl),r⟩
theorem NoI.kept {G:Nat->Prop} {w w':World} {B e size n:Nat} {v:Value} {xs:List Value} (hn:NoI w v) (h:w.ownsRow B e size v n xs) (hk:Kept G w w') (hv:∀ b,v.ownBlock=some b->¬ G b):NoI w' v:=by
 intro g hg cur t fr hc;have hlt:=(h.lt g hg).2;exact hn g hg cur t fr ((hk.block g hlt (hv g hg)).symm.trans hc)
theorem OwnO.kept {G:Nat->Prop} {w w':World} {B:Nat} {v:Value} {l:List Qo} (h:OwnO w B v l) (hk:Kept G w w') (hp:NoG G w) (hv:∀ b,v.ownBlock=some b->¬ G b):OwnO w' B v l:=by
 obtain ⟨xs,h1,h2,h3⟩:=h;exact ⟨xs,ownsRow_kept h1 hk hv,h2.kept h1 hk hv,λ i o hi => (h3 i o hi).kept hk hp⟩
theorem OwnO.lt {w:World} {B:Nat} {v:Value} {l:List Qo} (h:OwnO w B v l):∀ b,v.ownBlock=some b->B<=b/\b < w.heap.size:=by
 obtain ⟨xs,h1,_⟩:=h;exact h1.lt
def OwnR (w:World) (B:Nat) (v:Value) (xs:List Value):Prop:=OwnS w B v xs/\NoI w v
theorem OwnR.nil (w:World) (B:Nat):OwnR w B (.slice none 0 0) []:=⟨World.ownsRow_nil _ _ _ _,λ g hg => by simp [Value.ownBlock] at hg⟩
theorem OwnR.kept {G:Nat->Prop} {w w':World} {B:Nat} {v:Value} {xs:List Value} (h:OwnR w B v xs) (hk:Kept G w w') (hv:∀ b,v.ownBlock=some b->¬ G b):OwnR w' B v xs :=
 ⟨ownsRow_kept h.1 hk hv,h.2.kept h.1 hk hv⟩
theorem OwnR.lt {w:World} {B:Nat} {v:Value} {xs:List Value} (h:OwnR w B v xs):∀ b,v.ownBlock=some b->B<=b/\b < w.heap.size:=World.ownsRow.lt h.1
theorem RowsOf.kept {G:Nat->Prop} {w w':World} {xs:List Value} {rows:List (List Qo)} (h:RowsOf w xs rows) (hk:Kept G w w') (hp:NoG G w) (hv:∀ x∈xs,∀ b,x.ownBlock=some b->¬ G b):RowsOf w' xs rows:=by
 refine ⟨h.1,λ i row hi => ?_⟩;obtain ⟨ar,cr,e,hq⟩:=h.2 i row hi;refine ⟨ar,cr,e,hq.kept hk hp ?_⟩;rintro a rfl;exact hv _ (List.mem_of_getElem? e) a.block rfl
theorem RowsOf.snoc {w:World} {xs:List Value} {rows:List (List Qo)} {a:List Qo} {aa:Option Addr} {ca:Nat} (h:RowsOf w xs rows) (ha:UQ w aa a) :
  RowsOf w (xs ++ [.slice aa a.length ca]) (rows ++ [a]):=by
 refine ⟨by simp [h.1],λ i row hi => ?_⟩;rcases Nat.lt_or_ge i rows.length with hl | hl
 ·rw [List.getElem?_append_left hl] at hi;obtain ⟨ar,cr,e,hq⟩:=h.2 i row hi;exact ⟨ar,cr,by rw [List.getElem?_append_left (by rw [h.1]; exact hl)]; exact e,hq⟩
 ·rw [List.getElem?_append_right hl] at hi;have hx:=h.1
  match hj:i - rows.length,hi with
  | 0,hi =>
   simp at hi; subst hi;exact ⟨aa,ca,by rw [List.getElem?_append_right (by omega),show i - xs.length=0 by omega]; rfl,ha⟩
  | j + 1,hi => simp at hi
theorem run_app_r (w W:World) (ty:TypeId) (B:Nat) (v:Value) (xs:List Value) (ar:Option Addr) (n cr bx c:Nat) (hown:OwnR w B v xs) (hB:B<=w.heap.size) (hb:Below B W w)
  (hc:w.cell? ⟨bx,0,none⟩=some (.slice ar n cr)) (hl:xs.length<=1000000) :
  ∃ v' w',(Builtin.append_ #[27,27] ty #[v,.slice (some ⟨bx,0,none⟩) 1 c]).run Tryz.prog w=.ok v' w'/\OwnR w' B v' (xs ++ [.slice ar n cr])/\Below B W w'/\Grw w w' v v':=by
 obtain ⟨i0,hi,hz0,hz1,hz2⟩:=info_parts Tryz.info28;have hn:∀ (j:Nat) (u:Value),[Value.slice ar n cr][j]?=some u->w.cell? ((⟨bx,0,none⟩:Addr).add j)=some u:=by
  intro j u hj
  match j,hj with
  | 0,hj => simp at hj; subst hj; simpa [Addr.add] using hc
  | j + 1,hj => simp at hj
 have h1:∀ u∈[Value.slice ar n cr],u.oneCell'=true:=by intro u hu; simp at hu; subst hu; rfl
 obtain ⟨v',w',hr,h3,h4,h5⟩:=run_append_noI (P:=Tryz.prog) w B 27 ty 28 i0 (.slice none 0 0) Tryz.underlying27 hi hz0 (by rw [hz1]; rfl) (by rw [hz1]; decide) v xs.length xs (by rw [hz1]; exact hown.1) hown.2 ⟨bx,0,none⟩ 1 c [.slice ar n cr] (by rw [hz1]; rfl) hn h1 (by unfold maxLen; omega) (by rw [hz2]; omega) hB (by omega)
  (by intro u hu k z e; simp [Value.cells] at hu; subst hu; cases e) (by intro u hu k z e; simp at hu; subst hu; cases e)
 obtain ⟨v2,w2,hr2,_,_,_,hat⟩:=run_append_own_at (P:=Tryz.prog) w B 27 ty 28 i0 (.slice none 0 0) i0.size i0.bytes Tryz.underlying27 hi hz0 rfl rfl (by rw [hz1]; rfl) (by rw [hz1]; decide) v xs.length xs (by rw [hz1]; exact hown.1) ⟨bx,0,none⟩ 1 c [.slice ar n cr] (by rw [hz1]; rfl) hn h1 (by unfold maxLen; omega) (by rw [hz2]; omega) hB;have he:=hr.symm.trans hr2;simp only [Result.ok.injEq] at he;obtain ⟨rfl,rfl⟩:=he;refine ⟨v',w',hr,⟨?_,h5⟩,hb.grown h4 hB λ k hk => (hown.1.lt k hk).1,⟨h4,hown.2,hat⟩⟩;unfold OwnS;rw [List.length_append]; rw [hz1] at h3; exact h3
theorem run_app_o (w W:World) (ty:TypeId) (B:Nat) (v:Value) (l:List Qo) (o:Qo) (ao:Option Addr) (c:Nat) (hown:OwnO w B v l) (hB:B<=w.heap.size) (hb:Below B W w) (hm:UQ w ao [o]) (hl:l.length<=100000) :
  ∃ v' w',(Builtin.append_ #[28,28] ty #[v,.slice ao 1 c]).run Tryz.prog w=.ok v' w'/\OwnO w' B v' (l ++ [o])/\Below B W w'/\Grw w w' v v':=by
 obtain ⟨v',w',hr,h1,h2,h3,h4⟩:=run_app_os w W ty B v l [o] ao c hown hB hb hm (by simp) (by simp; omega);obtain ⟨xs,hrow,hno,hel⟩:=hown;obtain ⟨b,off,m1,b1,k1,d1,m2,b2,k2,d2,rfl,hf,hq⟩:=hm 0 o rfl;obtain ⟨i0,hi,hz0,hz1,hz2⟩:=info_parts Tryz.info38;have hn:∀ (j:Nat) (u:Value),[Value.bool m1,.slice b1 k1 d1,.bool m2,.slice b2 k2 d2][j]?=some u->w.cell? ((⟨b,off,none⟩:Addr).add j)=some u:=by
  intro j u hj;have ha:∀ j,(⟨b,off,none⟩:Addr).add j=⟨b,off + j,none⟩:=by
   intro j; unfold Addr.add; split
   ·subst j; rfl
   ·rfl
  rw [ha]
  match j,hj with
  | 0,hj => simp at hj; subst hj; exact hf.c0
  | 1,hj => simp at hj; subst hj; exact hf.c1
  | 2,hj => simp at hj; subst hj; exact hf.c2
  | 3,hj => simp at hj; subst hj; exact hf.c3
  | j + 4,hj => simp at hj
 obtain ⟨v2,w2,hr2,_,_,_,hat⟩:=run_append_own_at (P:=Tryz.prog) w B 28 ty 38 i0 (.agg #[.bool false,.slice none 0 0,.bool false,.slice none 0 0]) i0.size i0.bytes Tryz.underlying28 hi hz0 rfl rfl (by rw [hz1]; rfl) (by rw [hz1]; decide) v l.length xs (by rw [hz1]; exact hrow) ⟨b,off,none⟩ 1 c [.bool m1,.slice b1 k1 d1,.bool m2,.slice b2 k2 d2] (by rw [hz1]; rfl) hn (by intro u hu; simp at hu; rcases hu with rfl | rfl | rfl | rfl <;> rfl) (by unfold maxLen; omega) (by rw [hz2]; omega) hB;have he:=hr.symm.trans hr2;simp only [Result.ok.injEq] at he;obtain ⟨rfl,rfl⟩:=he;exact ⟨v',w',hr,h1,h2,⟨h4,hno,hat⟩⟩
def LowR (B:Nat) (xs:List Value):Prop:=∀ x∈xs,∀ b,x.ownBlock=some b->B<=b
theorem LowR.snoc {B:Nat} {xs:List Value} {x:Value} (h:LowR B xs) (hx:∀ b,x.ownBlock=some b->B<=b):LowR B (xs ++ [x]):=by
 intro y hy;rcases List.mem_append.1 hy with hy | hy
 ·exact h y hy
 ·simp at hy; subst hy; exact hx
structure MS (W:World) (B:Nat) (vA vB vC:Value) (rows:List (List Qo)) (lb lc:List Qo):Prop where
 ex:∃ xs,OwnR W B vA xs/\RowsOf W xs rows/\SepR W xs vA/\SepR W xs vB/\SepR W xs vC/\LowR B xs
 b:OwnO W B vB lb
 c:OwnO W B vC lc
 ab:Sep vA vB
 ac:Sep vA vC
 bc:Sep vB vC
theorem MS.nil (W:World) (B:Nat):MS W B (.slice none 0 0) (.slice none 0 0) (.slice none 0 0) [] [] [] :=
 ⟨⟨[],OwnR.nil _ _,⟨rfl,λ i row h => by simp at h⟩,SepR.nil _ _,SepR.nil _ _,SepR.nil _ _,λ x h => by simp at h⟩,OwnO.nil _ _,OwnO.nil _ _,sep_nil _,sep_nil _,sep_nil _⟩
section
variable {W W' : World} {B : Nat} {vA vB vC : Value} {rows : List (List Qo)} {lb lc : List Qo}
theorem MS.kept {G:Nat->Prop} (h:MS W B vA vB vC rows lb lc) (hk:Kept G W W') (hp:NoG G W) (hG:∀ b,G b->b < B):MS W' B vA vB vC rows lb lc:=by
 obtain ⟨⟨xs,h1,h2,h3,h4,h5,h6⟩,hb,hc,ab,ac,bc⟩:=h;have out:∀ (b:Nat),B<=b->¬ G b:=λ b hb hg => by have:=hG b hg; omega
 refine ⟨⟨xs,h1.kept hk (λ b e => out b (h1.lt b e).1),h2.kept hk hp ?_,h3.mono hk.size,h4.mono hk.size,h5.mono hk.size,h6⟩,hb.kept hk hp (λ b e => out b (hb.lt b e).1),hc.kept hk hp (λ b e => out b (hc.lt b e).1),ab,ac,bc⟩;exact λ x hx b e => out b (h6 x hx b e)
theorem MS.mono (h:MS W B vA vB vC rows lb lc) (hb:Below W.heap.size W W'):MS W' B vA vB vC rows lb lc:=by
 obtain ⟨⟨xs,h1,h2,h3,h4,h5,h6⟩,hB,hC,ab,ac,bc⟩:=h;have hk:Kept (λ _ => False) W W':=.of_below hb;exact ⟨⟨xs,h1.kept hk (λ _ _ h => h),h2.mono hb,h3.mono hb.size,h4.mono hb.size,h5.mono hb.size,h6⟩,hB.mono hb,hC.mono hb,ab,ac,bc⟩
theorem MS.growB {vB':Value} {lb':List Qo} (h:MS W B vA vB vC rows lb lc) (g:Grw W W' vB vB') (hn:OwnO W' B vB' lb'):MS W' B vA vB' vC rows lb' lc:=by
 obtain ⟨⟨xs,h1,h2,h3,h4,h5,h6⟩,hB,hC,ab,ac,bc⟩:=h;have la:=λ b e => (h1.lt b e).2
 have lC:=λ b e => (hC.lt b e).2
 exact ⟨⟨xs,h1.kept g.kept (λ b e => ab b e),h2.kept g.kept g.noG (λ x hx b e => (h4 x hx).2 b e),h3.mono g.grown.size,h4.grw g,h5.mono g.grown.size,h6⟩,hn,hC.kept g.kept g.noG (λ b e => bc.symm b e),ab.grw la g,ac,(bc.symm.grw lC g).symm⟩
theorem MS.growC {vC':Value} {lc':List Qo} (h:MS W B vA vB vC rows lb lc) (g:Grw W W' vC vC') (hn:OwnO W' B vC' lc'):MS W' B vA vB vC' rows lb lc':=by
 obtain ⟨⟨xs,h1,h2,h3,h4,h5,h6⟩,hB,hC,ab,ac,bc⟩:=h;have la:=λ b e => (h1.lt b e).2
 have lB:=λ b e => (hB.lt b e).2
 exact ⟨⟨xs,h1.kept g.kept (λ b e => ac b e),h2.kept g.kept g.noG (λ x hx b e => (h5 x hx).2 b e),h3.mono g.grown.size,h4.mono g.grown.size,h5.grw g,h6⟩,hB.kept g.kept g.noG (λ b e => bc b e),hn,ab,ac.grw la g,bc.grw lB g⟩
theorem MS.run_row (h:MS W B vA vB vC rows lb lc) (X:World) (ty:TypeId) {row:List Qo} {ar:Option Addr} {cr bx c:Nat} (hq:UQ W ar row) (hs:∀ b,(Value.slice ar row.length cr).ownBlock=some b->B<=b/\b < W.heap.size/\vA.ownBlock ≠ some b/\vB.ownBlock ≠ some b/\vC.ownBlock ≠ some b)
  (hB:B<=W.heap.size) (hb:Below B X W) (hc:W.cell? ⟨bx,0,none⟩=some (.slice ar row.length cr)) (hl:rows.length<=1000000) :
  ∃ v' w',(Builtin.append_ #[27,27] ty #[vA,.slice (some ⟨bx,0,none⟩) 1 c]).run Tryz.prog W=.ok v' w'/\MS w' B v' vB vC (rows ++ [row]) lb lc/\Below B X w'/\Grw W w' vA v':=by
 obtain ⟨⟨xs,h1,h2,h3,h4,h5,h6⟩,hB',hC,ab,ac,bc⟩:=h;obtain ⟨v',w',hr,k1,k2,g⟩:=run_app_r W X ty B vA xs ar row.length cr bx c h1 hB hb hc (by rw [h2.1]; exact hl);have lB:=λ b e => (hB'.lt b e).2
 have lC:=λ b e => (hC.lt b e).2
 have ha:∀ a,ar=some a->¬ vA.ownBlock=some a.block:=by rintro a rfl; exact (hs a.block rfl).2.2.1
 have hs':∀ b,(Value.slice ar row.length cr).ownBlock=some b->b < w'.heap.size:=λ b e => Nat.lt_of_lt_of_le (hs b e).2.1 g.grown.size
 have hsv:Sep (.slice ar row.length cr) v':=Sep.grw (W:=W) (λ b e => (hs b e).2.2.1) (λ b e => (hs b e).2.1) g;refine ⟨v',w',hr,⟨⟨_,k1,(h2.kept g.kept g.noG (λ x hx b e => (h3 x hx).2 b e)).snoc (hq.kept g.kept g.noG ha),(h3.grw g).snoc hs' hsv,(h4.mono g.grown.size).snoc hs' (λ b e => (hs b e).2.2.2.1),(h5.mono g.grown.size).snoc hs' (λ b e => (hs b e).2.2.2.2),h6.snoc (λ b e => (hs b e).1)⟩,
  hB'.kept g.kept g.noG (λ b e => ab.symm b e),hC.kept g.kept g.noG (λ b e => ac.symm b e),(ab.symm.grw lB g).symm,(ac.symm.grw lC g).symm,bc⟩,k2,g⟩
theorem MS.prg (h:MS W B vA vB vC rows lb lc):PrgV W (.agg #[vA,vB,vC]) ⟨rows,lb,lc⟩:=by
 obtain ⟨⟨xs,h1,h2,_⟩,hB,hC,_⟩:=h;obtain ⟨aA,cA,rfl,uA⟩:=h1.1.um h2;obtain ⟨aB,cB,rfl,uB⟩:=hB.read;obtain ⟨aC,cC,rfl,uC⟩:=hC.read;exact ⟨aA,cA,aB,cB,aC,cC,rfl,uA,uB,uC⟩
theorem MS.lts (h:MS W B vA vB vC rows lb lc):(∀ b,vA.ownBlock=some b->B<=b/\b < W.heap.size)/\(∀ b,vB.ownBlock=some b->B<=b/\b < W.heap.size)/\(∀ b,vC.ownBlock=some b->B<=b/\b < W.heap.size):=by
 obtain ⟨⟨xs,h1,_⟩,hB,hC,_⟩:=h;exact ⟨h1.lt,hB.lt,hC.lt⟩
end
def UK (k:IntKind) (w:World) (ao:Option Addr) (l:List Int):Prop:=∀ i z,l[i]?=some z->∃ b off,ao=some ⟨b,off,none⟩/\w.cell? ⟨b,off + i,none⟩=some (.int k z)
theorem UK.mono {k:IntKind} {w w':World} {ao:Option Addr} {l:List Int} (h:UK k w ao l) (hb:Below w.heap.size w w'):UK k w' ao l:=by
 intro i s hi;obtain ⟨b,off,e,hc⟩:=h i s hi;exact ⟨b,off,e,(hb.cell (cell_lt hc)).trans hc⟩
def UR (w:World) (ao:Option Addr) (rows:List (List Int)):Prop:=∀ i row,rows[i]?=some row->∃ b off ar cr,ao=some ⟨b,off,none⟩/\w.cell? ⟨b,off + i,none⟩=some (.slice ar row.length cr)/\UK .i8 w ar row
theorem UR.mono {w w':World} {ao:Option Addr} {rows:List (List Int)} (h:UR w ao rows) (hb:Below w.heap.size w w'):UR w' ao rows:=by
 intro i row hi;obtain ⟨b,off,ar,cr,e,hc,hk⟩:=h i row hi;exact ⟨b,off,ar,cr,e,(hb.cell (cell_lt hc)).trans hc,hk.mono hb⟩
theorem Below.put3 {B:Nat} {w w':World} {n:Nat} (h:Below B w w') (hn:B<=n) (x0 x1 x2:Value):Below B w (((w'.setCell ⟨n,0,none⟩ x0).setCell ⟨n,1,none⟩ x1).setCell ⟨n,2,none⟩ x2) :=
 ((h.setCell hn _).setCell hn _).setCell hn _
def m21 (z:Int):Qo:=some ((z.tmod 21:Int):Rat)
def elA (A:List (List Int)) (i k:Nat):Int:=(A.getD i []).getD k 0
def row13 (A:List (List Int)) (n i:Nat):List Qo:=(List.range n).map λ k => m21 (elA A i k)
def prg13 (A:List (List Int)) (B C:List Int):Prg:=⟨(List.range B.length).map (row13 A C.length),B.map m21,C.map m21⟩
def Bad13 (B C:List Int):Prop:=C.length < 1\/8 < C.length\/B.length < 1\/6 < B.length
def Made13 (A:List (List Int)) (B C:List Int) (w':World) (e:Ending):Prop :=
 (Bad13 B C/\e=.returned (.tuple #[.agg #[.slice none 0 0,.slice none 0 0,.slice none 0 0],.bool false])) \/
 (¬ Bad13 B C/\∃ v0 v1 v2,e=.returned (.tuple #[.agg #[v0,v1,v2],.bool true])/\PrgV w' (.agg #[v0,v1,v2]) (prg13 A B C))
theorem range_snoc {α:Type} (f:Nat->α) (k:Nat):(List.range (k + 1)).map f=(List.range k).map f ++ [f k]:=by rw [List.range_succ]; simp
theorem map_snoc {α β:Type} (f:α->β) {l:List α} {k:Nat} {z:α} (h:l[k]?=some z):(l.take (k + 1)).map f=(l.take k).map f ++ [f z]:=by rw [List.take_add_one,h]; simp
theorem tmod21 (z:Int):-21 < z.tmod 21/\z.tmod 21 < 21:=by
 have h1:=Int.tmod_lt_of_pos z (show (0:Int) < 21 by decide);have h2:=Int.tmod_lt_of_pos (-z) (show (0:Int) < 21 by decide);rw [Int.neg_tmod] at h2;omega
theorem wrap21 (z:Int):IntKind.i64.wrap (z.tmod 21)=z.tmod 21:=by
 have h:=tmod21 z;unfold IntKind.wrap;simp [IntKind.bits,IntKind.signed];omega
def PB (W:World) (g:Nat) (vA vB vC:Value) (rows:List (List Qo)) (lb lc:List Qo):Prop:=Row W g 30 [vA,vB,vC]/\MS W (g + 1) vA vB vC rows lb lc/\NoInt vA/\NoInt vB/\NoInt vC
theorem PB.mono {W W':World} {g:Nat} {vA vB vC:Value} {rows:List (List Qo)} {lb lc:List Qo} (h:PB W g vA vB vC rows lb lc) (hb:Below W.heap.size W W'):PB W' g vA vB vC rows lb lc :=
 ⟨h.1.below hb,h.2.1.mono hb,h.2.2⟩
theorem noInt_slice (a:Option Addr) (n c:Nat):NoInt (.slice a n c):=λ k z e => by cases e
theorem noInt_own {w:World} {B e s n:Nat} {v:Value} {xs:List Value} (h:w.ownsRow B e s v n xs):NoInt v:=by
 intro k z e; subst e;rcases h.2 with ⟨h,_⟩ | ⟨_,_,_,h,_⟩ <;> cases h
theorem MS.noInt {W:World} {B:Nat} {vA vB vC:Value} {rows:List (List Qo)} {lb lc:List Qo} (h:MS W B vA vB vC rows lb lc):NoInt vA/\NoInt vB/\NoInt vC:=by
 obtain ⟨⟨xs,h1,_⟩,⟨_,h2,_⟩,⟨_,h3,_⟩,_⟩:=h;exact ⟨noInt_own h1.1,noInt_own h2,noInt_own h3⟩
theorem own_slice {w:World} {B e s n:Nat} {v:Value} {xs:List Value} (h:w.ownsRow B e s v n xs):∃ a n c,v=.slice a n c:=by
 rcases h.2 with ⟨h,_⟩ | ⟨_,_,_,h,_⟩
 ·exact ⟨_,_,_,h⟩
 ·exact ⟨_,_,_,h⟩
theorem MS.slices {W:World} {B:Nat} {vA vB vC:Value} {rows:List (List Qo)} {lb lc:List Qo} (h:MS W B vA vB vC rows lb lc):(∃ a n c,vA=.slice a n c)/\(∃ a n c,vB=.slice a n c)/\∃ a n c,vC=.slice a n c:=by
 obtain ⟨⟨xs,h1,_⟩,⟨_,h2,_⟩,⟨_,h3,_⟩,_⟩:=h;exact ⟨own_slice h1.1,own_slice h2,own_slice h3⟩
theorem PB.write {W:World} {g:Nat} {x0 x1 x2 vA vB vC:Value} {rows:List (List Qo)} {lb lc:List Qo} (hr:Row W g 30 [x0,x1,x2]) (hn:NoInt x0/\NoInt x1/\NoInt x2) (h:MS W (g + 1) vA vB vC rows lb lc) (k:Nat) (x:Value) (hl:[x0,x1,x2].set k x=[vA,vB,vC]) :
  PB (W.setCell ⟨g,k,none⟩ x) g vA vB vC rows lb lc:=by
 have hk:Kept (λ b => b=g) W (W.setCell ⟨g,k,none⟩ x):=(Kept.refl W:Kept (λ b => b=g) W W).setCell (p:=⟨g,k,none⟩) rfl x;have hno:NoG (λ b => b=g) W:=by
  intro b hb cur t fr hc;subst hb;have:=hr.symm.trans hc;simp only [Option.some.injEq,Obj.cells.injEq] at this;obtain ⟨rfl,_,_⟩:=this;intro u hu;simp at hu;rcases hu with rfl | rfl | rfl
  ·exact hn.1
  ·exact hn.2.1
  ·exact hn.2.2
 refine ⟨?_,h.kept hk hno (λ b hb => by omega),h.noInt⟩;rw [<- hl]; exact hr.set k x
theorem Row.noG3 {W:World} {g:Nat} {E:TypeId} {v:Value} (h:Row W g E [v,v,v]) (hv:NoInt v):NoG (λ b => b=g) W:=by
 intro b hb cur t fr hc;subst hb;have:=h.symm.trans hc;simp only [Option.some.injEq,Obj.cells.injEq] at this;obtain ⟨rfl,_,_⟩:=this;intro u hu;simp at hu;subst hu;exact hv
theorem Row.grw {W W':World} {g:Nat} {E:TypeId} {xs:List Value} {v v':Value} (h:Row W g E xs) (gr:Grw W W' v v') (hv:∀ b,v.ownBlock=some b->g + 1<=b):Row W' g E xs :=
 h.mono gr.kept λ e => by have:=hv g e; omega
section
variable {ops : Array Oper} {rest : List Oper} {o : Oper} {a : Act} {Q : Exit → Act → World → Prop}
theorem app_row (W X:World) (g:Nat) (hgd:o.guard=none) (s x:Operand) (ho:o.op=.call { callee:=.builtin .append,args:=#[s,x],argTypes:=#[27,27] })
  {vA vB vC:Value} {rows:List (List Qo)} {lb lc row:List Qo} {ar:Option Addr} {n cr:Nat} (hn:n=row.length) (hs:a.eval s=vA) (hx:a.eval x=.slice (some ⟨W.heap.size,0,none⟩) 1 1) (h:PB W g vA vB vC rows lb lc)
  (hq:UQ W ar row) (hsp:∀ b,(Value.slice ar n cr).ownBlock=some b->g + 1<=b/\b < W.heap.size/\vA.ownBlock ≠ some b/\vB.ownBlock ≠ some b/\vC.ownBlock ≠ some b)
  (hb:Below (g + 1) X W) (hl:rows.length<=1000000)
  (hK:∀ a' n' c' w',Row w' g 30 [vA,vB,vC]->MS w' (g + 1) (.slice a' n' c') vB vC (rows ++ [row]) lb lc->Below (g + 1) X w'->W.heap.size<=w'.heap.size->wpList Tryz.prog ops Q rest (a.put o.dst (.slice a' n' c')) w') :
  wpList Tryz.prog ops Q (o :: rest) a (W.alloc (.cells #[.slice ar n cr] 28)):=by
 subst hn;have hba:=bA W (.cells #[.slice ar row.length cr] 28);have hg:g < W.heap.size:=h.1.lt;have h2:=h.mono hba;have hsz:W.heap.size<=(W.alloc (.cells #[.slice ar row.length cr] 28)).heap.size:=hba.size;obtain ⟨v',w',hr,h3,h4,gr⟩:=h2.2.1.run_row X o.type (bx:=W.heap.size) (c:=1) (hq.mono hba) (λ b e => ⟨(hsp b e).1,Nat.lt_of_lt_of_le (hsp b e).2.1 hsz,(hsp b e).2.2⟩) (by omega) (hb.alloc (by omega) _) (by simp [go_sem]) hl;refine wpList_plain hgd λ K hK' => ?_
 unfold Oper.wp;simp [execOp,ho,resolve,invoke,builtin,hs,hx,hr,Result.andThen];obtain ⟨⟨a',n',c',rfl⟩,_⟩:=h3.slices;exact hK' _ _ (hK a' n' c' w' (h2.1.grw gr λ b e => (h2.2.1.lts.1 b e).1) h3 h4 (Nat.le_trans hsz gr.grown.size))
theorem uq_one {w:World} {n1:Bool} {a1:Option Addr} {l1 c1:Nat} {n2:Bool} {a2:Option Addr} {l2 c2:Nat} {q:Rat} (hr:RatV w (.agg #[.bool n1,.slice a1 l1 c1,.bool n2,.slice a2 l2 c2]) q) :
  UQ (w.alloc (.cells #[.bool n1,.slice a1 l1 c1,.bool n2,.slice a2 l2 c2] 38)) (some ⟨w.heap.size,0,none⟩) [some q]:=by
 have r:Row (w.alloc (.cells #[.bool n1,.slice a1 l1 c1,.bool n2,.slice a2 l2 c2] 38)) w.heap.size 38 [.bool n1,.slice a1 l1 c1,.bool n2,.slice a2 l2 c2]:=heap_alloc_new _ _;intro i o hi
 match i,hi with
 | 0,hi =>
  simp at hi; subst hi;exact ⟨_,0,n1,a1,l1,c1,n2,a2,l2,c2,rfl,⟨r.n4.1,r.n4.2.1,r.n4.2.2.1,r.n4.2.2.2,trivial,trivial,trivial,trivial⟩,hr.mono (bA _ _)⟩
 | i + 1,hi => simp at hi
theorem app_o1 (w W:World) {n1:Bool} {a1:Option Addr} {l1 c1:Nat} {n2:Bool} {a2:Option Addr} {l2 c2:Nat} {q:Rat} (hgd:o.guard=none) (s x:Operand) (ho:o.op=.call { callee:=.builtin .append,args:=#[s,x],argTypes:=#[28,28] })
  (B:Nat) (v:Value) (l:List Qo) (hs:a.eval s=v) (hown:OwnO w B v l) (hB:B<=w.heap.size) (hb:Below B W w) (hr:RatV w (.agg #[.bool n1,.slice a1 l1 c1,.bool n2,.slice a2 l2 c2]) q)
  (hx:a.eval x=.slice (some ⟨w.heap.size,0,none⟩) 1 1) (hl:l.length<=100000)
  (hK:∀ v' w',OwnO w' B v' (l ++ [some q])->Below B W w'->wpList Tryz.prog ops Q rest (a.put o.dst v') w') :
  wpList Tryz.prog ops Q (o :: rest) a (w.alloc (.cells #[.bool n1,.slice a1 l1 c1,.bool n2,.slice a2 l2 c2] 38)):=by
 have hba:=bA w (.cells #[.bool n1,.slice a1 l1 c1,.bool n2,.slice a2 l2 c2] 38);have hsz:=hba.size;obtain ⟨v',w',hr',h1,h2,_⟩:=run_app_o _ W o.type B v l (some q) _ 1 (hown.mono hba) (by omega) (hb.alloc hB _) (uq_one hr) hl;refine wpList_plain hgd λ K hK' => ?_
 unfold Oper.wp;simp [execOp,ho,resolve,invoke,builtin,hs,hx,hr',Result.andThen];exact hK' _ _ (hK v' w' h1 h2)
end
theorem made13_any (A:List (List Int)) (B C:List Int) (aA aB aC:Option Addr) (cA cB cC:Nat) (w:World) (hA:A.length<=9223372036854775807) (hB:B.length<=9223372036854775807) (hC:C.length<=9223372036854775807)
  (hAl:Hid (∀ row∈A,row.length<=9223372036854775807)) (hAr:Hid (∀ row∈A,∀ z∈row,-128<=z/\z<=127)) (hBr:Hid (∀ z∈B,0<=z/\z<=255)) (hCr:Hid (∀ z∈C,-128<=z/\z<=127)) (uA:UR w aA A) (uB:UK .u8 w aB B) (uC:UK .i8 w aC C) (hE:Env w) :
  Calls Tryz.prog 10 #[.agg #[.slice aA A.length cA,.slice aB B.length cB,.slice aC C.length cC]] w λ e w' => Made13 A B C w' e/\Below w.heap.size w w':=by
 have hbw:=Below.refl w.heap.size w;go_enter Tryz.func10,Tryz.ntmps10;go_upto_region 1 with fail;obtain ⟨wx,hwx,rD,rP,hb⟩:=two_rows w 26 30 [.slice aA A.length cA,.slice aB B.length cB,.slice aC C.length cC] [.slice none 0 0,.slice none 0 0,.slice none 0 0];simp only [List.toArray] at hwx;rw [<- hwx];clear hwx;obtain ⟨g2,hg2⟩:=exi (w.heap.size + 1);have Hg2:Hid (w.heap.size<=g2):=hii (by omega);rw [<- hg2] at rP |-;clear hg2;obtain ⟨g,hg⟩:=exi (w.heap.size);rw [<- hg] at rD |-;clear hg;obtain ⟨w1,rfl⟩:=exi wx;have uA:=uA.mono hb;have uB:=uB.mono hb;have uC:=uC.mono hb;have hE:=hE.mono hb;have hbw:=bu hbw hb;clear hb;refine wp_region_vals (wx:=w1) [(λ _ v => v=.pointer (some ⟨g,2,none⟩)),(λ _ v => v=.slice aC C.length cC),(λ _ v => v=.int .i64 C.length),(λ _ v => v=.pointer (some ⟨g,1,none⟩)),(λ _ v => v=.slice aB B.length cB),(λ _ v => v=.int .i64 B.length),(λ _ v => v=.int .i64 C.length),(λ _ v => v=.int .i64 B.length)] [12,13,14,15,16,17,4,5] (by kernel_rfl) (by kernel_rfl) (by kernel_rfl) (of_decide_eq_true (by kernel_rfl)) br ⟨sV _,sV _,sV _,sV _,sV _,sV _,sV _,sV _,trivial⟩ ⟨?s0,?s1,?s2,?s3,?s4,?s5,?s6,?s7,trivial⟩ ?he
 case' s0 | s1 | s2 | s3 | s4 | s5 | s6 | s7 =>
  rintro T W hb hA K hK
 case' s0 | s3 =>
  simp only [ovr,Act.put,sT,sZ,sS] at hK |-
 case' s2 =>
  have e1:T 13=.slice aC C.length cC:=hA.1;simp only [ovr,Act.put,sT,sZ,sS,e1] at hK |-
 case' s5 =>
  have e4:T 16=.slice aB B.length cB:=hA.1;simp only [ovr,Act.put,sT,sZ,sS,e4] at hK |-
 case' s6 =>
  have e2:T 14=.int .i64 C.length:=hA.1;simp only [ovr,Act.put,sT,sZ,sS,e2] at hK |-
 case' s7 =>
  have e5:T 17=.int .i64 B.length:=hA.1;simp only [ovr,Act.put,sT,sZ,sS,e5] at hK |-
 case' s1 =>
  have e0:T 12=.pointer (some ⟨g,2,none⟩):=hA.1;simp only [ovr,Act.put,sT,sZ,sS,e0] at hK |-;have HK:=hii hK;clear hK hA;obtain ⟨x0,x1,x2⟩:=(rD.below hb).n3
 case' s4 =>
  have e3:T 15=.pointer (some ⟨g,1,none⟩):=hA.1;simp only [ovr,Act.put,sT,sZ,sS,e3] at hK |-;have HK:=hii hK;clear hK hA;obtain ⟨x0,x1,x2⟩:=(rD.below hb).n3
 case s0 | s2 | s3 | s5 | s6 | s7 =>
  have HK:=hii hK;clear hK hA;refine wO rfl (by rfl) ?_;go_simp;exact HK.out _ _ br (rfl)
 case s1 | s4 =>
  refine wO rfl (by rfl) ?_;go_simp;exact HK.out _ _ br (rfl)
 case he =>
  rintro T W hb hA;have f6:T 4=.int .i64 C.length:=hA.at 6 (by decide);have f7:T 5=.int .i64 B.length:=hA.at 7 (by decide);simp only [ovr,sT,sZ,sS,f6,f7];clear hA f6 f7;obtain ⟨wb,rfl⟩:=exi W;have uA:=uA.mono hb;have uB:=uB.mono hb;have uC:=uC.mono hb;have hE:=hE.mono hb;have rD:=rD.below hb;have rP:=rP.below hb;have hbw:=bu hbw hb;clear hb;have rP0:=hii rP.lt
  by_cases h1:(C.length:Int) < 1
  ·obtain ⟨p0,p1,p2⟩:=rP.n3;have q0:=rP.free 0;have q1:=rP.free 1;have q2:=rP.free 2;go_wp2;refine bodyPost_ret (v:=.tuple #[.agg #[.slice none 0 0,.slice none 0 0,.slice none 0 0],.bool false]) (by simp [results,Tryz.results10,go_sem,p0,p1,p2]) rfl ⟨.inl ⟨by unfold Bad13; omega,rfl⟩,Below.put3 hbw Hg2.out _ _ _⟩
  ·by_cases h2:(8:Int) < (C.length:Int)
   ·obtain ⟨p0,p1,p2⟩:=rP.n3;have q0:=rP.free 0;have q1:=rP.free 1;have q2:=rP.free 2;go_wp2;refine bodyPost_ret (v:=.tuple #[.agg #[.slice none 0 0,.slice none 0 0,.slice none 0 0],.bool false]) (by simp [results,Tryz.results10,go_sem,p0,p1,p2]) rfl ⟨.inl ⟨by unfold Bad13; omega,rfl⟩,Below.put3 hbw Hg2.out _ _ _⟩
   ·by_cases h3:(B.length:Int) < 1
    ·obtain ⟨p0,p1,p2⟩:=rP.n3;have q0:=rP.free 0;have q1:=rP.free 1;have q2:=rP.free 2;go_wp2;refine bodyPost_ret (v:=.tuple #[.agg #[.slice none 0 0,.slice none 0 0,.slice none 0 0],.bool false]) (by simp [results,Tryz.results10,go_sem,p0,p1,p2]) rfl ⟨.inl ⟨by unfold Bad13; omega,rfl⟩,Below.put3 hbw Hg2.out _ _ _⟩
    ·by_cases h4:(6:Int) < (B.length:Int)
     ·obtain ⟨p0,p1,p2⟩:=rP.n3;have q0:=rP.free 0;have q1:=rP.free 1;have q2:=rP.free 2;go_wp2;refine bodyPost_ret (v:=.tuple #[.agg #[.slice none 0 0,.slice none 0 0,.slice none 0 0],.bool false]) (by simp [results,Tryz.results10,go_sem,p0,p1,p2]) rfl ⟨.inl ⟨by unfold Bad13; omega,rfl⟩,Below.put3 hbw Hg2.out _ _ _⟩
     ·have HN8:=hii h2;have HM6:=hii h4;have HBad:Hid (¬ Bad13 B C):=hii (by unfold Bad13; omega);go_upto_region 5 with fail;clear h1 h2 h3 h4;have hb:=bA wb (.cells #[.slice none 0 0,.slice none 0 0,.slice none 0 0] 30);have rG:Row (wb.alloc (.cells #[.slice none 0 0,.slice none 0 0,.slice none 0 0] 30)) wb.heap.size 30 [.slice none 0 0,.slice none 0 0,.slice none 0 0]:=heap_alloc_new _ _;have Hsz:Hid ((wb.alloc (.cells #[.slice none 0 0,.slice none 0 0,.slice none 0 0] 30)).heap.size=wb.heap.size + 1):=hii (by simp);obtain ⟨g6,hg⟩:=exi (wb.heap.size);rw [<- hg] at rG |-;have Hg6:=hii hg;clear hg;generalize wb.alloc (.cells #[.slice none 0 0,.slice none 0 0,.slice none 0 0] 30)=w4 at *;have hPB:PB w4 g6 (.slice none 0 0) (.slice none 0 0) (.slice none 0 0) [] [] []:=⟨rG,MS.nil _ _,noInt_slice _ _ _,noInt_slice _ _ _,noInt_slice _ _ _⟩;clear rG;go_wp2_with fail;go_loopw [7] (λ s wr => ∃ k:Nat,k<=B.length/\s=.int .i64 k/\(∃ vA vB,PB wr g6 vA vB (.slice none 0 0) ((List.range k).map (row13 A C.length)) ((B.take k).map m21) [])/\Below wb.heap.size wb wr) (λ s _ => B.length - (intOf s).toNat)
      case atStart => exact ⟨0,Nat.zero_le _,rfl,⟨_,_,hPB⟩,hb⟩
      case round =>
       clear hPB hb;obtain ⟨k,hk,rfl,⟨vA,vB,hP⟩,hbr⟩:=hrel
       by_cases hlt:k < B.length
       ·obtain ⟨wo,rfl⟩:=exi wr;have uA1:=uA.mono hbr;have hE1:=hE.mono hbr;have rD1:=rD.below hbr;have HgB:Hid (g6 + 1<=wo.heap.size):=hii hP.1.lt;go_wp2_with fail;go_loopw [8,9] (λ s c wr => ∃ j:Nat,j<=C.length/\c=.int .i64 j/\OwnO wr wo.heap.size s ((List.range j).map λ j => m21 (elA A k j))/\Below wo.heap.size wo wr) (λ _ c _ => C.length - (intOf c).toNat)
        case atStart => exact ⟨0,Nat.zero_le _,rfl,OwnO.nil _ _,br⟩
        case round =>
         obtain ⟨j,hj,rfl,hown,hbi⟩:=hrel
         by_cases hjl:j < C.length
         ·have uA2:=uA1.mono hbi;have hE2:=hE1.mono hbi;obtain ⟨x0,x1,x2⟩:=(rD1.below hbi).n3;have HS:=hii (range_snoc (λ j => m21 (elA A k j)) j)
          by_cases ha:(k:Int) < (A.length:Int)
          ·obtain ⟨row,hrow⟩:∃ r,A[k]?=some r:=⟨A[k]'(by omega),gE _⟩;obtain ⟨b,off,ar,cr,ea,hc1,ur⟩:=uA2 k row hrow;have Hrow:=hii hrow;clear hrow uA2;subst ea
           by_cases hr:(j:Int) < (row.length:Int)
           ·obtain ⟨z,hz⟩:∃ z,row[j]?=some z:=⟨row[j]'(by omega),gE _⟩;obtain ⟨b2,off2,ea,hc2⟩:=ur j z hz;have HZ:Hid (elA A k j=z):=hii (by unfold elA; rw [List.getD_eq_getElem?_getD,List.getD_eq_getElem?_getD,Hrow.out]; simp [hz]);have HzR:=hii (hAr.out row (List.mem_of_getElem? Hrow.out) z (List.mem_of_getElem? hz));clear hz ur;subst ea;go_wp2_with fail;rw [show wrap64 (z.tmod 21)=z.tmod 21 by unfold wrap64; have:=tmod21 z; omega];(with_reducible refine (rnum_any (z.tmod 21) (by have:=tmod21 z; omega) (by have:=tmod21 z; omega) wr hE2).mono ?_);rintro e v1 ⟨hz,hb⟩;obtain ⟨ng,ao,nn,cap,nh,ap,m,caq,rfl,h1,h2⟩:=hz;have hown:=hown.mono hb;have hbi:=bu hbi hb;have hsz:=hbi.size;clear hb x0 x1 x2;go_wp2_with (at_builtin; go_loud (refine app_o1 _ wo rfl (.tmp 66) (.tmp 71) rfl wo.heap.size _ _ rfl hown hsz hbi (RatV.mk' h1 h2) rfl (by have:=HN8.out; simp; omega) ?_); intro v3 w3 hown3 hbel3);go_roundw
            case rel => exact ⟨j + 1,by omega,by go_num,by rw [HS.out,HZ.out]; exact hown3,hbel3⟩
            case measure => simp [intOf]; omega
           ·have HZ:Hid (elA A k j=0):=hii (by unfold elA; rw [List.getD_eq_getElem?_getD,List.getD_eq_getElem?_getD,Hrow.out]; simp only [Option.getD_some]; rw [List.getElem?_eq_none (show row.length<=j by omega)]; rfl);clear ur;go_wp2_with fail;(with_reducible refine (rnum_any (0) (by have:=tmod21 0; omega) (by have:=tmod21 0; omega) wr hE2).mono ?_);rintro e v1 ⟨hz,hb⟩;obtain ⟨ng,ao,nn,cap,nh,ap,m,caq,rfl,h1,h2⟩:=hz;have hown:=hown.mono hb;have hbi:=bu hbi hb;have hsz:=hbi.size;clear hb x0 x1 x2;go_wp2_with (at_builtin; go_loud (refine app_o1 _ wo rfl (.tmp 66) (.tmp 71) rfl wo.heap.size _ _ rfl hown hsz hbi (RatV.mk' h1 h2) rfl (by have:=HN8.out; simp; omega) ?_); intro v3 w3 hown3 hbel3);go_roundw
            case rel => exact ⟨j + 1,by omega,by go_num,by rw [HS.out,HZ.out]; exact hown3,hbel3⟩
            case measure => simp [intOf]; omega
          ·have HZ:Hid (elA A k j=0):=hii (by unfold elA; rw [List.getD_eq_getElem?_getD,List.getD_eq_getElem?_getD,List.getElem?_eq_none (show A.length<=k by omega)]; simp);clear uA2;go_wp2_with fail;(with_reducible refine (rnum_any (0) (by have:=tmod21 0; omega) (by have:=tmod21 0; omega) wr hE2).mono ?_);rintro e v1 ⟨hz,hb⟩;obtain ⟨ng,ao,nn,cap,nh,ap,m,caq,rfl,h1,h2⟩:=hz;have hown:=hown.mono hb;have hbi:=bu hbi hb;have hsz:=hbi.size;clear hb x0 x1 x2;go_wp2_with (at_builtin; go_loud (refine app_o1 _ wo rfl (.tmp 66) (.tmp 71) rfl wo.heap.size _ _ rfl hown hsz hbi (RatV.mk' h1 h2) rfl (by have:=HN8.out; simp; omega) ?_); intro v3 w3 hown3 hbel3);go_roundw
           case rel => exact ⟨j + 1,by omega,by go_num,by rw [HS.out,HZ.out]; exact hown3,hbel3⟩
           case measure => simp [intOf]; omega
         ·obtain rfl:j=C.length:=by omega
          have hlt2:=hown.lt;have hPi:=hP.mono hbi;have HP:=hii hP;obtain ⟨ar,cr,rfl,uq⟩:=hown.read;have e1:((List.range C.length).map (λ j => m21 (elA A k j))).length=C.length:=by simp
          rw [e1] at hlt2 |-;clear e1 hown hj hjl;have hsp:Hid (∀ b,(Value.slice ar C.length cr).ownBlock=some b->g6 + 1<=b/\b < wr.heap.size/\vA.ownBlock ≠ some b/\vB.ownBlock ≠ some b/\(Value.slice none 0 0).ownBlock ≠ some b):=hii λ b e => by
           have h1:=hlt2 b e;have h2:=HgB.out;refine ⟨by omega,h1.2,λ e2 => ?_,λ e2 => ?_,λ e2 => by simp [Value.ownBlock] at e2⟩
           ·have:=(HP.out.2.1.lts.1 b e2).2; omega
           ·have:=(HP.out.2.1.lts.2.1 b e2).2; omega
          obtain ⟨y0,y1,y2⟩:=hPi.1.n3;have HPi:=hii hPi;clear hlt2 hPi hP uA1;have Hbi:=hii (bu hbr hbi);clear hbr hbi;go_upto_region 17 with (at_builtin; go_loud (refine app_row wr wr g6 rfl (.tmp 74) (.tmp 76) rfl (row:=row13 A C.length k) (by simp [row13]) rfl rfl HPi.out uq hsp.out br (by have:=HM6.out; simp; omega) ?_); intro a3 n3 c3 w3 r3 h3 hb3 hsz3; clear y0 y1 y2; obtain ⟨y0,y1,y2⟩:=r3.n3; have q0:=r3.free 0);have hP5:PB (w3.setCell ⟨g6,0,none⟩ (.slice a3 n3 c3)) g6 (.slice a3 n3 c3) vB (.slice none 0 0) ((List.range k).map (row13 A C.length) ++ [row13 A C.length k]) ((B.take k).map m21) []:=PB.write r3 HPi.out.2.2 h3 0 (.slice a3 n3 c3) rfl;have hgl:wb.heap.size<=g6:=by have:=Hg6.out; omega
          have hb5:Below wb.heap.size wb (w3.setCell ⟨g6,0,none⟩ (.slice a3 n3 c3)):=(Hbi.out.trans (hb3.mono (by omega))).setCell (p:=⟨g6,0,none⟩) hgl (.slice a3 n3 c3);clear y0 y1 y2 q0 hb3 hsz3 r3 h3;generalize w3.setCell ⟨g6,0,none⟩ (.slice a3 n3 c3)=w5 at *;rw [<- range_snoc] at hP5;have HN3:=hii hP5.2.2;have HL5:Hid (((B.take k).map m21).length<=100000):=hii (by have:=HM6.out; simp; omega);have Hgl:=hii hgl;obtain ⟨z,hz⟩:∃ x,B[k]?=some x:=⟨B[k]'(by omega),gE _⟩;have HLS:=hii (map_snoc m21 hz);obtain ⟨b0,off0,ea,hcB⟩:=uB k z hz;have HzB:=hii (hBr.out z (List.mem_of_getElem? hz));have HcB:=hii hcB;clear hz hcB;subst ea;obtain ⟨RW,hRW⟩:∃ R,R=(List.range (k + 1)).map (row13 A C.length):=⟨_,rfl⟩;obtain ⟨LB,hLB⟩:∃ R,R=(B.take k).map m21:=⟨_,rfl⟩;rw [<- hRW,<- hLB] at hP5;rw [<- hLB] at HL5 HLS;have HRW:=hii hRW;clear hRW hLB hgl;refine wp_region_useq (wx:=wb) [(λ _ v => v=.pointer (some ⟨g6,1,none⟩)),(λ W v => v=vB/\PB W g6 (.slice a3 n3 c3) vB (.slice none 0 0) RW LB []),(λ _ v => v=.pointer (some ⟨g,1,none⟩)),(λ _ v => v=.slice (some ⟨b0,off0,none⟩) B.length cB),(λ _ v => v=.int .i64 k),(λ _ v => v=.pointer (some ⟨b0,off0 + k,none⟩)),(λ _ v => v=.int .u8 z),(λ _ v => v=.int .u8 (z.tmod 21)),(λ _ v => v=.int .i64 (z.tmod 21)),(λ W v => RatV W v ((z.tmod 21:Int):Rat)),(λ W v => ∃ n,v=.slice (some ⟨n,0,none⟩) 1 1/\UQ W (some ⟨n,0,none⟩) [m21 z]),(λ W v => Row W g6 30 [.slice a3 n3 c3,vB,.slice none 0 0]/\MS W (g6 + 1) (.slice a3 n3 c3) v (.slice none 0 0) RW (LB ++ [m21 z]) []),(λ _ v => v=.pointer (some ⟨g6,1,none⟩)),(λ W _ => ∃ v,PB W g6 (.slice a3 n3 c3) v (.slice none 0 0) RW (LB ++ [m21 z]) [])] [none,some 11,none,none,none,none,none,none,none,some 10,some 11,some 13,none,none] 10 [true,false,true,true,true,true,true,true,true,false,false,false,true,false] [some 79,some 80,some 81,some 82,some 83,some 84,some 85,some 86,some 87,some 88,some 89,some 90,some 91,none] [79,80,81,82,83,84,85,86,87,88,89,90,91] 1 80 (λ W _ => PB W g6 (.slice a3 n3 c3) vB (.slice none 0 0) RW LB []) (by decide) (by kernel_rfl) (by kernel_rfl) (by kernel_rfl) (by kernel_rfl) (of_decide_eq_true (by kernel_rfl)) (by kernel_rfl) (by kernel_rfl) (hP5.mono br.drew) (λ _ _ _ h hb => h.mono hb) (hb5) ⟨sV _,λ _ _ _ h hb => ⟨h.1,h.2.mono hb⟩,sV _,sV _,sV _,sV _,sV _,sV _,sV _,λ _ _ _ h hb => h.mono hb,λ _ _ _ ⟨n,e,h⟩ hb => ⟨n,e,h.mono hb⟩,λ _ _ _ h hb => ⟨h.1.below hb,h.2.mono hb⟩,sV _,λ _ _ _ ⟨v,h⟩ hb => ⟨v,h.mono hb⟩,trivial⟩ ⟨λ _ => cV _,(λ h => absurd h (by decide)),λ _ => cV _,λ _ => cV _,λ _ => cV _,λ _ => cV _,λ _ => cV _,λ _ => cV _,λ _ => cV _,(λ h => absurd h (by decide)),(λ h => absurd h (by decide)),(λ h => absurd h (by decide)),λ _ => cV _,(λ h => absurd h (by decide)),trivial⟩ ⟨?s0,?s1,?s2,?s3,?s4,?s5,?s6,?s7,?s8,?s9,?s10,?s11,?s12,?s13,trivial⟩ ?he
          case' s0 | s2 | s3 | s4 | s5 | s6 | s7 | s8 | s9 | s10 | s11 | s12 | s13 =>
           rintro T W hb - hA K hK
          case' s0 | s2 | s4 | s12 =>
           simp only [ovr,Act.put,sT,sZ,sS] at hK |-
          case' s3 =>
           have e2:T 81=.pointer (some ⟨g,1,none⟩):=hA.1 (by decide);obtain ⟨x0,x1,x2⟩:=(rD.below hb).n3;simp only [ovr,Act.put,sT,sZ,sS,e2] at hK |-
          case' s5 =>
           have e3:T 82=.slice (some ⟨b0,off0,none⟩) B.length cB:=hA.1 (by decide);have e4:T 83=.int .i64 k:=hA.2.1 (by decide);simp only [ovr,Act.put,sT,sZ,sS,e3,e4] at hK |-
          case' s6 =>
           have e5:T 84=.pointer (some ⟨b0,off0 + k,none⟩):=hA.1 (by decide);have hcz:=(hb.cell (p:=⟨b0,off0 + k,none⟩) (cell_lt HcB.out)).trans HcB.out;simp only [ovr,Act.put,sT,sZ,sS,e5] at hK |-
          case' s7 =>
           have e6:T 85=.int .u8 z:=hA.1 (by decide);have hzb:=HzB.out;have hz21:=tmod21 z;simp only [ovr,Act.put,sT,sZ,sS,e6] at hK |-
          case s0 | s2 | s3 | s4 | s5 | s6 | s7 | s12 =>
           have HK:=hii hK;clear hK hA;refine wO rfl (by rfl) ?_;go_simp;exact HK.out _ _ ⟨hb,λ _ => br⟩ rfl
          case s1 =>
           rintro T W hb hp hA K hK;have e0:T 79=.pointer (some ⟨g6,1,none⟩):=hA.1 (by decide);have hp:=hp rfl;obtain ⟨y0,y1,y2⟩:=hp.1.n3;simp only [ovr,Act.put,sT,sZ,sS,e0] at hK |-;have HK:=hii hK;clear hK hA;refine wO rfl (by rfl) ?_;go_simp;exact HK.out _ _ ⟨hb,λ _ => br⟩ (⟨rfl,hp⟩)
          case s8 =>
           have e7:T 86=.int .u8 (z.tmod 21):=hA.1 (by decide);simp only [ovr,Act.put,sT,sZ,sS,e7] at hK |-;have HK:=hii hK;clear hK hA;refine wO rfl (by rfl) ?_;go_simp;exact HK.out _ _ ⟨hb,λ _ => br⟩ ((congrArg (Value.int IntKind.i64) (wrap21 z)))
          case s9 =>
           have e8:T 87=.int .i64 (z.tmod 21):=hA.1 (by decide);simp only [ovr,Act.put,sT,sZ,sS,e8] at hK |-;have HK:=hii hK;clear hK hA;refine wO rfl (by rfl) ?_;go_simp;(with_reducible refine (rnum_any (z.tmod 21) (by have:=tmod21 z; omega) (by have:=tmod21 z; omega) W (hE.mono hb)).mono ?_);rintro e w1 ⟨hz,hb1⟩;obtain ⟨n1,a1,l1,c1,n2,a2,l2,c2,rfl,h1,h2⟩:=hz
           try dsimp only
           exact HK.out _ _ ⟨bu hb hb1,λ _ => hb1⟩ (RatV.mk' h1 h2)
          case s10 =>
           have r9:((λ W v => RatV W v ((z.tmod 21:Int):Rat)):World->Value->Prop) W (T 88):=hA.1 (by decide);have hv9:=r9;obtain ⟨n1,a1,l1,c1,n2,a2,l2,c2,e9,h1,h2⟩:=hv9;rw [e9] at r9;have R9:=hii r9;clear h1 h2 r9;simp only [ovr,Act.put,sT,sZ,sS,e9] at hK |-;have HK:=hii hK;clear hK hA;refine wO rfl (by rfl) ?_;go_simp;obtain ⟨w1,hw1⟩:∃ w1,w1=W.alloc (.cells #[.bool n1,.slice a1 l1 c1,.bool n2,.slice a2 l2 c2] 38):=⟨_,rfl⟩;have hb1:Below W.heap.size W w1:=by rw [hw1]; exact bA W _
           have huq:UQ w1 (some ⟨W.heap.size,0,none⟩) [m21 z]:=by rw [hw1]; exact uq_one R9.out
           rw [<- hw1]
           try dsimp only
           exact HK.out _ _ ⟨bu hb hb1,λ _ => hb1⟩ (⟨_,rfl,huq⟩)
          case s11 =>
           have r1:((λ W v => v=vB/\PB W g6 (.slice a3 n3 c3) vB (.slice none 0 0) RW LB []):World->Value->Prop) W (T 80):=hA.1 (by decide);have r10:((λ W v => ∃ n,v=.slice (some ⟨n,0,none⟩) 1 1/\UQ W (some ⟨n,0,none⟩) [m21 z]):World->Value->Prop) W (T 89):=hA.2.1 (by decide);simp only [ovr,Act.put,sT,sZ,sS] at hK |-;have HK:=hii hK;clear hK hA;obtain ⟨e1,hPB⟩:=r1;obtain ⟨n10,e10,huq⟩:=r10;obtain ⟨v1,w1,hr,ho,hbb,gr⟩:=run_app_o W W 28 (g6 + 1) vB LB (m21 z) (some ⟨n10,0,none⟩) 1 hPB.2.1.b hPB.1.lt br huq HL5.out;rw [<- e1,<- e10] at hr;have hbw1:Below wb.heap.size wb w1:=hb.trans (hbb.mono (by have:=Hgl.out; omega));refine wO rfl (by rfl) ?_;refine oper_append _ _ rfl rfl rfl hr ?_;simp only [Act.put,List.setIfInBounds_toArray,List.set_cons_zero,List.set_cons_succ];exact HK.out _ _ ⟨hbw1,λ h => absurd h (by decide)⟩ (⟨hPB.1.grw gr (λ b e => (hPB.2.1.lts.2.1 b e).1),hPB.2.1.growB gr ho⟩)
          case s13 =>
           have e12:T 91=.pointer (some ⟨g6,1,none⟩):=hA.1 (by decide);have r11:((λ W v => Row W g6 30 [.slice a3 n3 c3,vB,.slice none 0 0]/\MS W (g6 + 1) (.slice a3 n3 c3) v (.slice none 0 0) RW (LB ++ [m21 z]) []):World->Value->Prop) W (T 90):=hA.2.1 (by decide);obtain ⟨hR,hM⟩:=r11;obtain ⟨a9,n9,c9,e11⟩:=hM.slices.2.1;rw [e11] at hM;obtain ⟨y0,y1,y2⟩:=hR.n3;have q1:=hR.free 1;simp only [ovr,Act.put,sT,sZ,sS,e12,e11] at hK |-;have HK:=hii hK;clear hK hA;refine wO rfl (by rfl) ?_;go_simp;exact HK.out undef _ ⟨hb.setCell (p:=⟨g6,1,none⟩) Hgl.out _,λ h => absurd h (by decide)⟩ (⟨.slice a9 n9 c9,PB.write hR HN3.out hM 1 _ rfl⟩)
          case he =>
           rintro T W hb hA;obtain ⟨v6,hP6⟩:=(hA.of 13 (by decide) (by decide):∃ v,PB W g6 (.slice a3 n3 c3) v (.slice none 0 0) RW (LB ++ [m21 z]) []);simp only [ovr,sT,sZ,sS];rw [<- HLS.out] at hP6;clear hA hP5 hb5;go_wp2;go_roundw
           case rel => exact ⟨k + 1,by omega,by go_num,⟨_,_,by rw [<- HRW.out]; exact hP6⟩,hb⟩
           case measure => simp [intOf]; omega
       ·obtain rfl:k=B.length:=by omega
        rw [List.take_length] at hP;obtain ⟨w7,rfl⟩:=exi wr;clear hk hlt;obtain ⟨RW,hRW⟩:∃ R,R=(List.range B.length).map (row13 A C.length):=⟨_,rfl⟩;obtain ⟨LB,hLB⟩:∃ R,R=B.map m21:=⟨_,rfl⟩;rw [<- hRW,<- hLB] at hP;have HRW:=hii hRW;have HLB:=hii hLB;clear hRW hLB;go_wp2_with fail;go_loopw [11] (λ s wr => ∃ k:Nat,k<=C.length/\s=.int .i64 k/\(∃ vC,PB wr g6 vA vB vC RW LB ((C.take k).map m21))/\Below wb.heap.size wb wr) (λ s _ => C.length - (intOf s).toNat)
        case atStart => exact ⟨0,Nat.zero_le _,rfl,⟨_,hP⟩,hbr⟩
        case round =>
         clear hP hbr;obtain ⟨k,hk,rfl,⟨vC,hP5⟩,hb5⟩:=hrel
         by_cases hlt:k < C.length
         ·go_upto_region 21 with fail;have hgl:wb.heap.size<=g6:=by have:=Hg6.out; omega
          have HN3:=hii hP5.2.2;have HL5:Hid (((C.take k).map m21).length<=100000):=hii (by have:=HN8.out; simp; omega);have Hgl:=hii hgl;obtain ⟨z,hz⟩:∃ x,C[k]?=some x:=⟨C[k]'(by omega),gE _⟩;have HLS:=hii (map_snoc m21 hz);obtain ⟨b0,off0,ea,hcB⟩:=uC k z hz;have HzB:=hii (hCr.out z (List.mem_of_getElem? hz));have HcB:=hii hcB;clear hz hcB;subst ea;obtain ⟨LC,hLC⟩:∃ R,R=(C.take k).map m21:=⟨_,rfl⟩;rw [<- hLC] at hP5 HL5 HLS;clear hLC hgl;refine wp_region_useq (wx:=wb) [(λ _ v => v=.pointer (some ⟨g6,2,none⟩)),(λ W v => v=vC/\PB W g6 vA vB vC RW LB LC),(λ _ v => v=.pointer (some ⟨g,2,none⟩)),(λ _ v => v=.slice (some ⟨b0,off0,none⟩) C.length cC),(λ _ v => v=.int .i64 k),(λ _ v => v=.pointer (some ⟨b0,off0 + k,none⟩)),(λ _ v => v=.int .i8 z),(λ _ v => v=.int .i8 (z.tmod 21)),(λ _ v => v=.int .i64 (z.tmod 21)),(λ W v => RatV W v ((z.tmod 21:Int):Rat)),(λ W v => ∃ n,v=.slice (some ⟨n,0,none⟩) 1 1/\UQ W (some ⟨n,0,none⟩) [m21 z]),(λ W v => Row W g6 30 [vA,vB,vC]/\MS W (g6 + 1) vA vB v RW LB (LC ++ [m21 z])),(λ _ v => v=.pointer (some ⟨g6,2,none⟩)),(λ W _ => ∃ v,PB W g6 vA vB v RW LB (LC ++ [m21 z]))] [none,some 11,none,none,none,none,none,none,none,some 10,some 11,some 13,none,none] 10 [true,false,true,true,true,true,true,true,true,false,false,false,true,false] [some 97,some 98,some 99,some 100,some 101,some 102,some 103,some 104,some 105,some 106,some 107,some 108,some 109,none] [97,98,99,100,101,102,103,104,105,106,107,108,109] 1 98 (λ W _ => PB W g6 vA vB vC RW LB LC) (by decide) (by kernel_rfl) (by kernel_rfl) (by kernel_rfl) (by kernel_rfl) (of_decide_eq_true (by kernel_rfl)) (by kernel_rfl) (by kernel_rfl) (hP5.mono br.drew) (λ _ _ _ h hb => h.mono hb) (hb5) ⟨sV _,λ _ _ _ h hb => ⟨h.1,h.2.mono hb⟩,sV _,sV _,sV _,sV _,sV _,sV _,sV _,λ _ _ _ h hb => h.mono hb,λ _ _ _ ⟨n,e,h⟩ hb => ⟨n,e,h.mono hb⟩,λ _ _ _ h hb => ⟨h.1.below hb,h.2.mono hb⟩,sV _,λ _ _ _ ⟨v,h⟩ hb => ⟨v,h.mono hb⟩,trivial⟩ ⟨λ _ => cV _,(λ h => absurd h (by decide)),λ _ => cV _,λ _ => cV _,λ _ => cV _,λ _ => cV _,λ _ => cV _,λ _ => cV _,λ _ => cV _,(λ h => absurd h (by decide)),(λ h => absurd h (by decide)),(λ h => absurd h (by decide)),λ _ => cV _,(λ h => absurd h (by decide)),trivial⟩ ⟨?s0,?s1,?s2,?s3,?s4,?s5,?s6,?s7,?s8,?s9,?s10,?s11,?s12,?s13,trivial⟩ ?he
          case' s0 | s2 | s3 | s4 | s5 | s6 | s7 | s8 | s9 | s10 | s11 | s12 | s13 =>
           rintro T W hb - hA K hK
          case' s0 | s2 | s4 | s12 =>
           simp only [ovr,Act.put,sT,sZ,sS] at hK |-
          case' s3 =>
           have e2:T 99=.pointer (some ⟨g,2,none⟩):=hA.1 (by decide);obtain ⟨x0,x1,x2⟩:=(rD.below hb).n3;simp only [ovr,Act.put,sT,sZ,sS,e2] at hK |-
          case' s5 =>
           have e3:T 100=.slice (some ⟨b0,off0,none⟩) C.length cC:=hA.1 (by decide);have e4:T 101=.int .i64 k:=hA.2.1 (by decide);simp only [ovr,Act.put,sT,sZ,sS,e3,e4] at hK |-
          case' s6 =>
           have e5:T 102=.pointer (some ⟨b0,off0 + k,none⟩):=hA.1 (by decide);have hcz:=(hb.cell (p:=⟨b0,off0 + k,none⟩) (cell_lt HcB.out)).trans HcB.out;simp only [ovr,Act.put,sT,sZ,sS,e5] at hK |-
          case' s7 =>
           have e6:T 103=.int .i8 z:=hA.1 (by decide);have hzb:=HzB.out;have hz21:=tmod21 z;simp only [ovr,Act.put,sT,sZ,sS,e6] at hK |-
          case s0 | s2 | s3 | s4 | s5 | s6 | s7 | s12 =>
           have HK:=hii hK;clear hK hA;refine wO rfl (by rfl) ?_;go_simp;exact HK.out _ _ ⟨hb,λ _ => br⟩ rfl
          case s1 =>
           rintro T W hb hp hA K hK;have e0:T 97=.pointer (some ⟨g6,2,none⟩):=hA.1 (by decide);have hp:=hp rfl;obtain ⟨y0,y1,y2⟩:=hp.1.n3;simp only [ovr,Act.put,sT,sZ,sS,e0] at hK |-;have HK:=hii hK;clear hK hA;refine wO rfl (by rfl) ?_;go_simp;exact HK.out _ _ ⟨hb,λ _ => br⟩ (⟨rfl,hp⟩)
          case s8 =>
           have e7:T 104=.int .i8 (z.tmod 21):=hA.1 (by decide);simp only [ovr,Act.put,sT,sZ,sS,e7] at hK |-;have HK:=hii hK;clear hK hA;refine wO rfl (by rfl) ?_;go_simp;exact HK.out _ _ ⟨hb,λ _ => br⟩ ((congrArg (Value.int IntKind.i64) (wrap21 z)))
          case s9 =>
           have e8:T 105=.int .i64 (z.tmod 21):=hA.1 (by decide);simp only [ovr,Act.put,sT,sZ,sS,e8] at hK |-;have HK:=hii hK;clear hK hA;refine wO rfl (by rfl) ?_;go_simp;(with_reducible refine (rnum_any (z.tmod 21) (by have:=tmod21 z; omega) (by have:=tmod21 z; omega) W (hE.mono hb)).mono ?_);rintro e w1 ⟨hz,hb1⟩;obtain ⟨n1,a1,l1,c1,n2,a2,l2,c2,rfl,h1,h2⟩:=hz
           try dsimp only
           exact HK.out _ _ ⟨bu hb hb1,λ _ => hb1⟩ (RatV.mk' h1 h2)
          case s10 =>
           have r9:((λ W v => RatV W v ((z.tmod 21:Int):Rat)):World->Value->Prop) W (T 106):=hA.1 (by decide);have hv9:=r9;obtain ⟨n1,a1,l1,c1,n2,a2,l2,c2,e9,h1,h2⟩:=hv9;rw [e9] at r9;have R9:=hii r9;clear h1 h2 r9;simp only [ovr,Act.put,sT,sZ,sS,e9] at hK |-;have HK:=hii hK;clear hK hA;refine wO rfl (by rfl) ?_;go_simp;obtain ⟨w1,hw1⟩:∃ w1,w1=W.alloc (.cells #[.bool n1,.slice a1 l1 c1,.bool n2,.slice a2 l2 c2] 38):=⟨_,rfl⟩;have hb1:Below W.heap.size W w1:=by rw [hw1]; exact bA W _
           have huq:UQ w1 (some ⟨W.heap.size,0,none⟩) [m21 z]:=by rw [hw1]; exact uq_one R9.out
           rw [<- hw1]
           try dsimp only
           exact HK.out _ _ ⟨bu hb hb1,λ _ => hb1⟩ (⟨_,rfl,huq⟩)
          case s11 =>
           have r1:((λ W v => v=vC/\PB W g6 vA vB vC RW LB LC):World->Value->Prop) W (T 98):=hA.1 (by decide);have r10:((λ W v => ∃ n,v=.slice (some ⟨n,0,none⟩) 1 1/\UQ W (some ⟨n,0,none⟩) [m21 z]):World->Value->Prop) W (T 107):=hA.2.1 (by decide);simp only [ovr,Act.put,sT,sZ,sS] at hK |-;have HK:=hii hK;clear hK hA;obtain ⟨e1,hPB⟩:=r1;obtain ⟨n10,e10,huq⟩:=r10;obtain ⟨v1,w1,hr,ho,hbb,gr⟩:=run_app_o W W 28 (g6 + 1) vC LC (m21 z) (some ⟨n10,0,none⟩) 1 hPB.2.1.c hPB.1.lt br huq HL5.out;rw [<- e1,<- e10] at hr;have hbw1:Below wb.heap.size wb w1:=hb.trans (hbb.mono (by have:=Hgl.out; omega));refine wO rfl (by rfl) ?_;refine oper_append _ _ rfl rfl rfl hr ?_;simp only [Act.put,List.setIfInBounds_toArray,List.set_cons_zero,List.set_cons_succ];exact HK.out _ _ ⟨hbw1,λ h => absurd h (by decide)⟩ (⟨hPB.1.grw gr (λ b e => (hPB.2.1.lts.2.2 b e).1),hPB.2.1.growC gr ho⟩)
          case s13 =>
           have e12:T 109=.pointer (some ⟨g6,2,none⟩):=hA.1 (by decide);have r11:((λ W v => Row W g6 30 [vA,vB,vC]/\MS W (g6 + 1) vA vB v RW LB (LC ++ [m21 z])):World->Value->Prop) W (T 108):=hA.2.1 (by decide);obtain ⟨hR,hM⟩:=r11;obtain ⟨a9,n9,c9,e11⟩:=hM.slices.2.2;rw [e11] at hM;obtain ⟨y0,y1,y2⟩:=hR.n3;have q1:=hR.free 2;simp only [ovr,Act.put,sT,sZ,sS,e12,e11] at hK |-;have HK:=hii hK;clear hK hA;refine wO rfl (by rfl) ?_;go_simp;exact HK.out undef _ ⟨hb.setCell (p:=⟨g6,2,none⟩) Hgl.out _,λ h => absurd h (by decide)⟩ (⟨.slice a9 n9 c9,PB.write hR HN3.out hM 2 _ rfl⟩)
          case he =>
           rintro T W hb hA;obtain ⟨v6,hP6⟩:=(hA.of 13 (by decide) (by decide):∃ v,PB W g6 vA vB v RW LB (LC ++ [m21 z]));simp only [ovr,sT,sZ,sS];rw [<- HLS.out] at hP6;clear hA hP5 hb5;go_wp2;go_roundw
           case rel => exact ⟨k + 1,by omega,by go_num,⟨_,hP6⟩,hb⟩
           case measure => simp [intOf]; omega
         ·obtain rfl:k=C.length:=by omega
          rw [List.take_length] at hP5;have rP:=rP.below hb5;have hbw:=bu hbw hb5;obtain ⟨y0,y1,y2⟩:=hP5.1.n3;obtain ⟨p0,p1,p2⟩:=rP.n3;have q0:=rP.free 0;have q1:=rP.free 1;have q2:=rP.free 2;have Hg26:Hid (g2 < g6 + 1):=hii (by have:=rP0.out; have:=Hg6.out; omega);obtain ⟨⟨aA9,nA9,cA9,rfl⟩,⟨aB9,nB9,cB9,rfl⟩,⟨aC9,nC9,cC9,rfl⟩⟩:=hP5.2.1.slices;have HP5:=hii hP5;have HrP:=hii rP;clear hP5 rP hk hlt;go_wp2;refine bodyPost_ret (v:=.tuple #[.agg #[.slice aA9 nA9 cA9,.slice aB9 nB9 cB9,.slice aC9 nC9 cC9],.bool true]) (by simp [results,Tryz.results10,go_sem,p0,p1,p2]) rfl ⟨.inr ⟨HBad.out,_,_,_,rfl,?_⟩,Below.put3 hbw Hg2.out _ _ _⟩;have hk:Kept (λ b => b=g2) wr (((wr.setCell ⟨g2,0,none⟩ (.slice aA9 nA9 cA9)).setCell ⟨g2,1,none⟩ (.slice aB9 nB9 cB9)).setCell ⟨g2,2,none⟩ (.slice aC9 nC9 cC9)):=(((Kept.refl wr:Kept (λ b => b=g2) wr wr).setCell (p:=⟨g2,0,none⟩) rfl _).setCell (p:=⟨g2,1,none⟩) rfl _).setCell (p:=⟨g2,2,none⟩) rfl _;have hM:=(HP5.out.2.1.kept hk (HrP.out.noG3 (noInt_slice _ _ _)) (λ b hb => by subst hb; exact Hg26.out)).prg;rw [HRW.out,HLB.out] at hM;exact hM
section
variable {P : Program} {ops : Array Oper} {Q : Exit → Act → World → Prop}
def StayK (G:Nat->Prop) (F:World->Value->Prop):Prop:=∀ (W W':World) (v:Value),F W v->Kept G W W'->F W' v
theorem stayK_val (G:Nat->Prop) (u:Value):StayK G (λ _ v => v=u):=λ _ _ _ h _ => h
def AllSK (G:Nat->Prop):List (World->Value->Prop)->Prop
 | [] => True
 | F :: r => StayK G F/\AllSK G r
theorem AllSK.get {G:Nat->Prop}:∀ {l:List (World->Value->Prop)} (k:Nat),AllSK G l->StayK G (l.getD k λ _ _ => True)
 | [],_,_ => λ _ _ _ _ _ => trivial
 | _ :: _,0,h => h.1
 | _ :: r,k + 1,h => AllSK.get (l:=r) k h.2
def AllF (Fs:List (World->Value->Prop)) (ds:List (Option Nat)) (T:Nat->Value) (W:World):List Nat->Prop
 | [] => True
 | k :: r => (Fs.getD k λ _ _ => True) W (dv ds T k)/\AllF Fs ds T W r
theorem AllF.mem {Fs:List (World->Value->Prop)} {ds:List (Option Nat)} {T:Nat->Value} {W:World}:∀ {l:List Nat},(∀ k∈l,(Fs.getD k λ _ _ => True) W (dv ds T k))->AllF Fs ds T W l
 | [],_ => trivial
 | k :: r,h => ⟨h k (by simp),AllF.mem λ x hx => h x (by simp [hx])⟩
theorem AllF.at {Fs:List (World->Value->Prop)} {ds:List (Option Nat)} {T:Nat->Value} {W:World}:∀ {l:List Nat} (k:Nat),AllF Fs ds T W l->k∈l->(Fs.getD k λ _ _ => True) W (dv ds T k)
 | [],_,_,h => by simp at h
 | x :: r,k,h,hk => by
  rcases List.mem_cons.1 hk with rfl | hk
  ·exact h.1
  ·exact AllF.at k h.2 hk
theorem wp_region_put {id:Nat} {a:Act} {w wx:World} (G:Nat->Prop) (Fs:List (World->Value->Prop)) (ds:List (Option Nat)) (dl:List Nat) (si:Nat) (P0 R:World->Prop) (hsi:si < ops.size)
  (hm:P.follows .mixedOrders=true) (ht:topo .any ops=true) (hd:ops.toList.map (·.dst)=ds) (hdl:ds.filterMap (λ x => x)=dl) (hnd:dl.Nodup) (hP0:P0 w.drew) (hPS:∀ W W',P0 W->Below W.heap.size W W'->P0 W') (hRS:∀ W W',R W->Below W.heap.size W W'->R W')
  (hw:Kept G wx w) (hS:AllSK G Fs)
  (hs:EachOp (λ i o => ∀ (T:Nat->Value) (W:World),Kept G wx W->(i=si\/i∈waitsAt ops si->P0 W)->AllF Fs ds T W (waits .any o) ->
   ∀ K:Act->World->Prop,(∀ v W',((i ≠ si->Below W.heap.size W W')/\(i=si->R W')/\Kept G W W')->(Fs.getD i λ _ _ => True) W' ((o.dst.map λ _ => v).getD undef)->K (({ a with tmps:=ovr a.tmps T dl }:Act).put o.dst v) W') ->
    wpOp P ops Q i K { a with tmps:=ovr a.tmps T dl } W) 0 ops.toList)
  (he:∀ T W,Kept G wx W->R W->AllF Fs ds T W (List.range ops.size)->Q .normal { a with tmps:=ovr a.tmps T dl } W):(Code.region id ops true).wp P Q a w:=by
 have hnd':(ds.filterMap _root_.id).Nodup:=by
  have:ds.filterMap _root_.id=dl:=hdl;rw [this]; exact hnd
 have hdst:∀ (i:Nat) (o:Oper),ops[i]?=some o->i < ops.size/\o.dst=ds.getD i none:=by
  intro i o ho;have hi:i < ops.size:=(Array.getElem?_eq_some_iff.1 ho).1;refine ⟨hi,?_⟩;have h1:(ops.toList.map (·.dst))[i]?=some o.dst:=by simp [ho]
  rw [hd] at h1;rw [List.getD_eq_getElem?_getD,h1]; rfl
 have hwt:∀ k o,ops[k]?=some o->waitsAt ops k=waits .any o:=by
  intro k o ho; unfold waitsAt; rw [ho]; rfl
 refine wp_region_flow0 (λ L T W => Kept G wx W/\(¬ L si->P0 W)/\(L si->R W)/\(∀ k,k < ops.size->L k->∀ d∈waitsAt ops k,L d)/\∀ k,k < ops.size->L k->(Fs.getD k λ _ _ => True) W (dv ds T k)) dl hm ht ?_ ⟨hw.drew,λ _ => hP0,λ h => h.elim,λ k _ h => h.elim,λ k _ h => h.elim⟩ ?_ ?_ ?_
 ·unfold dsts;rw [<- hdl,<- hd];simp [List.filterMap_map]
  rfl
 ·have key:∀ (l:List Oper) (k:Nat),(∀ j o,l[j]?=some o->ops[k + j]?=some o) ->
    EachOp (λ i o => ∀ (T:Nat->Value) (W:World),Kept G wx W->(i=si\/i∈waitsAt ops si->P0 W)->AllF Fs ds T W (waits .any o) ->
     ∀ K:Act->World->Prop,(∀ v W',((i ≠ si->Below W.heap.size W W')/\(i=si->R W')/\Kept G W W')->(Fs.getD i λ _ _ => True) W' ((o.dst.map λ _ => v).getD undef)->K (({ a with tmps:=ovr a.tmps T dl }:Act).put o.dst v) W') ->
      wpOp P ops Q i K { a with tmps:=ovr a.tmps T dl } W) k l ->
    EachOp (λ i o => ∀ (L:Nat->Prop) (T:Nat->Value) (w:World),AllL L (waits .any o)->¬ L i->(Kept G wx w/\(¬ L si->P0 w)/\(L si->R w)/\(∀ k,k < ops.size->L k->∀ d∈waitsAt ops k,L d)/\∀ k,k < ops.size->L k->(Fs.getD k λ _ _ => True) w (dv ds T k)) ->
     ∀ K:Act->World->Prop,(∀ v w',(Kept G wx w'/\(¬ (si=i\/L si)->P0 w')/\((si=i\/L si)->R w')/\(∀ k,k < ops.size->(k=i\/L k)->∀ d∈waitsAt ops k,(d=i\/L d))/\∀ k,k < ops.size->(k=i\/L k)->(Fs.getD k λ _ _ => True) w' (dv ds (updO T o.dst v) k))->K (({ a with tmps:=ovr a.tmps T dl }:Act).put o.dst v) w') ->
      wpOp P ops Q i K { a with tmps:=ovr a.tmps T dl } w) k l:=by
   intro l
   induction l with
   | nil => intro k _ _; trivial
   | cons o r ih =>
    intro k hin h;refine ⟨?_,ih (k + 1) (λ j o' ho => by have:=hin (j + 1) o' (by simpa using ho); rw [show k + 1 + j=k + (j + 1) by omega]; exact this) h.2⟩;rintro L T W hL hn ⟨hb,hp,hr,hcl,hJ⟩ K hK;have hko:ops[k]?=some o:=by simpa using hin 0 o rfl
    obtain ⟨hkl,hkd⟩:=hdst k o hko;have hks:k < ops.size:=hkl;have hall:=AllL.all hL;have hnsi:k=si\/k∈waitsAt ops si->¬ L si:=by
     rintro (rfl | hk) hl
     ·exact hn hl
     ·exact hn (hcl si hsi hl k hk)
    refine h.1 T W hb (λ e => hp (hnsi e)) (AllF.mem λ d hdw => hJ d (Nat.lt_trans (topo_lt ht hko hdw) hks) (hall d hdw)) K λ v W' hst hv => hK v W' ⟨hb.trans hst.2.2,?_,?_,?_,?_⟩
    ·intro hnp;exact hPS _ _ (hp λ h => hnp (.inr h)) (hst.1 λ e => hnp (.inl e.symm))
    ·rintro (e | hl)
     ·exact hst.2.1 e.symm
     ·by_cases e:k=si
      ·exact hst.2.1 e
      ·exact hRS _ _ (hr hl) (hst.1 e)
    ·rintro j hj (rfl | hLj) d hd
     ·rw [hwt _ _ hko] at hd; exact .inr (hall d hd)
     ·exact .inr (hcl j hj hLj d hd)
    ·rintro j hj hLj
     by_cases hjk:j=k
     ·subst hjk;have:dv ds (updO T o.dst v) j=(o.dst.map λ _ => v).getD undef:=by
       unfold dv;rw [<- hkd]
       cases hdo:o.dst with
       | none => rfl
       | some d => simp [updO,upd]
      rw [this]; exact hv
     ·have hLj:L j:=hLj.resolve_left hjk;have hval:dv ds (updO T o.dst v) j=dv ds T j:=by
       unfold dv
       cases hdj:ds.getD j none with
       | none => rfl
       | some d =>
        cases hdo:o.dst with
        | none => rfl
        | some d' =>
         have hne:d ≠ d':=λ e => by
          rw [hdo] at hkd;exact hjk (nodup_some hnd' hdj (by rw [<- hkd,e]))
         simp [updO,upd,hne]
      rw [hval];exact AllSK.get j hS _ _ _ (hJ j hj hLj) hst.2.2
  exact key ops.toList 0 (λ j o ho => by simpa using ho) hs
 ·rintro T W ⟨hb,_,hr,_,hJ⟩;exact he T W hb (hr hsi) (AllF.mem λ k hk => hJ k (by simpa using hk) (by simpa using hk))
 ·rintro L T W hL ⟨hb,hp,hr,hcl,hJ⟩;refine ⟨hb,λ h => absurd hsi h,λ _ => hr (hL si hsi),λ k hk _ d hd => ?_,λ k hk _ => hJ k hk (hL k hk)⟩;obtain ⟨o,ho⟩:∃ o,ops[k]?=some o:=⟨ops[k],Array.getElem?_eq_getElem hk⟩;rw [hwt k o ho] at hd;exact Nat.lt_trans (topo_lt ht ho hd) hk
end
def RK (G:Nat->Prop) (r:Rat) (W:World) (v:Value):Prop:=∀ W',Kept G W W'->RatV W' v r
theorem RK.stay {G:Nat->Prop} {r:Rat}:StayK G (RK G r):=λ W W' v h hk W'' hk' => h W'' (hk.trans hk')
theorem RK.rat {G:Nat->Prop} {r:Rat} {W:World} {v:Value} (h:RK G r W v):RatV W v r:=h W (Kept.refl W)
theorem RK.at {G:Nat->Prop} {r:Rat} {W W':World} {v:Value} (h:RK G r W v) (hk:Kept G W W'):RatV W' v r:=h W' hk
theorem RatV.rk {G:Nat->Prop} {r:Rat} {W:World} {v:Value} (h:RatV W v r) (hn:NoG G W):RK G r W v:=λ W' hk => h.kept hk hn
structure MX (W:World) (B:Nat) (vA:Value) (rows:List (List Qo)) (ow:List (Value × List Qo)):Prop where
 ex:∃ xs,OwnR W B vA xs/\RowsOf W xs rows/\SepR W xs vA/\LowR B xs/\∀ p∈ow,SepR W xs p.1
 o:∀ p∈ow,OwnO W B p.1 p.2/\Sep vA p.1
 s:ow.Pairwise λ p q => Sep p.1 q.1
theorem MX.nil (W:World) (B:Nat) (n:Nat):MX W B (.slice none 0 0) [] (List.replicate n (.slice none 0 0,[])):=by
 refine ⟨⟨[],OwnR.nil _ _,⟨rfl,λ i row h => by simp at h⟩,SepR.nil _ _,λ x h => by simp at h,λ p _ => SepR.nil _ _⟩,λ p hp => ?_,?_⟩
 ·obtain ⟨_,rfl⟩:=List.mem_replicate.1 hp;exact ⟨OwnO.nil _ _,sep_nil _⟩
 ·exact List.pairwise_replicate.2 (.inr (sep_nil _))
section
variable {W W' : World} {B : Nat} {vA : Value} {rows : List (List Qo)} {ow : List (Value × List Qo)}
theorem MX.kept {G:Nat->Prop} (h:MX W B vA rows ow) (hk:Kept G W W') (hp:NoG G W) (hG:∀ b,G b->b < B):MX W' B vA rows ow:=by
 obtain ⟨⟨xs,h1,h2,h3,h4,h5⟩,ho,hs⟩:=h;have out:∀ (b:Nat),B<=b->¬ G b:=λ b hb hg => by have:=hG b hg; omega
 exact ⟨⟨xs,h1.kept hk (λ b e => out b (h1.lt b e).1),h2.kept hk hp (λ x hx b e => out b (h4 x hx b e)),h3.mono hk.size,h4,λ p hp' => (h5 p hp').mono hk.size⟩,
  λ p hp' => ⟨(ho p hp').1.kept hk hp λ b e => out b ((ho p hp').1.lt b e).1,(ho p hp').2⟩,hs⟩
theorem MX.mono (h:MX W B vA rows ow) (hb:Below W.heap.size W W'):MX W' B vA rows ow:=by
 obtain ⟨⟨xs,h1,h2,h3,h4,h5⟩,ho,hs⟩:=h;have hk:Kept (λ _ => False) W W':=.of_below hb;exact ⟨⟨xs,h1.kept hk (λ _ _ h => h),h2.mono hb,h3.mono hb.size,h4,λ p hp => (h5 p hp).mono hb.size⟩,λ p hp => ⟨(ho p hp).1.mono hb,(ho p hp).2⟩,hs⟩
theorem MX.own (h:MX W B vA rows ow) {p:Value × List Qo} (hp:p∈ow):OwnO W B p.1 p.2:=(h.o p hp).1
theorem MX.um (h:MX W B vA rows ow):∃ ao cap,vA=.slice ao rows.length cap/\UM W ao rows:=by
 obtain ⟨⟨xs,h1,h2,_⟩,_,_⟩:=h;exact h1.1.um h2
end
theorem ownsRow_set {w:World} {B e s g n cap m k:Nat} {xs:List Value} {x:Value} (h:w.ownsRow B e s (.slice (some ⟨g,0,none⟩) n cap) m xs):(w.setCell ⟨g,k,none⟩ x).ownsRow B e s (.slice (some ⟨g,0,none⟩) n cap) m (xs.set k x):=by
 obtain ⟨hl,hr⟩:=h;refine ⟨by simp [hl],?_⟩;rcases hr with ⟨hv,_⟩ | ⟨g',cap',cur,hv,hB,hg,hn,hm,hs,ht⟩
 ·cases hv
 ·cases hv
  refine .inr ⟨g,cap,cur.setIfInBounds k x,rfl,hB,?_,hn,hm,by simp [hs],?_⟩
  ·rw [setCell_eq_setRow w g k cur e (0,0) x hg,setRow_heap w g cur _ e _ hg]
  ·rw [Array.toList_setIfInBounds,List.take_set,ht]
theorem noI_set {w:World} {B e s g n cap m k:Nat} {xs:List Value} {x:Value} (hn:NoI w (.slice (some ⟨g,0,none⟩) n cap)) (h:w.ownsRow B e s (.slice (some ⟨g,0,none⟩) n cap) m xs) (hx:NoInt x):NoI (w.setCell ⟨g,k,none⟩ x) (.slice (some ⟨g,0,none⟩) n cap):=by
 obtain ⟨hl,hr⟩:=h;rcases hr with ⟨hv,_⟩ | ⟨g',cap',cur,hv,hB,hg,_⟩
 ·cases hv
 ·cases hv
  intro g' hg' cur' t fr hc u hu;simp only [Value.ownBlock,Option.some.injEq] at hg';subst hg';rw [setCell_eq_setRow w g k cur e (0,0) x hg,setRow_heap w g cur _ e _ hg] at hc;simp only [Option.some.injEq,Obj.cells.injEq] at hc;obtain ⟨rfl,_,_⟩:=hc;rw [Array.toList_setIfInBounds] at hu;rcases List.mem_or_eq_of_mem_set hu with hu | rfl
  ·exact hn g rfl cur e _ hg u hu
  ·exact hx
theorem OwnO.put {w:World} {B g i n cap:Nat} {l:List Qo} {n1:Bool} {a1:Option Addr} {l1 c1:Nat} {n2:Bool} {a2:Option Addr} {l2 c2:Nat} {o:Qo} (h:OwnO w B (.slice (some ⟨g,0,none⟩) n cap) l) (hi:i < l.length) (hv:QV w (.agg #[.bool n1,.slice a1 l1 c1,.bool n2,.slice a2 l2 c2]) o) :
  OwnO ((((w.setCell ⟨g,i * 4,none⟩ (.bool n1)).setCell ⟨g,i * 4 + 1,none⟩ (.slice a1 l1 c1)).setCell ⟨g,i * 4 + 2,none⟩ (.bool n2)).setCell ⟨g,i * 4 + 3,none⟩ (.slice a2 l2 c2)) B (.slice (some ⟨g,0,none⟩) n cap) (l.set i o) /\
  Grw w ((((w.setCell ⟨g,i * 4,none⟩ (.bool n1)).setCell ⟨g,i * 4 + 1,none⟩ (.slice a1 l1 c1)).setCell ⟨g,i * 4 + 2,none⟩ (.bool n2)).setCell ⟨g,i * 4 + 3,none⟩ (.slice a2 l2 c2)) (.slice (some ⟨g,0,none⟩) n cap) (.slice (some ⟨g,0,none⟩) n cap):=by
 obtain ⟨xs,h1,h2,h3⟩:=h;have hno:NoG (λ k => k=g) w:=λ k hk cur t fr hc => by subst hk; exact h2 k rfl cur t fr hc
 have hk:Kept (λ k => k=g) w ((((w.setCell ⟨g,i * 4,none⟩ (.bool n1)).setCell ⟨g,i * 4 + 1,none⟩ (.slice a1 l1 c1)).setCell ⟨g,i * 4 + 2,none⟩ (.bool n2)).setCell ⟨g,i * 4 + 3,none⟩ (.slice a2 l2 c2)) :=
  (((((Kept.refl w:Kept (λ k => k=g) w w)).setCell (p:=⟨g,i * 4,none⟩) rfl _).setCell (p:=⟨g,i * 4 + 1,none⟩) rfl _).setCell (p:=⟨g,i * 4 + 2,none⟩) rfl _).setCell (p:=⟨g,i * 4 + 3,none⟩) rfl _
 have b1:NoInt (.bool n1):=by intro k z e; cases e
 have b2:NoInt (.bool n2):=by intro k z e; cases e
 have r1:=ownsRow_set (k:=i * 4) (x:=.bool n1) h1;have r2:=ownsRow_set (k:=i * 4 + 1) (x:=.slice a1 l1 c1) r1;have r3:=ownsRow_set (k:=i * 4 + 2) (x:=.bool n2) r2;have r4:=ownsRow_set (k:=i * 4 + 3) (x:=.slice a2 l2 c2) r3;have n4:=noI_set (k:=i * 4 + 3) (x:=.slice a2 l2 c2) (noI_set (k:=i * 4 + 2) (x:=.bool n2) (noI_set (k:=i * 4 + 1) (x:=.slice a1 l1 c1) (noI_set (k:=i * 4) (x:=.bool n1) h2 h1 b1) r1 (noInt_slice _ _ _)) r2 b2) r3 (noInt_slice _ _ _);have hxl:xs.length=l.length * 4:=h1.1;refine ⟨⟨_,by rw [List.length_set]; exact r4,n4,?_⟩,⟨⟨hk.os,hk.tape,hk.output,hk.size,λ k hk1 hk2 => hk.block k hk1 λ e => hk2 (by rw [e]; rfl)⟩,h2,.inl rfl⟩⟩;intro j q hj
 by_cases hji:j=i
 ·subst hji;rw [List.getElem?_set_self hi] at hj
  cases hj
  refine ⟨n1,a1,l1,c1,n2,a2,l2,c2,?_,?_,?_,?_,hv.kept hk hno⟩
  ·rw [List.getElem?_set_ne (by omega),List.getElem?_set_ne (by omega),List.getElem?_set_ne (by omega),List.getElem?_set_self (by omega)]
  ·rw [List.getElem?_set_ne (by omega),List.getElem?_set_ne (by omega),List.getElem?_set_self (by simp; omega)]
  ·rw [List.getElem?_set_ne (by omega),List.getElem?_set_self (by simp; omega)]
  ·rw [List.getElem?_set_self (by simp; omega)]
 ·rw [List.getElem?_set_ne (λ e => hji e.symm)] at hj;obtain ⟨m1,b1,k1,d1,m2,b2,k2,d2,e0,e1,e2,e3,hr⟩:=h3 j q hj;have hs:∀ m,m < 4->((((xs.set (i * 4) (.bool n1)).set (i * 4 + 1) (.slice a1 l1 c1)).set (i * 4 + 2) (.bool n2)).set (i * 4 + 3) (.slice a2 l2 c2))[j * 4 + m]?=xs[j * 4 + m]?:=by
   intro m hm;rw [List.getElem?_set_ne (by omega),List.getElem?_set_ne (by omega),List.getElem?_set_ne (by omega),List.getElem?_set_ne (by omega)]
  exact ⟨m1,b1,k1,d1,m2,b2,k2,d2,(hs 0 (by omega)).trans e0,(hs 1 (by omega)).trans e1,(hs 2 (by omega)).trans e2,(hs 3 (by omega)).trans e3,hr.kept hk hno⟩
end Go.Proofs.YtileholjbdhmjaaGreatDoor
