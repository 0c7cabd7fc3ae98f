/-
  A drawn region in which some operations write into memory of the call's own, one behind the other; all others leave values or make memory.
-/
import Derived.Test.YtfgffkmddanjjaaGreatDoorE14
import Derived.Maps.AppendAt
import Derived.Test.YtfgffkmddanjjaaGreatDoorDuS
set_option linter.unusedVariables false
set_option linter.unusedSimpArgs false
set_option maxRecDepth 100000
set_option maxHeartbeats 25600000
namespace Go.Proofs.YtfgffkmddanjjaaGreatDoor
open _root_.Go.Proofs.Tryz
open Go.RowKit
section
variable {P : Program} {ops : Array Oper} {Q : Exit → Act → Wo → Prop}
def zoB (B:Nat) (F:Wo->Vl->Prop):Prop:=∀ (W W':Wo) (v:Vl),F W v->Below B W W'->F W' v
theorem zac (B:Nat) (u:Vl):zoB B (vf u):=λ _ _ _ h _ => h
def zeM (ops:Array Oper) (ws:LN) (i p:Nat):Bool :=
 (List.range ws.length).all λ j => if j < p then !(zaq ops (ws.getD j 0)).contains i && !(ws.getD j 0 == i) else !(zaq ops i).contains (ws.getD j 0)
def zgr (ops:Array Oper) (ws:LN) (ph:List (LN)):Bool :=
 ((List.range ws.length).all λ j => decide (ws.getD j 0 < ops.size) && (j == 0 || (zaq ops (ws.getD j 0)).contains (ws.getD (j - 1) 0))) &&
 (List.range ops.size).all λ i => (List.range (ws.length + 1)).all λ p => !zeM ops ws i p || (ph.getD i []).contains p
theorem zas {ws:LN} {n i p:Nat} (h:i ∉ ws) (hn:i ≠ n):ws.getD p n ≠ i:=by
 intro e;rw [List.getD_eq_getElem?_getD] at e;rcases Nat.lt_or_ge p ws.length with hp | hp
 ·rw [gE hp] at e;exact h (by rw [<- e]; exact List.getElem_mem hp)
 ·rw [List.getElem?_eq_none hp] at e;exact hn e.symm
def okU (us:List (Option Nat)) (k p:Nat):Bool:=match us.getD k none with
 | none => true
 | some j => decide (p<=j)
def zop (ops:Array Oper) (ws:LN) (us:List (Option Nat)):Bool :=
 (List.range ops.size).all λ k => match us.getD k none with
  | none => true
  | some j => (List.range ws.length).all λ j' => !(decide (j' < j)) || (zaq ops k).contains (ws.getD j' 0)
def zcR (Fs:List (Wo->Vl->Prop)) (us:List (Option Nat)) (p:Nat) (ds:List (Option Nat)) (T:Nat->Vl) (W:Wo):LN->Prop
 | [] => True
 | k :: r => (okU us k p=true->(Fs.getD k λ _ _ => True) W (dv ds T k))/\zcR Fs us p ds T W r
theorem zcR.mem {Fs:List (Wo->Vl->Prop)} {us:List (Option Nat)} {p:Nat} {ds:List (Option Nat)} {T:Nat->Vl} {W:Wo}:∀ {l:LN},(∀ k∈l,okU us k p=true->(Fs.getD k λ _ _ => True) W (dv ds T k))->zcR Fs us p ds T W l
 | [],_ => trivial
 | k :: r,h => ⟨h k (by simp),zcR.mem λ x hx => h x (by simp [hx])⟩
theorem zcR.at {Fs:List (Wo->Vl->Prop)} {us:List (Option Nat)} {p:Nat} {ds:List (Option Nat)} {T:Nat->Vl} {W:Wo}:∀ {l:LN} (k:Nat),zcR Fs us p ds T W l->k∈l->okU us k p=true->(Fs.getD k λ _ _ => True) W (dv ds T k)
 | [],_,_,h,_ => by simp at h
 | x :: r,k,h,hk,ho => by
  rcases List.mem_cons.1 hk with rfl | hk
  ·exact h.1 ho
  ·exact zcR.at k h.2 hk ho
def zmI (R:Wo->Wo->Prop) (F:Wo->Vl->Prop):Prop:=∀ (W W':Wo) (v:Vl),F W v->R W W'->F W' v
def SR (R:Wo->Wo->Prop) (wx:Wo):Prop:=(∀ W W',R wx W->BH W W'->R W W')/\(∀ W W',R wx W->R W W'->R wx W')/\∀ W,R wx W->R wx W.drew
theorem srB {wx:Wo}:SR (Below wx.heap.size) wx:=⟨λ _ _ h k => k.mono h.size,λ _ _ h k => h.trans k,λ _ h => h.drew⟩
theorem srK {G:Nat->Prop} {wx:Wo}:SR (zaf G) wx:=⟨λ _ _ _ k => .of_below k,λ _ _ h k => h.trans k,λ _ h => h.drew⟩
def zde (R:Wo->Wo->Prop):List (Option Nat)->List (Wo->Vl->Prop)->Prop
 | _,[] => True
 | none :: u,F :: r => zmI R F/\zde R u r
 | some _ :: u,F :: r => zik F/\zde R u r
 | [],F :: r => zmI R F/\zde R [] r
theorem zde.get {R:Wo->Wo->Prop}:∀ {us:List (Option Nat)} {l:List (Wo->Vl->Prop)} (k:Nat),zde R us l->match us.getD k none with | none => zmI R (l.getD k λ _ _ => True) | some _ => zik (l.getD k λ _ _ => True)
 | us,[],k,_ => by
  cases us.getD k none with
  | none => exact λ _ _ _ _ _ => trivial
  | some _ => exact λ _ _ _ _ _ => trivial
 | none :: _,_ :: _,0,h => h.1
 | some _ :: _,_ :: _,0,h => h.1
 | [],_ :: _,0,h => h.1
 | none :: _,_ :: _,k + 1,h => zde.get k h.2
 | some _ :: _,_ :: _,k + 1,h => zde.get k h.2
 | [],_ :: _,k + 1,h => by
  have:=zde.get k h.2
  simpa using this
theorem zbA {R:Wo->Wo->Prop} {id:Nat} {a:Act} {w wx:Wo} (hR:SR R wx) (Fs:List (Wo->Vl->Prop)) (ds:List (Option Nat)) (dl ws:LN) (ph:List (LN)) (us:List (Option Nat)) (S:Nat->(Nat->Vl)->Wo->Prop)
  (hm:P.follows .mixedOrders=true) (ht:ziG .any ops=true) (hd:ops.toList.map (·.dst)=ds) (hdl:ds.filterMap (λ x => x)=dl) (hnd:dl.Nodup) (hwn:ws.Nodup) (hch:zgr ops ws ph=true) (hus:zop ops ws us=true)
  (hS0:S 0 (λ k => a.tmps.getD k undef) w.drew) (hSB:∀ p T W W',S p T W->BH W W'->S p T W') (hST:∀ p T T' W,p<=ws.length->(∀ j,j < ws.length->dv ds T' (ws.getD j 0)=dv ds T (ws.getD j 0))->S p T W->S p T' W)
  (hw:R wx w) (hF:zde R us Fs)
  (hs:zaC (λ i o => ∀ (T:Nat->Vl) (W:Wo) (p:Nat),R wx W->p∈ph.getD i []->S p T W->zcR Fs us p ds T W (zaM .any o) ->
   ∀ K:Act->Wo->Prop,(∀ v W',((¬ ws.getD p ops.size=i->BH W W')/\(ws.getD p ops.size=i->S (p + 1) (zbB T o.dst v) W'/\R W W'))->(Fs.getD i λ _ _ => True) W' ((o.dst.map λ _ => v).getD undef)->K (({ a with tmps:=ovr a.tmps T dl }:Act).put o.dst v) W') ->
    wpOp P ops Q i K { a with tmps:=ovr a.tmps T dl } W) 0 ops.toList)
  (he:∀ T W,R wx W->S ws.length T W->zcR Fs us ws.length ds T W (List.range ops.size)->Q .normal { a with tmps:=ovr a.tmps T dl } W):(Code.region id ops true).wp P Q a w:=by
 have hnd':(ds.filterMap _root_.id).Nodup:=by
  have:ds.filterMap _root_.id=dl:=hdl;rw [this]; exact hnd
 have hdst:∀ (i:Nat) (o:Oper),ops[i]?=some o->i < ops.size/\o.dst=ds.getD i none:=by
  intro i o ho;have hi:i < ops.size:=(Array.getElem?_eq_some_iff.1 ho).1;refine ⟨hi,?_⟩;have h1:(ops.toList.map (·.dst))[i]?=some o.dst:=by simp [ho]
  rw [hd] at h1;rw [List.getD_eq_getElem?_getD,h1]; rfl
 have hwt:∀ k o,ops[k]?=some o->zaq ops k=zaM .any o:=by
  intro k o ho; unfold zaq; rw [ho]; rfl
 unfold zgr at hch;rw [Bool.and_eq_true,List.all_eq_true,List.all_eq_true] at hch;obtain ⟨hc1,hc2⟩:=hch;have hc1:∀ j,j < ws.length->ws.getD j 0 < ops.size/\(j=0\/ws.getD (j - 1) 0∈zaq ops (ws.getD j 0)):=by
  intro j hj;have:=hc1 j (by simpa using hj);rw [Bool.and_eq_true,Bool.or_eq_true] at this;exact ⟨of_decide_eq_true this.1,this.2.imp (λ h => by simpa using h) (λ h => by simpa using h)⟩
 have hc2:∀ i p,i < ops.size->p<=ws.length->zeM ops ws i p=true->p∈ph.getD i []:=by
  intro i p hi hp hok;have:=hc2 i (by simpa using hi);rw [List.all_eq_true] at this;have:=this p (by simp; omega);rw [hok] at this
  simpa using this
 have hwj:∀ j k,j < ws.length->k < ws.length->ws.getD j 0=ws.getD k 0->j=k:=by
  intro j k hj hk e;rw [List.getD_eq_getElem?_getD,List.getD_eq_getElem?_getD,gE hj,gE hk] at e;exact (List.getElem?_inj hj hwn).1 (by rw [gE hj,gE hk]; exact congrArg some e)
 have hgd:∀ p,p < ws.length->ws.getD p ops.size=ws.getD p 0:=by
  intro p hp;rw [List.getD_eq_getElem?_getD,List.getD_eq_getElem?_getD,gE hp]; rfl
 have hus:∀ k,k < ops.size->match us.getD k none with | none => True | some j => ∀ j',j' < ws.length->j' < j->ws.getD j' 0∈zaq ops k:=by
  intro k hk;unfold zop at hus;rw [List.all_eq_true] at hus;have h1:=hus k (by simpa using hk)
  cases hj2:us.getD k none with
  | none => trivial
  | some j =>
   rw [hj2] at h1;simp only [List.all_eq_true] at h1;intro j' h2 h3;have:=h1 j' (by simpa using h2);rw [decide_eq_true h3] at this
   simpa using this
 refine zbr (λ L T W => R wx W/\(∀ k,k < ops.size->L k->∀ d∈zaq ops k,L d)/\∃ p,p<=ws.length/\(∀ j,j < ws.length->(L (ws.getD j 0)↔j < p))/\S p T W/\∀ k,k < ops.size->L k->okU us k p=true->(Fs.getD k λ _ _ => True) W (dv ds T k)) dl hm ht ?_ ⟨hR.2.2 _ hw,λ k _ h => h.elim,0,Nat.zero_le _,λ j _ => ⟨λ h => h.elim,λ h => by omega⟩,hS0,λ k _ h => h.elim⟩ ?_ ?_ ?_
 ·unfold zmn;rw [<- hdl,<- hd];simp [List.filterMap_map]
  rfl
 ·have key:∀ (l:List Oper) (k:Nat),(∀ j o,l[j]?=some o->ops[k + j]?=some o) ->
    zaC (λ i o => ∀ (T:Nat->Vl) (W:Wo) (p:Nat),R wx W->p∈ph.getD i []->S p T W->zcR Fs us p ds T W (zaM .any o) ->
     ∀ K:Act->Wo->Prop,(∀ v W',((¬ ws.getD p ops.size=i->BH W W')/\(ws.getD p ops.size=i->S (p + 1) (zbB T o.dst v) W'/\R W W'))->(Fs.getD i λ _ _ => True) W' ((o.dst.map λ _ => v).getD undef)->K (({ a with tmps:=ovr a.tmps T dl }:Act).put o.dst v) W') ->
      wpOp P ops Q i K { a with tmps:=ovr a.tmps T dl } W) k l ->
    zaC (λ i o => ∀ (L:Nat->Prop) (T:Nat->Vl) (w:Wo),zdp L (zaM .any o)->¬ L i->(R wx w/\(∀ k,k < ops.size->L k->∀ d∈zaq ops k,L d)/\∃ p,p<=ws.length/\(∀ j,j < ws.length->(L (ws.getD j 0)↔j < p))/\S p T w/\∀ k,k < ops.size->L k->okU us k p=true->(Fs.getD k λ _ _ => True) w (dv ds T k)) ->
     ∀ K:Act->Wo->Prop,(∀ v w',(R wx w'/\(∀ k,k < ops.size->(k=i\/L k)->∀ d∈zaq ops k,(d=i\/L d))/\∃ p,p<=ws.length/\(∀ j,j < ws.length->((ws.getD j 0=i\/L (ws.getD j 0))↔j < p))/\S p (zbB T o.dst v) w'/\∀ k,k < ops.size->(k=i\/L k)->okU us k p=true->(Fs.getD k λ _ _ => True) w' (dv ds (zbB T o.dst v) k))->K (({ a with tmps:=ovr a.tmps T dl }:Act).put o.dst v) w') ->
      wpOp P ops Q i K { a with tmps:=ovr a.tmps T dl } w) k l:=by
   intro l
   induction l with
   | nil => intro k _ _; trivial
   | cons o r ih =>
    intro k hin h;refine ⟨?_,ih (k + 1) (λ j o' ho => by have:=hin (j + 1) o' (by simpa using ho); rw [show k + 1 + j=k + (j + 1) by omega]; exact this) h.2⟩;rintro L T W hL hn ⟨hb,hcl,p,hpl,hpj,hSp,hJ⟩ K hK;have hko:ops[k]?=some o:=by simpa using hin 0 o rfl
    obtain ⟨hks,hkd⟩:=hdst k o hko;have hall:=zdp.all hL;have hok:zeM ops ws k p=true:=by
     unfold zeM;rw [List.all_eq_true];intro j hj;have hj:j < ws.length:=by simpa using hj
     by_cases hjp:j < p
     ·rw [if_pos hjp,Bool.and_eq_true];have hLj:=(hpj j hj).2 hjp;refine ⟨?_,?_⟩
      ·rw [Bool.not_eq_true',Bool.eq_false_iff];intro hc;exact hn (hcl _ (hc1 j hj).1 hLj k (by simpa using hc))
      ·rw [Bool.not_eq_true',Bool.eq_false_iff];intro hc;have:ws.getD j 0=k:=by simpa using hc
       rw [this] at hLj; exact hn hLj
     ·rw [if_neg hjp,Bool.not_eq_true',Bool.eq_false_iff];intro hc;have:ws.getD j 0∈zaq ops k:=by simpa using hc
      rw [hwt k o hko] at this;exact hjp ((hpj j hj).1 (hall _ this))
    have hupd:∀ (v:Vl) (j:Nat),j < ops.size->j ≠ k->dv ds (zbB T o.dst v) j=dv ds T j:=by
     intro v j hj hjk;unfold dv
     cases hdj:ds.getD j none with
     | none => rfl
     | some d =>
      cases hdo:o.dst with
      | none => rfl
      | some d' =>
       have hne:d ≠ d':=λ e => by
        rw [hdo] at hkd;exact hjk (zbo hnd' hdj (by rw [<- hkd,e]))
       simp [zbB,upd,hne]
    refine h.1 T W p hb (hc2 k p hks hpl hok) hSp (zcR.mem λ d hdw => hJ d (Nat.lt_trans (zbt ht hko hdw) hks) (hall d hdw)) K λ v W' hst hv => hK v W' ?_
    have hbx:R W W':=by
     by_cases e:ws.getD p ops.size=k
     ·exact (hst.2 e).2
     ·exact hR.1 _ _ hb (hst.1 e)
    have hself:(Fs.getD k λ _ _ => True) W' (dv ds (zbB T o.dst v) k):=by
     have:dv ds (zbB T o.dst v) k=(o.dst.map λ _ => v).getD undef:=by
      unfold dv;rw [<- hkd]
      cases hdo:o.dst with
      | none => rfl
      | some d => simp [zbB,upd]
     rw [this]; exact hv
    refine ⟨hR.2.1 _ _ hb hbx,?_,?_⟩
    ·rintro j hj (rfl | hLj) d hd
     ·rw [hwt _ _ hko] at hd; exact .inr (hall d hd)
     ·exact .inr (hcl j hj hLj d hd)
    ·by_cases e:ws.getD p ops.size=k
     ·have hpl2:p < ws.length:=by
       rcases Nat.lt_or_ge p ws.length with h | h
       ·exact h
       ·rw [List.getD_eq_getElem?_getD,List.getElem?_eq_none h] at e;simp at e; omega
      refine ⟨p + 1,hpl2,λ j hj => ?_,(hst.2 e).1,λ j hj hLj ho => ?_⟩
      ·rw [hgd p hpl2] at e
       constructor
       ·rintro (h | h)
        ·have:=hwj j p hj hpl2 (by rw [h,e]); omega
        ·have:=(hpj j hj).1 h; omega
       ·intro h
        by_cases hjp:j=p
        ·subst hjp; exact .inl e
        ·exact .inr ((hpj j hj).2 (by omega))
      ·by_cases hjk:j=k
       ·subst hjk; exact hself
       ·have hLj:=hLj.resolve_left hjk;rw [hupd v j hj hjk];have hS2:=zde.get j hF;unfold okU at ho;have hJj:=hJ j hj hLj;unfold okU at hJj;have hu:=hus j hj
        cases hj2:us.getD j none with
        | none =>
         rw [hj2] at hS2 hJj;exact hS2 _ _ _ (hJj rfl) hbx
        | some t =>
         rw [hj2] at ho hu
         exfalso
         have ht2:p + 1<=t:=of_decide_eq_true ho;have:=hcl j hj hLj _ (hu p hpl2 (by omega));have:=(hpj p hpl2).1 this;omega
     ·refine ⟨p,hpl,λ j hj => ?_,hST p T _ W' hpl (λ j hj => ?_) (hSB p T W W' hSp (hst.1 e)),λ j hj hLj ho => ?_⟩
      ·constructor
       ·rintro (h | h)
        ·rcases Nat.lt_trichotomy j p with hlt | heq | hgt
         ·exact hlt
         ·subst heq; rw [hgd j hj] at e; exact absurd h e
         ·exfalso
          rcases (hc1 j hj).2 with h0 | h0
          ·omega
          ·rw [h,hwt k o hko] at h0;have:=(hpj (j - 1) (by omega)).1 (hall _ h0);omega
        ·exact (hpj j hj).1 h
       ·exact λ h => .inr ((hpj j hj).2 h)
      ·refine hupd v _ (hc1 j hj).1 λ hh => ?_
       rcases Nat.lt_trichotomy j p with hlt | heq | hgt
       ·exact hn (by rw [<- hh]; exact (hpj j hj).2 hlt)
       ·subst heq; rw [hgd j hj] at e; exact e hh
       ·rcases (hc1 j hj).2 with h0 | h0
        ·omega
        ·rw [hh,hwt k o hko] at h0;have:=(hpj (j - 1) (by omega)).1 (hall _ h0);omega
      ·by_cases hjk:j=k
       ·subst hjk; exact hself
       ·have hLj:=hLj.resolve_left hjk;rw [hupd v j hj hjk];have hS2:=zde.get j hF;have hJj:=hJ j hj hLj ho
        cases hj2:us.getD j none with
        | none =>
         rw [hj2] at hS2;exact hS2 _ _ _ hJj hbx
        | some t =>
         rw [hj2] at hS2;exact hS2 _ _ _ hJj (hst.1 e)
  exact key ops.toList 0 (λ j o ho => by simpa using ho) hs
 ·rintro T W ⟨hb,_,p,hpl,hpj,hSp,hJ⟩;have:p=ws.length:=by
   rcases Nat.lt_or_ge p ws.length with h | h
   ·exact absurd ((hpj p h).1 (hc1 p h).1) (by omega)
   ·omega
  subst this;exact he T W hb hSp (zcR.mem λ k hk => hJ k (by simpa using hk) (by simpa using hk))
 ·rintro L T W hL ⟨hb,hcl,p,hpl,hpj,hSp,hJ⟩;refine ⟨hb,λ k hk _ d hd => ?_,p,hpl,λ j hj => ?_,hSp,λ k hk _ => hJ k hk (hL k hk)⟩
  ·obtain ⟨o,ho⟩:∃ o,ops[k]?=some o:=⟨ops[k],Array.getElem?_eq_getElem hk⟩;rw [hwt k o ho] at hd;exact Nat.lt_trans (zbt ht ho hd) hk
  ·exact ⟨λ _ => (hpj j hj).1 (hL _ (hc1 j hj).1),λ _ => (hc1 j hj).1⟩
theorem zaw {R:Wo->Wo->Prop} {id:Nat} {a:Act} {w wx:Wo} (hR:SR R wx) (Fs:List (Wo->Vl->Prop)) (ds:List (Option Nat)) (dl ws:LN) (ph:List (LN)) (us:List (Option Nat)) (S:Nat->(Nat->Vl)->Wo->Prop)

  (hS0:∀ T,S 0 T w.drew) (hSB:∀ p T W W',S p T W->BH W W'->S p T W') (hST:∀ p T T' W,(∀ j,j < p->dv ds T' (ws.getD j 0)=dv ds T (ws.getD j 0))->S p T W->S p T' W)
  (hw:R wx w) (hF:zde R us Fs)
  (hs:zaC (λ i o => ∀ (T:Nat->Vl) (W:Wo) (p:Nat),R wx W->p∈ph.getD i []->S p T W->zcR Fs us p ds T W (zaM .any o) ->
   ∀ K:Act->Wo->Prop,(∀ v W',((¬ ws.getD p ops.size=i->BH W W')/\(ws.getD p ops.size=i->S (p + 1) (zbB T o.dst v) W'/\R W W'))->(Fs.getD i λ _ _ => True) W' ((o.dst.map λ _ => v).getD undef)->K (({ a with tmps:=ovr a.tmps T dl }:Act).put o.dst v) W') ->
    wpOp P ops Q i K { a with tmps:=ovr a.tmps T dl } W) 0 ops.toList)
  (he:∀ T W,R wx W->S ws.length T W->zcR Fs us ws.length ds T W (List.range ops.size)->Q .normal { a with tmps:=ovr a.tmps T dl } W)
  (hm:P.follows .mixedOrders=true:=by kernel_rfl) (ht:ziG .any ops=true:=by kernel_rfl) (hd:ops.toList.map (·.dst)=ds:=by kernel_rfl) (hdl:ds.filterMap (λ x => x)=dl:=by kernel_rfl) (hnd:dl.Nodup:=by exact of_decide_eq_true (by kernel_rfl)) (hwn:ws.Nodup:=by exact of_decide_eq_true (by kernel_rfl)) (hch:zgr ops ws ph=true:=by kernel_rfl) (hus:zop ops ws us=true:=by kernel_rfl):(Code.region id ops true).wp P Q a w :=
 zbA hR Fs ds dl ws ph us S hm ht hd hdl hnd hwn hch hus (hS0 _) hSB (λ p T T' W hp h => hST p T T' W λ j hj => h j (Nat.lt_of_lt_of_le hj hp)) hw hF hs he
end
def zn5 (w:Wo) (v:Vl):Prop:=∀ g,v.ownBlock=some g->∀ cur t fr,w.heap[g]?=some (.cells cur t fr)->∀ u∈cur.toList,zaK u
theorem zec (w:Wo) (cur:Array Vl) (e:TypeId) (n c:Nat) (h:∀ u∈cur.toList,zaK u):zn5 (w.alloc (.cells cur e)) (.slice (some ⟨w.heap.size,0,none⟩) n c):=by
 intro g hg cur' t fr hc;simp only [Value.ownBlock,Option.some.injEq] at hg;subst hg;rw [heap_alloc_new] at hc;simp only [Option.some.injEq,Obj.cells.injEq] at hc;obtain ⟨rfl,_,_⟩:=hc;exact h
section
variable {P : Program}
theorem zcl (w:Wo) (base:Nat) (t ty e:TypeId) (i:TypeInfo) (z:Vl) (ht:P.underlying t=some (.slice e)) (hi:P.info? e=some i) (hz:i.zero=some z)
  (hzs:z.cells.size=i.size) (hsz:0 < i.size) (v:Vl) (n:Nat) (xs:List Vl) (hown:w.ownsRow base e i.size v n xs) (hp:zn5 w v)
  (a:Addr) (m c:Nat) (news:List Vl) (hl:news.length=m * i.size) (hnews:∀ j u,news[j]?=some u->w.cell? (a.add j)=some u) (h1:∀ u∈news,u.oneCell'=true)
  (h63:n + m<=maxLen) (hbytes:(n + m) * i.bytes<=140737488355328) (hbase:base<=w.heap.size) (hm:0 < m) (hzn:∀ u∈z.cells.toList,zaK u) (hnn:∀ u∈news,zaK u) :
  ∃ v' w',(Builtin.append_ #[t,t] ty #[v,.slice (some a) m c]).run P w=.ok v' w'/\w'.ownsRow base e i.size v' (n + m) (xs ++ news)/\w.grownBy w' v.ownBlock/\zn5 w' v':=by
 obtain ⟨v',w',hr,h2,h3,h4⟩:=run_append_own (P:=P) w base t ty e i z i.size i.bytes ht hi hz rfl rfl hzs hsz v n xs hown a m c news hl hnews h1 h63 hbytes hbase;refine ⟨v',w',hr,h2,h3,?_⟩;have hm63:n + m<=9223372036854775807:=by simp only [maxLen] at h63; omega
 rcases hown.2 with ⟨rfl,rfl⟩ | ⟨g,cap,cur,rfl,hbg,hg,hnc,hcm,hcs,htake⟩
 ·have hr2:=run_append_nil (P:=P) w t ty e i z ht hi hz a m c news hl hnews hm (by omega) (by have hb:=hbytes; simp only [Nat.zero_add] at hb; omega);have he:=hr.symm.trans hr2;simp only [Result.ok.injEq] at he;obtain ⟨rfl,rfl⟩:=he;refine zec w.drew _ e _ _ λ u hu => ?_
  simp only [Array.toList_append,List.mem_append] at hu;rcases hu with hu | hu
  ·exact hnn u (by simpa using hu)
  ·exact hzn u (zdf hu)
 ·by_cases hroom:n + m<=cap
  ·have hfit:n * i.size + news.length<=cur.size:=by rw [hl,hcs,<- Nat.add_mul]; exact Nat.mul_le_mul_right _ hroom
   have hr2:=run_append_room (P:=P) w t ty e i ht hi g n cap cur hg a m c news hl hnews h1 hroom hfit;have he:=hr.symm.trans hr2;simp only [Result.ok.injEq] at he;obtain ⟨rfl,rfl⟩:=he;intro g' hg' cur' t' fr' hc';simp only [Value.ownBlock,Option.some.injEq] at hg';subst hg';rw [setRow_heap w g cur _ e _ hg] at hc';simp only [Option.some.injEq,Obj.cells.injEq] at hc';obtain ⟨rfl,_,_⟩:=hc';have hcur:=hp g rfl cur e _ hg;intro u hu;simp only [List.mem_append] at hu;rcases hu with (hu | hu) | hu
   ·exact hcur u (List.mem_of_mem_take hu)
   ·exact hnn u hu
   ·exact hcur u (List.mem_of_mem_drop hu)
  ·have holds:∀ j u,xs[j]?=some u->w.cell? ((⟨g,0,none⟩:Addr).add j)=some u:=hown.cells (g:=g) rfl;have hr2:=run_append_grow (P:=P) w t ty e i z ht hi hz ⟨g,0,none⟩ n cap xs hown.1 holds a m c news hl hnews (by omega) (by omega) (growslice_fits (by omega) hbytes);have he:=hr.symm.trans hr2;simp only [Result.ok.injEq] at he;obtain ⟨rfl,rfl⟩:=he;have hcur:=hp g rfl cur e _ hg;refine zec w.drew _ e _ _ λ u hu => ?_
   simp only [Array.toList_append,List.mem_append] at hu;rcases hu with (hu | hu) | hu
   ·have:u∈xs:=by simpa using hu
    rw [<- htake] at this;exact hcur u (List.mem_of_mem_take this)
   ·exact hnn u hu
   ·exact hzn u (zdf hu)
end
def zm2 (l:LN):List Vl:=l.map λ b => .int .i64 (b:Nat)
def zj3 (w:Wo) (B:Nat) (v:Vl) (l:LN):Prop:=w.ownsRow B 3 1 v l.length (zm2 l)/\zn5 w v
theorem zj3.nil (w:Wo) (B:Nat):zj3 w B nS_ []:=⟨World.ownsRow_nil _ _ _ _,λ g hg => by simp [Value.ownBlock] at hg⟩
theorem zj3.kept {G:Nat->Prop} {w w':Wo} {B:Nat} {v:Vl} {l:LN} (h:zj3 w B v l) (hk:zaf G w w') (hv:∀ b,v.ownBlock=some b->¬ G b):zj3 w' B v l:=by
 refine ⟨zaS h.1 hk hv,λ g hg cur t fr hc => ?_⟩;have hlt:=(World.ownsRow.lt h.1 g hg).2;exact h.2 g hg cur t fr ((hk.block g hlt (hv g hg)).symm.trans hc)
theorem zj3.lt {w:Wo} {B:Nat} {v:Vl} {l:LN} (h:zj3 w B v l):∀ b,v.ownBlock=some b->B<=b/\b < w.heap.size:=World.ownsRow.lt h.1
theorem Tryz.info3:(Tryz.prog.info? 3).map (λ i => (i.zero,i.size,i.bytes))=some (some (.int .i64 0),1,8):=by kernel_rfl
theorem Tryz.slice55:Tryz.prog.underlying 55=some (.slice 3):=by kernel_rfl
theorem ziX (w W:Wo) (ty:TypeId) (B:Nat) (v:Vl) (l:LN) (k bx c:Nat) (hown:zj3 w B v l) (hB:B<=w.heap.size) (hb:Below B W w)
  (hc:w.cell? (aD_ bx 0)=some (.int .i64 (k:Nat))) (hl:l.length<=1000000) :
  ∃ v' w',(Builtin.append_ #[55,55] ty #[v,.slice (sD bx 0) 1 c]).run Tryz.prog w=.ok v' w'/\zj3 w' B v' (l ++ [k])/\Below B W w'/\w.grownBy w' v.ownBlock/\(v'.ownBlock=v.ownBlock\/v'.ownBlock=some w.heap.size):=by
 obtain ⟨i0,hi,hz0,hz1,hz2⟩:=info_parts Tryz.info3;have hn:∀ (j:Nat) (u:Vl),[Value.int .i64 (k:Nat)][j]?=some u->w.cell? ((⟨bx,0,none⟩:Addr).add j)=some u:=by
  intro j u hj
  match j,hj with
  | 0,hj => simp at hj; subst hj; simpa [Addr.add] using hc
  | j + 1,hj => simp at hj
 have h1:∀ u∈[Value.int .i64 (k:Nat)],u.oneCell'=true:=by intro u hu; simp at hu; subst hu; rfl
 obtain ⟨v',w',hr,h3,h4,h5⟩:=zcl (P:=Tryz.prog) w B 55 ty 3 i0 (.int .i64 0) Tryz.slice55 hi hz0 (by rw [hz1]; rfl) (by rw [hz1]; decide) v l.length (zm2 l) (by rw [hz1]; exact hown.1) hown.2 ⟨bx,0,none⟩ 1 c [.int .i64 (k:Nat)] (by rw [hz1]; rfl) hn h1 (by unfold maxLen; omega) (by rw [hz2]; omega) hB (by omega)
  (by intro u hu z e; simp [Value.cells] at hu; subst hu; cases e) (by intro u hu z e; simp at hu; subst hu; cases e)
 obtain ⟨v2,w2,hr2,_,_,_,hat⟩:=run_append_own_at (P:=Tryz.prog) w B 55 ty 3 i0 (.int .i64 0) i0.size i0.bytes Tryz.slice55 hi hz0 rfl rfl (by rw [hz1]; rfl) (by rw [hz1]; decide) v l.length (zm2 l) (by rw [hz1]; exact hown.1) ⟨bx,0,none⟩ 1 c [.int .i64 (k:Nat)] (by rw [hz1]; rfl) hn h1 (by unfold maxLen; omega) (by rw [hz2]; omega) hB;have he:=hr.symm.trans hr2;simp only [Result.ok.injEq] at he;obtain ⟨rfl,rfl⟩:=he;refine ⟨v',w',hr,⟨?_,h5⟩,hb.grown h4 hB λ k hk => (World.ownsRow.lt hown.1 k hk).1,h4,hat⟩;rw [hz1] at h3;rw [List.length_append];unfold zm2;rw [List.map_append];exact h3
theorem zaD.base {w:Wo} {B B':Nat} {v:Vl} {l:List Qo} (h:zaD w B' v l) (hB:B<=B'):zaD w B v l:=by
 obtain ⟨xs,h1,h2,h3⟩:=h;refine ⟨xs,⟨h1.1,h1.2.imp _root_.id ?_⟩,h2,h3⟩;rintro ⟨g,cap,cur,e,hb,r⟩;exact ⟨g,cap,cur,e,Nat.le_trans hB hb,r⟩
structure TG (W:Wo) (B g:Nat) (vA vB:Vl) (bs:LN) (ow:List (Vl × List Qo)):Prop where
 oA:zgL W B vA (ow.map (·.1))
 oB:zj3 W B vB bs
 o:∀ p∈ow,zaD W B p.1 p.2/\Sep vA p.1/\Sep vB p.1/\p.1.ownBlock ≠ some g
 s:ow.Pairwise λ p q => Sep p.1 q.1
 sAB:Sep vA vB
 gA:vA.ownBlock ≠ some g/\vB.ownBlock ≠ some g
 gl:g < W.heap.size
theorem TG.nil {W:Wo} {B g:Nat} (hg:g < W.heap.size):TG W B g nS_ nS_ [] [] :=
 ⟨zgL.nil _ _,zj3.nil _ _,λ p hp => by simp at hp,.nil,zb8 _,⟨by simp [Value.ownBlock],by simp [Value.ownBlock]⟩,hg⟩
section
variable {W W' : Wo} {B g : Nat} {vA vB : Vl} {bs : LN} {ow : List (Vl × List Qo)}
theorem TG.mono (h:TG W B g vA vB bs ow) (hb:BH W W'):TG W' B g vA vB bs ow:=by
 have hk:zaf (λ _ => False) W W':=.of_below hb;exact ⟨h.oA.kept hk λ _ _ h => h,h.oB.kept hk λ _ _ h => h,λ p hp => ⟨(h.o p hp).1.mono hb,(h.o p hp).2⟩,h.s,h.sAB,h.gA,Nat.lt_of_lt_of_le h.gl hb.size⟩
theorem TG.kept {G:Nat->Prop} (h:TG W B g vA vB bs ow) (hk:zaf G W W') (hp:NoU G W) (hA:∀ b,vA.ownBlock=some b->¬ G b) (hB:∀ b,vB.ownBlock=some b->¬ G b) (hO:∀ p∈ow,∀ b,p.1.ownBlock=some b->¬ G b):TG W' B g vA vB bs ow :=
 ⟨h.oA.kept hk hA,h.oB.kept hk hB,λ p hp' => ⟨(h.o p hp').1.keptU hk hp (hO p hp'),(h.o p hp').2⟩,h.s,h.sAB,h.gA,Nat.lt_of_lt_of_le h.gl hk.size⟩
theorem TG.keptg (h:TG W B g vA vB bs ow) (hk:zaf (λ b => b=g) W W') (hp:NoU (λ b => b=g) W):TG W' B g vA vB bs ow :=
 h.kept hk hp (λ b e e2 => h.gA.1 (by rw [e,e2])) (λ b e e2 => h.gA.2 (by rw [e,e2])) λ p hp' b e e2 => (h.o p hp').2.2.2 (by rw [e,e2])
theorem TG.slA (h:TG W B g vA vB bs ow):∃ a n c,vA=.slice a n c:=by
 rcases h.oA.1.2 with ⟨e,_⟩ | ⟨g',cap,cur,e,_⟩
 ·exact ⟨_,_,_,e⟩
 ·exact ⟨_,_,_,e⟩
theorem TG.slB (h:TG W B g vA vB bs ow):∃ a n c,vB=.slice a n c:=by
 rcases h.oB.1.2 with ⟨e,_⟩ | ⟨g',cap,cur,e,_⟩
 ·exact ⟨_,_,_,e⟩
 ·exact ⟨_,_,_,e⟩
theorem Row.under {g1:Nat} {E:TypeId} {xs:List Vl} {B':Nat} (h:Row W g1 E xs) (hb:Below B' W W') (hk:g1 < B'):Row W' g1 E xs:=(hb.block g1 hk).trans h
theorem Row.oth {g1 g2 k:Nat} {E:TypeId} {xs:List Vl} (h:Row W g1 E xs) (hne:g1 ≠ g2) (x:Vl):Row (W.setCell (aD_ g2 k) x) g1 E xs:=h.mono ((zaf.refl W:zaf (λ b => b=g2) W W).setCell (p:=⟨g2,k,none⟩) rfl _) hne
theorem zaD.sl {v:Vl} {l:List Qo} (h:zaD W B v l):∃ a n c,v=.slice a n c:=by
 obtain ⟨ao,cap,e,_⟩:=h.read;exact ⟨_,_,_,e⟩
theorem zgf {u v v':Vl} (h:Sep u v) (hu:∀ b,u.ownBlock=some b->b < W.heap.size) (hn:v'.ownBlock=v.ownBlock\/v'.ownBlock=some W.heap.size):Sep u v':=by
 intro b hb;rcases hn with e | e
 ·rw [e]; exact h b hb
 ·rw [e]; intro e2;have:=hu b hb;simp only [Option.some.injEq] at e2;omega
theorem TG.appA {X:Wo} (h:TG W B g vA vB bs ow) (hbW:BH W W') {ar:OA} {n cr bx c:Nat} {l:List Qo} (hx:zaD W' W.heap.size (.slice ar n cr) l) (hB:B<=W.heap.size) (hb:Below B X W') (ty:TypeId)
  (hc:W'.cell? (aD_ bx 0)=some (.slice ar n cr)) (hl:ow.length<=1000000) :
  ∃ v' w',(Builtin.append_ #[103,103] ty #[vA,.slice (sD bx 0) 1 c]).run Tryz.prog W'=.ok v' w'/\TG w' B g v' vB bs (ow ++ [(.slice ar n cr,l)])/\Below B X w'/\Grw W' w' vA v':=by
 have hs:=hbW.size;have h2:=h.mono hbW;obtain ⟨v',w',hr,h3,h4,gr⟩:=zfs W' X ty B vA (ow.map (·.1)) ar n cr bx c h2.oA (by omega) hb hc (by rw [List.length_map]; exact hl);have lA:∀ b,vA.ownBlock=some b->b < W.heap.size:=λ b e => (h.oA.lt b e).2
 have lB:∀ b,vB.ownBlock=some b->b < W.heap.size:=λ b e => (h.oB.lt b e).2
 have lO:∀ p∈ow,∀ b,p.1.ownBlock=some b->b < W.heap.size:=λ p hp b e => ((h.o p hp).1.lt b e).2
 have lX:∀ b,(Value.slice ar n cr).ownBlock=some b->W.heap.size<=b/\b < W'.heap.size:=hx.lt;have sXA:Sep (.slice ar n cr) vA:=λ b hb e => by have:=lX b hb; have:=lA b e; omega
 have sXB:Sep (.slice ar n cr) vB:=λ b hb e => by have:=lX b hb; have:=lB b e; omega
 have sv:∀ {u:Vl},Sep u vA->(∀ b,u.ownBlock=some b->b < W'.heap.size)->Sep u v':=λ hu hl => zgf hu hl gr.new
 refine ⟨v',w',hr,⟨by rw [List.map_append]; exact h3,h2.oB.kept gr.kept λ b e => h.sAB.symm b e,?_,?_,(sv h.sAB.symm λ b e => by have:=lB b e; omega).symm,⟨?_,h.gA.2⟩,Nat.lt_of_lt_of_le h2.gl gr.grown.size⟩,h4,gr⟩
 ·intro p hp;rcases List.mem_append.1 hp with hp | hp
  ·exact ⟨(h2.o p hp).1.kept gr.kept gr.noG λ b e => (h.o p hp).2.1.symm b e,(sv (h.o p hp).2.1.symm λ b e => by have:=lO p hp b e; omega).symm,(h.o p hp).2.2⟩
  ·simp only [List.mem_singleton] at hp;subst hp;refine ⟨(hx.kept gr.kept gr.noG λ b e => sXA b e).base hB,(sv sXA λ b e => (lX b e).2).symm,sXB.symm,λ e => ?_⟩;have:=(lX g e).1;have:=h.gl;omega
 ·rw [List.pairwise_append];refine ⟨h.s,List.pairwise_singleton _ _,λ p hp q hq => ?_⟩;simp only [List.mem_singleton] at hq;subst hq;intro b hb e;have:=lO p hp b hb;have:=(lX b e).1;omega
 ·rcases gr.new with e | e
  ·rw [e]; exact h.gA.1
  ·rw [e]; intro e2;simp only [Option.some.injEq] at e2;have:=h2.gl;omega
theorem TG.appB {X:Wo} (h:TG W B g vA vB bs ow) (hB:B<=W.heap.size) (hb:Below B X W) (ty:TypeId) {k bx c:Nat} (hc:W.cell? (aD_ bx 0)=some (.int .i64 (k:Nat))) (hl:bs.length<=1000000) :
  ∃ v' w',(Builtin.append_ #[55,55] ty #[vB,.slice (sD bx 0) 1 c]).run Tryz.prog W=.ok v' w'/\TG w' B g vA v' (bs ++ [k]) ow/\Below B X w'/\zaf (λ b => vB.ownBlock=some b) W w'/\NoU (λ b => vB.ownBlock=some b) W:=by
 obtain ⟨v',w',hr,h3,h4,hg,hn⟩:=ziX W X ty B vB bs k bx c h.oB hB hb hc hl;have hk:zaf (λ b => vB.ownBlock=some b) W w':=.of_grown hg;have hno:NoU (λ b => vB.ownBlock=some b) W:=λ b hb => h.oB.2 b hb
 refine ⟨v',w',hr,⟨h.oA.kept hk λ b e => h.sAB b e,h3,λ p hp => ?_,h.s,zgf h.sAB (λ b e => (h.oA.lt b e).2) hn,⟨h.gA.1,?_⟩,Nat.lt_of_lt_of_le h.gl hg.size⟩,h4,hk,hno⟩
 ·exact ⟨(h.o p hp).1.keptU hk hno λ b e => (h.o p hp).2.2.1.symm b e,(h.o p hp).2.1,(zgf (h.o p hp).2.2.1.symm (λ b e => ((h.o p hp).1.lt b e).2) hn).symm,(h.o p hp).2.2.2⟩
 ·rcases hn with e | e
  ·rw [e]; exact h.gA.2
  ·rw [e]; intro e2;simp only [Option.some.injEq] at e2;have:=h.gl;omega
end
theorem zaD.addr' {w:Wo} {B:Nat} {v:Vl} {l:List Qo} (h:zaD w B v l) (hl:0 < l.length):∃ g cap,v=.slice (sD g 0) l.length cap:=by
 obtain ⟨xs,h1,_⟩:=h;rcases h1.2 with ⟨_,hn⟩ | ⟨g,cap,cur,e,hB,_⟩
 ·omega
 ·exact ⟨g,cap,e⟩
theorem TG.low {W:Wo} {B B' g:Nat} {vA vB:Vl} {bs:LN} {ow:List (Vl × List Qo)} (h:TG W B g vA vB bs ow) (hB:B'<=B):TG W B' g vA vB bs ow:=by
 have key:∀ {e s n:Nat} {v:Vl} {xs:List Vl},W.ownsRow B e s v n xs->W.ownsRow B' e s v n xs:=λ h1 => by
  refine ⟨h1.1,h1.2.imp _root_.id ?_⟩;rintro ⟨g,cap,cur,e,hb,r⟩;exact ⟨g,cap,cur,e,Nat.le_trans hB hb,r⟩
 exact ⟨⟨key h.oA.1,h.oA.2⟩,⟨key h.oB.1,h.oB.2⟩,λ p hp => ⟨(h.o p hp).1.base hB,(h.o p hp).2⟩,h.s,h.sAB,h.gA,h.gl⟩
theorem TG.tb {W:Wo} {B g m n q:Nat} {vA vB:Vl} {bs:LN} {ow:List (Vl × List Qo)} {L:Nat->Nat->Rat} {b0:Nat->Nat} (h:TG W B g vA vB bs ow) (henv:∃ w0,Env w0/\w0.heap.size=B/\Below B w0 W)
  (hbox:Row W g 164 [.int .i64 (m:Nat),.int .i64 (n:Nat),vA,vB,.int .i64 0]) (hg:B<=g) (how:ow.map (·.2)=(List.range (m + 1)).map λ i => zbm L i (q + 1)) (hbs:bs=(List.range m).map b0)
  (hm:0 < m) (hs:m<=1000/\n<=1000) (hq:q=n + m):∃ ga ca gb cb rr cr,TB W B g ga ca gb cb m n q rr cr L b0:=by
 have hlo:ow.length=m + 1:=by have:=congrArg List.length how; simpa using this
 have hlb:bs.length=m:=by rw [hbs]; simp
 have hget:∀ i,i<=m->∃ p,ow[i]?=some p/\p.2=zbm L i (q + 1):=λ i hi => by
  have hi':i < ow.length:=by omega
  refine ⟨ow[i],gE hi',?_⟩;have h1:=congrArg (λ l => l[i]?) how;simp only [List.getElem?_map,gE hi',List.getElem?_range (show i < m + 1 by omega),Option.map_some,Option.some.injEq] at h1;exact h1
 have hex:∀ i,∃ rc:Nat × Nat,i<=m->ow[i]?=some (.slice (some ⟨rc.1,0,none⟩) (q + 1) rc.2,zbm L i (q + 1)):=λ i => by
  by_cases hi:i<=m
  ·obtain ⟨p,hp,e⟩:=hget i hi;obtain ⟨g',cap,e2⟩:=(h.o p (List.mem_of_getElem? hp)).1.addr' (by rw [e,zam]; omega);rw [e,zam] at e2;refine ⟨(g',cap),λ _ => ?_⟩;rw [hp]; exact congrArg some (Prod.ext e2 e)
  ·exact ⟨(0,0),λ h => absurd h hi⟩
 obtain ⟨rc,hrc⟩:=Classical.axiomOfChoice hex;obtain ⟨ga,ca,eA⟩:∃ ga ca,vA=.slice (sD ga 0) (m + 1) ca:=by
  rcases h.oA.1.2 with ⟨_,hn⟩ | ⟨g',cap,cur,e,_⟩
  ·rw [List.length_map,hlo] at hn; omega
  ·rw [List.length_map,hlo] at e; exact ⟨g',cap,e⟩
 obtain ⟨gb,cb,eB⟩:∃ gb cb,vB=.slice (sD gb 0) m cb:=by
  rcases h.oB.1.2 with ⟨_,hn⟩ | ⟨g',cap,cur,e,_⟩
  ·rw [hlb] at hn; omega
  ·rw [hlb] at e; exact ⟨g',cap,e⟩
 subst eA;subst eB;have hmem:∀ i,i<=m->(Value.slice (some ⟨(rc i).1,0,none⟩) (q + 1) (rc i).2,zbm L i (q + 1))∈ow:=λ i hi => List.mem_of_getElem? (hrc i hi)
 refine ⟨ga,ca,gb,cb,λ i => (rc i).1,λ i => (rc i).2,henv,hbox,λ i hi => ?_,λ i hi => (h.o _ (hmem i hi)).1,?_,λ k hk => by subst hk; exact h.oB.2 k rfl,λ i t hi ht e => ?_,λ i hi => ?_,?_,⟨hg,(h.oA.lt ga rfl).1⟩,(h.oA.lt ga rfl).2,hs,hq⟩
 ·exact zaI h.oA.1 (by rw [List.getElem?_map,hrc i hi]; rfl)
 ·have:=h.oB.1;rw [hlb] at this;have e:zm2 bs=zk5 b0 m:=by rw [hbs]; unfold zm2 zk5; rw [List.map_map]; rfl
  rw [e] at this;exact this
 ·by_cases hit:i=t
  ·exact hit
  ·exfalso
   have key:∀ i t,i < t->t<=m->(rc i).1=(rc t).1->False:=λ i t hlt ht e => by
    have hi:i<=m:=by omega
    have h1:=hrc i hi;have h2:=hrc t ht;have li:i < ow.length:=by omega
    have lt':t < ow.length:=by omega
    rw [gE li] at h1;rw [gE lt'] at h2;have:=List.pairwise_iff_getElem.1 h.s i t li lt' hlt;rw [Option.some.inj h1,Option.some.inj h2] at this;exact this (rc i).1 rfl (by rw [e]; rfl)
   rcases Nat.lt_or_gt_of_ne hit with h1 | h1
   ·exact key i t h1 ht e
   ·exact key t i h1 hi e.symm
 ·have h1:=h.o _ (hmem i hi);refine ⟨λ e => h1.2.2.2 (by rw [<- e]; rfl),λ e => ?_,λ e => ?_⟩
  ·exact h1.2.1 ga rfl (by rw [<- e]; rfl)
  ·exact h1.2.2.1 gb rfl (by rw [<- e]; rfl)
 ·refine ⟨λ e => h.gA.1 (by rw [e]; rfl),λ e => h.gA.2 (by rw [e]; rfl),λ e => ?_⟩;exact h.sAB ga rfl (by rw [e]; rfl)
theorem Row.noG' {w:Wo} {E:TypeId} {g:Nat} {xs:List Vl} (h:Row w g E xs) (hn:∀ u∈xs,zaF u):NoG (λ b => b=g) w:=by
 intro k hk cur t fr hc;subst hk;have:=h.symm.trans hc;simp only [Option.some.injEq,Obj.cells.injEq] at this;obtain ⟨rfl,_,_⟩:=this;exact hn
theorem TB.tail {W:Wo} {B g ga ca gb cb m n q:Nat} {rr cr:Nat->Nat} {L:Nat->Nat->Rat} {bs:Nat->Nat} (h:TB W B g ga ca gb cb m n q rr cr L bs) (hn:n<=q):UQ W (some ⟨rr m,n * 4,none⟩) ((List.range (q - n)).map λ i => some (L m (n + i))):=by
 intro j o hj;have hjk:j < q - n:=by
  rcases Nat.lt_or_ge j (q - n) with h | h
  ·exact h
  ·rw [List.getElem?_eq_none (by simp; omega)] at hj; cases hj
 rw [List.getElem?_map,List.getElem?_range hjk] at hj
 cases hj
 obtain ⟨n1,a1,l1,c1,n2,a2,l2,c2,e0,e1,e2,e3,-,-,-,-,hV⟩:=h.cells4 (i:=m) (j:=n + j) (Nat.le_refl m) (by omega);rw [Nat.add_mul] at e0 e1 e2 e3;exact ⟨rr m,n * 4,n1,a1,l1,c1,n2,a2,l2,c2,rfl,⟨e0,e1,e2,e3,trivial,trivial,trivial,trivial⟩,hV⟩
theorem zkG {w:Wo} {B B':Nat} {v:Vl} {xs:List Vl} (h:zf0 w B v xs) (hB:B'<=B):zf0 w B' v xs:=by
 refine ⟨h.1,h.2.imp id ?_⟩;rintro ⟨g,cap,cur,hv,hb,r⟩;exact ⟨g,cap,cur,hv,Nat.le_trans hB hb,r⟩
theorem zlS {w:Wo} {n E:Nat} {x y:Vl} (h:Row w n E [x,y]):∀ j u,[x,y][j]?=some u->w.cell? ⟨n,0 + j,none⟩=some u:=by
 intro j u hj
 match j,hj with
 | 0,hj => simp at hj; subst hj; exact h.cell (k:=0) (by simp)
 | 1,hj => simp at hj; subst hj; exact h.cell (k:=1) (by simp)
 | j + 2,hj => simp at hj
theorem zhT (pg:Prg) (v:Vl) (w:Wo) (h:zn1 w v pg) (hE:Env w) :
  CP 114 #[v] w λ e w' => e=.returned (.int .i64 pg.err)/\BH w w':=by
 obtain ⟨aA,cA,aB,cB,aC,cC,rfl,uA,uB,uC⟩:=h;go_enter func114,ntmps114;go_upto_region 1 with fail;have hb0:=bA w (.cells #[.slice aA pg.A.length cA,.slice aB pg.B.length cB,.slice aC pg.C.length cC] 105);have rA:Row (w.alloc (.cells #[.slice aA pg.A.length cA,.slice aB pg.B.length cB,.slice aC pg.C.length cC] 105)) w.heap.size 105 [.slice aA pg.A.length cA,.slice aB pg.B.length cB,.slice aC pg.C.length cC]:=heap_alloc_new _ _;obtain ⟨g,hg⟩:=exi (w.heap.size);rw [<- hg] at rA |-;have Hg:=hii hg;clear hg;generalize w.alloc (.cells #[.slice aA pg.A.length cA,.slice aB pg.B.length cB,.slice aC pg.C.length cC] 105)=w1 at *;have HA:=hii (uA.mono hb0);have HB:=hii (uB.mono hb0);have HCC:=hii (uC.mono hb0);have hE:=hE.mono hb0;have Hb0:=hii hb0;clear uA uB uC hb0;refine zaw srB (wx:=w1) [vf (pT g 1),vf (.slice aB pg.B.length cB),vf (.int .i64 pg.B.length),vf (pT g 2),vf (.slice aC pg.C.length cC),vf (.int .i64 pg.C.length),(λ _ _ => True),vf (.int .i64 pg.B.length),(λ _ _ => True)] [some 6,some 7,some 8,some 9,some 10,some 11,some 4,some 3,none] [6,7,8,9,10,11,4,3] [6,8] [[0,1],[0,1],[0,1],[0,1],[0,1],[0,1],[0],[1],[1]] [none,none,none,none,none,none,none,none,none] (λ p T W => match p with | 0 => True | 1 => ∃ nb,T 4=pT nb 0/\w1.heap.size<=nb/\Row W nb 3 [.int .i64 0] | _ + 2 => ∃ nb,T 4=pT nb 0/\w1.heap.size<=nb/\Row W nb 3 [.int .i64 pg.C.length]) (λ T => trivial) (λ p T W W' h hb => match p,h with | 0,h => trivial | 1,h => ⟨h.choose,h.choose_spec.1,h.choose_spec.2.1,h.choose_spec.2.2.below hb⟩ | _ + 2,h => ⟨h.choose,h.choose_spec.1,h.choose_spec.2.1,h.choose_spec.2.2.below hb⟩) (λ p T T' W hT h => match p,hT,h with | 0,_,h => h | 1,hT,h => (by have e0:T' 4=T 4:=hT 0 (by decide); have h:∃ nb,T 4=pT nb 0/\w1.heap.size<=nb/\Row W nb 3 [.int .i64 0]:=h; show ∃ nb,T' 4=pT nb 0/\w1.heap.size<=nb/\Row W nb 3 [.int .i64 0]; rw [e0]; exact h) | _ + 2,hT,h => (by have e0:T' 4=T 4:=hT 0 (by omega); have h:∃ nb,T 4=pT nb 0/\w1.heap.size<=nb/\Row W nb 3 [.int .i64 pg.C.length]:=h; show ∃ nb,T' 4=pT nb 0/\w1.heap.size<=nb/\Row W nb 3 [.int .i64 pg.C.length]; rw [e0]; exact h)) br ⟨zac _ _,zac _ _,zac _ _,zac _ _,zac _ _,zac _ _,(λ _ _ _ h _ => h),zac _ _,(λ _ _ _ h _ => h),trivial⟩ ⟨?s0,?s1,?s2,?s3,?s4,?s5,?s6,?s7,?s8,trivial⟩ ?he
 case' s0 | s1 | s2 | s3 | s4 | s5 | s6 | s7 | s8 =>
  rintro T W p hb hp hS hA K hK
 case' s0 | s3 =>
  clear hS;simp only [sA] at hK |-
 case' s1 =>
  clear hS;have e0:T 6=_:=hA.1 rfl;obtain ⟨x0,x1,x2⟩:=(rA.below hb).n3;simp only [sA,e0] at hK |-
 case' s2 =>
  clear hS;have e1:T 7=_:=hA.1 rfl;simp only [sA,e1] at hK |-
 case' s4 =>
  clear hS;have e3:T 9=_:=hA.1 rfl;obtain ⟨x0,x1,x2⟩:=(rA.below hb).n3;simp only [sA,e3] at hK |-
 case' s5 =>
  clear hS;have e4:T 10=_:=hA.1 rfl;simp only [sA,e4] at hK |-
 case' s7 =>
  clear hS;have e2:T 8=_:=hA.1 rfl;simp only [sA,e2] at hK |-
 case s0 | s1 | s2 | s3 | s4 | s5 | s7 =>
  have HK:=hii hK;clear hK hA;refine wO rfl ?_;go_simp;exact HK.out _ _ ⟨λ _ => br,λ h => absurd h (zas (by decide) (by decide))⟩ (rfl)
 case s6 =>
  obtain rfl:p=0:=by simpa using hp
  have hS:True:=hS;simp only [sA] at hK |-;have HK:=hii hK;clear hK hA;refine wO rfl ?_;go_simp;obtain ⟨w2,hw2⟩:∃ w2,w2=W.alloc (.cells #[.int .i64 0] 3):=⟨_,rfl⟩;have hb1:BH W w2:=by rw [hw2]; exact bA W _
  have hrow:Row w2 W.heap.size 3 [.int .i64 0]:=by rw [hw2]; exact heap_alloc_new W _
  rw [<- hw2]
  try dsimp only
  exact HK.out _ _ ⟨λ h => absurd rfl h,λ _ => ⟨⟨_,rfl,hb.size,hrow⟩,hb1.mono hb.size⟩⟩ (trivial)
 case s8 =>
  obtain rfl:p=1:=by simpa using hp
  have hS:∃ nb,T 4=pT nb 0/\w1.heap.size<=nb/\Row W nb 3 [.int .i64 0]:=hS;have e5:T 11=_:=hA.2.1 rfl;obtain ⟨n4,e6,hge,R4⟩:=hS;have y0:=R4.cell (k:=0) (by simp);have y1:=R4.free 0;simp only [sA,e5,e6] at hK |-;have HK:=hii hK;clear hK hA;refine wO rfl ?_;go_simp;exact HK.out undef _ ⟨λ h => absurd rfl h,λ _ => ⟨⟨n4,e6,hge,R4.set 0 _⟩,(Below.refl _ W).setCell (p:=⟨n4,0,none⟩) hge _⟩⟩ (trivial)
 case he =>
  rintro T W hb hS hA;have hS:∃ nb,T 4=pT nb 0/\w1.heap.size<=nb/\Row W nb 3 [.int .i64 pg.C.length]:=hS;have f7:T 3=.int .i64 pg.B.length:=hA.at 7 (by decide) rfl;obtain ⟨n4,f4,-,hrow⟩:=hS;have rN:Row W n4 3 [.int .i64 pg.C.length]:=hrow;clear hrow;have hbw:=Hb0.out.trans (hb.mono Hb0.out.size);have HA:=hii (HA.out.mono hb);have HB:=hii (HB.out.mono hb);have HCC:=hii (HCC.out.mono hb);have hE:=hE.mono hb;have rA:=rA.below hb;obtain ⟨x0,x1,x2⟩:=rA.n3;have y0:=rN.cell (k:=0) (by simp);simp only [List.getElem_cons_zero] at y0;simp only [sA,f4,f7];clear hA f4 f7 hb;obtain ⟨wl,rfl⟩:=exi W
  by_cases h1:pg.B.length < 1
  ·have g1:(pg.B.length:Int) < 1:=by omega
   go_wp2;go_ret;exact ⟨by rw [zce (by omega)]; rfl,hbw⟩
  have g1:¬ (pg.B.length:Int) < 1:=by omega
  by_cases h2:14 < pg.B.length
  ·have g2:(14:Int) < (pg.B.length:Int):=by omega
   go_wp2;go_ret;exact ⟨by rw [zce (by omega)]; rfl,hbw⟩
  have g2:¬ (14:Int) < (pg.B.length:Int):=by omega
  by_cases h3:pg.C.length < 1
  ·have g3:(pg.C.length:Int) < 1:=by omega
   go_wp2;go_ret;exact ⟨by rw [zce (by omega)]; rfl,hbw⟩
  have g3:¬ (pg.C.length:Int) < 1:=by omega
  by_cases h4:400 < pg.C.length
  ·have g4:(400:Int) < (pg.C.length:Int):=by omega
   go_wp2;go_ret;exact ⟨by rw [zce (by omega)]; rfl,hbw⟩
  have g4:¬ (400:Int) < (pg.C.length:Int):=by omega
  by_cases h5:pg.A.length ≠ pg.B.length
  ·have g5:((pg.A.length:Int) != (pg.B.length:Int))=true:=by rw [bne_iff_ne]; omega
   go_wp2;go_ret;exact ⟨by rw [zce (by omega)]; rfl,hbw⟩
  have g5:((pg.A.length:Int) != (pg.B.length:Int))=false:=by rw [bne_eq_false_iff_eq]; omega
  have hm:pg.A.length=pg.B.length:=by omega
  have hml:pg.B.length<=14:=by omega
  have hnl:pg.C.length<=400:=by omega
  have hn1:0 < pg.C.length:=by omega
  have hm1:0 < pg.B.length:=by omega
  have H0:Hid (¬ (pg.B.length < 1\/14 < pg.B.length\/pg.C.length < 1\/400 < pg.C.length\/pg.A.length ≠ pg.B.length)):=hii (by omega);have hAl:pg.A.length<=1000000000:=by omega
  have eg1:∀ args w,(callFunc 148 args).run Tryz.prog w=.ok (.enter 148 args) w:=enters_of func148 (by kernel_rfl) rfl;have HT:zjY 148 #[pT n4 0] (λ r => r.length != pg.C.length) pg.A wl:=by
   intro o ar cr W2 _ _ _ hbb;exact zgd ar o.length cr pg.C.length n4 W2 (((rN.below hbb).cell (k:=0) (by simp)).trans rfl)
  have hC:=zdZ 148 #[pT n4 0] (λ r => r.length != pg.C.length) eg1 pg.A aA cA wl hAl HA.out hE HT;rw [hm] at hC;have HC:=hii hC;clear hC eg1 HT hAl;obtain ⟨bad,hbad⟩:∃ b,b=pg.A.any (λ r => r.length != pg.C.length):=⟨_,rfl⟩;rw [<- hbad] at HC;have Hbad:=hii hbad;clear hbad;go_wp2_with fail;go_fit (HC.out);rintro e w2 ⟨rfl,hb⟩;have HA:=hii (HA.out.mono hb);have HB:=hii (HB.out.mono hb);have HCC:=hii (HCC.out.mono hb);have hE:=hE.mono hb;have rA:=rA.below hb;have hbw:=bu hbw hb;clear hb HC x0 x1 x2 y0 rN
  cases bad with
  | true =>
   go_wp2;go_ret;refine ⟨?_,hbw⟩;obtain ⟨r,hr,hl⟩:=List.any_eq_true.1 Hbad.out.symm;rw [zmj hr (by simpa using hl)]; rfl
  | false =>
   have HR:Hid (∀ r∈pg.A,r.length=pg.C.length):=hii λ r hr => by
    have:=List.any_eq_false.1 Hbad.out.symm r hr
    simpa using this
   clear Hbad;go_upto_region 6 with fail;have Hm:=hii hm;have Hml:=hii hml;have Hnl:=hii hnl;obtain ⟨b0,off0,xs,rfl,hro,hcs,hone⟩:=HA.out.rows (by omega);have Hb0l:Hid (∀ {W:Wo},BH w2 W->b0 < W.heap.size):=hii λ hb => by
    have h0:0 < xs.length:=by have:=hro.1; omega
    have:=zag (hcs 0 xs[0] (gE h0));have:=hb.size; simp at *; omega
   have Hro:=hii hro;have Hcs:=hii hcs;have Hone:=hii hone;clear hro hcs hone hm hml hnl h5 g5 h1 h2 h3 h4 g1 g2 g3 g4 hn1 hm1;refine zaw srB (wx:=w2) [vf (pT g 0),vf (.slice (sD b0 off0) pg.A.length cA),(λ W v => zf0 W w2.heap.size v xs),vf (pT g 1),vf (.slice aB pg.B.length cB),vf (pT g 2),vf (.slice aC pg.C.length cC),(λ W v => ∃ n,v=.slice (sD n 0) 2 2/\Row W n 33 [.slice aB pg.B.length cB,.slice aC pg.C.length cC]),(λ _ _ => True),vf (.int .i64 (za8 pg.all)),vf (.int .i64 (za8 pg.all))] [some 37,some 38,some 39,some 40,some 41,some 42,some 43,some 44,some 45,some 46,some 5] [37,38,39,40,41,42,43,44,45,46,5] [8] [[0,1],[0,1],[0],[0,1],[0,1],[0,1],[0,1],[0],[0],[1],[1]] [none,none,some 0,none,none,none,none,some 0,none,none,none] (λ p T W => match p with | 0 => True | _ + 1 => ∃ (L:List (List Qo)) (ao:OA) (cap:Nat),Hid (L=pg.A ++ [pg.B,pg.C])/\T 45=.slice ao L.length cap/\UM W ao L) (λ T => trivial) (λ p T W W' h hb => match p,h with | 0,h => trivial | _ + 1,h => ⟨h.choose,h.choose_spec.choose,h.choose_spec.choose_spec.choose,h.choose_spec.choose_spec.choose_spec.1,h.choose_spec.choose_spec.choose_spec.2.1,h.choose_spec.choose_spec.choose_spec.2.2.mono hb⟩) (λ p T T' W hT h => match p,hT,h with | 0,_,h => h | _ + 1,hT,h => (by have e0:T' 45=T 45:=hT 0 (by omega); have h:∃ (L:List (List Qo)) (ao:OA) (cap:Nat),Hid (L=pg.A ++ [pg.B,pg.C])/\T 45=.slice ao L.length cap/\UM W ao L:=h; show ∃ (L:List (List Qo)) (ao:OA) (cap:Nat),Hid (L=pg.A ++ [pg.B,pg.C])/\T' 45=.slice ao L.length cap/\UM W ao L; rw [e0]; exact h)) br ⟨zac _ _,zac _ _,λ _ _ _ h hb => h.mono hb,zac _ _,zac _ _,zac _ _,zac _ _,λ _ _ _ ⟨n,e,h⟩ hb => ⟨n,e,h.below hb⟩,(λ _ _ _ h _ => h),zac _ _,zac _ _,trivial⟩ ⟨?s0,?s1,?s2,?s3,?s4,?s5,?s6,?s7,?s8,?s9,?s10,trivial⟩ ?he
   case' s0 | s1 | s2 | s3 | s4 | s5 | s6 | s7 | s8 | s9 | s10 =>
    rintro T W p hb hp hS hA K hK
   case' s0 | s3 | s5 =>
    clear hS;simp only [sA] at hK |-
   case' s1 =>
    clear hS;have e0:T 37=_:=hA.1 rfl;obtain ⟨x0,x1,x2⟩:=(rA.below hb).n3;simp only [sA,e0] at hK |-
   case' s4 =>
    clear hS;have e3:T 40=_:=hA.1 rfl;obtain ⟨x0,x1,x2⟩:=(rA.below hb).n3;simp only [sA,e3] at hK |-
   case' s6 =>
    clear hS;have e5:T 42=_:=hA.1 rfl;obtain ⟨x0,x1,x2⟩:=(rA.below hb).n3;simp only [sA,e5] at hK |-
   case' s10 =>
    obtain rfl:p=1:=by simpa using hp
    clear hS;have e9:T 46=_:=hA.1 rfl;simp only [sA,e9] at hK |-
   case s0 | s1 | s3 | s4 | s5 | s6 | s10 =>
    have HK:=hii hK;clear hK hA;refine wO rfl ?_;go_simp;exact HK.out _ _ ⟨λ _ => br,λ h => absurd h (zas (by decide) (by decide))⟩ (rfl)
   case s2 =>
    clear hS;have e1:T 38=_:=hA.1 rfl;simp only [sA,e1] at hK |-;have HK:=hii hK;clear hK hA;refine wO rfl ?_;go_simp;have hC:=zhS xs b0 off0 cA W (by have:=Hro.out.1; have:=Hm.out; have:=Hml.out; omega) (Hb0l.out hb) (λ j u hj => (hb.cell (p:=⟨b0,off0 + j,none⟩) (zag (Hcs.out j u hj))).trans (Hcs.out j u hj)) Hone.out;rw [Hro.out.1] at hC;(with_reducible refine hC.mono ?_);rintro e w1 ⟨⟨v,rfl,hv⟩,hb1⟩;have hv:zf0 w1 w2.heap.size v xs:=zkG hv hb.size
    try dsimp only
    exact HK.out _ _ ⟨λ _ => hb1,λ h => absurd h (zas (by decide) (by decide))⟩ (hv)
   case s7 =>
    clear hS;have e4:T 41=_:=hA.1 rfl;have e6:T 43=_:=hA.2.1 rfl;simp only [sA,e4,e6] at hK |-;have HK:=hii hK;clear hK hA;refine wO rfl ?_;go_simp;obtain ⟨w1,hw1⟩:∃ w1,w1=W.alloc (.cells #[.slice aB pg.B.length cB,.slice aC pg.C.length cC] 33):=⟨_,rfl⟩;have hb1:BH W w1:=by rw [hw1]; exact bA W _
    have hrow:Row w1 W.heap.size 33 [.slice aB pg.B.length cB,.slice aC pg.C.length cC]:=by rw [hw1]; exact heap_alloc_new W _
    rw [<- hw1]
    try dsimp only
    exact HK.out _ _ ⟨λ _ => hb1,λ h => absurd h (zas (by decide) (by decide))⟩ (⟨_,rfl,hrow⟩)
   case s8 =>
    obtain rfl:p=0:=by simpa using hp
    have hS:True:=hS;have r2:((λ W v => zf0 W w2.heap.size v xs):Wo->Vl->Prop) W (T 39):=hA.1 (by decide);have r7:(_:Wo->Vl->Prop) W (T 44):=hA.2.1 (by decide);simp only [sA] at hK |-;have HK:=hii hK;clear hK hA;obtain ⟨n7,e7,hrow⟩:=r7;have hq:=hrow;obtain ⟨v1,w1,hr,ho,hbw1,hsz⟩:=ziW W W 103 w2.heap.size _ xs [.slice aB pg.B.length cB,.slice aC pg.C.length cC] n7 0 2 r2 hb.size br (zlS hrow) (by intro u hu; simp at hu; rcases hu with rfl | rfl <;> rfl) (by have:=Hro.out.1; have:=Hm.out; have:=Hml.out; simp; omega);have hbw2:=hb.trans hbw1;have hum:=ho.um ((Hro.out.mono hbw2).two (HB.out.mono hbw2) (HCC.out.mono hbw2));simp only [List.length_cons,List.length_nil,Nat.zero_add,Nat.reduceAdd] at hr;rw [<- e7] at hr;refine wO rfl ?_;refine zay _ _ rfl rfl rfl hr ?_;simp only [Act.put,List.setIfInBounds_toArray,List.set_cons_zero,List.set_cons_succ];exact HK.out _ _ ⟨λ h => absurd rfl h,λ _ => ⟨⟨_,hum.choose,hum.choose_spec.choose,hii rfl,hum.choose_spec.choose_spec⟩,hbw1⟩⟩ (trivial)
   case s9 =>
    obtain rfl:p=1:=by simpa using hp
    have hS:∃ (L:List (List Qo)) (ao:OA) (cap:Nat),Hid (L=pg.A ++ [pg.B,pg.C])/\T 45=.slice ao L.length cap/\UM W ao L:=hS;obtain ⟨L8,ao8,Y8,hL8,e8,hu8⟩:=hS;clear hS;simp only [sA,e8] at hK |-;have HK:=hii hK;clear hK hA;refine wO rfl ?_;go_simp;have hrl:∀ r∈L8,r.length<=1000000:=by
     intro r hr;rw [hL8.out] at hr;have:=Hml.out;have:=Hnl.out;rcases List.mem_append.1 hr with h | h
     ·rw [HR.out r h]; omega
     ·simp at h; rcases h with rfl | rfl <;> omega
    go_fit (zgs L8 ao8 Y8 W (by rw [hL8.out]; have:=Hm.out; have:=Hml.out; simp; omega) hrl hu8 (hE.mono hb));rw [show L8.flatten=pg.all by rw [hL8.out]; simp [Prg.all]];rintro e w1 ⟨rfl,hb1⟩
    try dsimp only
    exact HK.out _ _ ⟨λ _ => hb1,λ h => absurd h (zas (by decide) (by decide))⟩ (rfl)
   case he =>
    rintro T W hb hS hA;have hS:∃ (L:List (List Qo)) (ao:OA) (cap:Nat),Hid (L=pg.A ++ [pg.B,pg.C])/\T 45=.slice ao L.length cap/\UM W ao L:=hS;have f10:T 5=.int .i64 (za8 pg.all):=hA.at 10 (by decide) rfl;have hbw:=bu hbw hb;have HB:=hii (HB.out.mono hb);have rA:=rA.below hb;have hE:=hE.mono hb;simp only [sA,f10];obtain ⟨E,hEE⟩:∃ E,E=za8 pg.all:=⟨_,rfl⟩;rw [<- hEE];have HEE:=hii hEE;have HBl:Hid (pg.B.length<=1000000000):=hii (by have:=Hml.out; omega);clear hA f10 hb hEE HA HCC Hro Hcs Hone Hb0l Hm Hml Hnl;obtain ⟨w3,rfl⟩:=exi W
    by_cases hz:E=0
    ·subst hz;have HN0:=hii (zgt HEE.out.symm);have eg2:∀ args w,(callFunc 151 args).run Tryz.prog w=.ok (.enter 151 args) w:=enters_of func151 (by kernel_rfl) rfl;have HT:zmF 151 #[] zhj pg.B w3:=by
      intro o v W2 ho hv hE2 hbb;have hs:=HN0.out o (List.mem_append_left _ (List.mem_append_right _ ho))
      cases o with
      | none => cases hs
      | some r => exact zgc v r W2 hv hE2
     have HC:=hii (zbg 151 #[] zhj eg2 pg.B aB cB w3 HBl.out HB.out hE HT);clear eg2 HT;obtain ⟨bn,hbn⟩:∃ b,b=pg.B.any zhj:=⟨_,rfl⟩;rw [<- hbn] at HC;have Hbn:=hii hbn;clear hbn HB HBl;obtain ⟨x0,x1,x2⟩:=rA.n3;go_wp2_with fail;go_fit (HC.out);rintro e w4 ⟨rfl,hb⟩;have hbw:=bu hbw hb;clear hb HC x0 x1 x2
     cases bn with
     | true =>
      go_wp2;go_ret;refine ⟨?_,hbw⟩;rw [zeZ H0.out HR.out,<- HEE.out];have:znC pg.B=true:=Hbn.out.symm;rw [this]; rfl
     | false =>
      go_wp2;go_ret;refine ⟨?_,hbw⟩;rw [zeZ H0.out HR.out,<- HEE.out];have:znC pg.B=false:=Hbn.out.symm;rw [this]; rfl
    ·have g1:((E:Int) != 0)=true:=by rw [bne_iff_ne]; omega
     have Hz:=hii hz;clear hz;go_wp2;go_ret;refine ⟨?_,hbw⟩;rw [zeZ H0.out HR.out,<- HEE.out,if_pos Hz.out]; rfl
end Go.Proofs.YtfgffkmddanjjaaGreatDoor
