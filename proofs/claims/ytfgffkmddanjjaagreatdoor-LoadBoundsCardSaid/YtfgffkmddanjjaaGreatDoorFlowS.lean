/-
  A drawn region in which some operations write into memory of the call's own, one behind the other; all others leave values or make memory.
-/
import Derived.Test.YtfgffkmddanjjaaGreatDoorE14
import Derived.Test.YtfgffkmddanjjaaGreatDoorNU
import Derived.Maps.AppendAt
set_option linter.unusedVariables false
set_option linter.unusedSimpArgs false
namespace Go.Proofs.YtfgffkmddanjjaaGreatDoor
open Go.RowKit
section
variable {P : Program} {ops : Array Oper} {Q : Exit → Act → World → Prop}
def StayS (B:Nat) (F:World->Value->Prop):Prop:=∀ (W W':World) (v:Value),F W v->Below B W W'->F W' v
theorem stayS_val (B:Nat) (u:Value):StayS B (vf u):=λ _ _ _ h _ => h
def AllSS (B:Nat):List (World->Value->Prop)->Prop
 | [] => True
 | F :: r => StayS B F/\AllSS B r
theorem AllSS.get {B:Nat}:∀ {l:List (World->Value->Prop)} (k:Nat),AllSS B l->StayS B (l.getD k λ _ _ => True)
 | [],_,_ => λ _ _ _ _ _ => trivial
 | _ :: _,0,h => h.1
 | _ :: r,k + 1,h => AllSS.get (l:=r) k h.2
def okPhase (ops:Array Oper) (ws:List Nat) (i p:Nat):Bool :=
 (List.range ws.length).all λ j => if j < p then !(waitsAt ops (ws.getD j 0)).contains i && !(ws.getD j 0 == i) else !(waitsAt ops i).contains (ws.getD j 0)
def okChain (ops:Array Oper) (ws:List Nat) (ph:List (List Nat)):Bool :=
 ((List.range ws.length).all λ j => decide (ws.getD j 0 < ops.size) && (j == 0 || (waitsAt ops (ws.getD j 0)).contains (ws.getD (j - 1) 0))) &&
 (List.range ops.size).all λ i => (List.range (ws.length + 1)).all λ p => !okPhase ops ws i p || (ph.getD i []).contains p
theorem seq_ne {ws:List Nat} {n i p:Nat} (h:i ∉ ws) (hn:i ≠ n):ws.getD p n ≠ i:=by
 intro e;rw [List.getD_eq_getElem?_getD] at e;rcases Nat.lt_or_ge p ws.length with hp | hp
 ·rw [gE hp] at e;exact h (by rw [<- e]; exact List.getElem_mem hp)
 ·rw [List.getElem?_eq_none hp] at e;exact hn e.symm
def okU (us:List (Option Nat)) (k p:Nat):Bool:=match us.getD k none with
 | none => true
 | some j => decide (p<=j)
def okUs (ops:Array Oper) (ws:List Nat) (us:List (Option Nat)):Bool :=
 (List.range ops.size).all λ k => match us.getD k none with
  | none => true
  | some j => (List.range ws.length).all λ j' => !(decide (j' < j)) || (waitsAt ops k).contains (ws.getD j' 0)
def AllSU (B:Nat):List (Option Nat)->List (World->Value->Prop)->Prop
 | _,[] => True
 | none :: u,F :: r => StayS B F/\AllSU B u r
 | some _ :: u,F :: r => StayB F/\AllSU B u r
 | [],F :: r => StayS B F/\AllSU B [] r
theorem AllSU.get {B:Nat}:∀ {us:List (Option Nat)} {l:List (World->Value->Prop)} (k:Nat),AllSU B us l->match us.getD k none with | none => StayS B (l.getD k λ _ _ => True) | some _ => StayB (l.getD k λ _ _ => True)
 | us,[],k,_ => by
  cases us.getD k none with
  | none => exact λ _ _ _ _ _ => trivial
  | some _ => exact λ _ _ _ _ _ => trivial
 | none :: _,_ :: _,0,h => h.1
 | some _ :: _,_ :: _,0,h => h.1
 | [],_ :: _,0,h => h.1
 | none :: _,_ :: _,k + 1,h => AllSU.get k h.2
 | some _ :: _,_ :: _,k + 1,h => AllSU.get k h.2
 | [],_ :: _,k + 1,h => by
  have:=AllSU.get k h.2
  simpa using this
def AllPh (Fs:List (World->Value->Prop)) (us:List (Option Nat)) (p:Nat) (ds:List (Option Nat)) (T:Nat->Value) (W:World):List Nat->Prop
 | [] => True
 | k :: r => (okU us k p=true->(Fs.getD k λ _ _ => True) W (dv ds T k))/\AllPh Fs us p ds T W r
theorem AllPh.mem {Fs:List (World->Value->Prop)} {us:List (Option Nat)} {p:Nat} {ds:List (Option Nat)} {T:Nat->Value} {W:World}:∀ {l:List Nat},(∀ k∈l,okU us k p=true->(Fs.getD k λ _ _ => True) W (dv ds T k))->AllPh Fs us p ds T W l
 | [],_ => trivial
 | k :: r,h => ⟨h k (by simp),AllPh.mem λ x hx => h x (by simp [hx])⟩
theorem AllPh.at {Fs:List (World->Value->Prop)} {us:List (Option Nat)} {p:Nat} {ds:List (Option Nat)} {T:Nat->Value} {W:World}:∀ {l:List Nat} (k:Nat),AllPh Fs us p ds T W l->k∈l->okU us k p=true->(Fs.getD k λ _ _ => True) W (dv ds T k)
 | [],_,_,h,_ => by simp at h
 | x :: r,k,h,hk,ho => by
  rcases List.mem_cons.1 hk with rfl | hk
  ·exact h.1 ho
  ·exact AllPh.at k h.2 hk ho
theorem wp_region_seq {id:Nat} {a:Act} {w wx:World} (Fs:List (World->Value->Prop)) (ds:List (Option Nat)) (dl ws:List Nat) (ph:List (List Nat)) (us:List (Option Nat)) (S:Nat->(Nat->Value)->World->Prop)
  (hm:P.follows .mixedOrders=true) (ht:topo .any ops=true) (hd:ops.toList.map (·.dst)=ds) (hdl:ds.filterMap (λ x => x)=dl) (hnd:dl.Nodup) (hwn:ws.Nodup) (hch:okChain ops ws ph=true) (hus:okUs ops ws us=true)
  (hS0:∀ T,S 0 T w.drew) (hSB:∀ p T W W',S p T W->BH W W'->S p T W') (hST:∀ p T T' W,(∀ j,j < p->dv ds T' (ws.getD j 0)=dv ds T (ws.getD j 0))->S p T W->S p T' W)
  (hw:BH wx w) (hF:AllSU wx.heap.size us Fs)
  (hs:EachOp (λ i o => ∀ (T:Nat->Value) (W:World) (p:Nat),BH wx W->p∈ph.getD i []->S p T W->AllPh Fs us p ds T W (waits .any o) ->
   ∀ K:Act->World->Prop,(∀ v W',((¬ ws.getD p ops.size=i->BH W W')/\(ws.getD p ops.size=i->S (p + 1) (updO T o.dst v) W'/\Below wx.heap.size W W'))->(Fs.getD i λ _ _ => True) W' ((o.dst.map λ _ => v).getD undef)->K (({ a with tmps:=ovr a.tmps T dl }:Act).put o.dst v) W') ->
    wpOp P ops Q i K { a with tmps:=ovr a.tmps T dl } W) 0 ops.toList)
  (he:∀ T W,BH wx W->S ws.length T W->AllPh Fs us ws.length ds T W (List.range ops.size)->Q .normal { a with tmps:=ovr a.tmps T dl } W):(Code.region id ops true).wp P Q a w:=by
 have hnd':(ds.filterMap _root_.id).Nodup:=by
  have:ds.filterMap _root_.id=dl:=hdl;rw [this]; exact hnd
 have hdst:∀ (i:Nat) (o:Oper),ops[i]?=some o->i < ops.size/\o.dst=ds.getD i none:=by
  intro i o ho;have hi:i < ops.size:=(Array.getElem?_eq_some_iff.1 ho).1;refine ⟨hi,?_⟩;have h1:(ops.toList.map (·.dst))[i]?=some o.dst:=by simp [ho]
  rw [hd] at h1;rw [List.getD_eq_getElem?_getD,h1]; rfl
 have hwt:∀ k o,ops[k]?=some o->waitsAt ops k=waits .any o:=by
  intro k o ho; unfold waitsAt; rw [ho]; rfl
 unfold okChain at hch;rw [Bool.and_eq_true,List.all_eq_true,List.all_eq_true] at hch;obtain ⟨hc1,hc2⟩:=hch;have hc1:∀ j,j < ws.length->ws.getD j 0 < ops.size/\(j=0\/ws.getD (j - 1) 0∈waitsAt ops (ws.getD j 0)):=by
  intro j hj;have:=hc1 j (by simpa using hj);rw [Bool.and_eq_true,Bool.or_eq_true] at this;exact ⟨of_decide_eq_true this.1,this.2.imp (λ h => by simpa using h) (λ h => by simpa using h)⟩
 have hc2:∀ i p,i < ops.size->p<=ws.length->okPhase ops ws i p=true->p∈ph.getD i []:=by
  intro i p hi hp hok;have:=hc2 i (by simpa using hi);rw [List.all_eq_true] at this;have:=this p (by simp; omega);rw [hok] at this
  simpa using this
 have hwj:∀ j k,j < ws.length->k < ws.length->ws.getD j 0=ws.getD k 0->j=k:=by
  intro j k hj hk e;rw [List.getD_eq_getElem?_getD,List.getD_eq_getElem?_getD,gE hj,gE hk] at e;exact (List.getElem?_inj hj hwn).1 (by rw [gE hj,gE hk]; exact congrArg some e)
 have hgd:∀ p,p < ws.length->ws.getD p ops.size=ws.getD p 0:=by
  intro p hp;rw [List.getD_eq_getElem?_getD,List.getD_eq_getElem?_getD,gE hp]; rfl
 have hus:∀ k,k < ops.size->match us.getD k none with | none => True | some j => ∀ j',j' < ws.length->j' < j->ws.getD j' 0∈waitsAt ops k:=by
  intro k hk;unfold okUs at hus;rw [List.all_eq_true] at hus;have h1:=hus k (by simpa using hk)
  cases hj2:us.getD k none with
  | none => trivial
  | some j =>
   rw [hj2] at h1;simp only [List.all_eq_true] at h1;intro j' h2 h3;have:=h1 j' (by simpa using h2);rw [decide_eq_true h3] at this
   simpa using this
 refine wp_region_flow0 (λ L T W => BH wx W/\(∀ k,k < ops.size->L k->∀ d∈waitsAt ops k,L d)/\∃ p,p<=ws.length/\(∀ j,j < ws.length->(L (ws.getD j 0)↔j < p))/\S p T W/\∀ k,k < ops.size->L k->okU us k p=true->(Fs.getD k λ _ _ => True) W (dv ds T k)) dl hm ht ?_ ⟨hw.drew,λ k _ h => h.elim,0,Nat.zero_le _,λ j _ => ⟨λ h => h.elim,λ h => by omega⟩,hS0 _,λ k _ h => h.elim⟩ ?_ ?_ ?_
 ·unfold dsts;rw [<- hdl,<- hd];simp [List.filterMap_map]
  rfl
 ·have key:∀ (l:List Oper) (k:Nat),(∀ j o,l[j]?=some o->ops[k + j]?=some o) ->
    EachOp (λ i o => ∀ (T:Nat->Value) (W:World) (p:Nat),BH wx W->p∈ph.getD i []->S p T W->AllPh Fs us p ds T W (waits .any o) ->
     ∀ K:Act->World->Prop,(∀ v W',((¬ ws.getD p ops.size=i->BH W W')/\(ws.getD p ops.size=i->S (p + 1) (updO T o.dst v) W'/\Below wx.heap.size W W'))->(Fs.getD i λ _ _ => True) W' ((o.dst.map λ _ => v).getD undef)->K (({ a with tmps:=ovr a.tmps T dl }:Act).put o.dst v) W') ->
      wpOp P ops Q i K { a with tmps:=ovr a.tmps T dl } W) k l ->
    EachOp (λ i o => ∀ (L:Nat->Prop) (T:Nat->Value) (w:World),AllL L (waits .any o)->¬ L i->(BH wx w/\(∀ k,k < ops.size->L k->∀ d∈waitsAt ops k,L d)/\∃ p,p<=ws.length/\(∀ j,j < ws.length->(L (ws.getD j 0)↔j < p))/\S p T w/\∀ k,k < ops.size->L k->okU us k p=true->(Fs.getD k λ _ _ => True) w (dv ds T k)) ->
     ∀ K:Act->World->Prop,(∀ v w',(BH wx w'/\(∀ k,k < ops.size->(k=i\/L k)->∀ d∈waitsAt ops k,(d=i\/L d))/\∃ p,p<=ws.length/\(∀ j,j < ws.length->((ws.getD j 0=i\/L (ws.getD j 0))↔j < p))/\S p (updO T o.dst v) w'/\∀ k,k < ops.size->(k=i\/L k)->okU us k p=true->(Fs.getD k λ _ _ => True) w' (dv ds (updO T o.dst v) k))->K (({ a with tmps:=ovr a.tmps T dl }:Act).put o.dst v) w') ->
      wpOp P ops Q i K { a with tmps:=ovr a.tmps T dl } w) k l:=by
   intro l
   induction l with
   | nil => intro k _ _; trivial
   | cons o r ih =>
    intro k hin h;refine ⟨?_,ih (k + 1) (λ j o' ho => by have:=hin (j + 1) o' (by simpa using ho); rw [show k + 1 + j=k + (j + 1) by omega]; exact this) h.2⟩;rintro L T W hL hn ⟨hb,hcl,p,hpl,hpj,hSp,hJ⟩ K hK;have hko:ops[k]?=some o:=by simpa using hin 0 o rfl
    obtain ⟨hks,hkd⟩:=hdst k o hko;have hall:=AllL.all hL;have hok:okPhase ops ws k p=true:=by
     unfold okPhase;rw [List.all_eq_true];intro j hj;have hj:j < ws.length:=by simpa using hj
     by_cases hjp:j < p
     ·rw [if_pos hjp,Bool.and_eq_true];have hLj:=(hpj j hj).2 hjp;refine ⟨?_,?_⟩
      ·rw [Bool.not_eq_true',Bool.eq_false_iff];intro hc;exact hn (hcl _ (hc1 j hj).1 hLj k (by simpa using hc))
      ·rw [Bool.not_eq_true',Bool.eq_false_iff];intro hc;have:ws.getD j 0=k:=by simpa using hc
       rw [this] at hLj; exact hn hLj
     ·rw [if_neg hjp,Bool.not_eq_true',Bool.eq_false_iff];intro hc;have:ws.getD j 0∈waitsAt ops k:=by simpa using hc
      rw [hwt k o hko] at this;exact hjp ((hpj j hj).1 (hall _ this))
    have hupd:∀ (v:Value) (j:Nat),j < ops.size->j ≠ k->dv ds (updO T o.dst v) j=dv ds T j:=by
     intro v j hj hjk;unfold dv
     cases hdj:ds.getD j none with
     | none => rfl
     | some d =>
      cases hdo:o.dst with
      | none => rfl
      | some d' =>
       have hne:d ≠ d':=λ e => by
        rw [hdo] at hkd;exact hjk (nodup_some hnd' hdj (by rw [<- hkd,e]))
       simp [updO,upd,hne]
    refine h.1 T W p hb (hc2 k p hks hpl hok) hSp (AllPh.mem λ d hdw => hJ d (Nat.lt_trans (topo_lt ht hko hdw) hks) (hall d hdw)) K λ v W' hst hv => hK v W' ?_
    have hbx:Below wx.heap.size W W':=by
     by_cases e:ws.getD p ops.size=k
     ·exact (hst.2 e).2
     ·exact (hst.1 e).mono hb.size
    have hself:(Fs.getD k λ _ _ => True) W' (dv ds (updO T o.dst v) k):=by
     have:dv ds (updO T o.dst v) k=(o.dst.map λ _ => v).getD undef:=by
      unfold dv;rw [<- hkd]
      cases hdo:o.dst with
      | none => rfl
      | some d => simp [updO,upd]
     rw [this]; exact hv
    refine ⟨hb.trans hbx,?_,?_⟩
    ·rintro j hj (rfl | hLj) d hd
     ·rw [hwt _ _ hko] at hd; exact .inr (hall d hd)
     ·exact .inr (hcl j hj hLj d hd)
    ·by_cases e:ws.getD p ops.size=k
     ·have hpl2:p < ws.length:=by
       rcases Nat.lt_or_ge p ws.length with h | h
       ·exact h
       ·rw [List.getD_eq_getElem?_getD,List.getElem?_eq_none h] at e;simp at e; omega
      refine ⟨p + 1,hpl2,λ j hj => ?_,(hst.2 e).1,λ j hj hLj ho => ?_⟩
      ·rw [hgd p hpl2] at e
       constructor
       ·rintro (h | h)
        ·have:=hwj j p hj hpl2 (by rw [h,e]); omega
        ·have:=(hpj j hj).1 h; omega
       ·intro h
        by_cases hjp:j=p
        ·subst hjp; exact .inl e
        ·exact .inr ((hpj j hj).2 (by omega))
      ·by_cases hjk:j=k
       ·subst hjk; exact hself
       ·have hLj:=hLj.resolve_left hjk;rw [hupd v j hj hjk];have hS2:=AllSU.get j hF;unfold okU at ho;have hJj:=hJ j hj hLj;unfold okU at hJj;have hu:=hus j hj
        cases hj2:us.getD j none with
        | none =>
         rw [hj2] at hS2 hJj;exact hS2 _ _ _ (hJj rfl) hbx
        | some t =>
         rw [hj2] at ho hu
         exfalso
         have ht2:p + 1<=t:=of_decide_eq_true ho;have:=hcl j hj hLj _ (hu p hpl2 (by omega));have:=(hpj p hpl2).1 this;omega
     ·refine ⟨p,hpl,λ j hj => ?_,hST p T _ W' (λ j hj => ?_) (hSB p T W W' hSp (hst.1 e)),λ j hj hLj ho => ?_⟩
      ·constructor
       ·rintro (h | h)
        ·rcases Nat.lt_trichotomy j p with hlt | heq | hgt
         ·exact hlt
         ·subst heq; rw [hgd j hj] at e; exact absurd h e
         ·exfalso
          rcases (hc1 j hj).2 with h0 | h0
          ·omega
          ·rw [h,hwt k o hko] at h0;have:=(hpj (j - 1) (by omega)).1 (hall _ h0);omega
        ·exact (hpj j hj).1 h
       ·exact λ h => .inr ((hpj j hj).2 h)
      ·have hjl:j < ws.length:=by omega
       exact hupd v _ (hc1 j hjl).1 λ hh => hn (by rw [<- hh]; exact (hpj j hjl).2 hj)
      ·by_cases hjk:j=k
       ·subst hjk; exact hself
       ·have hLj:=hLj.resolve_left hjk;rw [hupd v j hj hjk];have hS2:=AllSU.get j hF;have hJj:=hJ j hj hLj ho
        cases hj2:us.getD j none with
        | none =>
         rw [hj2] at hS2;exact hS2 _ _ _ hJj hbx
        | some t =>
         rw [hj2] at hS2;exact hS2 _ _ _ hJj (hst.1 e)
  exact key ops.toList 0 (λ j o ho => by simpa using ho) hs
 ·rintro T W ⟨hb,_,p,hpl,hpj,hSp,hJ⟩;have:p=ws.length:=by
   rcases Nat.lt_or_ge p ws.length with h | h
   ·exact absurd ((hpj p h).1 (hc1 p h).1) (by omega)
   ·omega
  subst this;exact he T W hb hSp (AllPh.mem λ k hk => hJ k (by simpa using hk) (by simpa using hk))
 ·rintro L T W hL ⟨hb,hcl,p,hpl,hpj,hSp,hJ⟩;refine ⟨hb,λ k hk _ d hd => ?_,p,hpl,λ j hj => ?_,hSp,λ k hk _ => hJ k hk (hL k hk)⟩
  ·obtain ⟨o,ho⟩:∃ o,ops[k]?=some o:=⟨ops[k],Array.getElem?_eq_getElem hk⟩;rw [hwt k o ho] at hd;exact Nat.lt_trans (topo_lt ht ho hd) hk
  ·exact ⟨λ _ => (hpj j hj).1 (hL _ (hc1 j hj).1),λ _ => (hc1 j hj).1⟩
end
def NoUv (w:World) (v:Value):Prop:=∀ g,v.ownBlock=some g->∀ cur t fr,w.heap[g]?=some (.cells cur t fr)->∀ u∈cur.toList,NoLimb u
theorem noUv_alloc (w:World) (cur:Array Value) (e:TypeId) (n c:Nat) (h:∀ u∈cur.toList,NoLimb u):NoUv (w.alloc (.cells cur e)) (.slice (some ⟨w.heap.size,0,none⟩) n c):=by
 intro g hg cur' t fr hc;simp only [Value.ownBlock,Option.some.injEq] at hg;subst hg;rw [heap_alloc_new] at hc;simp only [Option.some.injEq,Obj.cells.injEq] at hc;obtain ⟨rfl,_,_⟩:=hc;exact h
section
variable {P : Program}
theorem run_append_noU (w:World) (base:Nat) (t ty e:TypeId) (i:TypeInfo) (z:Value) (ht:P.underlying t=some (.slice e)) (hi:P.info? e=some i) (hz:i.zero=some z)
  (hzs:z.cells.size=i.size) (hsz:0 < i.size) (v:Value) (n:Nat) (xs:List Value) (hown:w.ownsRow base e i.size v n xs) (hp:NoUv w v)
  (a:Addr) (m c:Nat) (news:List Value) (hl:news.length=m * i.size) (hnews:∀ j u,news[j]?=some u->w.cell? (a.add j)=some u) (h1:∀ u∈news,u.oneCell'=true)
  (h63:n + m<=maxLen) (hbytes:(n + m) * i.bytes<=140737488355328) (hbase:base<=w.heap.size) (hm:0 < m) (hzn:∀ u∈z.cells.toList,NoLimb u) (hnn:∀ u∈news,NoLimb u) :
  ∃ v' w',(Builtin.append_ #[t,t] ty #[v,.slice (some a) m c]).run P w=.ok v' w'/\w'.ownsRow base e i.size v' (n + m) (xs ++ news)/\w.grownBy w' v.ownBlock/\NoUv w' v':=by
 obtain ⟨v',w',hr,h2,h3,h4⟩:=run_append_own (P:=P) w base t ty e i z i.size i.bytes ht hi hz rfl rfl hzs hsz v n xs hown a m c news hl hnews h1 h63 hbytes hbase;refine ⟨v',w',hr,h2,h3,?_⟩;have hm63:n + m<=9223372036854775807:=by simp only [maxLen] at h63; omega
 rcases hown.2 with ⟨rfl,rfl⟩ | ⟨g,cap,cur,rfl,hbg,hg,hnc,hcm,hcs,htake⟩
 ·have hr2:=run_append_nil (P:=P) w t ty e i z ht hi hz a m c news hl hnews hm (by omega) (by have hb:=hbytes; simp only [Nat.zero_add] at hb; omega);have he:=hr.symm.trans hr2;simp only [Result.ok.injEq] at he;obtain ⟨rfl,rfl⟩:=he;refine noUv_alloc w.drew _ e _ _ λ u hu => ?_
  simp only [Array.toList_append,List.mem_append] at hu;rcases hu with hu | hu
  ·exact hnn u (by simpa using hu)
  ·exact hzn u (zero_mem hu)
 ·by_cases hroom:n + m<=cap
  ·have hfit:n * i.size + news.length<=cur.size:=by rw [hl,hcs,<- Nat.add_mul]; exact Nat.mul_le_mul_right _ hroom
   have hr2:=run_append_room (P:=P) w t ty e i ht hi g n cap cur hg a m c news hl hnews h1 hroom hfit;have he:=hr.symm.trans hr2;simp only [Result.ok.injEq] at he;obtain ⟨rfl,rfl⟩:=he;intro g' hg' cur' t' fr' hc';simp only [Value.ownBlock,Option.some.injEq] at hg';subst hg';rw [setRow_heap w g cur _ e _ hg] at hc';simp only [Option.some.injEq,Obj.cells.injEq] at hc';obtain ⟨rfl,_,_⟩:=hc';have hcur:=hp g rfl cur e _ hg;intro u hu;simp only [List.mem_append] at hu;rcases hu with (hu | hu) | hu
   ·exact hcur u (List.mem_of_mem_take hu)
   ·exact hnn u hu
   ·exact hcur u (List.mem_of_mem_drop hu)
  ·have holds:∀ j u,xs[j]?=some u->w.cell? ((⟨g,0,none⟩:Addr).add j)=some u:=hown.cells (g:=g) rfl;have hr2:=run_append_grow (P:=P) w t ty e i z ht hi hz ⟨g,0,none⟩ n cap xs hown.1 holds a m c news hl hnews (by omega) (by omega) (growslice_fits (by omega) hbytes);have he:=hr.symm.trans hr2;simp only [Result.ok.injEq] at he;obtain ⟨rfl,rfl⟩:=he;have hcur:=hp g rfl cur e _ hg;refine noUv_alloc w.drew _ e _ _ λ u hu => ?_
   simp only [Array.toList_append,List.mem_append] at hu;rcases hu with (hu | hu) | hu
   ·have:u∈xs:=by simpa using hu
    rw [<- htake] at this;exact hcur u (List.mem_of_mem_take this)
   ·exact hnn u hu
   ·exact hzn u (zero_mem hu)
end
def natV (l:List Nat):List Value:=l.map λ b => .int .i64 (b:Nat)
def OwnN (w:World) (B:Nat) (v:Value) (l:List Nat):Prop:=w.ownsRow B 3 1 v l.length (natV l)/\NoUv w v
theorem OwnN.nil (w:World) (B:Nat):OwnN w B (.slice none 0 0) []:=⟨World.ownsRow_nil _ _ _ _,λ g hg => by simp [Value.ownBlock] at hg⟩
theorem OwnN.kept {G:Nat->Prop} {w w':World} {B:Nat} {v:Value} {l:List Nat} (h:OwnN w B v l) (hk:Kept G w w') (hv:∀ b,v.ownBlock=some b->¬ G b):OwnN w' B v l:=by
 refine ⟨ownsRow_kept h.1 hk hv,λ g hg cur t fr hc => ?_⟩;have hlt:=(World.ownsRow.lt h.1 g hg).2;exact h.2 g hg cur t fr ((hk.block g hlt (hv g hg)).symm.trans hc)
theorem OwnN.lt {w:World} {B:Nat} {v:Value} {l:List Nat} (h:OwnN w B v l):∀ b,v.ownBlock=some b->B<=b/\b < w.heap.size:=World.ownsRow.lt h.1
theorem Tryz.info3:(Tryz.prog.info? 3).map (λ i => (i.zero,i.size,i.bytes))=some (some (.int .i64 0),1,8):=by kernel_rfl
theorem Tryz.slice55:Tryz.prog.underlying 55=some (.slice 3):=by kernel_rfl
theorem run_app_n (w W:World) (ty:TypeId) (B:Nat) (v:Value) (l:List Nat) (k bx c:Nat) (hown:OwnN w B v l) (hB:B<=w.heap.size) (hb:Below B W w)
  (hc:w.cell? ⟨bx,0,none⟩=some (.int .i64 (k:Nat))) (hl:l.length<=1000000) :
  ∃ v' w',(Builtin.append_ #[55,55] ty #[v,.slice (some ⟨bx,0,none⟩) 1 c]).run Tryz.prog w=.ok v' w'/\OwnN w' B v' (l ++ [k])/\Below B W w'/\w.grownBy w' v.ownBlock/\(v'.ownBlock=v.ownBlock\/v'.ownBlock=some w.heap.size):=by
 obtain ⟨i0,hi,hz0,hz1,hz2⟩:=info_parts Tryz.info3;have hn:∀ (j:Nat) (u:Value),[Value.int .i64 (k:Nat)][j]?=some u->w.cell? ((⟨bx,0,none⟩:Addr).add j)=some u:=by
  intro j u hj
  match j,hj with
  | 0,hj => simp at hj; subst hj; simpa [Addr.add] using hc
  | j + 1,hj => simp at hj
 have h1:∀ u∈[Value.int .i64 (k:Nat)],u.oneCell'=true:=by intro u hu; simp at hu; subst hu; rfl
 obtain ⟨v',w',hr,h3,h4,h5⟩:=run_append_noU (P:=Tryz.prog) w B 55 ty 3 i0 (.int .i64 0) Tryz.slice55 hi hz0 (by rw [hz1]; rfl) (by rw [hz1]; decide) v l.length (natV l) (by rw [hz1]; exact hown.1) hown.2 ⟨bx,0,none⟩ 1 c [.int .i64 (k:Nat)] (by rw [hz1]; rfl) hn h1 (by unfold maxLen; omega) (by rw [hz2]; omega) hB (by omega)
  (by intro u hu z e; simp [Value.cells] at hu; subst hu; cases e) (by intro u hu z e; simp at hu; subst hu; cases e)
 obtain ⟨v2,w2,hr2,_,_,_,hat⟩:=run_append_own_at (P:=Tryz.prog) w B 55 ty 3 i0 (.int .i64 0) i0.size i0.bytes Tryz.slice55 hi hz0 rfl rfl (by rw [hz1]; rfl) (by rw [hz1]; decide) v l.length (natV l) (by rw [hz1]; exact hown.1) ⟨bx,0,none⟩ 1 c [.int .i64 (k:Nat)] (by rw [hz1]; rfl) hn h1 (by unfold maxLen; omega) (by rw [hz2]; omega) hB;have he:=hr.symm.trans hr2;simp only [Result.ok.injEq] at he;obtain ⟨rfl,rfl⟩:=he;refine ⟨v',w',hr,⟨?_,h5⟩,hb.grown h4 hB λ k hk => (World.ownsRow.lt hown.1 k hk).1,h4,hat⟩;rw [hz1] at h3;rw [List.length_append];unfold natV;rw [List.map_append];exact h3
theorem OwnO.base {w:World} {B B':Nat} {v:Value} {l:List Qo} (h:OwnO w B' v l) (hB:B<=B'):OwnO w B v l:=by
 obtain ⟨xs,h1,h2,h3⟩:=h;refine ⟨xs,⟨h1.1,h1.2.imp _root_.id ?_⟩,h2,h3⟩;rintro ⟨g,cap,cur,e,hb,r⟩;exact ⟨g,cap,cur,e,Nat.le_trans hB hb,r⟩
structure TG (W:World) (B g:Nat) (vA vB:Value) (bs:List Nat) (ow:List (Value × List Qo)):Prop where
 oA:OwnR W B vA (ow.map (·.1))
 oB:OwnN W B vB bs
 o:∀ p∈ow,OwnO W B p.1 p.2/\Sep vA p.1/\Sep vB p.1/\p.1.ownBlock ≠ some g
 s:ow.Pairwise λ p q => Sep p.1 q.1
 sAB:Sep vA vB
 gA:vA.ownBlock ≠ some g/\vB.ownBlock ≠ some g
 gl:g < W.heap.size
theorem TG.nil {W:World} {B g:Nat} (hg:g < W.heap.size):TG W B g (.slice none 0 0) (.slice none 0 0) [] [] :=
 ⟨OwnR.nil _ _,OwnN.nil _ _,λ p hp => by simp at hp,.nil,sep_nil _,⟨by simp [Value.ownBlock],by simp [Value.ownBlock]⟩,hg⟩
section
variable {W W' : World} {B g : Nat} {vA vB : Value} {bs : List Nat} {ow : List (Value × List Qo)}
theorem TG.mono (h:TG W B g vA vB bs ow) (hb:BH W W'):TG W' B g vA vB bs ow:=by
 have hk:Kept (λ _ => False) W W':=.of_below hb;exact ⟨h.oA.kept hk λ _ _ h => h,h.oB.kept hk λ _ _ h => h,λ p hp => ⟨(h.o p hp).1.mono hb,(h.o p hp).2⟩,h.s,h.sAB,h.gA,Nat.lt_of_lt_of_le h.gl hb.size⟩
theorem TG.kept {G:Nat->Prop} (h:TG W B g vA vB bs ow) (hk:Kept G W W') (hp:NoU G W) (hA:∀ b,vA.ownBlock=some b->¬ G b) (hB:∀ b,vB.ownBlock=some b->¬ G b) (hO:∀ p∈ow,∀ b,p.1.ownBlock=some b->¬ G b):TG W' B g vA vB bs ow :=
 ⟨h.oA.kept hk hA,h.oB.kept hk hB,λ p hp' => ⟨(h.o p hp').1.keptU hk hp (hO p hp'),(h.o p hp').2⟩,h.s,h.sAB,h.gA,Nat.lt_of_lt_of_le h.gl hk.size⟩
theorem TG.keptg (h:TG W B g vA vB bs ow) (hk:Kept (λ b => b=g) W W') (hp:NoU (λ b => b=g) W):TG W' B g vA vB bs ow :=
 h.kept hk hp (λ b e e2 => h.gA.1 (by rw [e,e2])) (λ b e e2 => h.gA.2 (by rw [e,e2])) λ p hp' b e e2 => (h.o p hp').2.2.2 (by rw [e,e2])
theorem TG.slA (h:TG W B g vA vB bs ow):∃ a n c,vA=.slice a n c:=by
 rcases h.oA.1.2 with ⟨e,_⟩ | ⟨g',cap,cur,e,_⟩
 ·exact ⟨_,_,_,e⟩
 ·exact ⟨_,_,_,e⟩
theorem TG.slB (h:TG W B g vA vB bs ow):∃ a n c,vB=.slice a n c:=by
 rcases h.oB.1.2 with ⟨e,_⟩ | ⟨g',cap,cur,e,_⟩
 ·exact ⟨_,_,_,e⟩
 ·exact ⟨_,_,_,e⟩
theorem Row.under {g1:Nat} {E:TypeId} {xs:List Value} {B':Nat} (h:Row W g1 E xs) (hb:Below B' W W') (hk:g1 < B'):Row W' g1 E xs:=(hb.block g1 hk).trans h
theorem Row.oth {g1 g2 k:Nat} {E:TypeId} {xs:List Value} (h:Row W g1 E xs) (hne:g1 ≠ g2) (x:Value):Row (W.setCell ⟨g2,k,none⟩ x) g1 E xs:=h.mono ((Kept.refl W:Kept (λ b => b=g2) W W).setCell (p:=⟨g2,k,none⟩) rfl _) hne
theorem OwnO.sl {v:Value} {l:List Qo} (h:OwnO W B v l):∃ a n c,v=.slice a n c:=by
 obtain ⟨ao,cap,e,_⟩:=h.read;exact ⟨_,_,_,e⟩
theorem sep_new {u v v':Value} (h:Sep u v) (hu:∀ b,u.ownBlock=some b->b < W.heap.size) (hn:v'.ownBlock=v.ownBlock\/v'.ownBlock=some W.heap.size):Sep u v':=by
 intro b hb;rcases hn with e | e
 ·rw [e]; exact h b hb
 ·rw [e]; intro e2;have:=hu b hb;simp only [Option.some.injEq] at e2;omega
theorem TG.appA {X:World} (h:TG W B g vA vB bs ow) (hbW:BH W W') {ar:Option Addr} {n cr bx c:Nat} {l:List Qo} (hx:OwnO W' W.heap.size (.slice ar n cr) l) (hB:B<=W.heap.size) (hb:Below B X W') (ty:TypeId)
  (hc:W'.cell? ⟨bx,0,none⟩=some (.slice ar n cr)) (hl:ow.length<=1000000) :
  ∃ v' w',(Builtin.append_ #[103,103] ty #[vA,.slice (some ⟨bx,0,none⟩) 1 c]).run Tryz.prog W'=.ok v' w'/\TG w' B g v' vB bs (ow ++ [(.slice ar n cr,l)])/\Below B X w'/\Grw W' w' vA v':=by
 have hs:=hbW.size;have h2:=h.mono hbW;obtain ⟨v',w',hr,h3,h4,gr⟩:=run_app_r W' X ty B vA (ow.map (·.1)) ar n cr bx c h2.oA (by omega) hb hc (by rw [List.length_map]; exact hl);have lA:∀ b,vA.ownBlock=some b->b < W.heap.size:=λ b e => (h.oA.lt b e).2
 have lB:∀ b,vB.ownBlock=some b->b < W.heap.size:=λ b e => (h.oB.lt b e).2
 have lO:∀ p∈ow,∀ b,p.1.ownBlock=some b->b < W.heap.size:=λ p hp b e => ((h.o p hp).1.lt b e).2
 have lX:∀ b,(Value.slice ar n cr).ownBlock=some b->W.heap.size<=b/\b < W'.heap.size:=hx.lt;have sXA:Sep (.slice ar n cr) vA:=λ b hb e => by have:=lX b hb; have:=lA b e; omega
 have sXB:Sep (.slice ar n cr) vB:=λ b hb e => by have:=lX b hb; have:=lB b e; omega
 have sv:∀ {u:Value},Sep u vA->(∀ b,u.ownBlock=some b->b < W'.heap.size)->Sep u v':=λ hu hl => sep_new hu hl gr.new
 refine ⟨v',w',hr,⟨by rw [List.map_append]; exact h3,h2.oB.kept gr.kept λ b e => h.sAB.symm b e,?_,?_,(sv h.sAB.symm λ b e => by have:=lB b e; omega).symm,⟨?_,h.gA.2⟩,Nat.lt_of_lt_of_le h2.gl gr.grown.size⟩,h4,gr⟩
 ·intro p hp;rcases List.mem_append.1 hp with hp | hp
  ·exact ⟨(h2.o p hp).1.kept gr.kept gr.noG λ b e => (h.o p hp).2.1.symm b e,(sv (h.o p hp).2.1.symm λ b e => by have:=lO p hp b e; omega).symm,(h.o p hp).2.2⟩
  ·simp only [List.mem_singleton] at hp;subst hp;refine ⟨(hx.kept gr.kept gr.noG λ b e => sXA b e).base hB,(sv sXA λ b e => (lX b e).2).symm,sXB.symm,λ e => ?_⟩;have:=(lX g e).1;have:=h.gl;omega
 ·rw [List.pairwise_append];refine ⟨h.s,List.pairwise_singleton _ _,λ p hp q hq => ?_⟩;simp only [List.mem_singleton] at hq;subst hq;intro b hb e;have:=lO p hp b hb;have:=(lX b e).1;omega
 ·rcases gr.new with e | e
  ·rw [e]; exact h.gA.1
  ·rw [e]; intro e2;simp only [Option.some.injEq] at e2;have:=h2.gl;omega
theorem TG.appB {X:World} (h:TG W B g vA vB bs ow) (hB:B<=W.heap.size) (hb:Below B X W) (ty:TypeId) {k bx c:Nat} (hc:W.cell? ⟨bx,0,none⟩=some (.int .i64 (k:Nat))) (hl:bs.length<=1000000) :
  ∃ v' w',(Builtin.append_ #[55,55] ty #[vB,.slice (some ⟨bx,0,none⟩) 1 c]).run Tryz.prog W=.ok v' w'/\TG w' B g vA v' (bs ++ [k]) ow/\Below B X w'/\Kept (λ b => vB.ownBlock=some b) W w'/\NoU (λ b => vB.ownBlock=some b) W:=by
 obtain ⟨v',w',hr,h3,h4,hg,hn⟩:=run_app_n W X ty B vB bs k bx c h.oB hB hb hc hl;have hk:Kept (λ b => vB.ownBlock=some b) W w':=.of_grown hg;have hno:NoU (λ b => vB.ownBlock=some b) W:=λ b hb => h.oB.2 b hb
 refine ⟨v',w',hr,⟨h.oA.kept hk λ b e => h.sAB b e,h3,λ p hp => ?_,h.s,sep_new h.sAB (λ b e => (h.oA.lt b e).2) hn,⟨h.gA.1,?_⟩,Nat.lt_of_lt_of_le h.gl hg.size⟩,h4,hk,hno⟩
 ·exact ⟨(h.o p hp).1.keptU hk hno λ b e => (h.o p hp).2.2.1.symm b e,(h.o p hp).2.1,(sep_new (h.o p hp).2.2.1.symm (λ b e => ((h.o p hp).1.lt b e).2) hn).symm,(h.o p hp).2.2.2⟩
 ·rcases hn with e | e
  ·rw [e]; exact h.gA.2
  ·rw [e]; intro e2;simp only [Option.some.injEq] at e2;have:=h.gl;omega
end
theorem OwnO.addr' {w:World} {B:Nat} {v:Value} {l:List Qo} (h:OwnO w B v l) (hl:0 < l.length):∃ g cap,v=.slice (some ⟨g,0,none⟩) l.length cap:=by
 obtain ⟨xs,h1,_⟩:=h;rcases h1.2 with ⟨_,hn⟩ | ⟨g,cap,cur,e,hB,_⟩
 ·omega
 ·exact ⟨g,cap,e⟩
theorem TG.low {W:World} {B B' g:Nat} {vA vB:Value} {bs:List Nat} {ow:List (Value × List Qo)} (h:TG W B g vA vB bs ow) (hB:B'<=B):TG W B' g vA vB bs ow:=by
 have key:∀ {e s n:Nat} {v:Value} {xs:List Value},W.ownsRow B e s v n xs->W.ownsRow B' e s v n xs:=λ h1 => by
  refine ⟨h1.1,h1.2.imp _root_.id ?_⟩;rintro ⟨g,cap,cur,e,hb,r⟩;exact ⟨g,cap,cur,e,Nat.le_trans hB hb,r⟩
 exact ⟨⟨key h.oA.1,h.oA.2⟩,⟨key h.oB.1,h.oB.2⟩,λ p hp => ⟨(h.o p hp).1.base hB,(h.o p hp).2⟩,h.s,h.sAB,h.gA,h.gl⟩
theorem TG.tb {W:World} {B g m n q:Nat} {vA vB:Value} {bs:List Nat} {ow:List (Value × List Qo)} {L:Nat->Nat->Rat} {b0:Nat->Nat} (h:TG W B g vA vB bs ow) (henv:∃ w0,Env w0/\w0.heap.size=B/\Below B w0 W)
  (hbox:Row W g 164 [.int .i64 (m:Nat),.int .i64 (n:Nat),vA,vB,.int .i64 0]) (hg:B<=g) (how:ow.map (·.2)=(List.range (m + 1)).map λ i => rowQ L i (q + 1)) (hbs:bs=(List.range m).map b0)
  (hm:0 < m) (hs:m<=1000/\n<=1000) (hq:q=n + m):∃ ga ca gb cb rr cr,TB W B g ga ca gb cb m n q rr cr L b0:=by
 have hlo:ow.length=m + 1:=by have:=congrArg List.length how; simpa using this
 have hlb:bs.length=m:=by rw [hbs]; simp
 have hget:∀ i,i<=m->∃ p,ow[i]?=some p/\p.2=rowQ L i (q + 1):=λ i hi => by
  have hi':i < ow.length:=by omega
  refine ⟨ow[i],gE hi',?_⟩;have h1:=congrArg (λ l => l[i]?) how;simp only [List.getElem?_map,gE hi',List.getElem?_range (show i < m + 1 by omega),Option.map_some,Option.some.injEq] at h1;exact h1
 have hex:∀ i,∃ rc:Nat × Nat,i<=m->ow[i]?=some (.slice (some ⟨rc.1,0,none⟩) (q + 1) rc.2,rowQ L i (q + 1)):=λ i => by
  by_cases hi:i<=m
  ·obtain ⟨p,hp,e⟩:=hget i hi;obtain ⟨g',cap,e2⟩:=(h.o p (List.mem_of_getElem? hp)).1.addr' (by rw [e,rowQ_length]; omega);rw [e,rowQ_length] at e2;refine ⟨(g',cap),λ _ => ?_⟩;rw [hp]; exact congrArg some (Prod.ext e2 e)
  ·exact ⟨(0,0),λ h => absurd h hi⟩
 obtain ⟨rc,hrc⟩:=Classical.axiomOfChoice hex;obtain ⟨ga,ca,eA⟩:∃ ga ca,vA=.slice (some ⟨ga,0,none⟩) (m + 1) ca:=by
  rcases h.oA.1.2 with ⟨_,hn⟩ | ⟨g',cap,cur,e,_⟩
  ·rw [List.length_map,hlo] at hn; omega
  ·rw [List.length_map,hlo] at e; exact ⟨g',cap,e⟩
 obtain ⟨gb,cb,eB⟩:∃ gb cb,vB=.slice (some ⟨gb,0,none⟩) m cb:=by
  rcases h.oB.1.2 with ⟨_,hn⟩ | ⟨g',cap,cur,e,_⟩
  ·rw [hlb] at hn; omega
  ·rw [hlb] at e; exact ⟨g',cap,e⟩
 subst eA;subst eB;have hmem:∀ i,i<=m->(Value.slice (some ⟨(rc i).1,0,none⟩) (q + 1) (rc i).2,rowQ L i (q + 1))∈ow:=λ i hi => List.mem_of_getElem? (hrc i hi)
 refine ⟨ga,ca,gb,cb,λ i => (rc i).1,λ i => (rc i).2,henv,hbox,λ i hi => ?_,λ i hi => (h.o _ (hmem i hi)).1,?_,λ k hk => by subst hk; exact h.oB.2 k rfl,λ i t hi ht e => ?_,λ i hi => ?_,?_,⟨hg,(h.oA.lt ga rfl).1⟩,(h.oA.lt ga rfl).2,hs,hq⟩
 ·exact ownsRow_cell h.oA.1 (by rw [List.getElem?_map,hrc i hi]; rfl)
 ·have:=h.oB.1;rw [hlb] at this;have e:natV bs=basL b0 m:=by rw [hbs]; unfold natV basL; rw [List.map_map]; rfl
  rw [e] at this;exact this
 ·by_cases hit:i=t
  ·exact hit
  ·exfalso
   have key:∀ i t,i < t->t<=m->(rc i).1=(rc t).1->False:=λ i t hlt ht e => by
    have hi:i<=m:=by omega
    have h1:=hrc i hi;have h2:=hrc t ht;have li:i < ow.length:=by omega
    have lt':t < ow.length:=by omega
    rw [gE li] at h1;rw [gE lt'] at h2;have:=List.pairwise_iff_getElem.1 h.s i t li lt' hlt;rw [Option.some.inj h1,Option.some.inj h2] at this;exact this (rc i).1 rfl (by rw [e]; rfl)
   rcases Nat.lt_or_gt_of_ne hit with h1 | h1
   ·exact key i t h1 ht e
   ·exact key t i h1 hi e.symm
 ·have h1:=h.o _ (hmem i hi);refine ⟨λ e => h1.2.2.2 (by rw [<- e]; rfl),λ e => ?_,λ e => ?_⟩
  ·exact h1.2.1 ga rfl (by rw [<- e]; rfl)
  ·exact h1.2.2.1 gb rfl (by rw [<- e]; rfl)
 ·refine ⟨λ e => h.gA.1 (by rw [e]; rfl),λ e => h.gA.2 (by rw [e]; rfl),λ e => ?_⟩;exact h.sAB ga rfl (by rw [e]; rfl)
theorem Row.noG' {w:World} {E:TypeId} {g:Nat} {xs:List Value} (h:Row w g E xs) (hn:∀ u∈xs,NoInt u):NoG (λ b => b=g) w:=by
 intro k hk cur t fr hc;subst hk;have:=h.symm.trans hc;simp only [Option.some.injEq,Obj.cells.injEq] at this;obtain ⟨rfl,_,_⟩:=this;exact hn
theorem TB.tail {W:World} {B g ga ca gb cb m n q:Nat} {rr cr:Nat->Nat} {L:Nat->Nat->Rat} {bs:Nat->Nat} (h:TB W B g ga ca gb cb m n q rr cr L bs) (hn:n<=q):UQ W (some ⟨rr m,n * 4,none⟩) ((List.range (q - n)).map λ i => some (L m (n + i))):=by
 intro j o hj;have hjk:j < q - n:=by
  rcases Nat.lt_or_ge j (q - n) with h | h
  ·exact h
  ·rw [List.getElem?_eq_none (by simp; omega)] at hj; cases hj
 rw [List.getElem?_map,List.getElem?_range hjk] at hj
 cases hj
 obtain ⟨n1,a1,l1,c1,n2,a2,l2,c2,e0,e1,e2,e3,-,-,-,-,hV⟩:=h.cells4 (i:=m) (j:=n + j) (Nat.le_refl m) (by omega);rw [Nat.add_mul] at e0 e1 e2 e3;exact ⟨rr m,n * 4,n1,a1,l1,c1,n2,a2,l2,c2,rfl,⟨e0,e1,e2,e3,trivial,trivial,trivial,trivial⟩,hV⟩
end Go.Proofs.YtfgffkmddanjjaaGreatDoor
