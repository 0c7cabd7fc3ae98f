/-
  A new block, named.
-/
import Derived.Test.YtfgffkmddanjjaaGreatDoorOQ
import Derived.Test.YtfgffkmddanjjaaGreatDoorDuS
import Derived.Test.YtfgffkmddanjjaaGreatDoorD5
import Derived.Test.YtfgffkmddanjjaaGreatDoorOQ
import Derived.Test.YtfgffkmddanjjaaGreatDoorE14
import Derived.Test.YtfgffkmddanjjaaGreatDoorSa
import Derived.Test.YtfgffkmddanjjaaGreatDoorFlowS
import Derived.Test.YtfgffkmddanjjaaGreatDoorLp
set_option linter.unusedVariables false
set_option linter.unusedSimpArgs false
set_option maxRecDepth 100000
set_option maxHeartbeats 25600000
namespace Go.Proofs.YtfgffkmddanjjaaGreatDoor
open _root_.Go.Proofs.Tryz
open Go.RowKit
theorem bxr (w:World) (xs:List Value) (t:TypeId):∃ W g,W=w.alloc (.cells xs.toArray t)/\g=w.heap.size/\BH w W/\Row W g t xs:=⟨_,_,rfl,rfl,bA _ _,heap_alloc_new _ _⟩
theorem zkG {W:World} {g:Nat} {x0 x1 x2 x3:Value} (r:Row W g 32 [x0,x1,x2,x3]) (hx:∀ u∈[x0,x1,x2,x3],zaI u) (y0 y1 y2 y3:Value) {v:Rat} (h:zac W (.agg #[y0,y1,y2,y3]) v) :
  Row ((((W.setCell ⟨g,0,none⟩ y0).setCell ⟨g,1,none⟩ y1).setCell ⟨g,2,none⟩ y2).setCell ⟨g,3,none⟩ y3) g 32 [y0,y1,y2,y3] /\
  zaf (λ k => k=g) W ((((W.setCell ⟨g,0,none⟩ y0).setCell ⟨g,1,none⟩ y1).setCell ⟨g,2,none⟩ y2).setCell ⟨g,3,none⟩ y3) /\
  zac ((((W.setCell ⟨g,0,none⟩ y0).setCell ⟨g,1,none⟩ y1).setCell ⟨g,2,none⟩ y2).setCell ⟨g,3,none⟩ y3) (.agg #[y0,y1,y2,y3]) v:=by
 have hk:zaf (λ k => k=g) W ((((W.setCell ⟨g,0,none⟩ y0).setCell ⟨g,1,none⟩ y1).setCell ⟨g,2,none⟩ y2).setCell ⟨g,3,none⟩ y3) :=
  ((((zaf.refl W:zaf (λ k => k=g) W W).setCell (p:=⟨g,0,none⟩) rfl _).setCell (p:=⟨g,1,none⟩) rfl _).setCell (p:=⟨g,2,none⟩) rfl _).setCell (p:=⟨g,3,none⟩) rfl _
 exact ⟨(((r.set 0 y0).set 1 y1).set 2 y2).set 3 y3,hk,h.keptU hk (r.noU hx)⟩
theorem zlt:∀ u∈[Value.bool false,.slice none 0 0,.bool false,.slice none 0 0],zaI u:=by
 intro u hu;simp at hu;rcases hu with rfl | rfl | rfl | rfl <;> (intro z e; cases e)
theorem noI4' {a c:Bool} {b d:Option Addr} {n1 n2 n3 n4:Nat}:∀ u∈[Value.bool a,.slice b n1 n2,.bool c,.slice d n3 n4],zaI u:=by
 intro u hu;simp at hu;rcases hu with rfl | rfl | rfl | rfl <;> (intro z e; cases e)
theorem zfF.mk {w:World} {J1:Bool} {ao1:Option Addr} {n1 Y1:Nat} {nh1:Bool} {ap1:Option Addr} {m1 Z1:Nat} {r:Rat} (h:zac w (qA J1 ao1 n1 Y1 nh1 ap1 m1 Z1) r):zfF w r (.returned (.agg #[.bool J1,.slice ao1 n1 Y1,.bool nh1,.slice ap1 m1 Z1])):=by
 obtain ⟨n1',a1',l1',c1',n2',a2',l2',c2',e,h1,h2⟩:=h
 cases e
 exact ⟨_,_,_,_,_,_,_,_,rfl,hii h1,hii h2⟩
theorem zcL.rat {w:World} {r:Rat} {e:Ending} (h:zcL w r e):∃ J1 ao1 n1 Y1 nh1 ap1 m1 Z1,e=.returned (.tuple #[.agg #[.bool J1,.slice ao1 n1 Y1,.bool nh1,.slice ap1 m1 Z1],.int .i64 0])/\zac w (qA J1 ao1 n1 Y1 nh1 ap1 m1 Z1) r:=by
 obtain ⟨n1',a1',l1',c1',n2',a2',l2',c2',e,h1,h2⟩:=h;exact ⟨_,_,_,_,_,_,_,_,e,zac.mk' h1 h2⟩
theorem divInt_one (z:Int):Rat.divInt z 1=(z:Rat):=by
 first
  | exact Rat.divInt_one z
  | (rw [Rat.divInt_eq_div,Rat.intCast_one,Rat.div_def]; grind)
  | (rw [Rat.divInt_eq_div,Rat.intCast_one]; grind)
theorem zaF (z:Int) (hz1:-9223372036854775808<=z) (hz2:z<=9223372036854775807) (w:World) (hE:Env w) :
  Calls Tryz.prog 48 #[.int .i64 z] w λ e w' => zfF w' (z:Rat) e/\BH w w':=by
 have hbw:=Below.refl w.heap.size w;go_enter func48,ntmps48;go_upto_region 1 with fail;obtain ⟨w1,gR,hw9,hg9,hb,rR⟩:=bxr w [.bool false,.slice none 0 0,.bool false,.slice none 0 0] 32;rw [<- hw9,<- hg9];have HgR:Hid (w.heap.size<=gR):=hii (by have:=hbw.size; omega);clear hw9 hg9;have hE:=hE.mono hb;have hbw:=bu hbw hb;clear hb;go_wp2_with fail;go_fit (zl4 z 1 w1 hz1 hz2 (by decide) (by decide) (hii (by decide)) hE);rintro e w2 ⟨hR,hb⟩;have rR:=rR.below hb;have hbw:=bu hbw hb;clear hb;rw [divInt_one] at hR;obtain ⟨J1,ao1,n1,Y1,nh1,ap1,m1,Z1,rfl,hV⟩:=hR.rat;clear hR;go_upto_region 2 with fail;obtain ⟨w3,g3,hw9,hg9,hb,r3⟩:=bxr w2 [.bool J1,.slice ao1 n1 Y1,.bool nh1,.slice ap1 m1 Z1] 32;rw [<- hw9,<- hg9];have Hg3:Hid (w.heap.size<=g3):=hii (by have:=hbw.size; omega);clear hw9 hg9;have hV:=hV.mono hb;have rR:=rR.below hb;have hbw:=bu hbw hb;clear hb;obtain ⟨c0,c1,c2,c3⟩:=r3.n4;obtain ⟨d0,d1,d2,d3⟩:=rR.n4;have f:=rR.free;go_wp2;obtain ⟨q,hk,hV⟩:=zkG rR zlt (.bool J1) (.slice ao1 n1 Y1) (.bool nh1) (.slice ap1 m1 Z1) hV;obtain ⟨e0,e1,e2,e3⟩:=q.n4;refine bodyPost_ret (v:=.agg #[.bool J1,.slice ao1 n1 Y1,.bool nh1,.slice ap1 m1 Z1]) (by simp [results,Tryz.results48,go_sem,e0,e1,e2,e3]) rfl ⟨zfF.mk hV,?_⟩;exact hbw.trans (hk.below (λ b e => by rw [e]; exact HgR.out) hbw.size)
section
variable {P : Program} {ops : Array Oper} {Q : Exit → Act → World → Prop}
def zdE (G:Nat->Prop):List (Option Nat)->List (World->Value->Prop)->Prop
 | _,[] => True
 | none :: u,F :: r => zdB G F/\zdE G u r
 | some _ :: u,F :: r => zgf F/\zdE G u r
 | [],F :: r => zdB G F/\zdE G [] r
theorem zdE.get {G:Nat->Prop}:∀ {us:List (Option Nat)} {l:List (World->Value->Prop)} (k:Nat),zdE G us l->match us.getD k none with | none => zdB G (l.getD k λ _ _ => True) | some _ => zgf (l.getD k λ _ _ => True)
 | us,[],k,_ => by
  cases us.getD k none with
  | none => exact λ _ _ _ _ _ => trivial
  | some _ => exact λ _ _ _ _ _ => trivial
 | none :: _,_ :: _,0,h => h.1
 | some _ :: _,_ :: _,0,h => h.1
 | [],_ :: _,0,h => h.1
 | none :: _,_ :: _,k + 1,h => zdE.get k h.2
 | some _ :: _,_ :: _,k + 1,h => zdE.get k h.2
 | [],_ :: _,k + 1,h => by
  have:=zdE.get k h.2
  simpa using this
theorem zaY {G:Nat->Prop} {id:Nat} {a:Act} {w wx:World} (Fs:List (World->Value->Prop)) (ds:List (Option Nat)) (dl ws:List Nat) (ph:List (List Nat)) (us:List (Option Nat)) (S:Nat->(Nat->Value)->World->Prop)
  (hm:P.follows .mixedOrders=true) (ht:zjt .any ops=true) (hd:ops.toList.map (·.dst)=ds) (hdl:ds.filterMap (λ x => x)=dl) (hnd:dl.Nodup) (hwn:ws.Nodup) (hch:zew ops ws ph=true) (hus:znn ops ws us=true)
  (hS0:∀ T,S 0 T w.drew) (hSB:∀ p T W W',S p T W->BH W W'->S p T W') (hST:∀ p T T' W,(∀ j,j < p->dv ds T' (ws.getD j 0)=dv ds T (ws.getD j 0))->S p T W->S p T' W)
  (hw:zaf G wx w) (hF:zdE G us Fs)
  (hs:zaD (λ i o => ∀ (T:Nat->Value) (W:World) (p:Nat),zaf G wx W->p∈ph.getD i []->S p T W->zb7 Fs us p ds T W (zaK .any o) ->
   ∀ K:Act->World->Prop,(∀ v W',((¬ ws.getD p ops.size=i->BH W W')/\(ws.getD p ops.size=i->S (p + 1) (zbF T o.dst v) W'/\zaf G W W'))->(Fs.getD i λ _ _ => True) W' ((o.dst.map λ _ => v).getD undef)->K (({ a with tmps:=ovr a.tmps T dl }:Act).put o.dst v) W') ->
    wpOp P ops Q i K { a with tmps:=ovr a.tmps T dl } W) 0 ops.toList)
  (he:∀ T W,zaf G wx W->S ws.length T W->zb7 Fs us ws.length ds T W (List.range ops.size)->Q .normal { a with tmps:=ovr a.tmps T dl } W):(Code.region id ops true).wp P Q a w:=by
 have hnd':(ds.filterMap _root_.id).Nodup:=by
  have:ds.filterMap _root_.id=dl:=hdl;rw [this]; exact hnd
 have hdst:∀ (i:Nat) (o:Oper),ops[i]?=some o->i < ops.size/\o.dst=ds.getD i none:=by
  intro i o ho;have hi:i < ops.size:=(Array.getElem?_eq_some_iff.1 ho).1;refine ⟨hi,?_⟩;have h1:(ops.toList.map (·.dst))[i]?=some o.dst:=by simp [ho]
  rw [hd] at h1;rw [List.getD_eq_getElem?_getD,h1]; rfl
 have hwt:∀ k o,ops[k]?=some o->zas ops k=zaK .any o:=by
  intro k o ho; unfold zas; rw [ho]; rfl
 unfold zew at hch;rw [Bool.and_eq_true,List.all_eq_true,List.all_eq_true] at hch;obtain ⟨hc1,hc2⟩:=hch;have hc1:∀ j,j < ws.length->ws.getD j 0 < ops.size/\(j=0\/ws.getD (j - 1) 0∈zas ops (ws.getD j 0)):=by
  intro j hj;have:=hc1 j (by simpa using hj);rw [Bool.and_eq_true,Bool.or_eq_true] at this;exact ⟨of_decide_eq_true this.1,this.2.imp (λ h => by simpa using h) (λ h => by simpa using h)⟩
 have hc2:∀ i p,i < ops.size->p<=ws.length->zcm ops ws i p=true->p∈ph.getD i []:=by
  intro i p hi hp hok;have:=hc2 i (by simpa using hi);rw [List.all_eq_true] at this;have:=this p (by simp; omega);rw [hok] at this
  simpa using this
 have hwj:∀ j k,j < ws.length->k < ws.length->ws.getD j 0=ws.getD k 0->j=k:=by
  intro j k hj hk e;rw [List.getD_eq_getElem?_getD,List.getD_eq_getElem?_getD,gE hj,gE hk] at e;exact (List.getElem?_inj hj hwn).1 (by rw [gE hj,gE hk]; exact congrArg some e)
 have hgd:∀ p,p < ws.length->ws.getD p ops.size=ws.getD p 0:=by
  intro p hp;rw [List.getD_eq_getElem?_getD,List.getD_eq_getElem?_getD,gE hp]; rfl
 have hus:∀ k,k < ops.size->match us.getD k none with | none => True | some j => ∀ j',j' < ws.length->j' < j->ws.getD j' 0∈zas ops k:=by
  intro k hk;unfold znn at hus;rw [List.all_eq_true] at hus;have h1:=hus k (by simpa using hk)
  cases hj2:us.getD k none with
  | none => trivial
  | some j =>
   rw [hj2] at h1;simp only [List.all_eq_true] at h1;intro j' h2 h3;have:=h1 j' (by simpa using h2);rw [decide_eq_true h3] at this
   simpa using this
 refine zbj (λ L T W => zaf G wx W/\(∀ k,k < ops.size->L k->∀ d∈zas ops k,L d)/\∃ p,p<=ws.length/\(∀ j,j < ws.length->(L (ws.getD j 0)↔j < p))/\S p T W/\∀ k,k < ops.size->L k->okU us k p=true->(Fs.getD k λ _ _ => True) W (dv ds T k)) dl hm ht ?_ ⟨hw.drew,λ k _ h => h.elim,0,Nat.zero_le _,λ j _ => ⟨λ h => h.elim,λ h => by omega⟩,hS0 _,λ k _ h => h.elim⟩ ?_ ?_ ?_
 ·unfold zlF;rw [<- hdl,<- hd];simp [List.filterMap_map]
  rfl
 ·have key:∀ (l:List Oper) (k:Nat),(∀ j o,l[j]?=some o->ops[k + j]?=some o) ->
    zaD (λ i o => ∀ (T:Nat->Value) (W:World) (p:Nat),zaf G wx W->p∈ph.getD i []->S p T W->zb7 Fs us p ds T W (zaK .any o) ->
     ∀ K:Act->World->Prop,(∀ v W',((¬ ws.getD p ops.size=i->BH W W')/\(ws.getD p ops.size=i->S (p + 1) (zbF T o.dst v) W'/\zaf G W W'))->(Fs.getD i λ _ _ => True) W' ((o.dst.map λ _ => v).getD undef)->K (({ a with tmps:=ovr a.tmps T dl }:Act).put o.dst v) W') ->
      wpOp P ops Q i K { a with tmps:=ovr a.tmps T dl } W) k l ->
    zaD (λ i o => ∀ (L:Nat->Prop) (T:Nat->Value) (w:World),zde L (zaK .any o)->¬ L i->(zaf G wx w/\(∀ k,k < ops.size->L k->∀ d∈zas ops k,L d)/\∃ p,p<=ws.length/\(∀ j,j < ws.length->(L (ws.getD j 0)↔j < p))/\S p T w/\∀ k,k < ops.size->L k->okU us k p=true->(Fs.getD k λ _ _ => True) w (dv ds T k)) ->
     ∀ K:Act->World->Prop,(∀ v w',(zaf G wx w'/\(∀ k,k < ops.size->(k=i\/L k)->∀ d∈zas ops k,(d=i\/L d))/\∃ p,p<=ws.length/\(∀ j,j < ws.length->((ws.getD j 0=i\/L (ws.getD j 0))↔j < p))/\S p (zbF T o.dst v) w'/\∀ k,k < ops.size->(k=i\/L k)->okU us k p=true->(Fs.getD k λ _ _ => True) w' (dv ds (zbF T o.dst v) k))->K (({ a with tmps:=ovr a.tmps T dl }:Act).put o.dst v) w') ->
      wpOp P ops Q i K { a with tmps:=ovr a.tmps T dl } w) k l:=by
   intro l
   induction l with
   | nil => intro k _ _; trivial
   | cons o r ih =>
    intro k hin h;refine ⟨?_,ih (k + 1) (λ j o' ho => by have:=hin (j + 1) o' (by simpa using ho); rw [show k + 1 + j=k + (j + 1) by omega]; exact this) h.2⟩;rintro L T W hL hn ⟨hb,hcl,p,hpl,hpj,hSp,hJ⟩ K hK;have hko:ops[k]?=some o:=by simpa using hin 0 o rfl
    obtain ⟨hks,hkd⟩:=hdst k o hko;have hall:=zde.all hL;have hok:zcm ops ws k p=true:=by
     unfold zcm;rw [List.all_eq_true];intro j hj;have hj:j < ws.length:=by simpa using hj
     by_cases hjp:j < p
     ·rw [if_pos hjp,Bool.and_eq_true];have hLj:=(hpj j hj).2 hjp;refine ⟨?_,?_⟩
      ·rw [Bool.not_eq_true',Bool.eq_false_iff];intro hc;exact hn (hcl _ (hc1 j hj).1 hLj k (by simpa using hc))
      ·rw [Bool.not_eq_true',Bool.eq_false_iff];intro hc;have:ws.getD j 0=k:=by simpa using hc
       rw [this] at hLj; exact hn hLj
     ·rw [if_neg hjp,Bool.not_eq_true',Bool.eq_false_iff];intro hc;have:ws.getD j 0∈zas ops k:=by simpa using hc
      rw [hwt k o hko] at this;exact hjp ((hpj j hj).1 (hall _ this))
    have hupd:∀ (v:Value) (j:Nat),j < ops.size->j ≠ k->dv ds (zbF T o.dst v) j=dv ds T j:=by
     intro v j hj hjk;unfold dv
     cases hdj:ds.getD j none with
     | none => rfl
     | some d =>
      cases hdo:o.dst with
      | none => rfl
      | some d' =>
       have hne:d ≠ d':=λ e => by
        rw [hdo] at hkd;exact hjk (zbh hnd' hdj (by rw [<- hkd,e]))
       simp [zbF,upd,hne]
    refine h.1 T W p hb (hc2 k p hks hpl hok) hSp (zb7.mem λ d hdw => hJ d (Nat.lt_trans (zbt ht hko hdw) hks) (hall d hdw)) K λ v W' hst hv => hK v W' ?_
    have hbx:zaf G W W':=by
     by_cases e:ws.getD p ops.size=k
     ·exact (hst.2 e).2
     ·exact .of_below (hst.1 e)
    have hself:(Fs.getD k λ _ _ => True) W' (dv ds (zbF T o.dst v) k):=by
     have:dv ds (zbF T o.dst v) k=(o.dst.map λ _ => v).getD undef:=by
      unfold dv;rw [<- hkd]
      cases hdo:o.dst with
      | none => rfl
      | some d => simp [zbF,upd]
     rw [this]; exact hv
    refine ⟨hb.trans hbx,?_,?_⟩
    ·rintro j hj (rfl | hLj) d hd
     ·rw [hwt _ _ hko] at hd; exact .inr (hall d hd)
     ·exact .inr (hcl j hj hLj d hd)
    ·by_cases e:ws.getD p ops.size=k
     ·have hpl2:p < ws.length:=by
       rcases Nat.lt_or_ge p ws.length with h | h
       ·exact h
       ·rw [List.getD_eq_getElem?_getD,List.getElem?_eq_none h] at e;simp at e; omega
      refine ⟨p + 1,hpl2,λ j hj => ?_,(hst.2 e).1,λ j hj hLj ho => ?_⟩
      ·rw [hgd p hpl2] at e
       constructor
       ·rintro (h | h)
        ·have:=hwj j p hj hpl2 (by rw [h,e]); omega
        ·have:=(hpj j hj).1 h; omega
       ·intro h
        by_cases hjp:j=p
        ·subst hjp; exact .inl e
        ·exact .inr ((hpj j hj).2 (by omega))
      ·by_cases hjk:j=k
       ·subst hjk; exact hself
       ·have hLj:=hLj.resolve_left hjk;rw [hupd v j hj hjk];have hS2:=zdE.get j hF;unfold okU at ho;have hJj:=hJ j hj hLj;unfold okU at hJj;have hu:=hus j hj
        cases hj2:us.getD j none with
        | none =>
         rw [hj2] at hS2 hJj;exact hS2 _ _ _ (hJj rfl) hbx
        | some t =>
         rw [hj2] at ho hu
         exfalso
         have ht2:p + 1<=t:=of_decide_eq_true ho;have:=hcl j hj hLj _ (hu p hpl2 (by omega));have:=(hpj p hpl2).1 this;omega
     ·refine ⟨p,hpl,λ j hj => ?_,hST p T _ W' (λ j hj => ?_) (hSB p T W W' hSp (hst.1 e)),λ j hj hLj ho => ?_⟩
      ·constructor
       ·rintro (h | h)
        ·rcases Nat.lt_trichotomy j p with hlt | heq | hgt
         ·exact hlt
         ·subst heq; rw [hgd j hj] at e; exact absurd h e
         ·exfalso
          rcases (hc1 j hj).2 with h0 | h0
          ·omega
          ·rw [h,hwt k o hko] at h0;have:=(hpj (j - 1) (by omega)).1 (hall _ h0);omega
        ·exact (hpj j hj).1 h
       ·exact λ h => .inr ((hpj j hj).2 h)
      ·have hjl:j < ws.length:=by omega
       exact hupd v _ (hc1 j hjl).1 λ hh => hn (by rw [<- hh]; exact (hpj j hjl).2 hj)
      ·by_cases hjk:j=k
       ·subst hjk; exact hself
       ·have hLj:=hLj.resolve_left hjk;rw [hupd v j hj hjk];have hS2:=zdE.get j hF;have hJj:=hJ j hj hLj ho
        cases hj2:us.getD j none with
        | none =>
         rw [hj2] at hS2;exact hS2 _ _ _ hJj hbx
        | some t =>
         rw [hj2] at hS2;exact hS2 _ _ _ hJj (hst.1 e)
  exact key ops.toList 0 (λ j o ho => by simpa using ho) hs
 ·rintro T W ⟨hb,_,p,hpl,hpj,hSp,hJ⟩;have:p=ws.length:=by
   rcases Nat.lt_or_ge p ws.length with h | h
   ·exact absurd ((hpj p h).1 (hc1 p h).1) (by omega)
   ·omega
  subst this;exact he T W hb hSp (zb7.mem λ k hk => hJ k (by simpa using hk) (by simpa using hk))
 ·rintro L T W hL ⟨hb,hcl,p,hpl,hpj,hSp,hJ⟩;refine ⟨hb,λ k hk _ d hd => ?_,p,hpl,λ j hj => ?_,hSp,λ k hk _ => hJ k hk (hL k hk)⟩
  ·obtain ⟨o,ho⟩:∃ o,ops[k]?=some o:=⟨ops[k],Array.getElem?_eq_getElem hk⟩;rw [hwt k o ho] at hd;exact Nat.lt_trans (zbt ht ho hd) hk
  ·exact ⟨λ _ => (hpj j hj).1 (hL _ (hc1 j hj).1),λ _ => (hc1 j hj).1⟩
end
theorem zdg {n:Nat} (h:n < 65536):IntKind.u16.wrap (n:Int)=(n:Int):=by
 unfold IntKind.wrap;simp only [IntKind.bits,IntKind.signed];simp;omega
theorem zi0 {a i:Nat} (ha:a < 65536) (hi:¬ i < 16):a.testBit i=false :=
 Nat.testBit_lt_two_pow (Nat.lt_of_lt_of_le ha (show 2 ^ 16<=2 ^ i from Nat.pow_le_pow_right (by decide) (Nat.le_of_not_lt hi)))
theorem zi6 (a b:Nat) (ha:a < 65536):bits .and .u16 (a:Int) (b:Int)=((a &&& b:Nat):Int):=by
 show IntKind.u16.wrap ((BitVec.ofInt 16 (a:Int) &&& BitVec.ofInt 16 (b:Int)).toNat:Int)=_
 have h1:(BitVec.ofInt 16 (a:Int) &&& BitVec.ofInt 16 (b:Int)).toNat=a &&& b:=by
  rw [BitVec.toNat_and,BitVec.ofInt_natCast,BitVec.ofInt_natCast,BitVec.toNat_ofNat,BitVec.toNat_ofNat,Nat.mod_eq_of_lt ha]
  apply Nat.eq_of_testBit_eq
  intro i;rw [Nat.testBit_and,Nat.testBit_and,Nat.testBit_mod_two_pow]
  by_cases hi:i < 16
  ·simp [hi]
  ·simp [zi0 ha hi]
 rw [h1];exact zdg (Nat.lt_of_le_of_lt Nat.and_le_left ha)
theorem zn1 (a b:Nat) (ha:a < 65536) (hb:b < 65536):bits .or .u16 (a:Int) (b:Int)=((a ||| b:Nat):Int):=by
 show IntKind.u16.wrap ((BitVec.ofInt 16 (a:Int) ||| BitVec.ofInt 16 (b:Int)).toNat:Int)=_
 have h1:(BitVec.ofInt 16 (a:Int) ||| BitVec.ofInt 16 (b:Int)).toNat=a ||| b:=by
  rw [BitVec.toNat_or,BitVec.ofInt_natCast,BitVec.ofInt_natCast,BitVec.toNat_ofNat,BitVec.toNat_ofNat,Nat.mod_eq_of_lt ha,Nat.mod_eq_of_lt hb]
 rw [h1];exact zdg (show a ||| b < 2 ^ 16 from Nat.or_lt_two_pow ha hb)
theorem zha (a b:Nat) (ha:a < 65536) (hb:b < 65536):(bits .andNot .u16 (b:Int) (a:Int) == 0)=decide (a &&& b=b):=by
 have e:bits .andNot .u16 (b:Int) (a:Int)=IntKind.u16.wrap ((BitVec.ofInt 16 (b:Int) &&& ~~~ (BitVec.ofInt 16 (a:Int))).toNat:Int):=rfl;rw [e,BitVec.ofInt_natCast,BitVec.ofInt_natCast];have hA:∀ i,i < 16->(BitVec.ofNat 16 a).getLsbD i=a.testBit i:=λ i hi => by rw [BitVec.getLsbD_ofNat]; simp [hi]
 have hB:∀ i,i < 16->(BitVec.ofNat 16 b).getLsbD i=b.testBit i:=λ i hi => by rw [BitVec.getLsbD_ofNat]; simp [hi]
 generalize BitVec.ofNat 16 a=x at *;generalize BitVec.ofNat 16 b=y at *;have hZ:(y &&& ~~~ x)=0#16↔a &&& b=b:=by
  constructor
  ·intro h
   apply Nat.eq_of_testBit_eq
   intro i;rw [Nat.testBit_and]
   by_cases hi:i < 16
   ·have:=congrArg (λ v => v.getLsbD i) h;simp only [BitVec.getLsbD_and,BitVec.getLsbD_not,BitVec.getLsbD_zero,hA i hi,hB i hi] at this
    cases hb':b.testBit i <;> cases ha':a.testBit i <;> simp_all
   ·simp [zi0 hb hi]
  ·intro h
   apply BitVec.eq_of_getLsbD_eq
   intro i hi;have:=congrArg (λ v => v.testBit i) h;simp only [Nat.testBit_and] at this;simp only [BitVec.getLsbD_and,BitVec.getLsbD_not,BitVec.getLsbD_zero,hA i hi,hB i hi]
   cases hb':b.testBit i <;> cases ha':a.testBit i <;> simp_all
 have hlt:(y &&& ~~~ x).toNat < 65536:=(y &&& ~~~ x).isLt;have h3:((y &&& ~~~ x).toNat:Int)=0↔(y &&& ~~~ x)=0#16:=by
  constructor
  ·intro h; apply BitVec.eq_of_toNat_eq; rw [BitVec.toNat_ofNat]; omega
  ·intro h; rw [h]; rfl
 rw [zdg hlt,Bool.eq_iff_iff,beq_iff_eq,decide_eq_true_iff,h3,hZ]
theorem zmV (r i:Nat) (hr:r < 65536):bits .and .u16 ((r:Int) / 2 ^ i) 1=if r.testBit i then 1 else 0:=by
 have e:(r:Int) / 2 ^ i=((r / 2 ^ i:Nat):Int):=by push_cast; rfl
 have h1:=zi6 (r / 2 ^ i) 1 (Nat.lt_of_le_of_lt (Nat.div_le_self _ _) hr);rw [e];have h2:bits .and .u16 ((r / 2 ^ i:Nat):Int) 1=bits .and .u16 ((r / 2 ^ i:Nat):Int) ((1:Nat):Int):=rfl;rw [h2,h1,Nat.and_one_is_mod,Nat.testBit_eq_decide_div_mod_eq];rcases Nat.mod_two_eq_zero_or_one (r / 2 ^ i) with h | h <;> simp [h]
def cnt (s:Nat):Nat:=(List.range 16).countP (λ i => s.testBit i)
def znq (s:Nat):Nat:=(List.range 8).countP (λ i => s.testBit i)
theorem zgJ:∀ n:Fin 256,Lib.pop8 (n.val:Int)=(znq n.val:Int):=by decide +kernel
theorem zlI (s:Nat):cnt s=znq (s / 256) + znq (s % 256):=by
 have h1:∀ i,i < 8->(s % 256).testBit i=s.testBit i:=λ i hi => by
  rw [show (256:Nat)=2 ^ 8 from rfl,Nat.testBit_mod_two_pow]; simp [hi]
 have h2:∀ i,(s / 256).testBit i=s.testBit (8 + i):=λ i => by
  rw [show (256:Nat)=2 ^ 8 from rfl,Nat.testBit_div_two_pow,Nat.add_comm]
 unfold cnt znq;rw [show List.range 16=List.range 8 ++ (List.range 8).map (8 + ·) from by decide,List.countP_append,List.countP_map,Nat.add_comm]
 congr 1
 ·exact List.countP_congr λ i _ => by simp [Function.comp,h2]
 ·exact List.countP_congr λ i hi => by rw [h1 i (List.mem_range.1 hi)]
theorem zd7 (s:Nat):cnt s<=16:=by unfold cnt; exact Nat.le_trans List.countP_le_length (by simp)
theorem znC (x:Nat) (hx:x < 65536):Lib.pop8 ((x / 256:Nat):Int) + Lib.pop8 ((x % 256:Nat):Int)=(cnt x:Int)/\0<=Lib.pop8 ((x / 256:Nat):Int)/\0<=Lib.pop8 ((x % 256:Nat):Int):=by
 have h1:=zgJ ⟨x / 256,by omega⟩;have h2:=zgJ ⟨x % 256,by omega⟩;simp only at h1 h2;rw [h1,h2,zlI];exact ⟨by push_cast; rfl,by omega,by omega⟩
def bef (a b:Nat):Bool:=decide (cnt a < cnt b) || (decide (cnt a=cnt b) && decide (a < b))
def zeL (a b:Nat):Int:=if a < b then -1 else if b < a then 1 else 0
def zmk (a b:Nat):Int:=if zeL (cnt a) (cnt b)=0 then zeL a b else zeL (cnt a) (cnt b)
theorem zkl (a b:Nat):decide (0<=zmk a b)=!bef a b:=by
 unfold zmk bef zeL
 by_cases h1:cnt a < cnt b
 ·simp [h1]
 ·by_cases h2:cnt b < cnt a
  ·have h3:cnt a ≠ cnt b:=by omega
   simp [h1,h2,h3]
  ·have h3:cnt a=cnt b:=by omega
   by_cases h4:a < b
   ·simp [h3,h4]
   ·by_cases h5:b < a
    ·simp [h3,h4,h5]
    ·simp [h3,h4,h5]
def zdj (a b:Nat):Bool:=decide (a &&& b=b)
def zaM (w:World) (ao:Option Addr) (l:List Nat):Prop:=∀ (i:Nat) (x:Nat),l[i]?=some x->∃ b off,ao=some ⟨b,off,none⟩/\w.cell? ⟨b,off + i,none⟩=some (.int .u16 (x:Nat))
theorem zaM.mono {w w':World} {ao:Option Addr} {l:List Nat} (h:zaM w ao l) (hb:BH w w'):zaM w' ao l:=λ i x hx => by
 obtain ⟨b,off,e,hc⟩:=h i x hx;exact ⟨b,off,e,(hb.cell (zag hc)).trans hc⟩
theorem zaM.take {w:World} {ao:Option Addr} {l:List Nat} (h:zaM w ao l) (n:Nat):zaM w ao (l.take n):=λ i x hx => by
 refine h i x ?_;rw [List.getElem?_take] at hx
 split at hx
 ·exact hx
 ·cases hx
def zaJ (l:List Nat):Prop:=∀ x∈l,x < 65536
def zfD {α:Type} (p:α->Bool) (l:List α):Int:=match l.findIdx? p with
 | some i => i
 | none => -1
theorem zcG {α:Type} {p:α->Bool} {l:List α} {k:Nat} {o:α} (hk:l[k]?=some o) (ho:p o=true) (h:∀ x∈l.take k,p x=false):zfD p l=k:=by
 have:l.findIdx? p=some k:=by
  rw [List.findIdx?_eq_some_iff_getElem];have hl:k < l.length:=by
   rcases Nat.lt_or_ge k l.length with h | h
   ·exact h
   ·rw [List.getElem?_eq_none h] at hk; cases hk
  refine ⟨hl,by rw [gE hl] at hk; cases hk; exact ho,λ j hj => ?_⟩;have:=h (l[j]'(by omega)) (List.mem_take_iff_getElem.2 ⟨j,by omega,rfl⟩);simp [this]
 unfold zfD;rw [this]
theorem zb3 {α:Type} {p:α->Bool} {l:List α} (h:∀ x∈l,p x=false):zfD p l=-1:=by
 have:l.findIdx? p=none:=by rw [List.findIdx?_eq_none_iff]; exact h
 unfold zfD;rw [this]
theorem zeG {α:Type} (p:α->Bool) (l:List α):decide (0<=zfD p l)=l.any p:=by
 cases h:l.any p with
 | false =>
  rw [List.any_eq_false] at h;rw [zb3 (λ x hx => by have:=h x hx; simpa using this)]; rfl
 | true =>
  have:(l.findIdx? p).isSome:=by rw [List.findIdx?_isSome]; exact h
  unfold zfD
  cases hf:l.findIdx? p with
  | none => rw [hf] at this; cases this
  | some i => simp
def zkW (g:Nat) (lb:Array Value) (p:Nat->Bool) (l:List Nat) (w:World):Prop :=
 ∀ (x:Nat) (W:World),x∈l->BH w W->Calls Tryz.prog g (#[.int .u16 (x:Nat)] ++ lb) W λ e W' => e=.returned (.bool (p x))/\BH W W'
theorem zbv (x:Nat) (hx:x < 65536) (w:World) :
  Calls Tryz.prog 40 #[.int .u16 (x:Nat)] w λ e w' => e=.returned (.int .i64 (cnt x:Nat))/\BH w w':=by
 obtain ⟨h1,h2,h3⟩:=znC x hx;have hc:=zd7 x;have e1:(x:Int) / 256=((x / 256:Nat):Int):=by push_cast; rfl
 have e2:bits .and .u16 (x:Int) 255=((x % 256:Nat):Int):=by
  have:=zi6 x 255 hx;rw [show bits .and .u16 (x:Int) 255=bits .and .u16 (x:Int) ((255:Nat):Int) from rfl,this,show (255:Nat)=2 ^ 8 - 1 from rfl,Nat.and_two_pow_sub_one_eq_mod]
 obtain ⟨a,ha⟩:∃ a:Int,((x / 256:Nat):Int)=a:=⟨_,rfl⟩;obtain ⟨b,hb'⟩:∃ b:Int,((x % 256:Nat):Int)=b:=⟨_,rfl⟩;have hal0:0<=a:=by omega
 have hal:a<=255:=by omega
 have hbl0:0<=b:=by omega
 have hbl:b<=255:=by omega
 rw [ha] at e1 h1 h2;rw [hb'] at e2 h1 h3;obtain ⟨pa,hpa⟩:∃ p,Lib.pop8 a=p:=⟨_,rfl⟩;obtain ⟨pb,hpb⟩:∃ p,Lib.pop8 b=p:=⟨_,rfl⟩;rw [hpa,hpb] at h1;rw [hpa] at h2;rw [hpb] at h3;obtain ⟨c,hcc⟩:∃ c,cnt x=c:=⟨_,rfl⟩;rw [hcc] at h1 hc |-;have hw8:IntKind.u8.wrap (c:Int)=(c:Int):=by unfold IntKind.wrap; simp [IntKind.bits,IntKind.signed]; omega
 have hw64:IntKind.i64.wrap (c:Int)=(c:Int):=by unfold IntKind.wrap; simp [IntKind.bits,IntKind.signed]; omega
 clear ha hb' hcc;go_enter func40,ntmps40;go_upto_region 1 with fail;refine zae (wx:=w) [vf (.int .u16 (x:Nat)),vf (.int .u16 a),vf (.int .u8 pa),vf (.int .u16 (x:Nat)),vf (.int .u16 b),vf (.int .u8 pb),vf (.int .u8 (c:Nat)),vf (.int .i64 (c:Nat)),vf (.int .i64 (c:Nat))] [3,4,5,6,7,8,9,10,2] (by kernel_rfl) (by kernel_rfl) (by kernel_rfl) (of_decide_eq_true (by kernel_rfl)) br ⟨sV _,sV _,sV _,sV _,sV _,sV _,sV _,sV _,sV _,trivial⟩ ⟨?s0,?s1,?s2,?s3,?s4,?s5,?s6,?s7,?s8,trivial⟩ ?he
 case' s0 | s1 | s2 | s3 | s4 | s5 | s6 | s7 | s8 =>
  rintro T W hb hA K hK
 case' s0 | s3 =>
  simp only [sA] at hK |-
 case' s1 =>
  have e0:T 3=_:=hA.1;simp only [sA,e0] at hK |-
 case' s2 =>
  have e1:T 4=_:=hA.1;simp only [sA,e1] at hK |-
 case' s4 =>
  have e3:T 6=_:=hA.1;simp only [sA,e3] at hK |-
 case' s5 =>
  have e4:T 7=_:=hA.1;simp only [sA,e4] at hK |-
 case' s6 =>
  have e2:T 5=_:=hA.1;have e5:T 8=_:=hA.2.1;simp only [sA,e2,e5] at hK |-
 case' s7 =>
  have e6:T 9=_:=hA.1;simp only [sA,e6] at hK |-
 case' s8 =>
  have e7:T 10=_:=hA.1;simp only [sA,e7] at hK |-
 case s0 | s1 | s2 | s3 | s4 | s5 | s6 | s7 | s8 =>
  have HK:=hii hK;clear hK hA;refine wO rfl (by rfl) ?_;go_simp;exact HK.out _ _ br (rfl)
 case he =>
  rintro T W hb hA;have f8:T 2=.int .i64 (c:Nat):=hA.at 8 (by decide);simp only [sA,f8];clear hA f8;go_wp2;go_ret;exact ⟨rfl,hb⟩
theorem zhf (x:Nat) (hx:x < 65536) (w:World) :
  Calls Tryz.prog 166 #[.int .u16 (x:Nat)] w λ e w' => e=.returned (.int .i64 (cnt x:Nat))/\BH w w':=by
 go_enter func166,ntmps166;go_wp2_with fail;go_fit (zbv x hx w);rintro e w1 ⟨rfl,hb⟩;go_wp2;go_ret;exact ⟨rfl,hb⟩
theorem ziS (a b:Nat) (ha:a < 65536) (hb':b < 65536) (w:World) :
  Calls Tryz.prog 165 #[.int .i64 (a:Nat),.int .i64 (b:Nat)] w λ e w' => e=.returned (.int .i64 (zeL a b))/\BH w w':=by
 have hN:∀ (x:Nat) (W:World),Calls Tryz.prog 185 #[.int .i64 (x:Nat)] W λ e w' => e=.returned (.bool false)/\BH W w':=λ x W => by
  go_enter func185,ntmps185;go_wp2;go_ret;exact ⟨by simp,br⟩
 obtain ⟨z,hz⟩:∃ z,zeL a b=z:=⟨_,rfl⟩;rw [hz];have HZ:=hii hz;clear hz;have hbw:=Below.refl w.heap.size w;go_enter func165,ntmps165;go_wp2_with fail;go_fit (hN a w);rintro e w1 ⟨rfl,hb⟩;have hbw:=bu hbw hb;clear hb;go_wp2_with fail;go_fit (hN b w1);rintro e w2 ⟨rfl,hb⟩;have hbw:=bu hbw hb;clear hb hN
 by_cases h1:a < b
 ·have H1:Hid (z=-1):=hii (by rw [<- HZ.out]; unfold zeL; rw [if_pos h1]);go_wp2
  all_goals go_ret
  all_goals exact ⟨by have:=H1.out; subst this; rfl,hbw⟩
 ·by_cases h2:b < a
  ·have H1:Hid (z=1):=hii (by rw [<- HZ.out]; unfold zeL; rw [if_neg h1,if_pos h2]);go_wp2
   all_goals go_ret
   all_goals exact ⟨by have:=H1.out; subst this; rfl,hbw⟩
  ·have H1:Hid (z=0):=hii (by rw [<- HZ.out]; unfold zeL; rw [if_neg h1,if_neg h2]);go_wp2
   all_goals go_ret
   all_goals exact ⟨by have:=H1.out; subst this; rfl,hbw⟩
theorem ziU (a b:Nat) (ha:a < 65536) (hb':b < 65536) (w:World) :
  Calls Tryz.prog 167 #[.int .u16 (a:Nat),.int .u16 (b:Nat)] w λ e w' => e=.returned (.int .i64 (zeL a b))/\BH w w':=by
 have hN:∀ (x:Nat) (W:World),Calls Tryz.prog 186 #[.int .u16 (x:Nat)] W λ e w' => e=.returned (.bool false)/\BH W w':=λ x W => by
  go_enter func186,ntmps186;go_wp2;go_ret;exact ⟨by simp,br⟩
 obtain ⟨z,hz⟩:∃ z,zeL a b=z:=⟨_,rfl⟩;rw [hz];have HZ:=hii hz;clear hz;have hbw:=Below.refl w.heap.size w;go_enter func167,ntmps167;go_wp2_with fail;go_fit (hN a w);rintro e w1 ⟨rfl,hb⟩;have hbw:=bu hbw hb;clear hb;go_wp2_with fail;go_fit (hN b w1);rintro e w2 ⟨rfl,hb⟩;have hbw:=bu hbw hb;clear hb hN
 by_cases h1:a < b
 ·have H1:Hid (z=-1):=hii (by rw [<- HZ.out]; unfold zeL; rw [if_pos h1]);go_wp2
  all_goals go_ret
  all_goals exact ⟨by have:=H1.out; subst this; rfl,hbw⟩
 ·by_cases h2:b < a
  ·have H1:Hid (z=1):=hii (by rw [<- HZ.out]; unfold zeL; rw [if_neg h1,if_pos h2]);go_wp2
   all_goals go_ret
   all_goals exact ⟨by have:=H1.out; subst this; rfl,hbw⟩
  ·have H1:Hid (z=0):=hii (by rw [<- HZ.out]; unfold zeL; rw [if_neg h1,if_neg h2]);go_wp2
   all_goals go_ret
   all_goals exact ⟨by have:=H1.out; subst this; rfl,hbw⟩
theorem zna (g:Nat) (x y z:Int) (w:World) (hz:Hid (z=if x=0 then y else x)) (c0:w.cell? ⟨g,0,none⟩=some (.int .i64 x)) (c1:w.cell? ⟨g,1,none⟩=some (.int .i64 y)) :
  Calls Tryz.prog 164 #[.slice (some ⟨g,0,none⟩) 2 2] w λ e w' => e=.returned (.int .i64 z)/\BH w w':=by
 have hbw:=Below.refl w.heap.size w
 by_cases hx:x=0
 ·subst hx;have hz:Hid (z=y):=hii (by rw [hz.out,if_pos rfl])
  by_cases hy:y=0
  ·subst hy;go_enter func164,ntmps164;go_wp2;go_loopw [8] (λ s wr => ∃ k:Nat,k<=2/\s=.int .i64 (k:Nat)/\wr=w) (λ s _ => 2 - (intOf s).toNat)
   case atStart => exact ⟨0,by omega,rfl,by trivial⟩
   case round =>
    obtain ⟨k,hk,rfl,rfl⟩:=hrel;obtain rfl | rfl | rfl:k=0\/k=1\/k=2:=by omega
    ·go_wp2;go_roundw
     case rel => exact ⟨1,by omega,by go_num,by trivial⟩
     case measure => simp [intOf]
    ·go_wp2;go_roundw
     case rel => exact ⟨2,by omega,by go_num,by trivial⟩
     case measure => simp [intOf]
    ·go_wp2;go_ret;exact ⟨by rw [hz.out]; try rfl,hbw⟩
  ·have hy':(y != 0)=true:=by simpa using hy
   go_enter func164,ntmps164;go_wp2;go_loopw [8] (λ s wr => ∃ k:Nat,k<=1/\s=.int .i64 (k:Nat)/\wr=w) (λ s _ => 2 - (intOf s).toNat)
   case atStart => exact ⟨0,by omega,rfl,by trivial⟩
   case round =>
    obtain ⟨k,hk,rfl,rfl⟩:=hrel;obtain rfl | rfl:k=0\/k=1:=by omega
    ·go_wp2;go_roundw
     case rel => exact ⟨1,by omega,by go_num,by trivial⟩
     case measure => simp [intOf]
    ·go_wp2;go_ret;exact ⟨by rw [hz.out]; try rfl,hbw⟩
 ·have hx':(x != 0)=true:=by simpa using hx
  have hz:Hid (z=x):=hii (by rw [hz.out,if_neg hx]);go_enter func164,ntmps164;go_wp2;go_loopw [8] (λ s wr => s=.int .i64 0/\wr=w) (λ s _ => 0)
  case atStart => exact ⟨rfl,by trivial⟩
  case round =>
   obtain ⟨rfl,rfl⟩:=hrel;go_wp2;go_ret;exact ⟨by rw [hz.out]; try rfl,hbw⟩
theorem zem (a b:Nat) (ha:a < 65536) (hb':b < 65536) (w:World) :
  Calls Tryz.prog 133 #[.int .u16 (a:Nat),.int .u16 (b:Nat)] w λ e w' => e=.returned (.int .i64 (zmk a b))/\BH w w':=by
 obtain ⟨z,hz⟩:∃ z,zmk a b=z:=⟨_,rfl⟩;rw [hz];have HZ:=hii hz;clear hz;obtain ⟨ca,hca⟩:∃ c,cnt a=c:=⟨_,rfl⟩;obtain ⟨cb,hcb⟩:∃ c,cnt b=c:=⟨_,rfl⟩;have l1:=zd7 a;have l2:=zd7 b;have K1:=λ W => zbv a ha W
 have H1:∀ W,Calls Tryz.prog 166 #[.int .u16 (a:Nat)] W λ e w' => e=.returned (.int .i64 (ca:Nat))/\BH W w':=by rw [<- hca]; exact λ W => zhf a ha W
 have H2:∀ W,Calls Tryz.prog 166 #[.int .u16 (b:Nat)] W λ e w' => e=.returned (.int .i64 (cb:Nat))/\BH W w':=by rw [<- hcb]; exact λ W => zhf b hb' W
 rw [hca] at l1;rw [hcb] at l2;have HZ:Hid (z=if zeL ca cb=0 then zeL a b else zeL ca cb):=hii (by rw [<- HZ.out]; unfold zmk; rw [hca,hcb]);obtain ⟨x,hx⟩:∃ x,zeL ca cb=x:=⟨_,rfl⟩;obtain ⟨y,hy⟩:∃ y,zeL a b=y:=⟨_,rfl⟩;have H3:∀ W,Calls Tryz.prog 165 #[.int .i64 (ca:Nat),.int .i64 (cb:Nat)] W λ e w' => e=.returned (.int .i64 x)/\BH W w':=by rw [<- hx]; exact λ W => ziS ca cb (by omega) (by omega) W
 have H4:∀ W,Calls Tryz.prog 167 #[.int .u16 (a:Nat),.int .u16 (b:Nat)] W λ e w' => e=.returned (.int .i64 y)/\BH W w':=by rw [<- hy]; exact λ W => ziU a b ha hb' W
 rw [hx,hy] at HZ;clear hca hcb hx hy l1 l2 K1;have hbw:=Below.refl w.heap.size w;go_enter func133,ntmps133;go_wp2_with fail;go_fit (H1 w);rintro e w1 ⟨rfl,hb⟩;have hbw:=bu hbw hb;clear hb;go_wp2_with fail;go_fit (H2 w1);rintro e w2 ⟨rfl,hb⟩;have hbw:=bu hbw hb;clear hb;go_wp2_with fail;go_fit (H3 w2);rintro e w3 ⟨rfl,hb⟩;have hbw:=bu hbw hb;clear hb;go_wp2_with fail;go_fit (H4 w3);rintro e w4 ⟨rfl,hb⟩;have hbw:=bu hbw hb;clear hb;go_wp2_with fail;have hb:=bA w4 (.cells #[.int .i64 x,.int .i64 y] 3);have r:Row (w4.alloc (.cells #[.int .i64 x,.int .i64 y] 3)) w4.heap.size 3 [.int .i64 x,.int .i64 y]:=heap_alloc_new _ _;obtain ⟨g,hg⟩:=exi (w4.heap.size);rw [<- hg] at r |-;clear hg;generalize w4.alloc (.cells #[.int .i64 x,.int .i64 y] 3)=w5 at *;have hbw:=bu hbw hb;clear hb;go_fit (zna g x y z w5 HZ (r.cell (k:=0) (by simp)) (r.cell (k:=1) (by simp)));rintro e w6 ⟨rfl,hb⟩;have hbw:=bu hbw hb;clear hb;go_wp2;go_ret;exact ⟨rfl,hbw⟩
theorem znJ (s:Nat) (hs:s < 65536):(bits .and .u16 (s:Int) 61440 != 0)=decide (4096<=s):=by
 have h1:=zi6 s 61440 hs;rw [show bits .and .u16 (s:Int) 61440=bits .and .u16 (s:Int) ((61440:Nat):Int) from rfl,h1,Bool.eq_iff_iff,bne_iff_ne,decide_eq_true_iff];have h2:(s &&& 61440=0)↔s < 4096:=by
  constructor
  ·intro h;refine Nat.lt_of_not_le λ hge => ?_
   obtain ⟨q,hq⟩:∃ q,s / 4096=q:=⟨_,rfl⟩;have hq1:1<=q:=by omega
   have hq2:q < 16:=by omega
   have hj:∀ q:Fin 16,1<=q.val->∃ j:Fin 4,q.val.testBit j.val=true:=by decide
   obtain ⟨j,hj⟩:=hj ⟨q,hq2⟩ hq1;have hb:s.testBit (j.val + 12)=true:=by
    have:=Nat.testBit_div_two_pow (n:=12) s (i:=j.val);rw [<- this,show (2:Nat) ^ 12=4096 from rfl,hq]; exact hj
   have hm:∀ j:Fin 4,(61440:Nat).testBit (j.val + 12)=true:=by decide
   have:=congrArg (λ v => v.testBit (j.val + 12)) h;simp [Nat.testBit_and,hb,hm j] at this
  ·intro h
   apply Nat.eq_of_testBit_eq
   intro i;rw [Nat.testBit_and,Nat.zero_testBit]
   by_cases hi:i < 12
   ·have hm:∀ i:Fin 12,(61440:Nat).testBit i.val=false:=by decide
    rw [hm ⟨i,hi⟩,Bool.and_false]
   ·rw [Nat.testBit_lt_two_pow (Nat.lt_of_lt_of_le h (show 2 ^ 12<=2 ^ i from Nat.pow_le_pow_right (by decide) (Nat.le_of_not_lt hi))),Bool.false_and]
 constructor
 ·intro h;refine Nat.le_of_not_lt λ hlt => h ?_
  rw [h2.2 hlt]; rfl
 ·intro h e;have:=h2.1 (by exact_mod_cast e);omega
def zbS:Option Nat->List Nat->Nat
 | _,[] => 0
 | p,s :: l => if 4096<=s then 7 else if (match p with | none => false | some q => !bef q s) then 1 else zbS (some s) l
def zc1:List Nat->List Nat->Nat
 | _,[] => 0
 | e,s :: l => if e.any (λ x => zdj s x) then 1 else zc1 (e ++ [s]) l
def zgY (l:List Nat):Nat:=if 400 < l.length then 3 else if zbS none l ≠ 0 then zbS none l else zc1 [] l
def zlo (l:List Nat) (k:Nat):Option Nat:=if k=0 then none else l[k - 1]?
theorem zdd {α:Type} {l:List α} {k:Nat} {x:α} (h:l[k]?=some x):l.drop k=x :: l.drop (k + 1):=by
 obtain ⟨hk,rfl⟩:=List.getElem?_eq_some_iff.1 h;exact List.drop_eq_getElem_cons hk
theorem zaH {α:Type} {l:List α} {k:Nat} {x:α} (h:l[k]?=some x):l.take (k + 1)=l.take k ++ [x]:=by
 rw [List.take_add_one,h]; rfl
def zdJ (l:List Nat):Nat:=l.foldl (· ||| ·) 0
theorem zhY {l:List Nat} {k x:Nat} (h:l[k]?=some x):zdJ (l.take (k + 1))=zdJ (l.take k) ||| x:=by
 unfold zdJ; rw [zaH h,List.foldl_append]; rfl
theorem zfJ {l:List Nat} (h:zaJ l):zdJ l < 65536:=by
 have key:∀ (l:List Nat) (a:Nat),a < 65536->(∀ x∈l,x < 65536)->l.foldl (· ||| ·) a < 65536:=by
  intro l
  induction l with
  | nil => intro a ha _; exact ha
  | cons x l ih => intro a ha hx; exact ih _ (show a ||| x < 2 ^ 16 from Nat.or_lt_two_pow ha (hx x (by simp))) λ y hy => hx y (by simp [hy])
 exact key l 0 (by decide) h
theorem zhN (g:Nat) (lb:Array Value) (p:Nat->Bool) (eg:∀ args w,(callFunc g args).run Tryz.prog w=.ok (.enter g args) w) (l:List Nat) (aa:Option Addr) (ca:Nat) (w:World) (hl:l.length<=9223372036854775807) (ua:zaM w aa l) (hp:zkW g lb p l w) :
  Calls Tryz.prog 85 #[.slice aa l.length ca,.func (.func g) #[] lb] w λ e w' => e=.returned (.int .i64 (zfD p l))/\BH w w':=by
 have hbw:=Below.refl w.heap.size w;have hp:=hii hp;go_enter func85,ntmps85;go_wp2_with fail;go_loopw [8] (λ s wr => ∃ k:Nat,k<=l.length/\s=.int .i64 k/\Hid (∀ x∈l.take k,p x=false)/\BH w wr) (λ s _ => l.length - (intOf s).toNat)
 case atStart => exact ⟨0,Nat.zero_le _,rfl,hii (by simp),hbw⟩
 case round =>
  clear hbw;obtain ⟨k,hk,rfl,HN,hbw⟩:=hrel
  by_cases hlt:k < l.length
  ·obtain ⟨x,hx⟩:∃ x,l[k]?=some x:=⟨l[k],gE hlt⟩;obtain ⟨b1,off1,ea,hc⟩:=(ua.mono hbw) k x hx;have hcall:=hp.out x wr (List.mem_of_getElem? hx) hbw;have Hx:=hii hx;clear hx ua;subst ea
   cases hq:p x with
   | true =>
    rw [hq] at hcall;have Hq:=hii hq;clear hq;go_wp2_with (go_at_fn g; refine hcall.mono ?_; rintro e v2 ⟨rfl,hb⟩);have hbw:=bu hbw hb;go_ret;exact ⟨by rw [zcG Hx.out Hq.out HN.out]; rfl,hbw⟩
   | false =>
    rw [hq] at hcall;have Hq:=hii hq;clear hq;go_wp2_with (go_at_fn g; refine hcall.mono ?_; rintro e v2 ⟨rfl,hb⟩);have hbw:=bu hbw hb;go_roundw
    case rel =>
     refine ⟨k + 1,by omega,by go_num,hii λ y hy => ?_,hbw⟩;rw [zaH Hx.out] at hy;rcases List.mem_append.1 hy with h | h
     ·exact HN.out y h
     ·simp at h; subst h; exact Hq.out
    case measure => simp [intOf]; omega
  ·obtain rfl:k=l.length:=by omega
   go_wp2;go_ret;exact ⟨by rw [zb3 (λ x hx => HN.out x (by rw [List.take_length]; exact hx))]; rfl,hbw⟩
theorem zcM (g:Nat) (lb:Array Value) (p:Nat->Bool) (eg:∀ args w,(callFunc g args).run Tryz.prog w=.ok (.enter g args) w) (l:List Nat) (aa:Option Addr) (ca:Nat) (w:World) (hl:l.length<=9223372036854775807) (ua:zaM w aa l) (hp:zkW g lb p l w) :
  Calls Tryz.prog 38 #[.slice aa l.length ca,.func (.func g) #[] lb] w λ e w' => e=.returned (.bool (l.any p))/\BH w w':=by
 have hC:=zhN g lb p eg l aa ca w hl ua hp;rw [<- zeG];generalize zfD p l=i at hC |-;clear ua hp eg;go_enter func38,ntmps38;go_wp2_with fail;(with_reducible refine hC.mono ?_);rintro e v2 ⟨rfl,hb⟩;go_wp2
 all_goals go_ret
 all_goals exact ⟨by simp_all,hb⟩
theorem zf9 (a b:Nat) (ha:a < 65536) (hb':b < 65536) (w:World) :
  Calls Tryz.prog 169 #[.int .u16 (a:Nat),.int .u16 (b:Nat)] w λ e w' => e=.returned (.bool (zdj a b))/\BH w w':=by
 have e1:=zha a b ha hb';obtain ⟨z,hz⟩:∃ z,zdj a b=z:=⟨_,rfl⟩;have e2:(bits .andNot .u16 (b:Int) (a:Int) == 0)=z:=by rw [e1,<- hz]; rfl
 rw [hz];clear e1 hz;go_enter func169,ntmps169;go_wp2;go_ret;exact ⟨rfl,br⟩
theorem zge (a b g:Nat) (ha:a < 65536) (hb':b < 65536) (w:World) (hc:w.cell? ⟨g,0,none⟩=some (.int .u16 (a:Nat))) :
  Calls Tryz.prog 168 #[.int .u16 (b:Nat),.pointer (some ⟨g,0,none⟩)] w λ e w' => e=.returned (.bool (zdj a b))/\BH w w':=by
 go_enter func168,ntmps168;go_wp2_with fail;go_fit (zf9 a b ha hb' w);rintro e w1 ⟨rfl,hb⟩;go_wp2;go_ret;exact ⟨rfl,hb⟩
theorem zhR (l:List Nat) (s:Nat) (aa:Option Addr) (ca:Nat) (w:World) (hl:l.length<=9223372036854775807) (ua:zaM w aa l) (h16:Hid (zaJ l)) (hs:s < 65536) :
  Calls Tryz.prog 134 #[.slice aa l.length ca,.int .u16 (s:Nat)] w λ e w' => e=.returned (.bool (l.any (λ x => zdj s x)))/\BH w w':=by
 have hbw:=Below.refl w.heap.size w;obtain ⟨z,hz⟩:∃ z,(l.any λ x => zdj s x)=z:=⟨_,rfl⟩;rw [hz];have Hz:=hii hz;clear hz;go_enter func134,ntmps134;go_upto_region 1 with fail;obtain ⟨w1,g3,hw9,hg9,hb,r3⟩:=bxr w [.int .u16 (s:Nat)] 52;rw [<- hw9,<- hg9];have Hg3:Hid (w.heap.size<=g3):=hii (by have:=hbw.size; omega);clear hw9 hg9;have ua:=ua.mono hb;have hbw:=bu hbw hb;clear hb;have eg:∀ args w,(callFunc 168 args).run Tryz.prog w=.ok (.enter 168 args) w:=enters_of func168 (by kernel_rfl) rfl;have HC:=hii (zcM 168 #[.pointer (some ⟨g3,0,none⟩)] (λ x => zdj s x) eg l aa ca w1 hl ua (λ x W hx hb => zge s x g3 hs (h16.out x hx) W ((r3.below hb).cell (k:=0) (by simp))));rw [Hz.out] at HC;clear eg;have c0:=r3.cell (k:=0) (by simp);go_wp2_with fail;(with_reducible refine HC.out.mono ?_);rintro e w2 ⟨rfl,hb⟩;have hbw:=bu hbw hb;clear hb;go_wp2;go_ret;exact ⟨rfl,hbw⟩
theorem zcW (l:List Nat) (aa:Option Addr) (ca:Nat) (w:World) (hl:l.length<=9223372036854775807) (ua:zaM w aa l) (h16:Hid (zaJ l)) :
  Calls Tryz.prog 37 #[.slice aa l.length ca] w λ e w' => e=.returned (.int .u16 (zdJ l:Nat))/\BH w w':=by
 have hbw:=Below.refl w.heap.size w;go_enter func37,ntmps37;go_wp2_with fail;go_loopw [3,8] (λ u s wr => ∃ k:Nat,k<=l.length/\s=.int .i64 k/\u=.int .u16 (zdJ (l.take k):Nat)/\wr=w) (λ _ s _ => l.length - (intOf s).toNat)
 case atStart => exact ⟨0,Nat.zero_le _,rfl,rfl,by trivial⟩
 case round =>
  obtain ⟨k,hk,rfl,rfl,rfl⟩:=hrel
  by_cases hlt:k < l.length
  ·obtain ⟨x,hx⟩:∃ x,l[k]?=some x:=⟨l[k],gE hlt⟩;obtain ⟨b1,off1,ea,hc⟩:=ua k x hx;have e1:=zn1 (zdJ (l.take k)) x (zfJ λ y hy => h16.out y (List.mem_of_mem_take hy)) (h16.out x (List.mem_of_getElem? hx));rw [<- zhY hx] at e1;obtain ⟨u,hu⟩:∃ u,zdJ (l.take k)=u:=⟨_,rfl⟩;obtain ⟨u',hu'⟩:∃ u,zdJ (l.take (k + 1))=u:=⟨_,rfl⟩;rw [hu,hu'] at e1;rw [hu];have HU:=hii hu';clear hx ua hu hu';subst ea;go_wp2;go_roundw
   case rel => exact ⟨k + 1,by omega,by go_num,by rw [HU.out],by trivial⟩
   case measure => simp [intOf]; omega
  ·obtain rfl:k=l.length:=by omega
   rw [List.take_length];go_wp2;go_ret;exact ⟨rfl,hbw⟩
theorem zf5 (l:List Nat) (aa:Option Addr) (ca:Nat) (w:World) (hl:l.length<=9223372036854775807) (hca:l.length<=ca) (ua:zaM w aa l) (h16:Hid (zaJ l)) :
  Calls Tryz.prog 84 #[.slice aa l.length ca] w λ e w' => e=.returned (.int .i64 (zgY l:Nat))/\BH w w':=by
 have hbw:=Below.refl w.heap.size w;obtain ⟨E,hE⟩:∃ E,zgY l=E:=⟨_,rfl⟩;rw [hE];have HE:=hii hE;clear hE;go_enter func84,ntmps84
 by_cases h4:400 < l.length
 ·have HE1:Hid (E=3):=hii (by rw [<- HE.out]; unfold zgY; rw [if_pos h4]);have h4':decide ((400:Int) < (l.length:Int))=true:=decide_eq_true (by omega);clear ua HE;go_wp2;go_ret;exact ⟨by rw [HE1.out]; rfl,hbw⟩
 have h4':decide ((400:Int) < (l.length:Int))=false:=decide_eq_false (by omega);have HE:Hid (E=if zbS none l ≠ 0 then zbS none l else zc1 [] l):=hii (by rw [<- HE.out]; unfold zgY; rw [if_neg h4]);have HL:=hii h4;clear h4;go_wp2_with fail;go_loopw [12] (λ s wr => ∃ k:Nat,k<=l.length/\s=.int .i64 k/\Hid (zbS none l=zbS (zlo l k) (l.drop k))/\BH w wr) (λ s _ => l.length - (intOf s).toNat)
 case atStart => exact ⟨0,Nat.zero_le _,rfl,hii rfl,hbw⟩
 case round =>
  clear hbw;obtain ⟨k,hk,rfl,HN,hbw⟩:=hrel
  by_cases hlt:k < l.length
  ·obtain ⟨x,hx⟩:∃ x,l[k]?=some x:=⟨l[k],gE hlt⟩;obtain ⟨b1,off1,ea,hc⟩:=(ua.mono hbw) k x hx;have hx16:=h16.out x (List.mem_of_getElem? hx);have h7:=znJ x hx16;have HN:Hid (zbS none l=if 4096<=x then 7 else if (match zlo l k with | none => false | some q => !bef q x) then 1 else zbS (some x) (l.drop (k + 1))):=hii (by rw [HN.out,zdd hx]; rfl);have Hp:Hid (zlo l (k + 1)=some x):=hii (by unfold zlo; rw [if_neg (by omega)]; exact hx)
   by_cases hx4:4096<=x
   ·have h7:(bits .and .u16 (x:Int) 61440 != 0)=true:=by rw [h7]; exact decide_eq_true hx4
    have HE1:Hid (E=7):=hii (by rw [HE.out,HN.out,if_pos hx4]; rfl);clear HE HN hx ua Hp;subst ea;go_wp2;go_ret;exact ⟨by rw [HE1.out]; rfl,hbw⟩
   ·have h7:(bits .and .u16 (x:Int) 61440 != 0)=false:=by rw [h7]; exact decide_eq_false hx4
    by_cases hk0:k=0
    ·subst hk0;have HN1:Hid (zbS none l=zbS (zlo l (0 + 1)) (l.drop (0 + 1))):=hii (by rw [HN.out,if_neg hx4,Hp.out]; rfl);clear HN Hp hx ua;subst ea;rw [Nat.add_zero] at hc;have hk0:decide ((0:Int) < ((0:Nat):Int))=false:=rfl;go_wp2;go_roundw
     case rel => exact ⟨0 + 1,by omega,by go_num,HN1,hbw⟩
     case measure => simp [intOf]; omega
    ·obtain ⟨q,hq⟩:∃ q,l[k - 1]?=some q:=⟨l[k - 1]'(by omega),gE _⟩;obtain ⟨b2,off2,ea2,hc2⟩:=(ua.mono hbw) (k - 1) q hq;have hq16:=h16.out q (List.mem_of_getElem? hq);have HN:Hid (zbS none l=if (!bef q x)=true then 1 else zbS (some x) (l.drop (k + 1))):=hii (by
      rw [HN.out,if_neg hx4];unfold zlo;rw [if_neg hk0,hq])
     have hK:=zem q x hq16 hx16 wr;have hB:=zkl q x;obtain ⟨z,hz⟩:∃ z,zmk q x=z:=⟨_,rfl⟩;rw [hz] at hK hB;have HK:=hii hK;subst ea
     cases ea2
     have hkp:decide ((0:Int) < (k:Int))=true:=decide_eq_true (by omega);have hk1:(k:Int) - 1=((k - 1:Nat):Int):=by omega
     clear hx hq ua hK hz
     cases hbf:bef q x with
     | true =>
      rw [hbf] at hB;have hz0:decide (0<=z)=false:=hB;have HN1:Hid (zbS none l=zbS (zlo l (k + 1)) (l.drop (k + 1))):=hii (by rw [HN.out,hbf,Hp.out]; rfl);clear HN Hp hbf hB;go_wp2_with fail;(with_reducible refine HK.out.mono ?_);rintro e w2 ⟨rfl,hb⟩;have hbw:=bu hbw hb;clear hb HK hc hc2;go_wp2;go_roundw
      case rel => exact ⟨k + 1,by omega,by go_num,HN1,hbw⟩
      case measure => simp [intOf]; omega
     | false =>
      rw [hbf] at hB;have hz0:decide (0<=z)=true:=hB;have HE1:Hid (E=1):=hii (by rw [HE.out,HN.out,hbf]; rfl);clear HN Hp hbf hB HE;go_wp2_with fail;(with_reducible refine HK.out.mono ?_);rintro e w2 ⟨rfl,hb⟩;have hbw:=bu hbw hb;clear hb HK hc hc2;go_wp2;go_ret;exact ⟨by rw [HE1.out]; rfl,hbw⟩
  ·obtain rfl:k=l.length:=by omega
   have HE:Hid (E=zc1 [] l):=hii (by rw [HE.out,if_neg]; rw [HN.out,List.drop_length]; simp [zbS]);have hbw0:=hbw;clear HN hbw;go_wp2_with fail;go_loopw [37] (λ s wr => ∃ k:Nat,k<=l.length/\s=.int .i64 k/\Hid (zc1 [] l=zc1 (l.take k) (l.drop k))/\BH w wr) (λ s _ => l.length - (intOf s).toNat)
   case atStart => exact ⟨0,Nat.zero_le _,rfl,hii rfl,hbw0⟩
   case round =>
    clear hbw0;obtain ⟨k,hk,rfl,HN,hbw⟩:=hrel
    by_cases hlt:k < l.length
    ·obtain ⟨x,hx⟩:∃ x,l[k]?=some x:=⟨l[k],gE hlt⟩;obtain ⟨b1,off1,ea,hc⟩:=(ua.mono hbw) k x hx;have hx16:=h16.out x (List.mem_of_getElem? hx);have HN:Hid (zc1 [] l=if (l.take k).any (λ y => zdj x y) then 1 else zc1 (l.take (k + 1)) (l.drop (k + 1))):=hii (by rw [HN.out,zdd hx,zaH hx]; rfl);have hA:=zhR (l.take k) x aa ca wr (by simp; omega) ((ua.mono hbw).take k) (hii λ y hy => h16.out y (List.mem_of_mem_take hy)) hx16;rw [List.length_take,Nat.min_eq_left hk] at hA;obtain ⟨z,hz⟩:∃ z,((l.take k).any λ y => zdj x y)=z:=⟨_,rfl⟩;rw [hz] at hA HN;have HA:=hii hA;have hkc:(k:Int)<=(ca:Int):=by omega
     subst ea;clear hx ua hA hz
     cases z with
     | true =>
      have HE1:Hid (E=1):=hii (by rw [HE.out,HN.out]; rfl);clear HN HE;go_wp2_with fail;(with_reducible refine HA.out.mono ?_);rintro e w2 ⟨rfl,hb⟩;have hbw:=bu hbw hb;clear hb HA hc;go_wp2;go_ret;exact ⟨by rw [HE1.out]; rfl,hbw⟩
     | false =>
      have HN1:Hid (zc1 [] l=zc1 (l.take (k + 1)) (l.drop (k + 1))):=hii (by rw [HN.out]; rfl);clear HN;go_wp2_with fail;(with_reducible refine HA.out.mono ?_);rintro e w2 ⟨rfl,hb⟩;have hbw:=bu hbw hb;clear hb HA hc;go_wp2;go_roundw
      case rel => exact ⟨k + 1,by omega,by go_num,HN1,hbw⟩
      case measure => simp [intOf]; omega
    ·obtain rfl:k=l.length:=by omega
     have HE1:Hid (E=0):=hii (by rw [HE.out,HN.out,List.drop_length]; rfl);clear HN HE;go_wp2;go_ret;exact ⟨by rw [HE1.out]; rfl,hbw⟩
theorem zbE (a:Nat):bef a a=false:=by simp [bef]
theorem zfw {a b c:Nat} (h1:bef a b=true) (h2:bef b c=true):bef a c=true:=by
 unfold bef at *;simp only [Bool.or_eq_true,decide_eq_true_eq,Bool.and_eq_true] at *;omega
theorem zlQ (a b:Nat):bef a b=true\/a=b\/bef b a=true:=by
 unfold bef;simp only [Bool.or_eq_true,decide_eq_true_eq,Bool.and_eq_true];omega
theorem zcZ {α:Type} {p q:α->Bool}:∀ (l:List α),(∀ x∈l,p x=true->q x=true)->l.countP p<=l.countP q
 | [],_ => nl
 | y :: l,h => by
  have ih:=zcZ l λ x hx => h x (by simp [hx])
  have hy:=h y (by simp);rw [List.countP_cons,List.countP_cons]
  cases hp:p y
  ·simp; omega
  ·simp [hy hp,ih]
theorem zcY {α:Type} {p q:α->Bool}:∀ (l:List α),(∀ x∈l,p x=true->q x=true)->(∃ x∈l,p x=false/\q x=true)->l.countP p < l.countP q
 | [],_,h => by obtain ⟨x,hx,_⟩:=h; simp at hx
 | y :: l,h,he => by
  have hl:∀ x∈l,p x=true->q x=true:=λ x hx => h x (by simp [hx])
  obtain ⟨x,hx,hp,hq⟩:=he;rw [List.countP_cons,List.countP_cons];rcases List.mem_cons.1 hx with rfl | hx
  ·have:=zcZ l hl;simp [hp,hq]; omega
  ·have ih:=zcY l hl ⟨x,hx,hp,hq⟩;have hy:=h y (by simp)
   cases hp:p y
   ·simp; omega
   ·simp [hy hp,ih]
theorem zgt {a b:Nat} (h:zdj a b=true) (i:Nat) (hi:b.testBit i=true):a.testBit i=true:=by
 unfold zdj at h;rw [decide_eq_true_eq] at h;rw [<- h,Nat.testBit_and] at hi;simp at hi;exact hi.1
theorem zk8 {a b:Nat} (ha:a < 65536) (h:zdj a b=true) (hne:b ≠ a):bef b a=true:=by
 have hex:∃ i,i < 16/\b.testBit i=false/\a.testBit i=true:=by
  refine Classical.byContradiction λ hno => hne (Nat.eq_of_testBit_eq λ i => ?_)
  cases hb:b.testBit i with
  | true => rw [zgt h i hb]
  | false =>
   cases hq:a.testBit i with
   | false => rfl
   | true =>
    refine absurd ⟨i,?_,hb,hq⟩ hno;refine Nat.lt_of_not_le λ hge => ?_
    rw [zi0 ha (by omega)] at hq
    cases hq
 obtain ⟨i,hi,hb,hq⟩:=hex;have hlt:cnt b < cnt a:=by
  unfold cnt;exact zcY _ (λ x _ hx => zgt h x hx) ⟨i,List.mem_range.2 hi,hb,hq⟩
 unfold bef;simp [hlt]
def zdv:List Nat->Nat->List Nat
 | [],x => [x]
 | y :: l,x => if bef y x then y :: zdv l x else if y=x then y :: l else x :: y :: l
def zaV (l:List Nat):List Nat:=l.foldl zdv []
theorem zkR:∀ (out:List Nat) (x k:Nat),(∀ y∈out.take k,bef y x=true)->k<=out.length->(∀ y,out[k]?=some y->bef y x=false) ->
  zdv out x=if out[k]?=some x then out else out.take k ++ x :: out.drop k
 | [],x,k,_,hk,_ => by
  obtain rfl:k=0:=by simpa using hk
  simp [zdv]
 | y :: out,x,0,_,_,h => by
  have:=h y rfl;simp [zdv,this]
 | y :: out,x,k + 1,h1,hk,h2 => by
  have hy:=h1 y (by simp);have ih:=zkR out x k (λ z hz => h1 z (by simp [hz])) (by simpa using hk) (λ z hz => h2 z (by simpa using hz));simp [zdv,hy,ih]
  split <;> simp_all
theorem zf3:∀ {l:List Nat} {x z:Nat},z∈zdv l x↔z=x\/z∈l
 | [],x,z => by simp [zdv]
 | y :: l,x,z => by
  simp only [zdv]
  split
  ·simp only [List.mem_cons,zf3]
   constructor
   ·rintro (h | h | h) <;> simp [h]
   ·rintro (h | h | h) <;> simp [h]
  ·split
   ·next h => subst h; simp
   ·simp
theorem zgR:∀ {l:List Nat} {x:Nat},l.Pairwise (λ a b => bef a b=true)->(zdv l x).Pairwise (λ a b => bef a b=true)
 | [],x,_ => by simp [zdv]
 | y :: l,x,h => by
  obtain ⟨h1,h2⟩:=List.pairwise_cons.1 h;simp only [zdv]
  split
  ·next hy =>
   refine List.pairwise_cons.2 ⟨λ z hz => ?_,zgR h2⟩;rcases zf3.1 hz with rfl | hz
   ·exact hy
   ·exact h1 z hz
  ·next hy =>
   split
   ·exact h
   ·next hne =>
    have hxy:bef x y=true:=by
     rcases zlQ y x with h | h | h
     ·exact absurd h hy
     ·exact absurd h hne
     ·exact h
    refine List.pairwise_cons.2 ⟨λ z hz => ?_,h⟩;rcases List.mem_cons.1 hz with rfl | hz
    ·exact hxy
    ·exact zfw hxy (h1 z hz)
theorem ziA:∀ (l:List Nat) (x:Nat),(zdv l x).length<=l.length + 1
 | [],x => by simp [zdv]
 | y :: l,x => by
  have:=ziA l x;simp only [zdv]
  split
  ·simp; omega
  ·split <;> simp
theorem zh3 (l:List Nat) (x:Nat):zaV (l ++ [x])=zdv (zaV l) x:=by unfold zaV; rw [List.foldl_append]; rfl
theorem zh2 {l:List Nat} {k x:Nat} (h:l[k]?=some x):zaV (l.take (k + 1))=zdv (zaV (l.take k)) x:=by
 rw [List.take_add_one,h]; exact zh3 _ _
theorem zdc:∀ (l out:List Nat),out.Pairwise (λ a b => bef a b=true)->(l.foldl zdv out).Pairwise (λ a b => bef a b=true)/\(∀ z,z∈l.foldl zdv out↔z∈out\/z∈l)/\(l.foldl zdv out).length<=out.length + l.length
 | [],out,h => ⟨h,λ z => by simp,nl⟩
 | x :: l,out,h => by
  obtain ⟨h1,h2,h3⟩:=zdc l (zdv out x) (zgR h);refine ⟨h1,λ z => ?_,?_⟩
  ·rw [List.foldl_cons,h2,zf3,List.mem_cons]
   constructor
   ·rintro ((h | h) | h) <;> simp [h]
   ·rintro (h | h | h) <;> simp [h]
  ·have:=ziA out x;rw [List.foldl_cons];simp only [List.length_cons] at h3 |-;omega
theorem zeX (l:List Nat):(zaV l).Pairwise (λ a b => bef a b=true):=(zdc l [] List.Pairwise.nil).1
theorem zcw {l:List Nat} {z:Nat}:z∈zaV l↔z∈l:=by have:=(zdc l [] List.Pairwise.nil).2.1 z; simpa [zaV] using this
theorem zeh (l:List Nat):(zaV l).length<=l.length:=by have:=(zdc l [] List.Pairwise.nil).2.2; simpa [zaV] using this
def zeB (s:List Nat) (i:Nat):Bool:=(List.range s.length).all λ k => decide (i=k) || !zdj (s.getD i 0) (s.getD k 0)
def zaW (s:List Nat) (n:Nat):List Nat:=(List.range n).flatMap λ i => if zeB s i then [s.getD i 0] else []
def zch (l:List Nat):List Nat:=zaW (zaV l) (zaV l).length
theorem zb2 (s:List Nat) (n:Nat):zaW s (n + 1)=zaW s n ++ (if zeB s n then [s.getD n 0] else []):=by
 unfold zaW;rw [List.range_succ,List.flatMap_append];simp
theorem zcn (s:List Nat):∀ n,(zaW s n).length<=n
 | 0 => by simp [zaW]
 | n + 1 => by
  have:=zcn s n;rw [zb2,List.length_append]
  split <;> simp <;> omega
theorem zbN {s:List Nat} {n x:Nat} (h:x∈zaW s n):∃ i,i < n/\zeB s i=true/\x=s.getD i 0:=by
 unfold zaW at h;obtain ⟨i,hi,hx⟩:=List.mem_flatMap.1 h
 split at hx
 ·next hl => simp at hx; exact ⟨i,List.mem_range.1 hi,hl,hx⟩
 ·simp at hx
theorem zdb {l:List Nat} {i:Nat} (h:i < l.length):l.getD i 0=l[i]:=by
 rw [List.getD_eq_getElem?_getD,gE h]; rfl
theorem zgL {s:List Nat} (hs:s.Pairwise (λ a b => bef a b=true)) {i k:Nat} (hik:i < k) (hk:k < s.length):bef (s.getD i 0) (s.getD k 0)=true:=by
 rw [zdb hk,zdb (by omega)];exact List.pairwise_iff_getElem.1 hs i k (by omega) hk hik
theorem zcX {s:List Nat} (hs:s.Pairwise (λ a b => bef a b=true)):∀ n,n<=s.length->(zaW s n).Pairwise (λ a b => bef a b=true)
 | 0,_ => by simp [zaW]
 | n + 1,hn => by
  rw [zb2];refine List.pairwise_append.2 ⟨zcX hs n (by omega),by split <;> simp,λ a ha b hb => ?_⟩
  split at hb
  ·simp at hb;subst hb;obtain ⟨i,hi,_,rfl⟩:=zbN ha;exact zgL hs hi (by omega)
  ·simp at hb
theorem zix {s:List Nat} {i k:Nat} (h:zeB s i=true) (hk:k < s.length) (hik:i ≠ k):zdj (s.getD i 0) (s.getD k 0)=false:=by
 unfold zeB at h;rw [List.all_eq_true] at h;have:=h k (List.mem_range.2 hk);simp [hik] at this;exact this
structure znu (l:List Nat):Prop where
 pair:l.Pairwise (λ a b => bef a b=true)
 anti:∀ x∈l,∀ y∈l,x ≠ y->zdj x y=false
theorem zhB (l:List Nat):znu (zch l):=by
 have hs:=zeX l;refine ⟨zcX hs _ nl,λ x hx y hy hne => ?_⟩;obtain ⟨i,hi,hl,rfl⟩:=zbN hx;obtain ⟨k,hk,_,rfl⟩:=zbN hy;exact zix hl hk λ e => hne (by rw [e])
theorem zd0 {l:List Nat} {x:Nat} (h:x∈zch l):x∈l:=by
 obtain ⟨i,hi,_,rfl⟩:=zbN h;rw [zdb hi];exact zcw.1 (List.getElem_mem hi)
theorem zhA (l:List Nat):(zch l).length<=l.length:=Nat.le_trans (zcn _ _) (zeh l)
theorem ziy {l:List Nat} (h16:∀ x∈l,x < 65536) (h:l ≠ []):zch l ≠ []:=by
 obtain ⟨x,l',rfl⟩:=List.exists_cons_of_ne_nil h;have hs:=zeX (x :: l');have hx:x∈zaV (x :: l'):=zcw.2 (by simp);have hn:0 < (zaV (x :: l')).length:=List.length_pos_of_mem hx;have h0:zeB (zaV (x :: l')) 0=true:=by
  unfold zeB;rw [List.all_eq_true];intro k hk;have hk:=List.mem_range.1 hk
  by_cases hk0:0=k
  ·simp [hk0]
  ·have hb:=zgL hs (show 0 < k by omega) hk;have h6:(zaV (x :: l')).getD 0 0 < 65536:=by
    rw [zdb hn]; exact h16 _ (zcw.1 (List.getElem_mem hn))
   have:zdj ((zaV (x :: l')).getD 0 0) ((zaV (x :: l')).getD k 0)=false:=by
    refine Bool.eq_false_iff.2 λ hsub => ?_
    have hne:(zaV (x :: l')).getD k 0 ≠ (zaV (x :: l')).getD 0 0:=λ e => by rw [e,zbE] at hb; cases hb
    have h2:=zk8 h6 hsub hne;have:=zfw hb h2;rw [zbE] at this
    cases this
   show (decide (0=k) || !zdj ((zaV (x :: l')).getD 0 0) ((zaV (x :: l')).getD k 0))=true
   rw [this,Bool.not_false,Bool.or_true]
 intro e;have:(zaV (x :: l')).getD 0 0∈zch (x :: l'):=by
  unfold zch zaW;exact List.mem_flatMap.2 ⟨0,List.mem_range.2 hn,by rw [h0]; simp⟩
 rw [e] at this;simp at this
theorem zgX:∀ (l:List Nat) (p:Option Nat),(∀ x∈l,x < 4096)->l.Pairwise (λ a b => bef a b=true)->(∀ q,p=some q->∀ x∈l,bef q x=true)->zbS p l=0
 | [],_,_,_,_ => rfl
 | s :: l,p,h1,h2,h3 => by
  have hs:=h1 s (by simp);obtain ⟨h4,h5⟩:=List.pairwise_cons.1 h2;have ih:=zgX l (some s) (λ x hx => h1 x (by simp [hx])) h5 λ q hq x hx => by cases hq; exact h4 x hx
  unfold zbS;rw [if_neg (by omega)]
  cases p with
  | none => simp [ih]
  | some q => simp [h3 q rfl s (by simp),ih]
theorem zgW:∀ (l e:List Nat),(∀ x∈e ++ l,∀ y∈e ++ l,x ≠ y->zdj x y=false)->(e ++ l).Pairwise (λ a b => bef a b=true)->zc1 e l=0
 | [],_,_,_ => rfl
 | s :: l,e,h1,h2 => by
  have h2':=h2;rw [show e ++ s :: l=e ++ [s] ++ l by simp] at h1 h2;have ih:=zgW l (e ++ [s]) h1 h2;unfold zc1;rw [if_neg,ih];rw [Bool.not_eq_true,List.any_eq_false];intro x hx;rw [Bool.not_eq_true];refine h1 s (by simp) x (by simp [hx]) λ e0 => ?_
  subst e0;have:=(List.pairwise_append.1 h2').2.2 s hx s (by simp);rw [zbE] at this
  cases this
theorem znu.err {l:List Nat} (h:znu l) (hl:l.length<=400) (h4:∀ x∈l,x < 4096):zgY l=0:=by
 unfold zgY;rw [if_neg (by omega),zgX l none h4 h.pair (λ q hq => by cases hq),if_neg (by simp)];exact zgW l [] (by simpa using h.anti) (by simpa using h.pair)
structure zfG (l:List Nat) (n:Nat):Prop where
 fam:znu l
 len:1<=l.length/\l.length<=400
 ne:∀ x∈l,x ≠ 0
 low:∀ x∈l,x < 2 ^ n
theorem zfG.err {l:List Nat} {n:Nat} (h:zfG l n) (hn:n<=12):zgY l=0 :=
 h.fam.err h.len.2 λ x hx => Nat.lt_of_lt_of_le (h.low x hx) (show 2 ^ n<=2 ^ 12 from Nat.pow_le_pow_right (by decide) hn)
theorem zfG.s16 {l:List Nat} {n:Nat} (h:zfG l n) (hn:n<=12):zaJ l:=λ x hx => Nat.lt_of_lt_of_le (h.low x hx) (Nat.le_trans (Nat.pow_le_pow_right (by decide) hn) (by decide))
theorem zfG.uni {l:List Nat} {n:Nat} (h:zfG l n):zdJ l < 2 ^ n:=by
 have key:∀ (l:List Nat) (a:Nat),a < 2 ^ n->(∀ x∈l,x < 2 ^ n)->l.foldl (· ||| ·) a < 2 ^ n:=by
  intro l
  induction l with
  | nil => intro a ha _; exact ha
  | cons x l ih => intro a ha hx; exact ih _ (Nat.or_lt_two_pow ha (hx x (by simp))) λ y hy => hx y (by simp [hy])
 exact key l 0 (Nat.two_pow_pos n) h.low
theorem zi1 {x n:Nat} (h0:x ≠ 0) (h:x < 2 ^ n):∃ i,i < n/\x.testBit i=true:=by
 refine Classical.byContradiction λ hno => h0 (Nat.eq_of_testBit_eq λ i => ?_)
 rw [Nat.zero_testBit]
 by_cases hi:i < n
 ·cases hb:x.testBit i with
  | false => rfl
  | true => exact absurd ⟨i,hi,hb⟩ hno
 ·exact Nat.testBit_lt_two_pow (Nat.lt_of_lt_of_le h (Nat.pow_le_pow_right (by decide) (by omega)))
theorem zbJ {R S:List Nat} {q:Nat × Nat} (h:q∈prs R S):q.1∈R/\q.2∈S:=by
 unfold prs at h;obtain ⟨r,hr,h⟩:=List.mem_flatMap.1 h;obtain ⟨s,hs,rfl⟩:=List.mem_map.1 h;exact ⟨hr,hs⟩
theorem zbK (R S:List Nat):(prs R S).length=R.length * S.length:=by
 unfold prs
 induction R with
 | nil => simp
 | cons r R ih => rw [List.flatMap_cons,List.length_append,ih,List.length_map,List.length_cons,Nat.add_mul]; omega
structure WkM (R S:List Nat) (f:Rat) (cap:List Rat) (m:Nat):Prop where
 hm:1<=m/\m<=5
 fR:zfG R m
 fS:zfG S m
 n9:R.length * S.length<=9
 lc:cap.length=m
 f0:0<=f
 f1:f<=1
 wf:Sx.Wh (f * ((12:Nat):Rat)) 12
 wc:∀ c∈cap,Sx.Wh (c * ((12:Nat):Rat)) 96
 pc:∀ c∈cap,0 < c
theorem WkM.wk {R S:List Nat} {f:Rat} {cap:List Rat} {m:Nat} (W:WkM R S f cap m):Wk (prs R S) f cap m (R.length * S.length) 12 96:=by
 have hm:=W.hm;refine ⟨W.lc,zbK R S,λ q hq => ⟨zi1 (W.fR.ne _ (zbJ hq).1) (W.fR.low _ (zbJ hq).1),zi1 (W.fS.ne _ (zbJ hq).2) (W.fS.low _ (zbJ hq).2)⟩,W.f0,W.f1,W.wf.mono (by decide),W.wc,W.pc,by decide,by decide,⟨hm.1,by omega⟩,⟨?_,by have:=W.n9; omega⟩,?_⟩
 ·have:=Nat.mul_le_mul W.fR.len.1 W.fS.len.1;omega
 ·obtain rfl | rfl | rfl | rfl | rfl:m=1\/m=2\/m=3\/m=4\/m=5:=by omega
  all_goals decide
end Go.Proofs.YtfgffkmddanjjaaGreatDoor
