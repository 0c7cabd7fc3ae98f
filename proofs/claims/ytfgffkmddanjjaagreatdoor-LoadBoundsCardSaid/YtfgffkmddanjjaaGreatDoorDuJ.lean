/-
  The error of a program in the reference.
-/
import Derived.Test.YtfgffkmddanjjaaGreatDoorD1
import Derived.Test.YtfgffkmddanjjaaGreatDoorOQ
import Derived.Lib.SliceRun
set_option linter.unusedVariables false
set_option linter.unusedSimpArgs false
set_option maxRecDepth 100000
set_option maxHeartbeats 25600000
namespace Go.Proofs.YtfgffkmddanjjaaGreatDoor
open _root_.Go.Proofs.Tryz
open Go.RowKit
theorem err_arity {p:Prg} (h:p.B.length < 1\/14 < p.B.length\/p.C.length < 1\/400 < p.C.length\/p.A.length ≠ p.B.length):p.err=6:=by
 unfold Prg.err; rw [if_pos h]
theorem err_row {p:Prg} {r:List Qo} (hr:r∈p.A) (h:r.length ≠ p.C.length):p.err=6:=by
 unfold Prg.err
 split
 ·rfl
 ·have:p.A.any (λ r => r.length != p.C.length)=true:=by rw [List.any_eq_true]; exact ⟨r,hr,by simpa using h⟩
  rw [if_pos this]
theorem err_rest {p:Prg} (h:¬ (p.B.length < 1\/14 < p.B.length\/p.C.length < 1\/400 < p.C.length\/p.A.length ≠ p.B.length)) (hr:∀ r∈p.A,r.length=p.C.length) :
  p.err=if numErr p.all ≠ 0 then numErr p.all else if negQ p.B then 7 else 0:=by
 unfold Prg.err;have:p.A.any (λ r => r.length != p.C.length)=false:=by rw [List.any_eq_false]; intro r h'; simp [hr r h']
 rw [if_neg h,this]; rfl
theorem numErr_zero {l:List Qo} (h:numErr l=0):∀ x∈l,x.isNone=false:=by
 unfold numErr at h;intro x hx
 split at h
 ·cases h
 ·next hb =>
  have:badQ l=false:=by simpa using hb
  unfold badQ at this;rw [List.any_eq_false] at this;have:=this x hx
  cases x with
  | none => simp at this
  | some r => rfl
def RowsOf (w:World) (xs:List Value) (rows:List (List Qo)):Prop :=
 xs.length=rows.length/\∀ (i:Nat) (row:List Qo),rows[i]?=some row->∃ ar cr,xs[i]?=some (.slice ar row.length cr)/\UQ w ar row
theorem RowsOf.mono {w w':World} {xs:List Value} {rows:List (List Qo)} (h:RowsOf w xs rows) (hb:BH w w'):RowsOf w' xs rows :=
 ⟨h.1,λ i row hi => by obtain ⟨ar,cr,e,hq⟩:=h.2 i row hi; exact ⟨ar,cr,e,hq.mono hb⟩⟩
theorem RowsOf.two {w:World} {xs:List Value} {rows:List (List Qo)} {a b:List Qo} {aa ab:Option Addr} {ca cb:Nat} (h:RowsOf w xs rows) (ha:UQ w aa a) (hb:UQ w ab b) :
  RowsOf w (xs ++ [.slice aa a.length ca,.slice ab b.length cb]) (rows ++ [a,b]):=by
 refine ⟨by simp [h.1],λ i row hi => ?_⟩;rcases Nat.lt_or_ge i rows.length with hl | hl
 ·rw [List.getElem?_append_left hl] at hi;obtain ⟨ar,cr,e,hq⟩:=h.2 i row hi;exact ⟨ar,cr,by rw [List.getElem?_append_left (by rw [h.1]; exact hl)]; exact e,hq⟩
 ·rw [List.getElem?_append_right hl] at hi;have hx:=h.1
  match hj:i - rows.length,hi with
  | 0,hi =>
   simp at hi; subst hi;exact ⟨aa,ca,by rw [List.getElem?_append_right (by omega),show i - xs.length=0 by omega]; rfl,ha⟩
  | 1,hi =>
   simp at hi; subst hi;exact ⟨ab,cb,by rw [List.getElem?_append_right (by omega),show i - xs.length=1 by omega]; rfl,hb⟩
  | j + 2,hi => simp at hi
theorem UM.rows {w:World} {ao:Option Addr} {rows:List (List Qo)} (h:UM w ao rows) (hne:0 < rows.length) :
  ∃ b off xs,ao=some ⟨b,off,none⟩/\RowsOf w xs rows/\(∀ j u,xs[j]?=some u->w.cell? ⟨b,off + j,none⟩=some u)/\∀ u∈xs,u.oneCell'=true:=by
 obtain ⟨b,off,_,_,ea,_,_⟩:=h 0 rows[0] (gE hne);subst ea;refine ⟨b,off,rows.mapIdx λ i _ => (w.cell? ⟨b,off + i,none⟩).getD undef,rfl,⟨by simp,?_⟩,?_,?_⟩
 ·intro i row hi;obtain ⟨b',off',ar,cr,e,hc,hq⟩:=h i row hi
  cases e
  exact ⟨ar,cr,by simp [hi,hc],hq⟩
 ·intro j u hj;rw [List.getElem?_mapIdx] at hj
  cases hr:rows[j]? with
  | none => rw [hr] at hj; simp at hj
  | some row =>
   obtain ⟨b',off',ar,cr,e,hc,hq⟩:=h j row hr
   cases e
   rw [hr] at hj;simp [hc] at hj;subst hj; exact hc
 ·intro u hu;obtain ⟨j,hj,e⟩:=List.getElem_of_mem hu;have hr:rows[j]?=some (rows[j]'(by simpa using hj)):=gE _;obtain ⟨b',off',ar,cr,e',hc,hq⟩:=h j _ hr
  cases e'
  simp [hc] at e;subst e; rfl
theorem OwnS.um {w:World} {B:Nat} {v:Value} {xs:List Value} {rows:List (List Qo)} (h:OwnS w B v xs) (hr:RowsOf w xs rows):∃ ao cap,v=.slice ao rows.length cap/\UM w ao rows:=by
 have hx:=hr.1;rcases h.2 with ⟨rfl,hn⟩ | ⟨g,cap,cur,rfl,hB,hg,hnc,hcm,hcs,htake⟩
 ·have h0:rows.length=0:=by omega
  have:rows=[]:=List.eq_nil_of_length_eq_zero h0;subst this;exact ⟨none,0,rfl,UM.nil _ _⟩
 ·refine ⟨some ⟨g,0,none⟩,cap,by rw [hx],?_⟩;intro i row hi;obtain ⟨ar,cr,e,hq⟩:=hr.2 i row hi;refine ⟨g,0,ar,cr,rfl,?_,hq⟩;have:=h.cells (g:=g) rfl i _ e;have ha:(⟨g,0,none⟩:Addr).add i=⟨g,0 + i,none⟩:=by
   unfold Addr.add; split
   ·subst i; rfl
   ·rfl
  rw [ha] at this; exact this
theorem sclone_any (xs:List Value) (b off c:Nat) (w:World) (hl:xs.length<=100000) (hb:b < w.heap.size) (hy:∀ j u,xs[j]?=some u->w.cell? ⟨b,off + j,none⟩=some u) (h1:∀ u∈xs,u.oneCell'=true) :
  Calls Tryz.prog 150 #[.slice (some ⟨b,off,none⟩) xs.length c] w λ e w' => (∃ v,e=.returned v/\OwnS w' w.heap.size v xs)/\BH w w':=by
 obtain ⟨i0,hi,hz0,hz1,hz2⟩:=info_parts Tryz.info33;have q22:∀ (w:World) (a:Option Addr) (n c n' c':Nat),(binOp .eql 103 (.slice a n c) (.slice none n' c')).run Tryz.prog w=.ok (.bool a.isNone) w:=λ w a n c n' c' => Lib.run_eql_slice_nil w _ _ a n c n' c' Tryz.underlying103
 have Hy:=hii hy;have H1:=hii h1;clear hy h1;go_enter func150,ntmps150;go_wp2_with (at_builtin; refine wpList_append_own _ rfl _ _ 103 rfl w.heap.size 33 i0 (.slice none 0 0) 1 24 Tryz.underlying103 hi hz0 hz1 hz2 rfl (by decide) _ _ _ rfl (World.ownsRow_made w #[] 0 nl (Nat.zero_le _) (by simp)) ⟨b,off,none⟩ xs.length c xs rfl ?qc1 ?qc2 ?qc3 ?qc4 ?qc5 ?qc6 ?_)
 case qc1 => omega
 case qc2 =>
  intro j u hj;rw [Addr.add_lit];exact Lib.cell?_alloc_some _ (Hy.out j u hj)
 case qc3 => exact H1.out
 case qc4 => rw [Nat.zero_add]; unfold maxLen; omega
 case qc5 => rw [Nat.zero_add]; omega
 case qc6 => simp
 intro v' w1 hown hgrow hnil;go_wp2;go_ret;refine ⟨⟨v',rfl,by simpa [OwnS] using hown⟩,?_⟩;exact ((Below.refl _ w).alloc nl _).grown hgrow (by simp) (by intro k hk; simp [Value.ownBlock] at hk; omega)
theorem ownS_low {w:World} {B B':Nat} {v:Value} {xs:List Value} (h:OwnS w B v xs) (hB:B'<=B):OwnS w B' v xs:=by
 refine ⟨h.1,h.2.imp id ?_⟩;rintro ⟨g,cap,cur,hv,hb,r⟩;exact ⟨g,cap,cur,hv,Nat.le_trans hB hb,r⟩
theorem row_two {w:World} {n E:Nat} {x y:Value} (h:Row w n E [x,y]):∀ j u,[x,y][j]?=some u->w.cell? ⟨n,0 + j,none⟩=some u:=by
 intro j u hj
 match j,hj with
 | 0,hj => simp at hj; subst hj; exact h.cell (k:=0) (by simp)
 | 1,hj => simp at hj; subst hj; exact h.cell (k:=1) (by simp)
 | j + 2,hj => simp at hj
theorem sValid_any (p:Prg) (v:Value) (w:World) (h:PrgV w v p) (hE:Env w) :
  Calls Tryz.prog 114 #[v] w λ e w' => e=.returned (.int .i64 p.err)/\BH w w':=by
 obtain ⟨aA,cA,aB,cB,aC,cC,rfl,uA,uB,uC⟩:=h;go_enter func114,ntmps114;go_upto_region 1 with fail;have hb0:=bA w (.cells #[.slice aA p.A.length cA,.slice aB p.B.length cB,.slice aC p.C.length cC] 105);have rA:Row (w.alloc (.cells #[.slice aA p.A.length cA,.slice aB p.B.length cB,.slice aC p.C.length cC] 105)) w.heap.size 105 [.slice aA p.A.length cA,.slice aB p.B.length cB,.slice aC p.C.length cC]:=heap_alloc_new _ _;obtain ⟨g,hg⟩:=exi (w.heap.size);rw [<- hg] at rA |-;have Hg:=hii hg;clear hg;generalize w.alloc (.cells #[.slice aA p.A.length cA,.slice aB p.B.length cB,.slice aC p.C.length cC] 105)=w1 at *;have HA:=hii (uA.mono hb0);have HB:=hii (uB.mono hb0);have HCC:=hii (uC.mono hb0);have hE:=hE.mono hb0;have Hb0:=hii hb0;clear uA uB uC hb0;refine wp_region_news (wx:=w1) (λ _ => False) [(λ _ X _ => X 0=.pointer (some ⟨g,1,none⟩)),(λ _ X _ => X 1=.slice aB p.B.length cB),(λ _ X _ => X 2=.int .i64 p.B.length),(λ _ X _ => X 3=.pointer (some ⟨g,2,none⟩)),(λ _ X _ => X 4=.slice aC p.C.length cC),(λ _ X _ => X 5=.int .i64 p.C.length),(λ _ _ _ => True),(λ _ X _ => X 7=.int .i64 p.B.length),(λ _ _ _ => True)] [some 6,some 7,some 8,some 9,some 10,some 11,some 4,some 3,none] [none,none,none,none,none,none,some ⟨8,5,3,[.int .i64 0]⟩,none,none] [6,7,8,9,10,11,4,3] (by kernel_rfl) (by kernel_rfl) (by kernel_rfl) (by kernel_rfl) (of_decide_eq_true (by kernel_rfl)) (by kernel_rfl) (λ _ h => h.elim) br ⟨adj_val _ _ _,adj_val _ _ _,adj_val _ _ _,adj_val _ _ _,adj_val _ _ _,adj_val _ _ _,adj_true _,adj_val _ _ _,adj_true _,trivial⟩ ⟨⟨λ _ _ _ => trivial,λ _ _ _ => trivial⟩,trivial⟩ ⟨?s0,?s1,?s2,?s3,?s4,?s5,?s6,?s7,?s8,trivial⟩ ⟨?b6,trivial⟩ ?he
 case' s0 | s1 | s2 | s3 | s4 | s5 =>
  rintro - G T W hb hHG hGW hGo hA K hK
 case' s0 | s3 =>
  simp only [sA] at hK |-
 case' s1 =>
  have e0:T 6=_:=hA.1;obtain ⟨x0,x1,x2⟩:=(rA.below hb).n3;simp only [sA,e0] at hK |-
 case' s2 =>
  have e1:T 7=_:=hA.1;simp only [sA,e1] at hK |-
 case' s4 =>
  have e3:T 9=_:=hA.1;obtain ⟨x0,x1,x2⟩:=(rA.below hb).n3;simp only [sA,e3] at hK |-
 case' s5 =>
  have e4:T 10=_:=hA.1;simp only [sA,e4] at hK |-
 case s0 | s1 | s2 | s3 | s4 | s5 =>
  have HK:=hii hK;clear hK hA;refine wO rfl (by rfl) ?_;go_simp;exact HK.out _ _ br λ X hX _ => hX
 case s6 => exact λ h => absurd h (by decide)
 case s7 =>
  rintro - G T W hb hHG hGW hGo hA K hK;have e2:T 8=_:=hA.1;simp only [sA,e2] at hK |-;have HK:=hii hK;clear hK hA;refine wO rfl (by rfl) ?_;go_simp;exact HK.out _ _ br λ X hX _ => hX
 case s8 => exact λ h => absurd h (by decide)
 case b6 =>
  refine ⟨?_,?_⟩
  ·rintro o ho T W K hK;obtain rfl:=Option.some.inj ho;simp only [sA] at hK |-;have HK:=hii hK;clear hK ho;refine wO rfl (by rfl) ?_;go_simp;exact HK.out
  ·rintro o ho G T W nb hA hp hrow K hK;obtain rfl:=Option.some.inj ho;have ep:T 4=.pointer (some ⟨nb,0,none⟩):=hp;have e5:T 11=_:=hA.2.1;have hK:=hK [.int .i64 p.C.length] (.inr (congrArg (λ x => [x]) e5.symm)) rfl;simp only [sA,ep,e5] at hK |-;have HK:=hii hK;clear hK hA ho;have q0:=hrow.cell (k:=0) (by simp);have f0:=hrow.free 0;simp only [List.getElem_cons_zero,List.getElem_cons_succ] at q0;refine wO rfl (by rfl) ?_;go_simp;exact HK.out
 case he =>
  rintro GG N T W hb hHG hGW hGo hbox hne hA;have f5:T 11=.int .i64 p.C.length:=hA.at 5 (by decide);have f7:T 3=.int .i64 p.B.length:=hA.at 7 (by decide);obtain ⟨f4,_,hN,vs,hsto,hrow⟩:=hbox 6 _ rfl;have f4:T 4=.pointer (some ⟨N 6,0,none⟩):=f4;generalize N 6=n4 at *;have hvs:vs=[.int .i64 p.C.length]:=by
   rcases hsto with h | h
   ·have h:T 11=.agg vs.toArray:=h;exact absurd (f5.symm.trans h) (by simp)
   ·have h:vs=[T 11]:=h;rw [h,f5]
  subst hvs;have rN:Row W n4 3 [.int .i64 p.C.length]:=hrow;clear hbox hsto hrow hne;have hbw:=Hb0.out.trans (hb.mono Hb0.out.size);have HA:=hii (HA.out.mono hb);have HB:=hii (HB.out.mono hb);have HCC:=hii (HCC.out.mono hb);have hE:=hE.mono hb;have rA:=rA.below hb;obtain ⟨x0,x1,x2⟩:=rA.n3;have y0:=rN.cell (k:=0) (by simp);simp only [List.getElem_cons_zero] at y0;simp only [sA,f4,f7];clear hA f4 f5 f7 hb hHG hGW hGo;obtain ⟨wl,rfl⟩:=exi W
  by_cases h1:p.B.length < 1
  ·have g1:(p.B.length:Int) < 1:=by omega
   go_wp2;go_ret;exact ⟨by rw [err_arity (by omega)]; rfl,hbw⟩
  have g1:¬ (p.B.length:Int) < 1:=by omega
  by_cases h2:14 < p.B.length
  ·have g2:(14:Int) < (p.B.length:Int):=by omega
   go_wp2;go_ret;exact ⟨by rw [err_arity (by omega)]; rfl,hbw⟩
  have g2:¬ (14:Int) < (p.B.length:Int):=by omega
  by_cases h3:p.C.length < 1
  ·have g3:(p.C.length:Int) < 1:=by omega
   go_wp2;go_ret;exact ⟨by rw [err_arity (by omega)]; rfl,hbw⟩
  have g3:¬ (p.C.length:Int) < 1:=by omega
  by_cases h4:400 < p.C.length
  ·have g4:(400:Int) < (p.C.length:Int):=by omega
   go_wp2;go_ret;exact ⟨by rw [err_arity (by omega)]; rfl,hbw⟩
  have g4:¬ (400:Int) < (p.C.length:Int):=by omega
  by_cases h5:p.A.length ≠ p.B.length
  ·have g5:((p.A.length:Int) != (p.B.length:Int))=true:=by rw [bne_iff_ne]; omega
   go_wp2;go_ret;exact ⟨by rw [err_arity (by omega)]; rfl,hbw⟩
  have g5:((p.A.length:Int) != (p.B.length:Int))=false:=by rw [bne_eq_false_iff_eq]; omega
  have hm:p.A.length=p.B.length:=by omega
  have hml:p.B.length<=14:=by omega
  have hnl:p.C.length<=400:=by omega
  have hn1:0 < p.C.length:=by omega
  have hm1:0 < p.B.length:=by omega
  have H0:Hid (¬ (p.B.length < 1\/14 < p.B.length\/p.C.length < 1\/400 < p.C.length\/p.A.length ≠ p.B.length)):=hii (by omega);have hAl:p.A.length<=1000000000:=by omega
  have eg1:∀ args w,(callFunc 148 args).run Tryz.prog w=.ok (.enter 148 args) w:=enters_of func148 (by kernel_rfl) rfl;have HT:TellsR 148 #[.pointer (some ⟨n4,0,none⟩)] (λ r => r.length != p.C.length) p.A wl:=by
   intro o ar cr W2 _ _ _ hbb;exact svalid1_any ar o.length cr p.C.length n4 W2 (((rN.below hbb).cell (k:=0) (by simp)).trans rfl)
  have hC:=ContainsFunc_r 148 #[.pointer (some ⟨n4,0,none⟩)] (λ r => r.length != p.C.length) eg1 p.A aA cA wl hAl HA.out hE HT;rw [hm] at hC;have HC:=hii hC;clear hC eg1 HT hAl;obtain ⟨bad,hbad⟩:∃ b,b=p.A.any (λ r => r.length != p.C.length):=⟨_,rfl⟩;rw [<- hbad] at HC;have Hbad:=hii hbad;clear hbad;go_wp2_with fail;(with_reducible refine (HC.out).mono ?_);rintro e w2 ⟨rfl,hb⟩;have HA:=hii (HA.out.mono hb);have HB:=hii (HB.out.mono hb);have HCC:=hii (HCC.out.mono hb);have hE:=hE.mono hb;have rA:=rA.below hb;have hbw:=bu hbw hb;clear hb HC x0 x1 x2 y0 rN
  cases bad with
  | true =>
   go_wp2;go_ret;refine ⟨?_,hbw⟩;obtain ⟨r,hr,hl⟩:=List.any_eq_true.1 Hbad.out.symm;rw [err_row hr (by simpa using hl)]; rfl
  | false =>
   have HR:Hid (∀ r∈p.A,r.length=p.C.length):=hii λ r hr => by
    have:=List.any_eq_false.1 Hbad.out.symm r hr
    simpa using this
   clear Hbad;go_upto_region 6 with fail;have Hm:=hii hm;have Hml:=hii hml;have Hnl:=hii hnl;obtain ⟨b0,off0,xs,rfl,hro,hcs,hone⟩:=HA.out.rows (by omega);have Hb0l:Hid (∀ {W:World},BH w2 W->b0 < W.heap.size):=hii λ hb => by
    have h0:0 < xs.length:=by have:=hro.1; omega
    have:=cell_lt (hcs 0 xs[0] (gE h0));have:=hb.size; simp at *; omega
   have Hro:=hii hro;have Hcs:=hii hcs;have Hone:=hii hone;clear hro hcs hone hm hml hnl h5 g5 h1 h2 h3 h4 g1 g2 g3 g4 hn1 hm1;refine wp_region_use (wx:=w2) [vf (.pointer (some ⟨g,0,none⟩)),vf (.slice (some ⟨b0,off0,none⟩) p.A.length cA),(λ W v => OwnS W w2.heap.size v xs),vf (.pointer (some ⟨g,1,none⟩)),vf (.slice aB p.B.length cB),vf (.pointer (some ⟨g,2,none⟩)),vf (.slice aC p.C.length cC),(λ W v => ∃ n,v=.slice (some ⟨n,0,none⟩) 2 2/\Row W n 33 [.slice aB p.B.length cB,.slice aC p.C.length cC]),(λ W v => ∃ (L:List (List Qo)) (ao:Option Addr) (cap:Nat),Hid (L=p.A ++ [p.B,p.C])/\v=.slice ao L.length cap/\UM W ao L),vf (.int .i64 (numErr p.all)),vf (.int .i64 (numErr p.all))] [none,none,some 8,none,none,none,none,some 8,none,none,none] [true,true,false,true,true,true,true,false,false,true,true] [some 37,some 38,some 39,some 40,some 41,some 42,some 43,some 44,some 45,some 46,some 5] [37,38,39,40,41,42,43,44,45,46,5] 2 0 (λ _ _ => True) (by decide) (by kernel_rfl) (by kernel_rfl) (by kernel_rfl) (by kernel_rfl) (of_decide_eq_true (by kernel_rfl)) (by kernel_rfl) (by kernel_rfl) (trivial) (λ _ _ _ h _ => h) br ⟨sV _,sV _,λ _ _ _ h hb => h.mono hb,sV _,sV _,sV _,sV _,λ _ _ _ ⟨n,e,h⟩ hb => ⟨n,e,h.below hb⟩,λ _ _ _ ⟨L,a,c,hL,e,h⟩ hb => ⟨L,a,c,hL,e,h.mono hb⟩,sV _,sV _,trivial⟩ ⟨λ _ => cV _,λ _ => cV _,(λ h => absurd h (by decide)),λ _ => cV _,λ _ => cV _,λ _ => cV _,λ _ => cV _,(λ h => absurd h (by decide)),(λ h => absurd h (by decide)),λ _ => cV _,λ _ => cV _,trivial⟩ ⟨?s0,?s1,?s2,?s3,?s4,?s5,?s6,?s7,?s8,?s9,?s10,trivial⟩ ?he
   case' s0 | s1 | s3 | s4 | s5 | s6 | s7 | s8 | s9 | s10 =>
    rintro T W hb - hA K hK
   case' s0 | s3 | s5 =>
    simp only [sA] at hK |-
   case' s1 =>
    have e0:T 37=_:=hA.1 (by decide);obtain ⟨x0,x1,x2⟩:=(rA.below hb).n3;simp only [sA,e0] at hK |-
   case' s4 =>
    have e3:T 40=_:=hA.1 (by decide);obtain ⟨x0,x1,x2⟩:=(rA.below hb).n3;simp only [sA,e3] at hK |-
   case' s6 =>
    have e5:T 42=_:=hA.1 (by decide);obtain ⟨x0,x1,x2⟩:=(rA.below hb).n3;simp only [sA,e5] at hK |-
   case' s10 =>
    have e9:T 46=_:=hA.1 (by decide);simp only [sA,e9] at hK |-
   case s0 | s1 | s3 | s4 | s5 | s6 | s10 =>
    have HK:=hii hK;clear hK hA;refine wO rfl (by rfl) ?_;go_simp;exact HK.out _ _ ⟨hb,λ _ => br⟩ rfl
   case s2 =>
    rintro T W hb hp hA K hK;have e1:T 38=_:=hA.1 (by decide);have hp:=hp rfl;simp only [sA,e1] at hK |-;have HK:=hii hK;clear hK hA;refine wO rfl (by rfl) ?_;go_simp;have hC:=sclone_any xs b0 off0 cA W (by have:=Hro.out.1; have:=Hm.out; have:=Hml.out; omega) (Hb0l.out hb) (λ j u hj => (hb.cell (p:=⟨b0,off0 + j,none⟩) (cell_lt (Hcs.out j u hj))).trans (Hcs.out j u hj)) Hone.out;rw [Hro.out.1] at hC;(with_reducible refine hC.mono ?_);rintro e w1 ⟨⟨v,rfl,hv⟩,hb1⟩;have hv:OwnS w1 w2.heap.size v xs:=ownS_low hv hb.size
    try dsimp only
    exact HK.out _ _ ⟨bu hb hb1,λ _ => hb1⟩ (hv)
   case s7 =>
    have e4:T 41=_:=hA.1 (by decide);have e6:T 43=_:=hA.2.1 (by decide);simp only [sA,e4,e6] at hK |-;have HK:=hii hK;clear hK hA;refine wO rfl (by rfl) ?_;go_simp;obtain ⟨w1,hw1⟩:∃ w1,w1=W.alloc (.cells #[.slice aB p.B.length cB,.slice aC p.C.length cC] 33):=⟨_,rfl⟩;have hb1:BH W w1:=by rw [hw1]; exact bA W _
    have hrow:Row w1 W.heap.size 33 [.slice aB p.B.length cB,.slice aC p.C.length cC]:=by rw [hw1]; exact heap_alloc_new W _
    rw [<- hw1]
    try dsimp only
    exact HK.out _ _ ⟨bu hb hb1,λ _ => hb1⟩ (⟨_,rfl,hrow⟩)
   case s8 =>
    have r2:((λ W v => OwnS W w2.heap.size v xs):World->Value->Prop) W (T 39):=hA.1 (by decide);have r7:(_:World->Value->Prop) W (T 44):=hA.2.1 (by decide);simp only [sA] at hK |-;have HK:=hii hK;clear hK hA;obtain ⟨n7,e7,hrow⟩:=r7;have hq:=hrow;obtain ⟨v1,w1,hr,ho,hbw1,hsz⟩:=run_app_s W w2 103 w2.heap.size _ xs [.slice aB p.B.length cB,.slice aC p.C.length cC] n7 0 2 r2 hb.size hb (row_two hrow) (by intro u hu; simp at hu; rcases hu with rfl | rfl <;> rfl) (by have:=Hro.out.1; have:=Hm.out; have:=Hml.out; simp; omega);have hum:=ho.um ((Hro.out.mono hbw1).two (HB.out.mono hbw1) (HCC.out.mono hbw1));simp only [List.length_cons,List.length_nil,Nat.zero_add,Nat.reduceAdd] at hr;rw [<- e7] at hr;refine wO rfl (by rfl) ?_;refine oper_append _ _ rfl rfl rfl hr ?_;simp only [Act.put,List.setIfInBounds_toArray,List.set_cons_zero,List.set_cons_succ];exact HK.out _ _ ⟨hbw1,λ h => absurd h (by decide)⟩ (⟨_,hum.choose,hum.choose_spec.choose,hii rfl,hum.choose_spec.choose_spec⟩)
   case s9 =>
    have r8:(_:World->Value->Prop) W (T 45):=hA.1 (by decide);obtain ⟨L8,ao8,Y8,hL8,e8,hu8⟩:=r8;simp only [sA,e8] at hK |-;have HK:=hii hK;clear hK hA;refine wO rfl (by rfl) ?_;go_simp;have hrl:∀ r∈L8,r.length<=1000000:=by
     intro r hr;rw [hL8.out] at hr;have:=Hml.out;have:=Hnl.out;rcases List.mem_append.1 hr with h | h
     ·rw [HR.out r h]; omega
     ·simp at h; rcases h with rfl | rfl <;> omega
    (with_reducible refine (numbers_any L8 ao8 Y8 W (by rw [hL8.out]; have:=Hm.out; have:=Hml.out; simp; omega) hrl hu8 (hE.mono hb)).mono ?_);rw [show L8.flatten=p.all by rw [hL8.out]; simp [Prg.all]];rintro e w1 ⟨rfl,hb1⟩
    try dsimp only
    exact HK.out _ _ ⟨bu hb hb1,λ _ => hb1⟩ rfl
   case he =>
    rintro T W hb hA;have f10:T 5=.int .i64 (numErr p.all):=hA.of 10 (by decide) (by decide);have hbw:=bu hbw hb;have HB:=hii (HB.out.mono hb);have rA:=rA.below hb;have hE:=hE.mono hb;simp only [sA,f10];obtain ⟨E,hEE⟩:∃ E,E=numErr p.all:=⟨_,rfl⟩;rw [<- hEE];have HEE:=hii hEE;have HBl:Hid (p.B.length<=1000000000):=hii (by have:=Hml.out; omega);clear hA f10 hb hEE HA HCC Hro Hcs Hone Hb0l Hm Hml Hnl;obtain ⟨w3,rfl⟩:=exi W
    by_cases hz:E=0
    ·subst hz;have HN0:=hii (numErr_zero HEE.out.symm);have eg2:∀ args w,(callFunc 151 args).run Tryz.prog w=.ok (.enter 151 args) w:=enters_of func151 (by kernel_rfl) rfl;have HT:Tells 151 #[] negO p.B w3:=by
      intro o v W2 ho hv hE2 hbb;have hs:=HN0.out o (List.mem_append_left _ (List.mem_append_right _ ho))
      cases o with
      | none => cases hs
      | some r => exact svalid2_any v r W2 hv hE2
     have HC:=hii (ContainsFunc_q 151 #[] negO eg2 p.B aB cB w3 HBl.out HB.out hE HT);clear eg2 HT;obtain ⟨bn,hbn⟩:∃ b,b=p.B.any negO:=⟨_,rfl⟩;rw [<- hbn] at HC;have Hbn:=hii hbn;clear hbn HB HBl;obtain ⟨x0,x1,x2⟩:=rA.n3;go_wp2_with fail;(with_reducible refine (HC.out).mono ?_);rintro e w4 ⟨rfl,hb⟩;have hbw:=bu hbw hb;clear hb HC x0 x1 x2
     cases bn with
     | true =>
      go_wp2;go_ret;refine ⟨?_,hbw⟩;rw [err_rest H0.out HR.out,<- HEE.out];have:negQ p.B=true:=Hbn.out.symm;rw [this]; rfl
     | false =>
      go_wp2;go_ret;refine ⟨?_,hbw⟩;rw [err_rest H0.out HR.out,<- HEE.out];have:negQ p.B=false:=Hbn.out.symm;rw [this]; rfl
    ·have g1:((E:Int) != 0)=true:=by rw [bne_iff_ne]; omega
     have Hz:=hii hz;clear hz;go_wp2;go_ret;refine ⟨?_,hbw⟩;rw [err_rest H0.out HR.out,<- HEE.out,if_pos Hz.out]; rfl
end Go.Proofs.YtfgffkmddanjjaaGreatDoor
