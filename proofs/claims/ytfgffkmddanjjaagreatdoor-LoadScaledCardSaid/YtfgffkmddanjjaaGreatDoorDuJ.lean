/-
  The error of a program in the reference.
-/
import Derived.Test.YtfgffkmddanjjaaGreatDoorD1
import Derived.Test.YtfgffkmddanjjaaGreatDoorOQ
import Derived.Lib.SliceRun
set_option linter.unusedVariables false
set_option linter.unusedSimpArgs false
set_option maxRecDepth 100000
set_option maxHeartbeats 25600000
namespace Go.Proofs.YtfgffkmddanjjaaGreatDoor
open _root_.Go.Proofs.Tryz
open Go.RowKit
theorem zb4 {p:Prg} (h:p.B.length < 1\/14 < p.B.length\/p.C.length < 1\/400 < p.C.length\/p.A.length ≠ p.B.length):p.err=6:=by
 unfold Prg.err; rw [if_pos h]
theorem zlB {p:Prg} {r:List Qo} (hr:r∈p.A) (h:r.length ≠ p.C.length):p.err=6:=by
 unfold Prg.err
 split
 ·rfl
 ·have:p.A.any (λ r => r.length != p.C.length)=true:=by rw [List.any_eq_true]; exact ⟨r,hr,by simpa using h⟩
  rw [if_pos this]
theorem zeI {p:Prg} (h:¬ (p.B.length < 1\/14 < p.B.length\/p.C.length < 1\/400 < p.C.length\/p.A.length ≠ p.B.length)) (hr:∀ r∈p.A,r.length=p.C.length) :
  p.err=if za3 p.all ≠ 0 then za3 p.all else if zmL p.B then 7 else 0:=by
 unfold Prg.err;have:p.A.any (λ r => r.length != p.C.length)=false:=by rw [List.any_eq_false]; intro r h'; simp [hr r h']
 rw [if_neg h,this]; rfl
theorem zf0 {l:List Qo} (h:za3 l=0):∀ x∈l,x.isNone=false:=by
 unfold za3 at h;intro x hx
 split at h
 ·cases h
 ·next hb =>
  have:zlU l=false:=by simpa using hb
  unfold zlU at this;rw [List.any_eq_false] at this;have:=this x hx
  cases x with
  | none => simp at this
  | some r => rfl
def zbe (w:World) (xs:List Value) (rows:List (List Qo)):Prop :=
 xs.length=rows.length/\∀ (i:Nat) (row:List Qo),rows[i]?=some row->∃ ar cr,xs[i]?=some (.slice ar row.length cr)/\UQ w ar row
theorem zbe.mono {w w':World} {xs:List Value} {rows:List (List Qo)} (h:zbe w xs rows) (hb:BH w w'):zbe w' xs rows :=
 ⟨h.1,λ i row hi => by obtain ⟨ar,cr,e,hq⟩:=h.2 i row hi; exact ⟨ar,cr,e,hq.mono hb⟩⟩
theorem zbe.two {w:World} {xs:List Value} {rows:List (List Qo)} {a b:List Qo} {aa ab:Option Addr} {ca cb:Nat} (h:zbe w xs rows) (ha:UQ w aa a) (hb:UQ w ab b) :
  zbe w (xs ++ [.slice aa a.length ca,.slice ab b.length cb]) (rows ++ [a,b]):=by
 refine ⟨by simp [h.1],λ i row hi => ?_⟩;rcases Nat.lt_or_ge i rows.length with hl | hl
 ·rw [List.getElem?_append_left hl] at hi;obtain ⟨ar,cr,e,hq⟩:=h.2 i row hi;exact ⟨ar,cr,by rw [List.getElem?_append_left (by rw [h.1]; exact hl)]; exact e,hq⟩
 ·rw [List.getElem?_append_right hl] at hi;have hx:=h.1
  match hj:i - rows.length,hi with
  | 0,hi =>
   simp at hi; subst hi;exact ⟨aa,ca,by rw [List.getElem?_append_right (by omega),show i - xs.length=0 by omega]; rfl,ha⟩
  | 1,hi =>
   simp at hi; subst hi;exact ⟨ab,cb,by rw [List.getElem?_append_right (by omega),show i - xs.length=1 by omega]; rfl,hb⟩
  | j + 2,hi => simp at hi
theorem UM.rows {w:World} {ao:Option Addr} {rows:List (List Qo)} (h:UM w ao rows) (hne:0 < rows.length) :
  ∃ b off xs,ao=some ⟨b,off,none⟩/\zbe w xs rows/\(∀ j u,xs[j]?=some u->w.cell? ⟨b,off + j,none⟩=some u)/\∀ u∈xs,u.oneCell'=true:=by
 obtain ⟨b,off,_,_,ea,_,_⟩:=h 0 rows[0] (gE hne);subst ea;refine ⟨b,off,rows.mapIdx λ i _ => (w.cell? ⟨b,off + i,none⟩).getD undef,rfl,⟨by simp,?_⟩,?_,?_⟩
 ·intro i row hi;obtain ⟨b',off',ar,cr,e,hc,hq⟩:=h i row hi
  cases e
  exact ⟨ar,cr,by simp [hi,hc],hq⟩
 ·intro j u hj;rw [List.getElem?_mapIdx] at hj
  cases hr:rows[j]? with
  | none => rw [hr] at hj; simp at hj
  | some row =>
   obtain ⟨b',off',ar,cr,e,hc,hq⟩:=h j row hr
   cases e
   rw [hr] at hj;simp [hc] at hj;subst hj; exact hc
 ·intro u hu;obtain ⟨j,hj,e⟩:=List.getElem_of_mem hu;have hr:rows[j]?=some (rows[j]'(by simpa using hj)):=gE _;obtain ⟨b',off',ar,cr,e',hc,hq⟩:=h j _ hr
  cases e'
  simp [hc] at e;subst e; rfl
theorem zfz.um {w:World} {B:Nat} {v:Value} {xs:List Value} {rows:List (List Qo)} (h:zfz w B v xs) (hr:zbe w xs rows):∃ ao cap,v=.slice ao rows.length cap/\UM w ao rows:=by
 have hx:=hr.1;rcases h.2 with ⟨rfl,hn⟩ | ⟨g,cap,cur,rfl,hB,hg,hnc,hcm,hcs,htake⟩
 ·have h0:rows.length=0:=by omega
  have:rows=[]:=List.eq_nil_of_length_eq_zero h0;subst this;exact ⟨none,0,rfl,UM.nil _ _⟩
 ·refine ⟨some ⟨g,0,none⟩,cap,by rw [hx],?_⟩;intro i row hi;obtain ⟨ar,cr,e,hq⟩:=hr.2 i row hi;refine ⟨g,0,ar,cr,rfl,?_,hq⟩;have:=h.cells (g:=g) rfl i _ e;have ha:(⟨g,0,none⟩:Addr).add i=⟨g,0 + i,none⟩:=by
   unfold Addr.add; split
   ·subst i; rfl
   ·rfl
  rw [ha] at this; exact this
theorem zhi (xs:List Value) (b off c:Nat) (w:World) (hl:xs.length<=100000) (hb:b < w.heap.size) (hy:∀ j u,xs[j]?=some u->w.cell? ⟨b,off + j,none⟩=some u) (h1:∀ u∈xs,u.oneCell'=true) :
  Calls Tryz.prog 150 #[.slice (some ⟨b,off,none⟩) xs.length c] w λ e w' => (∃ v,e=.returned v/\zfz w' w.heap.size v xs)/\BH w w':=by
 obtain ⟨i0,hi,hz0,hz1,hz2⟩:=info_parts Tryz.info33;have q22:∀ (w:World) (a:Option Addr) (n c n' c':Nat),(binOp .eql 103 (.slice a n c) (.slice none n' c')).run Tryz.prog w=.ok (.bool a.isNone) w:=λ w a n c n' c' => Lib.run_eql_slice_nil w _ _ a n c n' c' Tryz.underlying103
 have Hy:=hii hy;have H1:=hii h1;clear hy h1;go_enter func150,ntmps150;go_wp2_with (at_builtin; refine wpList_append_own _ rfl _ _ 103 rfl w.heap.size 33 i0 (.slice none 0 0) 1 24 Tryz.underlying103 hi hz0 hz1 hz2 rfl (by decide) _ _ _ rfl (World.ownsRow_made w #[] 0 nl (Nat.zero_le _) (by simp)) ⟨b,off,none⟩ xs.length c xs rfl ?qc1 ?qc2 ?qc3 ?qc4 ?qc5 ?qc6 ?_)
 case qc1 => omega
 case qc2 =>
  intro j u hj;rw [Addr.add_lit];exact Lib.cell?_alloc_some _ (Hy.out j u hj)
 case qc3 => exact H1.out
 case qc4 => rw [Nat.zero_add]; unfold maxLen; omega
 case qc5 => rw [Nat.zero_add]; omega
 case qc6 => simp
 intro v' w1 hown hgrow hnil;go_wp2;go_ret;refine ⟨⟨v',rfl,by simpa [zfz] using hown⟩,?_⟩;exact ((Below.refl _ w).alloc nl _).grown hgrow (by simp) (by intro k hk; simp [Value.ownBlock] at hk; omega)
end Go.Proofs.YtfgffkmddanjjaaGreatDoor
