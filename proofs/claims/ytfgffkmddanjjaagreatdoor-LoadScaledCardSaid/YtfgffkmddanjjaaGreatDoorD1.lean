/-
  What the checks of chapter 14 return, as functions of the numbers.
-/
import Derived.Test.YtfgffkmddanjjaaGreatDoorOQ
import Derived.Test.YtfgffkmddanjjaaGreatDoorFlowX
set_option linter.unusedVariables false
set_option linter.unusedSimpArgs false
set_option maxRecDepth 100000
set_option maxHeartbeats 25600000
namespace Go.Proofs.YtfgffkmddanjjaaGreatDoor
open _root_.Go.Proofs.Tryz
open Go.RowKit
def zbX (r:Rat):Bool:=decide ((Lib.decDigits r.num.natAbs).length<=20) && decide ((Lib.decDigits r.den).length<=20)
def zlU (l:List Qo):Bool:=l.any (·.isNone)
def zhy:Qo->Bool
 | some r => !zbX r
 | none => false
def zfe (l:List Qo):Bool:=l.any zhy
def za3 (l:List Qo):Nat:=if zlU l then 1 else if zfe l then 3 else 0
def zgM:Qo->Bool
 | some r => decide (r.num < 0)
 | none => false
def zmL (l:List Qo):Bool:=l.any zgM
def zjB:Qo->Rat
 | some r => r
 | none => 0
structure Prg where
 A:List (List Qo)
 B:List Qo
 C:List Qo
def Prg.all (p:Prg):List Qo:=p.A.flatten ++ p.B ++ p.C
def Prg.err (p:Prg):Nat :=
 if p.B.length < 1\/14 < p.B.length\/p.C.length < 1\/400 < p.C.length\/p.A.length ≠ p.B.length then 6
 else if p.A.any (λ r => r.length != p.C.length) then 6
 else if za3 p.all ≠ 0 then za3 p.all
 else if zmL p.B then 7 else 0
def zon (A:List (List Rat)) (k:Nat):List Rat:=A.map λ r => r.getD k 0
def UM (w:World) (ao:Option Addr) (rows:List (List Qo)):Prop :=
 ∀ i row,rows[i]?=some row->∃ b off ar cr,ao=some ⟨b,off,none⟩/\w.cell? ⟨b,off + i,none⟩=some (.slice ar row.length cr)/\UQ w ar row
theorem UM.mono {w w':World} {ao:Option Addr} {l:List (List Qo)} (h:UM w ao l) (hb:BH w w'):UM w' ao l:=by
 intro i row hi;obtain ⟨b,off,ar,cr,e,hc,hq⟩:=h i row hi;exact ⟨b,off,ar,cr,e,(hb.cell (zag hc)).trans hc,hq.mono hb⟩
theorem UM.nil (w:World) (ao:Option Addr):UM w ao []:=λ i o h => by simp at h
def zm8 (w:World) (v:Value) (p:Prg):Prop :=
 ∃ aA cA aB cB aC cC,v=.agg #[.slice aA p.A.length cA,.slice aB p.B.length cB,.slice aC p.C.length cC]/\UM w aA p.A/\UQ w aB p.B/\UQ w aC p.C
theorem zm8.mono {w w':World} {v:Value} {p:Prg} (h:zm8 w v p) (hb:BH w w'):zm8 w' v p:=by
 obtain ⟨aA,cA,aB,cB,aC,cC,e,h1,h2,h3⟩:=h;exact ⟨aA,cA,aB,cB,aC,cC,e,h1.mono hb,h2.mono hb,h3.mono hb⟩
theorem zgz (z:Int):decide (zaU z < 0)=decide (z < 0):=by
 unfold zaU
 split
 ·next h => subst h; rfl
 ·split
  ·next h => simp [h]
  ·next h => simp [h]
def zlZ (g:Nat) (lb:Array Value) (p:Qo->Bool) (l:List Qo) (w:World):Prop :=
 ∀ (o:Qo) (v:Value) (W:World),o∈l->QV W v o->Env W->BH w W->Calls Tryz.prog g (#[v] ++ lb) W λ e W' => e=.returned (.bool (p o))/\BH W W'
def zgS (p:Qo->Bool) (l:List Qo):Int:=match l.findIdx? p with
 | some i => i
 | none => -1
theorem zkb {p:Qo->Bool} {l:List Qo} {k:Nat} {o:Qo} (hk:l[k]?=some o) (ho:p o=true) (h:∀ x∈l.take k,p x=false):zgS p l=k:=by
 have:l.findIdx? p=some k:=by
  rw [List.findIdx?_eq_some_iff_getElem];have hl:k < l.length:=by
   rcases Nat.lt_or_ge k l.length with h | h
   ·exact h
   ·rw [List.getElem?_eq_none h] at hk; cases hk
  refine ⟨hl,by rw [gE hl] at hk; cases hk; exact ho,λ j hj => ?_⟩;have:=h (l[j]'(by omega)) (List.mem_take_iff_getElem.2 ⟨j,by omega,rfl⟩);simp [this]
 unfold zgS;rw [this]
theorem zfj {p:Qo->Bool} {l:List Qo} (h:∀ x∈l,p x=false):zgS p l=-1:=by
 have:l.findIdx? p=none:=by rw [List.findIdx?_eq_none_iff]; exact h
 unfold zgS;rw [this]
theorem zkc (p:Qo->Bool) (l:List Qo):decide (0<=zgS p l)=l.any p:=by
 cases h:l.any p with
 | false =>
  rw [List.any_eq_false] at h;rw [zfj (λ x hx => by have:=h x hx; simpa using this)]; rfl
 | true =>
  have:(l.findIdx? p).isSome:=by rw [List.findIdx?_isSome]; exact h
  unfold zgS
  cases hf:l.findIdx? p with
  | none => rw [hf] at this; cases this
  | some i => simp
theorem zdC (g:Nat) (lb:Array Value) (p:Qo->Bool) (eg:∀ args w,(callFunc g args).run Tryz.prog w=.ok (.enter g args) w) (l:List Qo) (aa:Option Addr) (ca:Nat) (w:World) (hl:l.length<=1000000000) (ua:UQ w aa l) (hE:Env w) (hp:zlZ g lb p l w) :
  Calls Tryz.prog 144 #[.slice aa l.length ca,.func (.func g) #[] lb] w λ e w' => e=.returned (.int .i64 (zgS p l))/\BH w w':=by
 have hbw:=Below.refl w.heap.size w;have hp:=hii hp;go_enter func144,ntmps144;go_wp2_with fail;go_loopw [8] (λ s wr => ∃ k:Nat,k<=l.length/\s=.int .i64 k/\Hid (∀ x∈l.take k,p x=false)/\Env wr/\BH w wr) (λ s _ => l.length - (intOf s).toNat)
 case atStart => exact ⟨0,Nat.zero_le _,rfl,hii (by simp),hE,hbw⟩
 case round =>
  clear hE hbw;obtain ⟨k,hk,rfl,HN,hE,hbw⟩:=hrel
  by_cases hlt:k < l.length
  ·obtain ⟨o,ho⟩:∃ x,l[k]?=some x:=⟨l[k],gE hlt⟩;obtain ⟨b1,off1,ngp,aop,np,capp,ngq,aoq,nq,capq,ea,FA,HVA⟩:=(ua.mono hbw) k o ho;have hcall:=hp.out o _ wr (List.mem_of_getElem? ho) HVA hE hbw;have Ho:=hii ho;clear ho HVA ua;subst ea;obtain ⟨cFA_0,cFA_1,cFA_2,cFA_3,_,_,_,_⟩:=id FA
   cases hq:p o with
   | true =>
    rw [hq] at hcall;have Hq:=hii hq;clear hq;go_wp2_with (go_at_fn g; refine hcall.mono ?_; rintro e v2 ⟨rfl,hb⟩);have hbw:=bu hbw hb;go_ret;exact ⟨by rw [zkb Ho.out Hq.out HN.out]; rfl,hbw⟩
   | false =>
    rw [hq] at hcall;have Hq:=hii hq;clear hq;go_wp2_with (go_at_fn g; refine hcall.mono ?_; rintro e v2 ⟨rfl,hb⟩);have hE:=hE.mono hb;have hbw:=bu hbw hb;go_roundw
    case rel =>
     refine ⟨k + 1,by omega,by go_num,hii λ x hx => ?_,hE,hbw⟩;rw [List.take_add_one,Ho.out] at hx;rcases List.mem_append.1 hx with h | h
     ·exact HN.out x h
     ·simp at h; subst h; exact Hq.out
    case measure => simp [intOf]; omega
  ·obtain rfl:k=l.length:=by omega
   go_wp2;go_ret;exact ⟨by rw [zfj (λ x hx => HN.out x (by rw [List.take_length]; exact hx))]; rfl,hbw⟩
theorem zba (g:Nat) (lb:Array Value) (p:Qo->Bool) (eg:∀ args w,(callFunc g args).run Tryz.prog w=.ok (.enter g args) w) (l:List Qo) (aa:Option Addr) (ca:Nat) (w:World) (hl:l.length<=1000000000) (ua:UQ w aa l) (hE:Env w) (hp:zlZ g lb p l w) :
  Calls Tryz.prog 101 #[.slice aa l.length ca,.func (.func g) #[] lb] w λ e w' => e=.returned (.bool (l.any p))/\BH w w':=by
 have hC:=zdC g lb p eg l aa ca w hl ua hE hp;rw [<- zkc];generalize zgS p l=i at hC |-;clear ua hp eg;go_enter func101,ntmps101;go_wp2_with fail;(with_reducible refine hC.mono ?_);rintro e v2 ⟨rfl,hb⟩;go_wp2
 all_goals go_ret
 all_goals exact ⟨by simp_all,hb⟩
def zlu (r:Rat):Bool:=decide (r.num < 0)
theorem VQ.grown {w w':World} {v u:Value} {b:Bool} (h:VQ w u b) (hg:w.grownBy w' v.ownBlock) (hp:NoI w v):VQ w' u b:=by
 obtain ⟨x1,x2,l1,l2,a1,a2,c1,c2,e,h1,h2,k1,k2,h3,h4,h5⟩:=h;exact ⟨x1,x2,l1,l2,a1,a2,c1,c2,e,h1,h2,k1,k2,h3.grown hg hp,h4.grown hg hp,h5⟩
theorem QV.grown {w w':World} {v u:Value} {o:Qo} (h:QV w u o) (hg:w.grownBy w' v.ownBlock) (hp:NoI w v):QV w' u o:=by
 cases o
 ·exact VQ.grown h hg hp
 ·exact zac.grown h hg hp
def QAt (w:World) (xs:List Value) (i:Nat) (o:Qo):Prop :=
 ∃ (n1:Bool) (a1:Option Addr) (l1 c1:Nat) (n2:Bool) (a2:Option Addr) (l2 c2:Nat),
  xs[i * 4]?=some (.bool n1)/\xs[i * 4 + 1]?=some (.slice a1 l1 c1)/\xs[i * 4 + 2]?=some (.bool n2)/\xs[i * 4 + 3]?=some (.slice a2 l2 c2)/\QV w (.agg #[.bool n1,.slice a1 l1 c1,.bool n2,.slice a2 l2 c2]) o
def zaz (w:World) (B:Nat) (v:Value) (l:List Qo):Prop :=
 ∃ xs:List Value,w.ownsRow B 32 4 v l.length xs/\NoI w v/\∀ (i:Nat) (o:Qo),l[i]?=some o->QAt w xs i o
theorem zaz.nil (w:World) (B:Nat):zaz w B (.slice none 0 0) [] :=
 ⟨[],World.ownsRow_nil _ _ _ _,λ g hg => by simp [Value.ownBlock] at hg,λ i r h => by simp at h⟩
theorem zaz.mono {w w':World} {B:Nat} {v:Value} {l:List Qo} (h:zaz w B v l) (hb:BH w w'):zaz w' B v l:=by
 obtain ⟨xs,h1,h2,h3⟩:=h;refine ⟨xs,zbg h1 hb,?_,?_⟩
 ·intro g hg cur t fr hc;have hlt:=(h1.lt g hg).2;exact h2 g hg cur t fr ((hb.block _ hlt).symm.trans hc)
 ·intro i r hi;obtain ⟨n1,a1,l1,c1,n2,a2,l2,c2,e0,e1,e2,e3,hr⟩:=h3 i r hi;exact ⟨n1,a1,l1,c1,n2,a2,l2,c2,e0,e1,e2,e3,hr.mono hb⟩
theorem zaz.read {w:World} {B:Nat} {v:Value} {l:List Qo} (h:zaz w B v l):∃ ao cap,v=.slice ao l.length cap/\UQ w ao l:=by
 obtain ⟨xs,h1,h2,h3⟩:=h;rcases h1.2 with ⟨rfl,hn⟩ | ⟨g,cap,cur,rfl,hB,hg,hnc,hcm,hcs,htake⟩
 ·have:l=[]:=List.eq_nil_of_length_eq_zero hn;subst this;exact ⟨none,0,rfl,UQ.nil _ _⟩
 ·refine ⟨some ⟨g,0,none⟩,cap,rfl,?_⟩;intro i o hi;obtain ⟨n1,a1,l1,c1,n2,a2,l2,c2,e0,e1,e2,e3,hq⟩:=h3 i o hi;have hc:∀ j u,xs[j]?=some u->w.cell? ⟨g,0 + j,none⟩=some u:=by
   intro j u hu;have:=h1.cells (g:=g) rfl j u hu;have ha:(⟨g,0,none⟩:Addr).add j=⟨g,0 + j,none⟩:=by
    unfold Addr.add; split
    ·subst j; rfl
    ·rfl
   rw [ha] at this; exact this
  exact ⟨g,0,n1,a1,l1,c1,n2,a2,l2,c2,rfl,⟨hc _ _ e0,hc _ _ e1,hc _ _ e2,hc _ _ e3,trivial,trivial,trivial,trivial⟩,hq⟩
theorem zg4 {w:World} {b:Nat}:∀ (l:List Qo) (off:Nat),
  (∀ i o,l[i]?=some o->∃ (n1:Bool) (a1:Option Addr) (l1 c1:Nat) (n2:Bool) (a2:Option Addr) (l2 c2:Nat),
   zeP w b (off + i * 4) (.bool n1) (.slice a1 l1 c1) (.bool n2) (.slice a2 l2 c2)/\QV w (.agg #[.bool n1,.slice a1 l1 c1,.bool n2,.slice a2 l2 c2]) o) ->
  ∃ news:List Value,news.length=l.length * 4/\(∀ j u,news[j]?=some u->w.cell? ⟨b,off + j,none⟩=some u)/\(∀ u∈news,u.oneCell'=true)/\(∀ u∈news,zaE u)/\∀ i o,l[i]?=some o->QAt w news i o
 | [],off,_ => ⟨[],rfl,λ j u h => by simp at h,λ u h => by simp at h,λ u h => by simp at h,λ i o h => by simp at h⟩
 | o :: l,off,h => by
  obtain ⟨news,h1,h2,h3,h4,h5⟩:=zg4 (b:=b) (w:=w) l (off + 4) (λ i o hi => by
   obtain ⟨n1,a1,l1,c1,n2,a2,l2,c2,hf,hq⟩:=h (i + 1) o (by simpa using hi);rw [show off + (i + 1) * 4=off + 4 + i * 4 by omega] at hf;exact ⟨n1,a1,l1,c1,n2,a2,l2,c2,hf,hq⟩)
  obtain ⟨n1,a1,l1,c1,n2,a2,l2,c2,hf,hq⟩:=h 0 o rfl;rw [show off + 0 * 4=off by omega] at hf;refine ⟨.bool n1 :: .slice a1 l1 c1 :: .bool n2 :: .slice a2 l2 c2 :: news,by simp [h1]; omega,?_,?_,?_,?_⟩
  ·intro j u hj
   match j,hj with
   | 0,hj => simp at hj; subst hj; exact hf.c0
   | 1,hj => simp at hj; subst hj; exact hf.c1
   | 2,hj => simp at hj; subst hj; exact hf.c2
   | 3,hj => simp at hj; subst hj; exact hf.c3
   | j + 4,hj =>
    simp at hj;have:=h2 j u hj;rw [show off + (j + 4)=off + 4 + j by omega]; exact this
  ·intro u hu;simp at hu;rcases hu with rfl | rfl | rfl | rfl | hu
   ·rfl
   ·rfl
   ·rfl
   ·rfl
   ·exact h3 u hu
  ·intro u hu;simp at hu;rcases hu with rfl | rfl | rfl | rfl | hu
   ·intro k z e; cases e
   ·intro k z e; cases e
   ·intro k z e; cases e
   ·intro k z e; cases e
   ·exact h4 u hu
  ·intro i x hi
   match i,hi with
   | 0,hi =>
    simp at hi; subst hi;exact ⟨n1,a1,l1,c1,n2,a2,l2,c2,rfl,rfl,rfl,rfl,hq⟩
   | i + 1,hi =>
    obtain ⟨m1,b1,k1,d1,m2,b2,k2,d2,e0,e1,e2,e3,hr⟩:=h5 i x (by simpa using hi);refine ⟨m1,b1,k1,d1,m2,b2,k2,d2,?_,?_,?_,?_,hr⟩
    ·rw [show (i + 1) * 4=i * 4 + 1 + 1 + 1 + 1 by omega]; simpa using e0
    ·rw [show (i + 1) * 4 + 1=(i * 4 + 1) + 1 + 1 + 1 + 1 by omega]; simpa using e1
    ·rw [show (i + 1) * 4 + 2=(i * 4 + 2) + 1 + 1 + 1 + 1 by omega]; simpa using e2
    ·rw [show (i + 1) * 4 + 3=(i * 4 + 3) + 1 + 1 + 1 + 1 by omega]; simpa using e3
section
variable {ops : Array Oper} {rest : List Oper} {o : Oper} {a : Act} {Q : Exit → Act → World → Prop}
theorem zdT (w W:World) (ty:TypeId) (B:Nat) (v:Value) (l m:List Qo) (ao:Option Addr) (c:Nat) (hown:zaz w B v l) (hB:B<=w.heap.size) (hb:Below B W w) (hm:UQ w ao m) (hne:0 < m.length) (hl:l.length + m.length<=1000000) :
  ∃ v' w',(Builtin.append_ #[33,33] ty #[v,.slice ao m.length c]).run Tryz.prog w=.ok v' w'/\zaz w' B v' (l ++ m)/\Below B W w'/\w.heap.size<=w'.heap.size/\w.grownBy w' v.ownBlock:=by
 obtain ⟨i0,hi,hz0,hz1,hz2⟩:=info_parts Tryz.info32;obtain ⟨xs,hrow,hno,hel⟩:=hown;obtain ⟨b,off,rfl⟩:∃ b off,ao=some ⟨b,off,none⟩:=by
  obtain ⟨b,off,_,_,_,_,_,_,_,_,e,_⟩:=hm 0 m[0] (gE hne);exact ⟨b,off,e⟩
 obtain ⟨news,k1,k2,k3,k4,k5⟩:=zg4 (w:=w) (b:=b) m off (λ i q hi => by
  obtain ⟨b',off',n1,a1,l1,c1,n2,a2,l2,c2,e,hf,hq⟩:=hm i q hi
  cases e
  exact ⟨n1,a1,l1,c1,n2,a2,l2,c2,hf,hq⟩)
 obtain ⟨v',w',hr,h3,h4,h5⟩:=zcf (P:=Tryz.prog) w B 33 ty 32 i0 (.agg #[.bool false,.slice none 0 0,.bool false,.slice none 0 0]) Tryz.underlying33 hi hz0
  (by rw [hz1]; rfl) (by rw [hz1]; decide) v l.length xs (by rw [hz1]; exact hrow) hno ⟨b,off,none⟩ m.length c news (by rw [hz1]; exact k1)
  (by
   intro j u hj;have:=k2 j u hj;have ha:(⟨b,off,none⟩:Addr).add j=⟨b,off + j,none⟩:=by
    unfold Addr.add; split
    ·subst j; rfl
    ·rfl
   rw [ha]; exact this)
  k3 (by unfold maxLen; omega) (by rw [hz2]; omega) hB hne
  (by intro u hu k z e; simp [Value.cells] at hu; rcases hu with rfl | rfl | rfl | rfl <;> cases e) k4
 refine ⟨v',w',hr,⟨xs ++ news,?_,h5,?_⟩,?_,h4.size,h4⟩
 ·rw [List.length_append]; rw [hz1] at h3; exact h3
 ·have hxl:xs.length=l.length * 4:=hrow.1;intro i q hq;rcases Nat.lt_or_ge i l.length with hi' | hi'
  ·rw [List.getElem?_append_left hi'] at hq;obtain ⟨m1,b1,j1,d1,m2,b2,j2,d2,e0,e1,e2,e3,hr'⟩:=hel i q hq;refine ⟨m1,b1,j1,d1,m2,b2,j2,d2,?_,?_,?_,?_,hr'.grown h4 hno⟩
   ·rw [List.getElem?_append_left (by omega)]; exact e0
   ·rw [List.getElem?_append_left (by omega)]; exact e1
   ·rw [List.getElem?_append_left (by omega)]; exact e2
   ·rw [List.getElem?_append_left (by omega)]; exact e3
  ·rw [List.getElem?_append_right hi'] at hq;obtain ⟨m1,b1,j1,d1,m2,b2,j2,d2,e0,e1,e2,e3,hr'⟩:=k5 (i - l.length) q hq;refine ⟨m1,b1,j1,d1,m2,b2,j2,d2,?_,?_,?_,?_,hr'.grown h4 hno⟩
   ·rw [List.getElem?_append_right (by omega),show i * 4 - xs.length=(i - l.length) * 4 by omega]; exact e0
   ·rw [List.getElem?_append_right (by omega),show i * 4 + 1 - xs.length=(i - l.length) * 4 + 1 by omega]; exact e1
   ·rw [List.getElem?_append_right (by omega),show i * 4 + 2 - xs.length=(i - l.length) * 4 + 2 by omega]; exact e2
   ·rw [List.getElem?_append_right (by omega),show i * 4 + 3 - xs.length=(i - l.length) * 4 + 3 by omega]; exact e3
 ·refine hb.grown h4 hB ?_;intro k hk;exact (hrow.lt k hk).1
theorem zaB {P:Program} {next:Act->World->Prop} {T:TypeId} {v u v':Value} {w w':World} (s x:Operand) (ho:o.op=.call { callee:=.builtin .append,args:=#[s,x],argTypes:=#[T,T] }) (hs:a.eval s=v) (hx:a.eval x=u)
  (hr:(Builtin.append_ #[T,T] o.type #[v,u]).run P w=.ok v' w') (hK:next (a.put o.dst v') w'):o.wp P a w next Q:=by
 unfold Oper.wp;simp [execOp,ho,resolve,invoke,builtin,hs,hx,hr,Result.andThen];exact hK
theorem zmY (w W:World) (B:Nat) (v:Value) (l m:List Qo) (ao:Option Addr) (c:Nat) (hgd:o.guard=none) (s x:Operand) (ho:o.op=.call { callee:=.builtin .append,args:=#[s,x],argTypes:=#[33,33] })
  (hs:a.eval s=v) (hx:a.eval x=.slice ao m.length c) (hown:zaz w B v l) (hB:B<=w.heap.size) (hb:Below B W w) (hm:UQ w ao m) (hne:0 < m.length) (hl:l.length + m.length<=1000000)
  (hK:∀ v' w',zaz w' B v' (l ++ m)->Below B W w'->w.heap.size<=w'.heap.size->w.grownBy w' v.ownBlock->wpList Tryz.prog ops Q rest (a.put o.dst v') w') :
  wpList Tryz.prog ops Q (o :: rest) a w:=by
 obtain ⟨v',w',hr,h1,h2,h3,h4⟩:=zdT w W o.type B v l m ao c hown hB hb hm hne hl;refine wpList_plain hgd λ K hK' => ?_
 unfold Oper.wp;simp [execOp,ho,resolve,invoke,builtin,hs,hx,hr,Result.andThen];exact hK' _ _ (hK v' w' h1 h2 h3 h4)
end
theorem zai.abs {w:World} {ng:Bool} {ao:Option Addr} {n cap:Nat} {z:Int} (h:zai w (.agg #[.bool ng,.slice ao n cap]) z):zai w (.agg #[.bool false,.slice ao n cap]) (z.natAbs:Int):=by
 obtain ⟨neg,ao',L,cap',e,h1,h2,h3,h4,h5,h6⟩:=h
 cases e
 have hn:¬ ((z.natAbs:Int) < 0):=by omega
 refine ⟨false,_,L,_,rfl,hii (by simp [hn]),hii ?_,hii ?_,h4,h5,h6⟩
 ·rw [Int.natAbs_natCast]; exact h2.out
 ·rw [Int.natAbs_natCast]; exact h3.out
theorem zfC (a:Value) (n:Nat) (w:World) (ha:zai w a (n:Int)) (hE:Env w) :
  Calls Tryz.prog 187 #[a] w λ e w' => (∃ t:ByteArray,e=.returned (.tuple #[.string t,.int .i64 0])/\t.size=(Lib.decDigits n).length)/\BH w w' :=
 (zhO a n w ha hE).mono λ e w' ⟨he,hb⟩ => ⟨⟨_,he,by rw [zeE]; simp [ByteArray.size]⟩,hb⟩
theorem zdR (v:Value) (r:Rat) (w:World) (h:zac w v r) (hE:Env w) :
  Calls Tryz.prog 176 #[v] w λ e w' => e=.returned (.bool (zbX r))/\BH w w':=by
 have hbw:=Below.refl w.heap.size w;obtain ⟨A0,hA0⟩:∃ A0,A0=(Lib.decDigits r.num.natAbs).length:=⟨_,rfl⟩;obtain ⟨A1,hA1⟩:∃ A1,A1=(Lib.decDigits r.den).length:=⟨_,rfl⟩;have hres:zbX r=(decide (A0<=20) && decide (A1<=20)):=by rw [hA0,hA1]; rfl
 rw [hres];obtain ⟨J1,ao1,n1,Y1,J2,ao2,n2,Y2,rfl,h1,h2⟩:=h;have HV1:=hii (zai.abs h1);have HV2:=hii h2;clear h1 h2 hres;have HA0:=hii hA0;have HA1:=hii hA1;clear hA0 hA1;go_enter func176,ntmps176;go_upto_region 1 with fail;have X1:=zaX.new w (.bool J1) (.slice ao1 n1 Y1) (.bool J2) (.slice ao2 n2 Y2) 32;have hb:=bA w (.cells #[.bool J1,.slice ao1 n1 Y1,.bool J2,.slice ao2 n2 Y2] 32);generalize w.alloc (.cells #[.bool J1,.slice ao1 n1 Y1,.bool J2,.slice ao2 n2 Y2] 32)=v1 at *;have HV1:=hup HV1 hb;have HV2:=hup HV2 hb;have hE:=hE.mono hb;have hbw:=bu hbw hb;clear hb;obtain ⟨x1a,x1b,x1c,x1d,_,_,_,_⟩:=id X1;go_wp2_with fail;clear x1a x1b x1c x1d X1;have X2:=zaX.new v1 (.bool false) (.slice ao1 n1 Y1) (.bool J2) (.slice ao2 n2 Y2) 30;have hb:=bA v1 (.cells #[.bool false,.slice ao1 n1 Y1,.bool J2,.slice ao2 n2 Y2] 30);obtain ⟨g,hg⟩:=exi (v1.heap.size);rw [<- hg] at X2 |-;clear hg;generalize v1.alloc (.cells #[.bool false,.slice ao1 n1 Y1,.bool J2,.slice ao2 n2 Y2] 30)=wl at *;have HV1:=hup HV1 hb;have HV2:=hup HV2 hb;have hE:=hE.mono hb;have hbw:=bu hbw hb;clear hb;go_loopw [15] (λ s wr => (s=.int .i64 0\/(s=.int .i64 1/\Hid (A0<=20))\/(s=.int .i64 2/\Hid (A0<=20/\A1<=20)))/\Env wr/\BH wl wr) (λ s _ => 2 - (intOf s).toNat)
 case atStart => exact ⟨.inl rfl,hE,br⟩
 case round =>
  clear hE;obtain ⟨hs,hE,hbr⟩:=hrel;obtain ⟨c0,c1,c2,c3,_,_,_,_⟩:=X2.mono hbr;have HV1:=hii (HV1.out.mono hbr);have HV2:=hii (HV2.out.mono hbr);have hbw:=bu hbw hbr;rcases hs with rfl | ⟨rfl,HA⟩ | ⟨rfl,HA⟩
  ·go_upto_region 4 with fail;have Y:=Box.new wr (.bool false) (.slice ao1 n1 Y1) 30;have hb:=bA wr (.cells #[.bool false,.slice ao1 n1 Y1] 30);generalize wr.alloc (.cells #[.bool false,.slice ao1 n1 Y1] 30)=wa at *;have HV1:=hup HV1 hb;have hE:=hE.mono hb;have hbw:=bu hbw hb;have hbr:=bu hbr hb;clear hb c0 c1 c2 c3;obtain ⟨d0,d1,_,_⟩:=Y;go_wp2_with fail;go_fit (zfC _ r.num.natAbs wa HV1.out hE);rintro e v2 ⟨⟨t,rfl,hts⟩,hb⟩;have HT:Hid (t.size=A0):=hii (hts.trans HA0.out.symm);have hE:=hE.mono hb;have hbw:=bu hbw hb;have hbr:=bu hbr hb;clear hb d0 d1 hts
   by_cases hle:t.size<=20
   ·have hg1:¬ ((20:Int) < (t.size:Int)):=by omega
    have hg2:decide ((20:Int) < (t.size:Int))=false:=by simpa using hg1
    go_wp2;go_roundw
    case rel => exact ⟨.inr (.inl ⟨rfl,hii (by rw [<- HT.out]; exact hle)⟩),hE,hbr⟩
    case measure => simp [intOf]
   ·have hg1:(20:Int) < (t.size:Int):=by omega
    have hg2:decide ((20:Int) < (t.size:Int))=true:=by simpa using hg1
    go_wp2;go_ret;refine ⟨?_,hbw⟩;have:¬ A0<=20:=by rw [<- HT.out]; exact hle
    simp [this]
  ·go_upto_region 4 with fail;have Y:=Box.new wr (.bool J2) (.slice ao2 n2 Y2) 30;have hb:=bA wr (.cells #[.bool J2,.slice ao2 n2 Y2] 30);generalize wr.alloc (.cells #[.bool J2,.slice ao2 n2 Y2] 30)=wa at *;have HV2:=hup HV2 hb;have hE:=hE.mono hb;have hbw:=bu hbw hb;have hbr:=bu hbr hb;clear hb c0 c1 c2 c3;obtain ⟨d0,d1,_,_⟩:=Y;go_wp2_with fail;go_fit (zfC _ r.den wa HV2.out hE);rintro e v2 ⟨⟨t,rfl,hts⟩,hb⟩;have HT:Hid (t.size=A1):=hii (hts.trans HA1.out.symm);have hE:=hE.mono hb;have hbw:=bu hbw hb;have hbr:=bu hbr hb;clear hb d0 d1 hts
   by_cases hle:t.size<=20
   ·have hg1:¬ ((20:Int) < (t.size:Int)):=by omega
    have hg2:decide ((20:Int) < (t.size:Int))=false:=by simpa using hg1
    go_wp2;go_roundw
    case rel => exact ⟨.inr (.inr ⟨rfl,hii ⟨HA.out,by rw [<- HT.out]; exact hle⟩⟩),hE,hbr⟩
    case measure => simp [intOf]
   ·have hg1:(20:Int) < (t.size:Int):=by omega
    have hg2:decide ((20:Int) < (t.size:Int))=true:=by simpa using hg1
    go_wp2;go_ret;refine ⟨?_,hbw⟩;have:¬ A1<=20:=by rw [<- HT.out]; exact hle
    simp [this]
  ·go_wp2;go_ret;exact ⟨by simp [HA.out.1,HA.out.2],hbw⟩
theorem zhv {l:List Qo} (h:none∈l):za3 l=1:=by
 have:zlU l=true:=by unfold zlU; rw [List.any_eq_true]; exact ⟨none,h,rfl⟩
 unfold za3; rw [if_pos this]
theorem zfy {l:List Qo} (h:∀ x∈l,x.isNone=false):zlU l=false:=by
 unfold zlU; rw [List.any_eq_false]; intro x hx; rw [h x hx]; simp
theorem zit {l:List Qo} (hb:∀ x∈l,x.isNone=false) (h:∀ x∈l,zhy x=false):za3 l=0:=by
 have:zfe l=false:=by unfold zfe; rw [List.any_eq_false]; intro x hx; rw [h x hx]; simp
 unfold za3; rw [zfy hb,this]; rfl
def St (E:Int) (l:List Qo):Prop:=(∀ x∈l,x.isNone=false)/\E=if zfe l then 3 else 0
theorem St.start:St 0 []:=⟨λ x h => by simp at h,rfl⟩
theorem zdZ (l:List Qo) (o:Qo):zfe (l ++ [o])=(zfe l || zhy o):=by simp [zfe]
theorem zeY {l:List Qo} (h:∀ x∈l,x.isNone=false) (r:Rat):∀ x∈l ++ [some r],x.isNone=false:=by
 intro x hx;rcases List.mem_append.1 hx with hx | hx
 ·exact h x hx
 ·simp at hx; subst hx; rfl
theorem St.short {E:Int} {l:List Qo} {r:Rat} (h:St E l) (hs:zbX r=true):St E (l ++ [some r]) :=
 ⟨zeY h.1 r,by rw [zdZ]; simp [zhy,hs,h.2]⟩
theorem St.long {E:Int} {l:List Qo} {r:Rat} (h:St E l) (hs:zbX r=false):St 3 (l ++ [some r]) :=
 ⟨zeY h.1 r,by rw [zdZ]; simp [zhy,hs]⟩
theorem St.err {E:Int} {l:List Qo} (h:St E l):E=za3 l:=by
 rw [h.2]; unfold za3; rw [zfy h.1]
 cases zfe l <;> rfl
theorem ziF {rows:List (List Qo)} {k:Nat} {row:List Qo} (h:rows[k]?=some row):(rows.take (k + 1)).flatten=(rows.take k).flatten ++ row:=by
 rw [List.take_add_one,h]; simp
theorem zio {l row:List Qo} {j:Nat} {o:Qo} (h:row[j]?=some o):l ++ row.take (j + 1)=(l ++ row.take j) ++ [o]:=by
 rw [List.take_add_one,h]; simp
theorem zfZ (rows:List (List Qo)) (aa:Option Addr) (ca:Nat) (w:World) (hl:rows.length<=1000000) (hr:∀ r∈rows,r.length<=1000000) (ua:UM w aa rows) (hE:Env w) :
  Calls Tryz.prog 149 #[.slice aa rows.length ca] w λ e w' => e=.returned (.int .i64 (za3 rows.flatten))/\BH w w':=by
 have hbw:=Below.refl w.heap.size w;have Hr:=hii hr;clear hr;go_enter func149,ntmps149;go_wp2_with fail;go_loopw [3,10] (λ s c wr => ∃ (k:Nat) (E:Int),k<=rows.length/\c=.int .i64 k/\s=.int .i64 E/\Hid (St E (rows.take k).flatten)/\Env wr/\BH w wr) (λ _ c _ => rows.length - (intOf c).toNat)
 case atStart => exact ⟨0,0,Nat.zero_le _,rfl,rfl,hii St.start,hE,hbw⟩
 case round =>
  clear hbw hE;obtain ⟨k,E,hk,rfl,rfl,HS,hE,hbw⟩:=hrel
  by_cases hlt:k < rows.length
  ·obtain ⟨row,hrow⟩:∃ x,rows[k]?=some x:=⟨rows[k],gE hlt⟩;have hrl:=Hr.out row (List.mem_of_getElem? hrow);obtain ⟨b0,off0,ar,cr,ea,hc,uR⟩:=(ua.mono hbw) k row hrow;have HF:=hii (ziF hrow);have HM:Hid (row∈rows):=hii (List.mem_of_getElem? hrow);obtain ⟨pre,hpre⟩:∃ pre,pre=(rows.take k).flatten:=⟨_,rfl⟩;rw [<- hpre] at HS HF;clear hrow hpre;subst ea;obtain ⟨wo,rfl⟩:=exi wr;have hb1:=Below.refl wo.heap.size wo;go_wp2_with fail;clear hc;go_loopw [3,16] (λ s c wr => ∃ (j:Nat) (E:Int),j<=row.length/\c=.int .i64 j/\s=.int .i64 E/\Hid (St E (pre ++ row.take j))/\Env wr/\BH wo wr) (λ _ c _ => row.length - (intOf c).toNat)
   case atStart => exact ⟨0,E,Nat.zero_le _,rfl,rfl,hii (by simpa using HS.out),hE,hb1⟩
   case round =>
    clear hb1 hE HS;obtain ⟨j,E,hj,rfl,rfl,HS,hE,hb1⟩:=hrel
    by_cases hlj:j < row.length
    ·obtain ⟨o,ho⟩:∃ x,row[j]?=some x:=⟨row[j],gE hlj⟩;obtain ⟨b1,off1,ngp,aop,np,capp,ngq,aoq,nq,capq,eb,FA,HVA⟩:=(uR.mono hb1) j o ho;have HP:=hii (zio (l:=pre) ho);have Ho:=hii ho;clear ho uR;subst eb;obtain ⟨cFA_0,cFA_1,cFA_2,cFA_3,_,_,_,_⟩:=id FA;go_upto_region 8 with fail;have Y:=zaX.new wr (.bool ngp) (.slice aop np capp) (.bool ngq) (.slice aoq nq capq) 32;have hb:=bA wr (.cells #[.bool ngp,.slice aop np capp,.bool ngq,.slice aoq nq capq] 32);generalize wr.alloc (.cells #[.bool ngp,.slice aop np capp,.bool ngq,.slice aoq nq capq] 32)=wa at *;have HVA:=HVA.mono hb;have hE:=hE.mono hb;have hb1:=bu hb1 hb;clear hb cFA_0 cFA_1 cFA_2 cFA_3 FA;obtain ⟨d0,d1,d2,d3,_,_,_,_⟩:=id Y
     cases o with
     | none =>
      go_wp2_with fail;go_fit (zeO _ false wa HVA.vq hE);rintro e v2 ⟨rfl,hb⟩;have hb1:=bu hb1 hb;have hbw:=bu hbw hb1;clear hb d0 d1 d2 d3;go_wp2;go_ret;refine ⟨?_,hbw⟩;rw [zhv (List.mem_flatten.2 ⟨row,HM.out,List.mem_of_getElem? Ho.out⟩)]; rfl
     | some r =>
      go_wp2_with fail;go_fit (zeO _ true wa HVA.vq hE);rintro e v2 ⟨rfl,hb⟩;have HVA:zac _ _ r:=HVA.mono hb;have Y:=Y.mono hb;have hE:=hE.mono hb;have hb1:=bu hb1 hb;clear hb d0 d1 d2 d3;obtain ⟨d0,d1,d2,d3,_,_,_,_⟩:=Y
      cases hs:zbX r with
      | true =>
       have Hs:=hii hs;go_wp2_with fail;go_fit (zdR _ r _ HVA hE);rw [hs];clear hs;rintro e v3 ⟨rfl,hb⟩;have hE:=hE.mono hb;have hb1:=bu hb1 hb;clear hb d0 d1 d2 d3;go_wp2;go_roundw
       case rel => exact ⟨j + 1,E,by omega,by go_num,rfl,hii (by rw [HP.out]; exact HS.out.short Hs.out),hE,hb1⟩
       case measure => simp [intOf]; omega
      | false =>
       have Hs:=hii hs;go_wp2_with fail;go_fit (zdR _ r _ HVA hE);rw [hs];clear hs;rintro e v3 ⟨rfl,hb⟩;have hE:=hE.mono hb;have hb1:=bu hb1 hb;clear hb d0 d1 d2 d3;go_wp2;go_roundw
       case rel => exact ⟨j + 1,3,by omega,by go_num,rfl,hii (by rw [HP.out]; exact HS.out.long Hs.out),hE,hb1⟩
       case measure => simp [intOf]; omega
    ·obtain rfl:j=row.length:=by omega
     have HS:Hid (St E (pre ++ row)):=hii (by have:=HS.out; rw [List.take_length] at this; exact this);have hbw:=bu hbw hb1;go_wp2;go_roundw
     case rel => exact ⟨k + 1,E,by omega,by go_num,rfl,hii (by rw [HF.out]; exact HS.out),hE,hbw⟩
     case measure => simp [intOf]; omega
  ·obtain rfl:k=rows.length:=by omega
   have HS:Hid (E=za3 rows.flatten):=hii (by have:=HS.out.err; rw [List.take_length] at this; exact this);go_wp2;go_ret;exact ⟨by rw [<- HS.out]; rfl,hbw⟩
theorem zbw (v:Value) (r:Rat) (s:Int) (w:World) (hs:Hid (zaU r.num=s)) (h:zac w v r) (hE:Env w) :
  Calls Tryz.prog 152 #[v] w λ e w' => e=.returned (.int .i64 s)/\BH w w':=by
 obtain ⟨J1,ao1,n1,Y1,J2,ao2,n2,Y2,rfl,h1,h2⟩:=h;have HV1:=hii h1;clear h1 h2;go_enter func152,ntmps152;go_upto_region 1 with fail;have X1:=zaX.new w (.bool J1) (.slice ao1 n1 Y1) (.bool J2) (.slice ao2 n2 Y2) 32;have hb0:=bA w (.cells #[.bool J1,.slice ao1 n1 Y1,.bool J2,.slice ao2 n2 Y2] 32);generalize w.alloc (.cells #[.bool J1,.slice ao1 n1 Y1,.bool J2,.slice ao2 n2 Y2] 32)=v1 at *;have HV1:=hii (HV1.out.mono hb0);have hE:=hE.mono hb0;obtain ⟨x1a,x1b,x1c,x1d,_,_,_,_⟩:=id X1;go_wp2_with fail;go_fit (zbu _ r.num s v1 hs HV1.out hE);rintro e v2 ⟨rfl,hb⟩;have hbw:=hb0.trans (hb.mono hb0.size);clear hb x1a x1b x1c x1d;go_wp2;go_ret;exact ⟨rfl,hbw⟩
theorem zfK (v:Value) (r:Rat) (w:World) (h:zac w v r) (hE:Env w) :
  Calls Tryz.prog 151 #[v] w λ e w' => e=.returned (.bool (zlu r))/\BH w w':=by
 have e0:zlu r=decide (zaU r.num < 0):=by rw [zgz]; rfl
 rw [e0];clear e0;obtain ⟨s,hs⟩:∃ s,zaU r.num=s:=⟨_,rfl⟩;rw [hs];have Hs:=hii hs;clear hs;obtain ⟨J1,ao1,n1,Y1,J2,ao2,n2,Y2,rfl⟩:=h.parts;go_enter func151,ntmps151;go_upto_region 1 with fail;have X1:=zaX.new w (.bool J1) (.slice ao1 n1 Y1) (.bool J2) (.slice ao2 n2 Y2) 32;have hb0:=bA w (.cells #[.bool J1,.slice ao1 n1 Y1,.bool J2,.slice ao2 n2 Y2] 32);generalize w.alloc (.cells #[.bool J1,.slice ao1 n1 Y1,.bool J2,.slice ao2 n2 Y2] 32)=v1 at *;have h:=h.mono hb0;have hE:=hE.mono hb0;obtain ⟨x1a,x1b,x1c,x1d,_,_,_,_⟩:=id X1;go_wp2_with fail;go_fit (zbw _ r s v1 Hs h hE);rintro e v2 ⟨rfl,hb⟩;have hbw:=hb0.trans (hb.mono hb0.size);clear hb x1a x1b x1c x1d;go_wp2
 all_goals go_ret
 all_goals exact ⟨by simp_all,hbw⟩
def zjh (g:Nat) (lb:Array Value) (p:List Qo->Bool) (l:List (List Qo)) (w:World):Prop :=
 ∀ (o:List Qo) (ar:Option Addr) (cr:Nat) (W:World),o∈l->UQ W ar o->Env W->BH w W->Calls Tryz.prog g (#[.slice ar o.length cr] ++ lb) W λ e W' => e=.returned (.bool (p o))/\BH W W'
def zkS (p:List Qo->Bool) (l:List (List Qo)):Int:=match l.findIdx? p with
 | some i => i
 | none => -1
theorem zj9 {p:List Qo->Bool} {l:List (List Qo)} {k:Nat} {o:List Qo} (hk:l[k]?=some o) (ho:p o=true) (h:∀ x∈l.take k,p x=false):zkS p l=k:=by
 have:l.findIdx? p=some k:=by
  rw [List.findIdx?_eq_some_iff_getElem];have hl:k < l.length:=by
   rcases Nat.lt_or_ge k l.length with h | h
   ·exact h
   ·rw [List.getElem?_eq_none h] at hk; cases hk
  refine ⟨hl,by rw [gE hl] at hk; cases hk; exact ho,λ j hj => ?_⟩;have:=h (l[j]'(by omega)) (List.mem_take_iff_getElem.2 ⟨j,by omega,rfl⟩);simp [this]
 unfold zkS;rw [this]
theorem zfi {p:List Qo->Bool} {l:List (List Qo)} (h:∀ x∈l,p x=false):zkS p l=-1:=by
 have:l.findIdx? p=none:=by rw [List.findIdx?_eq_none_iff]; exact h
 unfold zkS;rw [this]
theorem zka (p:List Qo->Bool) (l:List (List Qo)):decide (0<=zkS p l)=l.any p:=by
 cases h:l.any p with
 | false =>
  rw [List.any_eq_false] at h;rw [zfi (λ x hx => by have:=h x hx; simpa using this)]; rfl
 | true =>
  have:(l.findIdx? p).isSome:=by rw [List.findIdx?_isSome]; exact h
  unfold zkS
  cases hf:l.findIdx? p with
  | none => rw [hf] at this; cases this
  | some i => simp
theorem zgk (g:Nat) (lb:Array Value) (p:List Qo->Bool) (eg:∀ args w,(callFunc g args).run Tryz.prog w=.ok (.enter g args) w) (l:List (List Qo)) (aa:Option Addr) (ca:Nat) (w:World) (hl:l.length<=1000000000) (ua:UM w aa l) (hE:Env w) (hp:zjh g lb p l w) :
  Calls Tryz.prog 175 #[.slice aa l.length ca,.func (.func g) #[] lb] w λ e w' => e=.returned (.int .i64 (zkS p l))/\BH w w':=by
 have hbw:=Below.refl w.heap.size w;have hp:=hii hp;go_enter func175,ntmps175;go_wp2_with fail;go_loopw [8] (λ s wr => ∃ k:Nat,k<=l.length/\s=.int .i64 k/\Hid (∀ x∈l.take k,p x=false)/\Env wr/\BH w wr) (λ s _ => l.length - (intOf s).toNat)
 case atStart => exact ⟨0,Nat.zero_le _,rfl,hii (by simp),hE,hbw⟩
 case round =>
  clear hE hbw;obtain ⟨k,hk,rfl,HN,hE,hbw⟩:=hrel
  by_cases hlt:k < l.length
  ·obtain ⟨o,ho⟩:∃ x,l[k]?=some x:=⟨l[k],gE hlt⟩;obtain ⟨b1,off1,ar,cr,ea,FA,HVA⟩:=(ua.mono hbw) k o ho;have hcall:=hp.out o ar cr wr (List.mem_of_getElem? ho) HVA hE hbw;have Ho:=hii ho;clear ho HVA ua;subst ea
   cases hq:p o with
   | true =>
    rw [hq] at hcall;have Hq:=hii hq;clear hq;go_wp2_with (go_at_fn g; refine hcall.mono ?_; rintro e v2 ⟨rfl,hb⟩);have hbw:=bu hbw hb;go_ret;exact ⟨by rw [zj9 Ho.out Hq.out HN.out]; rfl,hbw⟩
   | false =>
    rw [hq] at hcall;have Hq:=hii hq;clear hq;go_wp2_with (go_at_fn g; refine hcall.mono ?_; rintro e v2 ⟨rfl,hb⟩);have hE:=hE.mono hb;have hbw:=bu hbw hb;go_roundw
    case rel =>
     refine ⟨k + 1,by omega,by go_num,hii λ x hx => ?_,hE,hbw⟩;rw [List.take_add_one,Ho.out] at hx;rcases List.mem_append.1 hx with h | h
     ·exact HN.out x h
     ·simp at h; subst h; exact Hq.out
    case measure => simp [intOf]; omega
  ·obtain rfl:k=l.length:=by omega
   go_wp2;go_ret;exact ⟨by rw [zfi (λ x hx => HN.out x (by rw [List.take_length]; exact hx))]; rfl,hbw⟩
theorem zdO (g:Nat) (lb:Array Value) (p:List Qo->Bool) (eg:∀ args w,(callFunc g args).run Tryz.prog w=.ok (.enter g args) w) (l:List (List Qo)) (aa:Option Addr) (ca:Nat) (w:World) (hl:l.length<=1000000000) (ua:UM w aa l) (hE:Env w) (hp:zjh g lb p l w) :
  Calls Tryz.prog 147 #[.slice aa l.length ca,.func (.func g) #[] lb] w λ e w' => e=.returned (.bool (l.any p))/\BH w w':=by
 have hC:=zgk g lb p eg l aa ca w hl ua hE hp;rw [<- zka];generalize zkS p l=i at hC |-;clear ua hp eg;go_enter func147,ntmps147;go_wp2_with fail;(with_reducible refine hC.mono ?_);rintro e v2 ⟨rfl,hb⟩;go_wp2
 all_goals go_ret
 all_goals exact ⟨by simp_all,hb⟩
theorem zfL (ar:Option Addr) (n cr m g:Nat) (w:World) (hc:w.cell? ⟨g,0,none⟩=some (.int .i64 m)) :
  Calls Tryz.prog 148 #[.slice ar n cr,.pointer (some ⟨g,0,none⟩)] w λ e w' => e=.returned (.bool (n != m))/\BH w w':=by
 have hbw:=Below.refl w.heap.size w
 by_cases hnm:n=m
 ·subst hnm;go_enter func148,ntmps148;go_wp2;go_ret;exact ⟨by simp,hbw⟩
 ·have h1:((n:Int) != (m:Int))=true:=by rw [bne_iff_ne]; omega
  have h2:(n != m)=true:=by rw [bne_iff_ne]; exact hnm
  rw [h2];go_enter func148,ntmps148;go_wp2;go_ret;exact ⟨by simp [h1],hbw⟩
def zfz (w:World) (B:Nat) (v:Value) (xs:List Value):Prop:=w.ownsRow B 33 1 v xs.length xs
theorem zfz.mono {w w':World} {B:Nat} {v:Value} {xs:List Value} (h:zfz w B v xs) (hb:BH w w'):zfz w' B v xs:=zbg h hb
theorem Tryz.info33:(Tryz.prog.info? 33).map (λ i => (i.zero,i.size,i.bytes))=some (some (.slice none 0 0),1,24):=by kernel_rfl
theorem zib (w W:World) (ty:TypeId) (B:Nat) (v:Value) (xs ys:List Value) (b off c:Nat) (hown:zfz w B v xs) (hB:B<=w.heap.size) (hb:Below B W w)
  (hy:∀ j u,ys[j]?=some u->w.cell? ⟨b,off + j,none⟩=some u) (h1:∀ u∈ys,u.oneCell'=true) (hl:xs.length + ys.length<=1000000) :
  ∃ v' w',(Builtin.append_ #[103,103] ty #[v,.slice (some ⟨b,off,none⟩) ys.length c]).run Tryz.prog w=.ok v' w'/\zfz w' B v' (xs ++ ys)/\Below B W w'/\w.heap.size<=w'.heap.size:=by
 obtain ⟨i0,hi,hz0,hz1,hz2⟩:=info_parts Tryz.info33;obtain ⟨v',w',hr,h3,h4,h5⟩:=run_append_own (P:=Tryz.prog) w B 103 ty 33 i0 (.slice none 0 0) i0.size i0.bytes Tryz.underlying103 hi hz0 rfl rfl (by rw [hz1]; rfl) (by rw [hz1]; decide) v xs.length xs (by rw [hz1]; exact hown) ⟨b,off,none⟩ ys.length c ys (by rw [hz1]; omega)
  (by
   intro j u hj;have:=hy j u hj;have ha:(⟨b,off,none⟩:Addr).add j=⟨b,off + j,none⟩:=by
    unfold Addr.add; split
    ·subst j; rfl
    ·rfl
   rw [ha]; exact this)
  h1 (by unfold maxLen; omega) (by rw [hz2]; omega) hB
 refine ⟨v',w',hr,?_,hb.grown h4 hB λ k hk => (hown.lt k hk).1,h4.size⟩;unfold zfz;rw [List.length_append]; rw [hz1] at h3; exact h3
end Go.Proofs.YtfgffkmddanjjaaGreatDoor
