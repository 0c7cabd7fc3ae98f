/-
  What the checks of chapter 14 return, as functions of the numbers.
-/
import Derived.Test.YtfgffkmddanjjaaGreatDoorOQ
import Derived.Test.YtfgffkmddanjjaaGreatDoorFlowX
import Derived.Lib.SliceRun
import Derived.Laws.CopyRow
set_option linter.unusedVariables false
set_option linter.unusedSimpArgs false
set_option maxRecDepth 100000
set_option maxHeartbeats 25600000
namespace Go.Proofs.YtfgffkmddanjjaaGreatDoor
open _root_.Go.Proofs.Tryz
open Go.RowKit
variable {e:Ending} {l:List Qo} {xs:List Vl} {g i j k:Nat} {G:Nat->Prop} {ao:OA} {v:Vl} {w':Wo}
def zcc(r:Rat):Bool:=decide ((Lib.decDigits r.num.natAbs).length<=20) && decide ((Lib.decDigits r.den).length<=20)
def zna(l:List Qo):Bool:=l.any (·.isNone)
def zgY:Qo->Bool
 |some r=>!zcc r
 |none=>false
def zf4(l:List Qo):Bool:=l.any zgY
def zbb(l:List Qo):Nat:=if zna l then 1 else if zf4 l then 3 else 0
def zgW:Qo->Bool
 |some r=>decide (r.num<0)
 |none=>false
def znF(l:List Qo):Bool:=l.any zgW
def zeb:Qo->Rat
 |some r=>r
 |none=>0
structure Prg where
 A:List (List Qo)
 B:List Qo
 C:List Qo
def Prg.all(p:Prg):List Qo:=p.A.flatten++p.B++p.C
def Prg.err(p:Prg):Nat :=
 if p.B.length<1\/14<p.B.length\/p.C.length<1\/400<p.C.length\/p.A.length≠p.B.length then 6
 else if p.A.any (λr=>r.length != p.C.length)then 6
 else if zbb p.all≠0 then zbb p.all
 else if znF p.B then 7 else 0
def zpQ(A:List (List Rat))(k:Nat):List Rat:=A.map λr=>r.getD k 0
def UM(w:Wo)(ao:OA)(rows:List (List Qo)):Prop :=
 ∀i row,rows[i]?=some row->∃b off ar cr,ao=sD b off/\w.cell? ⟨b,off+i,none⟩=some (.slice ar row.length cr)/\UQ w ar row
theorem UM.mono{w:Wo}{l:List (List Qo)}(h:UM w ao l)(hb:BH w w'):UM w' ao l:=by
 intro i row hi;obtain⟨b,off,ar,cr,e,hc,hq⟩:=h i row hi;exact⟨b,off,ar,cr,e,(hb.cell (zaf hc)).trans hc,hq.mono hb⟩
theorem UM.nil(w:Wo)(ao:OA):UM w ao []:=λi o h=>by simp at h
def zoz(w:Wo)(v:Vl)(p:Prg):Prop :=
 ∃aA cA aB cB aC cC,v=.agg #[.slice aA p.A.length cA,.slice aB p.B.length cB,.slice aC p.C.length cC]/\UM w aA p.A/\UQ w aB p.B/\UQ w aC p.C
theorem zoz.mono{w:Wo}{p:Prg}(h:zoz w v p)(hb:BH w w'):zoz w' v p:=by
 obtain⟨aA,cA,aB,cB,aC,cC,e,h1,h2,h3⟩:=h;exact⟨aA,cA,aB,cB,aC,cC,e,h1.mono hb,h2.mono hb,h3.mono hb⟩
theorem zhx(z:Int):decide (zaB z<0)=decide (z<0):=by
 unfold zaB
 split
 ·next h=>subst h;rfl
 ·split
  ·next h=>simp[h]
  ·next h=>simp[h]
def zni(g:Nat)(lb:Array Vl)(p:Qo->Bool)(l:List Qo)(w:Wo):Prop :=
 ∀(o:Qo)(v:Vl)(W:Wo),o∈l->QV W v o->Env W->BH w W->CP g (#[v]++lb) W λe W'=>e=.returned (.bool (p o))/\BH W W'
def zhS(p:Qo->Bool)(l:List Qo):Int:=match l.findIdx? p with
 |some i=>i
 |none=>-1
theorem zlk{p:Qo->Bool}{o:Qo}(hk:l[k]?=some o)(ho:p o=true)(h:∀x∈l.take k,p x=false):zhS p l=k:=by
 have:l.findIdx? p=some k:=by
  rw[List.findIdx?_eq_some_iff_getElem];have hl:k<l.length:=by
   rcases Nat.lt_or_ge k l.length with h|h
   ·exact h
   ·rw[List.getElem?_eq_none h]at hk;cases hk
  exact dF
 unfold zhS;rw[this]
theorem zf8{p:Qo->Bool}(h:∀x∈l,p x=false):zhS p l=-1:=by
 have:l.findIdx? p=none:=by rw[List.findIdx?_eq_none_iff];exact h
 unfold zhS;rw[this]
theorem zll(p:Qo->Bool)(l:List Qo):decide (0<=zhS p l)=l.any p:=by
 cases h:l.any p with
 |false=>
  rw[List.any_eq_false]at h;rw[zf8 (λx hx=>by have:=h x hx;simpa using this)];rfl
 |true=>
  have:(l.findIdx? p).isSome:=by rw[List.findIdx?_isSome];exact h
  unfold zhS
  cases hf:l.findIdx? p with
  |none=>rw[hf]at this;cases this
  |some i=>simp
theorem zd6(g:Nat)(lb:Array Vl)(p:Qo->Bool)(eg:∀args w,(callFunc g args).run Tryz.prog w=.ok (.enter g args) w)(l:List Qo)(aa:OA)(ca:Nat)(w:Wo)(hl:l.length<=1000000000)(ua:UQ w aa l)(hE:Env w)(hp:zni g lb p l w) :
  CP 144 #[.slice aa l.length ca,.func (.func g) #[] lb] w λe w'=>e=.returned (.int .i64 (zhS p l))/\BH w w':=by
 have hbw:=Below.refl w.heap.size w;have hp:=hii hp;go_enter func144,ntmps144;go_wp2_with fail;go_loopw [8] (λs wr=>∃k:Nat,k<=l.length/\s=.int .i64 k/\Hid (∀x∈l.take k,p x=false)/\Env wr/\BH w wr) (λs _=>l.length-(intOf s).toNat)
 case atStart=>exact⟨0,Nat.zero_le _,rfl,hii sM,hE,hbw⟩
 case round=>
  clear hE hbw;obtain⟨k,hk,rfl,HN,hE,hbw⟩:=hrel
  by_cases hlt:k<l.length
  ·obtain⟨o,ho⟩:∃x,l[k]?=some x:=⟨l[k],gE hlt⟩;obtain⟨b1,off1,ngp,aop,np,capp,ngq,aoq,nq,capq,ea,FA,HVA⟩:=(ua.mono hbw) k o ho;have hcall:=hp.o o _ wr (List.mem_of_getElem? ho) HVA hE hbw;have Ho:=hii ho;clear ho HVA ua;subst ea;obtain⟨cFA_0,cFA_1,cFA_2,cFA_3,_,_,_,_⟩:=id FA
   cases hq:p o with
   |true=>
    rw[hq]at hcall;have Hq:=hii hq;clear hq;go_wp2_with (go_at_fn g;refine hcall.mono ?_;rintro e v2⟨rfl,hb⟩);have hbw:=bu hbw hb;go_ret;exact⟨by rw[zlk Ho.o Hq.o HN.o];rfl,hbw⟩
   |false=>
    rw[hq]at hcall;have Hq:=hii hq;clear hq;go_wp2_with (go_at_fn g;refine hcall.mono ?_;rintro e v2⟨rfl,hb⟩);have hE:=hE.mono hb;have hbw:=bu hbw hb;go_roundw
    case rel=>
     refine⟨k+1,oM,gM,hii λx hx=>?_,hE,hbw⟩;rw[List.take_add_one,Ho.o]at hx;rcases List.mem_append.1 hx with h|h
     ·exact HN.o x h
     ·simp at h;subst h;exact Hq.o
    case measure=>exact mM
  ·obtain rfl:k=l.length:=oM;go_wp2;go_ret;exact⟨by rw[zf8 (λx hx=>HN.o x (by rw[List.take_length];exact hx))];rfl,hbw⟩
theorem zbo(g:Nat)(lb:Array Vl)(p:Qo->Bool)(eg:∀args w,(callFunc g args).run Tryz.prog w=.ok (.enter g args) w)(l:List Qo)(aa:OA)(ca:Nat)(w:Wo)(hl:l.length<=1000000000)(ua:UQ w aa l)(hE:Env w)(hp:zni g lb p l w) :
  CP 101 #[.slice aa l.length ca,.func (.func g) #[] lb] w λe w'=>e=.returned (.bool (l.any p))/\BH w w':=by
 have hC:=zd6 g lb p eg l aa ca w hl ua hE hp;rw[<-zll];generalize zhS p l=i at hC|-;clear ua hp eg;go_enter func101,ntmps101;go_wp2_with fail;(with_reducible refine hC.mono ?_);rintro e v2⟨rfl,hb⟩;go_wp2
 all_goals go_ret
 all_goals exact⟨by simp_all,hb⟩
def zmI(r:Rat):Bool:=decide (r.num<0)
theorem VQ.grown{w:Wo}{u:Vl}{b:Bool}(h:VQ w u b)(hg:w.grownBy w' v.ownBlock)(hp:NoI w v):VQ w' u b:=by
 obtain⟨x1,x2,l1,l2,a1,a2,c1,c2,e,h1,h2,k1,k2,h3,h4,h5⟩:=h;exact⟨x1,x2,l1,l2,a1,a2,c1,c2,e,h1,h2,k1,k2,h3.grown hg hp,h4.grown hg hp,h5⟩
theorem QV.grown{w:Wo}{u:Vl}{o:Qo}(h:QV w u o)(hg:w.grownBy w' v.ownBlock)(hp:NoI w v):QV w' u o:=by
 cases o
 ·exact VQ.grown h hg hp
 ·exact zad.grown h hg hp
def QAt(w:Wo)(xs:List Vl)(i:Nat)(o:Qo):Prop :=
 ∃(n1:Bool)(a1:OA)(l1 c1:Nat)(n2:Bool)(a2:OA)(l2 c2:Nat),
  xs[i*4]?=some (.bool n1)/\xs[i*4+1]?=some (.slice a1 l1 c1)/\xs[i*4+2]?=some (.bool n2)/\xs[i*4+3]?=some (.slice a2 l2 c2)/\QV w (.agg #[.bool n1,.slice a1 l1 c1,.bool n2,.slice a2 l2 c2]) o
def zaI(w:Wo)(B:Nat)(v:Vl)(l:List Qo):Prop :=
 ∃xs:List Vl,w.ownsRow B 32 4 v l.length xs/\NoI w v/\∀(i:Nat)(o:Qo),l[i]?=some o->QAt w xs i o
theorem zaI.nil(w:Wo)(B:Nat):zaI w B nS_ [] :=
 ⟨[],World.ownsRow_nil _ _ _ _,λg hg=>by simp[Value.ownBlock]at hg,λi r h=>by simp at h⟩
theorem zaI.mono{w:Wo}{B:Nat}(h:zaI w B v l)(hb:BH w w'):zaI w' B v l:=by
 obtain⟨xs,h1,h2,h3⟩:=h;refine⟨xs,zbu h1 hb,?_,?_⟩
 ·intro g hg cur t fr hc;have hlt:=(h1.lt g hg).2;exact h2 g hg cur t fr ((hb.block _ hlt).symm.trans hc)
 ·intro i r hi;obtain⟨n1,a1,l1,c1,n2,a2,l2,c2,e0,e1,e2,e3,hr⟩:=h3 i r hi;exact⟨n1,a1,l1,c1,n2,a2,l2,c2,e0,e1,e2,e3,hr.mono hb⟩
theorem zaI.read{w:Wo}{B:Nat}(h:zaI w B v l):∃ao cap,v=.slice ao l.length cap/\UQ w ao l:=by
 obtain⟨xs,h1,h2,h3⟩:=h;rcases h1.2 with⟨rfl,hn⟩|⟨g,cap,cur,rfl,hB,hg,hnc,hcm,hcs,htake⟩
 ·have:l=[]:=List.eq_nil_of_length_eq_zero hn;subst this;exact⟨none,0,rfl,UQ.nil _ _⟩
 ·refine⟨some ⟨g,0,none⟩,cap,rfl,?_⟩;intro i o hi;obtain⟨n1,a1,l1,c1,n2,a2,l2,c2,e0,e1,e2,e3,hq⟩:=h3 i o hi;have hc:∀j u,xs[j]?=some u->w.cell? ⟨g,0+j,none⟩=some u:=by
   intro j u hu;have:=h1.cells (g:=g) rfl j u hu;have ha:(⟨g,0,none⟩:Addr).add j=⟨g,0+j,none⟩:=by
    unfold Addr.add;split
    ·subst j;rfl
    ·rfl
   rw[ha]at this;exact this
  exact dI
theorem zh2{w:Wo}{b:Nat}:∀(l:List Qo)(off:Nat),
  (∀i o,l[i]?=some o->∃(n1:Bool)(a1:OA)(l1 c1:Nat)(n2:Bool)(a2:OA)(l2 c2:Nat),
   zft w b (off+i*4) (.bool n1) (.slice a1 l1 c1) (.bool n2) (.slice a2 l2 c2)/\QV w (.agg #[.bool n1,.slice a1 l1 c1,.bool n2,.slice a2 l2 c2]) o) ->
  ∃news:List Vl,news.length=l.length*4/\(∀j u,news[j]?=some u->w.cell? ⟨b,off+j,none⟩=some u)/\(∀u∈news,u.oneCell'=true)/\(∀u∈news,zaJ u)/\∀i o,l[i]?=some o->QAt w news i o
 |[],off,_=>⟨[],rfl,λj u h=>by simp at h,λu h=>by simp at h,λu h=>by simp at h,λi o h=>by simp at h⟩
 |o :: l,off,h=>by
  obtain⟨news,h1,h2,h3,h4,h5⟩:=zh2 (b:=b) (w:=w) l (off+4) (λi o hi=>by
   obtain⟨n1,a1,l1,c1,n2,a2,l2,c2,hf,hq⟩:=h (i+1) o (by simpa using hi);rw[show off+(i+1)*4=off+4+i*4 by omega]at hf;exact⟨n1,a1,l1,c1,n2,a2,l2,c2,hf,hq⟩)
  obtain⟨n1,a1,l1,c1,n2,a2,l2,c2,hf,hq⟩:=h 0 o rfl;rw[show off+0*4=off by omega]at hf;refine⟨.bool n1 :: .slice a1 l1 c1 :: .bool n2 :: .slice a2 l2 c2 :: news,by simp[h1];omega,?_,?_,?_,?_⟩
  ·intro j u hj
   match j,hj with
   |0,hj=>simp at hj;subst hj;exact hf.c0
   |1,hj=>simp at hj;subst hj;exact hf.c1
   |2,hj=>simp at hj;subst hj;exact hf.c2
   |3,hj=>simp at hj;subst hj;exact hf.c3
   |j+4,hj=>
    simp at hj;have:=h2 j u hj;rw[show off+(j+4)=off+4+j by omega];exact this
  ·intro u hu;simp at hu;rcases hu with rfl|rfl|rfl|rfl|hu
   ·rfl
   ·rfl
   ·rfl
   ·rfl
   ·exact h3 u hu
  ·intro u hu;simp at hu;rcases hu with rfl|rfl|rfl|rfl|hu
   ·intro k z e;cases e
   ·intro k z e;cases e
   ·intro k z e;cases e
   ·intro k z e;cases e
   ·exact h4 u hu
  ·intro i x hi
   match i,hi with
   |0,hi=>
    simp at hi;subst hi;exact⟨n1,a1,l1,c1,n2,a2,l2,c2,rfl,rfl,rfl,rfl,hq⟩
   |i+1,hi=>
    obtain⟨m1,b1,k1,d1,m2,b2,k2,d2,e0,e1,e2,e3,hr⟩:=h5 i x (by simpa using hi);refine⟨m1,b1,k1,d1,m2,b2,k2,d2,?_,?_,?_,?_,hr⟩
    ·rw[show(i+1)*4=i*4+1+1+1+1 by omega];simpa using e0
    ·rw[show(i+1)*4+1=(i*4+1)+1+1+1+1 by omega];simpa using e1
    ·rw[show(i+1)*4+2=(i*4+2)+1+1+1+1 by omega];simpa using e2
    ·rw[show(i+1)*4+3=(i*4+3)+1+1+1+1 by omega];simpa using e3
section
variable {ops : Array Oper} {rest : List Oper} {o : Oper} {a : Act} {Q : Exit → Act → Wo → Prop}
theorem zep(w W:Wo)(ty:TypeId)(B:Nat)(v:Vl)(l m:List Qo)(ao:OA)(c:Nat)(hown:zaI w B v l)(hB:B<=w.heap.size)(hb:Below B W w)(hm:UQ w ao m)(hne:0<m.length)(hl:l.length+m.length<=1000000) :
  ∃v' w',(Builtin.append_ #[33,33] ty #[v,.slice ao m.length c]).run Tryz.prog w=.ok v' w'/\zaI w' B v' (l++m)/\Below B W w'/\w.heap.size<=w'.heap.size/\w.grownBy w' v.ownBlock:=by
 obtain⟨i0,hi,hz0,hz1,hz2⟩:=info_parts Tryz.info32;obtain⟨xs,hrow,hno,hel⟩:=hown;obtain⟨b,off,rfl⟩:∃b off,ao=some ⟨b,off,none⟩:=by
  obtain⟨b,off,_,_,_,_,_,_,_,_,e,_⟩:=hm 0 m[0] (gE hne);exact⟨b,off,e⟩
 obtain⟨news,k1,k2,k3,k4,k5⟩:=zh2 (w:=w) (b:=b) m off (λi q hi=>by
  obtain⟨b',off',n1,a1,l1,c1,n2,a2,l2,c2,e,hf,hq⟩:=hm i q hi
  cases e
  exact⟨n1,a1,l1,c1,n2,a2,l2,c2,hf,hq⟩)
 obtain⟨v',w',hr,h3,h4,h5⟩:=zcx (P:=Tryz.prog) w B 33 ty 32 i0 (.agg #[bF_,nS_,bF_,nS_]) Tryz.underlying33 hi hz0
  (by rw[hz1];rfl) (by rw[hz1];decide) v l.length xs (by rw[hz1];exact hrow) hno ⟨b,off,none⟩ m.length c news (by rw[hz1];exact k1)
  (by
   intro j u hj;have:=k2 j u hj;have ha:(⟨b,off,none⟩:Addr).add j=⟨b,off+j,none⟩:=by
    unfold Addr.add;split
    ·subst j;rfl
    ·rfl
   rw[ha];exact this)
  k3 (by unfold maxLen;omega) (by rw[hz2];omega) hB hne
  (by intro u hu k z e;simp[Value.cells]at hu;rcases hu with rfl|rfl|rfl|rfl<;>cases e) k4
 refine⟨v',w',hr,⟨xs++news,?_,h5,?_⟩,?_,h4.size,h4⟩
 ·rw[List.length_append];rw[hz1]at h3;exact h3
 ·have hxl:xs.length=l.length*4:=hrow.1;intro i q hq;rcases Nat.lt_or_ge i l.length with hi'|hi'
  ·rw[List.getElem?_append_left hi']at hq;obtain⟨m1,b1,j1,d1,m2,b2,j2,d2,e0,e1,e2,e3,hr'⟩:=hel i q hq;refine⟨m1,b1,j1,d1,m2,b2,j2,d2,?_,?_,?_,?_,hr'.grown h4 hno⟩
   ·rw[List.getElem?_append_left oM];exact e0
   ·rw[List.getElem?_append_left oM];exact e1
   ·rw[List.getElem?_append_left oM];exact e2
   ·rw[List.getElem?_append_left oM];exact e3
  ·rw[List.getElem?_append_right hi']at hq;obtain⟨m1,b1,j1,d1,m2,b2,j2,d2,e0,e1,e2,e3,hr'⟩:=k5 (i-l.length) q hq;refine⟨m1,b1,j1,d1,m2,b2,j2,d2,?_,?_,?_,?_,hr'.grown h4 hno⟩
   ·rw[List.getElem?_append_right oM,show i*4-xs.length=(i-l.length)*4 by omega];exact e0
   ·rw[List.getElem?_append_right oM,show i*4+1-xs.length=(i-l.length)*4+1 by omega];exact e1
   ·rw[List.getElem?_append_right oM,show i*4+2-xs.length=(i-l.length)*4+2 by omega];exact e2
   ·rw[List.getElem?_append_right oM,show i*4+3-xs.length=(i-l.length)*4+3 by omega];exact e3
 ·refine hb.grown h4 hB ?_;intro k hk;exact(hrow.lt k hk).1
theorem zat{P:Program}{next:Act->Wo->Prop}{T:TypeId}{v u v':Vl}{w w':Wo}(s x:Operand)(ho:o.op=.call {callee:=.builtin .append,args:=#[s,x],argTypes:=#[T,T]})(hs:a.eval s=v)(hx:a.eval x=u)
  (hr:(Builtin.append_ #[T,T] o.type #[v,u]).run P w=.ok v' w')(hK:next (a.put o.dst v') w'):o.wp P a w next Q:=by
 unfold Oper.wp;simp[execOp,ho,resolve,invoke,builtin,hs,hx,hr,Result.andThen];exact hK
theorem zoo(w W:Wo)(B:Nat)(v:Vl)(l m:List Qo)(ao:OA)(c:Nat)(hgd:o.guard=none)(s x:Operand)(ho:o.op=.call {callee:=.builtin .append,args:=#[s,x],argTypes:=#[33,33]})
  (hs:a.eval s=v)(hx:a.eval x=.slice ao m.length c)(hown:zaI w B v l)(hB:B<=w.heap.size)(hb:Below B W w)(hm:UQ w ao m)(hne:0<m.length)(hl:l.length+m.length<=1000000)
  (hK:∀v' w',zaI w' B v' (l++m)->Below B W w'->w.heap.size<=w'.heap.size->w.grownBy w' v.ownBlock->wpList Tryz.prog ops Q rest (a.put o.dst v') w') :
  wpList Tryz.prog ops Q (o :: rest) a w:=by
 obtain⟨v',w',hr,h1,h2,h3,h4⟩:=zep w W o.type B v l m ao c hown hB hb hm hne hl;refine wpList_plain hgd λK hK'=>?_
 unfold Oper.wp;simp[execOp,ho,resolve,invoke,builtin,hs,hx,hr,Result.andThen];exact hK' _ _ (hK v' w' h1 h2 h3 h4)
end
theorem zai.abs{w:Wo}{ng:Bool}{n cap:Nat}{z:Int}(h:zai w (.agg #[.bool ng,.slice ao n cap]) z):zai w (.agg #[bF_,.slice ao n cap]) (z.natAbs:Int):=by
 obtain⟨neg,ao',L,cap',e,h1,h2,h3,h4,h5,h6⟩:=h
 cases e
 have hn:¬((z.natAbs:Int)<0):=oM;refine⟨false,_,L,_,rfl,hii (by simp[hn]),hii ?_,hii ?_,h4,h5,h6⟩
 ·rw[Int.natAbs_natCast];exact h2.o
 ·rw[Int.natAbs_natCast];exact h3.o
theorem zgu(a:Vl)(n:Nat)(w:Wo)(ha:zai w a (n:Int))(hE:Env w) :
  CP 187 #[a] w λe w'=>(∃t:ByteArray,e=.returned (.tuple #[.string t,.int .i64 0])/\t.size=(Lib.decDigits n).length)/\BH w w' :=
 (ziR a n w ha hE).mono λe w' ⟨he,hb⟩=>⟨⟨_,he,by rw[zfg];simp[ByteArray.size]⟩,hb⟩
theorem zel(v:Vl)(r:Rat)(w:Wo)(h:zad w v r)(hE:Env w) :
  CP 176 #[v] w λe w'=>e=.returned (.bool (zcc r))/\BH w w':=by
 have hbw:=Below.refl w.heap.size w;obtain⟨A0,hA0⟩:∃A0,A0=(Lib.decDigits r.num.natAbs).length:=⟨_,rfl⟩;obtain⟨A1,hA1⟩:∃A1,A1=(Lib.decDigits r.den).length:=⟨_,rfl⟩;have hres:zcc r=(decide (A0<=20) && decide (A1<=20)):=by rw[hA0,hA1];rfl
 rw[hres];obtain⟨J1,ao1,n1,Y1,J2,ao2,n2,Y2,rfl,h1,h2⟩:=h;have HV1:=hii (zai.abs h1);have HV2:=hii h2;clear h1 h2 hres;have HA0:=hii hA0;have HA1:=hii hA1;clear hA0 hA1;go_enter func176,ntmps176;go_upto_region 1 with fail;have X1:=zaU.new w (.bool J1) (.slice ao1 n1 Y1) (.bool J2) (.slice ao2 n2 Y2) 32;have hb:=bA w (.cells #[.bool J1,.slice ao1 n1 Y1,.bool J2,.slice ao2 n2 Y2] 32);generalize w.alloc (.cells #[.bool J1,.slice ao1 n1 Y1,.bool J2,.slice ao2 n2 Y2] 32)=v1 at*;have HV1:=hup HV1 hb;have HV2:=hup HV2 hb;have hE:=hE.mono hb;have hbw:=bu hbw hb;clear hb;obtain⟨x1a,x1b,x1c,x1d,_,_,_,_⟩:=id X1;go_wp2_with fail;clear x1a x1b x1c x1d X1;have X2:=zaU.new v1 bF_ (.slice ao1 n1 Y1) (.bool J2) (.slice ao2 n2 Y2) 30;have hb:=bA v1 (.cells #[bF_,.slice ao1 n1 Y1,.bool J2,.slice ao2 n2 Y2] 30);obtain⟨g,hg⟩:=exi (v1.heap.size);rw[<-hg]at X2|-;clear hg;generalize v1.alloc (.cells #[bF_,.slice ao1 n1 Y1,.bool J2,.slice ao2 n2 Y2] 30)=wl at*;have HV1:=hup HV1 hb;have HV2:=hup HV2 hb;have hE:=hE.mono hb;have hbw:=bu hbw hb;clear hb;go_loopw [15] (λs wr=>(s=.int .i64 0\/(s=.int .i64 1/\Hid (A0<=20))\/(s=.int .i64 2/\Hid (A0<=20/\A1<=20)))/\Env wr/\BH wl wr) (λs _=>2-(intOf s).toNat)
 case atStart=>exact⟨.inl rfl,hE,br⟩
 case round=>
  clear hE;obtain⟨hs,hE,hbr⟩:=hrel;obtain⟨c0,c1,c2,c3,_,_,_,_⟩:=X2.mono hbr;have HV1:=hii (HV1.o.mono hbr);have HV2:=hii (HV2.o.mono hbr);have hbw:=bu hbw hbr;rcases hs with rfl|⟨rfl,HA⟩|⟨rfl,HA⟩
  ·go_upto_region 4 with fail;have Y:=Box.new wr bF_ (.slice ao1 n1 Y1) 30;have hb:=bA wr (.cells #[bF_,.slice ao1 n1 Y1] 30);generalize wr.alloc (.cells #[bF_,.slice ao1 n1 Y1] 30)=wa at*;have HV1:=hup HV1 hb;have hE:=hE.mono hb;have hbw:=bu hbw hb;have hbr:=bu hbr hb;clear hb c0 c1 c2 c3;obtain⟨d0,d1,_,_⟩:=Y;go_wp2_with fail;go_fit (zgu _ r.num.natAbs wa HV1.o hE);rintro e v2⟨⟨t,rfl,hts⟩,hb⟩;have HT:Hid (t.size=A0):=hii (hts.trans HA0.o.symm);have hE:=hE.mono hb;have hbw:=bu hbw hb;have hbr:=bu hbr hb;clear hb d0 d1 hts
   by_cases hle:t.size<=20
   ·have hg1:¬((20:Int)<(t.size:Int)):=oM;have hg2:decide ((20:Int)<(t.size:Int))=false:=by simpa using hg1
    go_wp2;go_roundw
    case rel=>exact⟨.inr (.inl ⟨rfl,hii (by rw[<-HT.o];exact hle)⟩),hE,hbr⟩
    case measure=>simp[intOf]
   ·have hg1:(20:Int)<(t.size:Int):=oM;have hg2:decide ((20:Int)<(t.size:Int))=true:=by simpa using hg1
    go_wp2;go_ret;refine⟨?_,hbw⟩;have:¬A0<=20:=by rw[<-HT.o];exact hle
    simp[this]
  ·go_upto_region 4 with fail;have Y:=Box.new wr (.bool J2) (.slice ao2 n2 Y2) 30;have hb:=bA wr (.cells #[.bool J2,.slice ao2 n2 Y2] 30);generalize wr.alloc (.cells #[.bool J2,.slice ao2 n2 Y2] 30)=wa at*;have HV2:=hup HV2 hb;have hE:=hE.mono hb;have hbw:=bu hbw hb;have hbr:=bu hbr hb;clear hb c0 c1 c2 c3;obtain⟨d0,d1,_,_⟩:=Y;go_wp2_with fail;go_fit (zgu _ r.den wa HV2.o hE);rintro e v2⟨⟨t,rfl,hts⟩,hb⟩;have HT:Hid (t.size=A1):=hii (hts.trans HA1.o.symm);have hE:=hE.mono hb;have hbw:=bu hbw hb;have hbr:=bu hbr hb;clear hb d0 d1 hts
   by_cases hle:t.size<=20
   ·have hg1:¬((20:Int)<(t.size:Int)):=oM;have hg2:decide ((20:Int)<(t.size:Int))=false:=by simpa using hg1
    go_wp2;go_roundw
    case rel=>exact⟨.inr (.inr ⟨rfl,hii ⟨HA.o,by rw[<-HT.o];exact hle⟩⟩),hE,hbr⟩
    case measure=>simp[intOf]
   ·have hg1:(20:Int)<(t.size:Int):=oM;have hg2:decide ((20:Int)<(t.size:Int))=true:=by simpa using hg1
    go_wp2;go_ret;refine⟨?_,hbw⟩;have:¬A1<=20:=by rw[<-HT.o];exact hle
    simp[this]
  ·go_wp2;go_ret;exact⟨by simp[HA.o.1,HA.o.2],hbw⟩
theorem ziv(h:none∈l):zbb l=1:=by
 have:zna l=true:=by unfold zna;rw[List.any_eq_true];exact⟨none,h,rfl⟩
 unfold zbb;rw[if_pos this]
theorem zgo(h:∀x∈l,x.isNone=false):zna l=false:=by
 unfold zna;rw[List.any_eq_false];intro x hx;rw[h x hx];simp
theorem zf0(hb:∀x∈l,x.isNone=false)(h:∀x∈l,zgY x=false):zbb l=0:=by
 have:zf4 l=false:=by unfold zf4;rw[List.any_eq_false];intro x hx;rw[h x hx];simp
 unfold zbb;rw[zgo hb,this];rfl
def St(E:Int)(l:List Qo):Prop:=(∀x∈l,x.isNone=false)/\E=if zf4 l then 3 else 0
theorem St.start:St 0 []:=⟨λx h=>by simp at h,rfl⟩
theorem zey(l:List Qo)(o:Qo):zf4 (l++[o])=(zf4 l || zgY o):=by simp[zf4]
theorem zfI(h:∀x∈l,x.isNone=false)(r:Rat):∀x∈l++[some r],x.isNone=false:=by
 intro x hx;rcases List.mem_append.1 hx with hx|hx
 ·exact h x hx
 ·simp at hx;subst hx;rfl
theorem St.short{E:Int}{r:Rat}(h:St E l)(hs:zcc r=true):St E (l++[some r]) :=
 ⟨zfI h.1 r,by rw[zey];simp[zgY,hs,h.2]⟩
theorem St.long{E:Int}{r:Rat}(h:St E l)(hs:zcc r=false):St 3 (l++[some r]) :=
 ⟨zfI h.1 r,by rw[zey];simp[zgY,hs]⟩
theorem St.err{E:Int}(h:St E l):E=zbb l:=by
 rw[h.2];unfold zbb;rw[zgo h.1]
 cases zf4 l<;>rfl
theorem zjP{rows:List (List Qo)}{row:List Qo}(h:rows[k]?=some row):(rows.take (k+1)).flatten=(rows.take k).flatten++row:=by
 rw[List.take_add_one,h];simp
theorem zjC{row:List Qo}{o:Qo}(h:row[j]?=some o):l++row.take (j+1)=(l++row.take j)++[o]:=by
 rw[List.take_add_one,h];simp
theorem zgT(rows:List (List Qo))(aa:OA)(ca:Nat)(w:Wo)(hl:rows.length<=1000000)(hr:∀r∈rows,r.length<=1000000)(ua:UM w aa rows)(hE:Env w) :
  CP 149 #[.slice aa rows.length ca] w λe w'=>e=.returned (.int .i64 (zbb rows.flatten))/\BH w w':=by
 have hbw:=Below.refl w.heap.size w;have Hr:=hii hr;clear hr;go_enter func149,ntmps149;go_wp2_with fail;go_loopw [3,10] (λs c wr=>∃(k:Nat)(E:Int),k<=rows.length/\c=.int .i64 k/\s=.int .i64 E/\Hid (St E (rows.take k).flatten)/\Env wr/\BH w wr) (λ_ c _=>rows.length-(intOf c).toNat)
 case atStart=>exact⟨0,0,Nat.zero_le _,rfl,rfl,hii St.start,hE,hbw⟩
 case round=>
  clear hbw hE;obtain⟨k,E,hk,rfl,rfl,HS,hE,hbw⟩:=hrel
  by_cases hlt:k<rows.length
  ·obtain⟨row,hrow⟩:∃x,rows[k]?=some x:=⟨rows[k],gE hlt⟩;have hrl:=Hr.o row (List.mem_of_getElem? hrow);obtain⟨b0,off0,ar,cr,ea,hc,uR⟩:=(ua.mono hbw) k row hrow;have HF:=hii (zjP hrow);have HM:Hid (row∈rows):=hii (List.mem_of_getElem? hrow);obtain⟨pre,hpre⟩:∃pre,pre=(rows.take k).flatten:=⟨_,rfl⟩;rw[<-hpre]at HS HF;clear hrow hpre;subst ea;obtain⟨wo,rfl⟩:=exi wr;have hb1:=Below.refl wo.heap.size wo;go_wp2_with fail;clear hc;go_loopw [3,16] (λs c wr=>∃(j:Nat)(E:Int),j<=row.length/\c=.int .i64 j/\s=.int .i64 E/\Hid (St E (pre++row.take j))/\Env wr/\BH wo wr) (λ_ c _=>row.length-(intOf c).toNat)
   case atStart=>exact⟨0,E,Nat.zero_le _,rfl,rfl,hii (by simpa using HS.o),hE,hb1⟩
   case round=>
    clear hb1 hE HS;obtain⟨j,E,hj,rfl,rfl,HS,hE,hb1⟩:=hrel
    by_cases hlj:j<row.length
    ·obtain⟨o,ho⟩:∃x,row[j]?=some x:=⟨row[j],gE hlj⟩;obtain⟨b1,off1,ngp,aop,np,capp,ngq,aoq,nq,capq,eb,FA,HVA⟩:=(uR.mono hb1) j o ho;have HP:=hii (zjC (l:=pre) ho);have Ho:=hii ho;clear ho uR;subst eb;obtain⟨cFA_0,cFA_1,cFA_2,cFA_3,_,_,_,_⟩:=id FA;go_upto_region 8 with fail;have Y:=zaU.new wr (.bool ngp) (.slice aop np capp) (.bool ngq) (.slice aoq nq capq) 32;have hb:=bA wr (.cells #[.bool ngp,.slice aop np capp,.bool ngq,.slice aoq nq capq] 32);generalize wr.alloc (.cells #[.bool ngp,.slice aop np capp,.bool ngq,.slice aoq nq capq] 32)=wa at*;have HVA:=HVA.mono hb;have hE:=hE.mono hb;have hb1:=bu hb1 hb;clear hb cFA_0 cFA_1 cFA_2 cFA_3 FA;obtain⟨d0,d1,d2,d3,_,_,_,_⟩:=id Y
     cases o with
     |none=>
      go_wp2_with fail;go_fit (zfr _ false wa HVA.vq hE);rintro e v2⟨rfl,hb⟩;have hb1:=bu hb1 hb;have hbw:=bu hbw hb1;clear hb d0 d1 d2 d3;go_wp2;go_ret;refine⟨?_,hbw⟩;rw[ziv (List.mem_flatten.2 ⟨row,HM.o,List.mem_of_getElem? Ho.o⟩)];rfl
     |some r=>
      go_wp2_with fail;go_fit (zfr _ true wa HVA.vq hE);rintro e v2⟨rfl,hb⟩;have HVA:zad _ _ r:=HVA.mono hb;have Y:=Y.mono hb;have hE:=hE.mono hb;have hb1:=bu hb1 hb;clear hb d0 d1 d2 d3;obtain⟨d0,d1,d2,d3,_,_,_,_⟩:=Y
      cases hs:zcc r with
      |true=>
       have Hs:=hii hs;go_wp2_with fail;go_fit (zel _ r _ HVA hE);rw[hs];clear hs;rintro e v3⟨rfl,hb⟩;have hE:=hE.mono hb;have hb1:=bu hb1 hb;clear hb d0 d1 d2 d3;go_wp2;go_roundw
       case rel=>exact⟨j+1,E,oM,gM,rfl,hii (by rw[HP.o];exact HS.o.short Hs.o),hE,hb1⟩
       case measure=>exact mM
      |false=>
       have Hs:=hii hs;go_wp2_with fail;go_fit (zel _ r _ HVA hE);rw[hs];clear hs;rintro e v3⟨rfl,hb⟩;have hE:=hE.mono hb;have hb1:=bu hb1 hb;clear hb d0 d1 d2 d3;go_wp2;go_roundw
       case rel=>exact⟨j+1,3,oM,gM,rfl,hii (by rw[HP.o];exact HS.o.long Hs.o),hE,hb1⟩
       case measure=>exact mM
    ·obtain rfl:j=row.length:=oM;have HS:Hid (St E (pre++row)):=hii (by have:=HS.o;rw[List.take_length]at this;exact this);have hbw:=bu hbw hb1;go_wp2;go_roundw
     case rel=>exact⟨k+1,E,oM,gM,rfl,hii (by rw[HF.o];exact HS.o),hE,hbw⟩
     case measure=>exact mM
  ·obtain rfl:k=rows.length:=oM;have HS:Hid (E=zbb rows.flatten):=hii (by have:=HS.o.err;rw[List.take_length]at this;exact this);go_wp2;go_ret;exact⟨by rw[<-HS.o];rfl,hbw⟩
theorem zbH(v:Vl)(r:Rat)(s:Int)(w:Wo)(hs:Hid (zaB r.num=s))(h:zad w v r)(hE:Env w) :
  CP 152 #[v] w λe w'=>e=.returned (.int .i64 s)/\BH w w':=by
 obtain⟨J1,ao1,n1,Y1,J2,ao2,n2,Y2,rfl,h1,h2⟩:=h;have HV1:=hii h1;clear h1 h2;go_enter func152,ntmps152;go_upto_region 1 with fail;have X1:=zaU.new w (.bool J1) (.slice ao1 n1 Y1) (.bool J2) (.slice ao2 n2 Y2) 32;have hb0:=bA w (.cells #[.bool J1,.slice ao1 n1 Y1,.bool J2,.slice ao2 n2 Y2] 32);generalize w.alloc (.cells #[.bool J1,.slice ao1 n1 Y1,.bool J2,.slice ao2 n2 Y2] 32)=v1 at*;have HV1:=hii (HV1.o.mono hb0);have hE:=hE.mono hb0;obtain⟨x1a,x1b,x1c,x1d,_,_,_,_⟩:=id X1;go_wp2_with fail;go_fit (zbF _ r.num s v1 hs HV1.o hE);rintro e v2⟨rfl,hb⟩;have hbw:=hb0.trans (hb.mono hb0.size);clear hb x1a x1b x1c x1d;exact cP
theorem zgz(v:Vl)(r:Rat)(w:Wo)(h:zad w v r)(hE:Env w) :
  CP 151 #[v] w λe w'=>e=.returned (.bool (zmI r))/\BH w w':=by
 have e0:zmI r=decide (zaB r.num<0):=by rw[zhx];rfl
 rw[e0];clear e0;obtain⟨s,hs⟩:∃s,zaB r.num=s:=⟨_,rfl⟩;rw[hs];have Hs:=hii hs;clear hs;obtain⟨J1,ao1,n1,Y1,J2,ao2,n2,Y2,rfl⟩:=h.parts;go_enter func151,ntmps151;go_upto_region 1 with fail;have X1:=zaU.new w (.bool J1) (.slice ao1 n1 Y1) (.bool J2) (.slice ao2 n2 Y2) 32;have hb0:=bA w (.cells #[.bool J1,.slice ao1 n1 Y1,.bool J2,.slice ao2 n2 Y2] 32);generalize w.alloc (.cells #[.bool J1,.slice ao1 n1 Y1,.bool J2,.slice ao2 n2 Y2] 32)=v1 at*;have h:=h.mono hb0;have hE:=hE.mono hb0;obtain⟨x1a,x1b,x1c,x1d,_,_,_,_⟩:=id X1;go_wp2_with fail;go_fit (zbH _ r s v1 Hs h hE);rintro e v2⟨rfl,hb⟩;have hbw:=hb0.trans (hb.mono hb0.size);clear hb x1a x1b x1c x1d;go_wp2
 all_goals go_ret
 all_goals exact⟨by simp_all,hbw⟩
def zks(g:Nat)(lb:Array Vl)(p:List Qo->Bool)(l:List (List Qo))(w:Wo):Prop :=
 ∀(o:List Qo)(ar:OA)(cr:Nat)(W:Wo),o∈l->UQ W ar o->Env W->BH w W->CP g (#[.slice ar o.length cr]++lb) W λe W'=>e=.returned (.bool (p o))/\BH W W'
def zl4(p:List Qo->Bool)(l:List (List Qo)):Int:=match l.findIdx? p with
 |some i=>i
 |none=>-1
theorem zli{p:List Qo->Bool}{l:List (List Qo)}{o:List Qo}(hk:l[k]?=some o)(ho:p o=true)(h:∀x∈l.take k,p x=false):zl4 p l=k:=by
 have:l.findIdx? p=some k:=by
  rw[List.findIdx?_eq_some_iff_getElem];have hl:k<l.length:=by
   rcases Nat.lt_or_ge k l.length with h|h
   ·exact h
   ·rw[List.getElem?_eq_none h]at hk;cases hk
  exact dF
 unfold zl4;rw[this]
theorem zf7{p:List Qo->Bool}{l:List (List Qo)}(h:∀x∈l,p x=false):zl4 p l=-1:=by
 have:l.findIdx? p=none:=by rw[List.findIdx?_eq_none_iff];exact h
 unfold zl4;rw[this]
theorem zlj(p:List Qo->Bool)(l:List (List Qo)):decide (0<=zl4 p l)=l.any p:=by
 cases h:l.any p with
 |false=>
  rw[List.any_eq_false]at h;rw[zf7 (λx hx=>by have:=h x hx;simpa using this)];rfl
 |true=>
  have:(l.findIdx? p).isSome:=by rw[List.findIdx?_isSome];exact h
  unfold zl4
  cases hf:l.findIdx? p with
  |none=>rw[hf]at this;cases this
  |some i=>simp
theorem zhg(g:Nat)(lb:Array Vl)(p:List Qo->Bool)(eg:∀args w,(callFunc g args).run Tryz.prog w=.ok (.enter g args) w)(l:List (List Qo))(aa:OA)(ca:Nat)(w:Wo)(hl:l.length<=1000000000)(ua:UM w aa l)(hE:Env w)(hp:zks g lb p l w) :
  CP 175 #[.slice aa l.length ca,.func (.func g) #[] lb] w λe w'=>e=.returned (.int .i64 (zl4 p l))/\BH w w':=by
 have hbw:=Below.refl w.heap.size w;have hp:=hii hp;go_enter func175,ntmps175;go_wp2_with fail;go_loopw [8] (λs wr=>∃k:Nat,k<=l.length/\s=.int .i64 k/\Hid (∀x∈l.take k,p x=false)/\Env wr/\BH w wr) (λs _=>l.length-(intOf s).toNat)
 case atStart=>exact⟨0,Nat.zero_le _,rfl,hii sM,hE,hbw⟩
 case round=>
  clear hE hbw;obtain⟨k,hk,rfl,HN,hE,hbw⟩:=hrel
  by_cases hlt:k<l.length
  ·obtain⟨o,ho⟩:∃x,l[k]?=some x:=⟨l[k],gE hlt⟩;obtain⟨b1,off1,ar,cr,ea,FA,HVA⟩:=(ua.mono hbw) k o ho;have hcall:=hp.o o ar cr wr (List.mem_of_getElem? ho) HVA hE hbw;have Ho:=hii ho;clear ho HVA ua;subst ea
   cases hq:p o with
   |true=>
    rw[hq]at hcall;have Hq:=hii hq;clear hq;go_wp2_with (go_at_fn g;refine hcall.mono ?_;rintro e v2⟨rfl,hb⟩);have hbw:=bu hbw hb;go_ret;exact⟨by rw[zli Ho.o Hq.o HN.o];rfl,hbw⟩
   |false=>
    rw[hq]at hcall;have Hq:=hii hq;clear hq;go_wp2_with (go_at_fn g;refine hcall.mono ?_;rintro e v2⟨rfl,hb⟩);have hE:=hE.mono hb;have hbw:=bu hbw hb;go_roundw
    case rel=>
     refine⟨k+1,oM,gM,hii λx hx=>?_,hE,hbw⟩;rw[List.take_add_one,Ho.o]at hx;rcases List.mem_append.1 hx with h|h
     ·exact HN.o x h
     ·simp at h;subst h;exact Hq.o
    case measure=>exact mM
  ·obtain rfl:k=l.length:=oM;go_wp2;go_ret;exact⟨by rw[zf7 (λx hx=>HN.o x (by rw[List.take_length];exact hx))];rfl,hbw⟩
theorem zeg(g:Nat)(lb:Array Vl)(p:List Qo->Bool)(eg:∀args w,(callFunc g args).run Tryz.prog w=.ok (.enter g args) w)(l:List (List Qo))(aa:OA)(ca:Nat)(w:Wo)(hl:l.length<=1000000000)(ua:UM w aa l)(hE:Env w)(hp:zks g lb p l w) :
  CP 147 #[.slice aa l.length ca,.func (.func g) #[] lb] w λe w'=>e=.returned (.bool (l.any p))/\BH w w':=by
 have hC:=zhg g lb p eg l aa ca w hl ua hE hp;rw[<-zlj];generalize zl4 p l=i at hC|-;clear ua hp eg;go_enter func147,ntmps147;go_wp2_with fail;(with_reducible refine hC.mono ?_);rintro e v2⟨rfl,hb⟩;go_wp2
 all_goals go_ret
 all_goals exact⟨by simp_all,hb⟩
theorem zgA(ar:OA)(n cr m g:Nat)(w:Wo)(hc:w.cell? (aD_ g 0)=some (.int .i64 m)) :
  CP 148 #[.slice ar n cr,pT g 0] w λe w'=>e=.returned (.bool (n != m))/\BH w w':=by
 have hbw:=Below.refl w.heap.size w
 by_cases hnm:n=m
 ·subst hnm;go_enter func148,ntmps148;go_wp2;go_ret;exact⟨sM,hbw⟩
 ·have h1:((n:Int) != (m:Int))=true:=by rw[bne_iff_ne];omega
  have h2:(n != m)=true:=by rw[bne_iff_ne];exact hnm
  rw[h2];go_enter func148,ntmps148;go_wp2;go_ret;exact⟨by simp[h1],hbw⟩
def zgr(w:Wo)(B:Nat)(v:Vl)(xs:List Vl):Prop:=w.ownsRow B 33 1 v xs.length xs
theorem zgr.mono{w:Wo}{B:Nat}(h:zgr w B v xs)(hb:BH w w'):zgr w' B v xs:=zbu h hb
theorem Tryz.info33:(Tryz.prog.info? 33).map (λi=>(i.zero,i.size,i.bytes))=some (some nS_,1,24):=by kernel_rfl
theorem zjj(w W:Wo)(ty:TypeId)(B:Nat)(v:Vl)(xs ys:List Vl)(b off c:Nat)(hown:zgr w B v xs)(hB:B<=w.heap.size)(hb:Below B W w)
  (hy:∀j u,ys[j]?=some u->w.cell? ⟨b,off+j,none⟩=some u)(h1:∀u∈ys,u.oneCell'=true)(hl:xs.length+ys.length<=1000000) :
  ∃v' w',(Builtin.append_ #[103,103] ty #[v,.slice (sD b off) ys.length c]).run Tryz.prog w=.ok v' w'/\zgr w' B v' (xs++ys)/\Below B W w'/\w.heap.size<=w'.heap.size:=by
 obtain⟨i0,hi,hz0,hz1,hz2⟩:=info_parts Tryz.info33;obtain⟨v',w',hr,h3,h4,h5⟩:=run_append_own (P:=Tryz.prog) w B 103 ty 33 i0 nS_ i0.size i0.bytes Tryz.underlying103 hi hz0 rfl rfl (by rw[hz1];rfl) (by rw[hz1];decide) v xs.length xs (by rw[hz1];exact hown) ⟨b,off,none⟩ ys.length c ys (by rw[hz1];omega)
  (by
   intro j u hj;have:=hy j u hj;have ha:(⟨b,off,none⟩:Addr).add j=⟨b,off+j,none⟩:=by
    unfold Addr.add;split
    ·subst j;rfl
    ·rfl
   rw[ha];exact this)
  h1 (by unfold maxLen;omega) (by rw[hz2];omega) hB
 refine⟨v',w',hr,?_,hb.grown h4 hB λk hk=>(hown.lt k hk).1,h4.size⟩;unfold zgr;rw[List.length_append];rw[hz1]at h3;exact h3
theorem zci{p:Prg}(h:p.B.length<1\/14<p.B.length\/p.C.length<1\/400<p.C.length\/p.A.length≠p.B.length):p.err=6:=by
 unfold Prg.err;rw[if_pos h]
theorem zmQ{p:Prg}{r:List Qo}(hr:r∈p.A)(h:r.length≠p.C.length):p.err=6:=by
 unfold Prg.err
 split
 ·rfl
 ·have:p.A.any (λr=>r.length != p.C.length)=true:=by rw[List.any_eq_true];exact⟨r,hr,by simpa using h⟩
  rw[if_pos this]
theorem zfk{p:Prg}(h:¬(p.B.length<1\/14<p.B.length\/p.C.length<1\/400<p.C.length\/p.A.length≠p.B.length))(hr:∀r∈p.A,r.length=p.C.length) :
  p.err=if zbb p.all≠0 then zbb p.all else if znF p.B then 7 else 0:=by
 unfold Prg.err;have:p.A.any (λr=>r.length != p.C.length)=false:=by rw[List.any_eq_false];intro r h';simp[hr r h']
 rw[if_neg h,this];rfl
theorem zgU(h:zbb l=0):∀x∈l,x.isNone=false:=by
 unfold zbb at h;intro x hx
 split at h
 ·cases h
 ·next hb=>
  have:zna l=false:=by simpa using hb
  unfold zna at this;rw[List.any_eq_false]at this;have:=this x hx
  cases x with
  |none=>simp at this
  |some r=>rfl
def zbs(w:Wo)(xs:List Vl)(rows:List (List Qo)):Prop :=
 xs.length=rows.length/\∀(i:Nat)(row:List Qo),rows[i]?=some row->∃ar cr,xs[i]?=some (.slice ar row.length cr)/\UQ w ar row
theorem zbs.mono{w:Wo}{rows:List (List Qo)}(h:zbs w xs rows)(hb:BH w w'):zbs w' xs rows :=
 ⟨h.1,λi row hi=>by obtain⟨ar,cr,e,hq⟩:=h.2 i row hi;exact⟨ar,cr,e,hq.mono hb⟩⟩
theorem zbs.two{w:Wo}{rows:List (List Qo)}{a b:List Qo}{aa ab:OA}{ca cb:Nat}(h:zbs w xs rows)(ha:UQ w aa a)(hb:UQ w ab b) :
  zbs w (xs++[.slice aa a.length ca,.slice ab b.length cb]) (rows++[a,b]):=by
 refine⟨by simp[h.1],λi row hi=>?_⟩;rcases Nat.lt_or_ge i rows.length with hl|hl
 ·rw[List.getElem?_append_left hl]at hi;obtain⟨ar,cr,e,hq⟩:=h.2 i row hi;exact⟨ar,cr,by rw[List.getElem?_append_left (by rw[h.1];exact hl)];exact e,hq⟩
 ·rw[List.getElem?_append_right hl]at hi;have hx:=h.1
  match hj:i-rows.length,hi with
  |0,hi=>
   simp at hi;subst hi;exact⟨aa,ca,by rw[List.getElem?_append_right oM,show i-xs.length=0 by omega];rfl,ha⟩
  |1,hi=>
   simp at hi;subst hi;exact⟨ab,cb,by rw[List.getElem?_append_right oM,show i-xs.length=1 by omega];rfl,hb⟩
  |j+2,hi=>simp at hi
theorem UM.rows{w:Wo}{rows:List (List Qo)}(h:UM w ao rows)(hne:0<rows.length) :
  ∃b off xs,ao=sD b off/\zbs w xs rows/\(∀j u,xs[j]?=some u->w.cell? ⟨b,off+j,none⟩=some u)/\∀u∈xs,u.oneCell'=true:=by
 obtain⟨b,off,_,_,ea,_,_⟩:=h 0 rows[0] (gE hne);subst ea;refine⟨b,off,rows.mapIdx λi _=>(w.cell? ⟨b,off+i,none⟩).getD undef,rfl,⟨sM,?_⟩,?_,?_⟩
 ·intro i row hi;obtain⟨b',off',ar,cr,e,hc,hq⟩:=h i row hi
  cases e
  exact⟨ar,cr,by simp[hi,hc],hq⟩
 ·intro j u hj;rw[List.getElem?_mapIdx]at hj
  cases hr:rows[j]? with
  |none=>rw[hr]at hj;simp at hj
  |some row=>
   obtain⟨b',off',ar,cr,e,hc,hq⟩:=h j row hr
   cases e
   rw[hr]at hj;simp[hc]at hj;subst hj;exact hc
 ·intro u hu;obtain⟨j,hj,e⟩:=List.getElem_of_mem hu;have hr:rows[j]?=some (rows[j]'(by simpa using hj)):=gE _;obtain⟨b',off',ar,cr,e',hc,hq⟩:=h j _ hr
  cases e'
  simp[hc]at e;subst e;rfl
theorem zgr.um{w:Wo}{B:Nat}{rows:List (List Qo)}(h:zgr w B v xs)(hr:zbs w xs rows):∃ao cap,v=.slice ao rows.length cap/\UM w ao rows:=by
 have hx:=hr.1;rcases h.2 with⟨rfl,hn⟩|⟨g,cap,cur,rfl,hB,hg,hnc,hcm,hcs,htake⟩
 ·have h0:rows.length=0:=oM;have:rows=[]:=List.eq_nil_of_length_eq_zero h0;subst this;exact⟨none,0,rfl,UM.nil _ _⟩
 ·refine⟨some ⟨g,0,none⟩,cap,by rw[hx],?_⟩;intro i row hi;obtain⟨ar,cr,e,hq⟩:=hr.2 i row hi;refine⟨g,0,ar,cr,rfl,?_,hq⟩;have:=h.cells (g:=g) rfl i _ e;have ha:(⟨g,0,none⟩:Addr).add i=⟨g,0+i,none⟩:=by
   unfold Addr.add;split
   ·subst i;rfl
   ·rfl
  rw[ha]at this;exact this
theorem zif(xs:List Vl)(b off c:Nat)(w:Wo)(hl:xs.length<=100000)(hb:b<w.heap.size)(hy:∀j u,xs[j]?=some u->w.cell? ⟨b,off+j,none⟩=some u)(h1:∀u∈xs,u.oneCell'=true) :
  CP 150 #[.slice (sD b off) xs.length c] w λe w'=>(∃v,e=.returned v/\zgr w' w.heap.size v xs)/\BH w w':=by
 obtain⟨i0,hi,hz0,hz1,hz2⟩:=info_parts Tryz.info33;have q22:∀(w:Wo)(a:OA)(n c n' c':Nat),(binOp .eql 103 (.slice a n c) (.slice none n' c')).run Tryz.prog w=.ok (.bool a.isNone) w:=λw a n c n' c'=>Lib.run_eql_slice_nil w _ _ a n c n' c' Tryz.underlying103
 have Hy:=hii hy;have H1:=hii h1;clear hy h1;go_enter func150,ntmps150;go_wp2_with (at_builtin;refine wpList_append_own _ rfl _ _ 103 rfl w.heap.size 33 i0 nS_ 1 24 Tryz.underlying103 hi hz0 hz1 hz2 rfl dM _ _ _ rfl (World.ownsRow_made w #[] 0 nl (Nat.zero_le _) sM) ⟨b,off,none⟩ xs.length c xs rfl ?qc1 ?qc2 ?qc3 ?qc4 ?qc5 ?qc6 ?_)
 case qc1=>omega
 case qc2=>
  intro j u hj;rw[Addr.add_lit];exact Lib.cell?_alloc_some _ (Hy.o j u hj)
 case qc3=>exact H1.o
 case qc4=>rw[Nat.zero_add];unfold maxLen;omega
 case qc5=>rw[Nat.zero_add];omega
 case qc6=>simp
 intro v' w1 hown hgrow hnil;go_wp2;go_ret;refine⟨⟨v',rfl,by simpa [zgr]using hown⟩,?_⟩;exact((Below.refl _ w).alloc nl _).grown hgrow sM (by intro k hk;simp[Value.ownBlock]at hk;omega)
structure Fit(A:List (List Rat))(B C:List Rat):Prop where
 rows:A.length=B.length
 cols:∀r∈A,r.length=C.length
def KK:Nat:=10 ^ 25
theorem zn5(a b c d e:Nat)(h:b*c=d+e):(a ^ b) ^ c=a ^ d*a ^ e:=by rw[<-Nat.pow_mul,h,Nat.pow_add]
theorem zoh:KK ^ 12=Bi.Big:=zn5 10 25 12 150 150 dM
theorem zhO:1<KK:=by unfold KK;exact of_decide_eq_true (by kernel_rfl)
theorem zo6{n:Nat}(h:n<12):KK ^ n<Bi.Big:=by rw[<-zoh];exact Nat.pow_lt_pow_right zhO h
theorem zog(h:i<=j):KK ^ i<=KK ^ j:=Nat.pow_le_pow_right (by have:=zhO;omega) h
theorem zed{z:Int}{n:Nat}(hn:n<12)(h:z.natAbs<=KK ^ n):Rq.Sm z:=Nat.lt_of_le_of_lt h (zo6 hn)
theorem Bd.mono{r:Rat}{N D M E:Nat}(h:Rq.Bd r N D)(h1:N<=M)(h2:D<=E):Rq.Bd r M E:=⟨Nat.le_trans h.1 h1,Nat.le_trans h.2 h2⟩
def Sx(r:Rat):Prop:=Rq.Bd r 100 2
structure SmallD(p:Prg)(x y:List Qo):Prop where
 m:p.B.length<=5
 n:p.C.length<=5
 x:∀r,some r∈x->Sx r
 y:∀r,some r∈y->Sx r
def zoB(w:Wo)(v:Vl)(val:Qo)(x y:List Qo):Prop :=
 ∃ng ao n cap nh ap m caq ax cx ay cy,v=.agg #[.bool ng,.slice ao n cap,.bool nh,.slice ap m caq,.slice ax x.length cx,.slice ay y.length cy]/\QV w (.agg #[.bool ng,.slice ao n cap,.bool nh,.slice ap m caq]) val/\UQ w ax x/\UQ w ay y
theorem zoB.mono{w:Wo}{val:Qo}{x y:List Qo}(h:zoB w v val x y)(hb:BH w w'):zoB w' v val x y:=by
 obtain⟨ng,ao,n,cap,nh,ap,m,caq,ax,cx,ay,cy,e,h1,h2,h3⟩:=h;exact⟨ng,ao,n,cap,nh,ap,m,caq,ax,cx,ay,cy,e,h1.mono hb,h2.mono hb,h3.mono hb⟩
theorem zaH(w:Wo)(E F:TypeId)(xs ys:List Vl):∃wx,wx=(w.alloc (.cells xs.toArray E)).alloc (.cells ys.toArray F)/\Row wx w.heap.size E xs/\Row wx (w.heap.size+1) F ys/\BH w wx:=by
 refine⟨_,rfl,?_,?_,?_⟩
 ·exact Row.below (heap_alloc_new w _) (bA _ _)
 ·have:=heap_alloc_new (w.alloc (.cells xs.toArray E)) (.cells ys.toArray F)
  simpa [Row]using this
 ·exact(bA w _).alloc sM _
theorem Row.n6{w:Wo}{E:TypeId}{a b c d e f:Vl}(h:Row w g E [a,b,c,d,e,f]):w.cell? (aD_ g 0)=some a/\w.cell? (aD_ g 1)=some b/\w.cell? (aD_ g 2)=some c/\w.cell? (aD_ g 3)=some d/\w.cell? (aD_ g 4)=some e/\w.cell? (aD_ g 5)=some f :=
 ⟨h.cell (k:=0) sM,h.cell (k:=1) sM,h.cell (k:=2) sM,h.cell (k:=3) sM,h.cell (k:=4) sM,h.cell (k:=5) sM⟩
theorem QAt.kept{w:Wo}{o:Qo}(h:QAt w xs i o)(hk:zah G w w')(hp:NoG G w):QAt w' xs i o:=by
 obtain⟨n1,a1,l1,c1,n2,a2,l2,c2,e0,e1,e2,e3,hr⟩:=h;exact⟨n1,a1,l1,c1,n2,a2,l2,c2,e0,e1,e2,e3,hr.kept hk hp⟩
theorem QAt.mono{w:Wo}{o:Qo}(h:QAt w xs i o)(hb:BH w w'):QAt w' xs i o:=by
 obtain⟨n1,a1,l1,c1,n2,a2,l2,c2,e0,e1,e2,e3,hr⟩:=h;exact⟨n1,a1,l1,c1,n2,a2,l2,c2,e0,e1,e2,e3,hr.mono hb⟩
def MQ(w:Wo)(g:Nat)(l:List Qo):Prop :=
 ∃xs,Row w g 32 xs/\xs.length=l.length*4/\(∀u∈xs,zaJ u)/\∀i o,l[i]?=some o->QAt w xs i o
theorem MQ.mono{w:Wo}(h:MQ w g l)(hb:BH w w'):MQ w' g l:=by
 obtain⟨xs,h1,h2,h3,h4⟩:=h;exact⟨xs,h1.below hb,h2,h3,λi o hi=>(h4 i o hi).mono hb⟩
theorem MQ.lt{w:Wo}(h:MQ w g l):g<w.heap.size:=by
 obtain⟨xs,h1,_⟩:=h;exact h1.lt
theorem MQ.noG{w:Wo}(h:MQ w g l):NoG (λk=>k=g) w:=by
 obtain⟨xs,h1,h2,h3,h4⟩:=h;intro k hk cur t fr hc;subst hk;have:=h1.symm.trans hc;simp only[Option.some.injEq,Obj.cells.injEq]at this;obtain⟨rfl,_,_⟩:=this;exact h3
theorem MQ.kept{w:Wo}(h:MQ w g l)(hk:zah G w w')(hp:NoG G w)(hg:¬G g):MQ w' g l:=by
 obtain⟨xs,h1,h2,h3,h4⟩:=h;exact⟨xs,h1.mono hk hg,h2,h3,λi o hi=>(h4 i o hi).kept hk hp⟩
theorem MQ.read{w:Wo}(h:MQ w g l):UQ w (sD g 0) l:=by
 obtain⟨xs,h1,h2,h3,h4⟩:=h;intro i o hi;obtain⟨n1,a1,l1,c1,n2,a2,l2,c2,e0,e1,e2,e3,hq⟩:=h4 i o hi;have hc:∀j u,xs[j]?=some u->w.cell? ⟨g,0+j,none⟩=some u:=by
  intro j u hu;obtain⟨hj,rfl⟩:=List.getElem?_eq_some_iff.1 hu;rw[Nat.zero_add];exact h1.cell hj
 exact dI
theorem MQ.four{w:Wo}(h:MQ w g l)(hi:i<l.length):∃(n1:Bool)(a1:OA)(l1 c1:Nat)(n2:Bool)(a2:OA)(l2 c2:Nat),
  w.cell? ⟨g,i*4,none⟩=some (.bool n1)/\w.cell? ⟨g,i*4+1,none⟩=some (.slice a1 l1 c1)/\w.cell? ⟨g,i*4+2,none⟩=some (.bool n2)/\w.cell? ⟨g,i*4+3,none⟩=some (.slice a2 l2 c2) /\
  w.frozen? ⟨g,i*4,none⟩=false/\w.frozen? ⟨g,i*4+1,none⟩=false/\w.frozen? ⟨g,i*4+2,none⟩=false/\w.frozen? ⟨g,i*4+3,none⟩=false /\
  QV w (.agg #[.bool n1,.slice a1 l1 c1,.bool n2,.slice a2 l2 c2]) l[i]:=by
 obtain⟨xs,h1,h2,h3,h4⟩:=h;obtain⟨n1,a1,l1,c1,n2,a2,l2,c2,e0,e1,e2,e3,hq⟩:=h4 i l[i] (gE hi);have hc:∀j u,xs[j]?=some u->w.cell? (aD_ g j)=some u:=by
  intro j u hu;obtain⟨hj,rfl⟩:=List.getElem?_eq_some_iff.1 hu;exact h1.cell hj
 exact⟨n1,a1,l1,c1,n2,a2,l2,c2,hc _ _ e0,hc _ _ e1,hc _ _ e2,hc _ _ e3,h1.free _,h1.free _,h1.free _,h1.free _,hq⟩
theorem MQ.put{w:Wo}{n1:Bool}{a1:OA}{l1 c1:Nat}{n2:Bool}{a2:OA}{l2 c2:Nat}{o:Qo}(h:MQ w g l)(hi:i<l.length)(hv:QV w (.agg #[.bool n1,.slice a1 l1 c1,.bool n2,.slice a2 l2 c2]) o) :
  MQ ((((w.setCell ⟨g,i*4,none⟩ (.bool n1)).setCell ⟨g,i*4+1,none⟩ (.slice a1 l1 c1)).setCell ⟨g,i*4+2,none⟩ (.bool n2)).setCell ⟨g,i*4+3,none⟩ (.slice a2 l2 c2)) g (l.set i o) /\
  zah (λk=>k=g) w ((((w.setCell ⟨g,i*4,none⟩ (.bool n1)).setCell ⟨g,i*4+1,none⟩ (.slice a1 l1 c1)).setCell ⟨g,i*4+2,none⟩ (.bool n2)).setCell ⟨g,i*4+3,none⟩ (.slice a2 l2 c2)):=by
 have hno:=h.noG;obtain⟨xs,h1,h2,h3,h4⟩:=h;have hk:zah (λk=>k=g) w ((((w.setCell ⟨g,i*4,none⟩ (.bool n1)).setCell ⟨g,i*4+1,none⟩ (.slice a1 l1 c1)).setCell ⟨g,i*4+2,none⟩ (.bool n2)).setCell ⟨g,i*4+3,none⟩ (.slice a2 l2 c2)) :=
  (((((zah.refl w:zah (λk=>k=g) w w)).setCell (p:=⟨g,i*4,none⟩) rfl _).setCell (p:=⟨g,i*4+1,none⟩) rfl _).setCell (p:=⟨g,i*4+2,none⟩) rfl _).setCell (p:=⟨g,i*4+3,none⟩) rfl _
 refine⟨⟨(((xs.set (i*4) (.bool n1)).set (i*4+1) (.slice a1 l1 c1)).set (i*4+2) (.bool n2)).set (i*4+3) (.slice a2 l2 c2),(((h1.set _ _).set _ _).set _ _).set _ _,by simp[h2],?_,?_⟩,hk⟩
 ·intro u hu;have hm:∀(ys:List Vl)(j:Nat)(v:Vl),(∀u∈ys,zaJ u)->zaJ v->∀u∈ys.set j v,zaJ u:=by
   intro ys j v hy hv u hu;rcases List.mem_or_eq_of_mem_set hu with hu|rfl
   ·exact hy u hu
   ·exact hv
  refine hm _ _ _ (hm _ _ _ (hm _ _ _ (hm _ _ _ h3 ?_) ?_) ?_) ?_ u hu
  ·intro k z e;cases e
  ·intro k z e;cases e
  ·intro k z e;cases e
  ·intro k z e;cases e
 ·intro j q hj;have hxl:i*4+3<xs.length:=by rw[h2];omega
  by_cases hji:j=i
  ·subst hji;rw[List.getElem?_set_self hi]at hj
   cases hj
   refine⟨n1,a1,l1,c1,n2,a2,l2,c2,?_,?_,?_,?_,hv.kept hk hno⟩
   ·rw[List.getElem?_set_ne oM,List.getElem?_set_ne oM,List.getElem?_set_ne oM,List.getElem?_set_self oM]
   ·rw[List.getElem?_set_ne oM,List.getElem?_set_ne oM,List.getElem?_set_self (by simp;omega)]
   ·rw[List.getElem?_set_ne oM,List.getElem?_set_self (by simp;omega)]
   ·rw[List.getElem?_set_self (by simp;omega)]
  ·rw[List.getElem?_set_ne (λe=>hji e.symm)]at hj;obtain⟨m1,b1,k1,d1,m2,b2,k2,d2,e0,e1,e2,e3,hr⟩:=h4 j q hj;have hs:∀m,m<4->((((xs.set (i*4) (.bool n1)).set (i*4+1) (.slice a1 l1 c1)).set (i*4+2) (.bool n2)).set (i*4+3) (.slice a2 l2 c2))[j*4+m]?=xs[j*4+m]?:=by
    intro m hm;rw[List.getElem?_set_ne oM,List.getElem?_set_ne oM,List.getElem?_set_ne oM,List.getElem?_set_ne oM]
   exact⟨m1,b1,k1,d1,m2,b2,k2,d2,(hs 0 oM).trans e0,(hs 1 oM).trans e1,(hs 2 oM).trans e2,(hs 3 oM).trans e3,hr.kept hk hno⟩
theorem zmg(w:Wo):VQ w (.agg #[bF_,nS_,bF_,nS_]) false:=by
 refine⟨false,false,[],[],none,none,0,0,rfl,sM,sM,sM,sM,U.nil _ _,U.nil _ _,hii (Iff.intro (λh=>nomatch h) ?_)⟩;rintro⟨r,_,_,_,_,hd,_⟩;rw[Bi.limbs_pos r.den_nz]at hd
 cases hd
def zpf(r:Nat×Rat)(w':Wo)(e:Ending):Prop:=if r.1=0 then zb3 w' r.2 e else NoQ r.1 e
theorem zpf.got{r:Nat×Rat}{q:Rat}(hr:r=(0,q))(h:zb3 w' q e):zpf r w' e:=by
 unfold zpf;rw[hr,if_pos rfl];exact h
theorem zcT(z:Int):zaB z=0↔z=0:=by
 unfold zaB
 split
 ·next h=>simp[h]
 ·split
  ·next h h2=>simp[h]
  ·next h h2=>simp[h]
theorem getD_of{α:Type}{l:List α}{a d:α}(h:l[k]?=some a):l.getD k d=a:=by
 rw[List.getD_eq_getElem?_getD,h];rfl
theorem zd7.rat{w:Wo}{r:Rat}(h:zd7 w r e):∃ng ao n cap nh ap m caq,e=.returned (.agg #[.bool ng,.slice ao n cap,.bool nh,.slice ap m caq])/\zad w (qA ng ao n cap nh ap m caq) r:=by
 obtain⟨ng,ao,n,cap,nh,ap,m,caq,e,h1,h2⟩:=h;exact⟨ng,ao,n,cap,nh,ap,m,caq,e,ng,ao,n,cap,nh,ap,m,caq,rfl,h1.o,h2.o⟩
def zpg(w:Wo)(g n k:Nat)(v4:List Vl):Prop :=
 ∃xs,Row w g 32 xs/\xs.length=n*4/\∀j,j<k*4->xs[j]?=v4[j % 4]?
theorem zpg.mono{w:Wo}{n:Nat}{v4:List Vl}(h:zpg w g n k v4)(hb:BH w w'):zpg w' g n k v4:=by
 obtain⟨xs,h1,h2,h3⟩:=h;exact⟨xs,h1.below hb,h2,h3⟩
end Go.Proofs.YtfgffkmddanjjaaGreatDoor
