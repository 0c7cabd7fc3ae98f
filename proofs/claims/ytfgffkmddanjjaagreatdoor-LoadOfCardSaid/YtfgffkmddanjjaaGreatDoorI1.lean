/-
  Short names (tools/compress.py puts them in).
-/
import Derived.Test.YtfgffkmddanjjaaGreatDoorProg
import Derived.WalkKit
import Derived.Below
import Derived.Lib.Hide
import Derived.WalkSpells
import Derived.WalkLawsBesides
import Derived.BigQuiet
import Derived.Deep.QuietTactic
import Derived.Outline
import Derived.Deep.DeepFit
import Derived.Deep.DeepCutAuto
section
open Go Go.RowKit
abbrev Wo:=World
abbrev Vl:=Value
abbrev OA:=Option Addr
abbrev LN:=List Nat
abbrev CP:=Calls Go.Proofs.Tryz.prog
abbrev nS_:Value:=.slice none 0 0
abbrev bF_:Value:=.bool false
abbrev pT(g k:Nat):Value:=.pointer (some ⟨g,k,none⟩)
abbrev sD(g k:Nat):Option Addr:=some ⟨g,k,none⟩
abbrev aD_(g k:Nat):Addr:=⟨g,k,none⟩
abbrev BH(a b:Wo):Prop:=Below (a.heap.size) a b
theorem oM{p:Prop}(h:p:=by omega):p:=h
theorem dM{p:Prop}(h:p:=by decide):p:=h
theorem rM{p:Prop}(h:p:=by rfl):p:=h
theorem sM{p:Prop}(h:p:=by simp):p:=h
theorem gM{p:Prop}(h:p:=by go_num):p:=h
theorem tM{p:Prop}(h:p:=by trivial):p:=h
theorem mM{p:Prop}(h:p:=by simp[intOf];omega):p:=h
abbrev qA(j:Bool)(a:OA)(n y:Nat)(k:Bool)(b:OA)(m z:Nat):Vl:=.agg #[.bool j,.slice a n y,.bool k,.slice b m z]
abbrev FW:=World->Value->Prop
abbrev FV:=(Nat->Prop)->World->Value->Prop
theorem Go.RowKit.Hid.o{p:Prop}(h:Hid p):p:=h.out
theorem cE{p:Prop}(h:p:=by have HK:=hii hK;clear hK hA;refine wO rfl ?_;go_simp;exact HK.o _ _ ⟨λ_=>br,λh=>absurd h (zas dM dM)⟩ (rfl)):p:=h
theorem cF{p:Prop}(h:p:=by have f1:=hrow.free 1;have q2:=hrow.cell (k:=2) sM;have f2:=hrow.free 2;have q3:=hrow.cell (k:=3) sM;have f3:=hrow.free 3;simp only[List.getElem_cons_zero,List.getElem_cons_succ]at q0 q1 q2 q3;refine wO rfl ?_;go_simp;exact HK.o):p:=h
theorem cG{p:Prop}(h:p:=by rintro o ho T W K hK;obtain rfl:=Option.some.inj ho;simp only[sA]at hK|-;have HK:=hii hK;clear hK ho;refine wO rfl ?_;go_simp;exact HK.o):p:=h
theorem cH{p:Prop}(h:p:=by refine wO rfl ?_;go_simp;exact HK.o _ _ br (rfl)):p:=h
theorem cJ{p:Prop}(h:p:=by have HK:=hii hK;clear hK hA ho;have q0:=hrow.cell (k:=0) sM;have f0:=hrow.free 0;have q1:=hrow.cell (k:=1) sM;exact cF):p:=h
theorem cK{p:Prop}(h:p:=by refine wO rfl ?_;go_simp;exact HK.o _ _ br λX hX _=>hX):p:=h
theorem cM{p:Prop}(h:p:=by have HK:=hii hK;clear hK hA;refine zaT rfl rM ?_;simp only[Act.put,List.setIfInBounds_toArray];exact HK.o _ _ br (rfl)):p:=h
theorem cN{p:Prop}(h:p:=by obtain⟨⟨p0,p1,p2,p3⟩,q0,⟨⟨v0,v1,v2,v3⟩,q4⟩,R9,R5⟩:=zoj r4 r5 Hne.o;have hne1:=Hne.o;have hne2:=Ne.symm Hne.o;have HB9:=hii hbw;go_wp2;obtain⟨e0,e1,e2,e3⟩:=Row.n4 R9.o;obtain⟨f0,f1,f2,f3⟩:=Row.n4 R5.o;refine bodyPost_ret (v:=.tuple #[.agg #[bF_,nS_,bF_,nS_],.agg #[bF_,nS_,bF_,nS_],.int .i64 (7)]) (by simp[results,Tryz.results14,go_sem,e0,e1,e2,e3,f0,f1,f2,f3]) rfl ⟨.inl ⟨by rw[HBE.o];decide,by rw[HBE.o];rfl⟩,?_⟩;exact HB9.o.trans ((zid.trans two_k').below (λb e=>by rcases e with rfl|rfl<;>first|exact Hg4.o|exact Hg5.o) HB9.o.size)):p:=h
theorem cP{p:Prop}(h:p:=by go_wp2;go_ret;exact⟨rfl,hbw⟩):p:=h
theorem cT{p:Prop}(h:p:=by exact hbw.trans (hk.below (λb e=>by rw[e];exact HgR.o) hbw.size)):p:=h
theorem cV{p:Prop}(h:p:=by refine wO rfl ?_;go_simp;exact HK.o _ _ ⟨λ_=>br,λh=>absurd h dM,zah.refl _⟩ (rfl)):p:=h
theorem cZ{p:Prop}(h:p:=by go_wp2;go_ret;exact⟨by rw[HE1.o];rfl,hbw⟩):p:=h
theorem d6{p:Prop}(h:p:=by exact HK.o _ _ hb1 (rfl)):p:=h
theorem d7{p:Prop}(h:p:=by simp only[Option.isSome_none,Bool.false_eq_true,if_false]at hc;exact hp b hb cur t fr ho _ (by have:=Array.mem_of_getElem? hc;exact Array.mem_toList_iff.2 this) _ _ rfl):p:=h
theorem d8{p:Prop}(h:p:=by have hbw:=bu hbw hb;clear hb;clear x0a x0b x0c x0d;exact cP):p:=h
theorem d9{p:Prop}(h:p:=by obtain⟨J8,ao8,n8,Y8,K8,ap8,m8,Z8,e7⟩:=r7.parts;have hK:=hK [.bool J8,.slice ao8 n8 Y8,.bool K8,.slice ap8 m8 Z8] (.inl e7) rfl (by intro u hu k z e;subst e;simp at hu);simp only[sA,ep,e7]at hK|-;exact cJ):p:=h
theorem dA{p:Prop}(h:p:=by obtain⟨J8,ao8,n8,Y8,K8,ap8,m8,Z8,e4⟩:=r4.parts;have hK:=hK [.bool J8,.slice ao8 n8 Y8,.bool K8,.slice ap8 m8 Z8] (.inl e4) rfl (by intro u hu k z e;subst e;simp at hu);simp only[sA,ep,e4]at hK|-;exact cJ):p:=h
theorem dB{p:Prop}(h:p:=by have HK:=hii hK;clear hK hA;exact cK):p:=h
theorem dC{p:Prop}(h:p:=by obtain rfl:k=l.length:=oM;go_wp2;go_ret;exact⟨by rw[zbL (λx hx=>HN.o x (by rw[List.take_length];exact hx))];rfl,hbw⟩):p:=h
theorem dD{p:Prop}(h:p:=by refine(Below.put2 (((bA w _).trans (hb1.mono sM))) nl _ _).alloc ?_ _;have:=hb1.size;simp at this;simp[World.setCell];omega):p:=h
theorem dE{p:Prop}(h:p:=by simp only[Option.some.injEq,Obj.cells.injEq]at this;obtain⟨rfl,_,_⟩:=this;intro u hu;exact hx u (by simpa using hu)):p:=h
theorem dF{p:Prop}(h:p:=by refine⟨hl,by rw[gE hl]at hk;cases hk;exact ho,λj hj=>?_⟩;have:=h (l[j]'oM) (List.mem_take_iff_getElem.2 ⟨j,oM,rfl⟩);simp[this]):p:=h
theorem dG{p:Prop}(h:p:=by rw[List.getElem?_set_ne oM];exact HF.o j oM):p:=h
theorem dH{p:Prop}(h:p:=by go_wp2;go_ret;exact⟨by rw[HE3.o];rfl,hbw⟩):p:=h
theorem dI{p:Prop}(h:p:=by exact⟨g,0,n1,a1,l1,c1,n2,a2,l2,c2,rfl,⟨hc _ _ e0,hc _ _ e1,hc _ _ e2,hc _ _ e3,trivial,trivial,trivial,trivial⟩,hq⟩):p:=h
theorem dJ{p:Prop}(h:p:=by go_wp2;go_ret;exact⟨zaG hx.o.symm,br.alloc nl _⟩):p:=h
theorem dK{p:Prop}(h:p:=by have HK:=hii hK;clear hK hA;exact cH):p:=h
theorem dL{p:Prop}(h:p:=by rw[hX];exact⟨_,rfl,h6⟩):p:=h
theorem dN{p:Prop}(h:p:=by exact Below.put2 (hbd.trans ((hb1.mono hbd.size).trans (hb2.mono (Nat.le_trans hbd.size hb1.size)))) oM _ _):p:=h
theorem dO{p:Prop}(h:p:=by have HK:=hii hK;clear hK hA;have h0:=(hb.cell (zaf hc)).trans hc;exact cH):p:=h
theorem dP{p:Prop}(h:p:=by simp only[sA,eT]at hK|-;exact cE):p:=h
theorem dQ{p:Prop}(h:p:=by rw[hX];exact⟨_,rfl,hV7⟩):p:=h
theorem dR{p:Prop}(h:p:=by simp only[sA,e0,e1,e2,e3,e4,e5,e6,e7,e8,e9,e10]at hK|-;exact cE):p:=h
theorem dS{p:Prop}(h:p:=by have hbw:=bu hbw hb;clear hb;exact cP):p:=h
theorem dT{p:Prop}(h:p:=by go_wp2;go_ret;exact⟨rfl,br⟩):p:=h
theorem dU{p:Prop}(h:p:=by exact HB9.o.trans ((zfW wC g4 _ _ _ _).below (λb e=>by rw[e];exact Hg4.o) HB9.o.size)):p:=h
theorem dV{p:Prop}(h:p:=by go_wp2;go_ret;exact⟨by rw[zci oM];rfl,hbw⟩):p:=h
theorem dW{p:Prop}(h:p:=by obtain⟨y0,y1,y2⟩:=(HP5.o.1.below hW9).n3;simp only[sA,e0]at hK|-;exact cE):p:=h
theorem dX{p:Prop}(h:p:=by exact(hbl.setCell nl _).setCell nl _):p:=h
theorem dY{p:Prop}(h:p:=by exact HK.o _ _ hb1 (hV7)):p:=h
theorem dZ{p:Prop}(h:p:=by simp[Lit.wf,IntKind.min,IntKind.max,IntKind.signed,IntKind.bits]at h;omega):p:=h
theorem eD{p:Prop}(h:p:=by have hbw:=bu hbw hb;clear hb;clear x1a x1b x1c x1d x2a x2b x2c x2d;exact cP):p:=h
theorem eE{p:Prop}(h:p:=by rintro⟨g,cap,cur,e,hb,r⟩;exact⟨g,cap,cur,e,Nat.le_trans hB hb,r⟩):p:=h
theorem eF{p:Prop}(h:p:=by exact Hbw.o.trans (R2.below (λb e=>by rw[e];exact Hg4.o) Hbw.o.size)):p:=h
theorem eG{p:Prop}(h:p:=by exact⟨b,off,e,(hb.cell (zaf hc)).trans hc⟩):p:=h
theorem eH{p:Prop}(h:p:=by obtain⟨x0,x1,x2⟩:=r9.n3;simp only[sA,e6]at hK|-;exact cE):p:=h
theorem eI{p:Prop}(h:p:=by intro b hb cur t fr hc;subst hb;have:=r.symm.trans hc;exact dE):p:=h
theorem eJ{p:Prop}(h:p:=by  exact Bi.limbs_ok _):p:=h
theorem eK{p:Prop}(h:p:=by exact(((br.alloc sM _).alloc sM _).alloc (by simp;omega) _)):p:=h
theorem eM{p:Prop}(h:p:=by rw[hX];exact h6):p:=h
theorem eN{p:Prop}(h:p:=by rw[hdo]at hkd;exact hjk (zbJ hnd' hdj (by rw[<-hkd,e]))):p:=h
theorem hii{p:Prop}(h:p):Hid p:=Lib.hid h
theorem f0(T:Nat->Vl)(n:Nat){V:Vl}{z:Prop}(h:T n=V/\z):T n=V:=h.1
theorem f1(T:Nat->Vl)(n:Nat){V:Vl}{a z:Prop}(h:a/\T n=V/\z):T n=V:=h.2.1
theorem f2(T:Nat->Vl)(n:Nat){V:Vl}{a b z:Prop}(h:a/\b/\T n=V/\z):T n=V:=h.2.2.1
theorem f3(T:Nat->Vl)(n:Nat){V:Vl}{a b c z:Prop}(h:a/\b/\c/\T n=V/\z):T n=V:=h.2.2.2.1
theorem f4(T:Nat->Vl)(n:Nat){V:Vl}{a b c d z:Prop}(h:a/\b/\c/\d/\T n=V/\z):T n=V:=h.2.2.2.2.1
theorem f5(T:Nat->Vl)(n:Nat){V:Vl}{a b c d e z:Prop}(h:a/\b/\c/\d/\e/\T n=V/\z):T n=V:=h.2.2.2.2.2.1
theorem f6(T:Nat->Vl)(n:Nat){V:Vl}{a b c d e f z:Prop}(h:a/\b/\c/\d/\e/\f/\T n=V/\z):T n=V:=h.2.2.2.2.2.2.1
theorem f7(T:Nat->Vl)(n:Nat){V:Vl}{a b c d e f g z:Prop}(h:a/\b/\c/\d/\e/\f/\g/\T n=V/\z):T n=V:=h.2.2.2.2.2.2.2.1
theorem f8(T:Nat->Vl)(n:Nat){V:Vl}{a b c d e f g h z:Prop}(h:a/\b/\c/\d/\e/\f/\g/\h/\T n=V/\z):T n=V:=h.2.2.2.2.2.2.2.2.1
theorem f9(T:Nat->Vl)(n:Nat){V:Vl}{a b c d e f g h i z:Prop}(h:a/\b/\c/\d/\e/\f/\g/\h/\i/\T n=V/\z):T n=V:=h.2.2.2.2.2.2.2.2.2.1
theorem f10(T:Nat->Vl)(n:Nat){V:Vl}{a b c d e f g h i j z:Prop}(h:a/\b/\c/\d/\e/\f/\g/\h/\i/\j/\T n=V/\z):T n=V:=h.2.2.2.2.2.2.2.2.2.2.1
theorem f11(T:Nat->Vl)(n:Nat){V:Vl}{a b c d e f g h i j k z:Prop}(h:a/\b/\c/\d/\e/\f/\g/\h/\i/\j/\k/\T n=V/\z):T n=V:=h.2.2.2.2.2.2.2.2.2.2.2.1
theorem f12(T:Nat->Vl)(n:Nat){V:Vl}{a b c d e f g h i j k l z:Prop}(h:a/\b/\c/\d/\e/\f/\g/\h/\i/\j/\k/\l/\T n=V/\z):T n=V:=h.2.2.2.2.2.2.2.2.2.2.2.2.1
theorem bu{a b c:Wo}(h1:BH a b)(h2:BH b c):BH a c:=h1.trans (h2.mono h1.size)
theorem rl{a b c:Prop}(f:b->c)(h:a\/b)(n:¬a:=by decide):c:=f (h.resolve_left n)
theorem sT{α:Type}(l:List α)(i:Nat)(a:α):l.toArray.setIfInBounds i a=(l.set i a).toArray:=List.setIfInBounds_toArray l i a
theorem sZ{α:Type}{x:α}{xs:List α}{a:α}:(x :: xs).set 0 a=a :: xs:=List.set_cons_zero
theorem sS{α:Type}{x:α}{xs:List α}{i:Nat}{a:α}:(x :: xs).set (i+1) a=x :: xs.set i a:=List.set_cons_succ
theorem br{B:Nat}{w:Wo}:Below B w w:=Below.refl B w
theorem nl{n:Nat}:n<=n:=Nat.le_refl n
theorem rP{p:Prop}(h:p:=by(repeat' (first|with_reducible assumption|with_reducible exact br|with_reducible refine Below.drew ?_|with_reducible refine Below.alloc ?_ ?_ _|with_reducible refine Below.setCell ?_ ?_ _|with_reducible refine Below.step ?_ he2 ?_|with_reducible refine Below.step ?_ he1 ?_|(first|exact nl|omega|(simp;done)|(simp;omega)|(unfold World.setCell;simp;done)|(unfold World.setCell;simp;omega))))):p:=h
theorem exi{α:Type}(a:α):∃x,x=a:=⟨a,rfl⟩
theorem gE{α:Type}{l:List α}{i:Nat}(h:i<l.length):l[i]?=some l[i]:=List.getElem?_eq_getElem h
end
set_option maxRecDepth 100000
set_option maxHeartbeats 25600000
namespace Bi
def val:LN->Nat
 |[]=>0
 |x :: r=>x+1000000000*val r
def Ok(l:LN):Prop:=∀x∈l,x<1000000000
def trim:LN->LN
 |[]=>[]
 |x :: r=>if trim r=[]then(if x=0 then []else [x])else x :: trim r
def zcy:Nat->Nat->LN
 |0,_=>[]
 |f+1,n=>if n=0 then []else(n % 1000000000) :: zcy f (n / 1000000000)
def limbs(n:Nat):LN:=zcy n n
theorem zc0:∀(f g n:Nat),n<=f->n<=g->zcy f n=zcy g n
 |0,0,_,_,_=>rfl
 |0,g+1,n,h,_=>by
  have:n=0:=oM;subst this;simp[zcy]
 |f+1,0,n,_,h=>by
  have:n=0:=oM;subst this;simp[zcy]
 |f+1,g+1,n,hf,hg=>by
  simp only[zcy]
  split
  ·rfl
  ·rw[zc0 f g (n / 1000000000) oM oM]
theorem limbs_zero:limbs 0=[]:=rfl
theorem limbs_pos{n:Nat}(h:n≠0):limbs n=(n % 1000000000) :: limbs (n / 1000000000):=by
 obtain⟨m,rfl⟩:∃m,n=m+1:=⟨n-1,oM⟩
 show zcy (m+1) (m+1)=_
 simp only[zcy,if_neg h];rw[show limbs ((m+1) / 1000000000)=zcy ((m+1) / 1000000000) ((m+1) / 1000000000)from rfl];rw[zc0 m ((m+1) / 1000000000) ((m+1) / 1000000000) oM oM]
theorem limbs_cons{x n:Nat}(hx:x<1000000000)(h:x+1000000000*n≠0):limbs (x+1000000000*n)=x :: limbs n:=by
 rw[limbs_pos h];rw[show(x+1000000000*n) % 1000000000=x by omega,show(x+1000000000*n) / 1000000000=n by omega]
theorem Ok.nil:Ok []:=by simp[Ok]
theorem Ok.cons{x:Nat}{r:LN}(hx:x<1000000000)(hr:Ok r):Ok (x :: r):=by
 intro y hy;rcases List.mem_cons.1 hy with rfl|hy
 ·exact hx
 ·exact hr y hy
theorem Ok.head{x:Nat}{r:LN}(h:Ok (x :: r)):x<1000000000:=h x sM
theorem Ok.tail{x:Nat}{r:LN}(h:Ok (x :: r)):Ok r:=λy hy=>h y (by simp[hy])
theorem Ok.append{a b:LN}(ha:Ok a)(hb:Ok b):Ok (a++b):=by
 intro y hy;rcases List.mem_append.1 hy with hy|hy
 ·exact ha y hy
 ·exact hb y hy
theorem Ok.left{a b:LN}(h:Ok (a++b)):Ok a:=λy hy=>h y (by simp[hy])
theorem Ok.take{a:LN}(h:Ok a)(k:Nat):Ok (a.take k):=λy hy=>h y (List.mem_of_mem_take hy)
theorem Ok.drop{a:LN}(h:Ok a)(k:Nat):Ok (a.drop k):=λy hy=>h y (List.mem_of_mem_drop hy)
theorem Ok.get{a:LN}(h:Ok a)(k:Nat)(hk:k<a.length):a[k]<1000000000:=h _ (List.getElem_mem hk)
theorem Ok.at'{a:LN}(h:Ok a){k x:Nat}(hk:a[k]?=some x):x<1000000000:=h x (List.mem_of_getElem? hk)
theorem Ok.getD{a:LN}(h:Ok a)(k:Nat):a.getD k 0<1000000000:=by
 rw[List.getD_eq_getElem?_getD]
 by_cases hk:k<a.length
 ·rw[gE hk];exact h.get k hk
 ·rw[List.getElem?_eq_none oM];simp
theorem limbs_ok(n:Nat):Ok (limbs n):=by
 induction n using Nat.strongRecOn with
 |_ n ih=>
  by_cases h:n=0
  ·subst h;exact Ok.nil
  ·rw[limbs_pos h];exact Ok.cons oM (ih _ oM)
theorem val_limbs(n:Nat):val (limbs n)=n:=by
 induction n using Nat.strongRecOn with
 |_ n ih=>
  by_cases h:n=0
  ·subst h;rfl
  ·rw[limbs_pos h,val,ih _ oM];omega
theorem zb9{l:LN}:trim l=[]↔val l=0:=by
 induction l with
 |nil=>simp[trim,val]
 |cons x r ih=>
  simp only[trim,val]
  by_cases hr:trim r=[]
  ·rw[if_pos hr];have hv:=ih.1 hr
   by_cases hx:x=0
   ·simp[hx,hv]
   ·simp[hx]
  ·rw[if_neg hr];have hv:val r≠0:=λh=>hr (ih.2 h)
   simp;omega
theorem trim_eq_limbs{l:LN}(h:Ok l):trim l=limbs (val l):=by
 induction l with
 |nil=>rfl
 |cons x r ih=>
  have ih:=ih h.tail;have hx:=h.head;simp only[trim,val]
  by_cases hr:trim r=[]
  ·rw[if_pos hr];have hv:=zb9.1 hr;rw[hv]
   by_cases hx0:x=0
   ·simp[hx0,limbs_zero]
   ·rw[if_neg hx0,Nat.mul_zero,Nat.add_zero];have:=limbs_cons (n:=0) hx oM
    simpa [limbs_zero]using this.symm
  ·rw[if_neg hr];have hv:val r≠0:=λh=>hr (zb9.2 h)
   rw[limbs_cons hx oM,ih]
theorem zcl(a b:LN):val (a++b)=val a+1000000000 ^ a.length*val b:=by
 induction a with
 |nil=>simp[val]
 |cons x r ih=>
  simp only[List.cons_append,val,ih,List.length_cons,Nat.pow_succ];rw[Nat.mul_add,<-Nat.mul_assoc,Nat.mul_comm (1000000000 ^ r.length) 1000000000];omega
theorem val_lt{l:LN}(h:Ok l):val l<1000000000 ^ l.length:=by
 induction l with
 |nil=>simp[val]
 |cons x r ih=>
  have ih:=ih h.tail;have hx:=h.head;simp only[val,List.length_cons,Nat.pow_succ];omega
theorem val_replicate_zero(n:Nat):val (List.replicate n 0)=0:=by
 induction n with
 |zero=>rfl
 |succ n ih=>simp[List.replicate_succ,val,ih]
theorem zda(a:LN)(n:Nat):trim (a++List.replicate n 0)=trim a:=by
 have hz:∀n,trim (List.replicate n 0)=[]:=by
  intro n;exact zb9.2 (val_replicate_zero n)
 induction a with
 |nil=>rw[List.nil_append,hz n];rfl
 |cons x r ih=>simp only[List.cons_append,trim,ih]
def Canon(l:LN):Prop:=∀(h:l≠[]),l.getLast h≠0
theorem zcM{l:LN}(h:Canon l):trim l=l:=by
 induction l with
 |nil=>rfl
 |cons x r ih=>
  simp only[trim]
  by_cases hr:r=[]
  ·subst hr;have:=h sM;simp at this;simp[trim,this]
  ·have hc:Canon r:=by
    intro h0;have:=h sM
    rwa [List.getLast_cons h0]at this
   rw[ih hc,if_neg hr]
theorem limbs_canon(n:Nat):Canon (limbs n):=by
 induction n using Nat.strongRecOn with
 |_ n ih=>
  by_cases h:n=0
  ·subst h;intro h0;exact absurd limbs_zero h0
  ·intro h0;have e:=limbs_pos h
   by_cases hq:n / 1000000000=0
   ·have:limbs n=[n % 1000000000]:=by rw[e,hq,limbs_zero]
    simp only[this,List.getLast_singleton];omega
   ·have hne:limbs (n / 1000000000)≠[]:=by rw[limbs_pos hq];simp
    have:=ih (n / 1000000000) oM hne;simp only[e]
    rwa [List.getLast_cons hne]
theorem canon_limbs{l:LN}(ho:Ok l)(hc:Canon l):limbs (val l)=l:=by
 rw[<-trim_eq_limbs ho,zcM hc]
theorem limbs_inj{a b:Nat}(h:limbs a=limbs b):a=b:=by rw[<-val_limbs a,h,val_limbs]
theorem limbs_eq_nil{n:Nat}:limbs n=[]↔n=0:=by
 constructor
 ·intro h;have:=val_limbs n;rw[h]at this;exact this.symm
 ·rintro rfl;rfl
theorem trim_take{l:LN}{k:Nat}(hk:k<=l.length)(hz:∀j,k<=j->j<l.length->l[j]?=some 0)(hn:k=0\/∃x,l[k-1]?=some x/\x≠0) :
  trim l=l.take k:=by
 have e:l=l.take k++List.replicate (l.length-k) 0:=by
  apply List.ext_getElem?
  intro j
  by_cases hj:j<k
  ·rw[List.getElem?_append_left (by simp;omega),List.getElem?_take_of_lt hj]
  ·by_cases hj2:j<l.length
   ·rw[hz j oM hj2,List.getElem?_append_right (by simp;omega)];rw[List.getElem?_replicate_of_lt];simp;omega
   ·rw[List.getElem?_eq_none oM,List.getElem?_eq_none];simp;omega
 rw[e,zda];have hl:(l.take k).length=k:=by simp;omega
 have h2:(l.take k++List.replicate (l.length-k) 0).take k=l.take k:=by rw[<-e]
 rw[h2]
 apply zcM
 intro h0;have hk0:k≠0:=by
  rintro rfl;simp at h0
 obtain⟨x,hx,hx0⟩:=hn.resolve_left hk0;rw[List.getLast_eq_getElem];have:(l.take k)[(l.take k).length-1]?=some x:=by rw[hl,List.getElem?_take_of_lt oM];exact hx
 rw[gE oM]at this;simp only[Option.some.injEq]at this;rw[this];exact hx0
theorem val_lt_of_length{a b:Nat}(h:(limbs a).length<(limbs b).length):a<b:=by
 have h1:=val_lt (limbs_ok a);rw[val_limbs]at h1
 apply Nat.lt_of_not_le
 intro hle;have:1000000000 ^ ((limbs b).length-1)<=b:=by
  have hb:limbs b≠[]:=by intro h0;simp[h0]at h
  have hc:=limbs_canon b hb;have e:=List.dropLast_concat_getLast hb;have hv:val ((limbs b).dropLast++[(limbs b).getLast hb])=b:=by rw[e,val_limbs]
  rw[zcl]at hv;simp only[val,List.length_dropLast]at hv;have h1:1<=(limbs b).getLast hb:=oM;have:=Nat.mul_le_mul_left (1000000000 ^ ((limbs b).length-1)) h1;simp only[Nat.mul_one,Nat.mul_zero,Nat.add_zero]at this hv;omega
 have h2:1000000000 ^ (limbs a).length<=1000000000 ^ ((limbs b).length-1):=Nat.pow_le_pow_right dM oM;omega
theorem val_lt_of_diff:∀{a b:LN},Ok a->Ok b->a.length=b.length->∀i:Nat,(∃x y:Nat,a[i]?=some x/\b[i]?=some y/\x<y)->(∀j,i<j->a[j]?=b[j]?)->val a<val b
 |[],b,_,_,hl,i,⟨x,y,hx,_,_⟩,_=>by simp at hx
 |x :: r,[],_,_,hl,_,_,_=>by simp at hl
 |x :: r,y :: t,ha,hb,hl,0,⟨x',y',hx,hy,hxy⟩,he=>by
  simp at hx hy;subst hx;subst hy;have:r=t:=List.ext_getElem? λj=>by simpa using he (j+1) oM
  subst this;simp only[val];omega
 |x :: r,y :: t,ha,hb,hl,i+1,⟨x',y',hx,hy,hxy⟩,he=>by
  have:=val_lt_of_diff ha.tail hb.tail (by simpa using hl) i ⟨x',y',by simpa using hx,by simpa using hy,hxy⟩ (λj hj=>by simpa using he (j+1) oM);have h1:=ha.head;have h2:=hb.head;simp only[val];omega
theorem zak(l:LN)(k:Nat):val (l.take (k+1))=val (l.take k)+1000000000 ^ k*l.getD k 0:=by
 by_cases hk:k<l.length
 ·rw[List.take_succ_eq_append_getElem hk,zcl];simp only[val,List.length_take,Nat.min_eq_left (Nat.le_of_lt hk),List.getD_eq_getElem?_getD,gE hk,Option.getD_some,Nat.mul_zero,Nat.add_zero]
 ·rw[List.take_of_length_le oM,List.take_of_length_le oM,List.getD_eq_getElem?_getD,List.getElem?_eq_none oM];simp
theorem val_snoc(l:LN)(x:Nat):val (l++[x])=val l+1000000000 ^ l.length*x:=by
 rw[zcl];simp[val]
theorem plus_step{o x y:LN}{k c d c':Nat}(hol:o.length=k)(hinv:val o+1000000000 ^ k*c=val (x.take k)+val (y.take k))
  (hd:d+1000000000*c'=x.getD k 0+y.getD k 0+c) :
  val (o++[d])+1000000000 ^ (k+1)*c'=val (x.take (k+1))+val (y.take (k+1)):=by
 rw[val_snoc,zak,zak,hol,Nat.pow_succ];have h1:1000000000 ^ k*d+1000000000 ^ k*1000000000*c'=1000000000 ^ k*x.getD k 0+1000000000 ^ k*y.getD k 0+1000000000 ^ k*c:=by
  rw[Nat.mul_assoc,<-Nat.mul_add,hd,Nat.mul_add,Nat.mul_add]
 omega
theorem Ok.snoc{l:LN}{x:Nat}(h:Ok l)(hx:x<1000000000):Ok (l++[x]):=h.append (Ok.cons hx Ok.nil)
theorem getD_of{l:LN}{k x:Nat}(h:l[k]?=some x):l.getD k 0=x:=by
 rw[List.getD_eq_getElem?_getD,h];rfl
theorem getD_out{l:LN}{k:Nat}(h:l.length<=k):l.getD k 0=0:=by
 rw[List.getD_eq_getElem?_getD,List.getElem?_eq_none h];rfl
theorem minus_step{o x y:LN}{k c d c':Nat}(hol:o.length=k)(hinv:val o+val (y.take k)=val (x.take k)+1000000000 ^ k*c)
  (hd:d+y.getD k 0+c=x.getD k 0+1000000000*c') :
  val (o++[d])+val (y.take (k+1))=val (x.take (k+1))+1000000000 ^ (k+1)*c':=by
 rw[val_snoc,zak,zak,hol,Nat.pow_succ];have h1:1000000000 ^ k*d+1000000000 ^ k*y.getD k 0+1000000000 ^ k*c=1000000000 ^ k*x.getD k 0+1000000000 ^ k*1000000000*c':=by
  rw[Nat.mul_assoc,<-Nat.mul_add,<-Nat.mul_add,hd,Nat.mul_add]
 omega
theorem minus_end{o x y:LN}{c:Nat}(hoo:Ok o)(hol:o.length=x.length)(hle:val y<=val x)(hyl:y.length<=x.length)
  (hinv:val o+val (y.take x.length)=val (x.take x.length)+1000000000 ^ x.length*c):val o=val x-val y:=by
 rw[List.take_of_length_le hyl,List.take_of_length_le nl]at hinv;have h1:=val_lt hoo;rw[hol]at h1;rcases Nat.eq_zero_or_pos c with h0|h0
 ·subst h0;omega
 ·have:1000000000 ^ x.length*1<=1000000000 ^ x.length*c:=Nat.mul_le_mul_left _ h0;omega
theorem ziZ(o:LN)(j d:Nat)(hj:j<o.length):val (o.set j d)+1000000000 ^ j*o.getD j 0=val o+1000000000 ^ j*d:=by
 induction o generalizing j with
 |nil=>simp at hj
 |cons x r ih=>
  cases j with
  |zero=>simp[val];omega
  |succ j=>
   have:=ih j (by simpa using hj);simp only[List.set_cons_succ,val,Nat.pow_succ,List.getD_cons_succ];rw[Nat.mul_comm (1000000000 ^ j) 1000000000,Nat.mul_assoc,Nat.mul_assoc];omega
theorem Ok.set{o:LN}(h:Ok o)(j:Nat){d:Nat}(hd:d<1000000000):Ok (o.set j d):=by
 intro y hy;rcases List.mem_or_eq_of_mem_set hy with h1|rfl
 ·exact h y h1
 ·exact hd
theorem Ok.replicate(n:Nat):Ok (List.replicate n 0):=by
 intro y hy;have:=List.eq_of_mem_replicate hy;omega
theorem times_step{o:LN}{i k c s x:Nat}{V:Nat}{y:LN}(hj:i+k<o.length)(hs:s=o.getD (i+k) 0+x*y.getD k 0+c)
  (hinv:val o+1000000000 ^ (i+k)*c=V+1000000000 ^ i*(x*val (y.take k))) :
  val (o.set (i+k) (s % 1000000000))+1000000000 ^ (i+(k+1))*(s / 1000000000)=V+1000000000 ^ i*(x*val (y.take (k+1))):=by
 have h1:=ziZ o (i+k) (s % 1000000000) hj;rw[zak,<-Nat.add_assoc,Nat.pow_succ];have h2:1000000000 ^ (i+k)*s=1000000000 ^ (i+k)*(s % 1000000000)+1000000000 ^ (i+k)*1000000000*(s / 1000000000):=by
  rw[Nat.mul_assoc,<-Nat.mul_add,Nat.mod_add_div]
 have h3:1000000000 ^ (i+k)*s=1000000000 ^ (i+k)*o.getD (i+k) 0+1000000000 ^ (i+k)*(x*y.getD k 0)+1000000000 ^ (i+k)*c:=by
  rw[hs,Nat.mul_add,Nat.mul_add]
 have h4:1000000000 ^ i*(x*(val (y.take k)+1000000000 ^ k*y.getD k 0))=1000000000 ^ i*(x*val (y.take k))+1000000000 ^ (i+k)*(x*y.getD k 0):=by
  rw[Nat.mul_add,Nat.mul_add,Nat.pow_add,Nat.mul_assoc (1000000000 ^ i)]
  congr 2
  rw[<-Nat.mul_assoc,<-Nat.mul_assoc,Nat.mul_comm x]
 rw[h4];omega
theorem times_row{o:LN}{i n c x:Nat}{V:Nat}{y:LN}(hn:n=y.length)(hj:i+n<o.length)(h0:o.getD (i+n) 0=0)
  (hinv:val o+1000000000 ^ (i+n)*c=V+1000000000 ^ i*(x*val (y.take n))) :
  val (o.set (i+n) c)=V+1000000000 ^ i*(x*val y):=by
 have h1:=ziZ o (i+n) c hj;rw[h0,Nat.mul_zero,Nat.add_zero]at h1;rw[List.take_of_length_le oM]at hinv;omega
theorem times_outer{a:LN}{i n:Nat}:val (a.take i)*n+1000000000 ^ i*(a.getD i 0*n)=val (a.take (i+1))*n:=by
 rw[zak,Nat.add_mul,Nat.mul_assoc]
theorem rtimes_step{o a:LN}{up k c q s:Nat}(hol:o.length=up+k)(hs:s=a.getD k 0*q+c)
  (hinv:val o+1000000000 ^ (up+k)*c=1000000000 ^ up*(val (a.take k)*q)) :
  val (o++[s % 1000000000])+1000000000 ^ (up+(k+1))*(s / 1000000000)=1000000000 ^ up*(val (a.take (k+1))*q):=by
 rw[val_snoc,zak,hol,<-Nat.add_assoc,Nat.pow_succ];have h2:1000000000 ^ (up+k)*s=1000000000 ^ (up+k)*(s % 1000000000)+1000000000 ^ (up+k)*1000000000*(s / 1000000000):=by
  rw[Nat.mul_assoc,<-Nat.mul_add,Nat.mod_add_div]
 have h3:1000000000 ^ (up+k)*s=1000000000 ^ (up+k)*(a.getD k 0*q)+1000000000 ^ (up+k)*c:=by rw[hs,Nat.mul_add]
 have h4:1000000000 ^ up*((val (a.take k)+1000000000 ^ k*a.getD k 0)*q)=1000000000 ^ up*(val (a.take k)*q)+1000000000 ^ (up+k)*(a.getD k 0*q):=by
  rw[Nat.add_mul,Nat.mul_add,Nat.pow_add,Nat.mul_assoc,Nat.mul_assoc]
 rw[h4];omega
theorem val_take_all{l:LN}{k:Nat}(h:l.length<=k):val (l.take k)=val l:=by rw[List.take_of_length_le h]
theorem mul_lt_base{x y c:Nat}(hx:x<1000000000)(hy:y<1000000000)(hc:c<1000000000):x*y+c<1000000000000000000:=by
 have h1:x*y<=999999999*999999999:=Nat.mul_le_mul oM oM;omega
theorem limbs_length_le{n m:Nat}(h:n<1000000000 ^ m):(limbs n).length<=m:=by
 induction m generalizing n with
 |zero=>simp at h;subst h;simp[limbs_zero]
 |succ m ih=>
  by_cases h0:n=0
  ·subst h0;simp[limbs_zero]
  ·rw[limbs_pos h0];rw[Nat.pow_succ]at h;have:=ih (n:=n / 1000000000) oM;simp;omega
theorem val_mul_lt{a b:LN}(ha:Ok a)(hb:Ok b):val a*val b<1000000000 ^ (a.length+b.length):=by
 rw[Nat.pow_add];have h1:=val_lt ha;have h2:=val_lt hb;exact Nat.mul_lt_mul'' h1 h2
theorem rmul_step{a b:LN}{k x:Nat}(hx:x=b.getD k 0):val a*val (b.take k)+1000000000 ^ k*(val a*x)=val a*val (b.take (k+1)):=by
 rw[zak,Nat.mul_add,hx]
 congr 1
 rw[<-Nat.mul_assoc,<-Nat.mul_assoc,Nat.mul_comm (1000000000 ^ k)]
theorem trim_prefix(l:LN):∃k,trim l=l.take k:=by
 induction l with
 |nil=>exact⟨0,rfl⟩
 |cons x r ih=>
  obtain⟨k,hk⟩:=ih;simp only[trim]
  split
  ·split
   ·exact⟨0,rfl⟩
   ·exact⟨1,sM⟩
  ·exact⟨k+1,by rw[hk];simp⟩
end Bi
namespace Go.Proofs.YtfgffkmddanjjaaGreatDoor
open _root_.Go.Proofs.Tryz
open Go.RowKit
abbrev zc5(l:LN):List Vl:=l.map λ(x:Nat)=>Value.int .u32 (x:Int)
def U(w:Wo)(ao:OA)(l:LN):Prop :=
 ∀i (h:i<l.length),∃b off,ao=sD b off/\w.cell? ⟨b,off+i,none⟩=some (.int .u32 (l[i]:Nat))
theorem U.nil(w:Wo)(ao:OA):U w ao []:=λi h=>absurd h sM
theorem zaf{w:Wo}{a:Addr}{v:Vl}(h:w.cell? a=some v):a.block<w.heap.size:=by
 unfold World.cell? at h
 by_cases hb:a.block<w.heap.size
 ·exact hb
 ·rw[Array.getElem?_eq_none oM]at h;simp at h
theorem U.mono{w w':Wo}{ao:OA}{l:LN}(hU:U w ao l)(hb:BH w w'):U w' ao l:=by
 intro i h;obtain⟨b,off,e,hc⟩:=hU i h;exact⟨b,off,e,(hb.cell (p:=⟨b,off+i,none⟩) (zaf hc)).trans hc⟩
theorem U.at'{w:Wo}{ao:OA}{l:LN}(hU:U w ao l){k x:Nat}(h:l[k]?=some x):∃b off,ao=sD b off/\w.cell? ⟨b,off+k,none⟩=some (.int .u32 (x:Int)):=by
 obtain⟨hk,rfl⟩:=List.getElem?_eq_some_iff.1 h;exact hU k hk
theorem zal{l:LN}{k:Nat}(h:k<l.length):∃x,l[k]?=some x:=⟨l[k],gE h⟩
theorem U.take{w:Wo}{ao:OA}{l:LN}(hU:U w ao l)(k:Nat):U w ao (l.take k):=by
 intro i h;have h':i<l.length:=by simp at h;omega
 obtain⟨b,off,e,hc⟩:=hU i h';exact⟨b,off,e,by rw[List.getElem_take];exact hc⟩
theorem Below.step{B:Nat}{a b c:Wo}(h1:Below B a b)(h2:BH b c)(hB:B<=a.heap.size):Below B a c :=
 h1.trans (h2.mono (Nat.le_trans hB h1.size))
theorem zkr{w:Wo}{base e n:Nat}{v:Vl}{l:LN}(h:w.ownsRow base e 1 v n (zc5 l)) :
  ∃ao cap,v=.slice ao n cap/\n=l.length/\U w ao l/\n<=cap:=by
 obtain⟨hl,h2⟩:=h;simp only[List.length_map,Nat.mul_one]at hl;rcases h2 with⟨rfl,rfl⟩|⟨g,cap,cur,rfl,_,hh,hc,_,hsz,ht⟩
 ·exact⟨none,0,rfl,hl.symm,by rw[List.length_eq_zero_iff.1 hl];exact U.nil _ _,nl⟩
 ·refine⟨some ⟨g,0,none⟩,cap,rfl,hl.symm,λi hi=>⟨g,0,rfl,?_⟩,hc⟩;have:cur[0+i]?=some (Value.int .u32 (l[i]:Nat)):=by
   rw[Nat.zero_add,<-Array.getElem?_toList];have h3:(cur.toList.take (n*1))[i]?=some (Value.int .u32 (l[i]:Nat)):=by rw[ht];simp[hi]
   rw[List.getElem?_take_of_lt oM]at h3;exact h3
  simp only[World.cell?,hh]
  simpa using this
theorem Tryz.info128:(Tryz.prog.info? 128).map (λi=>(i.zero,i.size,i.bytes))=some (some (.int .u32 0),1,4):=by kernel_rfl
def za8(w:Wo)(B:Nat)(v:Vl)(l:LN):Prop:=w.ownsRow B 128 1 v l.length (zc5 l)
theorem za8.nil(w:Wo)(B:Nat):za8 w B nS_ []:=World.ownsRow_nil _ _ _ _
theorem za8.alloc{w:Wo}{B:Nat}{v:Vl}{l:LN}(h:za8 w B v l)(o:Obj):za8 (w.alloc o) B v l:=World.ownsRow.alloc h o
theorem za8.read{w:Wo}{B:Nat}{v:Vl}{l:LN}(h:za8 w B v l):∃ao cap,v=.slice ao l.length cap/\l.length<=cap/\U w ao l:=by
 obtain⟨ao,cap,h1,_,h3,h4⟩:=zkr h;exact⟨ao,cap,h1,h4,h3⟩
theorem za8.len{w:Wo}{B g n cap:Nat}{l:LN}(h:za8 w B (.slice (sD g 0) n cap) l):n=l.length/\n<=cap/\B<=g/\g<w.heap.size:=by
 obtain⟨ao,cap',h1,h2,_⟩:=h.read;simp only[Value.slice.injEq]at h1;have h3:=World.ownsRow.lt h g rfl;obtain⟨_,rfl,rfl⟩:=h1;exact⟨rfl,h2,h3⟩
theorem za8.at'{w:Wo}{B g n cap:Nat}{l:LN}(h:za8 w B (.slice (sD g 0) n cap) l){k x:Nat}(hx:l[k]?=some x):w.cell? (aD_ g k)=some (.int .u32 (x:Int)):=by
 obtain⟨hk,_⟩:=List.getElem?_eq_some_iff.1 hx;obtain rfl:=h.len.1;rw[World.ownsRow.cellAt h k oM];simp[hx]
theorem za8.free{w:Wo}{B g n cap:Nat}{l:LN}(h:za8 w B (.slice (sD g 0) n cap) l)(k:Nat):w.frozen? ⟨g,k,none⟩=false:=by
 obtain rfl:=h.len.1;exact World.ownsRow.frozenAt h k
theorem za8.set{w:Wo}{B g n cap:Nat}{l:LN}(h:za8 w B (.slice (sD g 0) n cap) l)(k:Nat)(Y:Int)(y:Nat)(hY:Y=(y:Int)) :
  za8 (w.setCell (aD_ g k) (.int .u32 Y)) B (.slice (sD g 0) n cap) (l.set k y):=by
 subst hY;obtain rfl:=h.len.1;have:=(World.ownsRow.stored h k (.int .u32 (y:Int))).1;unfold za8 zc5;rw[List.map_set,List.length_set];exact this
theorem za8.kept{w w':Wo}{B:Nat}{v:Vl}{l:LN}(h:za8 w B v l){W:Nat}(hb:Below W w w')(hw:w.heap.size<=W):za8 w' B v l:=by
 obtain⟨h1,h2⟩:=h;refine⟨h1,h2.imp id ?_⟩;rintro⟨g,cap,cur,hv,hg,hh,r⟩;have:g<w.heap.size:=by
  by_cases hb:g<w.heap.size
  ·exact hb
  ·rw[Array.getElem?_eq_none oM]at hh;simp at hh
 exact⟨g,cap,cur,hv,hg,by rw[hb.block g oM];exact hh,r⟩
section
variable {ops : Array Oper} {rest : List Oper} {o : Oper} {a : Act} {Q : Exit → Act → Wo → Prop}
theorem zhM(w:Wo)(hg:o.guard=none)(l c:Operand)(hop:o.op=Op.makeSlice 28 l c)(W:Wo)(B:Nat)(C:Int)(n:Nat)
  (hl:a.eval l=.int .i64 0)(hc:a.eval c=.int .i64 C)(hC:C=(n:Int))(hn:n<=1000000000000)(hB:B<=w.heap.size)(hb:Below B W w)
  (hK:∀w',za8 w' B (.slice (some ⟨w.heap.size,0,none⟩) 0 n) []->Below B W w'->wpList Tryz.prog ops Q rest (a.put o.dst (.slice (some ⟨w.heap.size,0,none⟩) 0 n)) w') :
  wpList Tryz.prog ops Q (o :: rest) a w:=by
 obtain⟨i0,hi,hz0,hz1,hz2⟩:=info_parts Tryz.info128;refine wpList_make_own w hg l c 28 hop B 128 i0 (.int .u32 0) 1 Tryz.underlying28 hi hz0 hz1 .i64 .i64 C n hl hc hC (by rw[hz2];omega) (by unfold maxLen;omega) hB λw' h1 h2=>?_
 exact hK w' h1 (hb.grown h2 hB (λk hk=>by cases hk))
theorem za2(w:Wo)(hg:o.guard=none)(l c:Operand)(hop:o.op=Op.makeSlice 28 l c)(W:Wo)(B:Nat)(L C:Int)(n:Nat)
  (hl:a.eval l=.int .i64 L)(hc:a.eval c=.int .i64 C)(hL:L=(n:Int))(hC:C=(n:Int))(hn:n<=1000000000000)(hB:B<=w.heap.size)(hb:Below B W w)
  (hK:∀w',za8 w' B (.slice (some ⟨w.heap.size,0,none⟩) n n) (List.replicate n 0)->Below B W w'->wpList Tryz.prog ops Q rest (a.put o.dst (.slice (some ⟨w.heap.size,0,none⟩) n n)) w') :
  wpList Tryz.prog ops Q (o :: rest) a w:=by
 obtain⟨i0,hi,hz0,hz1,hz2⟩:=info_parts Tryz.info128;refine wpList_make_full w hg l c 28 hop B 128 i0 (.int .u32 0) 1 Tryz.underlying28 hi hz0 hz1 .i64 .i64 L C n hl hc hL hC (by rw[hz2];omega) (by unfold maxLen;omega) hB λw' h1 h2=>?_
 refine hK w' ?_ (hb.grown h2 hB (λk hk=>by cases hk));unfold za8 zc5;rw[List.length_replicate,List.map_replicate];rw[Nat.mul_one,show(Value.int IntKind.u32 0).cells=#[Value.int .u32 0]from rfl,toList_madeCells_one]at h1;exact h1
theorem zbq(w:Wo)(Y:Int)(y:Nat)(hY:Y=(y:Int))(hgd:o.guard=none)(s x:Operand)(ho:o.op=.call {callee:=.builtin .append,args:=#[s,x],argTypes:=#[28,28]})
  (W:Wo)(B:Nat)(v:Vl)(l:LN)(hs:a.eval s=v)(hown:za8 w B v l)(hB:B<=w.heap.size)(hb:Below B W w)
  (hx:a.eval x=.slice (some ⟨w.heap.size,0,none⟩) 1 1)(hl:l.length<=1000000000000)
  (hK:∀v' w',za8 w' B v' (l++[y])->Below B W w'->wpList Tryz.prog ops Q rest (a.put o.dst v') w') :
  wpList Tryz.prog ops Q (o :: rest) a (w.alloc (.cells #[.int .u32 Y] 128)):=by
 subst hY;obtain⟨i0,hi,hz0,hz1,hz2⟩:=info_parts Tryz.info128;refine wpList_append_own _ hgd s x 28 ho B 128 i0 (.int .u32 0) 1 4 Tryz.underlying28 hi hz0 hz1 hz2 rfl dM v l.length (zc5 l) hs (World.ownsRow.alloc hown _) ⟨w.heap.size,0,none⟩ 1 1 [.int .u32 (y:Int)] hx rfl ?_ ?_ ?_ ?_ ?_ ?_
 ·intro j u hj
  match j,hj with
  |0,hj=>simp at hj;subst hj;simp[Addr.add]
 ·intro u hu;simp at hu;subst hu;rfl
 ·unfold maxLen;omega
 ·omega
 ·simp;omega
 ·intro v' w' h1 h2 _;refine hK v' w' ?_ ?_
  ·unfold za8 zc5;rw[List.length_append,List.map_append];exact h1
  ·refine(hb.alloc hB _).grown h2 (by simp;omega) ?_;intro k hk;exact(World.ownsRow.lt hown k hk).1
theorem zcH(w:Wo)(hgd:o.guard=none)(s x:Operand)(ho:o.op=.call {callee:=.builtin .append,args:=#[s,x],argTypes:=#[28,28]})
  (W:Wo)(B:Nat)(v:Vl)(l:LN)(hs:a.eval s=v)(hown:za8 w B v l)(hB:B<=w.heap.size)(hb:Below B W w)(ao:OA)(c:Nat)(ls:LN)
  (hx:a.eval x=.slice ao ls.length c)(hU:U w ao ls)(hl:l.length+ls.length<=1000000000000)
  (hK:∀v' w',za8 w' B v' (l++ls)->Below B W w'->wpList Tryz.prog ops Q rest (a.put o.dst v') w') :
  wpList Tryz.prog ops Q (o :: rest) a w:=by
 obtain⟨i0,hi,hz0,hz1,hz2⟩:=info_parts Tryz.info128
 by_cases hls:ls=[]
 ·subst hls;refine wpList_plain hgd λK hK'=>?_
  have hrun:(Builtin.append_ #[28,28] o.type #[v,.slice ao 0 c]).run Tryz.prog w=.ok v w:=by
   rcases hown.2 with⟨rfl,_⟩|⟨g,cap,cur,rfl,_,_,hnc,_⟩
   ·cases ao<;>simp[Builtin.append_,run_underlying Tryz.underlying28,sizeOf,typeInfo,hi,Builtin.lenOf,Builtin.firstCells,loadCells,loadCellsFrom]
   ·cases ao<;>simp[Builtin.append_,run_underlying Tryz.underlying28,sizeOf,typeInfo,hi,Builtin.lenOf,Builtin.firstCells,hnc,storeCells,loadCells,loadCellsFrom]
  unfold Oper.wp;simp only[List.length_nil]at hx;simp[execOp,ho,resolve,invoke,builtin,hs,hx,hrun,Result.andThen];exact hK' _ _ (hK v w (by simpa using hown) hb)
 ·obtain⟨b,off,rfl,_⟩:=hU 0 (List.length_pos_iff.2 hls);refine wpList_append_own _ hgd s x 28 ho B 128 i0 (.int .u32 0) 1 4 Tryz.underlying28 hi hz0 hz1 hz2 rfl dM v l.length (zc5 l) hs hown ⟨b,off,none⟩ ls.length c (zc5 ls) hx sM ?_ ?_ ?_ ?_ hB ?_
  ·intro j u hj;simp only[List.getElem?_map,Option.map_eq_some_iff]at hj;obtain⟨y,hy,rfl⟩:=hj;obtain⟨b',off',e,hc⟩:=hU.at' hy;simp only[Option.some.injEq,Addr.mk.injEq]at e;obtain⟨rfl,rfl,_⟩:=e;have:(⟨b,off,none⟩:Addr).add j=⟨b,off+j,none⟩:=by
    unfold Addr.add;split
    ·subst j;rfl
    ·rfl
   rw[this];exact hc
  ·intro u hu;obtain⟨y,_,rfl⟩:=List.mem_map.1 hu
   rfl
  ·unfold maxLen;omega
  ·omega
  ·intro v' w' h1 h2 _;refine hK v' w' ?_ (hb.grown h2 hB λk hk=>(World.ownsRow.lt hown k hk).1);unfold za8 zc5;rw[List.length_append,List.map_append];exact h1
end
theorem zpy{w w2:Wo}{a b:Vl}{t:TypeId}(hb:Below (w.alloc (.cells #[a,b] t)).heap.size (w.alloc (.cells #[a,b] t)) w2) :
  w2.cell? ⟨w.heap.size,0,none⟩=some a/\w2.cell? ⟨w.heap.size,1,none⟩=some b/\w2.frozen? ⟨w.heap.size,0,none⟩=false/\w2.frozen? ⟨w.heap.size,1,none⟩=false/\w.heap.size<w2.heap.size/\BH w w2 :=
 ⟨(hb.cell (p:=⟨w.heap.size,0,none⟩) sM).trans (by simp[go_sem]),(hb.cell (p:=⟨w.heap.size,1,none⟩) sM).trans (by simp[go_sem]),
  (hb.frozen (p:=⟨w.heap.size,0,none⟩) sM).trans (by simp[go_sem]),(hb.frozen (p:=⟨w.heap.size,1,none⟩) sM).trans (by simp[go_sem]),
  by have:=hb.size;simp at this;omega,((Below.refl w.heap.size w).alloc nl _).trans (hb.mono sM)⟩
theorem zaG{k:IntKind}{a b:Int}(h:a=b):Ending.returned (.int k a)=.returned (.int k b):=by rw[h]
theorem zcV{a b:Bool}(h:a=b):Ending.returned (.bool a)=.returned (.bool b):=by rw[h]
def lenOf:Vl->Nat
 |.slice _ n _=>n
 |_=>0
theorem zk8(a b:LN)(aoa aob:OA)(ca cb:Nat)(w:Wo)(hma:a.length<=1000000000)(hmb:b.length<=1000000000)
  (hoa:Bi.Ok a)(hob:Bi.Ok b)(ha:U w aoa a)(hb:U w aob b) :
  CP 173 #[.slice aoa a.length ca,.slice aob b.length cb] w λe w'=>∃ao L cap,e=.returned (.slice ao L.length cap)/\L.length<=cap/\Bi.Ok L /\
   Bi.val L=Bi.val a+Bi.val b/\L.length<=a.length+b.length+1/\U w' ao L/\BH w w':=by
 go_enter func173,ntmps173;go_upto_if 13 with(fail);go_cut [0,1] (λs0 s1 wx=>∃(x y:LN)(aox aoy:OA)(cx cy:Nat),s0=.slice aox x.length cx/\s1=.slice aoy y.length cy/\y.length<=x.length/\x.length<=1000000000 /\
  x.length<=a.length+b.length/\Bi.Ok x/\Bi.Ok y/\Bi.val x+Bi.val y=Bi.val a+Bi.val b/\U wx aox x/\U wx aoy y/\w=wx)
 case first=>
  go_wp2
  ·go_meet;exact⟨b,a,aob,aoa,cb,ca,rfl,rfl,oM,hmb,oM,hob,hoa,Nat.add_comm _ _,hb,ha,rfl⟩
  ·go_meet;exact⟨a,b,aoa,aob,ca,cb,rfl,rfl,oM,hma,oM,hoa,hob,rfl,ha,hb,rfl⟩
 case rest=>
  obtain⟨x,y,aox,aoy,cx,cy,rfl,rfl,hle,hxm,hxl,hox,hoy,hv,hx,hy,rfl⟩:=hcut;have HV:=hii hv;clear hv;clear ha hb hoa hob hma hmb;go_wp2_with (at_make;refine zhM _ rfl _ _ rfl w w.heap.size _ (x.length+1) rfl rfl oM oM nl br ?_;intro w0 hown0 hb0);go_loopw [5,6,22] (λout c i wr=>∃(k cr:Nat)(q:LN),k<=x.length/\i=.int .i64 k/\c=.int .u32 cr/\cr<=1/\za8 wr w.heap.size out q/\q.length=k/\Bi.Ok q /\
   Hid (Bi.val q+1000000000 ^ k*cr=Bi.val (x.take k)+Bi.val (y.take k))/\BH w wr) (λ_ _ i _=>x.length-(intOf i).toNat)
  case atStart=>exact⟨0,0,[],Nat.zero_le _,rfl,rfl,oM,hown0,rfl,Bi.Ok.nil,hii (by simp[Bi.val]),hb0⟩
  case round=>
   obtain⟨k,cr,q,hk,rfl,rfl,hcr,hown,hql,hoq,HI,hbr⟩:=hrel;have HQL:=hii hql;have hq2:q.length<=k:=Nat.le_of_eq hql;clear hql
   by_cases hlt:k<x.length
   ·obtain⟨xk,hxk⟩:=zal hlt;have bx:=hox.at' hxk;obtain⟨b1,o1,rfl,hcx⟩:=(hx.mono hbr).at' hxk;have HX:=hii (Bi.getD_of hxk);clear hxk hx
    by_cases hly:k<y.length
    ·obtain⟨yk,hyk⟩:=zal hly;have by':=hoy.at' hyk;obtain⟨b2,o2,rfl,hcy⟩:=(hy.mono hbr).at' hyk;have HY:=hii (Bi.getD_of hyk);clear hyk hy
     by_cases hs:(1000000000:Int)<=(xk:Int)+(cr:Int)+(yk:Int)
     ·go_wp2_with (at_builtin;refine zbq _ _ (xk+cr+yk-1000000000) oM rfl _ _ rfl w w.heap.size _ q rfl hown hbr.size hbr rfl oM ?_;intro v' w' hown' hb');go_roundw
      case rel=>exact⟨k+1,1,q++[xk+cr+yk-1000000000],oM,gM,rfl,oM,hown',by simp[HQL.o],hoq.snoc oM,hii (Bi.plus_step HQL.o HI.o (by rw[HX.o,HY.o];omega)),hb'⟩
      case measure=>exact mM
     ·go_wp2_with (at_builtin;refine zbq _ _ (xk+cr+yk) oM rfl _ _ rfl w w.heap.size _ q rfl hown hbr.size hbr rfl oM ?_;intro v' w' hown' hb');go_roundw
      case rel=>exact⟨k+1,0,q++[xk+cr+yk],oM,gM,rfl,oM,hown',by simp[HQL.o],hoq.snoc oM,hii (Bi.plus_step HQL.o HI.o (by rw[HX.o,HY.o];omega)),hb'⟩
      case measure=>exact mM
    ·have HY:=hii (Bi.getD_out (l:=y) (k:=k) oM)
     by_cases hs:(1000000000:Int)<=(xk:Int)+(cr:Int)
     ·go_wp2_with (at_builtin;refine zbq _ _ (xk+cr-1000000000) oM rfl _ _ rfl w w.heap.size _ q rfl hown hbr.size hbr rfl oM ?_;intro v' w' hown' hb');go_roundw
      case rel=>exact⟨k+1,1,q++[xk+cr-1000000000],oM,gM,rfl,oM,hown',by simp[HQL.o],hoq.snoc oM,hii (Bi.plus_step HQL.o HI.o (by rw[HX.o,HY.o];omega)),hb'⟩
      case measure=>exact mM
     ·go_wp2_with (at_builtin;refine zbq _ _ (xk+cr) oM rfl _ _ rfl w w.heap.size _ q rfl hown hbr.size hbr rfl oM ?_;intro v' w' hown' hb');go_roundw
      case rel=>exact⟨k+1,0,q++[xk+cr],oM,gM,rfl,oM,hown',by simp[HQL.o],hoq.snoc oM,hii (Bi.plus_step HQL.o HI.o (by rw[HX.o,HY.o];omega)),hb'⟩
      case measure=>exact mM
   ·obtain rfl:k=x.length:=oM;clear hx hy;go_wp2_with (at_builtin;refine zbq _ _ cr rfl rfl _ _ rfl w w.heap.size _ q rfl hown hbr.size hbr rfl oM ?_;intro v' w' hown' hb');go_ret;obtain⟨ao,cap,rfl,hcap,hU⟩:=hown'.read;refine⟨ao,q++[cr],cap,rfl,hcap,hoq.snoc oM,?_,by simp[HQL.o];omega,hU,hb'⟩;have h1:=HI.o;rw[List.take_of_length_le oM,List.take_of_length_le oM]at h1;rw[Bi.val_snoc,HQL.o,h1,HV.o]
theorem zbR(l:LN)(ao:OA)(cap:Nat)(w:Wo)(hm:l.length<=1000000000000)(hcap:l.length<=cap)(hU:U w ao l) :
  CP 171 #[.slice ao l.length cap] w λe w'=>∃L,L=Bi.trim l/\L.length<=l.length/\e=.returned (.slice ao L.length cap)/\U w' ao L/\w=w':=by
 suffices h:CP 171 #[.slice ao l.length cap] w λe w'=>(∃k,k<=l.length/\(∀j,k<=j->j<l.length->l[j]?=some 0)/\(k=0\/∃x,l[k-1]?=some x/\x≠0)/\e=.returned (.slice ao k cap))/\w=w' by
  refine h.mono ?_;rintro e w'⟨⟨k,hk,hz,hn,rfl⟩,rfl⟩;have ht:=Bi.trim_take hk hz hn;have hl:(l.take k).length=k:=by simp;omega
  exact⟨l.take k,ht.symm,oM,by rw[hl],hU.take k,rfl⟩
 go_enter func171,ntmps171;go_wp2;go_loop [0] (λv=>∃k:Nat,k<=l.length/\Hid (∀j,k<=j->j<l.length->l[j]?=some 0)/\v=.slice ao k cap) (λv=>lenOf v)
 case atStart=>exact⟨l.length,nl,hii λj h hk=>absurd hk oM,rfl⟩
 case round=>
  obtain⟨k,hk,HZ,rfl⟩:=hrel;rcases Nat.eq_zero_or_pos k with h0|h0
  ·subst h0;clear hU;go_wp2;go_ret;exact⟨⟨0,hk,HZ.o,.inl rfl,rfl⟩,rfl⟩
  ·obtain⟨j,rfl⟩:∃j,k=j+1:=⟨k-1,oM⟩;obtain⟨x,hx⟩:=zal (l:=l) (k:=j) oM;obtain⟨b,off,rfl,hcx⟩:=hU.at' hx;have HX:=hii hx;clear hx hU
   by_cases hx0:x=0
   ·subst hx0;go_wp2;go_round
    case rel=>
     refine⟨j,oM,hii λi hi hl=>?_,rfl⟩
     by_cases hij:i=j
     ·subst hij;exact HX.o
     ·exact HZ.o i oM hl
    case measure=>simp[lenOf]
   ·have hxb:((x:Int)==0)=false:=by rw[beq_eq_false_iff_ne];omega
    go_wp2;go_ret;exact⟨⟨j+1,hk,HZ.o,.inr ⟨x,HX.o,hx0⟩,rfl⟩,rfl⟩
theorem zbI(l:LN)(ao:OA)(cap:Nat)(w:Wo)(hm:l.length<=1000000000000)(hcap:l.length<=cap)(hU:U w ao l) :
  CP 130 #[.slice ao l.length cap] w λe w'=>∃L,L=Bi.trim l/\L.length<=l.length/\e=.returned (.slice ao L.length cap)/\U w' ao L/\w=w':=by
 suffices h:CP 130 #[.slice ao l.length cap] w λe w'=>(∃k,k<=l.length/\(∀j,k<=j->j<l.length->l[j]?=some 0)/\(k=0\/∃x,l[k-1]?=some x/\x≠0)/\e=.returned (.slice ao k cap))/\w=w' by
  refine h.mono ?_;rintro e w'⟨⟨k,hk,hz,hn,rfl⟩,rfl⟩;have ht:=Bi.trim_take hk hz hn;have hl:(l.take k).length=k:=by simp;omega
  exact⟨l.take k,ht.symm,oM,by rw[hl],hU.take k,rfl⟩
 go_enter func130,ntmps130;go_wp2;go_loop [0] (λv=>∃k:Nat,k<=l.length/\Hid (∀j,k<=j->j<l.length->l[j]?=some 0)/\v=.slice ao k cap) (λv=>lenOf v)
 case atStart=>exact⟨l.length,nl,hii λj h hk=>absurd hk oM,rfl⟩
 case round=>
  obtain⟨k,hk,HZ,rfl⟩:=hrel;rcases Nat.eq_zero_or_pos k with h0|h0
  ·subst h0;clear hU;go_wp2;go_ret;exact⟨⟨0,hk,HZ.o,.inl rfl,rfl⟩,rfl⟩
  ·obtain⟨j,rfl⟩:∃j,k=j+1:=⟨k-1,oM⟩;obtain⟨x,hx⟩:=zal (l:=l) (k:=j) oM;obtain⟨b,off,rfl,hcx⟩:=hU.at' hx;have HX:=hii hx;clear hx hU
   by_cases hx0:x=0
   ·subst hx0;go_wp2;go_round
    case rel=>
     refine⟨j,oM,hii λi hi hl=>?_,rfl⟩
     by_cases hij:i=j
     ·subst hij;exact HX.o
     ·exact HZ.o i oM hl
    case measure=>simp[lenOf]
   ·have hxb:((x:Int)==0)=false:=by rw[beq_eq_false_iff_ne];omega
    go_wp2;go_ret;exact⟨⟨j+1,hk,HZ.o,.inr ⟨x,HX.o,hx0⟩,rfl⟩,rfl⟩
def zbm(m n:Nat):Int:=if m<n then -1 else if n<m then 1 else 0
theorem zbj(m n:Nat)(a b:LN)(Ha:Hid (a=Bi.limbs m))(Hb:Hid (b=Bi.limbs n))(aoa aob:OA)(ca cb:Nat)(w:Wo)(hma:a.length<=1000000000000)(_hmb:b.length<=1000000000000)
  (ha:U w aoa a)(hb:U w aob b) :
  CP 142 #[.slice aoa a.length ca,.slice aob b.length cb] w λe w'=>e=.returned (.int .i64 (zbm m n))/\BH w w':=by
 have hoa:Hid (Bi.Ok a):=hii (by rw[Ha.o];exact Bi.limbs_ok _);have hob:Hid (Bi.Ok b):=hii (by rw[Hb.o];exact Bi.limbs_ok _);have hva:Hid (Bi.val a=m):=hii (by rw[Ha.o];exact Bi.val_limbs _);have hvb:Hid (Bi.val b=n):=hii (by rw[Hb.o];exact Bi.val_limbs _)
 by_cases h1:a.length<b.length
 ·have hf:Hid (zbm m n=-1):=hii (by unfold zbm;rw[if_pos (Bi.val_lt_of_length (by rw[<-Ha.o,<-Hb.o];exact h1))]);have hne:((a.length:Int) != b.length)=true:=by rw[bne_iff_ne];omega
  clear ha hb;go_enter func142,ntmps142;go_wp2;go_ret;exact⟨zaG hf.o.symm,br⟩
 by_cases h2:b.length<a.length
 ·have hf:Hid (zbm m n=1):=hii (by unfold zbm;have:=Bi.val_lt_of_length (a:=n) (b:=m) (by rw[<-Ha.o,<-Hb.o];exact h2);rw[if_neg oM,if_pos this]);have hne:((a.length:Int) != b.length)=true:=by rw[bne_iff_ne];omega
  clear ha hb;go_enter func142,ntmps142;go_wp2;go_ret;exact⟨zaG hf.o.symm,br⟩
 have hl:Hid (a.length=b.length):=hii oM;have hne:((a.length:Int) != b.length)=false:=by rw[bne_eq_false_iff_eq];omega
 clear h1 h2;go_enter func142,ntmps142;go_wp2;go_loopw [5] (λs wr=>∃i:Int,-1<=i/\i<a.length/\s=.int .i64 i/\Hid (∀j:Nat,i<(j:Int)->a[j]?=b[j]?)/\BH w wr) (λs _=>(intOf s+1).toNat)
 case atStart=>
  refine⟨_,oM,oM,rfl,hii λj hj=>?_,br⟩;have:=hl.o;rw[List.getElem?_eq_none oM,List.getElem?_eq_none oM]
 case round=>
  obtain⟨i,hi1,hi2,rfl,HE,hbr⟩:=hrel
  by_cases hi:i<0
  ·obtain rfl:i=-1:=oM;clear ha hb;have hab:a=b:=List.ext_getElem? λj=>HE.o j oM
   have hf:Hid (zbm m n=0):=hii (by have h1:=hva.o;have h2:=hvb.o;rw[hab]at h1;unfold zbm;rw[if_neg oM,if_neg oM]);clear hab;go_wp2;go_ret;exact⟨zaG hf.o.symm,hbr⟩
  ·obtain⟨j,rfl⟩:∃j:Nat,i=(j:Int):=⟨i.toNat,oM⟩;have hlj:j<b.length:=by have:=hl.o;omega
   obtain⟨x,hx⟩:=zal (l:=a) (k:=j) oM;obtain⟨y,hy⟩:=zal (l:=b) (k:=j) hlj;obtain⟨b1,o1,rfl,hcx⟩:=(ha.mono hbr).at' hx;obtain⟨b2,o2,rfl,hcy⟩:=(hb.mono hbr).at' hy;have HX:=hii hx;have HY:=hii hy;clear hx hy ha hb
   by_cases hxy:x=y
   ·subst hxy;have hb:((x:Int) != (x:Int))=false:=sM;go_wp2;go_quiet (fail);go_wp2
    (try (go_quiet (fail)))
    go_wp2;go_roundw
    case rel=>
     refine⟨(j:Int)-1,oM,oM,rfl,hii λt ht=>?_,by first|exact below_drewN (below_drewN hbr _) _|exact below_drewN hbr _⟩
     by_cases htj:t=j
     ·subst htj;rw[HX.o,HY.o]
     ·exact HE.o t oM
    case measure=>(simp[intOf];try omega)
   ·have hb:((x:Int) != (y:Int))=true:=by rw[bne_iff_ne];omega
    by_cases hlt:(x:Int)<(y:Int)
    ·have hf:Hid (zbm m n=-1):=hii (by
      have h1:=Bi.val_lt_of_diff hoa.o hob.o hl.o j ⟨x,y,HX.o,HY.o,oM⟩ (λt ht=>HE.o t oM);rw[hva.o,hvb.o]at h1;unfold zbm;rw[if_pos h1])
     go_wp2;go_quiet (fail);go_wp2
     (try (go_quiet (fail)))
     go_wp2;go_ret;exact⟨zaG hf.o.symm,by first|exact below_drewN (below_drewN hbr _) _|exact below_drewN hbr _⟩
    ·have hf:Hid (zbm m n=1):=hii (by
      have h1:=Bi.val_lt_of_diff hob.o hoa.o hl.o.symm j ⟨y,x,HY.o,HX.o,oM⟩ (λt ht=>(HE.o t oM).symm);rw[hva.o,hvb.o]at h1;unfold zbm;rw[if_neg oM,if_pos h1])
     go_wp2;go_quiet (fail);go_wp2
     (try (go_quiet (fail)))
     go_wp2;go_ret;exact⟨zaG hf.o.symm,by first|exact below_drewN (below_drewN hbr _) _|exact below_drewN hbr _⟩
theorem zcW(m n:Nat)(a b:LN)(Ha:Hid (a=Bi.limbs m))(Hb:Hid (b=Bi.limbs n))(aoa aob:OA)(ca cb:Nat)(w:Wo)(hma:a.length<=1000000000000)(_hmb:b.length<=1000000000000)
  (ha:U w aoa a)(hb:U w aob b) :
  CP 100 #[.slice aoa a.length ca,.slice aob b.length cb] w λe w'=>e=.returned (.int .i64 (zbm m n))/\BH w w':=by
 have hoa:Hid (Bi.Ok a):=hii (by rw[Ha.o];exact Bi.limbs_ok _);have hob:Hid (Bi.Ok b):=hii (by rw[Hb.o];exact Bi.limbs_ok _);have hva:Hid (Bi.val a=m):=hii (by rw[Ha.o];exact Bi.val_limbs _);have hvb:Hid (Bi.val b=n):=hii (by rw[Hb.o];exact Bi.val_limbs _)
 by_cases h1:a.length<b.length
 ·have hf:Hid (zbm m n=-1):=hii (by unfold zbm;rw[if_pos (Bi.val_lt_of_length (by rw[<-Ha.o,<-Hb.o];exact h1))]);have hne:((a.length:Int) != b.length)=true:=by rw[bne_iff_ne];omega
  clear ha hb;go_enter func100,ntmps100;go_wp2;go_ret;exact⟨zaG hf.o.symm,br⟩
 by_cases h2:b.length<a.length
 ·have hf:Hid (zbm m n=1):=hii (by unfold zbm;have:=Bi.val_lt_of_length (a:=n) (b:=m) (by rw[<-Ha.o,<-Hb.o];exact h2);rw[if_neg oM,if_pos this]);have hne:((a.length:Int) != b.length)=true:=by rw[bne_iff_ne];omega
  clear ha hb;go_enter func100,ntmps100;go_wp2;go_ret;exact⟨zaG hf.o.symm,br⟩
 have hl:Hid (a.length=b.length):=hii oM;have hne:((a.length:Int) != b.length)=false:=by rw[bne_eq_false_iff_eq];omega
 clear h1 h2;go_enter func100,ntmps100;go_wp2;go_loopw [5] (λs wr=>∃i:Int,-1<=i/\i<a.length/\s=.int .i64 i/\Hid (∀j:Nat,i<(j:Int)->a[j]?=b[j]?)/\BH w wr) (λs _=>(intOf s+1).toNat)
 case atStart=>
  refine⟨_,oM,oM,rfl,hii λj hj=>?_,br⟩;have:=hl.o;rw[List.getElem?_eq_none oM,List.getElem?_eq_none oM]
 case round=>
  obtain⟨i,hi1,hi2,rfl,HE,hbr⟩:=hrel
  by_cases hi:i<0
  ·obtain rfl:i=-1:=oM;clear ha hb;have hab:a=b:=List.ext_getElem? λj=>HE.o j oM
   have hf:Hid (zbm m n=0):=hii (by have h1:=hva.o;have h2:=hvb.o;rw[hab]at h1;unfold zbm;rw[if_neg oM,if_neg oM]);clear hab;go_wp2;go_ret;exact⟨zaG hf.o.symm,hbr⟩
  ·obtain⟨j,rfl⟩:∃j:Nat,i=(j:Int):=⟨i.toNat,oM⟩;have hlj:j<b.length:=by have:=hl.o;omega
   obtain⟨x,hx⟩:=zal (l:=a) (k:=j) oM;obtain⟨y,hy⟩:=zal (l:=b) (k:=j) hlj;obtain⟨b1,o1,rfl,hcx⟩:=(ha.mono hbr).at' hx;obtain⟨b2,o2,rfl,hcy⟩:=(hb.mono hbr).at' hy;have HX:=hii hx;have HY:=hii hy;clear hx hy ha hb
   by_cases hxy:x=y
   ·subst hxy;have hb:((x:Int) != (x:Int))=false:=sM;go_wp2;go_quiet (fail);go_wp2
    (try (go_quiet (fail)))
    go_wp2;go_roundw
    case rel=>
     refine⟨(j:Int)-1,oM,oM,rfl,hii λt ht=>?_,by first|exact below_drewN (below_drewN hbr _) _|exact below_drewN hbr _⟩
     by_cases htj:t=j
     ·subst htj;rw[HX.o,HY.o]
     ·exact HE.o t oM
    case measure=>(simp[intOf];try omega)
   ·have hb:((x:Int) != (y:Int))=true:=by rw[bne_iff_ne];omega
    by_cases hlt:(x:Int)<(y:Int)
    ·have hf:Hid (zbm m n=-1):=hii (by
      have h1:=Bi.val_lt_of_diff hoa.o hob.o hl.o j ⟨x,y,HX.o,HY.o,oM⟩ (λt ht=>HE.o t oM);rw[hva.o,hvb.o]at h1;unfold zbm;rw[if_pos h1])
     go_wp2;go_quiet (fail);go_wp2
     (try (go_quiet (fail)))
     go_wp2;go_ret;exact⟨zaG hf.o.symm,by first|exact below_drewN (below_drewN hbr _) _|exact below_drewN hbr _⟩
    ·have hf:Hid (zbm m n=1):=hii (by
      have h1:=Bi.val_lt_of_diff hob.o hoa.o hl.o.symm j ⟨y,x,HY.o,HX.o,oM⟩ (λt ht=>(HE.o t oM).symm);rw[hva.o,hvb.o]at h1;unfold zbm;rw[if_neg oM,if_pos h1])
     go_wp2;go_quiet (fail);go_wp2
     (try (go_quiet (fail)))
     go_wp2;go_ret;exact⟨zaG hf.o.symm,by first|exact below_drewN (below_drewN hbr _) _|exact below_drewN hbr _⟩
theorem zc1(l:LN)(k:Nat)(ao:OA)(cap:Nat)(w:Wo)(_hm:l.length<=1000000000000)(hU:U w ao l)(ho:Bi.Ok l) :
  CP 163 #[.slice ao l.length cap,.int .i64 k] w λe w'=>(∃x:Nat,x=l.getD k 0/\x<1000000000/\e=.returned (.int .u64 x))/\w=w':=by
 by_cases hk:k<l.length
 ·obtain⟨x,hx⟩:=zal hk;have bx:=ho.at' hx;obtain⟨b,off,rfl,hc⟩:=hU.at' hx;have HX:=hii (Bi.getD_of hx);clear hx hU;go_enter func163,ntmps163;go_wp2;go_ret;exact⟨⟨x,HX.o.symm,bx,rfl⟩,rfl⟩
 ·have HX:=hii (Bi.getD_out (l:=l) (k:=k) oM);clear hU;go_enter func163,ntmps163;go_wp2;go_ret;exact⟨⟨0,HX.o.symm,dM,rfl⟩,rfl⟩
theorem zf2(a b:LN)(aoa aob:OA)(ca cb:Nat)(w:Wo)(hma:a.length<=1000000000)(hmb:b.length<=a.length)(hle:Hid (Bi.val b<=Bi.val a))
  (hoa:Bi.Ok a)(hob:Bi.Ok b)(ha:U w aoa a)(hb:U w aob b) :
  CP 174 #[.slice aoa a.length ca,.slice aob b.length cb] w λe w'=>∃ao L cap,L=Bi.limbs (Bi.val a-Bi.val b)/\e=.returned (.slice ao L.length cap)/\L.length<=cap /\
   L.length<=a.length/\U w' ao L/\BH w w':=by
 go_enter func174,ntmps174;go_wp2_with (at_make;refine zhM _ rfl _ _ rfl w w.heap.size _ a.length rfl rfl oM oM nl br ?_;intro w0 hown0 hb0);go_loopw [5,6,15] (λout c i wr=>∃(k cr:Nat)(q:LN),k<=a.length/\i=.int .i64 k/\c=.int .u32 cr/\cr<=1/\za8 wr w.heap.size out q/\q.length=k/\Bi.Ok q /\
   Hid (Bi.val q+Bi.val (b.take k)=Bi.val (a.take k)+1000000000 ^ k*cr)/\BH w wr) (λ_ _ i _=>a.length-(intOf i).toNat)
 case atStart=>exact⟨0,0,[],Nat.zero_le _,rfl,rfl,oM,hown0,rfl,Bi.Ok.nil,hii (by simp[Bi.val]),hb0⟩
 case round=>
  obtain⟨k,cr,q,hk,rfl,rfl,hcr,hown,hql,hoq,HI,hbr⟩:=hrel;have HQL:=hii hql;have hq2:q.length<=k:=Nat.le_of_eq hql;clear hql
  by_cases hlt:k<a.length
  ·obtain⟨xk,hxk⟩:=zal hlt;have bx:=hoa.at' hxk;obtain⟨b1,o1,rfl,hcx⟩:=(ha.mono hbr).at' hxk;have HX:=hii (Bi.getD_of hxk);clear hxk ha
   by_cases hly:k<b.length
   ·obtain⟨yk,hyk⟩:=zal hly;have by':=hob.at' hyk;obtain⟨b2,o2,rfl,hcy⟩:=(hb.mono hbr).at' hyk;have HY:=hii (Bi.getD_of hyk);clear hyk hb
    by_cases hs:(xk:Int)<(cr:Int)+(yk:Int)
    ·go_wp2_with (at_builtin;refine zbq _ _ (xk+1000000000-(cr+yk)) oM rfl _ _ rfl w w.heap.size _ q rfl hown hbr.size hbr rfl oM ?_;intro v' w' hown' hb');go_roundw
     case rel=>exact⟨k+1,1,q++[xk+1000000000-(cr+yk)],oM,gM,rfl,oM,hown',by simp[HQL.o],hoq.snoc oM,hii (Bi.minus_step HQL.o HI.o (by rw[HX.o,HY.o];omega)),hb'⟩
     case measure=>exact mM
    ·go_wp2_with (at_builtin;refine zbq _ _ (xk-(cr+yk)) oM rfl _ _ rfl w w.heap.size _ q rfl hown hbr.size hbr rfl oM ?_;intro v' w' hown' hb');go_roundw
     case rel=>exact⟨k+1,0,q++[xk-(cr+yk)],oM,gM,rfl,oM,hown',by simp[HQL.o],hoq.snoc oM,hii (Bi.minus_step HQL.o HI.o (by rw[HX.o,HY.o];omega)),hb'⟩
     case measure=>exact mM
   ·have HY:=hii (Bi.getD_out (l:=b) (k:=k) oM)
    by_cases hs:(xk:Int)<(cr:Int)
    ·go_wp2_with (at_builtin;refine zbq _ _ (xk+1000000000-cr) oM rfl _ _ rfl w w.heap.size _ q rfl hown hbr.size hbr rfl oM ?_;intro v' w' hown' hb');go_roundw
     case rel=>exact⟨k+1,1,q++[xk+1000000000-cr],oM,gM,rfl,oM,hown',by simp[HQL.o],hoq.snoc oM,hii (Bi.minus_step HQL.o HI.o (by rw[HX.o,HY.o];omega)),hb'⟩
     case measure=>exact mM
    ·go_wp2_with (at_builtin;refine zbq _ _ (xk-cr) oM rfl _ _ rfl w w.heap.size _ q rfl hown hbr.size hbr rfl oM ?_;intro v' w' hown' hb');go_roundw
     case rel=>exact⟨k+1,0,q++[xk-cr],oM,gM,rfl,oM,hown',by simp[HQL.o],hoq.snoc oM,hii (Bi.minus_step HQL.o HI.o (by rw[HX.o,HY.o];omega)),hb'⟩
     case measure=>exact mM
  ·obtain rfl:k=a.length:=oM;clear ha hb;obtain⟨ao,cap,rfl,hcap,hU⟩:=hown.read;go_wp2_with (go_at_call 171;refine(zbR q ao cap _ oM hcap hU).mono ?_;rintro e w'⟨L,hL,hLl,rfl,hU',rfl⟩;have HL:=hii hL;clear hL);go_ret;refine⟨ao,L,cap,?_,rfl,oM,oM,hU',hbr⟩;rw[HL.o,Bi.trim_eq_limbs hoq,Bi.minus_end hoq HQL.o hle.o hmb HI.o]
theorem zhz(a b:LN)(aoa aob:OA)(ca cb:Nat)(w:Wo)(hma:a.length<=1000000000)(hmb:b.length<=1000000000)
  (hoa:Bi.Ok a)(hob:Bi.Ok b)(ha:U w aoa a)(hb:U w aob b) :
  CP 131 #[.slice aoa a.length ca,.slice aob b.length cb] w λe w'=>∃ao L cap,L=Bi.limbs (Bi.val a+Bi.val b)/\e=.returned (.slice ao L.length cap)/\L.length<=cap /\
   L.length<=a.length+b.length+1/\U w' ao L/\BH w w':=by
 go_enter func131,ntmps131;go_wp2;go_loopw [5,6,7] (λout c i wr=>∃(k cr:Nat)(q:LN),k<=a.length+b.length+1/\i=.int .i64 k/\c=.int .u64 cr/\cr<=1/\za8 wr w.heap.size out q/\q.length=k/\Bi.Ok q /\
   (a.length<k->b.length<k->cr=0)/\Hid (Bi.val q+1000000000 ^ k*cr=Bi.val (a.take k)+Bi.val (b.take k))/\BH w wr) (λ_ _ i _=>a.length+b.length+1-(intOf i).toNat)
 case atStart=>exact⟨0,0,[],Nat.zero_le _,rfl,rfl,oM,za8.nil _ _,rfl,Bi.Ok.nil,oM,hii (by simp[Bi.val]),br⟩
 case round=>
  obtain⟨k,cr,q,hk,rfl,rfl,hcr,hown,hql,hoq,h0,HI,hbr⟩:=hrel;have HQL:=hii hql;have hq2:q.length<=k:=Nat.le_of_eq hql;clear hql
  by_cases hgo:k<a.length\/k<b.length\/0<cr
  ·have hk2:k<a.length+b.length+1:=oM;have H0:=hii h0;clear h0;have ha':=ha.mono hbr;have hb':=hb.mono hbr;clear ha hb;have hgo':(k<a.length)\/(¬k<a.length/\k<b.length)\/(¬k<a.length/\¬k<b.length/\(0:Int)<(cr:Int)):=oM;clear hgo;rcases hgo' with h1|⟨h1,h2⟩|⟨h1,h2,h3⟩
   all_goals
    go_wp2_with fail;refine(zc1 a k _ _ _ oM ha' hoa).mono ?_;rintro e w1⟨⟨xk,hxk,bx,rfl⟩,rfl⟩;have HX:=hii hxk;clear hxk;go_wp2_with fail;refine(zc1 b k _ _ _ oM hb' hob).mono ?_;rintro e w1⟨⟨yk,hyk,by',rfl⟩,rfl⟩;have HY:=hii hyk;clear hyk;go_wp2_with (at_builtin;refine zbq _ _ ((xk+yk+cr) % 1000000000) oM rfl _ _ rfl w w.heap.size _ q rfl hown hbr.size hbr rfl oM ?_;intro v' w' hown' hbw);go_roundw
    case rel=>
     refine⟨k+1,(xk+yk+cr) / 1000000000,q++[(xk+yk+cr) % 1000000000],oM,gM,gM,oM,hown',by simp[HQL.o],hoq.snoc oM,λh4 h5=>?_,hii (Bi.plus_step HQL.o HI.o (by rw[<-HX.o,<-HY.o];omega)),hbw⟩;have h6:=HX.o;have h7:=HY.o;rw[Bi.getD_out oM]at h6 h7;omega
    case measure=>exact mM
  ·obtain⟨h1,h2,rfl⟩:¬k<a.length/\¬k<b.length/\cr=0:=oM;clear ha hb h0;obtain⟨ao,cap,rfl,hcap,hU⟩:=hown.read;go_wp2_with (go_at_call 130;refine(zbI q ao cap _ oM hcap hU).mono ?_;rintro e w'⟨L,hL,hLl,rfl,hU',rfl⟩;have HL:=hii hL;clear hL);go_ret;refine⟨ao,L,cap,?_,rfl,oM,oM,hU',hbr⟩;have h3:=HI.o;rw[Nat.mul_zero,Nat.add_zero,Bi.val_take_all oM,Bi.val_take_all oM]at h3;rw[HL.o,Bi.trim_eq_limbs hoq,h3]
theorem ze0(a b:LN)(aoa aob:OA)(ca cb:Nat)(w:Wo)(hma:a.length<=1000000000)(hmb:b.length<=a.length)(hle:Hid (Bi.val b<=Bi.val a))
  (hoa:Bi.Ok a)(hob:Bi.Ok b)(ha:U w aoa a)(hb:U w aob b) :
  CP 143 #[.slice aoa a.length ca,.slice aob b.length cb] w λe w'=>∃ao L cap,L=Bi.limbs (Bi.val a-Bi.val b)/\e=.returned (.slice ao L.length cap)/\L.length<=cap /\
   L.length<=a.length/\U w' ao L/\BH w w':=by
 go_enter func143,ntmps143;go_wp2;go_loopw [5,6,7] (λout c i wr=>∃(k cr:Nat)(q:LN),k<=a.length/\i=.int .i64 k/\c=.int .u64 cr/\cr<=1/\za8 wr w.heap.size out q/\q.length=k/\Bi.Ok q /\
   Hid (Bi.val q+Bi.val (b.take k)=Bi.val (a.take k)+1000000000 ^ k*cr)/\BH w wr) (λ_ _ i _=>a.length-(intOf i).toNat)
 case atStart=>exact⟨0,0,[],Nat.zero_le _,rfl,rfl,oM,za8.nil _ _,rfl,Bi.Ok.nil,hii (by simp[Bi.val]),br⟩
 case round=>
  obtain⟨k,cr,q,hk,rfl,rfl,hcr,hown,hql,hoq,HI,hbr⟩:=hrel;have HQL:=hii hql;have hq2:q.length<=k:=Nat.le_of_eq hql;clear hql
  by_cases hlt:k<a.length
  ·have ha':=ha.mono hbr;have hb':=hb.mono hbr;clear ha hb;go_wp2_with fail;refine(zc1 a k _ _ _ oM ha' hoa).mono ?_;rintro e w1⟨⟨xk,hxk,bx,rfl⟩,rfl⟩;have HX:=hii hxk;clear hxk;go_wp2_with fail;refine(zc1 b k _ _ _ oM hb' hob).mono ?_;rintro e w1⟨⟨yk,hyk,by',rfl⟩,rfl⟩;have HY:=hii hyk;clear hyk;go_wp2_with (at_builtin;refine zbq _ _ ((xk+1000000000-yk-cr) % 1000000000) oM rfl _ _ rfl w w.heap.size _ q rfl hown hbr.size hbr rfl oM ?_;intro v' w' hown' hbw);go_roundw
   case rel=>
    exact⟨k+1,1-(xk+1000000000-yk-cr) / 1000000000,q++[(xk+1000000000-yk-cr) % 1000000000],oM,gM,gM,oM,hown',by simp[HQL.o],hoq.snoc oM,hii (Bi.minus_step HQL.o HI.o (by rw[<-HX.o,<-HY.o];omega)),hbw⟩
   case measure=>exact mM
  ·obtain rfl:k=a.length:=oM;clear ha hb;obtain⟨ao,cap,rfl,hcap,hU⟩:=hown.read;go_wp2_with (go_at_call 130;refine(zbI q ao cap _ oM hcap hU).mono ?_;rintro e w'⟨L,hL,hLl,rfl,hU',rfl⟩;have HL:=hii hL;clear hL);go_ret;refine⟨ao,L,cap,?_,rfl,oM,oM,hU',hbr⟩;rw[HL.o,Bi.trim_eq_limbs hoq,Bi.minus_end hoq HQL.o hle.o hmb HI.o]
theorem zeq(a:LN)(n up:Nat)(aoa:OA)(ca:Nat)(w:Wo)(hma:a.length<=1000000000)(hup:up<=1000000000)(hn:n<1000000000)
  (hoa:Bi.Ok a)(ha:U w aoa a) :
  CP 132 #[.slice aoa a.length ca,.int .u64 n,.int .i64 up] w λe w'=>∃ao L cap,L=Bi.limbs (1000000000 ^ up*(Bi.val a*n))/\e=.returned (.slice ao L.length cap)/\L.length<=cap /\
   L.length<=a.length+up+1/\U w' ao L/\BH w w':=by
 go_enter func132,ntmps132;go_wp2_with (at_make;refine za2 _ rfl _ _ rfl w w.heap.size _ _ up rfl rfl rfl rfl oM nl br ?_;intro w0 hown0 hb0);go_loopw [7,8,9] (λout c i wr=>∃(k cr:Nat)(q:LN),k<=a.length+1/\i=.int .i64 k/\c=.int .u64 cr/\cr<1000000000/\za8 wr w.heap.size out q/\q.length=up+k/\Bi.Ok q /\
   (a.length<k->cr=0)/\Hid (Bi.val q+1000000000 ^ (up+k)*cr=1000000000 ^ up*(Bi.val (a.take k)*n))/\BH w wr) (λ_ _ i _=>a.length+1-(intOf i).toNat)
 case atStart=>exact⟨0,0,List.replicate up 0,Nat.zero_le _,rfl,rfl,oM,hown0,sM,Bi.Ok.replicate _,oM,hii (by simp[Bi.val,Bi.val_replicate_zero]),hb0⟩
 case round=>
  obtain⟨k,cr,q,hk,rfl,rfl,hcr,hown,hql,hoq,h0,HI,hbr⟩:=hrel;have HQL:=hii hql;have hq2:q.length<=up+k:=Nat.le_of_eq hql;clear hql
  by_cases hgo:k<a.length\/0<cr
  ·have hk2:k<a.length+1:=oM;clear h0;have ha':=ha.mono hbr;clear ha;have hgo':(k<a.length)\/(¬k<a.length/\(0:Int)<(cr:Int)):=oM;clear hgo;rcases hgo' with h1|⟨h1,h3⟩
   all_goals
    go_wp2_with fail;refine(zc1 a k _ _ _ oM ha' hoa).mono ?_;rintro e w1⟨⟨xk,hxk,bx,rfl⟩,rfl⟩;have HX:=hii hxk;clear hxk;obtain⟨m,hm⟩:∃m:Nat,m=xk*n:=⟨_,rfl⟩;have hm2:m+cr<1000000000000000000:=by rw[hm];exact Bi.mul_lt_base bx hn hcr
    have hm3:(xk:Int)*(n:Int)=(m:Int):=by rw[hm];simp
    have HM:=hii hm;clear hm;go_wp2_with (at_builtin;refine zbq _ _ ((m+cr) % 1000000000) oM rfl _ _ rfl w w.heap.size _ q rfl hown hbr.size hbr rfl oM ?_;intro v' w' hown' hbw);go_roundw
    case rel=>
     refine⟨k+1,(m+cr) / 1000000000,q++[(m+cr) % 1000000000],oM,gM,gM,oM,hown',by simp[HQL.o];omega,hoq.snoc oM,λh4=>?_,hii (Bi.rtimes_step HQL.o (by rw[<-HX.o,HM.o]) HI.o),hbw⟩;have h6:=HX.o;rw[Bi.getD_out oM]at h6;have h7:=HM.o;rw[h6,Nat.zero_mul]at h7;omega
    case measure=>exact mM
  ·obtain⟨h1,rfl⟩:¬k<a.length/\cr=0:=oM;clear ha h0;obtain⟨ao,cap,rfl,hcap,hU⟩:=hown.read;go_wp2_with (go_at_call 130;refine(zbI q ao cap _ oM hcap hU).mono ?_;rintro e w'⟨L,hL,hLl,rfl,hU',rfl⟩;have HL:=hii hL;clear hL);go_ret;refine⟨ao,L,cap,?_,rfl,oM,oM,hU',hbr⟩;have h3:=HI.o;rw[Nat.mul_zero,Nat.add_zero,Bi.val_take_all oM]at h3;rw[HL.o,Bi.trim_eq_limbs hoq,h3]
theorem zkX(a b:LN)(aoa aob:OA)(ca cb:Nat)(w:Wo)(hma:a.length<=100000000)(hmb:b.length<=100000000)
  (hoa:Bi.Ok a)(hob:Bi.Ok b)(ha:U w aoa a)(hb:U w aob b) :
  CP 81 #[.slice aoa a.length ca,.slice aob b.length cb] w λe w'=>∃ao L cap,L=Bi.limbs (Bi.val a*Bi.val b)/\e=.returned (.slice ao L.length cap)/\L.length<=cap /\
   U w' ao L/\BH w w':=by
 go_enter func81,ntmps81;go_wp2;go_loopw [5,6] (λout i wr=>∃(k:Nat)(ao:OA)(L:LN)(cap:Nat),k<=b.length/\i=.int .i64 k/\out=.slice ao L.length cap/\L.length<=cap /\
   Hid (L=Bi.limbs (Bi.val a*Bi.val (b.take k)))/\U wr ao L/\BH w wr) (λ_ i _=>b.length-(intOf i).toNat)
 case atStart=>exact⟨0,none,[],0,Nat.zero_le _,rfl,rfl,nl,hii (by simp[Bi.val,Bi.limbs_zero]),U.nil _ _,br⟩
 case round=>
  obtain⟨k,ao,L,cap,hk,rfl,rfl,hcap,HL,hUL,hbr⟩:=hrel;have hLl:L.length<=a.length+k:=by
   rw[HL.o];refine Bi.limbs_length_le (Nat.lt_of_lt_of_le (Bi.val_mul_lt hoa (hob.take k)) (Nat.pow_le_pow_right dM ?_));simp;omega
  have hoL:Bi.Ok L:=by rw[HL.o];exact Bi.limbs_ok _
  by_cases hlt:k<b.length
  ·have ha':=ha.mono hbr;obtain⟨x,hx⟩:=zal hlt;have bx:=hob.at' hx;obtain⟨b2,o2,rfl,hcy⟩:=(hb.mono hbr).at' hx;have HX:=hii (Bi.getD_of hx);clear hx ha hb;go_wp2_with fail;refine(zeq a x k _ _ _ oM oM bx hoa ha').mono ?_;rintro e w1⟨ao1,L1,Y1,hL1,rfl,hcap1,hl1,hU1,hb1⟩;have HL1:=hii hL1;clear hL1;have hUL1:=hUL.mono hb1;have hoL1:Bi.Ok L1:=by rw[HL1.o];exact Bi.limbs_ok _
   have hbr1:=bu hbr hb1;clear ha' hUL;go_wp2_with fail;refine(zhz L L1 _ _ _ _ _ oM oM hoL hoL1 hUL1 hU1).mono ?_;rintro e w2⟨ao2,L2,Y2,hL2,rfl,hcap2,hl2,hU2,hb2⟩;have HL2:=hii hL2;clear hL2;have hbr2:=bu hbr1 hb2;go_wp2;go_roundw
   case rel=>
    refine⟨k+1,ao2,L2,Y2,oM,gM,rfl,hcap2,hii ?_,hU2,hbr2⟩;rw[HL2.o,HL.o,HL1.o,Bi.val_limbs,Bi.val_limbs,Bi.rmul_step HX.o.symm]
   case measure=>exact mM
  ·obtain rfl:k=b.length:=oM;clear ha hb;go_wp2;go_ret;refine⟨ao,L,cap,?_,rfl,hcap,hUL,hbr⟩;rw[HL.o,Bi.val_take_all nl]
theorem zi2(a b:LN)(aoa aob:OA)(ca cb:Nat)(w:Wo)(hma:a.length<=100000000)(hmb:b.length<=100000000)
  (hoa:Bi.Ok a)(hob:Bi.Ok b)(ha:U w aoa a)(hb:U w aob b) :
  CP 172 #[.slice aoa a.length ca,.slice aob b.length cb] w λe w'=>∃ao L cap,L=Bi.limbs (Bi.val a*Bi.val b)/\e=.returned (.slice ao L.length cap)/\L.length<=cap /\
   U w' ao L/\BH w w':=by
 go_enter func172,ntmps172;go_wp2_with (at_make;refine za2 _ rfl _ _ rfl w w.heap.size _ _ (a.length+b.length) rfl rfl oM oM oM nl br ?_;intro w0 hown0 hb0);go_loopw [20] (λi wr=>∃(k:Nat)(q:LN),k<=a.length/\i=.int .i64 k/\za8 wr w.heap.size (.slice (some ⟨w.heap.size,0,none⟩) (a.length+b.length) (a.length+b.length)) q/\Bi.Ok q /\
   Hid (∀j,k+b.length<=j->q.getD j 0=0)/\Hid (Bi.val q=Bi.val (a.take k)*Bi.val b)/\BH w wr) (λi _=>a.length-(intOf i).toNat)
 case atStart=>
  refine⟨0,_,Nat.zero_le _,rfl,hown0,Bi.Ok.replicate _,hii λj _=>?_,hii (by simp[Bi.val,Bi.val_replicate_zero]),hb0⟩;rw[List.getD_eq_getElem?_getD,List.getElem?_replicate];split<;>rfl
 case round=>
  obtain⟨k,q,hk,rfl,hown,hoq,HZ,HI,hbr⟩:=hrel
  by_cases hlt:k<a.length
  ·obtain⟨xk,hxk⟩:=zal hlt;have bx:=hoa.at' hxk;obtain⟨b1,o1,rfl,hcx⟩:=(ha.mono hbr).at' hxk;have HX:=hii (Bi.getD_of hxk);clear hxk ha;go_wp2_with fail;go_loopw [8,27] (λc i wi=>∃(t cr:Nat)(p:LN),t<=b.length/\i=.int .i64 t/\c=.int .u64 cr/\cr<1000000000 /\
    za8 wi w.heap.size (.slice (some ⟨w.heap.size,0,none⟩) (a.length+b.length) (a.length+b.length)) p/\Bi.Ok p /\
    Hid (∀j,k+b.length<=j->p.getD j 0=0)/\Hid (Bi.val p+1000000000 ^ (k+t)*cr=Bi.val (a.take k)*Bi.val b+1000000000 ^ k*(xk*Bi.val (b.take t)))/\BH w wi) (λ_ i _=>b.length-(intOf i).toNat)
   case atStart=>
    exact⟨0,0,q,Nat.zero_le _,rfl,rfl,oM,hown,hoq,HZ,hii (by have:=HI.o;simp[Bi.val];exact this),hbr⟩
   case round=>
    clear hown hoq HZ HI hbr hcx;obtain⟨t,cr,p,ht,rfl,rfl,hcr,hown,hop,HZ,HI,hbr⟩:=hrel;have hpl:=hown.len.1;have hpl2:a.length+b.length<=p.length:=Nat.le_of_eq hpl;have HPL:=hii hpl;clear hpl
    by_cases hlt2:t<b.length
    ·obtain⟨yk,hyk⟩:=zal hlt2;have by':=hob.at' hyk;obtain⟨b2,o2,rfl,hcy⟩:=(hb.mono hbr).at' hyk;have HY:=hii (Bi.getD_of hyk);obtain⟨z,hz⟩:=zal (l:=p) (k:=k+t) oM;have bz:=hop.at' hz;have hcz:=hown.at' hz;have hfz:=hown.free (k+t);have HZ2:=hii (Bi.getD_of hz);clear hyk hb hz;obtain⟨m,hm⟩:∃m:Nat,m=xk*yk:=⟨_,rfl⟩;have hm2:m+1999999998<1000000000000000000:=by
      have h1:xk*yk<=999999999*999999999:=Nat.mul_le_mul oM oM;rw[hm];omega
     have hm3:(xk:Int)*(yk:Int)=(m:Int):=by rw[hm];simp
     have HM:=hii hm;clear hm;go_wp2;have hown':=hown.set (k+t) (((z:Int)+m+cr) % 1000000000) ((z+m+cr) % 1000000000) oM;have hb':=hbr.setCell (p:=⟨w.heap.size,k+t,none⟩) nl (.int .u32 (((z:Int)+m+cr) % 1000000000));go_roundw
     case rel=>
      refine⟨t+1,(z+m+cr) / 1000000000,p.set (k+t) ((z+m+cr) % 1000000000),oM,gM,gM,oM,hown',hop.set _ oM,hii λj hj=>?_,hii (Bi.times_step oM (by rw[HZ2.o,HY.o,HM.o]) HI.o),hb'⟩;rw[List.getD_eq_getElem?_getD,List.getElem?_set_ne oM,<-List.getD_eq_getElem?_getD];exact HZ.o j hj
     case measure=>exact mM
    ·obtain rfl:t=b.length:=oM;obtain⟨z,hz⟩:=zal (l:=p) (k:=k+b.length) oM;have hcz:=hown.at' hz;have hfz:=hown.free (k+b.length);clear hz;go_wp2;have hown':=hown.set (k+b.length) (cr:Int) cr rfl;have hb':=hbr.setCell (p:=⟨w.heap.size,k+b.length,none⟩) nl (.int .u32 (cr:Int));go_roundw
     case rel=>
      refine⟨k+1,p.set (k+b.length) cr,oM,gM,hown',hop.set _ hcr,hii λj hj=>?_,hii ?_,hb'⟩
      ·rw[List.getD_eq_getElem?_getD,List.getElem?_set_ne oM,<-List.getD_eq_getElem?_getD];exact HZ.o j oM
      ·rw[Bi.times_row rfl oM (HZ.o _ nl) HI.o,<-HX.o,Bi.times_outer]
     case measure=>exact mM
  ·obtain rfl:k=a.length:=oM;clear ha hb;obtain⟨hl1,_⟩:=hown.len;obtain⟨ao,cap,e1,hcap,hU⟩:=hown.read;rw[<-hl1]at e1;simp only[Value.slice.injEq]at e1;obtain⟨rfl,_,rfl⟩:=e1;have hq2:q.length<=a.length+b.length:=Nat.le_of_eq hl1.symm;go_wp2_with fail;rw[hl1];refine(zbR q _ _ _ oM oM hU).mono ?_;rintro e w'⟨L,hL,hLl,rfl,hU',rfl⟩;have HL:=hii hL;clear hL hl1;go_wp2;go_ret;refine⟨_,L,_,?_,rfl,oM,hU',hbr⟩;rw[HL.o,Bi.trim_eq_limbs hoq,HI.o,Bi.val_take_all nl]
end Go.Proofs.YtfgffkmddanjjaaGreatDoor
