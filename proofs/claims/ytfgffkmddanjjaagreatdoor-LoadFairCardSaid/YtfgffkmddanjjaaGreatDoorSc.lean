/-
  The simplex method: the leaving row: its regions, each over a frame of variables.
-/
import Derived.Test.YtfgffkmddanjjaaGreatDoorSa
import Derived.Test.YtfgffkmddanjjaaGreatDoorFlowX
import Derived.Test.YtfgffkmddanjjaaGreatDoorE14
import Derived.Deep.CutBlock
set_option linter.unusedVariables false
set_option linter.unusedSimpArgs false
set_option maxRecDepth 100000
set_option maxHeartbeats 25600000
namespace Go.Proofs.YtfgffkmddanjjaaGreatDoor
open _root_.Go.Proofs.Tryz
open Go.RowKit
def zdS(k q:Nat)(L:Nat->Nat->Rat)(bs:Nat->Nat)(i:Nat)(z:Int)(ls:Rat):Prop :=
 (z=-1/\∀t,t<i->¬0<L t k)\/∃r:Nat,z=(r:Int)/\r<i/\0<L r k/\ls=L r q / L r k/\∀t,t<i->0<L t k->L r q / L r k<L t q / L t k\/(L r q / L r k=L t q / L t k/\bs r<=bs t)
def zo3(k q:Nat)(L:Nat->Nat->Rat)(bs:Nat->Nat)(m:Nat)(z:Int):Prop :=
 (z=-1/\∀t,t<m->¬0<L t k)\/∃r:Nat,z=(r:Int)/\r<m/\0<L r k/\∀t,t<m->0<L t k->L r q / L r k<L t q / L t k\/(L r q / L r k=L t q / L t k/\bs r<=bs t)
section
variable {k q : Nat} {L : Nat → Nat → Rat} {bs : Nat → Nat} {i : Nat} {z : Int} {ls : Rat}
theorem zdS.start:zdS k q L bs 0 (-1) ls:=.inl ⟨rfl,λt ht=>by omega⟩
theorem zdS.toZ(h:zdS k q L bs i z ls):zo3 k q L bs i z:=by
 rcases h with h|⟨r,h1,h2,h3,_,h5⟩
 ·exact .inl h
 ·exact .inr ⟨r,h1,h2,h3,h5⟩
theorem zdS.skip(h:zdS k q L bs i z ls)(hn:¬0<L i k):zdS k q L bs (i+1) z ls:=by
 have key:∀t,t<i+1->0<L t k->t<i:=λt ht h0=>by
  rcases Nat.lt_or_ge t i with h|h
  ·exact h
  ·obtain rfl:t=i:=by omega
   exact absurd h0 hn
 rcases h with⟨h1,h2⟩|⟨r,h1,h2,h3,h4,h5⟩
 ·exact .inl ⟨h1,λt ht h0=>h2 t (key t ht h0) h0⟩
 ·exact .inr ⟨r,h1,by omega,h3,h4,λt ht h0=>h5 t (key t ht h0) h0⟩
theorem zdS.first(h:zdS k q L bs i (-1) ls)(hp:0<L i k):zdS k q L bs (i+1) (i:Int) (L i q / L i k):=by
 rcases h with⟨_,h2⟩|⟨r,h1,_⟩
 ·refine .inr ⟨i,rfl,by omega,hp,rfl,λt ht h0=>?_⟩;rcases Nat.lt_or_ge t i with h|h
  ·exact absurd h0 (h2 t h)
  ·obtain rfl:t=i:=by omega
   exact .inr ⟨rfl,nl⟩
 ·omega
theorem zmr{a b:Rat}:Rq.cmpQ a b<0↔a<b:=by
 unfold Rq.cmpQ
 by_cases h1:a<b
 ·rw[if_pos h1];exact⟨λ_=>h1,λ_=>by decide⟩
 ·rw[if_neg h1];refine⟨λh=>?_,λh=>absurd h h1⟩
  split at h<;>exact absurd h (by decide)
theorem zms{a b:Rat}:0<Rq.cmpQ a b↔b<a:=by
 unfold Rq.cmpQ
 by_cases h1:a<b
 ·rw[if_pos h1];exact⟨λh=>absurd h (by decide),λh=>absurd h (Rat.not_lt.2 (Rat.le_of_lt h1))⟩
 ·rw[if_neg h1]
  by_cases h2:b<a
  ·rw[if_pos h2];exact⟨λ_=>h2,λ_=>by decide⟩
  ·rw[if_neg h2];exact⟨λh=>absurd h (by decide),λh=>absurd h h2⟩
theorem zjC{a b:Rat}:Rq.cmpQ a b=0↔a=b:=by
 unfold Rq.cmpQ
 by_cases h1:a<b
 ·rw[if_pos h1];exact⟨λh=>absurd h (by decide),λh=>absurd (h▸h1) Rat.lt_irrefl⟩
 ·rw[if_neg h1]
  by_cases h2:b<a
  ·rw[if_pos h2];exact⟨λh=>absurd h (by decide),λh=>absurd (h▸h2) Rat.lt_irrefl⟩
  ·rw[if_neg h2];exact⟨λ_=>Rat.le_antisymm (Rat.not_lt.1 h2) (Rat.not_lt.1 h1),λ_=>rfl⟩
theorem zov{a b c:Rat}(h1:a<b)(h2:b<c):a<c:=Rat.not_le.1 λh=>Rat.not_le.2 h1 (Rat.le_trans (Rat.le_of_lt h2) h)
theorem zdS.worse(h:zdS k q L bs i z ls){r:Nat}(hr:z=(r:Int))(hw:ls<L i q / L i k\/(ls=L i q / L i k/\bs r<=bs i)):zdS k q L bs (i+1) z ls:=by
 rcases h with⟨h1,_⟩|⟨r',h1,h2,h3,h4,h5⟩
 ·omega
 ·obtain rfl:r'=r:=by omega
  refine .inr ⟨r',h1,by omega,h3,h4,λt ht h0=>?_⟩;rcases Nat.lt_or_ge t i with h|h
  ·exact h5 t h h0
  ·obtain rfl:t=i:=by omega
   rw[<-h4];exact hw
theorem zdS.better(h:zdS k q L bs i z ls){r:Nat}(hr:z=(r:Int))(hp:0<L i k)(hw:L i q / L i k<ls\/(L i q / L i k=ls/\bs i<=bs r)):zdS k q L bs (i+1) (i:Int) (L i q / L i k):=by
 rcases h with⟨h1,_⟩|⟨r',h1,h2,h3,h4,h5⟩
 ·omega
 ·obtain rfl:r'=r:=by omega
  refine .inr ⟨i,rfl,by omega,hp,rfl,λt ht h0=>?_⟩;rcases Nat.lt_or_ge t i with h|h
  ·rw[h4]at hw;rcases h5 t h h0 with h6|⟨h6,h7⟩
   ·rcases hw with h8|⟨h8,_⟩
    ·exact .inl (zov h8 h6)
    ·exact .inl (by rw[h8];exact h6)
   ·rcases hw with h8|⟨h8,h9⟩
    ·exact .inl (by rw[<-h6];exact h8)
    ·exact .inr ⟨by rw[h8];exact h6,by omega⟩
  ·obtain rfl:t=i:=by omega
   exact .inr ⟨rfl,nl⟩
end
theorem zg4(z:Int):zaH z<=0↔¬0<z:=by
 unfold zaH
 split
 ·next h=>simp[h]
 ·next h=>split<;>omega
theorem zeF{r:Rat}:0<r↔0<r.num:=by
 rw[Rat.lt_iff];simp
theorem zlY{r:Rat}:r<0↔r.num<0:=by
 rw[Rat.lt_iff];simp
theorem lv7{Q:Exit->Act->Wo->Prop}{B g ga ca gb cb m n q:Nat}{rr cr:Nat->Nat}{L:Nat->Nat->Rat}{bs:Nat->Nat}{i k:Nat}{rq:Rat}{w:Wo}{x2 x3 x4 x5 x6 x8 x9 x10 x11 x12 x13 x14 x15 x16 x17 x18 x19 x20 x21 x22 x23 x24 x25 x26 x27 x28 x29 x30 x31 x32 x33 x34 x35 x36 x37 x38 x39 x40 x41 x42 x43 x44 x45 x46 x47 x48 x49 x50 x51 x52 x53 x54 x55 x56 x57 x58 x59 x60 x61 x62 x63 x64 x65 x66 x67 x68 x69 x70 x71 x72 x73 x74 x75 x76 x77 x78 x79 x80 x81 x82 x83 x84 x85 x86 x87 x88 x89 x90 x91 x92 x93 x94 x95 x96 x97 x98 x99 x100 x101:Vl}
  (h:TB w B g ga ca gb cb m n q rr cr L bs)(hlt:i<m)(hk:k<q)(Hne:Hid ((L i k).num≠0))(HDS:Hid (zlC (L i q) (L i k)))(Hrq:Hid (rq=L i q / L i k))
  (hQ:∀(T:Nat->Vl)(W:Wo)(g8:Nat)(J5:Bool)(ao5:OA)(n5 Y5:Nat)(K5:Bool)(ap5:OA)(m5 Z5:Nat),w.heap.size<=g8->Row W g8 32 [.bool J5,.slice ao5 n5 Y5,.bool K5,.slice ap5 m5 Z5]->zad W (qA J5 ao5 n5 Y5 K5 ap5 m5 Z5) rq->BH w W->Q .normal {tmps:=List.toArray ((.pointer (some ⟨g,0,none⟩))::(.int .i64 (k:Nat))::x2::x3::x4::x5::x6::(.int .i64 (i:Nat))::(.pointer (some ⟨g8,0,none⟩))::x9::x10::x11::x12::x13::x14::x15::x16::x17::x18::x19::x20::x21::x22::x23::x24::x25::x26::x27::x28::x29::(T 30)::(T 31)::(T 32)::(T 33)::(T 34)::(T 35)::(T 36)::(T 37)::(T 38)::(T 39)::(T 40)::(T 41)::(T 42)::(T 43)::(T 44)::(T 45)::(T 46)::(T 47)::(T 48)::(T 49)::(T 50)::(T 51)::(T 52)::(T 53)::(T 54)::(T 55)::x56::x57::x58::x59::x60::x61::x62::x63::x64::x65::x66::x67::x68::x69::x70::x71::x72::x73::x74::x75::x76::x77::x78::x79::x80::x81::x82::x83::x84::x85::x86::x87::x88::x89::x90::x91::x92::x93::x94::x95::x96::x97::x98::x99::x100::x101::[]),defers:=[]} W) :
  Code.wp Tryz.prog (rgn Tryz.f156 7) Q {tmps:=List.toArray ((.pointer (some ⟨g,0,none⟩))::(.int .i64 (k:Nat))::x2::x3::x4::x5::x6::(.int .i64 (i:Nat))::x8::x9::x10::x11::x12::x13::x14::x15::x16::x17::x18::x19::x20::x21::x22::x23::x24::x25::x26::x27::x28::x29::x30::x31::x32::x33::x34::x35::x36::x37::x38::x39::x40::x41::x42::x43::x44::x45::x46::x47::x48::x49::x50::x51::x52::x53::x54::x55::x56::x57::x58::x59::x60::x61::x62::x63::x64::x65::x66::x67::x68::x69::x70::x71::x72::x73::x74::x75::x76::x77::x78::x79::x80::x81::x82::x83::x84::x85::x86::x87::x88::x89::x90::x91::x92::x93::x94::x95::x96::x97::x98::x99::x100::x101::[]),defers:=[]} w:=by
 have HQ0:=hii hQ;clear hQ
 conv=>arg 2;whnf
 have hxi:(i:Int)<(m:Int)+1:=by omega
 have hxq:(q:Int)<(q:Int)+1:=by omega
 have hxk:(k:Int)<(q:Int)+1:=by omega
 obtain⟨hm,hn⟩:=h.small;have Hq:=hii h.wq;obtain⟨J3,ao3,n3,Y3,K3,ap3,m3,Z3,y0,y1,y2,y3,-,-,-,-,V3⟩:=h.cells4 (i:=i) (j:=q) (by omega) (by omega);have z3:ze9 w (rr i) (q*4) (.bool J3) (.slice ao3 n3 Y3) (.bool K3) (.slice ap3 m3 Z3):=⟨y0,y1,y2,y3,trivial,trivial,trivial,trivial⟩;obtain⟨J4,ao4,n4,Y4,K4,ap4,m4,Z4,y4,y5,y6,y7,-,-,-,-,V4⟩:=h.cells4 (i:=i) (j:=k) (by omega) (by omega);have z4:ze9 w (rr i) (k*4) (.bool J4) (.slice ao4 n4 Y4) (.bool K4) (.slice ap4 m4 Z4):=⟨y4,y5,y6,y7,trivial,trivial,trivial,trivial⟩;clear y0 y1 y2 y3 y4 y5 y6 y7;refine zap (wx:=w) (λ_=>False) [(λ_ X _=>X 0=.pointer (some ⟨g,0,none⟩)),(λ_ X _=>X 1=.pointer (some ⟨g,0,none⟩)),(λ_ X _=>X 2=.pointer (some ⟨g,0,none⟩)),(λ_ X _=>X 3=.pointer (some ⟨g,2,none⟩)),(λ_ X _=>X 4=.slice (some ⟨ga,0,none⟩) (m+1) ca),(λ_ X _=>X 5=.int .i64 (i:Nat)),(λ_ X _=>X 6=.pointer (some ⟨ga,i,none⟩)),(λ_ X _=>X 7=.slice (some ⟨rr i,0,none⟩) (q+1) (cr i)),(λ_ X _=>X 8=.pointer (some ⟨g,0,none⟩)),(λ_ X _=>X 9=.int .i64 (q:Nat)),(λ_ X _=>X 10=.pointer (some ⟨rr i,q*4,none⟩)),(λ_ X _=>X 11=.agg #[.bool J3,.slice ao3 n3 Y3,.bool K3,.slice ap3 m3 Z3]),(λ_ X _=>X 12=.pointer (some ⟨g,0,none⟩)),(λ_ X _=>X 13=.pointer (some ⟨g,0,none⟩)),(λ_ X _=>X 14=.pointer (some ⟨g,2,none⟩)),(λ_ X _=>X 15=.slice (some ⟨ga,0,none⟩) (m+1) ca),(λ_ X _=>X 16=.int .i64 (i:Nat)),(λ_ X _=>X 17=.pointer (some ⟨ga,i,none⟩)),(λ_ X _=>X 18=.slice (some ⟨rr i,0,none⟩) (q+1) (cr i)),(λ_ X _=>X 19=.int .i64 (k:Nat)),(λ_ X _=>X 20=.pointer (some ⟨rr i,k*4,none⟩)),(λ_ X _=>X 21=.agg #[.bool J4,.slice ao4 n4 Y4,.bool K4,.slice ap4 m4 Z4]),(λG X W=>((λG W v=>∃a,v=.tuple #[a,.int .i64 0]/\zad W a rq):(Nat->Prop)->Wo->Vl->Prop) G W (X 22)),(λG X W=>((FQ rq):(Nat->Prop)->Wo->Vl->Prop) G W (X 23)),(λ_ X _=>X 24=.int .i64 0),(λG X W=>((FQ rq):(Nat->Prop)->Wo->Vl->Prop) G W (X 25)),(λ_ _ _=>True),(λ_ _ _=>True)] [some 30,some 31,some 32,some 33,some 34,some 35,some 36,some 37,some 38,some 39,some 40,some 41,some 42,some 43,some 44,some 45,some 46,some 47,some 48,some 49,some 50,some 51,some 52,some 53,some 54,some 55,some 8,none] [none,none,none,none,none,none,none,none,none,none,none,none,none,none,none,none,none,none,none,none,none,none,none,none,none,none,some ⟨27,25,32,[.bool false,.slice none 0 0,.bool false,.slice none 0 0]⟩,none] [30,31,32,33,34,35,36,37,38,39,40,41,42,43,44,45,46,47,48,49,50,51,52,53,54,55,8] ⟨(by intro u hu k z e;subst e;simp at hu),trivial⟩ (λb h=>h) br ⟨zab _ _ _,zab _ _ _,zab _ _ _,zab _ _ _,zab _ _ _,zab _ _ _,zab _ _ _,zab _ _ _,zab _ _ _,zab _ _ _,zab _ _ _,zab _ _ _,zab _ _ _,zab _ _ _,zab _ _ _,zab _ _ _,zab _ _ _,zab _ _ _,zab _ _ _,zab _ _ _,zab _ _ _,zab _ _ _,(zat (F:=λG W v=>∃a,v=.tuple #[a,.int .i64 0]/\zad W a rq) λG G' W W' v ⟨a,e,h⟩ hk hn hG=>⟨a,e,h.kept hk hn⟩),zaY _,zab _ _ _,zaY _,zan _,zan _,trivial⟩ ⟨⟨λ_ _ _=>trivial,λ_ _ _=>trivial⟩,trivial⟩ ⟨?s0,?s1,?s2,?s3,?s4,?s5,?s6,?s7,?s8,?s9,?s10,?s11,?s12,?s13,?s14,?s15,?s16,?s17,?s18,?s19,?s20,?s21,?s22,?s23,?s24,?s25,?s26,?s27,trivial⟩ ⟨?b26,trivial⟩ ?he
 case' s0|s1|s2|s3|s4|s5|s6|s7|s8|s9|s10|s11|s12|s13|s14|s15|s16|s17|s18|s19|s20|s21|s22|s23|s24|s25=>
  rintro-G T W hb hHG hGW hGo hNG hA K hK
 case' s0|s1|s5|s8|s12|s16|s19=>
  simp only[sA]at hK|-
 case' s2=>
  simp only[sA,f0 T 31 hA]at hK|-
 case' s3=>
  simp only[sA,f0 T 32 hA]at hK|-
 case' s4=>
  have e3:T 33=_:=hA.1;obtain⟨x0,x1,x2,x3,x4⟩:=(h.mono hb).box.n5;simp only[sA,e3]at hK|-
 case' s6=>
  simp only[sA,f0 T 34 hA,f1 T 35 hA]at hK|-
 case' s7=>
  have x5:=(h.mono hb).out i (by omega);simp only[sA,f0 T 36 hA]at hK|-
 case' s10=>
  simp only[sA,f0 T 37 hA,f1 T 39 hA]at hK|-
 case' s11=>
  have e10:T 40=_:=hA.1;obtain⟨f0,f1,f2,f3,_,_,_,_⟩:=z3.mono hb;simp only[sA,e10]at hK|-
 case' s13=>
  simp only[sA,f0 T 42 hA]at hK|-
 case' s14=>
  simp only[sA,f0 T 43 hA]at hK|-
 case' s15=>
  have e14:T 44=_:=hA.1;obtain⟨x0,x1,x2,x3,x4⟩:=(h.mono hb).box.n5;simp only[sA,e14]at hK|-
 case' s17=>
  simp only[sA,f0 T 45 hA,f1 T 46 hA]at hK|-
 case' s18=>
  have x5:=(h.mono hb).out i (by omega);simp only[sA,f0 T 47 hA]at hK|-
 case' s20=>
  simp only[sA,f0 T 48 hA,f1 T 49 hA]at hK|-
 case' s21=>
  have e20:T 50=_:=hA.1;obtain⟨f0,f1,f2,f3,_,_,_,_⟩:=z4.mono hb;simp only[sA,e20]at hK|-
 case' s24=>
  have r22:((λG W v=>∃a,v=.tuple #[a,.int .i64 0]/\zad W a rq):(Nat->Prop)->Wo->Vl->Prop) G W (T 52):=hA.1;obtain⟨a6,e22,h6⟩:=r22;simp only[sA,e22]at hK|-
 case s0|s1|s2|s3|s4|s5|s6|s7|s8|s10|s11|s12|s13|s14|s15|s16|s17|s18|s19|s20|s21|s24=>
  have HK:=hii hK;clear hK hA;refine wO rfl ?_;go_simp;exact HK.out _ _ br λX hX _=>hX
 case s9=>
  simp only[sA,f0 T 38 hA]at hK|-;have HK:=hii hK;clear hK hA;refine wO rfl ?_;go_simp;go_fit (zcx g ga ca gb cb m n q Hq.out hm hn W (h.mono hb).box);rintro e w1⟨rfl,hb1⟩
  try dsimp only
  exact HK.out _ _ (hb1) λX hX _=>hX
 case s22=>
  simp only[sA,f0 T 41 hA,f1 T 51 hA,f2 T 39 hA]at hK|-;have HK:=hii hK;clear hK hA;refine wO rfl ?_;go_simp;go_fit (zlb _ _ (L i q) (L i k) 0 W (V3.mono hb) (V4.mono hb) Hne (hii (KQ.ok HDS.out)) (h.mono hb).Env');rintro e w1⟨hr,hb1⟩;obtain⟨J6,ao6,n6,Y6,K6,ap6,m6,Z6,rfl,h1,h2⟩:=hr.got;rw[<-Hrq.out]at h1 h2
  try dsimp only
  exact HK.out _ _ (hb1) λX hX _=>by
   show((λG W v=>∃a,v=.tuple #[a,.int .i64 0]/\zad W a rq):(Nat->Prop)->Wo->Vl->Prop) G _ (X 22)
   rw[hX];exact⟨_,rfl,zad.mk' h1 h2⟩
 case s23=>
  have r22:((λG W v=>∃a,v=.tuple #[a,.int .i64 0]/\zad W a rq):(Nat->Prop)->Wo->Vl->Prop) G W (T 52):=hA.1;obtain⟨a6,e22,h6⟩:=r22;simp only[sA,e22]at hK|-;have HK:=hii hK;clear hK hA;refine wO rfl ?_;go_simp;exact HK.out _ _ br λX hX _=>by
   show((FQ rq):(Nat->Prop)->Wo->Vl->Prop) G _ (X 23)
   rw[hX];exact h6
 case s25=>
  have e0:T 30=_:=hA.1;have r23:((FQ rq):(Nat->Prop)->Wo->Vl->Prop) G W (T 53):=hA.2.1;have e24:T 54=_:=hA.2.2.1;have r22:((λG W v=>∃a,v=.tuple #[a,.int .i64 0]/\zad W a rq):(Nat->Prop)->Wo->Vl->Prop) G W (T 52):=hA.2.2.2.1;have r23:zad W _ rq:=r23;obtain⟨J7,ao7,n7,Y7,K7,ap7,m7,Z7,e23⟩:=r23.parts;rw[e23]at r23;simp only[sA,e0,e24,e23]at hK|-;have HK:=hii hK;clear hK hA;refine wO rfl ?_;go_simp;go_fit (zgF _ _ _ _ _ _ _ _ _ W);rintro e w1⟨rfl,hb1⟩
  try dsimp only
  exact HK.out _ _ (hb1) λX hX _=>by
   show((FQ rq):(Nat->Prop)->Wo->Vl->Prop) G _ (X 25)
   rw[hX];exact r23.mono hb1
 case s26=>exact λh=>absurd h (by decide)
 case s27=>exact λh=>absurd h (by decide)
 case b26=>
  refine⟨?_,?_⟩
  ·rintro o ho T W K hK;obtain rfl:=Option.some.inj ho;simp only[sA]at hK|-;have HK:=hii hK;clear hK ho;refine wO rfl ?_;go_simp;exact HK.out
  ·rintro o ho G T W nb hA hp hrow K hK;obtain rfl:=Option.some.inj ho;have ep:T 8=.pointer (some ⟨nb,0,none⟩):=hp;have r25:((FQ rq):(Nat->Prop)->Wo->Vl->Prop) G W (T 55):=hA.2.1;have e0:T 30=_:=hA.2.2.2.1;have e1:T 31=_:=hA.2.2.2.2.1;have e2:T 32=_:=hA.2.2.2.2.2.1;have e3:T 33=_:=hA.2.2.2.2.2.2.1;have e4:T 34=_:=hA.2.2.2.2.2.2.2.1;have e5:T 35=_:=hA.2.2.2.2.2.2.2.2.1;have e6:T 36=_:=hA.2.2.2.2.2.2.2.2.2.1;have e7:T 37=_:=hA.2.2.2.2.2.2.2.2.2.2.1;have e8:T 38=_:=hA.2.2.2.2.2.2.2.2.2.2.2.1;have e9:T 39=_:=hA.2.2.2.2.2.2.2.2.2.2.2.2.1;have e10:T 40=_:=hA.2.2.2.2.2.2.2.2.2.2.2.2.2.1;have e11:T 41=_:=hA.2.2.2.2.2.2.2.2.2.2.2.2.2.2.1;have e12:T 42=_:=hA.2.2.2.2.2.2.2.2.2.2.2.2.2.2.2.1;have e13:T 43=_:=hA.2.2.2.2.2.2.2.2.2.2.2.2.2.2.2.2.1;have e14:T 44=_:=hA.2.2.2.2.2.2.2.2.2.2.2.2.2.2.2.2.2.1;have e15:T 45=_:=hA.2.2.2.2.2.2.2.2.2.2.2.2.2.2.2.2.2.2.1;have e16:T 46=_:=hA.2.2.2.2.2.2.2.2.2.2.2.2.2.2.2.2.2.2.2.1;have e17:T 47=_:=hA.2.2.2.2.2.2.2.2.2.2.2.2.2.2.2.2.2.2.2.2.1;have e18:T 48=_:=hA.2.2.2.2.2.2.2.2.2.2.2.2.2.2.2.2.2.2.2.2.2.1;have e19:T 49=_:=hA.2.2.2.2.2.2.2.2.2.2.2.2.2.2.2.2.2.2.2.2.2.2.1;have e20:T 50=_:=hA.2.2.2.2.2.2.2.2.2.2.2.2.2.2.2.2.2.2.2.2.2.2.2.1;have e21:T 51=_:=hA.2.2.2.2.2.2.2.2.2.2.2.2.2.2.2.2.2.2.2.2.2.2.2.2.1;have r22:((λG W v=>∃a,v=.tuple #[a,.int .i64 0]/\zad W a rq):(Nat->Prop)->Wo->Vl->Prop) G W (T 52):=hA.2.2.2.2.2.2.2.2.2.2.2.2.2.2.2.2.2.2.2.2.2.2.2.2.2.1;have r23:((FQ rq):(Nat->Prop)->Wo->Vl->Prop) G W (T 53):=hA.2.2.2.2.2.2.2.2.2.2.2.2.2.2.2.2.2.2.2.2.2.2.2.2.2.2.1;have e24:T 54=_:=hA.2.2.2.2.2.2.2.2.2.2.2.2.2.2.2.2.2.2.2.2.2.2.2.2.2.2.2.1;have r25:zad W _ rq:=r25;obtain⟨J8,ao8,n8,Y8,K8,ap8,m8,Z8,e25⟩:=r25.parts;have hK:=hK [.bool J8,.slice ao8 n8 Y8,.bool K8,.slice ap8 m8 Z8] (.inl e25) rfl (by intro u hu k z e;subst e;simp at hu);simp only[sA,ep,e0,e1,e2,e3,e4,e5,e6,e7,e8,e9,e10,e11,e12,e13,e14,e15,e16,e17,e18,e19,e20,e21,e24,e25]at hK|-;have HK:=hii hK;clear hK hA ho;have q0:=hrow.cell (k:=0) (by simp);have f0:=hrow.free 0;have q1:=hrow.cell (k:=1) (by simp);have f1:=hrow.free 1;have q2:=hrow.cell (k:=2) (by simp);have f2:=hrow.free 2;have q3:=hrow.cell (k:=3) (by simp);have f3:=hrow.free 3;simp only[List.getElem_cons_zero,List.getElem_cons_succ]at q0 q1 q2 q3;refine wO rfl ?_;go_simp;exact HK.out
 case he=>
  rintro GG N T W hb hHG hGW hGo hbox hNG hne hA;have fv:((FQ rq):(Nat->Prop)->Wo->Vl->Prop) GG W (T 55):=hA.at 25 (by decide);obtain⟨ep,_,hge,vs,hsto,hrow⟩:=hbox 26 _ rfl;have ep:T 8=.pointer (some ⟨N 26,0,none⟩):=ep;have fv:zad W _ rq:=fv;obtain⟨J5,ao5,n5,Y5,K5,ap5,m5,Z5,e5⟩:=fv.parts;obtain rfl:=hsto.four e5;rw[e5]at fv;simp only[sA,ep];exact HQ0.out T W (N 26) _ _ _ _ _ _ _ _ hge hrow fv hb
theorem zou{Q:Exit->Act->Wo->Prop}{i g6 g8:Nat}{J1:Bool}{ao1:OA}{n1 Y1:Nat}{K1:Bool}{ap1:OA}{m1 Z1:Nat}{J5:Bool}{ao5:OA}{n5 Y5:Nat}{K5:Bool}{ap5:OA}{m5 Z5:Nat}{w:Wo}{x0 x1 x2 x3 x4 x5 x9 x10 x11 x12 x13 x14 x15 x16 x17 x18 x19 x20 x21 x22 x23 x24 x25 x26 x27 x28 x29 x30 x31 x32 x33 x34 x35 x36 x37 x38 x39 x40 x41 x42 x43 x44 x45 x46 x47 x48 x49 x50 x51 x52 x53 x54 x55 x56 x57 x58 x59 x60 x61 x62 x63 x64 x65 x66 x67 x68 x69 x70 x71 x72 x73 x74 x75 x76 x77 x78 x79 x80 x81 x82 x83 x84 x85 x86 x87 x88 x89 x90 x91 x92 x93 x94 x95 x96 x97 x98 x99 x100 x101:Vl}
  (r8:Row w g8 32 [.bool J5,.slice ao5 n5 Y5,.bool K5,.slice ap5 m5 Z5])(r6:Row w g6 32 [.bool J1,.slice ao1 n1 Y1,.bool K1,.slice ap1 m1 Z1])
  (hQ:∀(T:Nat->Vl)(W:Wo),Row W g6 32 [.bool J5,.slice ao5 n5 Y5,.bool K5,.slice ap5 m5 Z5]->zaf (λb=>b=g6) w W->Q .normal {tmps:=List.toArray (x0::x1::x2::x3::x4::(.int .i64 (i:Nat))::(.pointer (some ⟨g6,0,none⟩))::(.int .i64 (i:Nat))::(.pointer (some ⟨g8,0,none⟩))::x9::x10::x11::x12::x13::x14::x15::x16::x17::x18::x19::x20::x21::x22::x23::x24::x25::x26::x27::x28::x29::x30::x31::x32::x33::x34::x35::x36::x37::x38::x39::x40::x41::x42::x43::x44::x45::x46::x47::x48::x49::x50::x51::x52::x53::x54::x55::x56::x57::x58::x59::x60::x61::x62::x63::x64::x65::x66::x67::x68::x69::x70::x71::x72::x73::x74::x75::x76::x77::x78::x79::x80::x81::x82::x83::x84::x85::x86::x87::x88::x89::x90::x91::x92::x93::x94::x95::x96::x97::(T 98)::(T 99)::x100::x101::[]),defers:=[]} W) :
  Code.wp Tryz.prog (rgn Tryz.f156 16) Q {tmps:=List.toArray (x0::x1::x2::x3::x4::x5::(.pointer (some ⟨g6,0,none⟩))::(.int .i64 (i:Nat))::(.pointer (some ⟨g8,0,none⟩))::x9::x10::x11::x12::x13::x14::x15::x16::x17::x18::x19::x20::x21::x22::x23::x24::x25::x26::x27::x28::x29::x30::x31::x32::x33::x34::x35::x36::x37::x38::x39::x40::x41::x42::x43::x44::x45::x46::x47::x48::x49::x50::x51::x52::x53::x54::x55::x56::x57::x58::x59::x60::x61::x62::x63::x64::x65::x66::x67::x68::x69::x70::x71::x72::x73::x74::x75::x76::x77::x78::x79::x80::x81::x82::x83::x84::x85::x86::x87::x88::x89::x90::x91::x92::x93::x94::x95::x96::x97::x98::x99::x100::x101::[]),defers:=[]} w:=by
 have HQ0:=hii hQ;clear hQ
 conv=>arg 2;whnf
 refine za5 (wx:=w) (λb=>b=g6) [vf (.int .i64 (i:Nat)),vf (.agg #[.bool J5,.slice ao5 n5 Y5,.bool K5,.slice ap5 m5 Z5]),vf (.int .i64 (i:Nat)),(λ_ _=>True)] [some 98,some 99,some 5,none] [98,99,5] 3 (λW=>Row W g8 32 [.bool J5,.slice ao5 n5 Y5,.bool K5,.slice ap5 m5 Z5]/\Row W g6 32 [.bool J1,.slice ao1 n1 Y1,.bool K1,.slice ap1 m1 Z1]) (λW=>Row W g6 32 [.bool J5,.slice ao5 n5 Y5,.bool K5,.slice ap5 m5 Z5]) (by decide) ⟨r8.below br.drew,r6.below br.drew⟩ (λW W' h hb=>⟨h.1.below hb,h.2.below hb⟩) (λW W' h hb=>h.below hb) (zaf.refl _) ⟨zaa _ _,zaa _ _,zaa _ _,(λ_ _ _ h _=>h),trivial⟩ ⟨?s0,?s1,?s2,?s3,trivial⟩ ?he
 case' s0|s1|s2|s3=>
  rintro T W hk hp hA K hK
 case' s0=>
  have hp:=hp (.inr (by decide));simp only[sA]at hK|-
 case' s2=>
  have hp:=hp (.inr (by decide));simp only[sA,f0 T 98 hA]at hK|-
 case s0|s2=>
  have HK:=hii hK;clear hK hA;refine wO rfl ?_;go_simp;exact HK.out _ _ ⟨λ_=>br,λh=>absurd h (by decide),zaf.refl _⟩ (rfl)
 case s1=>
  have hp:=hp (.inr (by decide));simp only[sA]at hK|-;have HK:=hii hK;clear hK hA;obtain⟨f0,f1,f2,f3⟩:=hp.1.n4;refine wO rfl ?_;go_simp;exact HK.out _ _ ⟨λ_=>br,λh=>absurd h (by decide),zaf.refl _⟩ (rfl)
 case s3=>
  have hp:=hp (.inl rfl);simp only[sA,f0 T 99 hA,f1 T 5 hA,f2 T 98 hA]at hK|-;have HK:=hii hK;clear hK hA;obtain⟨k0,k1,k2,k3⟩:=hp.2.n4;have k4:=hp.2.free;refine wO rfl ?_;go_simp;exact HK.out undef _ ⟨λh=>absurd rfl h,λ_=>((((hp.2.set 0 _).set 1 _).set 2 _).set 3 _),((((zaf.refl W:zaf (λb=>b=g6) W W).setCell (p:=⟨g6,0,none⟩) rfl _).setCell (p:=⟨g6,1,none⟩) rfl _).setCell (p:=⟨g6,2,none⟩) rfl _).setCell (p:=⟨g6,3,none⟩) rfl _⟩ (trivial)
 case he=>
  rintro T W hk hR hA;have e2:T 5=.int .i64 (i:Nat):=hA.at 2 (by decide);simp only[sA,e2];exact HQ0.out T W hR hk
theorem zmd{Q:Exit->Act->Wo->Prop}{c:Int}{w:Wo}{x0 x1 x2 x3 x4 x5 x6 x7 x8 x10 x11 x12 x13 x14 x15 x16 x17 x18 x19 x20 x21 x22 x23 x24 x25 x26 x27 x28 x29 x30 x31 x32 x33 x34 x35 x36 x37 x38 x39 x40 x41 x42 x43 x44 x45 x46 x47 x48 x49 x50 x51 x52 x53 x54 x55 x56 x57 x58 x59 x60 x61 x62 x63 x64 x65 x66 x67 x68 x69 x70 x71 x72 x73 x74 x75 x76 x77 x78 x79 x80 x81 x82 x83 x84 x85 x86 x87 x88 x89 x90 x91 x92 x93 x94 x95 x96 x97 x98 x99 x100 x101:Vl}
  (hc:0<c)
  (hQ:∀(T:Nat->Vl)(W:Wo),BH w W->Q .normal {tmps:=List.toArray (x0::x1::x2::x3::x4::x5::x6::x7::x8::(.int .i64 c)::x10::x11::x12::x13::x14::x15::x16::x17::x18::x19::x20::x21::x22::x23::x24::x25::x26::x27::x28::x29::x30::x31::x32::x33::x34::x35::x36::x37::x38::x39::x40::x41::x42::x43::x44::x45::x46::x47::x48::x49::x50::x51::x52::x53::x54::x55::x56::x57::x58::x59::x60::x61::x62::x63::x64::x65::x66::x67::x68::x69::x70::x71::x72::x73::x74::(T 75)::(T 76)::(T 77)::(T 78)::(T 79)::(T 80)::(T 81)::(T 82)::(T 83)::(T 84)::(T 85)::(T 86)::(T 87)::(T 88)::(T 89)::(T 90)::(T 91)::(T 92)::(T 93)::(T 94)::(T 95)::(T 96)::(.bool true)::x98::x99::x100::x101::[]),defers:=[]} W) :
  Code.wp Tryz.prog (rgn Tryz.f156 15) Q {tmps:=List.toArray (x0::x1::x2::x3::x4::x5::x6::x7::x8::(.int .i64 c)::x10::x11::x12::x13::x14::x15::x16::x17::x18::x19::x20::x21::x22::x23::x24::x25::x26::x27::x28::x29::x30::x31::x32::x33::x34::x35::x36::x37::x38::x39::x40::x41::x42::x43::x44::x45::x46::x47::x48::x49::x50::x51::x52::x53::x54::x55::x56::x57::x58::x59::x60::x61::x62::x63::x64::x65::x66::x67::x68::x69::x70::x71::x72::x73::x74::x75::x76::x77::x78::x79::x80::x81::x82::x83::x84::x85::x86::x87::x88::x89::x90::x91::x92::x93::x94::x95::x96::x97::x98::x99::x100::x101::[]),defers:=[]} w:=by
 have HQ0:=hii hQ;clear hQ
 conv=>arg 2;whnf
 have hc1:decide (0<c)=true:=decide_eq_true hc;refine zae (wx:=w) [vf (.int .i64 c),vf (.bool true),vf (.bool true),vf undef,vf undef,vf undef,vf undef,vf undef,vf undef,vf undef,vf undef,vf undef,vf undef,vf undef,vf undef,vf undef,vf undef,vf undef,vf undef,vf undef,vf undef,vf undef,vf (.bool true)] [75,76,77,78,79,80,81,82,83,84,85,86,87,88,89,90,91,92,93,94,95,96,97] br ⟨sV _,sV _,sV _,sV _,sV _,sV _,sV _,sV _,sV _,sV _,sV _,sV _,sV _,sV _,sV _,sV _,sV _,sV _,sV _,sV _,sV _,sV _,sV _,trivial⟩ ⟨?s0,?s1,?s2,?s3,?s4,?s5,?s6,?s7,?s8,?s9,?s10,?s11,?s12,?s13,?s14,?s15,?s16,?s17,?s18,?s19,?s20,?s21,?s22,trivial⟩ ?he
 case' s0|s1|s2|s3|s4|s5|s6|s7|s8|s9|s10|s11|s12|s13|s14|s15|s16|s17|s18|s19|s20|s21|s22=>
  rintro T W hb hA K hK
 case' s0=>
  simp only[sA]at hK|-
 case' s1=>
  simp only[sA,f0 T 75 hA]at hK|-
 case' s2=>
  simp only[sA,f0 T 76 hA]at hK|-
 case' s22=>
  simp only[sA,f0 T 77 hA,f1 T 96 hA]at hK|-
 case' s3=>
  simp only[sA,f0 T 77 hA]at hK|-
 case' s4=>
  simp only[sA,f0 T 78 hA,f1 T 77 hA]at hK|-
 case' s5=>
  simp only[sA,f0 T 79 hA,f1 T 77 hA]at hK|-
 case' s6|s10|s13|s17=>
  simp only[sA,f0 T 80 hA]at hK|-
 case' s7=>
  simp only[sA,f0 T 81 hA,f1 T 80 hA]at hK|-
 case' s8=>
  simp only[sA,f0 T 82 hA,f1 T 80 hA]at hK|-
 case' s9=>
  simp only[sA,f0 T 83 hA,f1 T 80 hA]at hK|-
 case' s11=>
  simp only[sA,f0 T 84 hA,f1 T 85 hA,f2 T 80 hA]at hK|-
 case' s12=>
  simp only[sA,f0 T 86 hA,f1 T 80 hA]at hK|-
 case' s14=>
  simp only[sA,f0 T 88 hA,f1 T 80 hA]at hK|-
 case' s15=>
  simp only[sA,f0 T 89 hA,f1 T 80 hA]at hK|-
 case' s16=>
  simp only[sA,f0 T 90 hA,f1 T 80 hA]at hK|-
 case' s18=>
  simp only[sA,f0 T 91 hA,f1 T 92 hA,f2 T 80 hA]at hK|-
 case' s19=>
  simp only[sA,f0 T 93 hA,f1 T 80 hA]at hK|-
 case' s20=>
  simp only[sA,f0 T 87 hA,f1 T 94 hA,f2 T 80 hA]at hK|-
 case' s21=>
  simp only[sA,f0 T 80 hA,f1 T 95 hA,f2 T 77 hA]at hK|-
 case s0|s1|s2|s22=>
  have HK:=hii hK;clear hK hA;refine wO rfl ?_;go_simp;exact HK.out _ _ br (rfl)
 case s3|s4|s5|s6|s7|s8|s9|s10|s11|s12|s13|s14|s15|s16|s17|s18|s19|s20|s21=>
  have HK:=hii hK;clear hK hA;refine zax rfl (by rfl) ?_;simp only[Act.put,List.setIfInBounds_toArray];exact HK.out _ _ br (rfl)
 case he=>
  rintro T W hb hA;have f22:T 97=.bool true:=hA.at 22 (by decide);simp only[sA,f22];exact HQ0.out T W hb
theorem zme{Q:Exit->Act->Wo->Prop}{c:Int}{w:Wo}{x0 x1 x2 x3 x4 x5 x6 x7 x8 x10 x11 x12 x13 x14 x15 x16 x17 x18 x19 x20 x21 x22 x23 x24 x25 x26 x27 x28 x29 x30 x31 x32 x33 x34 x35 x36 x37 x38 x39 x40 x41 x42 x43 x44 x45 x46 x47 x48 x49 x50 x51 x52 x53 x54 x55 x56 x57 x58 x59 x60 x61 x62 x63 x64 x65 x66 x67 x68 x69 x70 x71 x72 x73 x74 x75 x76 x77 x78 x79 x80 x81 x82 x83 x84 x85 x86 x87 x88 x89 x90 x91 x92 x93 x94 x95 x96 x97 x98 x99 x100 x101:Vl}
  (hc:c<0)
  (hQ:∀(T:Nat->Vl)(W:Wo),BH w W->Q .normal {tmps:=List.toArray (x0::x1::x2::x3::x4::x5::x6::x7::x8::(.int .i64 c)::x10::x11::x12::x13::x14::x15::x16::x17::x18::x19::x20::x21::x22::x23::x24::x25::x26::x27::x28::x29::x30::x31::x32::x33::x34::x35::x36::x37::x38::x39::x40::x41::x42::x43::x44::x45::x46::x47::x48::x49::x50::x51::x52::x53::x54::x55::x56::x57::x58::x59::x60::x61::x62::x63::x64::x65::x66::x67::x68::x69::x70::x71::x72::x73::x74::(T 75)::(T 76)::(T 77)::(T 78)::(T 79)::(T 80)::(T 81)::(T 82)::(T 83)::(T 84)::(T 85)::(T 86)::(T 87)::(T 88)::(T 89)::(T 90)::(T 91)::(T 92)::(T 93)::(T 94)::(T 95)::(T 96)::(.bool false)::x98::x99::x100::x101::[]),defers:=[]} W) :
  Code.wp Tryz.prog (rgn Tryz.f156 15) Q {tmps:=List.toArray (x0::x1::x2::x3::x4::x5::x6::x7::x8::(.int .i64 c)::x10::x11::x12::x13::x14::x15::x16::x17::x18::x19::x20::x21::x22::x23::x24::x25::x26::x27::x28::x29::x30::x31::x32::x33::x34::x35::x36::x37::x38::x39::x40::x41::x42::x43::x44::x45::x46::x47::x48::x49::x50::x51::x52::x53::x54::x55::x56::x57::x58::x59::x60::x61::x62::x63::x64::x65::x66::x67::x68::x69::x70::x71::x72::x73::x74::x75::x76::x77::x78::x79::x80::x81::x82::x83::x84::x85::x86::x87::x88::x89::x90::x91::x92::x93::x94::x95::x96::x97::x98::x99::x100::x101::[]),defers:=[]} w:=by
 have HQ0:=hii hQ;clear hQ
 conv=>arg 2;whnf
 have hc1:decide (0<c)=false:=decide_eq_false (by omega);have hc2:(c==0)=false:=by simp;omega
 refine zae (wx:=w) [vf (.int .i64 c),vf (.bool false),vf (.bool false),vf (.int .i64 c),vf (.bool false),vf (.bool false),vf undef,vf undef,vf undef,vf undef,vf undef,vf undef,vf undef,vf undef,vf undef,vf undef,vf undef,vf undef,vf undef,vf undef,vf undef,vf (.bool false),vf (.bool false)] [75,76,77,78,79,80,81,82,83,84,85,86,87,88,89,90,91,92,93,94,95,96,97] br ⟨sV _,sV _,sV _,sV _,sV _,sV _,sV _,sV _,sV _,sV _,sV _,sV _,sV _,sV _,sV _,sV _,sV _,sV _,sV _,sV _,sV _,sV _,sV _,trivial⟩ ⟨?s0,?s1,?s2,?s3,?s4,?s5,?s6,?s7,?s8,?s9,?s10,?s11,?s12,?s13,?s14,?s15,?s16,?s17,?s18,?s19,?s20,?s21,?s22,trivial⟩ ?he
 case' s0|s1|s2|s3|s4|s5|s6|s7|s8|s9|s10|s11|s12|s13|s14|s15|s16|s17|s18|s19|s20|s21|s22=>
  rintro T W hb hA K hK
 case' s0=>
  simp only[sA]at hK|-
 case' s1=>
  simp only[sA,f0 T 75 hA]at hK|-
 case' s2=>
  simp only[sA,f0 T 76 hA]at hK|-
 case' s3=>
  simp only[sA,f0 T 77 hA]at hK|-
 case' s4=>
  simp only[sA,f0 T 78 hA,f1 T 77 hA]at hK|-
 case' s5=>
  simp only[sA,f0 T 79 hA,f1 T 77 hA]at hK|-
 case' s21=>
  simp only[sA,f0 T 80 hA,f1 T 95 hA,f2 T 77 hA]at hK|-
 case' s22=>
  simp only[sA,f0 T 77 hA,f1 T 96 hA]at hK|-
 case' s6|s10|s13|s17=>
  simp only[sA,f0 T 80 hA]at hK|-
 case' s7=>
  simp only[sA,f0 T 81 hA,f1 T 80 hA]at hK|-
 case' s8=>
  simp only[sA,f0 T 82 hA,f1 T 80 hA]at hK|-
 case' s9=>
  simp only[sA,f0 T 83 hA,f1 T 80 hA]at hK|-
 case' s11=>
  simp only[sA,f0 T 84 hA,f1 T 85 hA,f2 T 80 hA]at hK|-
 case' s12=>
  simp only[sA,f0 T 86 hA,f1 T 80 hA]at hK|-
 case' s14=>
  simp only[sA,f0 T 88 hA,f1 T 80 hA]at hK|-
 case' s15=>
  simp only[sA,f0 T 89 hA,f1 T 80 hA]at hK|-
 case' s16=>
  simp only[sA,f0 T 90 hA,f1 T 80 hA]at hK|-
 case' s18=>
  simp only[sA,f0 T 91 hA,f1 T 92 hA,f2 T 80 hA]at hK|-
 case' s19=>
  simp only[sA,f0 T 93 hA,f1 T 80 hA]at hK|-
 case' s20=>
  simp only[sA,f0 T 87 hA,f1 T 94 hA,f2 T 80 hA]at hK|-
 case s0|s1|s2|s3|s4|s5|s21|s22=>
  have HK:=hii hK;clear hK hA;refine wO rfl ?_;go_simp;exact HK.out _ _ br (rfl)
 case s6|s7|s8|s9|s10|s11|s12|s13|s14|s15|s16|s17|s18|s19|s20=>
  have HK:=hii hK;clear hK hA;refine zax rfl (by rfl) ?_;simp only[Act.put,List.setIfInBounds_toArray];exact HK.out _ _ br (rfl)
 case he=>
  rintro T W hb hA;have f22:T 97=.bool false:=hA.at 22 (by decide);simp only[sA,f22];exact HQ0.out T W hb
theorem znF{Q:Exit->Act->Wo->Prop}{B g ga ca gb cb m n q:Nat}{rr cr:Nat->Nat}{L:Nat->Nat->Rat}{bs:Nat->Nat}{i r:Nat}{w:Wo}{x1 x2 x3 x4 x6 x8 x10 x11 x12 x13 x14 x15 x16 x17 x18 x19 x20 x21 x22 x23 x24 x25 x26 x27 x28 x29 x30 x31 x32 x33 x34 x35 x36 x37 x38 x39 x40 x41 x42 x43 x44 x45 x46 x47 x48 x49 x50 x51 x52 x53 x54 x55 x56 x57 x58 x59 x60 x61 x62 x63 x64 x65 x66 x67 x68 x69 x70 x71 x72 x73 x74 x75 x76 x77 x78 x79 x80 x81 x82 x83 x84 x85 x86 x87 x88 x89 x90 x91 x92 x93 x94 x95 x96 x97 x98 x99 x100 x101:Vl}
  (h:TB w B g ga ca gb cb m n q rr cr L bs)(hi:i<m)(hr:r<m)
  (hQ:∀(T:Nat->Vl)(W:Wo),BH w W->Q .normal {tmps:=List.toArray ((.pointer (some ⟨g,0,none⟩))::x1::x2::x3::x4::(.int .i64 (r:Nat))::x6::(.int .i64 (i:Nat))::x8::(.int .i64 0)::x10::x11::x12::x13::x14::x15::x16::x17::x18::x19::x20::x21::x22::x23::x24::x25::x26::x27::x28::x29::x30::x31::x32::x33::x34::x35::x36::x37::x38::x39::x40::x41::x42::x43::x44::x45::x46::x47::x48::x49::x50::x51::x52::x53::x54::x55::x56::x57::x58::x59::x60::x61::x62::x63::x64::x65::x66::x67::x68::x69::x70::x71::x72::x73::x74::(T 75)::(T 76)::(T 77)::(T 78)::(T 79)::(T 80)::(T 81)::(T 82)::(T 83)::(T 84)::(T 85)::(T 86)::(T 87)::(T 88)::(T 89)::(T 90)::(T 91)::(T 92)::(T 93)::(T 94)::(T 95)::(T 96)::(.bool (decide (bs r<bs i)))::x98::x99::x100::x101::[]),defers:=[]} W) :
  Code.wp Tryz.prog (rgn Tryz.f156 15) Q {tmps:=List.toArray ((.pointer (some ⟨g,0,none⟩))::x1::x2::x3::x4::(.int .i64 (r:Nat))::x6::(.int .i64 (i:Nat))::x8::(.int .i64 0)::x10::x11::x12::x13::x14::x15::x16::x17::x18::x19::x20::x21::x22::x23::x24::x25::x26::x27::x28::x29::x30::x31::x32::x33::x34::x35::x36::x37::x38::x39::x40::x41::x42::x43::x44::x45::x46::x47::x48::x49::x50::x51::x52::x53::x54::x55::x56::x57::x58::x59::x60::x61::x62::x63::x64::x65::x66::x67::x68::x69::x70::x71::x72::x73::x74::x75::x76::x77::x78::x79::x80::x81::x82::x83::x84::x85::x86::x87::x88::x89::x90::x91::x92::x93::x94::x95::x96::x97::x98::x99::x100::x101::[]),defers:=[]} w:=by
 have HQ0:=hii hQ;clear hQ
 conv=>arg 2;whnf
 obtain⟨kk1,-⟩:=h.basAt hi;obtain⟨kk2,-⟩:=h.basAt hr;refine zae (wx:=w) [vf (.int .i64 0),vf (.bool false),vf (.bool false),vf (.int .i64 0),vf (.bool true),vf (.bool true),vf (.pointer (some ⟨g,0,none⟩)),vf (.pointer (some ⟨g,0,none⟩)),vf (.pointer (some ⟨g,3,none⟩)),vf (.slice (some ⟨gb,0,none⟩) m cb),vf (.int .i64 (i:Nat)),vf (.pointer (some ⟨gb,i,none⟩)),vf (.int .i64 (bs i:Nat)),vf (.pointer (some ⟨g,0,none⟩)),vf (.pointer (some ⟨g,0,none⟩)),vf (.pointer (some ⟨g,3,none⟩)),vf (.slice (some ⟨gb,0,none⟩) m cb),vf (.int .i64 (r:Nat)),vf (.pointer (some ⟨gb,r,none⟩)),vf (.int .i64 (bs r:Nat)),vf (.bool (decide (bs r<bs i))),vf (.bool (decide (bs r<bs i))),vf (.bool (decide (bs r<bs i)))] [75,76,77,78,79,80,81,82,83,84,85,86,87,88,89,90,91,92,93,94,95,96,97] br ⟨sV _,sV _,sV _,sV _,sV _,sV _,sV _,sV _,sV _,sV _,sV _,sV _,sV _,sV _,sV _,sV _,sV _,sV _,sV _,sV _,sV _,sV _,sV _,trivial⟩ ⟨?s0,?s1,?s2,?s3,?s4,?s5,?s6,?s7,?s8,?s9,?s10,?s11,?s12,?s13,?s14,?s15,?s16,?s17,?s18,?s19,?s20,?s21,?s22,trivial⟩ ?he
 case' s0|s1|s2|s3|s4|s5|s6|s7|s8|s9|s10|s11|s12|s13|s14|s15|s16|s17|s18|s19|s20|s21|s22=>
  rintro T W hb hA K hK
 case' s0=>
  simp only[sA]at hK|-
 case' s1=>
  simp only[sA,f0 T 75 hA]at hK|-
 case' s2=>
  simp only[sA,f0 T 76 hA]at hK|-
 case' s3=>
  simp only[sA,f0 T 77 hA]at hK|-
 case' s4=>
  simp only[sA,f0 T 78 hA,f1 T 77 hA]at hK|-
 case' s5=>
  simp only[sA,f0 T 79 hA,f1 T 77 hA]at hK|-
 case' s6|s10|s13|s17=>
  simp only[sA,f0 T 80 hA]at hK|-
 case' s7=>
  simp only[sA,f0 T 81 hA,f1 T 80 hA]at hK|-
 case' s8=>
  simp only[sA,f0 T 82 hA,f1 T 80 hA]at hK|-
 case' s11=>
  simp only[sA,f0 T 84 hA,f1 T 85 hA,f2 T 80 hA]at hK|-
 case' s14=>
  simp only[sA,f0 T 88 hA,f1 T 80 hA]at hK|-
 case' s15=>
  simp only[sA,f0 T 89 hA,f1 T 80 hA]at hK|-
 case' s18=>
  simp only[sA,f0 T 91 hA,f1 T 92 hA,f2 T 80 hA]at hK|-
 case' s20=>
  simp only[sA,f0 T 87 hA,f1 T 94 hA,f2 T 80 hA]at hK|-
 case' s21=>
  simp only[sA,f0 T 80 hA,f1 T 95 hA,f2 T 77 hA]at hK|-
 case' s22=>
  simp only[sA,f0 T 77 hA,f1 T 96 hA]at hK|-
 case' s9=>
  simp only[sA,f0 T 83 hA,f1 T 80 hA]at hK|-;have HK:=hii hK;clear hK hA;obtain⟨x0,x1,x2,x3,x4⟩:=(h.mono hb).box.n5
 case' s12=>
  simp only[sA,f0 T 86 hA,f1 T 80 hA]at hK|-;have HK:=hii hK;clear hK hA;have y9:=(hb.cell (p:=⟨gb,i,none⟩) (zag kk1)).trans kk1
 case' s16=>
  simp only[sA,f0 T 90 hA,f1 T 80 hA]at hK|-;have HK:=hii hK;clear hK hA;obtain⟨x0,x1,x2,x3,x4⟩:=(h.mono hb).box.n5
 case' s19=>
  simp only[sA,f0 T 93 hA,f1 T 80 hA]at hK|-;have HK:=hii hK;clear hK hA;have y9:=(hb.cell (p:=⟨gb,r,none⟩) (zag kk2)).trans kk2
 case s0|s1|s2|s3|s4|s5|s6|s7|s8|s10|s11|s13|s14|s15|s17|s18|s20|s21|s22=>
  have HK:=hii hK;clear hK hA;refine wO rfl ?_;go_simp;exact HK.out _ _ br (rfl)
 case s9|s12|s16|s19=>
  refine wO rfl ?_;go_simp;exact HK.out _ _ br (rfl)
 case he=>
  rintro T W hb hA;have f22:T 97=.bool (decide (bs r<bs i)):=hA.at 22 (by decide);simp only[sA,f22];exact HQ0.out T W hb
theorem zia{B g ga ca gb cb m n q:Nat}{rr cr:Nat->Nat}{L:Nat->Nat->Rat}{bs:Nat->Nat}(k:Nat)(w:Wo)(h:TB w B g ga ca gb cb m n q rr cr L bs)(hk:k<q)(hS:Hid (∀i,i<=m->∀j,j<q+1->Kb 1 (L i j))) :
  CP 156 #[.pointer (some ⟨g,0,none⟩),.int .i64 (k:Nat)] w λe w'=>(∃z:Int,e=.returned (.int .i64 z)/\Hid (zo3 k q L bs m z))/\BH w w':=by
 have hq2:q<=2000:=by have:=h.wq;have:=h.small;omega
 obtain⟨hm,hn⟩:=h.small;go_enter func156,ntmps156;go_upto_region 3 with fail;have hb:=bA w (.cells #[.bool false,.slice none 0 0,.bool false,.slice none 0 0] 32);have r6:Row (w.alloc (.cells #[.bool false,.slice none 0 0,.bool false,.slice none 0 0] 32)) w.heap.size 32 [.bool false,.slice none 0 0,.bool false,.slice none 0 0]:=heap_alloc_new _ _;obtain⟨g6,hg⟩:=exi (w.heap.size);have Hg6:Hid (w.heap.size=g6):=hii hg.symm;rw[<-hg]at r6|-;clear hg;generalize w.alloc (.cells #[.bool false,.slice none 0 0,.bool false,.slice none 0 0] 32)=w1 at*;have hbw:=hb;clear hb;obtain⟨x0,x1,x2,x3,x4⟩:=(h.mono hbw).box.n5;go_wp2_with fail;clear x0 x1 x2 x3 x4;go_loopw [5,15] (λs5 s15 wr=>∃(i:Nat)(z:Int)(ls:Rat)(J1:Bool)(ao1:OA)(n1 Y1:Nat)(K1:Bool)(ap1:OA)(m1 Z1:Nat),i<=m/\s15=.int .i64 (i:Nat)/\s5=.int .i64 z/\Hid (zdS k q L bs i z ls)/\Row wr g6 32 [.bool J1,.slice ao1 n1 Y1,.bool K1,.slice ap1 m1 Z1]/\Hid (0<=z->zad wr (qA J1 ao1 n1 Y1 K1 ap1 m1 Z1) ls/\Kb 2 ls)/\BH w wr) (λ_ s15 _=>m-(intOf s15).toNat)
 case atStart=>exact⟨0,-1,0,false,none,0,0,false,none,0,0,Nat.zero_le _,rfl,rfl,hii .start,r6,hii (λh=>absurd h (by decide)),hbw⟩
 case round=>
  clear hbw r6;obtain⟨i,z,ls,J1,ao1,n1,Y1,K1,ap1,m1,Z1,hi,rfl,rfl,HL,r6,HR,hbw⟩:=hrel
  by_cases hlt:i<m
  ·obtain⟨x0,x1,x2,x3,x4⟩:=(h.mono hbw).box.n5;have x5:=(h.mono hbw).out i (by omega);have hxi:(i:Int)<(m:Int)+1:=by omega
   have hxk:(k:Int)<(q:Int)+1:=by omega
   obtain⟨J2,ao2,n2,Y2,K2,ap2,m2,Z2,y0,y1,y2,y3,-,-,-,-,V2⟩:=(h.mono hbw).cells4 (i:=i) (j:=k) (by omega) (by omega);obtain⟨s,hs⟩:∃s,zaH (L i k).num=s:=⟨_,rfl⟩;have Hs:=hii hs;clear hs;go_wp2_with fail;go_fit (zbF _ (L i k) s wr Hs V2 (h.mono hbw).Env');rintro e w2⟨rfl,hb⟩;have hbw:=bu hbw hb;have r6:=r6.below hb;have HR:Hid (0<=z->zad w2 (qA J1 ao1 n1 Y1 K1 ap1 m1 Z1) ls/\Kb 2 ls):=hii λh0=>⟨(HR.out h0).1.mono hb,(HR.out h0).2⟩
   have V2:=V2.mono hb;clear hb x0 x1 x2 x3 x4 x5 y0 y1 y2 y3 hxi hxk V2
   by_cases hs0:s<=0
   ·have hnp:¬0<L i k:=λh0=>(zg4 _).1 (by rw[Hs.out];exact hs0) (zeF.1 h0)
    have HL2:=hii (HL.out.skip hnp);clear hnp;go_wp2;go_roundw
    case rel=>exact⟨i+1,z,ls,J1,ao1,n1,Y1,K1,ap1,m1,Z1,by omega,by go_num,rfl,HL2,r6,HR,hbw⟩
    case measure=>simp[intOf];omega
   ·have hp:0<L i k:=zeF.2 (by have:=(zg4 (L i k).num);rw[Hs.out]at this;omega);have Hp:=hii hp;have Hne:Hid ((L i k).num≠0):=hii (by have:=zeF.1 hp;omega);clear hp;have HKa:Hid (Kb 1 (L i q)):=hii (hS.out i (by omega) q (by omega));have HKb:Hid (Kb 1 (L i k)):=hii (hS.out i (by omega) k (by omega));have HDS:Hid (zlC (L i q) (L i k)):=hii (HKa.out.divS HKb.out (by decide));have HKq:Hid (Kb 2 (L i q / L i k)):=hii (HKa.out.div HKb.out Hne.out);obtain⟨rq,hrq⟩:∃rq,rq=L i q / L i k:=⟨_,rfl⟩;have Hrq:=hii hrq;have Hl6:=hii r6.lt;clear hrq;go_upto_region 7 with fail;refine lv7 (h.mono hbw) hlt hk Hne HDS Hrq ?_;rintro T w3 g8 J5 ao5 n5 Y5 K5 ap5 m5 Z5 hge r8 V5 hb;have r6:=r6.below hb;have HR:Hid (0<=z->zad w3 (qA J1 ao1 n1 Y1 K1 ap1 m1 Z1) ls/\Kb 2 ls):=hii λh0=>⟨(HR.out h0).1.mono hb,(HR.out h0).2⟩
    have hbw:=bu hbw hb;have H68:Hid (g8≠g6):=hii (by have:=Hl6.out;omega);clear hb hge HDS HKa HKb;have HZ:=HL.out;obtain⟨x0,x1,x2,x3,x4⟩:=(h.mono hbw).box.n5;rcases HZ with⟨rfl,-⟩|⟨r,rfl,hr,-,hls,-⟩
    ·have HL2:Hid (zdS k q L bs (i+1) (i:Int) rq):=hii (by rw[Hrq.out];exact HL.out.first Hp.out);clear HL;go_upto_region 16 with fail;refine zou r8 r6 ?_;rintro T w9 hR hk9;have hno:=r6.noU (λu hu=>by simp at hu;rcases hu with rfl|rfl|rfl|rfl<;>intro z e<;>cases e);have V5:=V5.keptU hk9 hno;have hbw:=hbw.trans (hk9.below (λb e=>by have:=Hg6.out;omega) hbw.size);clear hno hk9 r6 r8;go_wp2;go_roundw
     case rel=>exact⟨i+1,(i:Int),rq,J5,ao5,n5,Y5,K5,ap5,m5,Z5,by omega,by go_num,rfl,HL2,hR,hii (λ_=>⟨V5,by rw[Hrq.out];exact HKq.out⟩),hbw⟩
     case measure=>simp[intOf];omega
    ·obtain⟨HV1,HK1⟩:=HR.out (by omega);have HVV:=hii HV1;have HCR:Hid (CrS rq ls):=hii (by rw[Hrq.out];exact HKq.out.crS HK1 (by decide));have Hls:=hii hls;have HK1:=hii HK1;clear hls HV1;obtain⟨c,hc⟩:∃c,c=Rq.cmpQ rq ls:=⟨_,rfl⟩;have HCM:=hii (zj7 (.agg #[.bool J5,.slice ao5 n5 Y5,.bool K5,.slice ap5 m5 Z5]) (.agg #[.bool J1,.slice ao1 n1 Y1,.bool K1,.slice ap1 m1 Z1]) rq ls w3 V5 HVV.out HCR (h.mono hbw).Env');rw[<-hc]at HCM;have Hc:=hii hc;clear hc;obtain⟨f0,f1,f2,f3⟩:=r8.n4;obtain⟨k0,k1,k2,k3⟩:=r6.n4;go_wp2_with fail;go_fit (HCM.out);rintro e w4⟨rfl,hb⟩;have r6:=r6.below hb;have r8:=r8.below hb;have V5:=V5.mono hb;have HVV:=hii (HVV.out.mono hb);have hbw:=bu hbw hb;clear hb x0 x1 x2 x3 x4 f0 f1 f2 f3 k0 k1 k2 k3 HCM HR;have hrm:r<m:=by omega
     have hc3:0<c\/c<0\/c=0:=by omega
     have hc3:=hii hc3;go_upto_region 15 with fail;rcases hc3.out with hc|hc|hc
     ·refine zmd hc ?_;rintro T w5 hb;have r6:=r6.below hb;have HVV:=hii (HVV.out.mono hb);have hbw:=bu hbw hb;clear hb;have HL2:Hid (zdS k q L bs (i+1) (r:Int) ls):=hii (HL.out.worse rfl (.inl (by rw[<-Hrq.out];exact zms.1 (by rw[<-Hc.out];exact hc))));clear hc;clear HL;go_wp2;go_roundw
      case rel=>exact⟨i+1,(r:Int),ls,J1,ao1,n1,Y1,K1,ap1,m1,Z1,by omega,by go_num,rfl,HL2,r6,hii (λ_=>⟨HVV.out,HK1.out⟩),hbw⟩
      case measure=>simp[intOf];omega
     ·refine zme hc ?_;rintro T w5 hb;have r6:=r6.below hb;have r8:=r8.below hb;have V5:=V5.mono hb;have HVV:=hii (HVV.out.mono hb);have hbw:=bu hbw hb;clear hb;have HL2:Hid (zdS k q L bs (i+1) (i:Int) rq):=hii (by rw[Hrq.out];exact HL.out.better rfl Hp.out (.inl (by rw[<-Hrq.out];exact zmr.1 (by rw[<-Hc.out];exact hc))));clear HL hc;go_upto_region 16 with fail;refine zou r8 r6 ?_;rintro T w9 hR hk9;have hno:=r6.noU (λu hu=>by simp at hu;rcases hu with rfl|rfl|rfl|rfl<;>intro z e<;>cases e);have V5:=V5.keptU hk9 hno;have hbw:=hbw.trans (hk9.below (λb e=>by have:=Hg6.out;omega) hbw.size);clear hno hk9 r6 r8;go_wp2;go_roundw
      case rel=>exact⟨i+1,(i:Int),rq,J5,ao5,n5,Y5,K5,ap5,m5,Z5,by omega,by go_num,rfl,HL2,hR,hii (λ_=>⟨V5,by rw[Hrq.out];exact HKq.out⟩),hbw⟩
      case measure=>simp[intOf];omega
     ·have HEQ:Hid (rq=ls):=hii (zjC.1 (by rw[<-Hc.out];exact hc));subst hc;refine znF (h.mono hbw) hlt hrm ?_;rintro T w5 hb;have r6:=r6.below hb;have r8:=r8.below hb;have V5:=V5.mono hb;have HVV:=hii (HVV.out.mono hb);have hbw:=bu hbw hb;clear hb
      by_cases hbb:bs r<bs i
      ·have hb1:decide (bs r<bs i)=true:=decide_eq_true hbb;have HL2:Hid (zdS k q L bs (i+1) (r:Int) ls):=hii (HL.out.worse rfl (.inr ⟨by rw[<-Hrq.out];exact HEQ.out.symm,by omega⟩));clear HL;go_wp2;go_roundw
       case rel=>exact⟨i+1,(r:Int),ls,J1,ao1,n1,Y1,K1,ap1,m1,Z1,by omega,by go_num,rfl,HL2,r6,hii (λ_=>⟨HVV.out,HK1.out⟩),hbw⟩
       case measure=>simp[intOf];omega
      ·have hb1:decide (bs r<bs i)=false:=decide_eq_false hbb;have HL2:Hid (zdS k q L bs (i+1) (i:Int) rq):=hii (by rw[Hrq.out];exact HL.out.better rfl Hp.out (.inr ⟨by rw[<-Hrq.out];exact HEQ.out,by omega⟩));clear HL;go_upto_region 16 with fail;refine zou r8 r6 ?_;rintro T w9 hR hk9;have hno:=r6.noU (λu hu=>by simp at hu;rcases hu with rfl|rfl|rfl|rfl<;>intro z e<;>cases e);have V5:=V5.keptU hk9 hno;have hbw:=hbw.trans (hk9.below (λb e=>by have:=Hg6.out;omega) hbw.size);clear hno hk9 r6 r8;go_wp2;go_roundw
       case rel=>exact⟨i+1,(i:Int),rq,J5,ao5,n5,Y5,K5,ap5,m5,Z5,by omega,by go_num,rfl,HL2,hR,hii (λ_=>⟨V5,by rw[Hrq.out];exact HKq.out⟩),hbw⟩
       case measure=>simp[intOf];omega
  ·obtain rfl:i=m:=by omega
   have HZ:=hii HL.out.toZ;go_wp2;go_ret;exact⟨⟨z,rfl,HZ⟩,hbw⟩
end Go.Proofs.YtfgffkmddanjjaaGreatDoor
