/-
  The simplex method: the exchange of two variables: its regions, each over a frame of variables.
-/
import Derived.Test.YtfgffkmddanjjaaGreatDoorSc
set_option linter.unusedVariables false
set_option linter.unusedSimpArgs false
set_option maxRecDepth 100000
set_option maxHeartbeats 25600000
namespace Go.Proofs.YtfgffkmddanjjaaGreatDoor
open _root_.Go.Proofs.Tryz
open Go.RowKit
variable {Q:Exit->Act->Wo->Prop} {ca cb g ga gb j q:Nat} {bs cr rr:Nat->Nat} {L M:Nat->Nat->Rat} {x100 x101 x102 x103 x104 x105 x106 x107 x108 x109 x110 x111 x112 x113 x114 x115 x116 x117 x118 x119 x12 x120 x121 x122 x123 x124 x125 x126 x127 x128 x129 x13 x130 x131 x132 x133 x134 x135 x136 x137 x138 x139 x14 x140 x141 x142 x143 x144 x145 x146 x147 x15 x16 x17 x18 x19 x2 x20 x21 x22 x23 x24 x25 x26 x27 x28 x29 x3 x30 x31 x32 x33 x34 x35 x36 x37 x38 x39 x4 x40 x41 x42 x43 x44 x45 x46 x47 x48 x49 x5 x50 x51 x52 x53 x54 x55 x56 x57 x58 x59 x60 x61 x62 x63 x64 x65 x66 x67 x68 x69 x70 x71 x72 x73 x74 x75 x76 x77 x78 x79 x80 x81 x82 x83 x84 x85 x86 x87 x88 x89 x90 x91 x92 x93 x94 x95 x96 x97 x98 x99:Vl}
def zoT(m q i k:Nat)(L:Nat->Nat->Rat)(bs:Nat->Nat)(M:Nat->Nat->Rat)(cs:Nat->Nat):Prop :=
 (∀j,j<q+1->M i j=L i j / L i k)/\(∀t,t<=m->t≠i->∀j,j<q+1->M t j=L t j-L t k*M i j)/\cs=λt=>if t=i then k else bs t
def PA(i k:Nat)(L M:Nat->Nat->Rat)(j:Nat):Prop:=(∀c,c<j->M i c=L i c / L i k)/\(∀c,¬c<j->M i c=L i c)/\∀t,t≠i->M t=L t
def PVT(q i k:Nat)(L M:Nat->Nat->Rat)(t:Nat):Prop:=(∀c,c<q+1->M i c=L i c / L i k)/\(∀u,u<t->u≠i->∀c,c<q+1->M u c=L u c-L u k*(L i c / L i k))/\∀u,¬u<t->u≠i->M u=L u
def PC(k t i:Nat)(L M M':Nat->Nat->Rat)(j:Nat):Prop:=(∀u,u≠t->M' u=M u)/\(∀c,c<j->M' t c=L t c-L t k*M i c)/\∀c,¬c<j->M' t c=L t c
section
variable {m q i k t j : Nat} {L M M' : Nat → Nat → Rat} {bs : Nat → Nat}
theorem PA.start:PA i k L L 0:=⟨λc h=>by omega,λ_ _=>rfl,λ_ _=>rfl⟩
theorem PA.step(h:PA i k L M j):PA i k L (up M i j (L i j / L i k)) (j+1):=by
 obtain⟨h1,h2,h3⟩:=h;refine⟨λc hc=>?_,λc hc=>?_,λt ht=>?_⟩
 ·by_cases e:c=j
  ·rw[e,zmi]
  ·rw[zfE (.inr e),h1 c oM]
 ·rw[zfE (.inr oM),h2 c oM]
 ·funext c;rw[zfE (.inl ht),h3 t ht]
theorem PA.done(h:PA i k L M (q+1)):PVT q i k L M 0:=⟨h.1,λu hu=>by omega,λu _ hu=>h.2.2 u hu⟩
theorem PVT.self(h:PVT q i k L M t)(e:t=i):PVT q i k L M (t+1):=⟨h.1,λu hu hne=>h.2.1 u oM hne,λu hu hne=>h.2.2 u oM hne⟩
theorem PVT.zero(h:PVT q i k L M t)(e:t≠i)(h0:L t k=0):PVT q i k L M (t+1):=by
 refine⟨h.1,λu hu hne c hc=>?_,λu hu hne=>h.2.2 u oM hne⟩
 by_cases eu:u=t
 ·subst eu;rw[h.2.2 u oM hne,h0];grind
 ·exact h.2.1 u oM hne c hc
theorem PVT.row(h:PVT q i k L M t)(e:t≠i):M t=L t:=h.2.2 t oM e
theorem PC.start(h:PVT q i k L M t)(e:t≠i):PC k t i L M M 0:=⟨λ_ _=>rfl,λc hc=>by omega,λc _=>by rw[h.row e]⟩
theorem PC.zero(h:PC k t i L M M' j)(h0:M i j=0):PC k t i L M M' (j+1):=by
 refine⟨h.1,λc hc=>?_,λc hc=>h.2.2 c oM⟩
 by_cases e:c=j
 ·subst e;rw[h.2.2 c oM,h0];grind
 ·exact h.2.1 c oM
theorem PC.step(h:PC k t i L M M' j):PC k t i L M (up M' t j (L t j-L t k*M i j)) (j+1):=by
 refine⟨λu hu=>?_,λc hc=>?_,λc hc=>?_⟩
 ·funext c;rw[zfE (.inl hu),h.1 u hu]
 ·by_cases e:c=j
  ·rw[e,zmi]
  ·rw[zfE (.inr e),h.2.1 c oM]
 ·rw[zfE (.inr oM),h.2.2 c oM]
theorem PC.done(h:PVT q i k L M t)(e:t≠i)(g:PC k t i L M M' (q+1)):PVT q i k L M' (t+1):=by
 refine⟨λc hc=>by rw[g.1 i (λh=>e h.symm)];exact h.1 c hc,λu hu hne c hc=>?_,λu hu hne=>by rw[g.1 u oM];exact h.2.2 u oM hne⟩
 by_cases eu:u=t
 ·subst eu;rw[g.2.1 c hc,h.1 c hc]
 ·rw[g.1 u eu];exact h.2.1 u oM hne c hc
theorem PVT.piv(h:PVT q i k L M (m+1)):zoT m q i k L bs M (λt=>if t=i then k else bs t) :=
 ⟨h.1,λt ht hne j hj=>by rw[h.2.1 t oM hne j hj,h.1 j hj],rfl⟩
end
theorem pv4{B m n:Nat}{i k g6:Nat}{J1:Bool}{ao1:OA}{n1 Y1:Nat}{K1:Bool}{ap1:OA}{m1 Z1:Nat}{w:Wo}{x8 x9 x10 x11:Vl}
  (h:TB w B g ga ca gb cb m n q rr cr M bs)(him:i<=m)(hlt:j<q+1)(hM:M i j=L i j)(r6:Row w g6 32 [.bool J1,.slice ao1 n1 Y1,.bool K1,.slice ap1 m1 Z1])(V1:zad w (qA J1 ao1 n1 Y1 K1 ap1 m1 Z1) (L i k))(hne:Hid ((L i k).num≠0))(HDS:Hid (zlI (L i j) (L i k)))
  (hQ:∀(T:Nat->Vl)(W:Wo),TB W B g ga ca gb cb m n q rr cr (up M i j (L i j / L i k)) bs->zah (λb=>b=rr i) w W->Q .normal {tmps:=List.toArray ((.pointer (some ⟨g,0,none⟩))::(.int .i64 (i:Nat))::x2::x3::x4::x5::(.pointer (some ⟨g6,0,none⟩))::(.int .i64 (j:Nat))::x8::x9::x10::x11::x12::x13::x14::x15::x16::x17::x18::x19::x20::x21::x22::x23::x24::x25::x26::x27::x28::x29::x30::x31::x32::(T 33)::(T 34)::(T 35)::(T 36)::(T 37)::(T 38)::(T 39)::(T 40)::(T 41)::(T 42)::(T 43)::(T 44)::(T 45)::(T 46)::(T 47)::(T 48)::(T 49)::(T 50)::(T 51)::(T 52)::(T 53)::(T 54)::(T 55)::(T 56)::(T 57)::x58::x59::x60::x61::x62::x63::x64::x65::x66::x67::x68::x69::x70::x71::x72::x73::x74::x75::x76::x77::x78::x79::x80::x81::x82::x83::x84::x85::x86::x87::x88::x89::x90::x91::x92::x93::x94::x95::x96::x97::x98::x99::x100::x101::x102::x103::x104::x105::x106::x107::x108::x109::x110::x111::x112::x113::x114::x115::x116::x117::x118::x119::x120::x121::x122::x123::x124::x125::x126::x127::x128::x129::x130::x131::x132::x133::x134::x135::x136::x137::x138::x139::x140::x141::x142::x143::x144::x145::x146::x147::[]),defers:=[]} W) :
  Code.wp Tryz.prog (rgn Tryz.f157 4) Q {tmps:=List.toArray ((.pointer (some ⟨g,0,none⟩))::(.int .i64 (i:Nat))::x2::x3::x4::x5::(.pointer (some ⟨g6,0,none⟩))::(.int .i64 (j:Nat))::x8::x9::x10::x11::x12::x13::x14::x15::x16::x17::x18::x19::x20::x21::x22::x23::x24::x25::x26::x27::x28::x29::x30::x31::x32::x33::x34::x35::x36::x37::x38::x39::x40::x41::x42::x43::x44::x45::x46::x47::x48::x49::x50::x51::x52::x53::x54::x55::x56::x57::x58::x59::x60::x61::x62::x63::x64::x65::x66::x67::x68::x69::x70::x71::x72::x73::x74::x75::x76::x77::x78::x79::x80::x81::x82::x83::x84::x85::x86::x87::x88::x89::x90::x91::x92::x93::x94::x95::x96::x97::x98::x99::x100::x101::x102::x103::x104::x105::x106::x107::x108::x109::x110::x111::x112::x113::x114::x115::x116::x117::x118::x119::x120::x121::x122::x123::x124::x125::x126::x127::x128::x129::x130::x131::x132::x133::x134::x135::x136::x137::x138::x139::x140::x141::x142::x143::x144::x145::x146::x147::[]),defers:=[]} w:=by
 have HQ0:=hii hQ;clear hQ
 conv=>arg 2;whnf
 have hxi:(i:Int)<(m:Int)+1:=oM;have hxj:(j:Int)<(q:Int)+1:=oM;obtain⟨J2,ao2,n2,Y2,K2,ap2,m2,Z2,y0,y1,y2,y3,-,-,-,-,V2⟩:=h.cells4 (i:=i) (j:=j) him hlt;rw[hM]at V2;have z2:zft w (rr i) (j*4) (.bool J2) (.slice ao2 n2 Y2) (.bool K2) (.slice ap2 m2 Z2):=⟨y0,y1,y2,y3,trivial,trivial,trivial,trivial⟩;clear y0 y1 y2 y3 hM;refine zbd (wx:=w) (λb=>b=rr i) [vf (.pointer (some ⟨g,0,none⟩)),vf (.pointer (some ⟨g,0,none⟩)),vf (.pointer (some ⟨g,2,none⟩)),vf (.slice (some ⟨ga,0,none⟩) (m+1) ca),vf (.int .i64 (i:Nat)),vf (.pointer (some ⟨ga,i,none⟩)),vf (.slice (some ⟨rr i,0,none⟩) (q+1) (cr i)),vf (.int .i64 (j:Nat)),vf (.pointer (some ⟨g,0,none⟩)),vf (.pointer (some ⟨g,0,none⟩)),vf (.pointer (some ⟨g,0,none⟩)),vf (.pointer (some ⟨g,2,none⟩)),vf (.slice (some ⟨ga,0,none⟩) (m+1) ca),vf (.int .i64 (i:Nat)),vf (.pointer (some ⟨ga,i,none⟩)),vf (.slice (some ⟨rr i,0,none⟩) (q+1) (cr i)),vf (.int .i64 (j:Nat)),vf (.pointer (some ⟨rr i,j*4,none⟩)),vf (.agg #[.bool J2,.slice ao2 n2 Y2,.bool K2,.slice ap2 m2 Z2]),vf (.agg #[.bool J1,.slice ao1 n1 Y1,.bool K1,.slice ap1 m1 Z1]),(λW v=>∃a,v=.tuple #[a,.int .i64 0]/\RK (λb=>b=rr i) (L i j / L i k) W a),(RK (λb=>b=rr i) (L i j / L i k)),vf (.int .i64 0),(RK (λb=>b=rr i) (L i j / L i k)),vf (.pointer (some ⟨rr i,j*4,none⟩)),(λ_ _=>True)] [some 33,some 34,some 35,some 36,some 37,some 38,some 39,some 40,some 41,some 42,some 43,some 44,some 45,some 46,some 47,some 48,some 49,some 50,some 51,some 52,some 53,some 54,some 55,some 56,some 57,none] [33,34,35,36,37,38,39,40,41,42,43,44,45,46,47,48,49,50,51,52,53,54,55,56,57] 25 (λW=>TB W B g ga ca gb cb m n q rr cr M bs/\Row W g6 32 [.bool J1,.slice ao1 n1 Y1,.bool K1,.slice ap1 m1 Z1]/\zad W (qA J1 ao1 n1 Y1 K1 ap1 m1 Z1) (L i k)/\zad W (qA J2 ao2 n2 Y2 K2 ap2 m2 Z2) (L i j)/\zft W (rr i) (j*4) (.bool J2) (.slice ao2 n2 Y2) (.bool K2) (.slice ap2 m2 Z2)) (λW=>TB W B g ga ca gb cb m n q rr cr (up M i j (L i j / L i k)) bs) dM ⟨h.mono br.drew,r6.below br.drew,V1.mono br.drew,V2.mono br.drew,z2.mono br.drew⟩ (λW W' h hb=>⟨h.1.mono hb,h.2.1.below hb,h.2.2.1.mono hb,h.2.2.2.1.mono hb,h.2.2.2.2.mono hb⟩) (λW W' h hb=>h.mono hb) (zah.refl _) ⟨zab _ _,zab _ _,zab _ _,zab _ _,zab _ _,zab _ _,zab _ _,zab _ _,zab _ _,zab _ _,zab _ _,zab _ _,zab _ _,zab _ _,zab _ _,zab _ _,zab _ _,zab _ _,zab _ _,zab _ _,λW W' v ⟨a,e,h⟩ hk=>⟨a,e,RK.stay _ _ _ h hk⟩,RK.stay,zab _ _,RK.stay,zab _ _,(λ_ _ _ h _=>h),trivial⟩ ⟨tP,tP,tP,?s3,tP,tP,?s6,tP,tP,tP,tP,tP,?s12,tP,tP,?s15,tP,tP,?s18,?s19,?s20,?s21,?s22,?s23,?s24,?s25,trivial⟩ ?he
 case' s3|s6|s12|s15|s18|s19|s20|s21|s22|s23|s24|s25=>
  rintro T W hk hp hA K hK;simp only[yA,yB,yC,Region.binds]at hA;simp only[sA,hA]at hK|-
 case' s3|s6|s12|s15|s18|s19|s20=>
  have HK:=hii hK;clear hK hA
 case' s3|s12=>
  have hp:=hp (.inr dM);obtain⟨x0,x1,x2,x3,x4⟩:=hp.1.box.n5
 case' s6|s15=>
  have hp:=hp (.inr dM);have x5:=hp.1.o i him
 case' s18=>
  have hp:=hp (.inr dM);obtain⟨c0,c1,c2,c3,_,_,_,_⟩:=hp.2.2.2.2
 case' s19=>
  have hp:=hp (.inr dM);obtain⟨k0,k1,k2,k3⟩:=hp.2.1.n4
 case' s22=>
  have hp:=hp (.inr dM);have r20:=hA.1;have HK:=hii hK;clear hK hA;obtain⟨a6,e20,h6⟩:=r20;simp only[e20]at HK|-
 case s3|s6|s12|s15|s18|s19|s22=>
  exact cV
 case s20=>
  have hp:=hp (.inr dM);refine wO rfl ?_;go_simp;go_fit (zlH _ _ (L i j) (L i k) 0 W hp.2.2.2.1 hp.2.2.1 hne (hii (KQ.ok HDS.o)) hp.1.Env');rintro e w1⟨hr,hb1⟩;obtain⟨J6,ao6,n6,Y6,K6,ap6,m6,Z6,rfl,h1,h2⟩:=hr.got
  try dsimp only
  exact HK.o _ _ ⟨λ_=>hb1,λh=>absurd h dM,.of_below hb1⟩ (⟨_,rfl,(zad.mk' h1 h2).rk ((hp.1.mono hb1).noG him)⟩)
 case s21=>
  have hp:=hp (.inr dM);have r20:=hA.1;have HK:=hii hK;clear hK hA;obtain⟨a6,e20,h6⟩:=r20;simp only[e20]at HK|-;refine wO rfl ?_;go_simp;exact HK.o _ _ ⟨λ_=>br,λh=>absurd h dM,zah.refl _⟩ (h6)
 case s23=>
  have hp:=hp (.inr dM);have r21:((RK (λb=>b=rr i) (L i j / L i k)):FW) W (T 54):=hA.2.1;have r20:=hA.2.2.2.1;have HK:=hii hK;clear hK hA;obtain⟨J7,ao7,n7,Y7,K7,ap7,m7,Z7,e21⟩:=(RK.rat r21).parts;rw[e21]at r21;have H21:=RK.rat r21;clear r21;simp only[e21]at HK|-;refine wO rfl ?_;go_simp;go_fit (zg8 _ _ _ _ _ _ _ _ _ W);rintro e w1⟨rfl,hb1⟩
  try dsimp only
  exact HK.o _ _ ⟨λ_=>hb1,λh=>absurd h dM,.of_below hb1⟩ ((H21.mono hb1).rk ((hp.1.mono hb1).noG him))
 case s24=>
  have hp:=hp (.inr dM);have r20:=hA.2.2.2.2.2.2.2.2.2.2.2.2.2.2.2.2.2.2.2.2.2.2.1;have r21:=hA.2.2.2.2.2.2.2.2.2.2.2.2.2.2.2.2.2.2.2.2.2.2.2.1;have r23:=hA.2.2.2.2.2.2.2.2.2.2.2.2.2.2.2.2.2.2.2.2.2.2.2.2.2.1;have HK:=hii hK;clear hK hA;exact cV
 case s25=>
  have hp:=hp (.inl rfl);have r23:((RK (λb=>b=rr i) (L i j / L i k)):FW) W (T 56):=hA.2.1;have r20:((λW v=>∃a,v=.tuple #[a,.int .i64 0]/\RK (λb=>b=rr i) (L i j / L i k) W a):FW) W (T 53):=hA.2.2.2.2.2.2.2.2.2.2.2.2.2.2.2.2.2.2.2.2.2.2.2.1;have r21:((RK (λb=>b=rr i) (L i j / L i k)):FW) W (T 54):=hA.2.2.2.2.2.2.2.2.2.2.2.2.2.2.2.2.2.2.2.2.2.2.2.2.1;have HK:=hii hK;clear hK hA;obtain⟨J3,ao3,n3,Y3,K3,ap3,m3,Z3,e23⟩:=(RK.rat r23).parts;rw[e23]at r23;obtain⟨_,_,_,_,_,_,_,_,c0,c1,c2,c3,f0,f1,f2,f3,-⟩:=hp.1.cells4 (i:=i) (j:=j) him hlt;have Hput:=hii (hp.1.put him hlt (RK.rat r23)).1;clear r23;simp only[e23]at HK|-;refine wO rfl ?_;go_simp;exact HK.o undef _ ⟨λh=>absurd rfl h,λ_=>Hput.o,((((zah.refl W:zah (λb=>b=rr i) W W).setCell (p:=⟨rr i,j*4,none⟩) rfl _).setCell (p:=⟨rr i,j*4+1,none⟩) rfl _).setCell (p:=⟨rr i,j*4+2,none⟩) rfl _).setCell (p:=⟨rr i,j*4+3,none⟩) rfl _⟩ (trivial)
 case he=>
  rintro T W hk hR hA;simp only[sA];exact HQ0.o T W hR hk
theorem zpN{B m n:Nat}{t g9 g11:Nat}{f x y:Rat}{J2:Bool}{ao2:OA}{n2 Y2:Nat}{K2:Bool}{ap2:OA}{m2 Z2:Nat}{J3:Bool}{ao3:OA}{n3 Y3:Nat}{K3:Bool}{ap3:OA}{m3 Z3:Nat}{w:Wo}{x1 x6 x7:Vl}
  (h:TB w B g ga ca gb cb m n q rr cr M bs)(htm:t<=m)(hlj:j<q+1)(hM:M t j=y)(r9:Row w g9 32 [.bool J2,.slice ao2 n2 Y2,.bool K2,.slice ap2 m2 Z2])(r11:Row w g11 32 [.bool J3,.slice ao3 n3 Y3,.bool K3,.slice ap3 m3 Z3])(V2:zad w (qA J2 ao2 n2 Y2 K2 ap2 m2 Z2) f)(V3:zad w (qA J3 ao3 n3 Y3 K3 ap3 m3 Z3) x)(HMS:Hid (zeN f x))(HSS:Hid (zku y (f*x)))
  (hQ:∀(T:Nat->Vl)(W:Wo),TB W B g ga ca gb cb m n q rr cr (up M t j (y-f*x)) bs->zah (λb=>b=rr t) w W->Q .normal {tmps:=List.toArray ((.pointer (some ⟨g,0,none⟩))::x1::x2::x3::x4::x5::x6::x7::(.int .i64 (t:Nat))::(.pointer (some ⟨g9,0,none⟩))::(.int .i64 (j:Nat))::(.pointer (some ⟨g11,0,none⟩))::x12::x13::x14::x15::x16::x17::x18::x19::x20::x21::x22::x23::x24::x25::x26::x27::x28::x29::x30::x31::x32::x33::x34::x35::x36::x37::x38::x39::x40::x41::x42::x43::x44::x45::x46::x47::x48::x49::x50::x51::x52::x53::x54::x55::x56::x57::x58::x59::x60::x61::x62::x63::x64::x65::x66::x67::x68::x69::x70::x71::x72::x73::x74::x75::x76::x77::x78::x79::x80::x81::x82::x83::x84::x85::x86::x87::x88::x89::x90::x91::x92::x93::x94::x95::x96::x97::x98::x99::x100::x101::x102::x103::x104::x105::x106::x107::(T 108)::(T 109)::(T 110)::(T 111)::(T 112)::(T 113)::(T 114)::(T 115)::(T 116)::(T 117)::(T 118)::(T 119)::(T 120)::(T 121)::(T 122)::(T 123)::(T 124)::(T 125)::(T 126)::(T 127)::(T 128)::(T 129)::(T 130)::(T 131)::(T 132)::(T 133)::(T 134)::(T 135)::(T 136)::(T 137)::(T 138)::x139::x140::x141::x142::x143::x144::x145::x146::x147::[]),defers:=[]} W) :
  Code.wp Tryz.prog (rgn Tryz.f157 15) Q {tmps:=List.toArray ((.pointer (some ⟨g,0,none⟩))::x1::x2::x3::x4::x5::x6::x7::(.int .i64 (t:Nat))::(.pointer (some ⟨g9,0,none⟩))::(.int .i64 (j:Nat))::(.pointer (some ⟨g11,0,none⟩))::x12::x13::x14::x15::x16::x17::x18::x19::x20::x21::x22::x23::x24::x25::x26::x27::x28::x29::x30::x31::x32::x33::x34::x35::x36::x37::x38::x39::x40::x41::x42::x43::x44::x45::x46::x47::x48::x49::x50::x51::x52::x53::x54::x55::x56::x57::x58::x59::x60::x61::x62::x63::x64::x65::x66::x67::x68::x69::x70::x71::x72::x73::x74::x75::x76::x77::x78::x79::x80::x81::x82::x83::x84::x85::x86::x87::x88::x89::x90::x91::x92::x93::x94::x95::x96::x97::x98::x99::x100::x101::x102::x103::x104::x105::x106::x107::x108::x109::x110::x111::x112::x113::x114::x115::x116::x117::x118::x119::x120::x121::x122::x123::x124::x125::x126::x127::x128::x129::x130::x131::x132::x133::x134::x135::x136::x137::x138::x139::x140::x141::x142::x143::x144::x145::x146::x147::[]),defers:=[]} w:=by
 have HQ0:=hii hQ;clear hQ
 conv=>arg 2;whnf
 have hxt:(t:Int)<(m:Int)+1:=oM;have hxj:(j:Int)<(q:Int)+1:=oM;obtain⟨J4,ao4,n4,Y4,K4,ap4,m4,Z4,y0,y1,y2,y3,-,-,-,-,V4⟩:=h.cells4 (i:=t) (j:=j) htm hlj;rw[hM]at V4;have z4:zft w (rr t) (j*4) (.bool J4) (.slice ao4 n4 Y4) (.bool K4) (.slice ap4 m4 Z4):=⟨y0,y1,y2,y3,trivial,trivial,trivial,trivial⟩;clear y0 y1 y2 y3 hM;refine zbd (wx:=w) (λb=>b=rr t) [vf (.pointer (some ⟨g,0,none⟩)),vf (.pointer (some ⟨g,0,none⟩)),vf (.pointer (some ⟨g,2,none⟩)),vf (.slice (some ⟨ga,0,none⟩) (m+1) ca),vf (.int .i64 (t:Nat)),vf (.pointer (some ⟨ga,t,none⟩)),vf (.slice (some ⟨rr t,0,none⟩) (q+1) (cr t)),vf (.int .i64 (j:Nat)),vf (.pointer (some ⟨g,0,none⟩)),vf (.pointer (some ⟨g,0,none⟩)),vf (.pointer (some ⟨g,0,none⟩)),vf (.pointer (some ⟨g,2,none⟩)),vf (.slice (some ⟨ga,0,none⟩) (m+1) ca),vf (.int .i64 (t:Nat)),vf (.pointer (some ⟨ga,t,none⟩)),vf (.slice (some ⟨rr t,0,none⟩) (q+1) (cr t)),vf (.int .i64 (j:Nat)),vf (.pointer (some ⟨rr t,j*4,none⟩)),vf (.agg #[.bool J4,.slice ao4 n4 Y4,.bool K4,.slice ap4 m4 Z4]),vf (.pointer (some ⟨g,0,none⟩)),vf (.agg #[.bool J2,.slice ao2 n2 Y2,.bool K2,.slice ap2 m2 Z2]),vf (.agg #[.bool J3,.slice ao3 n3 Y3,.bool K3,.slice ap3 m3 Z3]),(λW v=>∃a,v=.tuple #[a,.int .i64 0]/\RK (λb=>b=rr t) (f*x) W a),(RK (λb=>b=rr t) (f*x)),vf (.int .i64 0),(RK (λb=>b=rr t) (f*x)),(λW v=>∃a,v=.tuple #[a,.int .i64 0]/\RK (λb=>b=rr t) (y-f*x) W a),(RK (λb=>b=rr t) (y-f*x)),vf (.int .i64 0),(RK (λb=>b=rr t) (y-f*x)),vf (.pointer (some ⟨rr t,j*4,none⟩)),(λ_ _=>True)] [some 108,some 109,some 110,some 111,some 112,some 113,some 114,some 115,some 116,some 117,some 118,some 119,some 120,some 121,some 122,some 123,some 124,some 125,some 126,some 127,some 128,some 129,some 130,some 131,some 132,some 133,some 134,some 135,some 136,some 137,some 138,none] [108,109,110,111,112,113,114,115,116,117,118,119,120,121,122,123,124,125,126,127,128,129,130,131,132,133,134,135,136,137,138] 31 (λW=>TB W B g ga ca gb cb m n q rr cr M bs/\Row W g9 32 [.bool J2,.slice ao2 n2 Y2,.bool K2,.slice ap2 m2 Z2]/\Row W g11 32 [.bool J3,.slice ao3 n3 Y3,.bool K3,.slice ap3 m3 Z3]/\zad W (qA J2 ao2 n2 Y2 K2 ap2 m2 Z2) f/\zad W (qA J3 ao3 n3 Y3 K3 ap3 m3 Z3) x/\zad W (qA J4 ao4 n4 Y4 K4 ap4 m4 Z4) y/\zft W (rr t) (j*4) (.bool J4) (.slice ao4 n4 Y4) (.bool K4) (.slice ap4 m4 Z4)) (λW=>TB W B g ga ca gb cb m n q rr cr (up M t j (y-f*x)) bs) dM ⟨h.mono br.drew,r9.below br.drew,r11.below br.drew,V2.mono br.drew,V3.mono br.drew,V4.mono br.drew,z4.mono br.drew⟩ (λW W' h hb=>⟨h.1.mono hb,h.2.1.below hb,h.2.2.1.below hb,h.2.2.2.1.mono hb,h.2.2.2.2.1.mono hb,h.2.2.2.2.2.1.mono hb,h.2.2.2.2.2.2.mono hb⟩) (λW W' h hb=>h.mono hb) (zah.refl _) ⟨zab _ _,zab _ _,zab _ _,zab _ _,zab _ _,zab _ _,zab _ _,zab _ _,zab _ _,zab _ _,zab _ _,zab _ _,zab _ _,zab _ _,zab _ _,zab _ _,zab _ _,zab _ _,zab _ _,zab _ _,zab _ _,zab _ _,λW W' v ⟨a,e,h⟩ hk=>⟨a,e,RK.stay _ _ _ h hk⟩,RK.stay,zab _ _,RK.stay,λW W' v ⟨a,e,h⟩ hk=>⟨a,e,RK.stay _ _ _ h hk⟩,RK.stay,zab _ _,RK.stay,zab _ _,(λ_ _ _ h _=>h),trivial⟩ ⟨tP,tP,tP,?s3,tP,tP,?s6,tP,tP,tP,tP,tP,?s12,tP,tP,?s15,tP,tP,?s18,tP,?s20,?s21,?s22,?s23,?s24,?s25,?s26,?s27,?s28,?s29,?s30,?s31,trivial⟩ ?he
 case' s3|s6|s12|s15|s18|s20|s21|s22|s23|s24|s25|s26|s27|s28|s29|s30|s31=>
  rintro T W hk hp hA K hK;simp only[yA,yB,yC,Region.binds]at hA;simp only[sA,hA]at hK|-
 case' s3|s6|s12|s15|s18|s20|s21|s22=>
  have HK:=hii hK;clear hK hA
 case' s3|s12=>
  have hp:=hp (.inr dM);obtain⟨x0,x1,x2,x3,x4⟩:=hp.1.box.n5
 case' s6|s15=>
  have hp:=hp (.inr dM);have x5:=hp.1.o t htm
 case' s18=>
  have hp:=hp (.inr dM);obtain⟨c0,c1,c2,c3,_,_,_,_⟩:=hp.2.2.2.2.2.2
 case' s20=>
  have hp:=hp (.inr dM);obtain⟨k0,k1,k2,k3⟩:=hp.2.1.n4
 case' s21=>
  have hp:=hp (.inr dM);obtain⟨k0,k1,k2,k3⟩:=hp.2.2.1.n4
 case' s23|s24=>
  have hp:=hp (.inr dM);have r22:=hA.1;have HK:=hii hK;clear hK hA;obtain⟨a6,e22,h6⟩:=r22;simp only[e22]at HK|-
 case' s27|s28=>
  have hp:=hp (.inr dM);have r26:=hA.1;have HK:=hii hK;clear hK hA;obtain⟨a6,e26,h6⟩:=r26;simp only[e26]at HK|-
 case' s25=>
  have hp:=hp (.inr dM);have r23:((RK (λb=>b=rr t) (f*x)):FW) W (T 131):=hA.2.1;have r22:=hA.2.2.2.1;have HK:=hii hK;clear hK hA;obtain⟨J7,ao7,n7,Y7,K7,ap7,m7,Z7,e23⟩:=(RK.rat r23).parts;rw[e23]at r23;have H21:=RK.rat r23;clear r23;simp only[e23]at HK|-
 case' s29=>
  have hp:=hp (.inr dM);have r27:((RK (λb=>b=rr t) (y-f*x)):FW) W (T 135):=hA.2.1;have r26:=hA.2.2.2.1;have HK:=hii hK;clear hK hA;obtain⟨J7,ao7,n7,Y7,K7,ap7,m7,Z7,e27⟩:=(RK.rat r27).parts;rw[e27]at r27;have H21:=RK.rat r27;clear r27;simp only[e27]at HK|-
 case s3|s6|s12|s15|s18|s20|s21|s24|s28=>
  exact cV
 case s23|s27=>
  refine wO rfl ?_;go_simp;exact HK.o _ _ ⟨λ_=>br,λh=>absurd h dM,zah.refl _⟩ (h6)
 case s25|s29=>
  refine wO rfl ?_;go_simp;go_fit (zg8 _ _ _ _ _ _ _ _ _ W);rintro e w1⟨rfl,hb1⟩
  try dsimp only
  exact HK.o _ _ ⟨λ_=>hb1,λh=>absurd h dM,.of_below hb1⟩ ((H21.mono hb1).rk ((hp.1.mono hb1).noG htm))
 case s22=>
  have hp:=hp (.inr dM);refine wO rfl ?_;go_simp;go_fit (znq _ _ f x 0 W hp.2.2.2.1 hp.2.2.2.2.1 (hii (KQ.ok HMS.o)) hp.1.Env');rintro e w1⟨hr,hb1⟩;obtain⟨J6,ao6,n6,Y6,K6,ap6,m6,Z6,rfl,h1,h2⟩:=hr.got
  try dsimp only
  exact HK.o _ _ ⟨λ_=>hb1,λh=>absurd h dM,.of_below hb1⟩ (⟨_,rfl,(zad.mk' h1 h2).rk ((hp.1.mono hb1).noG htm)⟩)
 case s26=>
  have hp:=hp (.inr dM);have r25:((RK (λb=>b=rr t) (f*x)):FW) W (T 133):=hA.2.1;have HK:=hii hK;clear hK hA;obtain⟨J8,ao8,n8,Y8,K8,ap8,m8,Z8,e25⟩:=(RK.rat r25).parts;rw[e25]at r25;have H25:=RK.rat r25;clear r25;simp only[e25]at HK|-;refine wO rfl ?_;go_simp;go_fit (zov _ _ y (f*x) 0 W hp.2.2.2.2.2.1 H25 (hii (KQ.ok HSS.o)) hp.1.Env');rintro e w1⟨hr,hb1⟩;obtain⟨J6,ao6,n6,Y6,K6,ap6,m6,Z6,rfl,h1,h2⟩:=hr.got
  try dsimp only
  exact HK.o _ _ ⟨λ_=>hb1,λh=>absurd h dM,.of_below hb1⟩ (⟨_,rfl,(zad.mk' h1 h2).rk ((hp.1.mono hb1).noG htm)⟩)
 case s30=>
  have hp:=hp (.inr dM);have r22:=hA.2.2.2.2.2.2.2.2.2.2.2.2.2.2.2.2.2.2.2.2.2.2.2.2.1;have r23:=hA.2.2.2.2.2.2.2.2.2.2.2.2.2.2.2.2.2.2.2.2.2.2.2.2.2.1;have r25:=hA.2.2.2.2.2.2.2.2.2.2.2.2.2.2.2.2.2.2.2.2.2.2.2.2.2.2.2.1;have r26:=hA.2.2.2.2.2.2.2.2.2.2.2.2.2.2.2.2.2.2.2.2.2.2.2.2.2.2.2.2.1;have r27:=hA.2.2.2.2.2.2.2.2.2.2.2.2.2.2.2.2.2.2.2.2.2.2.2.2.2.2.2.2.2.1;have r29:=hA.2.2.2.2.2.2.2.2.2.2.2.2.2.2.2.2.2.2.2.2.2.2.2.2.2.2.2.2.2.2.2.1;have HK:=hii hK;clear hK hA;exact cV
 case s31=>
  have hp:=hp (.inl rfl);have r29:((RK (λb=>b=rr t) (y-f*x)):FW) W (T 137):=hA.2.1;have r22:((λW v=>∃a,v=.tuple #[a,.int .i64 0]/\RK (λb=>b=rr t) (f*x) W a):FW) W (T 130):=hA.2.2.2.2.2.2.2.2.2.2.2.2.2.2.2.2.2.2.2.2.2.2.2.2.2.1;have r23:((RK (λb=>b=rr t) (f*x)):FW) W (T 131):=hA.2.2.2.2.2.2.2.2.2.2.2.2.2.2.2.2.2.2.2.2.2.2.2.2.2.2.1;have r25:((RK (λb=>b=rr t) (f*x)):FW) W (T 133):=hA.2.2.2.2.2.2.2.2.2.2.2.2.2.2.2.2.2.2.2.2.2.2.2.2.2.2.2.2.1;have r26:((λW v=>∃a,v=.tuple #[a,.int .i64 0]/\RK (λb=>b=rr t) (y-f*x) W a):FW) W (T 134):=hA.2.2.2.2.2.2.2.2.2.2.2.2.2.2.2.2.2.2.2.2.2.2.2.2.2.2.2.2.2.1;have r27:((RK (λb=>b=rr t) (y-f*x)):FW) W (T 135):=hA.2.2.2.2.2.2.2.2.2.2.2.2.2.2.2.2.2.2.2.2.2.2.2.2.2.2.2.2.2.2.1;have HK:=hii hK;clear hK hA;obtain⟨J9,ao9,n9,Y9,K9,ap9,m9,Z9,e29⟩:=(RK.rat r29).parts;rw[e29]at r29;obtain⟨_,_,_,_,_,_,_,_,c0,c1,c2,c3,f0,f1,f2,f3,-⟩:=hp.1.cells4 (i:=t) (j:=j) htm hlj;have Hput:=hii (hp.1.put htm hlj (RK.rat r29)).1;clear r29;simp only[e29]at HK|-;refine wO rfl ?_;go_simp;exact HK.o undef _ ⟨λh=>absurd rfl h,λ_=>Hput.o,((((zah.refl W:zah (λb=>b=rr t) W W).setCell (p:=⟨rr t,j*4,none⟩) rfl _).setCell (p:=⟨rr t,j*4+1,none⟩) rfl _).setCell (p:=⟨rr t,j*4+2,none⟩) rfl _).setCell (p:=⟨rr t,j*4+3,none⟩) rfl _⟩ (trivial)
 case he=>
  rintro T W hk hR hA;simp only[sA];exact HQ0.o T W hR hk
theorem zk9{B m n:Nat}(i k:Nat)(w:Wo)(h:TB w B g ga ca gb cb m n q rr cr L bs)(hi:i<m)(hk:k<q)(hS:Hid (∀i,i<=m->∀j,j<q+1->Kb 1 (L i j)))(hne:Hid ((L i k).num≠0)) :
  CP 157 #[.pointer (some ⟨g,0,none⟩),.int .i64 (i:Nat),.int .i64 (k:Nat)] w λe w'=>(e=.returned (.tuple #[])/\∃M cs,zoT m q i k L bs M cs/\TB w' B g ga ca gb cb m n q rr cr M cs)/\Below B w w':=by
 have hq2:q<=2000:=by have:=h.wq;have:=h.small;omega
 obtain⟨hm,hn⟩:=h.small;have hxi:(i:Int)<(m:Int)+1:=oM;have hxk:(k:Int)<(q:Int)+1:=oM;have hbw:=Below.refl B w;obtain⟨x0,x1,x2,x3,x4⟩:=h.box.n5;have x5:=h.o i oM;obtain⟨J1,ao1,n1,Y1,K1,ap1,m1,Z1,y0,y1,y2,y3,-,-,-,-,V1⟩:=h.cells4 (i:=i) (j:=k) oM oM;go_enter func157,ntmps157;go_upto_region 1 with fail;clear x0 x1 x2 x3 x4 x5 y0 y1 y2 y3;have hb:=bA w (.cells #[.bool J1,.slice ao1 n1 Y1,.bool K1,.slice ap1 m1 Z1] 32);have r6:Row (w.alloc (.cells #[.bool J1,.slice ao1 n1 Y1,.bool K1,.slice ap1 m1 Z1] 32)) w.heap.size 32 [.bool J1,.slice ao1 n1 Y1,.bool K1,.slice ap1 m1 Z1]:=heap_alloc_new _ _;obtain⟨g6,hg⟩:=exi (w.heap.size);have H6:Hid (∀t,t<=m->g6≠rr t):=hii λt ht=>by have:=(h.lowR ht).2;omega
 rw[<-hg]at r6|-;clear hg;generalize w.alloc (.cells #[.bool J1,.slice ao1 n1 Y1,.bool K1,.slice ap1 m1 Z1] 32)=w1 at*;have hbw:=Below.step hbw hb h.size;have V1:=V1.mono hb;have h:=h.mono hb;clear hb;have HPA:Hid (PA i k L L 0):=hii .start;obtain⟨x0,x1,x2,x3,x4⟩:=h.box.n5;have x5:=h.o i oM;go_wp2_with fail;clear x0 x1 x2 x3 x4 x5;go_loopw [30] (λs wr=>∃(j:Nat)(M:Nat->Nat->Rat),j<=q+1/\s=.int .i64 (j:Nat)/\Hid (PA i k L M j)/\TB wr B g ga ca gb cb m n q rr cr M bs/\Row wr g6 32 [.bool J1,.slice ao1 n1 Y1,.bool K1,.slice ap1 m1 Z1]/\zad wr (qA J1 ao1 n1 Y1 K1 ap1 m1 Z1) (L i k)/\Below B w wr) (λs _=>q+1-(intOf s).toNat)
 case atStart=>exact⟨0,L,Nat.zero_le _,rfl,HPA,h,r6,V1,hbw⟩
 case round=>
  clear h r6 V1 hbw HPA;obtain⟨j,M,hj,rfl,HPA,h,r6,V1,hbw⟩:=hrel
  by_cases hlt:j<q+1
  ·have HDS:Hid (zlI (L i j) (L i k)):=hii ((hS.o i oM j hlt).divS (hS.o i oM k oM) dM);have HVR:RK (λb=>b=rr i) (L i k) wr (.agg #[.bool J1,.slice ao1 n1 Y1,.bool K1,.slice ap1 m1 Z1]):=V1.rk (h.noG oM);have him:i<=m:=oM;have hxj:(j:Int)<(q:Int)+1:=oM;go_upto_region 4 with fail;refine pv4 (L:=L) (k:=k) h him hlt (HPA.o.2.1 j oM) r6 V1 hne HDS ?_;rintro T wf hR hkf;have HPA:=hii HPA.o.step;have hbw:Below B w wf:=hbw.trans (hkf.below (λb e=>by subst e;exact(h.lowR him).1) h.size);have r6:=r6.mono hkf (H6.o i him);have V1:=RK.at HVR hkf;clear h;have h:=hR;clear hR hkf HVR hxj;go_wp2;go_roundw
   case rel=>exact⟨j+1,_,oM,gM,HPA,h,r6,V1,hbw⟩
   case measure=>exact mM
  ·have hje:j=q+1:=oM;have HPB:Hid (PVT q i k L M 0):=hii (PA.done (by rw[<-hje];exact HPA.o));have hjd:decide ((j:Int)<(q:Int)+1)=false:=decide_eq_false oM;clear HPA r6 V1 hje hj hlt;obtain⟨x0,x1,x2,x3,x4⟩:=h.box.n5;obtain⟨wo,rfl⟩:=exi wr;go_wp2_with fail;clear x0 x1 x2 x3 x4;go_loopw [64] (λs wr=>∃(t:Nat)(M:Nat->Nat->Rat),t<=m+1/\s=.int .i64 (t:Nat)/\Hid (PVT q i k L M t)/\TB wr B g ga ca gb cb m n q rr cr M bs/\Below B w wr) (λs _=>m+1-(intOf s).toNat)
   case atStart=>exact⟨0,M,Nat.zero_le _,rfl,HPB,h,hbw⟩
   case round=>
    clear h hbw HPB;obtain⟨t,M,ht,rfl,HPB,h,hbw⟩:=hrel
    by_cases hlt:t<m+1
    ·have htm:t<=m:=oM;have hxt:(t:Int)<(m:Int)+1:=oM;obtain⟨x0,x1,x2,x3,x4⟩:=h.box.n5;have x5:=h.o t htm;obtain⟨J2,ao2,n2,Y2,K2,ap2,m2,Z2,y0,y1,y2,y3,-,-,-,-,V2⟩:=h.cells4 (i:=t) (j:=k) htm oM;go_upto_region 10 with fail;clear x0 x1 x2 x3 x4 x5 y0 y1 y2 y3;have hb:=bA wr (.cells #[.bool J2,.slice ao2 n2 Y2,.bool K2,.slice ap2 m2 Z2] 32);have r9:Row (wr.alloc (.cells #[.bool J2,.slice ao2 n2 Y2,.bool K2,.slice ap2 m2 Z2] 32)) wr.heap.size 32 [.bool J2,.slice ao2 n2 Y2,.bool K2,.slice ap2 m2 Z2]:=heap_alloc_new _ _;obtain⟨g9,hg⟩:=exi (wr.heap.size);have H9:Hid (g9≠rr t):=hii (by have:=(h.lowR htm).2;omega);rw[<-hg]at r9|-;clear hg;generalize wr.alloc (.cells #[.bool J2,.slice ao2 n2 Y2,.bool K2,.slice ap2 m2 Z2] 32)=w1 at*;have hbw:=Below.step' hbw hb h.size;have V2:=V2.mono hb;have h:=h.mono hb;clear hb
     by_cases hti:t=i
     ·have HPB2:=hii (HPB.o.self hti);have gt:((t:Int)==(i:Int))=true:=by simp[hti]
      clear HPB;go_wp2;go_roundw
      case rel=>exact⟨t+1,M,oM,gM,HPB2,h,hbw⟩
      case measure=>exact mM
     ·have Hti:=hii hti;have gt:((t:Int)==(i:Int))=false:=by simp;omega
      clear hti;rw[HPB.o.row Hti.o]at V2;obtain⟨s,hs⟩:∃s,zaB (L t k).num=s:=⟨_,rfl⟩;have Hs:=hii hs;clear hs;obtain⟨f0,f1,f2,f3⟩:=r9.n4;go_wp2_with fail;go_fit (zbH _ (L t k) s w1 Hs V2 h.Env');rintro e w2⟨rfl,hb⟩;have hbw:=Below.step' hbw hb h.size;have V2:=V2.mono hb;have h:=h.mono hb;have r9:=r9.below hb;clear hb f0 f1 f2 f3
      by_cases hs0:s=0
      ·subst hs0;have HPB2:=hii (HPB.o.zero Hti.o (Rat.num_eq_zero.1 ((zcT _).1 Hs.o)));clear HPB;go_wp2;go_roundw
       case rel=>exact⟨t+1,M,oM,gM,HPB2,h,hbw⟩
       case measure=>exact mM
      ·have g0:(s==0)=false:=by simpa using hs0
       have HPC:Hid (PC k t i L M M 0):=hii (.start HPB.o Hti.o);have HMi:Hid (∀c,c<q+1->Kb 2 (M i c)):=hii λc hc=>by
        rw[HPB.o.1 c hc];exact(hS.o i oM c hc).div (hS.o i oM k oM) hne.o
       clear hs0;obtain⟨x0,x1,x2,x3,x4⟩:=h.box.n5;have x5:=h.o i oM;obtain⟨wq,rfl⟩:=exi w2;go_wp2_with fail;clear x0 x1 x2 x3 x4 x5 g0 gt;go_loopw [93] (λs wr=>∃(j:Nat)(M':Nat->Nat->Rat),j<=q+1/\s=.int .i64 (j:Nat)/\Hid (PC k t i L M M' j)/\TB wr B g ga ca gb cb m n q rr cr M' bs/\Row wr g9 32 [.bool J2,.slice ao2 n2 Y2,.bool K2,.slice ap2 m2 Z2]/\zad wr (qA J2 ao2 n2 Y2 K2 ap2 m2 Z2) (L t k)/\Below B w wr) (λs _=>q+1-(intOf s).toNat)
       case atStart=>exact⟨0,M,Nat.zero_le _,rfl,HPC,h,r9,V2,hbw⟩
       case round=>
        clear h r9 V2 hbw HPC;obtain⟨j,M',hj,rfl,HPC,h,r9,V2,hbw⟩:=hrel
        by_cases hlj:j<q+1
        ·have hxj:(j:Int)<(q:Int)+1:=oM;have x6:=h.o i oM;obtain⟨J3,ao3,n3,Y3,K3,ap3,m3,Z3,y0,y1,y2,y3,-,-,-,-,V3⟩:=h.cells4 (i:=i) (j:=j) oM hlj;rw[HPC.o.1 i (λe=>Hti.o e.symm)]at V3;go_upto_region 14 with fail;clear x6 y0 y1 y2 y3;have hb:=bA wr (.cells #[.bool J3,.slice ao3 n3 Y3,.bool K3,.slice ap3 m3 Z3] 32);have r11:Row (wr.alloc (.cells #[.bool J3,.slice ao3 n3 Y3,.bool K3,.slice ap3 m3 Z3] 32)) wr.heap.size 32 [.bool J3,.slice ao3 n3 Y3,.bool K3,.slice ap3 m3 Z3]:=heap_alloc_new _ _;obtain⟨g11,hg⟩:=exi (wr.heap.size);rw[<-hg]at r11|-;clear hg;generalize wr.alloc (.cells #[.bool J3,.slice ao3 n3 Y3,.bool K3,.slice ap3 m3 Z3] 32)=w3 at*;have hbw:=Below.step' hbw hb h.size;have V2:=V2.mono hb;have V3:=V3.mono hb;have r9:=r9.below hb;have h:=h.mono hb;clear hb;obtain⟨sx,hsx⟩:∃s,zaB (M i j).num=s:=⟨_,rfl⟩;have Hsx:=hii hsx;clear hsx;obtain⟨f0,f1,f2,f3⟩:=r11.n4;go_wp2_with fail;go_fit (zbH _ (M i j) sx w3 Hsx V3 h.Env');rintro e w4⟨rfl,hb⟩;have hbw:=Below.step' hbw hb h.size;have V2:=V2.mono hb;have V3:=V3.mono hb;have r9:=r9.below hb;have r11:=r11.below hb;have h:=h.mono hb;clear hb f0 f1 f2 f3
         by_cases hx0:sx=0
         ·subst hx0;have HPC2:=hii (HPC.o.zero (Rat.num_eq_zero.1 ((zcT _).1 Hsx.o)));clear HPC;go_wp2;go_roundw
          case rel=>exact⟨j+1,M',oM,gM,HPC2,h,r9,V2,hbw⟩
          case measure=>exact mM
         ·have gx:(sx != 0)=true:=by simpa using hx0
          have HMS:Hid (zeN (L t k) (M i j)):=hii ((hS.o t htm k oM).mulS (HMi.o j hlj) dM);have HSS:Hid (zku (L t j) (L t k*M i j)):=hii ((hS.o t htm j hlj).subS ((hS.o t htm k oM).mul (HMi.o j hlj)) dM);clear hx0;have HVR:RK (λb=>b=rr t) (L t k) w4 (.agg #[.bool J2,.slice ao2 n2 Y2,.bool K2,.slice ap2 m2 Z2]):=V2.rk (h.noG htm);obtain⟨x0,x1,x2,x3,x4⟩:=h.box.n5;go_upto_region 15 with fail;clear x0 x1 x2 x3 x4;refine zpN (f:=L t k) (x:=M i j) (y:=L t j) h htm hlj (HPC.o.2.2 j oM) r9 r11 V2 V3 HMS HSS ?_;rintro T wf hR hkf;have HPC:=hii HPC.o.step;have hbw:Below B w wf:=hbw.trans (hkf.below (λb e=>by subst e;exact(h.lowR htm).1) h.size);have r9:=r9.mono hkf H9.o;have V2:=RK.at HVR hkf;clear h;have h:=hR;clear hR hkf V3 HVR r11 gx;go_wp2;go_roundw
          case rel=>exact⟨j+1,_,oM,gM,HPC,h,r9,V2,hbw⟩
          case measure=>exact mM
        ·have hje:j=q+1:=oM;have HPB2:Hid (PVT q i k L M' (t+1)):=hii (PC.done HPB.o Hti.o (by rw[<-hje];exact HPC.o));have hjd2:decide ((j:Int)<(q:Int)+1)=false:=decide_eq_false oM;clear HPB HPC hje hj hlj;go_wp2;go_roundw
         case rel=>exact⟨t+1,M',oM,gM,HPB2,h,hbw⟩
         case measure=>exact mM
    ·have hte:t=m+1:=oM;have HPV:Hid (zoT m q i k L bs M λt=>if t=i then k else bs t):=hii (PVT.piv (by rw[<-hte];exact HPB.o));have htd:decide ((t:Int)<(m:Int)+1)=false:=decide_eq_false oM;clear hte ht hlt;obtain⟨x0,x1,x2,x3,x4⟩:=h.box.n5;obtain⟨b0,b1⟩:=h.basAt hi;have hs:=h.bset hi k;have Hs:=hii hs;clear hs HPB;go_wp2;go_end0;exact⟨⟨rfl,M,_,HPV.o,Hs.o.1⟩,hbw.trans (Hs.o.2.below (λb e=>by subst e;exact h.lowB.1) h.size)⟩
end Go.Proofs.YtfgffkmddanjjaaGreatDoor
