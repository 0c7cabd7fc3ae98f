/-
  The simplex method: Solve: its regions, each over a frame of variables.
-/
import Derived.Test.YtfgffkmddanjjaaGreatDoorSxD
set_option linter.unusedVariables false
set_option linter.unusedSimpArgs false
set_option maxRecDepth 100000
set_option maxHeartbeats 25600000
namespace Go.Proofs.YtfgffkmddanjjaaGreatDoor
open Go.RowKit
def FK (G:Nat->Prop) (l:List Qo) (n:Nat) (W:World) (v:Value):Prop:=∃ ao cap,v=.slice ao n cap/\∀ W',zaf G W W'->UQ W' ao l
theorem FK.stay {G:Nat->Prop} {l:List Qo} {n:Nat}:zdB G (FK G l n):=λ W W' v ⟨ao,cap,e,h⟩ hk => ⟨ao,cap,e,λ W2 hk2 => h W2 (hk.trans hk2)⟩
theorem zog {Q:Exit->Act->World->Prop} {B g ga ca gb cb m n q:Nat} {rr cr:Nat->Nat} {L:Nat->Nat->Rat} {bs:Nat->Nat} {gx i bi:Nat} {l:List Qo} {w:World} {x0 x1 x2 x3 x4 x6 x7 x9 x12 x13 x14 x15 x16 x17 x18 x19 x20 x21 x22 x23 x24 x25 x26 x27 x28 x29 x30 x31 x32 x33 x34 x35 x36 x37 x38 x39 x40 x41 x42 x43 x44 x45 x46 x47 x48 x49 x50 x51 x52 x53 x54 x55 x56 x57 x58 x59 x60 x61 x62 x63 x64 x65 x66 x67 x68 x69 x70 x71 x72 x73 x74 x75 x76 x77 x78 x79 x80 x81 x82 x83 x84 x85 x86 x87 x88 x89 x90 x91 x92 x93 x94 x95 x96 x97 x98 x99 x100 x101:Value}
  (h:TB w B g ga ca gb cb m n q rr cr L bs) (hi:i < m) (hl:l.length=q) (hbq:bi < q) (hM:MQ w gx l)
  (hQ:∀ (T:Nat->Value) (W:World),MQ W gx (l.set bi (some (L i q)))->zaf (λ b => b=gx) w W->Q .normal { tmps:=List.toArray (x0::x1::x2::x3::x4::(.pointer (some ⟨g,0,none⟩))::x6::x7::(.slice (some ⟨gx,0,none⟩) q q)::x9::(.int .i64 (i:Nat))::(.int .i64 (bi:Nat))::x12::x13::x14::x15::x16::x17::x18::x19::x20::x21::x22::x23::x24::x25::x26::x27::x28::x29::x30::x31::x32::x33::x34::x35::x36::x37::x38::x39::x40::x41::x42::x43::x44::x45::x46::x47::x48::x49::x50::x51::x52::x53::x54::x55::(T 56)::(T 57)::(T 58)::(T 59)::(T 60)::(T 61)::(T 62)::(T 63)::(T 64)::(T 65)::(T 66)::(T 67)::(T 68)::(T 69)::x70::x71::x72::x73::x74::x75::x76::x77::x78::x79::x80::x81::x82::x83::x84::x85::x86::x87::x88::x89::x90::x91::x92::x93::x94::x95::x96::x97::x98::x99::x100::x101::[]),defers:=[] } W) :
  Code.wp Tryz.prog (rgn Tryz.f66 19) Q { tmps:=List.toArray (x0::x1::x2::x3::x4::(.pointer (some ⟨g,0,none⟩))::x6::x7::(.slice (some ⟨gx,0,none⟩) q q)::x9::(.int .i64 (i:Nat))::(.int .i64 (bi:Nat))::x12::x13::x14::x15::x16::x17::x18::x19::x20::x21::x22::x23::x24::x25::x26::x27::x28::x29::x30::x31::x32::x33::x34::x35::x36::x37::x38::x39::x40::x41::x42::x43::x44::x45::x46::x47::x48::x49::x50::x51::x52::x53::x54::x55::x56::x57::x58::x59::x60::x61::x62::x63::x64::x65::x66::x67::x68::x69::x70::x71::x72::x73::x74::x75::x76::x77::x78::x79::x80::x81::x82::x83::x84::x85::x86::x87::x88::x89::x90::x91::x92::x93::x94::x95::x96::x97::x98::x99::x100::x101::[]),defers:=[] } w:=by
 have HQ0:=hii hQ;clear hQ
 conv => arg 2; whnf
 have hxi:(i:Int) < (m:Int) + 1:=by omega
 have hxq:(q:Int) < (q:Int) + 1:=by omega
 have hxb:(bi:Int) < (q:Int):=by omega
 have him:i<=m:=by omega
 obtain ⟨hm,hn⟩:=h.small;have Hq:=hii h.wq;obtain ⟨J3,ao3,n3,Y3,K3,ap3,m3,Z3,y0,y1,y2,y3,-,-,-,-,V3⟩:=h.cells4 (i:=i) (j:=q) him (by omega);have z3:zeP w (rr i) (q * 4) (.bool J3) (.slice ao3 n3 Y3) (.bool K3) (.slice ap3 m3 Z3):=⟨y0,y1,y2,y3,trivial,trivial,trivial,trivial⟩;clear y0 y1 y2 y3;have hbi:bi < l.length:=by omega
 refine za2 (wx:=w) (λ b => b=gx) [vf (.slice (some ⟨gx,0,none⟩) q q),vf (.int .i64 (bi:Nat)),vf (.pointer (some ⟨g,0,none⟩)),vf (.pointer (some ⟨g,0,none⟩)),vf (.pointer (some ⟨g,2,none⟩)),vf (.slice (some ⟨ga,0,none⟩) (m + 1) ca),vf (.int .i64 (i:Nat)),vf (.pointer (some ⟨ga,i,none⟩)),vf (.slice (some ⟨rr i,0,none⟩) (q + 1) (cr i)),vf (.pointer (some ⟨g,0,none⟩)),vf (.int .i64 (q:Nat)),vf (.pointer (some ⟨rr i,q * 4,none⟩)),vf (.agg #[.bool J3,.slice ao3 n3 Y3,.bool K3,.slice ap3 m3 Z3]),vf (.pointer (some ⟨gx,bi * 4,none⟩)),(λ _ _ => True)] [some 56,some 57,some 58,some 59,some 60,some 61,some 62,some 63,some 64,some 65,some 66,some 67,some 68,some 69,none] [56,57,58,59,60,61,62,63,64,65,66,67,68,69] 14 (λ W => TB W B g ga ca gb cb m n q rr cr L bs/\MQ W gx l/\zac W (qA J3 ao3 n3 Y3 K3 ap3 m3 Z3) (L i q)/\zeP W (rr i) (q * 4) (.bool J3) (.slice ao3 n3 Y3) (.bool K3) (.slice ap3 m3 Z3)) (λ W => MQ W gx (l.set bi (some (L i q)))) (by decide) (by kernel_rfl) (by kernel_rfl) (by kernel_rfl) (by kernel_rfl) (of_decide_eq_true (by kernel_rfl)) ⟨h.mono br.drew,hM.mono br.drew,V3.mono br.drew,z3.mono br.drew⟩ (λ W W' h hb => ⟨h.1.mono hb,h.2.1.mono hb,h.2.2.1.mono hb,h.2.2.2.mono hb⟩) (λ W W' h hb => h.mono hb) (zaf.refl _) ⟨zaa _ _,zaa _ _,zaa _ _,zaa _ _,zaa _ _,zaa _ _,zaa _ _,zaa _ _,zaa _ _,zaa _ _,zaa _ _,zaa _ _,zaa _ _,zaa _ _,(λ _ _ _ h _ => h),trivial⟩ ⟨?s0,?s1,?s2,?s3,?s4,?s5,?s6,?s7,?s8,?s9,?s10,?s11,?s12,?s13,?s14,trivial⟩ ?he
 case' s0 | s1 | s2 | s3 | s4 | s5 | s6 | s7 | s8 | s9 | s10 | s11 | s12 | s13 | s14 =>
  rintro T W hk hp hA K hK
 case' s0 | s1 | s2 | s6 | s9 =>
  have hp:=hp (.inr (by decide));simp only [sA] at hK |-
 case' s3 =>
  have hp:=hp (.inr (by decide));have e2:T 58=_:=hA.1;simp only [sA,e2] at hK |-
 case' s4 =>
  have hp:=hp (.inr (by decide));have e3:T 59=_:=hA.1;simp only [sA,e3] at hK |-
 case' s7 =>
  have hp:=hp (.inr (by decide));have e5:T 61=_:=hA.1;have e6:T 62=_:=hA.2.1;simp only [sA,e5,e6] at hK |-
 case' s11 =>
  have hp:=hp (.inr (by decide));have e8:T 64=_:=hA.1;have e10:T 66=_:=hA.2.1;simp only [sA,e8,e10] at hK |-
 case' s13 =>
  have hp:=hp (.inr (by decide));have e0:T 56=_:=hA.1;have e1:T 57=_:=hA.2.1;have e2:T 58=_:=hA.2.2.2.2.1;have e3:T 59=_:=hA.2.2.2.2.2.1;have e4:T 60=_:=hA.2.2.2.2.2.2.1;have e5:T 61=_:=hA.2.2.2.2.2.2.2.1;have e6:T 62=_:=hA.2.2.2.2.2.2.2.2.1;have e7:T 63=_:=hA.2.2.2.2.2.2.2.2.2.1;have e8:T 64=_:=hA.2.2.2.2.2.2.2.2.2.2.1;have e9:T 65=_:=hA.2.2.2.2.2.2.2.2.2.2.2.1;have e10:T 66=_:=hA.2.2.2.2.2.2.2.2.2.2.2.2.1;have e11:T 67=_:=hA.2.2.2.2.2.2.2.2.2.2.2.2.2.1;have e12:T 68=_:=hA.2.2.2.2.2.2.2.2.2.2.2.2.2.2.1;simp only [sA,e0,e1,e2,e3,e4,e5,e6,e7,e8,e9,e10,e11,e12] at hK |-
 case' s5 =>
  have hp:=hp (.inr (by decide));have e4:T 60=_:=hA.1;simp only [sA,e4] at hK |-;have HK:=hii hK;clear hK hA;obtain ⟨x0,x1,x2,x3,x4⟩:=hp.1.box.n5
 case' s8 =>
  have hp:=hp (.inr (by decide));have e7:T 63=_:=hA.1;simp only [sA,e7] at hK |-;have HK:=hii hK;clear hK hA;have x5:=hp.1.out i him
 case' s12 =>
  have hp:=hp (.inr (by decide));have e11:T 67=_:=hA.1;simp only [sA,e11] at hK |-;have HK:=hii hK;clear hK hA;obtain ⟨f0,f1,f2,f3,_,_,_,_⟩:=hp.2.2.2
 case s0 | s1 | s2 | s3 | s4 | s6 | s7 | s9 | s11 | s13 =>
  have HK:=hii hK;clear hK hA;refine wO rfl (by rfl) ?_;go_simp;exact HK.out _ _ ⟨λ _ => br,λ h => absurd h (by decide),zaf.refl _⟩ (rfl)
 case s5 | s8 | s12 =>
  refine wO rfl (by rfl) ?_;go_simp;exact HK.out _ _ ⟨λ _ => br,λ h => absurd h (by decide),zaf.refl _⟩ (rfl)
 case s10 =>
  have hp:=hp (.inr (by decide));have e9:T 65=_:=hA.1;simp only [sA,e9] at hK |-;have HK:=hii hK;clear hK hA;refine wO rfl (by rfl) ?_;go_simp;go_fit (zcs g ga ca gb cb m n q Hq.out hm hn W hp.1.box);rintro e w1 ⟨rfl,hb1⟩
  try dsimp only
  exact HK.out _ _ ⟨λ _ => hb1,λ h => absurd h (by decide),.of_below hb1⟩ (rfl)
 case s14 =>
  have hp:=hp (.inl rfl);have e13:T 69=_:=hA.1;have e12:T 68=_:=hA.2.1;have e10:T 66=_:=hA.2.2.1;have e0:T 56=_:=hA.2.2.2.1;have e1:T 57=_:=hA.2.2.2.2.1;have e2:T 58=_:=hA.2.2.2.2.2.1;have e3:T 59=_:=hA.2.2.2.2.2.2.1;have e4:T 60=_:=hA.2.2.2.2.2.2.2.1;have e5:T 61=_:=hA.2.2.2.2.2.2.2.2.1;have e6:T 62=_:=hA.2.2.2.2.2.2.2.2.2.1;have e7:T 63=_:=hA.2.2.2.2.2.2.2.2.2.2.1;have e8:T 64=_:=hA.2.2.2.2.2.2.2.2.2.2.2.1;have e9:T 65=_:=hA.2.2.2.2.2.2.2.2.2.2.2.2.1;have e11:T 67=_:=hA.2.2.2.2.2.2.2.2.2.2.2.2.2.2.1;simp only [sA,e13,e12,e10,e0,e1,e2,e3,e4,e5,e6,e7,e8,e9,e11] at hK |-;have HK:=hii hK;clear hK hA;obtain ⟨_,_,_,_,_,_,_,_,c0,c1,c2,c3,f0,f1,f2,f3,-⟩:=hp.2.1.four hbi;have Hput:=hii (hp.2.1.put (o:=some (L i q)) hbi hp.2.2.1).1;refine wO rfl (by rfl) ?_;go_simp;exact HK.out undef _ ⟨λ h => absurd rfl h,λ _ => Hput.out,((((zaf.refl W:zaf (λ b => b=gx) W W).setCell (p:=⟨gx,bi * 4,none⟩) rfl _).setCell (p:=⟨gx,bi * 4 + 1,none⟩) rfl _).setCell (p:=⟨gx,bi * 4 + 2,none⟩) rfl _).setCell (p:=⟨gx,bi * 4 + 3,none⟩) rfl _⟩ (trivial)
 case he =>
  rintro T W hk hR hA;simp only [sA];exact HQ0.out T W hR hk
theorem zof {Q:Exit->Act->World->Prop} {B g ga ca gb cb m n q:Nat} {rr cr:Nat->Nat} {L:Nat->Nat->Rat} {bs:Nat->Nat} {w:World} {x0 x1 x2 x3 x4 x6 x7 x8 x9 x10 x11 x12 x13 x14 x15 x16 x17 x18 x19 x20 x21 x22 x23 x24 x25 x26 x27 x28 x29 x30 x31 x32 x33 x34 x35 x36 x37 x38 x39 x40 x41 x42 x43 x44 x45 x46 x47 x48 x49 x50 x51 x52 x53 x54 x55 x56 x57 x58 x59 x60 x61 x62 x63 x64 x65 x66 x67 x68 x69 x70 x71 x72 x73 x74 x75 x76 x77 x78 x79 x80 x81 x82 x83 x84 x85 x86 x87 x88 x89 x90 x91 x92 x93 x94 x95 x96 x97 x98 x99 x100 x101:Value}
  (h:TB w B g ga ca gb cb m n q rr cr L bs)
  (hQ:∀ (T:Nat->Value) (W:World),BH w W->Q .normal { tmps:=List.toArray (x0::x1::x2::x3::x4::(.pointer (some ⟨g,0,none⟩))::x6::x7::x8::x9::x10::x11::(.slice (some ⟨rr m,0,none⟩) (q + 1) (cr m))::x13::x14::x15::x16::x17::x18::x19::x20::x21::x22::x23::x24::x25::x26::x27::x28::x29::x30::x31::x32::x33::x34::x35::x36::x37::x38::x39::x40::x41::x42::x43::x44::x45::x46::x47::x48::x49::x50::x51::x52::x53::x54::x55::x56::x57::x58::x59::x60::x61::x62::x63::x64::x65::x66::x67::x68::x69::x70::(T 71)::(T 72)::(T 73)::(T 74)::(T 75)::(T 76)::(T 77)::(T 78)::(T 79)::(T 80)::x81::x82::x83::x84::x85::x86::x87::x88::x89::x90::x91::x92::x93::x94::x95::x96::x97::x98::x99::x100::x101::[]),defers:=[] } W) :
  Code.wp Tryz.prog (rgn Tryz.f66 21) Q { tmps:=List.toArray (x0::x1::x2::x3::x4::(.pointer (some ⟨g,0,none⟩))::x6::x7::x8::x9::x10::x11::x12::x13::x14::x15::x16::x17::x18::x19::x20::x21::x22::x23::x24::x25::x26::x27::x28::x29::x30::x31::x32::x33::x34::x35::x36::x37::x38::x39::x40::x41::x42::x43::x44::x45::x46::x47::x48::x49::x50::x51::x52::x53::x54::x55::x56::x57::x58::x59::x60::x61::x62::x63::x64::x65::x66::x67::x68::x69::x70::x71::x72::x73::x74::x75::x76::x77::x78::x79::x80::x81::x82::x83::x84::x85::x86::x87::x88::x89::x90::x91::x92::x93::x94::x95::x96::x97::x98::x99::x100::x101::[]),defers:=[] } w:=by
 have HQ0:=hii hQ;clear hQ
 conv => arg 2; whnf
 have hxm:(m:Int) < (m:Int) + 1:=by omega
 refine zae (wx:=w) [vf (.pointer (some ⟨g,0,none⟩)),vf (.pointer (some ⟨g,0,none⟩)),vf (.pointer (some ⟨g,2,none⟩)),vf (.slice (some ⟨ga,0,none⟩) (m + 1) ca),vf (.pointer (some ⟨g,0,none⟩)),vf (.pointer (some ⟨g,0,none⟩)),vf (.pointer (some ⟨g,0,none⟩)),vf (.int .i64 (m:Nat)),vf (.pointer (some ⟨ga,m,none⟩)),vf (.slice (some ⟨rr m,0,none⟩) (q + 1) (cr m)),vf (.slice (some ⟨rr m,0,none⟩) (q + 1) (cr m))] [71,72,73,74,75,76,77,78,79,80,12] (by kernel_rfl) (by kernel_rfl) (by kernel_rfl) (of_decide_eq_true (by kernel_rfl)) br ⟨sV _,sV _,sV _,sV _,sV _,sV _,sV _,sV _,sV _,sV _,sV _,trivial⟩ ⟨?s0,?s1,?s2,?s3,?s4,?s5,?s6,?s7,?s8,?s9,?s10,trivial⟩ ?he
 case' s0 | s1 | s2 | s3 | s4 | s5 | s6 | s7 | s8 | s9 | s10 =>
  rintro T W hb hA K hK
 case' s0 | s4 =>
  simp only [sA] at hK |-
 case' s1 =>
  have e0:T 71=_:=hA.1;simp only [sA,e0] at hK |-
 case' s2 =>
  have e1:T 72=_:=hA.1;simp only [sA,e1] at hK |-
 case' s5 =>
  have e4:T 75=_:=hA.1;simp only [sA,e4] at hK |-
 case' s6 =>
  have e5:T 76=_:=hA.1;simp only [sA,e5] at hK |-
 case' s8 =>
  have e3:T 74=_:=hA.1;have e7:T 78=_:=hA.2.1;simp only [sA,e3,e7] at hK |-
 case' s10 =>
  have e9:T 80=_:=hA.1;have e0:T 71=_:=hA.2.1;have e1:T 72=_:=hA.2.2.1;have e2:T 73=_:=hA.2.2.2.1;have e3:T 74=_:=hA.2.2.2.2.1;have e4:T 75=_:=hA.2.2.2.2.2.1;have e5:T 76=_:=hA.2.2.2.2.2.2.1;have e6:T 77=_:=hA.2.2.2.2.2.2.2.1;have e7:T 78=_:=hA.2.2.2.2.2.2.2.2.1;have e8:T 79=_:=hA.2.2.2.2.2.2.2.2.2.1;simp only [sA,e9,e0,e1,e2,e3,e4,e5,e6,e7,e8] at hK |-
 case' s3 =>
  have e2:T 73=_:=hA.1;simp only [sA,e2] at hK |-;have HK:=hii hK;clear hK hA;obtain ⟨x0,x1,x2,x3,x4⟩:=(h.mono hb).box.n5
 case' s7 =>
  have e6:T 77=_:=hA.1;simp only [sA,e6] at hK |-;have HK:=hii hK;clear hK hA;obtain ⟨x0,x1,x2,x3,x4⟩:=(h.mono hb).box.n5
 case' s9 =>
  have e8:T 79=_:=hA.1;simp only [sA,e8] at hK |-;have HK:=hii hK;clear hK hA;have x5:=(h.mono hb).out m (Nat.le_refl m)
 case s0 | s1 | s2 | s4 | s5 | s6 | s8 | s10 =>
  have HK:=hii hK;clear hK hA;refine wO rfl (by rfl) ?_;go_simp;exact HK.out _ _ br (rfl)
 case s3 | s7 | s9 =>
  refine wO rfl (by rfl) ?_;go_simp;exact HK.out _ _ br (rfl)
 case he =>
  rintro T W hb hA;have f10:T 12=.slice (some ⟨rr m,0,none⟩) (q + 1) (cr m):=hA.at 10 (by decide);simp only [sA,f10];exact HQ0.out T W hb
theorem zoe {Q:Exit->Act->World->Prop} {B g ga ca gb cb m n q:Nat} {rr cr:Nat->Nat} {L:Nat->Nat->Rat} {bs:Nat->Nat} {gx g2:Nat} {l:List Qo} {w:World} {x0 x1 x3 x4 x6 x7 x9 x10 x11 x13 x14 x15 x16 x17 x18 x19 x20 x21 x22 x23 x24 x25 x26 x27 x28 x29 x30 x31 x32 x33 x34 x35 x36 x37 x38 x39 x40 x41 x42 x43 x44 x45 x46 x47 x48 x49 x50 x51 x52 x53 x54 x55 x56 x57 x58 x59 x60 x61 x62 x63 x64 x65 x66 x67 x68 x69 x70 x71 x72 x73 x74 x75 x76 x77 x78 x79 x80 x81 x82 x83 x84 x85 x86 x87 x88 x89 x90 x91 x92 x93 x94 x95 x96 x97 x98 x99 x100 x101:Value}
  (h:TB w B g ga ca gb cb m n q rr cr L bs) (hmp:0 < m) (hn0:0 < n) (hM:MQ w gx l) (r2:Row w g2 109 [.bool false,.slice none 0 0,.bool false,.slice none 0 0,.slice none 0 0,.slice none 0 0])
  (hQ:∀ (T:Nat->Value) (W:World) (J3:Bool) (ao3:Option Addr) (n3 Y3:Nat) (K3:Bool) (ap3:Option Addr) (m3 Z3:Nat) (ac:Option Addr) (cc:Nat),Row W g2 109 [.bool J3,.slice ao3 n3 Y3,.bool K3,.slice ap3 m3 Z3,.slice (some ⟨gx,0,none⟩) n q,.slice ac (q - n) cc]->UQ W ac ((List.range (q - n)).map λ i => some (L m (n + i)))->zac w (qA J3 ao3 n3 Y3 K3 ap3 m3 Z3) (L m q)->zaf (λ b => b=g2) w W->Q .normal { tmps:=List.toArray (x0::x1::(.pointer (some ⟨g2,0,none⟩))::(.int .i64 0)::x4::(.pointer (some ⟨g,0,none⟩))::x6::x7::(.slice (some ⟨gx,0,none⟩) q q)::x9::x10::x11::(.slice (some ⟨rr m,0,none⟩) (q + 1) (cr m))::x13::x14::x15::x16::x17::x18::x19::x20::x21::x22::x23::x24::x25::x26::x27::x28::x29::x30::x31::x32::x33::x34::x35::x36::x37::x38::x39::x40::x41::x42::x43::x44::x45::x46::x47::x48::x49::x50::x51::x52::x53::x54::x55::x56::x57::x58::x59::x60::x61::x62::x63::x64::x65::x66::x67::x68::x69::x70::x71::x72::x73::x74::x75::x76::x77::x78::x79::x80::(T 81)::(T 82)::(T 83)::(T 84)::(T 85)::(T 86)::(T 87)::(T 88)::(T 89)::(T 90)::(T 91)::(T 92)::(T 93)::(T 94)::(T 95)::(T 96)::(T 97)::(T 98)::(T 99)::(T 100)::(T 101)::[]),defers:=[] } W) :
  Code.wp Tryz.prog (rgn Tryz.f66 22) Q { tmps:=List.toArray (x0::x1::(.pointer (some ⟨g2,0,none⟩))::x3::x4::(.pointer (some ⟨g,0,none⟩))::x6::x7::(.slice (some ⟨gx,0,none⟩) q q)::x9::x10::x11::(.slice (some ⟨rr m,0,none⟩) (q + 1) (cr m))::x13::x14::x15::x16::x17::x18::x19::x20::x21::x22::x23::x24::x25::x26::x27::x28::x29::x30::x31::x32::x33::x34::x35::x36::x37::x38::x39::x40::x41::x42::x43::x44::x45::x46::x47::x48::x49::x50::x51::x52::x53::x54::x55::x56::x57::x58::x59::x60::x61::x62::x63::x64::x65::x66::x67::x68::x69::x70::x71::x72::x73::x74::x75::x76::x77::x78::x79::x80::x81::x82::x83::x84::x85::x86::x87::x88::x89::x90::x91::x92::x93::x94::x95::x96::x97::x98::x99::x100::x101::[]),defers:=[] } w:=by
 have HQ0:=hii hQ;clear hQ
 conv => arg 2; whnf
 have hxq:(q:Int) < (q:Int) + 1:=by omega
 have hnq:n < q:=by have:=h.wq; omega
 have hnq1:(n:Int)<=(q:Int):=by omega
 have hcap:=h.cap (Nat.le_refl m);have hcp1:(q:Int)<=(cr m:Int):=by omega
 have hcp2:¬ cr m=n:=by omega
 have hcp3:(n:Int)<=(cr m:Int):=by omega
 have hq2:q<=2000:=by have:=h.wq; have:=h.small; omega
 obtain ⟨hm,hn⟩:=h.small;have Hq:=hii h.wq;obtain ⟨J3,ao3,n3,Y3,K3,ap3,m3,Z3,y0,y1,y2,y3,-,-,-,-,V3⟩:=h.cells4 (i:=m) (j:=q) (Nat.le_refl m) (by omega);have z3:zeP w (rr m) (q * 4) (.bool J3) (.slice ao3 n3 Y3) (.bool K3) (.slice ap3 m3 Z3):=⟨y0,y1,y2,y3,trivial,trivial,trivial,trivial⟩;clear y0 y1 y2 y3;refine za2 (wx:=w) (λ b => b=g2) [vf (.slice (some ⟨rr m,0,none⟩) (q + 1) (cr m)),vf (.pointer (some ⟨g,0,none⟩)),vf (.int .i64 (q:Nat)),vf (.pointer (some ⟨rr m,q * 4,none⟩)),vf (.agg #[.bool J3,.slice ao3 n3 Y3,.bool K3,.slice ap3 m3 Z3]),vf (.slice (some ⟨gx,0,none⟩) q q),vf (.pointer (some ⟨g,0,none⟩)),vf (.pointer (some ⟨g,0,none⟩)),vf (.pointer (some ⟨g,1,none⟩)),vf (.int .i64 (n:Nat)),vf (.slice (some ⟨gx,0,none⟩) n q),vf (.slice (some ⟨rr m,0,none⟩) (q + 1) (cr m)),vf (.pointer (some ⟨g,0,none⟩)),vf (.pointer (some ⟨g,0,none⟩)),vf (.pointer (some ⟨g,1,none⟩)),vf (.int .i64 (n:Nat)),vf (.pointer (some ⟨g,0,none⟩)),vf (.int .i64 (q:Nat)),vf (.slice (some ⟨rr m,n * 4,none⟩) (q - n) (cr m - n)),(FK (λ b => b=g2) ((List.range (q - n)).map λ i => some (L m (n + i))) (q - n)),(λ W v => ∃ ac cc,v=.agg #[.bool J3,.slice ao3 n3 Y3,.bool K3,.slice ap3 m3 Z3,.slice (some ⟨gx,0,none⟩) n q,.slice ac (q - n) cc]/\∀ W',zaf (λ b => b=g2) W W'->UQ W' ac ((List.range (q - n)).map λ i => some (L m (n + i)))),(λ _ _ => True),vf (.int .i64 0)] [some 81,some 82,some 83,some 84,some 85,some 86,some 87,some 88,some 89,some 90,some 91,some 92,some 93,some 94,some 95,some 96,some 97,some 98,some 99,some 100,some 101,none,some 3] [81,82,83,84,85,86,87,88,89,90,91,92,93,94,95,96,97,98,99,100,101,3] 21 (λ W => TB W B g ga ca gb cb m n q rr cr L bs/\MQ W gx l/\Row W g2 109 [.bool false,.slice none 0 0,.bool false,.slice none 0 0,.slice none 0 0,.slice none 0 0]/\zac W (qA J3 ao3 n3 Y3 K3 ap3 m3 Z3) (L m q)/\zeP W (rr m) (q * 4) (.bool J3) (.slice ao3 n3 Y3) (.bool K3) (.slice ap3 m3 Z3)) (λ W => ∃ ac cc,Row W g2 109 [.bool J3,.slice ao3 n3 Y3,.bool K3,.slice ap3 m3 Z3,.slice (some ⟨gx,0,none⟩) n q,.slice ac (q - n) cc]/\UQ W ac ((List.range (q - n)).map λ i => some (L m (n + i)))) (by decide) (by kernel_rfl) (by kernel_rfl) (by kernel_rfl) (by kernel_rfl) (of_decide_eq_true (by kernel_rfl)) ⟨h.mono br.drew,hM.mono br.drew,r2.below br.drew,V3.mono br.drew,z3.mono br.drew⟩ (λ W W' h hb => ⟨h.1.mono hb,h.2.1.mono hb,h.2.2.1.below hb,h.2.2.2.1.mono hb,h.2.2.2.2.mono hb⟩) (λ W W' ⟨ac,cc,h1,h2⟩ hb => ⟨ac,cc,h1.below hb,h2.mono hb⟩) (zaf.refl _) ⟨zaa _ _,zaa _ _,zaa _ _,zaa _ _,zaa _ _,zaa _ _,zaa _ _,zaa _ _,zaa _ _,zaa _ _,zaa _ _,zaa _ _,zaa _ _,zaa _ _,zaa _ _,zaa _ _,zaa _ _,zaa _ _,zaa _ _,FK.stay,λ W W' v ⟨ac,cc,e,h⟩ hk => ⟨ac,cc,e,λ W2 hk2 => h W2 (hk.trans hk2)⟩,(λ _ _ _ h _ => h),zaa _ _,trivial⟩ ⟨?s0,?s1,?s2,?s3,?s4,?s5,?s6,?s7,?s8,?s9,?s10,?s11,?s12,?s13,?s14,?s15,?s16,?s17,?s18,?s19,?s20,?s21,?s22,trivial⟩ ?he
 case' s0 | s1 | s2 | s3 | s4 | s5 | s6 | s7 | s8 | s9 | s10 | s11 | s12 | s13 | s14 | s15 | s16 | s17 | s18 | s19 | s20 | s21 | s22 =>
  rintro T W hk hp hA K hK
 case' s0 | s1 | s5 | s6 | s11 | s12 | s16 =>
  have hp:=hp (.inr (by decide));simp only [sA] at hK |-
 case' s3 =>
  have hp:=hp (.inr (by decide));have e0:T 81=_:=hA.1;have e2:T 83=_:=hA.2.1;simp only [sA,e0,e2] at hK |-
 case' s7 =>
  have hp:=hp (.inr (by decide));have e6:T 87=_:=hA.1;simp only [sA,e6] at hK |-
 case' s8 =>
  have hp:=hp (.inr (by decide));have e7:T 88=_:=hA.1;simp only [sA,e7] at hK |-
 case' s10 =>
  have hp:=hp (.inr (by decide));have e5:T 86=_:=hA.1;have e9:T 90=_:=hA.2.1;simp only [sA,e5,e9] at hK |-
 case' s13 =>
  have hp:=hp (.inr (by decide));have e12:T 93=_:=hA.1;simp only [sA,e12] at hK |-
 case' s14 =>
  have hp:=hp (.inr (by decide));have e13:T 94=_:=hA.1;simp only [sA,e13] at hK |-
 case' s18 =>
  have hp:=hp (.inr (by decide));have e11:T 92=_:=hA.1;have e15:T 96=_:=hA.2.1;have e17:T 98=_:=hA.2.2.1;simp only [sA,e11,e15,e17] at hK |-
 case' s22 =>
  clear hp;have e0:T 81=_:=hA.2.1;have e1:T 82=_:=hA.2.2.1;have e2:T 83=_:=hA.2.2.2.1;have e3:T 84=_:=hA.2.2.2.2.1;have e4:T 85=_:=hA.2.2.2.2.2.1;have e5:T 86=_:=hA.2.2.2.2.2.2.1;have e6:T 87=_:=hA.2.2.2.2.2.2.2.1;have e7:T 88=_:=hA.2.2.2.2.2.2.2.2.1;have e8:T 89=_:=hA.2.2.2.2.2.2.2.2.2.1;have e9:T 90=_:=hA.2.2.2.2.2.2.2.2.2.2.1;have e10:T 91=_:=hA.2.2.2.2.2.2.2.2.2.2.2.1;have e11:T 92=_:=hA.2.2.2.2.2.2.2.2.2.2.2.2.1;have e12:T 93=_:=hA.2.2.2.2.2.2.2.2.2.2.2.2.2.1;have e13:T 94=_:=hA.2.2.2.2.2.2.2.2.2.2.2.2.2.2.1;have e14:T 95=_:=hA.2.2.2.2.2.2.2.2.2.2.2.2.2.2.2.1;have e15:T 96=_:=hA.2.2.2.2.2.2.2.2.2.2.2.2.2.2.2.2.1;have e16:T 97=_:=hA.2.2.2.2.2.2.2.2.2.2.2.2.2.2.2.2.2.1;have e17:T 98=_:=hA.2.2.2.2.2.2.2.2.2.2.2.2.2.2.2.2.2.2.1;have e18:T 99=_:=hA.2.2.2.2.2.2.2.2.2.2.2.2.2.2.2.2.2.2.2.1;have r19:((FK (λ b => b=g2) ((List.range (q - n)).map λ i => some (L m (n + i))) (q - n)):World->Value->Prop) W (T 100):=hA.2.2.2.2.2.2.2.2.2.2.2.2.2.2.2.2.2.2.2.2.1;have r20:((λ W v => ∃ ac cc,v=.agg #[.bool J3,.slice ao3 n3 Y3,.bool K3,.slice ap3 m3 Z3,.slice (some ⟨gx,0,none⟩) n q,.slice ac (q - n) cc]/\∀ W',zaf (λ b => b=g2) W W'->UQ W' ac ((List.range (q - n)).map λ i => some (L m (n + i)))):World->Value->Prop) W (T 101):=hA.2.2.2.2.2.2.2.2.2.2.2.2.2.2.2.2.2.2.2.2.2.1;simp only [sA,e0,e1,e2,e3,e4,e5,e6,e7,e8,e9,e10,e11,e12,e13,e14,e15,e16,e17,e18] at hK |-
 case' s2 =>
  have hp:=hp (.inr (by decide));have e1:T 82=_:=hA.1;simp only [sA,e1] at hK |-
 case' s17 =>
  have hp:=hp (.inr (by decide));have e16:T 97=_:=hA.1;have e2:T 83=_:=hA.2.1;simp only [sA,e16,e2] at hK |-
 case' s4 =>
  have hp:=hp (.inr (by decide));have e3:T 84=_:=hA.1;simp only [sA,e3] at hK |-;have HK:=hii hK;clear hK hA;obtain ⟨f0,f1,f2,f3,_,_,_,_⟩:=hp.2.2.2.2
 case' s9 =>
  have hp:=hp (.inr (by decide));have e8:T 89=_:=hA.1;simp only [sA,e8] at hK |-;have HK:=hii hK;clear hK hA;obtain ⟨x0,x1,x2,x3,x4⟩:=hp.1.box.n5
 case' s15 =>
  have hp:=hp (.inr (by decide));have e14:T 95=_:=hA.1;simp only [sA,e14] at hK |-;have HK:=hii hK;clear hK hA;obtain ⟨x0,x1,x2,x3,x4⟩:=hp.1.box.n5
 case s0 | s1 | s3 | s5 | s6 | s7 | s8 | s10 | s11 | s12 | s13 | s14 | s16 | s18 | s22 =>
  have HK:=hii hK;clear hK hA;refine wO rfl (by rfl) ?_;go_simp;exact HK.out _ _ ⟨λ _ => br,λ h => absurd h (by decide),zaf.refl _⟩ (rfl)
 case s2 | s17 =>
  have HK:=hii hK;clear hK hA;refine wO rfl (by rfl) ?_;go_simp;go_fit (zcs g ga ca gb cb m n q Hq.out hm hn W hp.1.box);rintro e w1 ⟨rfl,hb1⟩
  try dsimp only
  exact HK.out _ _ ⟨λ _ => hb1,λ h => absurd h (by decide),.of_below hb1⟩ (rfl)
 case s4 | s9 | s15 =>
  refine wO rfl (by rfl) ?_;go_simp;exact HK.out _ _ ⟨λ _ => br,λ h => absurd h (by decide),zaf.refl _⟩ (rfl)
 case s19 =>
  have hp:=hp (.inr (by decide));have e18:T 99=_:=hA.1;have e17:T 98=_:=hA.2.1;simp only [sA,e18,e17] at hK |-;have HK:=hii hK;clear hK hA;refine wO rfl (by rfl) ?_;go_simp;go_fit (zb9 ((List.range (q - n)).map λ i => some (L m (n + i))) (q - n) (rr m) (n * 4) (cr m - n) W (hii (by simp)) (hii (by simp; omega)) (hii (by simp; omega)) (hp.1.tail (by omega)));rintro e w1 ⟨⟨v,rfl,ho⟩,hb1⟩;obtain ⟨ac,cc,e9,hu⟩:=ho.read;rw [show ((List.range (q - n)).map λ i => some (L m (n + i))).length=q - n by simp] at e9;subst e9
  try dsimp only
  exact HK.out _ _ ⟨λ _ => hb1,λ h => absurd h (by decide),.of_below hb1⟩ (⟨ac,cc,rfl,λ W2 hk2 => hu.kept hk2 ((hp.2.2.1.below hb1).noG' (by intro u hu; simp at hu; rcases hu with rfl | rfl | rfl | rfl | rfl | rfl <;> intro k z e <;> cases e)) (by rintro a rfl e; have h1:=(ho.lt a.block rfl).1; have h2:=hp.2.2.1.lt; omega)⟩)
 case s20 =>
  have hp:=hp (.inr (by decide));have e4:T 85=_:=hA.1;have e10:T 91=_:=hA.2.1;have r19:(_:World->Value->Prop) W (T 100):=hA.2.2.1;simp only [sA,e4,e10] at hK |-;have HK:=hii hK;clear hK hA;obtain ⟨ac,cc,e19,h19⟩:=r19;simp only [e19] at HK |-;refine wO rfl (by rfl) ?_;go_simp;exact HK.out _ _ ⟨λ _ => br,λ h => absurd h (by decide),zaf.refl _⟩ (⟨ac,cc,rfl,h19⟩)
 case s21 =>
  have hp:=hp (.inl rfl);have r20:(_:World->Value->Prop) W (T 101):=hA.1;have r19:((FK (λ b => b=g2) ((List.range (q - n)).map λ i => some (L m (n + i))) (q - n)):World->Value->Prop) W (T 100):=hA.2.1;have e0:T 81=_:=hA.2.2.1;have e1:T 82=_:=hA.2.2.2.1;have e2:T 83=_:=hA.2.2.2.2.1;have e3:T 84=_:=hA.2.2.2.2.2.1;have e4:T 85=_:=hA.2.2.2.2.2.2.1;have e5:T 86=_:=hA.2.2.2.2.2.2.2.1;have e6:T 87=_:=hA.2.2.2.2.2.2.2.2.1;have e7:T 88=_:=hA.2.2.2.2.2.2.2.2.2.1;have e8:T 89=_:=hA.2.2.2.2.2.2.2.2.2.2.1;have e9:T 90=_:=hA.2.2.2.2.2.2.2.2.2.2.2.1;have e10:T 91=_:=hA.2.2.2.2.2.2.2.2.2.2.2.2.1;have e11:T 92=_:=hA.2.2.2.2.2.2.2.2.2.2.2.2.2.1;have e12:T 93=_:=hA.2.2.2.2.2.2.2.2.2.2.2.2.2.2.1;have e13:T 94=_:=hA.2.2.2.2.2.2.2.2.2.2.2.2.2.2.2.1;have e14:T 95=_:=hA.2.2.2.2.2.2.2.2.2.2.2.2.2.2.2.2.1;have e15:T 96=_:=hA.2.2.2.2.2.2.2.2.2.2.2.2.2.2.2.2.2.1;have e16:T 97=_:=hA.2.2.2.2.2.2.2.2.2.2.2.2.2.2.2.2.2.2.1;have e17:T 98=_:=hA.2.2.2.2.2.2.2.2.2.2.2.2.2.2.2.2.2.2.2.1;have e18:T 99=_:=hA.2.2.2.2.2.2.2.2.2.2.2.2.2.2.2.2.2.2.2.2.1;simp only [sA,e0,e1,e2,e3,e4,e5,e6,e7,e8,e9,e10,e11,e12,e13,e14,e15,e16,e17,e18] at hK |-;have HK:=hii hK;clear hK hA;obtain ⟨ac,cc,e20,h20⟩:=r20;obtain ⟨c0,c1,c2,c3,c4,c5⟩:=hp.2.2.1.n6;have fz:=hp.2.2.1.free;have H20:=hii h20;clear h20;simp only [e20] at HK |-;refine wO rfl (by rfl) ?_;go_simp;exact HK.out undef _ ⟨λ h => absurd rfl h,λ _ => ⟨ac,cc,((((((hp.2.2.1.set 0 _).set 1 _).set 2 _).set 3 _).set 4 _).set 5 _),H20.out _ (((((((zaf.refl W:zaf (λ b => b=g2) W W).setCell (p:=⟨g2,0,none⟩) rfl _).setCell (p:=⟨g2,1,none⟩) rfl _).setCell (p:=⟨g2,2,none⟩) rfl _).setCell (p:=⟨g2,3,none⟩) rfl _).setCell (p:=⟨g2,4,none⟩) rfl _).setCell (p:=⟨g2,5,none⟩) rfl _)⟩,((((((zaf.refl W:zaf (λ b => b=g2) W W).setCell (p:=⟨g2,0,none⟩) rfl _).setCell (p:=⟨g2,1,none⟩) rfl _).setCell (p:=⟨g2,2,none⟩) rfl _).setCell (p:=⟨g2,3,none⟩) rfl _).setCell (p:=⟨g2,4,none⟩) rfl _).setCell (p:=⟨g2,5,none⟩) rfl _⟩ (trivial)
 case he =>
  rintro T W hk hR hA;have e22:T 3=.int .i64 0:=hA.at 22 (by decide);obtain ⟨ac,cc,hR1,hR2⟩:=hR;simp only [sA,e22];exact HQ0.out T W _ _ _ _ _ _ _ _ ac cc hR1 hR2 V3 hk
end Go.Proofs.YtfgffkmddanjjaaGreatDoor
