/-
  The simplex method: the first tableau: its regions, each over a frame of variables.
-/
import Derived.Test.YtfgffkmddanjjaaGreatDoorFlowS
import Derived.Test.YtfgffkmddanjjaaGreatDoorSa
set_option linter.unusedVariables false
set_option linter.unusedSimpArgs false
set_option maxRecDepth 100000
set_option maxHeartbeats 25600000
namespace Go.Proofs.YtfgffkmddanjjaaGreatDoor
open _root_.Go.Proofs.Tryz
open Go.RowKit
variable {Q:Exit->Act->Wo->Prop} {bs:LN} {ow:List (Vl × List Qo)} {b1 cB g g1 i off1:Nat} {vA vB vPA vPC x0 x10 x100 x101 x102 x103 x104 x105 x106 x107 x108 x109 x11 x110 x111 x112 x113 x114 x115 x116 x12 x13 x14 x15 x16 x17 x18 x19 x2 x20 x21 x22 x23 x24 x25 x26 x27 x28 x29 x30 x31 x32 x33 x34 x35 x36 x37 x38 x39 x40 x41 x42 x43 x44 x45 x46 x47 x48 x49 x5 x50 x51 x52 x53 x54 x55 x56 x57 x58 x59 x60 x61 x62 x63 x64 x65 x66 x67 x68 x69 x7 x70 x71 x72 x73 x74 x75 x76 x77 x78 x79 x8 x80 x81 x82 x83 x84 x85 x86 x87 x88 x89 x9 x90 x91 x92 x93 x94 x95 x96 x97 x98 x99:Vl} {w0:Wo}
theorem zpS{m n b6 n6 c6:Nat}{l6:List Qo}{bi:Rat}{wo w:Wo}{J5:Bool}{ao5:OA}{n5 Y5:Nat}{K5:Bool}{ap5:OA}{m5 Z5:Nat}
  (hw0:BH w0 w)(hwo:BH w0 wo)(hwg:w0.heap.size<=g1/\g1<g)(hR:Row wo g 164 [.int .i64 (m:Nat),.int .i64 (n:Nat),vA,vB,.int .i64 0])(hR1:Row wo g1 105 [vPA,.slice (some ⟨b1,off1,none⟩) m cB,vPC])(hT:TG wo (g+1) g vA vB bs ow)(hbo:BH wo w)(h6:zaI w wo.heap.size (.slice (some ⟨b6,0,none⟩) n6 c6) l6)(hi:i<m)(z5:zft w0 b1 (off1+i*4) (.bool J5) (.slice ao5 n5 Y5) (.bool K5) (.slice ap5 m5 Z5))(V5:zad w0 (qA J5 ao5 n5 Y5 K5 ap5 m5 Z5) bi)(hl6:l6.length<=100000)(how:ow.length<=1000000)(hvA:zaM vA)(hvB:zaM vB)
  (hQ:∀(T:Nat->Vl)(W:Wo)(x vA2:Vl),TG W (g+1) g vA2 vB bs (ow++[(x,(l6++[some bi]))])->Row W g 164 [.int .i64 (m:Nat),.int .i64 (n:Nat),vA2,vB,.int .i64 0]->Row W g1 105 [vPA,.slice (some ⟨b1,off1,none⟩) m cB,vPC]->BH w0 W->Q .normal {tmps:=List.toArray (x0::(.pointer (some ⟨g1,0,none⟩))::x2::(.pointer (some ⟨g,0,none⟩))::(.int .i64 (i:Nat))::x5::(.slice (some ⟨b6,0,none⟩) n6 c6)::x7::x8::x9::x10::x11::x12::x13::x14::x15::x16::x17::x18::x19::x20::x21::x22::x23::x24::x25::x26::x27::x28::x29::x30::x31::x32::x33::x34::x35::x36::x37::x38::x39::x40::x41::x42::x43::x44::x45::x46::x47::(T 48)::(T 49)::(T 50)::(T 51)::(T 52)::(T 53)::(T 54)::(T 55)::(T 56)::(T 57)::(T 58)::(T 59)::(T 60)::(T 61)::(T 62)::(T 63)::(T 64)::x65::x66::x67::x68::x69::x70::x71::x72::x73::x74::x75::x76::x77::x78::x79::x80::x81::x82::x83::x84::x85::x86::x87::x88::x89::x90::x91::x92::x93::x94::x95::x96::x97::x98::x99::x100::x101::x102::x103::x104::x105::x106::x107::x108::x109::x110::x111::x112::x113::x114::x115::x116::[]),defers:=[]} W) :
  Code.wp Tryz.prog (rgn Tryz.f115 13) Q {tmps:=List.toArray (x0::(.pointer (some ⟨g1,0,none⟩))::x2::(.pointer (some ⟨g,0,none⟩))::(.int .i64 (i:Nat))::x5::(.slice (some ⟨b6,0,none⟩) n6 c6)::x7::x8::x9::x10::x11::x12::x13::x14::x15::x16::x17::x18::x19::x20::x21::x22::x23::x24::x25::x26::x27::x28::x29::x30::x31::x32::x33::x34::x35::x36::x37::x38::x39::x40::x41::x42::x43::x44::x45::x46::x47::x48::x49::x50::x51::x52::x53::x54::x55::x56::x57::x58::x59::x60::x61::x62::x63::x64::x65::x66::x67::x68::x69::x70::x71::x72::x73::x74::x75::x76::x77::x78::x79::x80::x81::x82::x83::x84::x85::x86::x87::x88::x89::x90::x91::x92::x93::x94::x95::x96::x97::x98::x99::x100::x101::x102::x103::x104::x105::x106::x107::x108::x109::x110::x111::x112::x113::x114::x115::x116::[]),defers:=[]} w:=by
 have HQ0:=hii hQ;clear hQ
 conv=>arg 2;whnf
 have hxi:(i:Int)<(m:Int):=oM;refine zau srB (wx:=w0) [vf (.pointer (some ⟨g,0,none⟩)),vf (.pointer (some ⟨g,0,none⟩)),vf (.pointer (some ⟨g,0,none⟩)),vf (.pointer (some ⟨g,2,none⟩)),vf vA,vf (.slice (some ⟨b6,0,none⟩) n6 c6),vf (.pointer (some ⟨g1,1,none⟩)),vf (.slice (some ⟨b1,off1,none⟩) m cB),vf (.int .i64 (i:Nat)),vf (.pointer (some ⟨b1,off1+i*4,none⟩)),vf (.agg #[.bool J5,.slice ao5 n5 Y5,.bool K5,.slice ap5 m5 Z5]),(λW v=>∃n,v=.slice (some ⟨n,0,none⟩) 1 1/\UQ W (some ⟨n,0,none⟩) [some bi]),(λ_ v=>∃a n c,v=.slice a n c),(λW v=>∃nb ar nn cr,v=.slice (some ⟨nb,0,none⟩) 1 1/\W.cell? ⟨nb,0,none⟩=some (.slice ar nn cr)/\zaI W wo.heap.size (.slice ar nn cr) (l6++[some bi])),(λ_ v=>∃a n c,v=.slice a n c),vf (.pointer (some ⟨g,0,none⟩)),vf (.pointer (some ⟨g,2,none⟩)),(λ_ _=>True)] [some 48,some 49,some 50,some 51,some 52,some 53,some 54,some 55,some 56,some 57,some 58,some 59,some 60,some 61,some 62,some 63,some 64,none] [48,49,50,51,52,53,54,55,56,57,58,59,60,61,62,63,64] [12,14,17] [[0,1,2],[0,1,2],[0,1,2],[0,1,2],[0,1],[0],[0,1,2],[0,1,2],[0,1,2],[0,1,2],[0,1,2],[0],[0],[1],[1],[2,3],[2],[2]] [none,none,none,none,none,none,none,none,none,none,none,some 0,none,some 1,none,none,none,none] (λp T W=>match p with|0=>BH wo W/\zaI W wo.heap.size (.slice (some ⟨b6,0,none⟩) n6 c6) l6|1=>BH wo W/\zaI W wo.heap.size (T 60) (l6++[some bi])|2=>∃x,TG W (g+1) g (T 62) vB bs (ow++[(x,(l6++[some bi]))])/\Row W g 164 [.int .i64 (m:Nat),.int .i64 (n:Nat),vA,vB,.int .i64 0]/\Row W g1 105 [vPA,.slice (some ⟨b1,off1,none⟩) m cB,vPC]|_+3=>∃x vA2,TG W (g+1) g vA2 vB bs (ow++[(x,(l6++[some bi]))])/\Row W g 164 [.int .i64 (m:Nat),.int .i64 (n:Nat),vA2,vB,.int .i64 0]/\Row W g1 105 [vPA,.slice (some ⟨b1,off1,none⟩) m cB,vPC]) (λT=>⟨hbo.trans br.drew,h6.mono br.drew⟩) (λp T W W' h hb=>match p,h with|0,h=>⟨bu h.1 hb,h.2.mono hb⟩|1,h=>⟨bu h.1 hb,h.2.mono hb⟩|2,h=>h.elim λx h=>⟨x,h.1.mono hb,h.2.1.below hb,h.2.2.below hb⟩|_+3,h=>h.elim λx h=>h.elim λv h=>⟨x,v,h.1.mono hb,h.2.1.below hb,h.2.2.below hb⟩) (λp T T' W hT h=>match p,hT,h with|0,_,h=>h|1,hT,h=>(by have e:T' 60=T 60:=hT 0 dM;have h:BH wo W/\zaI W wo.heap.size (T 60) (l6++[some bi]):=h;show BH wo W/\zaI W wo.heap.size (T' 60) (l6++[some bi]);rw[e];exact h)|2,hT,h=>(by have e:T' 62=T 62:=hT 1 dM;have h:∃x,TG W (g+1) g (T 62) vB bs (ow++[(x,(l6++[some bi]))])/\Row W g 164 [.int .i64 (m:Nat),.int .i64 (n:Nat),vA,vB,.int .i64 0]/\Row W g1 105 [vPA,.slice (some ⟨b1,off1,none⟩) m cB,vPC]:=h;show ∃x,TG W (g+1) g (T' 62) vB bs (ow++[(x,(l6++[some bi]))])/\Row W g 164 [.int .i64 (m:Nat),.int .i64 (n:Nat),vA,vB,.int .i64 0]/\Row W g1 105 [vPA,.slice (some ⟨b1,off1,none⟩) m cB,vPC];rw[e];exact h)|_+3,_,h=>h) (hw0) ⟨zac _ _,zac _ _,zac _ _,zac _ _,zac _ _,zac _ _,zac _ _,zac _ _,zac _ _,zac _ _,zac _ _,λ_ _ _ ⟨n,e,h⟩ hb=>⟨n,e,h.mono hb⟩,λ_ _ _ h _=>h,λ_ _ _ ⟨nb,ar,nn,cr,e,h1,h2⟩ hb=>⟨nb,ar,nn,cr,e,(hb.cell (p:=⟨nb,0,none⟩) (zaf h1)).trans h1,h2.mono hb⟩,λ_ _ _ h _=>h,zac _ _,zac _ _,(λ_ _ _ h _=>h),trivial⟩ ⟨?s0,?s1,?s2,?s3,?s4,?s5,?s6,?s7,?s8,?s9,?s10,?s11,?s12,?s13,?s14,?s15,?s16,?s17,trivial⟩ ?he
 case' s0|s1|s2|s3|s4|s5|s6|s7|s8|s9|s10|s11|s12|s13|s14|s15|s16|s17=>
  rintro T W p hb hp hS hA K hK
 case' s0|s1|s5|s6|s8=>
  clear hS;simp only[sA]at hK|-
 case' s2=>
  clear hS;have e1:T 49=_:=hA.1 rfl;simp only[sA,e1]at hK|-
 case' s3=>
  clear hS;have e2:T 50=_:=hA.1 rfl;simp only[sA,e2]at hK|-
 case' s9=>
  clear hS;have e7:T 55=_:=hA.1 rfl;have e8:T 56=_:=hA.2.1 rfl;simp only[sA,e7,e8]at hK|-
 case' s10=>
  clear hS;have e9:T 57=_:=hA.1 rfl;obtain⟨f0,f1,f2,f3,_,_,_,_⟩:=z5.mono hb;simp only[sA,e9]at hK|-
 case' s16=>
  obtain rfl:p=2:=by simpa using hp
  clear hS;have e15:T 63=_:=hA.1 rfl;have e0:T 48=_:=hA.2.1 rfl;have e1:T 49=_:=hA.2.2.1 rfl;have e2:T 50=_:=hA.2.2.2.1 rfl;have e3:T 51=_:=hA.2.2.2.2.1 rfl;have e4:T 52=_:=hA.2.2.2.2.2.1 rfl;have e5:T 53=_:=hA.2.2.2.2.2.2.1 rfl;have e6:T 54=_:=hA.2.2.2.2.2.2.2.1 rfl;have e7:T 55=_:=hA.2.2.2.2.2.2.2.2.1 rfl;have e8:T 56=_:=hA.2.2.2.2.2.2.2.2.2.1 rfl;have e9:T 57=_:=hA.2.2.2.2.2.2.2.2.2.2.1 rfl;have e10:T 58=_:=hA.2.2.2.2.2.2.2.2.2.2.2.1 rfl;have r12:((λ_ v=>∃a n c,v=.slice a n c):FW) W (T 60):=hA.2.2.2.2.2.2.2.2.2.2.2.2.2.1 rfl;have r14:((λ_ v=>∃a n c,v=.slice a n c):FW) W (T 62):=hA.2.2.2.2.2.2.2.2.2.2.2.2.2.2.2.1 rfl;simp only[sA,e15,e0,e1,e2,e3,e4,e5,e6,e7,e8,e9,e10]at hK|-
 case s0|s1|s2|s3|s5|s6|s8|s9|s10|s16=>
  exact cE
 case s4=>
  have hp:p∈[0,1]:=hp;simp only[List.mem_cons,List.not_mem_nil,or_false]at hp;rcases hp with rfl|rfl
  ·have hS:BH wo W/\zaI W wo.heap.size (.slice (some ⟨b6,0,none⟩) n6 c6) l6:=hS;have e3:T 51=_:=hA.1 rfl;have r9:=hR.below hS.1;obtain⟨x0,x1,x2,x3,x4⟩:=r9.n5;simp only[sA,e3]at hK|-;exact cE
  ·have hS:BH wo W/\zaI W wo.heap.size (T 60) (l6++[some bi]):=hS;have e3:T 51=_:=hA.1 rfl;have r9:=hR.below hS.1;obtain⟨x0,x1,x2,x3,x4⟩:=r9.n5;simp only[sA,e3]at hK|-;exact cE
 case s7=>
  have hp:p∈[0,1,2]:=hp;simp only[List.mem_cons,List.not_mem_nil,or_false]at hp;rcases hp with rfl|rfl|rfl
  ·have hS:BH wo W/\zaI W wo.heap.size (.slice (some ⟨b6,0,none⟩) n6 c6) l6:=hS;have e6:T 54=_:=hA.1 rfl;have r9:Row W g1 105 [vPA,.slice (some ⟨b1,off1,none⟩) m cB,vPC]:=by first|exact hR1.below hS.1|exact hS.elim λx h=>h.2.2
   exact eH
  ·have hS:BH wo W/\zaI W wo.heap.size (T 60) (l6++[some bi]):=hS;have e6:T 54=_:=hA.1 rfl;have r9:Row W g1 105 [vPA,.slice (some ⟨b1,off1,none⟩) m cB,vPC]:=by first|exact hR1.below hS.1|exact hS.elim λx h=>h.2.2
   exact eH
  ·have hS:∃x,TG W (g+1) g (T 62) vB bs (ow++[(x,(l6++[some bi]))])/\Row W g 164 [.int .i64 (m:Nat),.int .i64 (n:Nat),vA,vB,.int .i64 0]/\Row W g1 105 [vPA,.slice (some ⟨b1,off1,none⟩) m cB,vPC]:=hS;have e6:T 54=_:=hA.1 rfl;have r9:Row W g1 105 [vPA,.slice (some ⟨b1,off1,none⟩) m cB,vPC]:=by first|exact hR1.below hS.1|exact hS.elim λx h=>h.2.2
   exact eH
 case s15=>
  have hp:p∈[2,3]:=hp;simp only[List.mem_cons,List.not_mem_nil,or_false]at hp;rcases hp with rfl|rfl
  ·clear hS;have e0:T 48=_:=hA.1 rfl;have e1:T 49=_:=hA.2.2.1 rfl;have e2:T 50=_:=hA.2.2.2.1 rfl;have e3:T 51=_:=hA.2.2.2.2.1 rfl;have e4:T 52=_:=hA.2.2.2.2.2.1 rfl;have e5:T 53=_:=hA.2.2.2.2.2.2.1 rfl;have e6:T 54=_:=hA.2.2.2.2.2.2.2.1 rfl;have e7:T 55=_:=hA.2.2.2.2.2.2.2.2.1 rfl;have e8:T 56=_:=hA.2.2.2.2.2.2.2.2.2.1 rfl;have e9:T 57=_:=hA.2.2.2.2.2.2.2.2.2.2.1 rfl;have e10:T 58=_:=hA.2.2.2.2.2.2.2.2.2.2.2.1 rfl;have r12:(_:FW) W (T 60):=hA.2.2.2.2.2.2.2.2.2.2.2.2.2.1 rfl;have r14:(_:FW) W (T 62):=hA.2.2.2.2.2.2.2.2.2.2.2.2.2.2.2.1 rfl;exact dR
  ·clear hS;have e0:T 48=_:=hA.1 rfl;have e1:T 49=_:=hA.2.2.1 rfl;have e2:T 50=_:=hA.2.2.2.1 rfl;have e3:T 51=_:=hA.2.2.2.2.1 rfl;have e4:T 52=_:=hA.2.2.2.2.2.1 rfl;have e5:T 53=_:=hA.2.2.2.2.2.2.1 rfl;have e6:T 54=_:=hA.2.2.2.2.2.2.2.1 rfl;have e7:T 55=_:=hA.2.2.2.2.2.2.2.2.1 rfl;have e8:T 56=_:=hA.2.2.2.2.2.2.2.2.2.1 rfl;have e9:T 57=_:=hA.2.2.2.2.2.2.2.2.2.2.1 rfl;have e10:T 58=_:=hA.2.2.2.2.2.2.2.2.2.2.2.1 rfl;have r12:(_:FW) W (T 60):=hA.2.2.2.2.2.2.2.2.2.2.2.2.2.1 rfl;have r14:((λ_ v=>∃a n c,v=.slice a n c):FW) W (T 62):=hA.2.2.2.2.2.2.2.2.2.2.2.2.2.2.2.1 rfl;exact dR
 case s11=>
  clear hS;have e10:T 58=_:=hA.1 rfl;simp only[sA,e10]at hK|-;have HK:=hii hK;clear hK hA;refine wO rfl ?_;go_simp;obtain⟨w1,hw1⟩:∃w1,w1=W.alloc (.cells #[.bool J5,.slice ao5 n5 Y5,.bool K5,.slice ap5 m5 Z5] 32):=⟨_,rfl⟩;have hb1:BH W w1:=by rw[hw1];exact bA W _
  have huq:UQ w1 (some ⟨W.heap.size,0,none⟩) [some bi]:=by rw[hw1];exact zfD (V5.mono hb)
  rw[<-hw1]
  try dsimp only
  exact HK.o _ _ ⟨λ_=>hb1,λh=>absurd h (zas dM dM)⟩ (⟨_,rfl,huq⟩)
 case s12=>
  obtain rfl:p=0:=by simpa using hp
  have hS:BH wo W/\zaI W wo.heap.size (.slice (some ⟨b6,0,none⟩) n6 c6) l6:=hS;have e5:T 53=_:=hA.1 rfl;have r11:(_:FW) W (T 59):=hA.2.1 dM;simp only[sA,e5]at hK|-;have HK:=hii hK;clear hK hA;obtain⟨nb,e11,huq⟩:=r11;obtain⟨v1,w1,hr,ho,hbb,gr⟩:=zcf W W 33 wo.heap.size (.slice (some ⟨b6,0,none⟩) n6 c6) l6 (some bi) (some ⟨nb,0,none⟩) 1 hS.2 hS.1.size br huq hl6;rw[<-e11]at hr;refine wO rfl ?_;refine zat _ _ rfl rfl rfl hr ?_;simp only[Act.put,List.setIfInBounds_toArray,List.set_cons_zero,List.set_cons_succ];exact HK.o _ _ ⟨λh=>absurd rfl h,λ_=>⟨⟨hS.1.trans hbb,ho⟩,hbb.mono hwo.size⟩⟩ (ho.sl)
 case s13=>
  obtain rfl:p=1:=by simpa using hp
  have hS:BH wo W/\zaI W wo.heap.size (T 60) (l6++[some bi]):=hS;have r12:(_:FW) W (T 60):=hA.1 rfl;obtain⟨a12,n12,c12,e12⟩:=r12;rw[e12]at hS;simp only[sA,e12]at hK|-;have HK:=hii hK;clear hK hA;refine wO rfl ?_;go_simp;obtain⟨w1,hw1⟩:∃w1,w1=W.alloc (.cells #[.slice a12 n12 c12] 33):=⟨_,rfl⟩;have hb1:BH W w1:=by rw[hw1];exact bA W _
  have hcw:w1.cell? ⟨W.heap.size,0,none⟩=some (.slice a12 n12 c12):=by rw[hw1];simp[go_sem]
  rw[<-hw1]
  try dsimp only
  exact HK.o _ _ ⟨λ_=>hb1,λh=>absurd h (zas dM dM)⟩ (⟨_,_,_,_,rfl,hcw,hS.2.mono hb1⟩)
 case s14=>
  obtain rfl:p=1:=by simpa using hp
  have hS:BH wo W/\zaI W wo.heap.size (T 60) (l6++[some bi]):=hS;have e4:T 52=_:=hA.1 rfl;have r13:(_:FW) W (T 61):=hA.2.1 dM;have r12:(_:FW) W (T 60):=hA.2.2.1 rfl;simp only[sA,e4]at hK|-;have HK:=hii hK;clear hK hA;obtain⟨nb,ar,nn,cr,e13,hc,hox⟩:=r13;have hRo:=hR.below hS.1;have hR1o:=hR1.below hS.1;obtain⟨v1,w1,hr,ht,hbb,gr⟩:=hT.appA (X:=W) hS.1 hox (by have:=hT.gl;omega) br 103 hc how;rw[<-e13]at hr;refine wO rfl ?_;refine zat _ _ rfl rfl rfl hr ?_;simp only[Act.put,List.setIfInBounds_toArray,List.set_cons_zero,List.set_cons_succ];exact HK.o _ _ ⟨λh=>absurd rfl h,λ_=>⟨⟨_,ht,hRo.under hbb oM,hR1o.under hbb oM⟩,hbb.mono (by have:=hwg;omega)⟩⟩ (ht.slA)
 case s17=>
  obtain rfl:p=2:=by simpa using hp
  have hS:∃x,TG W (g+1) g (T 62) vB bs (ow++[(x,(l6++[some bi]))])/\Row W g 164 [.int .i64 (m:Nat),.int .i64 (n:Nat),vA,vB,.int .i64 0]/\Row W g1 105 [vPA,.slice (some ⟨b1,off1,none⟩) m cB,vPC]:=hS;have e16:T 64=_:=hA.1 rfl;have r14:(_:FW) W (T 62):=hA.2.1 rfl;have e0:T 48=_:=hA.2.2.2.1 rfl;have e1:T 49=_:=hA.2.2.2.2.1 rfl;have e2:T 50=_:=hA.2.2.2.2.2.1 rfl;have e3:T 51=_:=hA.2.2.2.2.2.2.1 rfl;have e4:T 52=_:=hA.2.2.2.2.2.2.2.1 rfl;have e5:T 53=_:=hA.2.2.2.2.2.2.2.2.1 rfl;have e6:T 54=_:=hA.2.2.2.2.2.2.2.2.2.1 rfl;have e7:T 55=_:=hA.2.2.2.2.2.2.2.2.2.2.1 rfl;have e8:T 56=_:=hA.2.2.2.2.2.2.2.2.2.2.2.1 rfl;have e9:T 57=_:=hA.2.2.2.2.2.2.2.2.2.2.2.2.1 rfl;have e10:T 58=_:=hA.2.2.2.2.2.2.2.2.2.2.2.2.2.1 rfl;have r12:((λ_ v=>∃a n c,v=.slice a n c):FW) W (T 60):=hA.2.2.2.2.2.2.2.2.2.2.2.2.2.2.2.1 rfl;obtain⟨x,hT2,hR2,hR12⟩:=hS;obtain⟨a9,n9,c9,e14⟩:=r14;rw[e14]at hT2;obtain⟨y0,y1,y2,y3,y4⟩:=hR2.n5;have fz:=hR2.free 2;have hno:=hR2.noU (by intro u hu;simp only[List.mem_cons,List.not_mem_nil,or_false]at hu;rcases hu with h|h|h|h|h<;>rw[h]<;>first|exact hvA|exact hvB|(intro z e;cases e));simp only[sA,e16,e0,e1,e2,e3,e4,e5,e6,e7,e8,e9,e10,e14]at hK|-;have HK:=hii hK;clear hK hA;refine wO rfl ?_;go_simp;exact HK.o undef _ ⟨λh=>absurd rfl h,λ_=>⟨⟨x,.slice a9 n9 c9,hT2.keptg ((zah.refl W:zah (λb=>b=g) W W).setCell (p:=⟨g,2,none⟩) rfl _) hno,hR2.set 2 _,hR12.oth oM _⟩,(Below.refl _ W).setCell (p:=⟨g,2,none⟩) (by have:=hwg;show _<=g;omega) _⟩⟩ (trivial)
 case he=>
  rintro T W hb hS hA;have hS:∃x vA2,TG W (g+1) g vA2 vB bs (ow++[(x,(l6++[some bi]))])/\Row W g 164 [.int .i64 (m:Nat),.int .i64 (n:Nat),vA2,vB,.int .i64 0]/\Row W g1 105 [vPA,.slice (some ⟨b1,off1,none⟩) m cB,vPC]:=hS;obtain⟨x,vA2,hT2,hR2,hR12⟩:=hS;simp only[sA];exact HQ0.o T W x vA2 hT2 hR2 hR12 hb
theorem zpR{m n:Nat}{w:Wo}{x1 x6:Vl}
  (hw0:BH w0 w)(hwg:w0.heap.size<=g1/\g1<g)(hR:Row w g 164 [.int .i64 (m:Nat),.int .i64 (n:Nat),vA,vB,.int .i64 0])(hR1:Row w g1 105 [vPA,.slice (some ⟨b1,off1,none⟩) m cB,vPC])(hT:TG w (g+1) g vA vB bs ow)(hi:i<=1000/\n<=1000)(hbs:bs.length<=1000000)(hvA:zaM vA)(hvB:zaM vB)
  (hQ:∀(T:Nat->Vl)(W:Wo)(vB2:Vl),TG W (g+1) g vA vB2 (bs++[n+i]) ow->Row W g 164 [.int .i64 (m:Nat),.int .i64 (n:Nat),vA,vB2,.int .i64 0]->Row W g1 105 [vPA,.slice (some ⟨b1,off1,none⟩) m cB,vPC]->BH w0 W->Q .normal {tmps:=List.toArray (x0::x1::x2::(.pointer (some ⟨g,0,none⟩))::(.int .i64 (i:Nat))::x5::x6::x7::x8::x9::x10::x11::x12::x13::x14::x15::x16::x17::x18::x19::x20::x21::x22::x23::x24::x25::x26::x27::x28::x29::x30::x31::x32::x33::x34::x35::x36::x37::x38::x39::x40::x41::x42::x43::x44::x45::x46::x47::x48::x49::x50::x51::x52::x53::x54::x55::x56::x57::x58::x59::x60::x61::x62::x63::x64::(T 65)::(T 66)::(T 67)::(T 68)::(T 69)::(T 70)::(T 71)::(T 72)::(T 73)::(T 74)::(T 75)::(T 76)::(T 77)::(T 78)::(T 79)::x80::x81::x82::x83::x84::x85::x86::x87::x88::x89::x90::x91::x92::x93::x94::x95::x96::x97::x98::x99::x100::x101::x102::x103::x104::x105::x106::x107::x108::x109::x110::x111::x112::x113::x114::x115::x116::[]),defers:=[]} W) :
  Code.wp Tryz.prog (rgn Tryz.f115 14) Q {tmps:=List.toArray (x0::x1::x2::(.pointer (some ⟨g,0,none⟩))::(.int .i64 (i:Nat))::x5::x6::x7::x8::x9::x10::x11::x12::x13::x14::x15::x16::x17::x18::x19::x20::x21::x22::x23::x24::x25::x26::x27::x28::x29::x30::x31::x32::x33::x34::x35::x36::x37::x38::x39::x40::x41::x42::x43::x44::x45::x46::x47::x48::x49::x50::x51::x52::x53::x54::x55::x56::x57::x58::x59::x60::x61::x62::x63::x64::x65::x66::x67::x68::x69::x70::x71::x72::x73::x74::x75::x76::x77::x78::x79::x80::x81::x82::x83::x84::x85::x86::x87::x88::x89::x90::x91::x92::x93::x94::x95::x96::x97::x98::x99::x100::x101::x102::x103::x104::x105::x106::x107::x108::x109::x110::x111::x112::x113::x114::x115::x116::[]),defers:=[]} w:=by
 have HQ0:=hii hQ;clear hQ
 conv=>arg 2;whnf
 refine zau srB (wx:=w0) [vf (.pointer (some ⟨g,0,none⟩)),vf (.pointer (some ⟨g,0,none⟩)),vf (.pointer (some ⟨g,0,none⟩)),vf (.pointer (some ⟨g,3,none⟩)),vf vB,vf (.pointer (some ⟨g,0,none⟩)),vf (.pointer (some ⟨g,0,none⟩)),vf (.pointer (some ⟨g,1,none⟩)),vf (.int .i64 (n:Nat)),vf (.int .i64 (i:Nat)),vf (.int .i64 ((n+i:Nat):Int)),(λW v=>∃nb,v=.slice (some ⟨nb,0,none⟩) 1 1/\W.cell? ⟨nb,0,none⟩=some (.int .i64 ((n+i:Nat):Int))),(λ_ v=>∃a n c,v=.slice a n c),vf (.pointer (some ⟨g,0,none⟩)),vf (.pointer (some ⟨g,3,none⟩)),(λ_ _=>True)] [some 65,some 66,some 67,some 68,some 69,some 70,some 71,some 72,some 73,some 74,some 75,some 76,some 77,some 78,some 79,none] [65,66,67,68,69,70,71,72,73,74,75,76,77,78,79] [12,15] [[0,1],[0,1],[0,1],[0,1],[0],[0,1],[0,1],[0,1],[0,1],[0,1],[0,1],[0],[0],[1,2],[1],[1]] [none,none,none,none,none,none,none,none,none,none,none,some 0,none,none,none,none] (λp T W=>match p with|0=>TG W (g+1) g vA vB bs ow/\Row W g 164 [.int .i64 (m:Nat),.int .i64 (n:Nat),vA,vB,.int .i64 0]/\Row W g1 105 [vPA,.slice (some ⟨b1,off1,none⟩) m cB,vPC]|1=>TG W (g+1) g vA (T 77) (bs++[n+i]) ow/\Row W g 164 [.int .i64 (m:Nat),.int .i64 (n:Nat),vA,vB,.int .i64 0]/\Row W g1 105 [vPA,.slice (some ⟨b1,off1,none⟩) m cB,vPC]|_+2=>∃vB2,TG W (g+1) g vA vB2 (bs++[n+i]) ow/\Row W g 164 [.int .i64 (m:Nat),.int .i64 (n:Nat),vA,vB2,.int .i64 0]/\Row W g1 105 [vPA,.slice (some ⟨b1,off1,none⟩) m cB,vPC]) (λT=>⟨hT.mono br.drew,hR.below br.drew,hR1.below br.drew⟩) (λp T W W' h hb=>match p,h with|0,h=>⟨h.1.mono hb,h.2.1.below hb,h.2.2.below hb⟩|1,h=>⟨h.1.mono hb,h.2.1.below hb,h.2.2.below hb⟩|_+2,h=>h.elim λv h=>⟨v,h.1.mono hb,h.2.1.below hb,h.2.2.below hb⟩) (λp T T' W hT h=>match p,hT,h with|0,_,h=>h|1,hT,h=>(by have e:T' 77=T 77:=hT 0 dM;have h:TG W (g+1) g vA (T 77) (bs++[n+i]) ow/\Row W g 164 [.int .i64 (m:Nat),.int .i64 (n:Nat),vA,vB,.int .i64 0]/\Row W g1 105 [vPA,.slice (some ⟨b1,off1,none⟩) m cB,vPC]:=h;show TG W (g+1) g vA (T' 77) (bs++[n+i]) ow/\Row W g 164 [.int .i64 (m:Nat),.int .i64 (n:Nat),vA,vB,.int .i64 0]/\Row W g1 105 [vPA,.slice (some ⟨b1,off1,none⟩) m cB,vPC];rw[e];exact h)|_+2,_,h=>h) (hw0) ⟨zac _ _,zac _ _,zac _ _,zac _ _,zac _ _,zac _ _,zac _ _,zac _ _,zac _ _,zac _ _,zac _ _,λ_ _ _ ⟨nb,e,h1⟩ hb=>⟨nb,e,(hb.cell (p:=⟨nb,0,none⟩) (zaf h1)).trans h1⟩,λ_ _ _ h _=>h,zac _ _,zac _ _,(λ_ _ _ h _=>h),trivial⟩ ⟨?s0,?s1,?s2,?s3,?s4,?s5,?s6,?s7,?s8,?s9,?s10,?s11,?s12,?s13,?s14,?s15,trivial⟩ ?he
 case' s0|s1|s2|s3|s4|s5|s6|s7|s8|s9|s10|s11|s12|s13|s14|s15=>
  rintro T W p hb hp hS hA K hK
 case' s0|s1|s5|s9=>
  clear hS;simp only[sA]at hK|-
 case' s2=>
  clear hS;have e1:T 66=_:=hA.1 rfl;simp only[sA,e1]at hK|-
 case' s3=>
  clear hS;have e2:T 67=_:=hA.1 rfl;simp only[sA,e2]at hK|-
 case' s4=>
  obtain rfl:p=0:=by simpa using hp
  have hS:TG W (g+1) g vA vB bs ow/\Row W g 164 [.int .i64 (m:Nat),.int .i64 (n:Nat),vA,vB,.int .i64 0]/\Row W g1 105 [vPA,.slice (some ⟨b1,off1,none⟩) m cB,vPC]:=hS;have e3:T 68=_:=hA.1 rfl;obtain⟨x0,x1,x2,x3,x4⟩:=hS.2.1.n5;simp only[sA,e3]at hK|-
 case' s6=>
  clear hS;have e5:T 70=_:=hA.1 rfl;simp only[sA,e5]at hK|-
 case' s7=>
  clear hS;have e6:T 71=_:=hA.1 rfl;simp only[sA,e6]at hK|-
 case' s14=>
  obtain rfl:p=1:=by simpa using hp
  clear hS;have e13:T 78=_:=hA.1 rfl;have e0:T 65=_:=hA.2.1 rfl;have e1:T 66=_:=hA.2.2.1 rfl;have e2:T 67=_:=hA.2.2.2.1 rfl;have e3:T 68=_:=hA.2.2.2.2.1 rfl;have e4:T 69=_:=hA.2.2.2.2.2.1 rfl;have e5:T 70=_:=hA.2.2.2.2.2.2.1 rfl;have e6:T 71=_:=hA.2.2.2.2.2.2.2.1 rfl;have e7:T 72=_:=hA.2.2.2.2.2.2.2.2.1 rfl;have e8:T 73=_:=hA.2.2.2.2.2.2.2.2.2.1 rfl;have e9:T 74=_:=hA.2.2.2.2.2.2.2.2.2.2.1 rfl;have e10:T 75=_:=hA.2.2.2.2.2.2.2.2.2.2.2.1 rfl;have r12:(_:FW) W (T 77):=hA.2.2.2.2.2.2.2.2.2.2.2.2.2.1 rfl;simp only[sA,e13,e0,e1,e2,e3,e4,e5,e6,e7,e8,e9,e10]at hK|-
 case s0|s1|s2|s3|s4|s5|s6|s7|s9|s14=>
  exact cE
 case s8=>
  have hp:p∈[0,1]:=hp;simp only[List.mem_cons,List.not_mem_nil,or_false]at hp;rcases hp with rfl|rfl
  ·have hS:TG W (g+1) g vA vB bs ow/\Row W g 164 [.int .i64 (m:Nat),.int .i64 (n:Nat),vA,vB,.int .i64 0]/\Row W g1 105 [vPA,.slice (some ⟨b1,off1,none⟩) m cB,vPC]:=hS;have e7:T 72=_:=hA.1 rfl;obtain⟨x0,x1,x2,x3,x4⟩:=hS.2.1.n5;simp only[sA,e7]at hK|-;exact cE
  ·have hS:TG W (g+1) g vA (T 77) (bs++[n+i]) ow/\Row W g 164 [.int .i64 (m:Nat),.int .i64 (n:Nat),vA,vB,.int .i64 0]/\Row W g1 105 [vPA,.slice (some ⟨b1,off1,none⟩) m cB,vPC]:=hS;have e7:T 72=_:=hA.1 rfl;obtain⟨x0,x1,x2,x3,x4⟩:=hS.2.1.n5;simp only[sA,e7]at hK|-;exact cE
 case s13=>
  have hp:p∈[1,2]:=hp;simp only[List.mem_cons,List.not_mem_nil,or_false]at hp;rcases hp with rfl|rfl
  ·clear hS;have e0:T 65=_:=hA.1 rfl;have e1:T 66=_:=hA.2.2.1 rfl;have e2:T 67=_:=hA.2.2.2.1 rfl;have e3:T 68=_:=hA.2.2.2.2.1 rfl;have e4:T 69=_:=hA.2.2.2.2.2.1 rfl;have e5:T 70=_:=hA.2.2.2.2.2.2.1 rfl;have e6:T 71=_:=hA.2.2.2.2.2.2.2.1 rfl;have e7:T 72=_:=hA.2.2.2.2.2.2.2.2.1 rfl;have e8:T 73=_:=hA.2.2.2.2.2.2.2.2.2.1 rfl;have e9:T 74=_:=hA.2.2.2.2.2.2.2.2.2.2.1 rfl;have e10:T 75=_:=hA.2.2.2.2.2.2.2.2.2.2.2.1 rfl;have r12:(_:FW) W (T 77):=hA.2.2.2.2.2.2.2.2.2.2.2.2.2.1 rfl;exact dR
  ·clear hS;have e0:T 65=_:=hA.1 rfl;have e1:T 66=_:=hA.2.2.1 rfl;have e2:T 67=_:=hA.2.2.2.1 rfl;have e3:T 68=_:=hA.2.2.2.2.1 rfl;have e4:T 69=_:=hA.2.2.2.2.2.1 rfl;have e5:T 70=_:=hA.2.2.2.2.2.2.1 rfl;have e6:T 71=_:=hA.2.2.2.2.2.2.2.1 rfl;have e7:T 72=_:=hA.2.2.2.2.2.2.2.2.1 rfl;have e8:T 73=_:=hA.2.2.2.2.2.2.2.2.2.1 rfl;have e9:T 74=_:=hA.2.2.2.2.2.2.2.2.2.2.1 rfl;have e10:T 75=_:=hA.2.2.2.2.2.2.2.2.2.2.2.1 rfl;have r12:(_:FW) W (T 77):=hA.2.2.2.2.2.2.2.2.2.2.2.2.2.1 rfl;exact dR
 case s10=>
  clear hS;have e8:T 73=_:=hA.1 rfl;have e9:T 74=_:=hA.2.1 rfl;simp only[sA,e8,e9]at hK|-;have HK:=hii hK;clear hK hA;refine wO rfl ?_;go_simp;exact HK.o _ _ ⟨λ_=>br,λh=>absurd h (zas dM dM)⟩ ((congrArg (Value.int IntKind.i64) ((ziW oM).trans sM)))
 case s11=>
  clear hS;have e10:T 75=_:=hA.1 rfl;simp only[sA,e10]at hK|-;have HK:=hii hK;clear hK hA;refine wO rfl ?_;go_simp;obtain⟨w1,hw1⟩:∃w1,w1=W.alloc (.cells #[.int .i64 ((n+i:Nat):Int)] 3):=⟨_,rfl⟩;have hb1:BH W w1:=by rw[hw1];exact bA W _
  have hcw:w1.cell? ⟨W.heap.size,0,none⟩=some (.int .i64 ((n+i:Nat):Int)):=by rw[hw1];simp[go_sem]
  try simp only[<-Int.natCast_add]
  rw[<-hw1]
  try dsimp only
  exact HK.o _ _ ⟨λ_=>hb1,λh=>absurd h (zas dM dM)⟩ (⟨_,rfl,hcw⟩)
 case s12=>
  obtain rfl:p=0:=by simpa using hp
  have hS:TG W (g+1) g vA vB bs ow/\Row W g 164 [.int .i64 (m:Nat),.int .i64 (n:Nat),vA,vB,.int .i64 0]/\Row W g1 105 [vPA,.slice (some ⟨b1,off1,none⟩) m cB,vPC]:=hS;have e4:T 69=_:=hA.1 rfl;have r11:(_:FW) W (T 76):=hA.2.1 dM;simp only[sA,e4]at hK|-;have HK:=hii hK;clear hK hA;obtain⟨nb,e11,hc⟩:=r11;obtain⟨v1,w1,hr,ht,hbb,hk,hno⟩:=hS.1.appB (X:=W) (by have:=hS.1.gl;omega) br 55 hc hbs;rw[<-e11]at hr;refine wO rfl ?_;refine zat _ _ rfl rfl rfl hr ?_;simp only[Act.put,List.setIfInBounds_toArray,List.set_cons_zero,List.set_cons_succ];exact HK.o _ _ ⟨λh=>absurd rfl h,λ_=>⟨⟨ht,hS.2.1.under hbb oM,hS.2.2.under hbb oM⟩,hbb.mono (by have:=hwg;omega)⟩⟩ (ht.slB)
 case s15=>
  obtain rfl:p=1:=by simpa using hp
  have hS:TG W (g+1) g vA (T 77) (bs++[n+i]) ow/\Row W g 164 [.int .i64 (m:Nat),.int .i64 (n:Nat),vA,vB,.int .i64 0]/\Row W g1 105 [vPA,.slice (some ⟨b1,off1,none⟩) m cB,vPC]:=hS;have e14:T 79=_:=hA.1 rfl;have r12:(_:FW) W (T 77):=hA.2.1 rfl;have e0:T 65=_:=hA.2.2.2.1 rfl;have e1:T 66=_:=hA.2.2.2.2.1 rfl;have e2:T 67=_:=hA.2.2.2.2.2.1 rfl;have e3:T 68=_:=hA.2.2.2.2.2.2.1 rfl;have e4:T 69=_:=hA.2.2.2.2.2.2.2.1 rfl;have e5:T 70=_:=hA.2.2.2.2.2.2.2.2.1 rfl;have e6:T 71=_:=hA.2.2.2.2.2.2.2.2.2.1 rfl;have e7:T 72=_:=hA.2.2.2.2.2.2.2.2.2.2.1 rfl;have e8:T 73=_:=hA.2.2.2.2.2.2.2.2.2.2.2.1 rfl;have e9:T 74=_:=hA.2.2.2.2.2.2.2.2.2.2.2.2.1 rfl;have e10:T 75=_:=hA.2.2.2.2.2.2.2.2.2.2.2.2.2.1 rfl;obtain⟨hT2,hR2,hR12⟩:=hS;obtain⟨a9,n9,c9,e12⟩:=r12;rw[e12]at hT2;obtain⟨y0,y1,y2,y3,y4⟩:=hR2.n5;have fz:=hR2.free 3;have hno:=hR2.noU (by intro u hu;simp only[List.mem_cons,List.not_mem_nil,or_false]at hu;rcases hu with h|h|h|h|h<;>rw[h]<;>first|exact hvA|exact hvB|(intro z e;cases e));simp only[sA,e14,e0,e1,e2,e3,e4,e5,e6,e7,e8,e9,e10,e12]at hK|-;have HK:=hii hK;clear hK hA;refine wO rfl ?_;go_simp;exact HK.o undef _ ⟨λh=>absurd rfl h,λ_=>⟨⟨.slice a9 n9 c9,hT2.keptg ((zah.refl W:zah (λb=>b=g) W W).setCell (p:=⟨g,3,none⟩) rfl _) hno,hR2.set 3 _,hR12.oth oM _⟩,(Below.refl _ W).setCell (p:=⟨g,3,none⟩) (by have:=hwg;show _<=g;omega) _⟩⟩ (trivial)
 case he=>
  rintro T W hb hS hA;have hS:∃vB2,TG W (g+1) g vA vB2 (bs++[n+i]) ow/\Row W g 164 [.int .i64 (m:Nat),.int .i64 (n:Nat),vA,vB2,.int .i64 0]/\Row W g1 105 [vPA,.slice (some ⟨b1,off1,none⟩) m cB,vPC]:=hS;obtain⟨vB2,hT2,hR2,hR12⟩:=hS;simp only[sA];exact HQ0.o T W vB2 hT2 hR2 hR12 hb
theorem zjD(w:Wo):zaI (w.alloc (.cells #[] 32)) w.heap.size (.slice (some ⟨w.heap.size,0,none⟩) 0 0) [] :=
 ⟨[],World.ownsRow_made w #[] 0 nl (Nat.zero_le _) sM,zdS w #[] 32 0 0 sM,λi q h=>by simp at h⟩
theorem zcn(l:List Qo)(n b off c:Nat)(w:Wo)(hn:Hid (n=l.length))(hl:Hid (l.length<=100000))(hne:Hid (0<l.length))(u:UQ w (some ⟨b,off,none⟩) l) :
  CP 31 #[.slice (some ⟨b,off,none⟩) n c] w λe w'=>(∃v,e=.returned v/\zaI w' w.heap.size v l)/\BH w w':=by
 have q27:∀(w:Wo)(a:OA)(n c n' c':Nat),(binOp .eql 33 (.slice a n c) (.slice none n' c')).run Tryz.prog w=.ok (.bool a.isNone) w:=λw a n c n' c'=>Lib.run_eql_slice_nil w _ _ a n c n' c' Tryz.underlying33
 go_enter func31,ntmps31;rw[hn.o];have hba:=bA w (.cells #[] 32);have hm:=zjD w;have u2:=u.mono hba;go_wp2_with (at_builtin;go_loud (refine zoo _ w w.heap.size _ [] l (some ⟨b,off,none⟩) c rfl _ _ rfl rfl rfl hm hba.size hba u2 hne.o (by have:=hl.o;simp;omega) ?_);intro v2 w2 hown2 hbel2 hsz2 hgr);go_ret;exact⟨⟨v2,rfl,by simpa using hown2⟩,hbel2⟩
def zcb(A:List (List Rat))(b C:List Rat)(m n i j:Nat):Rat :=
 if i<m then(if j<n then(A.getD i []).getD j 0 else if j<n+m then(if i=j-n then 1 else 0)else b.getD i 0)else(if j<n then-(C.getD j 0)else 0)
theorem zcU(L:Nat->Nat->Rat)(i k:Nat):zbt L i (k+1)=zbt L i k++[some (L i k)]:=by
 unfold zbt;rw[List.range_succ,List.map_append];rfl
section
variable {A : List (List Rat)} {b C a : List Rat} {m n i k : Nat}
theorem zkO(hi:i<m)(ha:A[i]?=some a)(hl:a.length=n):zbt (zcb A b C m n) i n=a.map some:=by
 refine List.ext_getElem? λc=>?_
 by_cases hc:c<n
 ·rw[zbA hc,List.getElem?_map,gE oM,Option.map_some];have e:A.getD i []=a:=by rw[List.getD_eq_getElem?_getD,ha];rfl
  unfold zcb;rw[if_pos hi,if_pos hc,e,List.getD_eq_getElem?_getD,gE oM];rfl
 ·rw[List.getElem?_eq_none (by rw[zap];omega),List.getElem?_eq_none (by rw[List.length_map];omega)]
theorem zie(hi:i<m)(hk:k<m):zcb A b C m n i (n+k)=if k=i then 1 else 0:=by
 unfold zcb;rw[if_pos hi,if_neg oM,if_pos oM,show n+k-n=k by omega]
 by_cases e:i=k
 ·rw[if_pos e,if_pos e.symm]
 ·rw[if_neg e,if_neg λh=>e h.symm]
theorem znQ{x:Rat}(hi:i<m)(hb:b[i]?=some x):zcb A b C m n i (n+m)=x:=by
 unfold zcb;rw[if_pos hi,if_neg oM,if_neg oM,List.getD_eq_getElem?_getD,hb];rfl
theorem znP{x:Rat}(hk:k<n)(hc:C[k]?=some x):zcb A b C m n m k=- x:=by
 unfold zcb;rw[if_neg oM,if_pos hk,List.getD_eq_getElem?_getD,hc];rfl
theorem znO:zcb A b C m n m (n+k)=0:=by
 unfold zcb;rw[if_neg oM,if_neg oM]
end
theorem zlx(n i:Nat):(List.range i).map (n+·)++[n+i]=(List.range (i+1)).map (n+·):=by
 rw[List.range_succ,List.map_append];rfl
theorem zhT{f:Nat->List Qo}{x:Vl}{l:List Qo}(h:ow.map (·.2)=(List.range i).map f)(hl:l=f i):(ow++[(x,l)]).map (·.2)=(List.range (i+1)).map f:=by
 rw[List.map_append,h,List.range_succ,List.map_append,hl];rfl
section
variable {ops : Array Oper} {rest : List Oper} {o : Oper} {a : Act} {Q : Exit → Act → Wo → Prop}
theorem znb(wo W:Wo)(g:Nat)(hgd:o.guard=none)(s x:Operand)(ho:o.op=.call {callee:=.builtin .append,args:=#[s,x],argTypes:=#[103,103]})
  {vA vB:Vl}{bs:LN}{ow:List (Vl×List Qo)}{ar:OA}{n cr:Nat}{l:List Qo}(hs:a.eval s=vA)(hx:a.eval x=.slice (some ⟨W.heap.size,0,none⟩) 1 1)(hT:TG wo (g+1) g vA vB bs ow)(hbo:BH wo W)
  (hown:zaI W wo.heap.size (.slice ar n cr) l)(hl:ow.length<=1000000)
  (hK:∀a' n' c' w',TG w' (g+1) g (.slice a' n' c') vB bs (ow++[(.slice ar n cr,l)])->Below (g+1) W w'->wpList Tryz.prog ops Q rest (a.put o.dst (.slice a' n' c')) w') :
  wpList Tryz.prog ops Q (o :: rest) a (W.alloc (.cells #[.slice ar n cr] 33)):=by
 have hba:=bA W (.cells #[.slice ar n cr] 33);have hsz:=hba.size;have hgo:=hT.gl;have hso:=hbo.size;obtain⟨v',w',hr,ht,hb,gr⟩:=hT.appA (X:=W) (bu hbo hba) (hown.mono hba) oM ((Below.refl _ W).alloc oM _) o.type (bx:=W.heap.size) (c:=1) (by simp[go_sem]) hl;refine wpList_plain hgd λK hK'=>?_
 unfold Oper.wp;simp[execOp,ho,resolve,invoke,builtin,hs,hx,hr,Result.andThen];obtain⟨a',n',c',rfl⟩:=ht.slA;exact hK' _ _ (hK a' n' c' w' ht hb)
end
theorem zlw(A:List (List Rat))(b C:List Rat)(m n:Nat)(hA:Hid (A.length=m/\∀r∈A,r.length=n))(hB:Hid (b.length=m))(hC:Hid (C.length=n))(hm:1<=m/\m<=1000)(hn:1<=n/\n<=1000)(aA aB aC:OA)(cA cB cC:Nat)(w:Wo)(uA:UM w aA (A.map (·.map some)))(uB:UQ w aB (b.map some))(uC:UQ w aC (C.map some))(hE:Env w) :
  CP 115 #[.agg #[.slice aA m cA,.slice aB m cB,.slice aC n cC]] w λe w'=>(∃g ga ca gb cb rr cr,e=.returned (.pointer (some ⟨g,0,none⟩))/\TB w' w.heap.size g ga ca gb cb m n (n+m) rr cr (zcb A b C m n) (λi=>n+i))/\BH w w':=by
 have hE0:=hE;go_enter func115,ntmps115;go_upto_region 1 with fail;have hb:=bA w (.cells #[.slice aA m cA,.slice aB m cB,.slice aC n cC] 105);have r1:Row (w.alloc (.cells #[.slice aA m cA,.slice aB m cB,.slice aC n cC] 105)) w.heap.size 105 [.slice aA m cA,.slice aB m cB,.slice aC n cC]:=heap_alloc_new _ _;have hsz:(w.alloc (.cells #[.slice aA m cA,.slice aB m cB,.slice aC n cC] 105)).heap.size=w.heap.size+1:=sM;obtain⟨g1,hg⟩:=exi (w.heap.size);rw[<-hg]at r1 hsz|-;have Hg1:Hid (w.heap.size=g1):=hii hg.symm;clear hg;generalize w.alloc (.cells #[.slice aA m cA,.slice aB m cB,.slice aC n cC] 105)=w1 at*;have Hsz:=hii hsz;have hbw:=hb;clear hb hsz;obtain⟨x0,x1,x2⟩:=r1.n3;go_upto_region 2 with fail;clear x0 x1 x2;have hb:=bA w1 (.cells #[.int .i64 (m:Nat),.int .i64 (n:Nat),.slice none 0 0,.slice none 0 0,.int .i64 0] 164);have rg:Row (w1.alloc (.cells #[.int .i64 (m:Nat),.int .i64 (n:Nat),.slice none 0 0,.slice none 0 0,.int .i64 0] 164)) w1.heap.size 164 [.int .i64 (m:Nat),.int .i64 (n:Nat),.slice none 0 0,.slice none 0 0,.int .i64 0]:=heap_alloc_new _ _;obtain⟨g,hg⟩:=exi (w1.heap.size);rw[<-hg]at rg|-;have Hg:Hid (g=g1+1):=hii (by rw[hg,Hsz.o]);clear hg;generalize w1.alloc (.cells #[.int .i64 (m:Nat),.int .i64 (n:Nat),.slice none 0 0,.slice none 0 0,.int .i64 0] 164)=w2 at*;have r1:=r1.below hb;have hbw:=bu hbw hb;clear hb Hsz;have hwg:Hid (w.heap.size<=g1/\g1<g):=hii (by have:=Hg1.o;have:=Hg.o;omega);obtain⟨x0,x1,x2⟩:=r1.n3;go_wp2_with fail;clear x0 x1 x2;go_loopw [22] (λs wr=>∃(i:Nat)(vA vB:Vl)(ow:List (Vl×List Qo)),i<=m/\s=.int .i64 (i:Nat)/\Row wr g 164 [.int .i64 (m:Nat),.int .i64 (n:Nat),vA,vB,.int .i64 0]/\Row wr g1 105 [.slice aA m cA,.slice aB m cB,.slice aC n cC]/\TG wr (g+1) g vA vB ((List.range i).map (n+·)) ow/\Hid (ow.map (·.2)=(List.range i).map λt=>zbt (zcb A b C m n) t (n+m+1))/\BH w wr) (λs _=>m-(intOf s).toNat)
 case atStart=>exact⟨0,_,_,[],Nat.zero_le _,rfl,rg,r1,TG.nil rg.lt,hii rfl,hbw⟩
 case round=>
  clear rg r1 hbw;obtain⟨i,vA,vB,ow,hi,rfl,rg,r1,hT,HO,hbw⟩:=hrel;have HOl:Hid (ow.length=i):=hii (by have:=congrArg List.length HO.o;simpa using this);have hnA:zaM vA:=by obtain⟨_,_,_,rfl⟩:=hT.slA;intro z e;cases e
  have hnB:zaM vB:=by obtain⟨_,_,_,rfl⟩:=hT.slB;intro z e;cases e
  have HnA:=hii hnA;have HnB:=hii hnB;clear hnA hnB
  by_cases hlt:i<m
  ·have hAi:i<A.length:=by rw[hA.o.1];exact hlt
   obtain⟨a,ha⟩:∃a,A[i]?=some a:=⟨A[i],gE hAi⟩;have han:=hA.o.2 a (List.mem_of_getElem? ha);have HR0:=hii (zkO (b:=b) (C:=C) hlt ha han);obtain⟨b0,off0,ar,cr,ea,hc,ur⟩:=(uA.mono hbw) i (a.map some) (by rw[List.getElem?_map,ha];rfl);rw[List.length_map,han]at hc;have Hll:Hid (n=(a.map some).length):=hii (by rw[List.length_map,han]);obtain⟨b2,off2,ear⟩:∃b2 off2,ar=some ⟨b2,off2,none⟩:=by
    have h0:0<(a.map some).length:=by rw[<-Hll.o];omega
    obtain⟨b2,off2,_,_,_,_,_,_,_,_,e,_⟩:=ur 0 (a.map some)[0] (gE h0);exact⟨b2,off2,e⟩
   clear hAi ha han;subst ea;subst ear;have hxi:(i:Int)<(m:Int):=oM;go_wp2_with fail;go_fit (zcn (a.map some) n b2 off2 cr wr Hll (hii (by rw[<-Hll.o];omega)) (hii (by rw[<-Hll.o];omega)) ur);rintro e w3⟨⟨v6,rfl,hown⟩,hb3⟩;rw[<-HR0.o]at hown;obtain⟨wo,rfl⟩:=exi wr;have hwo:=hbw;have rgo:=rg;have r1o:=r1;have hbo:=hb3;have hs0:Hid (g+1<=wo.heap.size):=hii hT.gl;have hown0:zaI w3 wo.heap.size v6 (zbt (zcb A b C m n) i (n+0)):=hown;clear hc ur hb3 hown;obtain⟨x0,x1,x2,x3,x4⟩:=(rgo.below hbo).n5;go_wp2_with fail;clear x0 x1 x2 x3 x4;go_loopw [6,33] (λs6 s33 wr=>∃k:Nat,k<=m/\s33=.int .i64 (k:Nat)/\zaI wr wo.heap.size s6 (zbt (zcb A b C m n) i (n+k))/\BH wo wr) (λ_ s33 _=>m-(intOf s33).toNat)
   case atStart=>exact⟨0,Nat.zero_le _,rfl,hown0,hbo⟩
   case round=>
    clear hbo hown0;obtain⟨k,hk,rfl,hown,hbo⟩:=hrel;have hEr:=(hE0.mono hwo).mono hbo
    by_cases hkm:k<m
    ·have HS:Hid (zbt (zcb A b C m n) i (n+(k+1))=zbt (zcb A b C m n) i (n+k)++[some (if k=i then 1 else 0)]):=hii (by rw[<-zie (A:=A) (b:=b) (C:=C) (n:=n) hlt hkm];exact zcU _ _ _);have hlen:(zbt (zcb A b C m n) i (n+k)).length<=100000:=by rw[zap];omega
     have Hlen:=hii hlen;clear hlen
     by_cases hki:k=i
     ·have gk:((k:Int)==(i:Int))=true:=by simp[hki]
      rw[if_pos hki]at HS;clear hki;go_wp2_with fail;go_fit (zml wr hEr);rintro e v1⟨hz,hb⟩;obtain⟨ng,ao,nn,cap,nh,ap,mm,caq,rfl,hV⟩:=hz.rat;have hown:=hown.mono hb;have hbo:=bu hbo hb;have hsz:=hbo.size;clear hb;go_wp2_with (at_builtin;refine zh7 _ wo rfl (.tmp 39) (.tmp 41) rfl wo.heap.size _ _ rfl hown hsz hbo hV rfl Hlen.o ?_;intro v3 w4 hown3 hbel3);go_roundw
      case rel=>exact⟨k+1,oM,gM,by rw[HS.o];exact hown3,hbel3⟩
      case measure=>exact mM
     ·have gk:((k:Int)==(i:Int))=false:=by simp;omega
      rw[if_neg hki]at HS;clear hki;go_wp2_with fail;go_fit (zeQ wr hEr);rintro e v1⟨hz,hb⟩;obtain⟨ng,ao,nn,cap,nh,ap,mm,caq,rfl,hV⟩:=hz.rat;have hown:=hown.mono hb;have hbo:=bu hbo hb;have hsz:=hbo.size;clear hb;go_wp2_with (at_builtin;refine zh7 _ wo rfl (.tmp 43) (.tmp 45) rfl wo.heap.size _ _ rfl hown hsz hbo hV rfl Hlen.o ?_;intro v3 w4 hown3 hbel3);go_roundw
      case rel=>exact⟨k+1,oM,gM,by rw[HS.o];exact hown3,hbel3⟩
      case measure=>exact mM
    ·have hke:k=m:=oM;have gkd:decide ((k:Int)<(m:Int))=false:=decide_eq_false oM;rw[show n+k=n+m by omega]at hown;clear hke hk;obtain⟨b6,c6,e6⟩:=hown.addr' (by rw[zap];omega);rw[zap]at e6;subst e6;have hownm:=hown;clear hown;have hbi:i<b.length:=by rw[hB.o];exact hlt
     obtain⟨bi,hbi0⟩:∃x,b[i]?=some x:=⟨b[i],gE hbi⟩;have HBI:=hii (znQ (A:=A) (C:=C) (n:=n) hlt hbi0);obtain⟨b1,off1,J5,ao5,n5,Y5,K5,ap5,m5,Z5,eb,z5,V5⟩:=uB i (some bi) (by rw[List.getElem?_map,hbi0];rfl);have V5:zad w (qA J5 ao5 n5 Y5 K5 ap5 m5 Z5) bi:=V5;clear hbi hbi0;subst eb;have Hbw:Hid (BH w wr):=hii (hwo.trans (hbo.mono hwo.size));go_upto_region 13 with fail;refine zpS (w0:=w) (wo:=wo) Hbw.o hwo hwg.o rgo r1o hT hbo hownm hlt z5 V5 (by rw[zap];omega) (by have:=HOl.o;omega) HnA.o HnB.o ?_;rintro T w5 x vA2 hT2 rg2 r12 hb5;have HO2:Hid ((ow++[(x,zbt (zcb A b C m n) i (n+m)++[some bi])]).map (·.2)=(List.range (i+1)).map λt=>zbt (zcb A b C m n) t (n+m+1)):=hii (zhT HO.o (by rw[zcU,HBI.o]));have hnA2:zaM vA2:=by obtain⟨_,_,_,rfl⟩:=hT2.slA;intro z e;cases e
     clear hT rgo r1o hbo hownm HO;go_upto_region 14 with fail;refine zpR (w0:=w) hb5 hwg.o rg2 r12 hT2 oM (by simp;omega) hnA2 HnB.o ?_;rintro T2 w6 vB2 hT3 rg3 r13 hb6;rw[zlx]at hT3;clear hT2 rg2 r12 hb5;go_wp2;go_roundw
     case rel=>exact⟨i+1,vA2,vB2,_,oM,gM,rg3,r13,hT3,HO2,hb6⟩
     case measure=>exact mM
  ·have hie:i=m:=oM;have gid:decide ((i:Int)<(m:Int))=false:=decide_eq_false oM;have hTm:TG wr (g+1) g vA vB ((List.range m).map (n+·)) ow:=by rw[show List.range m=List.range i by rw[hie]];exact hT
   have HOm:Hid (ow.map (·.2)=(List.range m).map λt=>zbt (zcb A b C m n) t (n+m+1)):=hii (by rw[show List.range m=List.range i by rw[hie]];exact HO.o);have HOl:Hid (ow.length=m):=hii (HOl.o.trans hie);clear hie hT HO hi;obtain⟨wo,rfl⟩:=exi wr;have hs0:Hid (g+1<=wo.heap.size):=hii hTm.gl;have hown0:zaI wo wo.heap.size (.slice none 0 0) (zbt (zcb A b C m n) m 0):=zaI.nil _ _;have hb0:=Below.refl wo.heap.size wo;obtain⟨x0,x1,x2⟩:=r1.n3;go_wp2_with fail;clear x0 x1 x2;go_loopw [8,84] (λs8 s84 wr=>∃k:Nat,k<=n/\s84=.int .i64 (k:Nat)/\zaI wr wo.heap.size s8 (zbt (zcb A b C m n) m k)/\BH wo wr) (λ_ s84 _=>n-(intOf s84).toNat)
   case atStart=>exact⟨0,Nat.zero_le _,rfl,hown0,hb0⟩
   case round=>
    clear hown0 hb0;obtain⟨k,hk,rfl,hown,hbo⟩:=hrel
    by_cases hkn:k<n
    ·have hck:k<C.length:=by rw[hC.o];exact hkn
     obtain⟨x,hx⟩:∃x,C[k]?=some x:=⟨C[k],gE hck⟩;have HS:Hid (zbt (zcb A b C m n) m (k+1)=zbt (zcb A b C m n) m k++[some (-x)]):=hii (by rw[<-znP (A:=A) (b:=b) (m:=m) hkn hx];exact zcU _ _ _);have Hlen:Hid ((zbt (zcb A b C m n) m k).length<=100000):=hii (by rw[zap];omega);have hbwr:=hbw.trans (hbo.mono hbw.size);obtain⟨b3,off3,J5,ao5,n5,Y5,K5,ap5,m5,Z5,ec,z5,V5⟩:=(uC.mono hbwr) k (some x) (by rw[List.getElem?_map,hx];rfl);have V5:zad wr (qA J5 ao5 n5 Y5 K5 ap5 m5 Z5) x:=V5;clear hck hx;subst ec;obtain⟨f0,f1,f2,f3,_,_,_,_⟩:=id z5;go_upto_region 20 with fail;have r10:Row (wr.alloc (.cells #[.bool J5,.slice ao5 n5 Y5,.bool K5,.slice ap5 m5 Z5] 32)) wr.heap.size 32 [.bool J5,.slice ao5 n5 Y5,.bool K5,.slice ap5 m5 Z5]:=heap_alloc_new _ _;have hb:=bA wr (.cells #[.bool J5,.slice ao5 n5 Y5,.bool K5,.slice ap5 m5 Z5] 32);obtain⟨g10,hg⟩:=exi (wr.heap.size);rw[<-hg]at r10|-;clear hg;generalize wr.alloc (.cells #[.bool J5,.slice ao5 n5 Y5,.bool K5,.slice ap5 m5 Z5] 32)=v0 at*;have V5:=V5.mono hb;have hown:=hown.mono hb;have hbo:=bu hbo hb;have hEr:=(hE0.mono hbw).mono hbo;clear hb f0 f1 f2 f3 z5 hbwr;obtain⟨f0,f1,f2,f3⟩:=r10.n4;go_wp2_with fail;go_fit (zeV _ x v0 V5 hEr);rintro e v1⟨hz,hb⟩;obtain⟨ng,ao,nn,cap,nh,ap,mm,caq,rfl,hV⟩:=hz.rat;have hown:=hown.mono hb;have hbo:=bu hbo hb;have hsz:=hbo.size;clear hb f0 f1 f2 f3 r10;go_wp2_with (at_builtin;refine zh7 _ wo rfl (.tmp 88) (.tmp 91) rfl wo.heap.size _ _ rfl hown hsz hbo hV rfl Hlen.o ?_;intro v3 w4 hown3 hbel3);go_roundw
     case rel=>exact⟨k+1,oM,gM,by rw[HS.o];exact hown3,hbel3⟩
     case measure=>exact mM
    ·have hke:k=n:=oM;have gkd:decide ((k:Int)<(n:Int))=false:=decide_eq_false oM;rw[show k=n+0 by omega]at hown;have hown0:=hown;clear hke hown hk;have hb0:=hbo;clear hbo;obtain⟨x0,x1,x2,x3,x4⟩:=(rg.below hb0).n5;obtain⟨wp,rfl⟩:=exi wr;go_wp2_with fail;clear x0 x1 x2 x3 x4;go_loopw [8,99] (λs8 s99 wr=>∃k:Nat,k<=m+1/\s99=.int .i64 (k:Nat)/\zaI wr wo.heap.size s8 (zbt (zcb A b C m n) m (n+k))/\BH wo wr) (λ_ s99 _=>m+1-(intOf s99).toNat)
     case atStart=>exact⟨0,Nat.zero_le _,rfl,hown0,hb0⟩
     case round=>
      clear hown0 hb0;obtain⟨k,hk,rfl,hown,hbo⟩:=hrel;have hEr:=(hE0.mono hbw).mono hbo
      by_cases hkn:k<m+1
      ·have HS:Hid (zbt (zcb A b C m n) m (n+(k+1))=zbt (zcb A b C m n) m (n+k)++[some 0]):=hii (by rw[<-znO (A:=A) (b:=b) (C:=C) (m:=m) (n:=n) (k:=k)];exact zcU _ _ _);have Hlen:Hid ((zbt (zcb A b C m n) m (n+k)).length<=100000):=hii (by rw[zap];omega);have gk1:(k:Int)<(m:Int)+1:=oM;go_wp2_with fail;go_fit (zeQ wr hEr);rintro e v1⟨hz,hb⟩;obtain⟨ng,ao,nn,cap,nh,ap,mm,caq,rfl,hV⟩:=hz.rat;have hown:=hown.mono hb;have hbo:=bu hbo hb;have hsz:=hbo.size;clear hb;go_wp2_with (at_builtin;refine zh7 _ wo rfl (.tmp 101) (.tmp 103) rfl wo.heap.size _ _ rfl hown hsz hbo hV rfl Hlen.o ?_;intro v3 w4 hown3 hbel3);go_roundw
       case rel=>exact⟨k+1,oM,gM,by rw[HS.o];exact hown3,hbel3⟩
       case measure=>exact mM
      ·have hke:k=m+1:=oM;have gkd2:decide ((k:Int)<(m:Int)+1)=false:=decide_eq_false oM;rw[show n+k=n+m+1 by omega]at hown;have hownm:=hown;clear hke hown hk hkn;obtain⟨b8,c8,e8⟩:=hownm.addr' (by rw[zap];omega);rw[zap]at e8;subst e8;have rgw:=rg.below hbo;obtain⟨x0,x1,x2,x3,x4⟩:=(rgw.below (bA wr (.cells #[.slice (some ⟨b8,0,none⟩) (n+m+1) c8] 33))).n5;obtain⟨y0,y1,y2,y3,y4⟩:=rgw.n5;obtain⟨aA2,nA2,cA2,rfl⟩:=hTm.slA;go_wp2_with (at_builtin;go_loud (refine znb wo wr g rfl (.tmp 110) (.tmp 112) rfl rfl rfl hTm hbo hownm (by have:=HOl.o;omega) ?_);intro a' n' c' w4 ht4 hb4;have rg4:=rgw.under hb4 (Nat.lt_succ_self g);have fz4:=rg4.free 2;clear x0 x1 x2 x3 x4 y0 y1 y2 y3 y4;obtain⟨z0,z1,z2,z3,z4⟩:=rg4.n5);go_ret;have hno:=rg4.noU (by intro u hu;simp only[List.mem_cons,List.not_mem_nil,or_false]at hu;rcases hu with h|h|h|h|h<;>rw[h]<;>first|exact HnB.o|(intro z e;cases e));have hk4:=(zah.refl w4:zah (λb=>b=g) w4 w4).setCell (p:=⟨g,2,none⟩) rfl (.slice a' n' c');have hTf:=(ht4.keptg hk4 hno).low (B':=w.heap.size) (by have:=hwg.o;omega);have hbf:Below w.heap.size w (w4.setCell ⟨g,2,none⟩ (.slice a' n' c')):=((hbw.trans (hbo.mono hbw.size)).trans (hb4.mono (by have:=hwg.o;omega))).trans (hk4.below (λb e=>by have:=hwg.o;omega) (by have:=hbw.size;have:=hbo.size;have:=hb4.size;omega));obtain⟨ga,ca,gb,cb,rr,cr,hTB⟩:=hTf.tb (L:=(zcb A b C m n)) (b0:=λi=>n+i) ⟨w,hE0,rfl,hbf⟩ (rg4.set 2 _) (by have:=hwg.o;omega) (zhT HOm.o rfl) rfl oM ⟨hm.2,hn.2⟩ rfl;exact⟨⟨g,ga,ca,gb,cb,rr,cr,rfl,hTB⟩,hbf⟩
end Go.Proofs.YtfgffkmddanjjaaGreatDoor
