/-
  load: Schedule.
-/
import Derived.Test.YtfgffkmddanjjaaGreatDoorLn
import Derived.Test.YtfgffkmddanjjaaGreatDoorLa
import Derived.Test.YtfgffkmddanjjaaGreatDoorLq1
import Derived.Test.YtfgffkmddanjjaaGreatDoorLk1
import Derived.Test.YtfgffkmddanjjaaGreatDoorQ5
set_option linter.unusedVariables false
set_option linter.unusedSimpArgs false
set_option maxRecDepth 100000
set_option maxHeartbeats 25600000
namespace Go.Proofs.YtfgffkmddanjjaaGreatDoor
open _root_.Go.Proofs.Tryz
open Go.RowKit
def zjw:World->List Value->Nat->Prop:=λ _ c k => c=[.int .i64 (k:Nat)]
theorem zaZ:zc4 zjw:=λ _ _ _ _ _ h _ _ => h
theorem zn4 {a:Int}:∀ u∈[Value.int .i64 a],zaI u:=by
 intro u hu;simp at hu;subst hu;intro z e
 cases e
def zbp (b:Nat->Rat):Nat->Nat
 | 0 => 0
 | i + 1 => if b (zbp b i) < b i then i else zbp b i
theorem zdy (b:Nat->Rat):∀ i,zbp b i<=i - 1
 | 0 => nl
 | i + 1 => by
  have:=zdy b i;simp only [zbp]
  split <;> omega
def zdG (p:Nat->Rat) (t:Nat) (out:List Nat) (i:Nat):Rat:=(t:Rat) * p i - (out.count i:Rat)
def zfO (p:Nat->Rat) (N:Nat):Nat->List Nat
 | 0 => []
 | t + 1 => zfO p N t ++ [zbp (λ i => zdG p (t + 1) (zfO p N t) i) N]
theorem zen (p:Nat->Rat) (N:Nat):∀ t,(zfO p N t).length=t
 | 0 => rfl
 | t + 1 => by simp [zfO,zen p N t]
theorem zkn (p:Nat->Rat) (t:Nat) (out:List Nat) (i:Nat):zdG p (t + 1) out i=zdG p t out i + p i:=by
 unfold zdG;rw [show ((t + 1:Nat):Rat)=(t:Rat) + 1 from Rat.natCast_add t 1]
 grind
theorem zfv (p:Nat->Rat) (t:Nat) (out:List Nat) (b i:Nat):zdG p t (out ++ [b]) i=if i=b then zdG p t out i - 1 else zdG p t out i:=by
 unfold zdG
 by_cases h:i=b
 ·subst h;rw [if_pos rfl,List.count_append,List.count_singleton_self,show ((out.count i + 1:Nat):Rat)=(out.count i:Rat) + 1 from Rat.natCast_add _ 1]
  grind
 ·rw [if_neg h,List.count_append,List.count_singleton,if_neg (by simpa using λ e => h e.symm),Nat.add_zero]
def zot (w':World) (e:Ending) (k:Nat) (l:List Nat):Prop:=∃ ao c,e=.returned (.tuple #[.slice ao k c,.int .i64 0])/\EU 1 zjw w' ao l
def zns (p:Nat->Rat) (N:Nat):Prop:=(∀ i,i < N->Kb 1 (p i))/\∀ i,i < N->∀ t u:Nat,t<=60->u<=60->Kb 1 ((t:Rat) * p i - (u:Rat))
theorem zns.beh {p:Nat->Rat} {N:Nat} (h:zns p N) {i t:Nat} (hi:i < N) (ht:t<=60) {out:List Nat} (ho:out.length<=60):Kb 1 (zdG p t out i) :=
 h.2 i hi t _ ht (Nat.le_trans List.count_le_length ho)
theorem zaz.six6 {w:World} {B g n cap i:Nat} {l:List Qo} {r:Rat} (h:zaz w B (.slice (some ⟨g,0,none⟩) n cap) l) (hi:l[i]?=some (some r)):∃ J1 ao1 n1 Y1 K1 ap1 m1 Z1,w.cell? ⟨g,i * 4,none⟩=some (.bool J1)/\w.cell? ⟨g,i * 4 + 1,none⟩=some (.slice ao1 n1 Y1)/\w.cell? ⟨g,i * 4 + 2,none⟩=some (.bool K1)/\w.cell? ⟨g,i * 4 + 3,none⟩=some (.slice ap1 m1 Z1)/\zac w (qA J1 ao1 n1 Y1 K1 ap1 m1 Z1) r/\∀ j,w.frozen? ⟨g,j,none⟩=false:=by
 obtain ⟨ao,c,e,hu⟩:=h.read;simp only [Value.slice.injEq] at e;obtain ⟨rfl,-,-⟩:=e;obtain ⟨b,off,J1,ao1,n1,Y1,K1,ap1,m1,Z1,e2,f,hv⟩:=hu i (some r) hi;simp only [Option.some.injEq,Addr.mk.injEq,and_true] at e2;obtain ⟨rfl,rfl⟩:=e2;obtain ⟨xs,h1,_⟩:=h;obtain ⟨f0,f1,f2,f3,_,_,_,_⟩:=f;rw [Nat.zero_add] at f0 f1 f2 f3;exact ⟨J1,ao1,n1,Y1,K1,ap1,m1,Z1,f0,f1,f2,f3,hv,λ j => zaQ h1 j⟩
theorem zgg (sh:List ((Nat × Nat) × Rat)) (p:Nat->Rat) (k:Nat) (aL:Option Addr) (cL:Nat) (w:World) (hk60:k<=60) (hN1:1<=sh.length) (hN2:sh.length<=20) (Hp:Hid (∀ (i:Nat) (s:(Nat × Nat) × Rat),sh[i]?=some s->s.2=p i)) (HK:Hid (zns p sh.length)) (HP:Hid (zbn ((shQ sh).map (·.2))=0)) (uL:EU 6 zcK w aL (shQ sh)) (hE:Env w) :
  Calls Tryz.prog 18 #[.slice aL sh.length cL,.int .i64 (k:Nat)] w λ e w' => zot w' e k (zfO p sh.length k)/\BH w w':=by
 have hbw:=Below.refl w.heap.size w;have HPO:=zgK (shQ sh) aL cL w (by simp [shQ]; omega) uL hE;rw [HP.out,show (shQ sh).length=sh.length by simp [shQ]] at HPO;obtain ⟨sn,hN⟩:∃ sn,sh.length=sn:=⟨_,rfl⟩;have HN:=hii hN;rw [hN] at hN1 hN2 HPO HK |-;have hd1:decide ((k:Int) < 0)=false:=decide_eq_false (by omega);have hd2:decide ((1000:Int) < (k:Int))=false:=decide_eq_false (by omega);have hd3:((sn:Int) == 0)=false:=by simp; omega
 clear hN HP;go_enter func18,ntmps18;go_wp2_with fail;(with_reducible refine HPO.mono ?_);rintro e w1 ⟨rfl,hb⟩;have hE1:=hE.mono hb;have hbw:=bu hbw hb;clear hb HPO hd1 hd2 hd3;have hB1:w.heap.size<=w1.heap.size:=hbw.size;go_wp2_with fail;go_loopw [7,32] (λ v s wr => ∃ i:Nat,i<=sn/\s=.int .i64 i/\zaz wr w.heap.size v (List.replicate i (some (0:Rat)))/\Hid (BH w wr)) (λ _ s _ => sn - (intOf s).toNat)
 case atStart => exact ⟨0,Nat.zero_le _,rfl,zaz.nil _ _,hii hbw⟩
 case round =>
  clear hbw hB1;obtain ⟨i,hi,rfl,hO,Hbw⟩:=hrel
  by_cases hli:i < sn
  ·have hEr:=hE.mono Hbw.out;have HL:Hid ((List.replicate i (some (0:Rat)):List Qo).length<=100000):=hii (by simp; omega);have hiN:(i:Int) < (sn:Int):=by omega
   go_wp2_with fail;go_fit (zaF 0 (by decide) (by decide) wr hEr);rintro e wx ⟨hz,hb⟩;obtain ⟨J1,ao1,n1,Y1,K1,ap1,m1,Z1,rfl,hV⟩:=hz.rat;have hV:zac wx (qA J1 ao1 n1 Y1 K1 ap1 m1 Z1) 0:=hV;have hO:=hO.mono hb;have hbx:=Below.step Hbw.out hb nl;clear hz hb;go_wp2_with (at_builtin; go_loud (refine zmZ _ w w.heap.size rfl (.tmp 34) (.tmp 36) rfl rfl rfl hO hbx.size hbx hV HL.out ?_); intro v2 w6 hO2 hb2);rw [show (List.replicate i (some (0:Rat)) ++ [some 0]:List Qo)=List.replicate (i + 1) (some 0) by rw [List.replicate_succ']] at hO2;go_roundw
   case rel => exact ⟨i + 1,by omega,by go_num,hO2,hii hb2⟩
   case measure => simp [intOf]; omega
  ·have hiN:i=sn:=by omega
   rw [hiN] at hO;have hi2:¬ (i:Int) < (sn:Int):=by omega
   obtain ⟨b7,c7,e7⟩:=hO.addr' (by simp; omega);rw [List.length_replicate] at e7;subst e7;have hpt:(List.replicate sn (some (0:Rat)):List Qo)=ptL (zdG p 0 (zfO p sn 0)) sn:=by
    refine List.ext_getElem? λ j => ?_
    rw [List.getElem?_replicate]
    by_cases hj:j < sn
    ·rw [if_pos hj,zbb hj];unfold zdG zfO;rw [List.count_nil]
     congr 2
     have e1:((0:Nat):Rat)=0:=rfl;rw [e1]
     grind
    ·rw [if_neg hj,List.getElem?_eq_none (by rw [zaN]; omega)]
   rw [hpt] at hO;obtain ⟨wL,rfl⟩:=exi wr;have H7:=hii (hO.lt b7 rfl);have hOut:zcc 3 1 zjw wL wL.heap.size (.slice none 0 0) (zfO p sn 0):=zcc.nil _ _;clear hpt hiN hli;go_wp2_with fail;clear hi2;go_loopw [8,40] (λ v s wr => ∃ t:Nat,t<=k/\s=.int .i64 t/\zaz wr w.heap.size (.slice (some ⟨b7,0,none⟩) sn c7) (ptL (zdG p t (zfO p sn t)) sn)/\zcc 3 1 zjw wr wL.heap.size v (zfO p sn t)/\Hid (BH w wr)/\Hid (wL.heap.size<=wr.heap.size)) (λ _ s _ => k - (intOf s).toNat)
   case atStart => exact ⟨0,Nat.zero_le _,rfl,hO,hOut,Hbw,hii nl⟩
   case round =>
    clear hO hOut Hbw;obtain ⟨t,ht,rfl,hO,hOut,Hbw,HLs⟩:=hrel
    by_cases hlt:t < k
    ·obtain ⟨out,hout⟩:∃ o,zfO p sn t=o:=⟨_,rfl⟩;have Hout:=hii hout;have HoL:Hid (out.length<=60):=hii (by rw [<- hout,zen]; omega);rw [hout] at hO hOut;obtain ⟨gn,hG⟩:∃ gn:Nat->Rat,gn=zdG p (t + 1) out:=⟨_,rfl⟩;have HG:=hii hG;have hO:zaz wr w.heap.size (.slice (some ⟨b7,0,none⟩) sn c7) (ptL (λ j => if j < 0 then gn j else zdG p t out j) sn):=by simpa using hO
     have htk:(t:Int) < (k:Int):=by omega
     clear hout hG;go_wp2_with fail;clear htk;go_loopw [9,44] (λ bst s wr => ∃ i:Nat,i<=sn/\s=.int .i64 i/\bst=.int .i64 (zbp gn i:Nat)/\zaz wr w.heap.size (.slice (some ⟨b7,0,none⟩) sn c7) (ptL (λ j => if j < i then gn j else zdG p t out j) sn)/\zcc 3 1 zjw wr wL.heap.size u8 out/\Hid (BH w wr)/\Hid (wL.heap.size<=wr.heap.size)) (λ _ s _ => sn - (intOf s).toNat)
     case atStart => exact ⟨0,Nat.zero_le _,rfl,rfl,hO,hOut,Hbw,HLs⟩
     case round =>
      clear hO hOut Hbw HLs;obtain ⟨i,hi,rfl,rfl,hO,hOut,Hbw,HLs⟩:=hrel
      by_cases hli:i < sn
      ·obtain ⟨⟨⟨r,s⟩,x⟩,hx⟩:∃ x,sh[i]?=some x:=⟨sh[i]'(by rw [HN.out]; exact hli),gE _⟩;have hxp:x=p i:=Hp.out i _ hx;have hxL:(shQ sh)[i]?=some ((r,s),some x):=by unfold shQ; rw [List.getElem?_map,hx]; rfl
       obtain ⟨bL,offL,J2,ao2,n2,Y2,K2,ap2,m2,Z2,ea,hvp,h0,h1,h2,h3,h4,h5⟩:=(uL.mono zan Hbw.out).six hxL;have hvp:zac wr (qA J2 ao2 n2 Y2 K2 ap2 m2 Z2) (p i):=by rw [<- hxp]; exact hvp
       obtain ⟨J1,ao1,n1,Y1,K1,ap1,m1,Z1,b0,b1,b2,b3,hvb,hfr⟩:=hO.six6 (i:=i) (zbb hli);have hvb:zac wr (qA J1 ao1 n1 Y1 K1 ap1 m1 Z1) (zdG p t out i):=by simpa using hvb
       have HGi:Hid (zdG p t out i + p i=gn i):=hii (by rw [HG.out,zkn]);have hKi:=HK.out.beh hli (t:=t) (by omega) HoL.out;have HAd:Hid (zeb (zdG p t out i) (p i)):=hii (hKi.addS (HK.out.1 i hli) (by decide));have hble:=zdy gn i;have hbi:zbp gn i<=i:=by omega
       obtain ⟨q,hq⟩:∃ q,zbp gn i=q:=⟨_,rfl⟩;have Hq:=hii hq;rw [hq] at hbi |-;have hqN:q < sn:=by omega
       have HCr:Hid (CrS (gn i) (gn q)):=hii (by
        rw [HG.out];exact (HK.out.beh hli (by omega) HoL.out).crS (HK.out.beh hqN (by omega) HoL.out) (by decide))
       have hEr:=hE.mono Hbw.out;have hiN:(i:Int) < (sn:Int):=by omega
       have hqI:(q:Int) < (sn:Int):=by omega
       subst ea;clear hx hxp hxL h0 h1 hKi hble hq;have hbr:=Below.refl wr.heap.size wr;go_upto_region 20 with fail;obtain ⟨wc,rfl⟩:=exi wr;refine zaq (wx:=wc) (λ _ => False) [(λ _ X _ => X 0=.slice (some ⟨b7,0,none⟩) sn c7),(λ _ X _ => X 1=.int .i64 i),(λ _ X _ => X 2=.pointer (some ⟨b7,i * 4,none⟩)),(λ _ X _ => X 3=.agg #[.bool J1,.slice ao1 n1 Y1,.bool K1,.slice ap1 m1 Z1]),(λ _ X _ => X 4=.slice (some ⟨bL,offL,none⟩) sn cL),(λ _ X _ => X 5=.int .i64 i),(λ _ X _ => X 6=.pointer (some ⟨bL,offL + i * 6,none⟩)),(λ _ X _ => X 7=.pointer (some ⟨bL,offL + i * 6 + 2,none⟩)),(λ _ X _ => X 8=.agg #[.bool J2,.slice ao2 n2 Y2,.bool K2,.slice ap2 m2 Z2]),(λ G X W => ((λ _ W v => ∃ a,v=.tuple #[a,.int .i64 0]/\zac W a (gn i)):(Nat->Prop)->World->Value->Prop) G W (X 9)),(λ G X W => ((λ _ W v => ∃ a,v=.tuple #[a,.int .i64 0]/\zac W a (gn i)):(Nat->Prop)->World->Value->Prop) G W (X 10)),(λ G X W => ((FQ (gn i)):(Nat->Prop)->World->Value->Prop) G W (X 11)),(λ _ X _ => X 12=.int .i64 0),(λ _ _ _ => True),(λ _ _ _ => True),(λ _ X _ => X 15=.int .i64 0)] [some 48,some 49,some 50,some 51,some 52,some 53,some 54,some 55,some 56,some 57,some 47,some 58,some 59,some 11,none,some 12] [none,none,none,none,none,none,none,none,none,none,none,none,none,some ⟨14,11,32,[.bool false,.slice none 0 0,.bool false,.slice none 0 0]⟩,none,none] [48,49,50,51,52,53,54,55,56,57,47,58,59,11,12] (by kernel_rfl) (by kernel_rfl) (by kernel_rfl) (by kernel_rfl) (of_decide_eq_true (by kernel_rfl)) (by kernel_rfl) ⟨(by intro u hu k z e; subst e; simp at hu),trivial⟩ (λ b h => h) br ⟨zab _ _ _,zab _ _ _,zab _ _ _,zab _ _ _,zab _ _ _,zab _ _ _,zab _ _ _,zab _ _ _,zab _ _ _,(zaw (F:=λ _ W v => ∃ a,v=.tuple #[a,.int .i64 0]/\zac W a (gn i)) λ G G' W W' v ⟨a,e,h⟩ hk hn hG => ⟨a,e,h.kept hk hn⟩),(zaw (F:=λ _ W v => ∃ a,v=.tuple #[a,.int .i64 0]/\zac W a (gn i)) λ G G' W W' v ⟨a,e,h⟩ hk hn hG => ⟨a,e,h.kept hk hn⟩),za7 _,zab _ _ _,zao _,zao _,zab _ _ _,trivial⟩ ⟨⟨λ _ _ _ => trivial,λ _ _ _ => trivial⟩,trivial⟩ ⟨?s0,?s1,?s2,?s3,?s4,?s5,?s6,?s7,?s8,?s9,?s10,?s11,?s12,?s13,?s14,?s15,trivial⟩ ⟨?b13,trivial⟩ ?he
       case' s0 | s1 | s2 | s3 | s4 | s5 | s6 | s7 | s8 | s9 | s10 | s11 | s12 =>
        rintro - G T W hb hHG hGW hGo hNG hA K hK
       case' s0 | s1 | s4 | s5 =>
        simp only [sA] at hK |-
       case' s2 =>
        have e0:T 48=_:=hA.1;have e1:T 49=_:=hA.2.1;simp only [sA,e0,e1] at hK |-
       case' s3 =>
        have e2:T 50=_:=hA.1;have k0:=(hb.cell (zag b0)).trans b0;have k1:=(hb.cell (zag b1)).trans b1;have k2:=(hb.cell (zag b2)).trans b2;have k3:=(hb.cell (zag b3)).trans b3;simp only [sA,e2] at hK |-
       case' s6 =>
        have e4:T 52=_:=hA.1;have e5:T 53=_:=hA.2.1;simp only [sA,e4,e5] at hK |-
       case' s7 =>
        have e6:T 54=_:=hA.1;simp only [sA,e6] at hK |-
       case' s8 =>
        have e7:T 55=_:=hA.1;have k2:=(hb.cell (zag h2)).trans h2;have k3:=(hb.cell (zag h3)).trans h3;have k4:=(hb.cell (zag h4)).trans h4;have k5:=(hb.cell (zag h5)).trans h5;simp only [sA,e7] at hK |-
       case' s12 =>
        have r10:((λ _ W v => ∃ a,v=.tuple #[a,.int .i64 0]/\zac W a (gn i)):(Nat->Prop)->World->Value->Prop) G W (T 47):=hA.1;obtain ⟨a6,e10,h6⟩:=r10;simp only [sA,e10] at hK |-
       case s0 | s1 | s2 | s3 | s4 | s5 | s6 | s7 | s8 | s12 =>
        have HK:=hii hK;clear hK hA;refine wO rfl (by rfl) ?_;go_simp;exact HK.out _ _ br λ X hX _ => hX
       case s9 =>
        have e3:T 51=_:=hA.1;have e8:T 56=_:=hA.2.1;simp only [sA,e3,e8] at hK |-;have HK:=hii hK;clear hK hA;refine wO rfl (by rfl) ?_;go_simp;go_fit (znZ _ _ (zdG p t out i) (p i) W (hvb.mono hb) (hvp.mono hb) HAd (hEr.mono hb));rintro e w1 ⟨hz,hb1⟩;rw [HGi.out] at hz;obtain ⟨J7,ao7,n7,Y7,K7,ap7,m7,Z7,rfl,hV7⟩:=hz.rat
        try dsimp only
        exact HK.out _ _ (hb1) λ X hX _ => by
         show ((λ _ W v => ∃ a,v=.tuple #[a,.int .i64 0]/\zac W a (gn i)):(Nat->Prop)->World->Value->Prop) G _ (X 9)
         rw [hX];exact ⟨_,rfl,hV7⟩
       case s10 =>
        have r9:((λ _ W v => ∃ a,v=.tuple #[a,.int .i64 0]/\zac W a (gn i)):(Nat->Prop)->World->Value->Prop) G W (T 57):=hA.1;obtain ⟨a6,e9,h6⟩:=r9;simp only [sA,e9] at hK |-;have HK:=hii hK;clear hK hA;refine wO rfl (by rfl) ?_;go_simp;exact HK.out _ _ br λ X hX _ => by
         show ((λ _ W v => ∃ a,v=.tuple #[a,.int .i64 0]/\zac W a (gn i)):(Nat->Prop)->World->Value->Prop) G _ (X 10)
         rw [hX];exact ⟨_,rfl,h6⟩
       case s11 =>
        have r10:((λ _ W v => ∃ a,v=.tuple #[a,.int .i64 0]/\zac W a (gn i)):(Nat->Prop)->World->Value->Prop) G W (T 47):=hA.1;obtain ⟨a6,e10,h6⟩:=r10;simp only [sA,e10] at hK |-;have HK:=hii hK;clear hK hA;refine wO rfl (by rfl) ?_;go_simp;exact HK.out _ _ br λ X hX _ => by
         show ((FQ (gn i)):(Nat->Prop)->World->Value->Prop) G _ (X 11)
         rw [hX];exact h6
       case s13 => exact λ h => absurd h (by decide)
       case s14 => exact λ h => absurd h (by decide)
       case s15 =>
        rintro - G T W hb hHG hGW hGo hNG hA K hK;have e12:T 59=_:=hA.1;simp only [sA,e12] at hK |-;have HK:=hii hK;clear hK hA;refine wO rfl (by rfl) ?_;go_simp;exact HK.out _ _ br λ X hX _ => hX
       case b13 =>
        refine ⟨?_,?_⟩
        ·rintro o ho T W K hK;obtain rfl:=Option.some.inj ho;simp only [sA] at hK |-;have HK:=hii hK;clear hK ho;refine wO rfl (by rfl) ?_;go_simp;exact HK.out
        ·rintro o ho G T W nb hA hp hrow K hK;obtain rfl:=Option.some.inj ho;have ep:T 11=.pointer (some ⟨nb,0,none⟩):=hp;have r11:((FQ (gn i)):(Nat->Prop)->World->Value->Prop) G W (T 58):=hA.2.1;have r11:zac W _ (gn i):=r11;obtain ⟨J8,ao8,n8,Y8,K8,ap8,m8,Z8,e11⟩:=r11.parts;have hK:=hK [.bool J8,.slice ao8 n8 Y8,.bool K8,.slice ap8 m8 Z8] (.inl e11) rfl (by intro u hu k z e; subst e; simp at hu);simp only [sA,ep,e11] at hK |-;have HK:=hii hK;clear hK hA ho;have q0:=hrow.cell (k:=0) (by simp);have f0:=hrow.free 0;have q1:=hrow.cell (k:=1) (by simp);have f1:=hrow.free 1;have q2:=hrow.cell (k:=2) (by simp);have f2:=hrow.free 2;have q3:=hrow.cell (k:=3) (by simp);have f3:=hrow.free 3;simp only [List.getElem_cons_zero,List.getElem_cons_succ] at q0 q1 q2 q3;refine wO rfl (by rfl) ?_;go_simp;exact HK.out
       case he =>
        rintro GG N T W hb hHG hGW hGo hbox hNG hne hA;have fv:((FQ (gn i)):(Nat->Prop)->World->Value->Prop) GG W (T 58):=hA.at 11 (by decide);have f15:T 12=.int .i64 0:=hA.at 15 (by decide);obtain ⟨ep,_,hge,vs,hsto,hrow⟩:=hbox 13 _ rfl;have ep:T 11=.pointer (some ⟨N 13,0,none⟩):=ep;have fv:zac W _ (gn i):=fv;obtain ⟨J3,ao3,n3,Y3,K3,ap3,m3,Z3,e5⟩:=fv.parts;obtain rfl:=hsto.four e5;rw [e5] at fv;simp only [sA,ep,f15];obtain ⟨g11,hg⟩:∃ g,g=N 13:=⟨_,rfl⟩;rw [<- hg] at hrow hge |-;have Hg11:=hii hge;clear hA hbox hNG hne hHG hGW hGo ep f15 hsto hge e5 hg;have r11:Row W g11 32 [.bool J3,.slice ao3 n3 Y3,.bool K3,.slice ap3 m3 Z3]:=hrow;have Hg11b:Hid (¬ g11=b7):=hii (by have:=Hg11.out; have:=H7.out.2; have:=HLs.out; omega);have hO:=hO.mono hb;have hOut:=hOut.mono zaZ hb;have hEr:=hEr.mono hb;have Hbw:=hii (Below.step Hbw.out hb nl |>.mono nl);have HLs:=hii (Nat.le_trans HLs.out hb.size);clear hb hrow b0 b1 b2 b3 h2 h3 h4 h5 hvb hvp hfr hbr;obtain ⟨wd,rfl⟩:=exi W;obtain ⟨J1,ao1,n1,Y1,K1,ap1,m1,Z1,b0,b1,b2,b3,-,hfr⟩:=hO.six6 (i:=i) (zbb hli);have f0:=hfr (i * 4);have f1:=hfr (i * 4 + 1);have f2:=hfr (i * 4 + 2);have f3:=hfr (i * 4 + 3);obtain ⟨e0,e1,e2,e3⟩:=r11.n4;have hput:=hO.put (i:=i) (o:=some (gn i)) (by rw [zaN]; exact hli) fv;rw [zes (g:=λ j => if j < i + 1 then gn j else zdG p t out j) hli (by simp) (λ c hc hne => by
         by_cases h1:c < i
         ·simp [h1,show c < i + 1 by omega]
         ·simp [h1,show ¬ c < i + 1 by omega])] at hput
        have Hput:=hii hput;clear hput hfr hO;go_upto_region 24 with fail;clear b0 b1 b2 b3 e0 e1 e2 e3 f0 f1 f2 f3;have hkp:zaf (λ b => b=b7) wd ((((wd.setCell ⟨b7,i * 4,none⟩ (.bool J3)).setCell ⟨b7,i * 4 + 1,none⟩ (.slice ao3 n3 Y3)).setCell ⟨b7,i * 4 + 2,none⟩ (.bool K3)).setCell ⟨b7,i * 4 + 3,none⟩ (.slice ap3 m3 Z3)) :=
         ((((zaf.refl wd:zaf (λ b => b=b7) wd wd).setCell (p:=⟨b7,i * 4,none⟩) rfl _).setCell (p:=⟨b7,i * 4 + 1,none⟩) rfl _).setCell (p:=⟨b7,i * 4 + 2,none⟩) rfl _).setCell (p:=⟨b7,i * 4 + 3,none⟩) rfl _
        have hkn:NoU (λ b => b=b7) wd:=by
         have h:=Hput.out.2.noG.u;exact λ b hb => h b (by subst hb; rfl)
        have fv:=fv.keptU hkp hkn;have r11:=r11.mono hkp Hg11b.out;have hOut:=hOut.kept zaZ hkp hkn (λ b e1 e2 => by have:=(hOut.lt b e1).1; have:=H7.out.2; omega);have Hbw:=hii (Hbw.out.trans (hkp.below (λ b e => by rw [e]; exact H7.out.1) Hbw.out.size));have HLs:=hii (Nat.le_trans HLs.out hkp.size);have hEr:=hE.mono Hbw.out;have hO:=Hput.out.1;clear hkp hkn;generalize (((wd.setCell ⟨b7,i * 4,none⟩ (.bool J3)).setCell ⟨b7,i * 4 + 1,none⟩ (.slice ao3 n3 Y3)).setCell ⟨b7,i * 4 + 2,none⟩ (.bool K3)).setCell ⟨b7,i * 4 + 3,none⟩ (.slice ap3 m3 Z3)=we at *;obtain ⟨J1,ao1,n1,Y1,K1,ap1,m1,Z1,b0,b1,b2,b3,hvb,-⟩:=hO.six6 (i:=q) (zbb hqN);have hvb:zac we (qA J1 ao1 n1 Y1 K1 ap1 m1 Z1) (gn q):=by simpa [show q < i + 1 by omega] using hvb
        obtain ⟨cc,hcc⟩:∃ x,Rq.cmpQ (gn i) (gn q)=x:=⟨_,rfl⟩;have Hcc:=hii hcc;clear hcc;refine zae (wx:=we) [vf (.agg #[.bool J3,.slice ao3 n3 Y3,.bool K3,.slice ap3 m3 Z3]),vf (.slice (some ⟨b7,0,none⟩) sn c7),vf (.int .i64 q),vf (.pointer (some ⟨b7,q * 4,none⟩)),vf (.agg #[.bool J1,.slice ao1 n1 Y1,.bool K1,.slice ap1 m1 Z1]),vf (.tuple #[.int .i64 cc,.int .i64 0]),vf (.tuple #[.int .i64 cc,.int .i64 0]),vf (.int .i64 cc),vf (.int .i64 0),vf (.int .i64 cc),vf (.int .i64 0)] [68,69,70,71,72,73,67,74,75,13,12] (by kernel_rfl) (by kernel_rfl) (by kernel_rfl) (of_decide_eq_true (by kernel_rfl)) br ⟨sV _,sV _,sV _,sV _,sV _,sV _,sV _,sV _,sV _,sV _,sV _,trivial⟩ ⟨?s0,?s1,?s2,?s3,?s4,?s5,?s6,?s7,?s8,?s9,?s10,trivial⟩ ?he
        case' s0 | s1 | s2 | s3 | s4 | s5 | s6 | s7 | s8 | s9 | s10 =>
         rintro T W hb hA K hK
        case' s0 =>
         simp only [sA] at hK |-;have HK:=hii hK;clear hK hA;obtain ⟨e0,e1,e2,e3⟩:=(r11.below hb).n4
        case' s4 =>
         have e3:T 71=_:=hA.1;simp only [sA,e3] at hK |-;have HK:=hii hK;clear hK hA;have k0:=(hb.cell (zag b0)).trans b0;have k1:=(hb.cell (zag b1)).trans b1;have k2:=(hb.cell (zag b2)).trans b2;have k3:=(hb.cell (zag b3)).trans b3
        case' s1 | s2 =>
         simp only [sA] at hK |-
        case' s3 =>
         have e1:T 69=_:=hA.1;have e2:T 70=_:=hA.2.1;simp only [sA,e1,e2] at hK |-
        case' s6 =>
         have e5:T 73=_:=hA.1;simp only [sA,e5] at hK |-
        case' s7 | s8 =>
         have e6:T 67=_:=hA.1;simp only [sA,e6] at hK |-
        case' s9 =>
         have e7:T 74=_:=hA.1;simp only [sA,e7] at hK |-
        case' s10 =>
         have e8:T 75=_:=hA.1;simp only [sA,e8] at hK |-
        case s0 | s4 =>
         refine wO rfl (by rfl) ?_;go_simp;exact HK.out _ _ br (rfl)
        case s1 | s2 | s3 | s6 | s7 | s8 | s9 | s10 =>
         have HK:=hii hK;clear hK hA;refine wO rfl (by rfl) ?_;go_simp;exact HK.out _ _ br (rfl)
        case s5 =>
         have e0:T 68=_:=hA.1;have e4:T 72=_:=hA.2.1;simp only [sA,e0,e4] at hK |-;have HK:=hii hK;clear hK hA;refine wO rfl (by rfl) ?_;go_simp;go_fit (zjo _ _ (gn i) (gn q) W (fv.mono hb) (hvb.mono hb) HCr (hEr.mono hb));rw [Hcc.out];rintro e w1 ⟨rfl,hb1⟩
         try dsimp only
         exact HK.out _ _ hb1 (rfl)
        case he =>
         rintro T W hb hA;have f9:T 13=.int .i64 cc:=hA.at 9 (by decide);have f10:T 12=.int .i64 0:=hA.at 10 (by decide);simp only [sA,f9,f10];have hO:=hO.mono hb;have hOut:=hOut.mono zaZ hb;have Hbw:=hii (Below.step Hbw.out hb nl |>.mono nl);have HLs:=hii (Nat.le_trans HLs.out hb.size);have hgt:=zg3 (gn i) (gn q);rw [Hcc.out] at hgt;clear hA f9 f10 hb b0 b1 b2 b3 hvb hEr r11 fv
         by_cases hgx:gn q < gn i
         ·have hd:decide (0 < cc)=true:=by rw [hgt]; exact decide_eq_true hgx
          have hd0:(0:Int) < cc:=of_decide_eq_true hd;have HB:Hid (zbp gn (i + 1)=i):=hii (by simp only [zbp]; rw [Hq.out,if_pos hgx]);clear hgt hd hgx;go_wp2;go_roundw
          case rel => exact ⟨i + 1,by omega,by go_num,by rw [HB.out],hO,hOut,Hbw,HLs⟩
          case measure => simp [intOf]; omega
         ·have hd:decide (0 < cc)=false:=by rw [hgt]; exact decide_eq_false hgx
          have hd0:¬ (0:Int) < cc:=of_decide_eq_false hd;have HB:Hid (zbp gn (i + 1)=q):=hii (by simp only [zbp]; rw [Hq.out,if_neg hgx]);clear hgt hd hgx;go_wp2;go_roundw
          case rel => exact ⟨i + 1,by omega,by go_num,by rw [HB.out],hO,hOut,Hbw,HLs⟩
          case measure => simp [intOf]; omega
      ·have hiN:i=sn:=by omega
       have hble:=zdy gn sn;rw [hiN] at hO;obtain ⟨q,hq⟩:∃ q,zbp gn i=q:=⟨_,rfl⟩;have hqN:q < sn:=by rw [<- hq,hiN]; omega
       have Hq:Hid (zbp gn sn=q):=hii (by rw [<- hq,hiN]);rw [hq];have hi2:¬ (i:Int) < (sn:Int):=by omega
       have hqI:(q:Int) < (sn:Int):=by omega
       obtain ⟨J1,ao1,n1,Y1,K1,ap1,m1,Z1,b0,b1,b2,b3,hvb,-⟩:=hO.six6 (i:=q) (zbb hqN);have hvb:zac wr (qA J1 ao1 n1 Y1 K1 ap1 m1 Z1) (gn q):=by simpa [hqN] using hvb
       have HSb:Hid (zl2 (gn q) 1):=hii (by rw [HG.out]; exact (HK.out.beh hqN (by omega) HoL.out).subS (zbr zgn (by decide)) (by decide));have hEr:=hE.mono Hbw.out;clear hq hble hiN hli;go_upto_region 30 with fail;clear hi2;obtain ⟨wc,rfl⟩:=exi wr;refine zaq (wx:=wc) (λ _ => False) [(λ _ X _ => X 0=.slice (some ⟨b7,0,none⟩) sn c7),(λ _ X _ => X 1=.int .i64 q),(λ _ X _ => X 2=.pointer (some ⟨b7,q * 4,none⟩)),(λ _ X _ => X 3=.agg #[.bool J1,.slice ao1 n1 Y1,.bool K1,.slice ap1 m1 Z1]),(λ G X W => ((FQ 1):(Nat->Prop)->World->Value->Prop) G W (X 4)),(λ G X W => ((λ _ W v => ∃ a,v=.tuple #[a,.int .i64 0]/\zac W a (gn q - 1)):(Nat->Prop)->World->Value->Prop) G W (X 5)),(λ G X W => ((λ _ W v => ∃ a,v=.tuple #[a,.int .i64 0]/\zac W a (gn q - 1)):(Nat->Prop)->World->Value->Prop) G W (X 6)),(λ G X W => ((FQ (gn q - 1)):(Nat->Prop)->World->Value->Prop) G W (X 7)),(λ _ X _ => X 8=.int .i64 0),(λ _ _ _ => True),(λ _ _ _ => True),(λ _ X _ => X 11=.int .i64 0)] [some 84,some 85,some 86,some 87,some 88,some 89,some 83,some 90,some 91,some 14,none,some 15] [none,none,none,none,none,none,none,none,none,some ⟨10,7,32,[.bool false,.slice none 0 0,.bool false,.slice none 0 0]⟩,none,none] [84,85,86,87,88,89,83,90,91,14,15] (by kernel_rfl) (by kernel_rfl) (by kernel_rfl) (by kernel_rfl) (of_decide_eq_true (by kernel_rfl)) (by kernel_rfl) ⟨(by intro u hu k z e; subst e; simp at hu),trivial⟩ (λ b h => h) br ⟨zab _ _ _,zab _ _ _,zab _ _ _,zab _ _ _,za7 _,(zaw (F:=λ _ W v => ∃ a,v=.tuple #[a,.int .i64 0]/\zac W a (gn q - 1)) λ G G' W W' v ⟨a,e,h⟩ hk hn hG => ⟨a,e,h.kept hk hn⟩),(zaw (F:=λ _ W v => ∃ a,v=.tuple #[a,.int .i64 0]/\zac W a (gn q - 1)) λ G G' W W' v ⟨a,e,h⟩ hk hn hG => ⟨a,e,h.kept hk hn⟩),za7 _,zab _ _ _,zao _,zao _,zab _ _ _,trivial⟩ ⟨⟨λ _ _ _ => trivial,λ _ _ _ => trivial⟩,trivial⟩ ⟨?s0,?s1,?s2,?s3,?s4,?s5,?s6,?s7,?s8,?s9,?s10,?s11,trivial⟩ ⟨?b9,trivial⟩ ?he
       case' s0 | s1 | s2 | s3 | s4 | s5 | s6 | s7 | s8 =>
        rintro - G T W hb hHG hGW hGo hNG hA K hK
       case' s0 | s1 =>
        simp only [sA] at hK |-
       case' s2 =>
        have e0:T 84=_:=hA.1;have e1:T 85=_:=hA.2.1;simp only [sA,e0,e1] at hK |-
       case' s3 =>
        have e2:T 86=_:=hA.1;have k0:=(hb.cell (zag b0)).trans b0;have k1:=(hb.cell (zag b1)).trans b1;have k2:=(hb.cell (zag b2)).trans b2;have k3:=(hb.cell (zag b3)).trans b3;simp only [sA,e2] at hK |-
       case' s8 =>
        have r6:((λ _ W v => ∃ a,v=.tuple #[a,.int .i64 0]/\zac W a (gn q - 1)):(Nat->Prop)->World->Value->Prop) G W (T 83):=hA.1;obtain ⟨a6,e6,h6⟩:=r6;simp only [sA,e6] at hK |-
       case s0 | s1 | s2 | s3 | s8 =>
        have HK:=hii hK;clear hK hA;refine wO rfl (by rfl) ?_;go_simp;exact HK.out _ _ br λ X hX _ => hX
       case s4 =>
        simp only [sA] at hK |-;have HK:=hii hK;clear hK hA;refine wO rfl (by rfl) ?_;go_simp;go_fit (zaF 1 (by decide) (by decide) W (hEr.mono hb));rintro e w1 ⟨hz,hb1⟩;obtain ⟨J5,ao5,n5,Y5,K5,ap5,m5,Z5,rfl,hV5⟩:=hz.rat;have hV5:zac w1 (qA J5 ao5 n5 Y5 K5 ap5 m5 Z5) 1:=hV5
        try dsimp only
        exact HK.out _ _ (hb1) λ X hX _ => by
         show ((FQ 1):(Nat->Prop)->World->Value->Prop) G _ (X 4)
         rw [hX];exact hV5
       case s5 =>
        have e3:T 87=_:=hA.1;have r4:((FQ 1):(Nat->Prop)->World->Value->Prop) G W (T 88):=hA.2.1;have r4:zac W _ 1:=r4;obtain ⟨J6,ao6,n6,Y6,K6,ap6,m6,Z6,e4⟩:=r4.parts;rw [e4] at r4;simp only [sA,e3,e4] at hK |-;have HK:=hii hK;clear hK hA;refine wO rfl (by rfl) ?_;go_simp;go_fit (zm3 _ _ (gn q) 1 W (hvb.mono hb) r4 HSb (hEr.mono hb));rintro e w1 ⟨hz,hb1⟩;obtain ⟨J7,ao7,n7,Y7,K7,ap7,m7,Z7,rfl,hV7⟩:=hz.rat
        try dsimp only
        exact HK.out _ _ (hb1) λ X hX _ => by
         show ((λ _ W v => ∃ a,v=.tuple #[a,.int .i64 0]/\zac W a (gn q - 1)):(Nat->Prop)->World->Value->Prop) G _ (X 5)
         rw [hX];exact ⟨_,rfl,hV7⟩
       case s6 =>
        have r5:((λ _ W v => ∃ a,v=.tuple #[a,.int .i64 0]/\zac W a (gn q - 1)):(Nat->Prop)->World->Value->Prop) G W (T 89):=hA.1;obtain ⟨a6,e5,h6⟩:=r5;simp only [sA,e5] at hK |-;have HK:=hii hK;clear hK hA;refine wO rfl (by rfl) ?_;go_simp;exact HK.out _ _ br λ X hX _ => by
         show ((λ _ W v => ∃ a,v=.tuple #[a,.int .i64 0]/\zac W a (gn q - 1)):(Nat->Prop)->World->Value->Prop) G _ (X 6)
         rw [hX];exact ⟨_,rfl,h6⟩
       case s7 =>
        have r6:((λ _ W v => ∃ a,v=.tuple #[a,.int .i64 0]/\zac W a (gn q - 1)):(Nat->Prop)->World->Value->Prop) G W (T 83):=hA.1;obtain ⟨a6,e6,h6⟩:=r6;simp only [sA,e6] at hK |-;have HK:=hii hK;clear hK hA;refine wO rfl (by rfl) ?_;go_simp;exact HK.out _ _ br λ X hX _ => by
         show ((FQ (gn q - 1)):(Nat->Prop)->World->Value->Prop) G _ (X 7)
         rw [hX];exact h6
       case s9 => exact λ h => absurd h (by decide)
       case s10 => exact λ h => absurd h (by decide)
       case s11 =>
        rintro - G T W hb hHG hGW hGo hNG hA K hK;have e8:T 91=_:=hA.1;simp only [sA,e8] at hK |-;have HK:=hii hK;clear hK hA;refine wO rfl (by rfl) ?_;go_simp;exact HK.out _ _ br λ X hX _ => hX
       case b9 =>
        refine ⟨?_,?_⟩
        ·rintro o ho T W K hK;obtain rfl:=Option.some.inj ho;simp only [sA] at hK |-;have HK:=hii hK;clear hK ho;refine wO rfl (by rfl) ?_;go_simp;exact HK.out
        ·rintro o ho G T W nb hA hp hrow K hK;obtain rfl:=Option.some.inj ho;have ep:T 14=.pointer (some ⟨nb,0,none⟩):=hp;have r7:((FQ (gn q - 1)):(Nat->Prop)->World->Value->Prop) G W (T 90):=hA.2.1;have r7:zac W _ (gn q - 1):=r7;obtain ⟨J8,ao8,n8,Y8,K8,ap8,m8,Z8,e7⟩:=r7.parts;have hK:=hK [.bool J8,.slice ao8 n8 Y8,.bool K8,.slice ap8 m8 Z8] (.inl e7) rfl (by intro u hu k z e; subst e; simp at hu);simp only [sA,ep,e7] at hK |-;have HK:=hii hK;clear hK hA ho;have q0:=hrow.cell (k:=0) (by simp);have f0:=hrow.free 0;have q1:=hrow.cell (k:=1) (by simp);have f1:=hrow.free 1;have q2:=hrow.cell (k:=2) (by simp);have f2:=hrow.free 2;have q3:=hrow.cell (k:=3) (by simp);have f3:=hrow.free 3;simp only [List.getElem_cons_zero,List.getElem_cons_succ] at q0 q1 q2 q3;refine wO rfl (by rfl) ?_;go_simp;exact HK.out
       case he =>
        rintro GG N T W hb hHG hGW hGo hbox hNG hne hA;have fv:((FQ (gn q - 1)):(Nat->Prop)->World->Value->Prop) GG W (T 90):=hA.at 7 (by decide);have f11:T 15=.int .i64 0:=hA.at 11 (by decide);obtain ⟨ep,_,hge,vs,hsto,hrow⟩:=hbox 9 _ rfl;have ep:T 14=.pointer (some ⟨N 9,0,none⟩):=ep;have fv:zac W _ (gn q - 1):=fv;obtain ⟨J3,ao3,n3,Y3,K3,ap3,m3,Z3,e5⟩:=fv.parts;obtain rfl:=hsto.four e5;rw [e5] at fv;simp only [sA,ep,f11];obtain ⟨g14,hg⟩:∃ g,g=N 9:=⟨_,rfl⟩;rw [<- hg] at hrow hge |-;have Hg14:=hii hge;clear hA hbox hNG hne hHG hGW hGo ep f11 hsto hge e5 hg;have r14:Row W g14 32 [.bool J3,.slice ao3 n3 Y3,.bool K3,.slice ap3 m3 Z3]:=hrow;have Hg14b:Hid (¬ g14=b7):=hii (by have:=Hg14.out; have:=H7.out.2; have:=HLs.out; omega);have hO:=hO.mono hb;have hOut:=hOut.mono zaZ hb;have Hbw:=hii (Below.step Hbw.out hb nl |>.mono nl);have HLs:=hii (Nat.le_trans HLs.out hb.size);clear hb hrow b0 b1 b2 b3 hvb hEr;obtain ⟨wd,rfl⟩:=exi W;obtain ⟨J1,ao1,n1,Y1,K1,ap1,m1,Z1,b0,b1,b2,b3,-,hfr⟩:=hO.six6 (i:=q) (zbb hqN);have f0:=hfr (q * 4);have f1:=hfr (q * 4 + 1);have f2:=hfr (q * 4 + 2);have f3:=hfr (q * 4 + 3);obtain ⟨e0,e1,e2,e3⟩:=r14.n4;have hput:=hO.put (i:=q) (o:=some (gn q - 1)) (by rw [zaN]; exact hqN) fv;rw [zes (g:=zdG p (t + 1) (out ++ [q])) hqN (by rw [zfv,if_pos rfl,HG.out]) (λ c hc hne => by rw [zfv,if_neg hne,if_pos hc,HG.out])] at hput;have Hput:=hii hput;have HSS:Hid (zfO p sn (t + 1)=out ++ [q]):=hii (by
         show zfO p sn t ++ [zbp (λ i => zdG p (t + 1) (zfO p sn t) i) sn]=_
         rw [Hout.out,<- Hq.out,HG.out])
        have HoL2:Hid (out.length<=1000000):=hii (by have:=HoL.out; omega);clear hput hfr hO;go_upto_region 34 with fail;clear b0 b1 b2 b3 e0 e1 e2 e3 f0 f1 f2 f3;have hkp:zaf (λ b => b=b7) wd ((((wd.setCell ⟨b7,q * 4,none⟩ (.bool J3)).setCell ⟨b7,q * 4 + 1,none⟩ (.slice ao3 n3 Y3)).setCell ⟨b7,q * 4 + 2,none⟩ (.bool K3)).setCell ⟨b7,q * 4 + 3,none⟩ (.slice ap3 m3 Z3)) :=
         ((((zaf.refl wd:zaf (λ b => b=b7) wd wd).setCell (p:=⟨b7,q * 4,none⟩) rfl _).setCell (p:=⟨b7,q * 4 + 1,none⟩) rfl _).setCell (p:=⟨b7,q * 4 + 2,none⟩) rfl _).setCell (p:=⟨b7,q * 4 + 3,none⟩) rfl _
        have hkn:NoU (λ b => b=b7) wd:=by
         have h:=Hput.out.2.noG.u;exact λ b hb => h b (by subst hb; rfl)
        have hOut:=hOut.kept zaZ hkp hkn (λ b e1 e2 => by have:=(hOut.lt b e1).1; have:=H7.out.2; omega);have Hbw:=hii (Hbw.out.trans (hkp.below (λ b e => by rw [e]; exact H7.out.1) Hbw.out.size));have HLs:=hii (Nat.le_trans HLs.out hkp.size);have hO:=Hput.out.1;clear hkp hkn fv r14;generalize (((wd.setCell ⟨b7,q * 4,none⟩ (.bool J3)).setCell ⟨b7,q * 4 + 1,none⟩ (.slice ao3 n3 Y3)).setCell ⟨b7,q * 4 + 2,none⟩ (.bool K3)).setCell ⟨b7,q * 4 + 3,none⟩ (.slice ap3 m3 Z3)=we at *;go_wp2_with (at_builtin; go_loud (refine zi5 zjw zaZ Tryz.slice55 Tryz.info3 rfl (by decide) (by decide) zn4 we we wL.heap.size rfl (.tmp 99) (.tmp 101) rfl (a:=q) rfl rfl hOut HLs.out br rfl (λ u hu => by simp at hu; subst hu; rfl) zn4 rfl HoL2.out ?_); intro v2 w6 hO2 hb2 hk2 _);have hO:=hO.keptU hk2 hOut.noU (λ b e1 e2 => by
         have:=(hOut.lt b e2).1;have:=H7.out.2;simp only [Value.ownBlock,Option.some.injEq] at e1;omega)
        have Hbw:=hii (Hbw.out.trans (hb2.mono (by have:=H7.out; omega)));have HLs:=hii (Nat.le_trans HLs.out hb2.size);rw [<- HSS.out] at hO hO2;go_roundw
        case rel => exact ⟨t + 1,by omega,by go_num,hO,hO2,Hbw,HLs⟩
        case measure => simp [intOf]; omega
    ·have htk:t=k:=by omega
     rw [htk] at hOut;have ht2:¬ (t:Int) < (k:Int):=by omega
     obtain ⟨ao,c,e8,_,hu⟩:=hOut.read;rw [zen] at e8;subst e8;clear htk hlt;go_wp2;go_ret2;exact ⟨⟨_,_,rfl,hu⟩,Hbw.out⟩
theorem zgH {v1 v2:Value} {r:Rat} {w:World} (h1:zac w v1 r) (h2:zac w v2 r) (hE:Env w):Calls Tryz.prog 13 #[v1,v2] w λ e w' => e=.returned (.bool true)/\BH w w':=by
 obtain ⟨_,_,_,_,_,_,_,_,rfl,a1,a2⟩:=h1;obtain ⟨_,_,_,_,_,_,_,_,rfl,b1,b2⟩:=h2;exact zke _ _ _ _ w (hii ⟨rfl,rfl⟩) a1 a2 b1 b2 hE
def za4:List Nat:=[3,5,6]
theorem ziG:zfG za4 3:=⟨⟨by decide,by decide⟩,by decide,by decide,by decide⟩
def hf:Rat:=Rat.divInt 1 2
theorem zmo:WkM za4 za4 hf [1,1,1] 3 :=
 ⟨by decide,ziG,ziG,by decide,rfl,by decide,by decide,⟨6,by decide +kernel,by decide⟩,λ c hc => ⟨12,by simp at hc; subst hc; decide +kernel,by decide⟩,λ c hc => by simp at hc; subst hc; decide⟩
theorem zcy (n:Nat) (f g:Nat->Rat):Du.sm n f + Du.sm n g=Du.sm n λ k => f k + g k:=by
 induction n with
 | zero => show (0:Rat) + 0=0; grind
 | succ n ih =>
  show Du.sm n f + f n + (Du.sm n g + g n)=Du.sm n (λ k => f k + g k) + (f n + g n)
  rw [<- ih]; grind
theorem znG {ld:Rat} {P Q:List Rat} {M:Nat} (B:Bal (prs za4 za4) hf [1,1,1] 3 (prs za4 za4).length M ld P Q):ld=Rat.divInt 2 3:=by
 have h1:=B.col 0 (3,3) rfl;have h2:=B.col 4 (5,5) rfl;have h3:=B.col 8 (6,6) rfl;have h4:=B.one;have e1:∀ q:Nat × Nat,Du.sm 3 (λ i => wt hf q i * Q.getD i 0)=wt hf q 0 * Q.getD 0 0 + wt hf q 1 * Q.getD 1 0 + wt hf q 2 * Q.getD 2 0:=λ q => by
  show (0:Rat) + _ + _ + _=_
  grind
 have e2:Du.sm 3 (λ i => [(1:Rat),1,1].getD i 0 * Q.getD i 0)=Q.getD 0 0 + Q.getD 1 0 + Q.getD 2 0:=by
  show (0:Rat) + 1 * _ + 1 * _ + 1 * _=_
  grind
 rw [e1] at h1 h2 h3;rw [e2] at h4;have a1:wt hf (3,3) 0=1/\wt hf (3,3) 1=1/\wt hf (3,3) 2=0:=by decide +kernel
 have a2:wt hf (5,5) 0=1/\wt hf (5,5) 1=0/\wt hf (5,5) 2=1:=by decide +kernel
 have a3:wt hf (6,6) 0=0/\wt hf (6,6) 1=1/\wt hf (6,6) 2=1:=by decide +kernel
 rw [a1.1,a1.2.1,a1.2.2] at h1;rw [a2.1,a2.2.1,a2.2.2] at h2;rw [a3.1,a3.2.1,a3.2.2] at h3;have r0:=B.row 0 (by decide);have r1:=B.row 1 (by decide);have r2:=B.row 2 (by decide);have hs:=B.sum;have key:Du.sm (prs za4 za4).length (λ k => wt hf ((prs za4 za4).getD k (0,0)) 0 * P.getD k 0) + Du.sm (prs za4 za4).length (λ k => wt hf ((prs za4 za4).getD k (0,0)) 1 * P.getD k 0) + Du.sm (prs za4 za4).length (λ k => wt hf ((prs za4 za4).getD k (0,0)) 2 * P.getD k 0)=2:=by
  rw [zcy,zcy];have h:∀ q∈prs za4 za4,wt hf q 0 + wt hf q 1 + wt hf q 2=2:=by decide +kernel
  rw [Du.sm_congr _ _ (λ k => P.getD k 0 * 2) λ k hk => ?_,Sx.sm_mulr,hs]
  ·grind
  ·have hm:(prs za4 za4).getD k (0,0)∈prs za4 za4:=by
    rw [List.getD_eq_getElem?_getD,gE hk]; exact List.getElem_mem hk
   have:=h _ hm
   show wt hf ((prs za4 za4).getD k (0,0)) 0 * P.getD k 0 + wt hf ((prs za4 za4).getD k (0,0)) 1 * P.getD k 0 + wt hf ((prs za4 za4).getD k (0,0)) 2 * P.getD k 0=P.getD k 0 * 2
   rw [<- this]; grind
 have c0:[(1:Rat),1,1].getD 0 0=1/\[(1:Rat),1,1].getD 1 0=1/\[(1:Rat),1,1].getD 2 0=1:=by decide
 rw [c0.1] at r0;rw [c0.2.1] at r1;rw [c0.2.2] at r2;have e23:Rat.divInt 2 3=(2:Rat) / 3:=by decide +kernel
 rw [e23];generalize Du.sm (prs za4 za4).length (λ k => wt hf ((prs za4 za4).getD k (0,0)) 0 * P.getD k 0)=s0 at *;generalize Du.sm (prs za4 za4).length (λ k => wt hf ((prs za4 za4).getD k (0,0)) 1 * P.getD k 0)=s1 at *;generalize Du.sm (prs za4 za4).length (λ k => wt hf ((prs za4 za4).getD k (0,0)) 2 * P.getD k 0)=s2 at *;generalize Q.getD 0 0=q0 at *;generalize Q.getD 1 0=q1 at *;generalize Q.getD 2 0=q2 at *;clear e1 e2 hs;refine Rat.le_antisymm ?_ ?_ <;> grind
theorem zmy:zfO (λ _ => hf) 2 3=[0,1,0]:=by decide +kernel
theorem ziv (n:Nat):((n:Nat):Rat)=((n:Int):Rat):=rfl
theorem zlf {p:Nat->Rat} {N:Nat} {D:Int} {M:Nat} (hD:D ≠ 0) (h:∀ i,i < N->Sx.Wh (p i * (D:Rat)) M) (hb:60 * M + 60 * D.natAbs<=KK):zns p N:=by
 have hd:D.natAbs<=KK:=by omega
 refine ⟨λ i hi => zca hD hd (h i hi) (by omega),λ i hi t u ht hu => ?_⟩;have h1:=h i hi;obtain ⟨z,hz,hzM⟩:=h1;have e:((t:Rat) * p i - (u:Rat)) * (D:Rat)=(((t:Int) * z - (u:Int) * D:Int):Rat):=by
  rw [Rat.intCast_sub,Rat.intCast_mul,Rat.intCast_mul,<- hz,ziv,ziv]; grind
 refine zca hD hd ⟨(t:Int) * z - (u:Int) * D,e,?_⟩ hb;have a1:((t:Int) * z).natAbs<=60 * M:=by rw [Int.natAbs_mul,Int.natAbs_natCast]; exact Nat.mul_le_mul ht hzM
 have a2:((u:Int) * D).natAbs<=60 * D.natAbs:=by rw [Int.natAbs_mul,Int.natAbs_natCast]; exact Nat.mul_le_mul hu nl
 omega
def sh2:List ((Nat × Nat) × Rat):=[((0,0),hf),((0,0),hf)]
theorem zoh:ShD 2 2 sh2:=⟨⟨by decide,by decide,by decide⟩,by decide,λ s hs => by simp [sh2] at hs; subst hs; decide,λ s hs => ⟨1,by simp [sh2] at hs; subst hs; decide +kernel,by decide⟩⟩
theorem zmF:zbn ((shQ sh2).map (·.2))=0:=by
 rw [zoh.parts];have:zbM (sh2.map (·.2))=1:=by decide +kernel
 rw [this]; rfl
theorem zmU:zg8 za4 3=0:=by decide +kernel
theorem zbo (p q:Int) (w:World) (hp1:-9223372036854775808<=p) (hp2:p<=9223372036854775807) (hq1:-9223372036854775808<=q) (hq2:q<=9223372036854775807) (hq:Hid (q ≠ 0)) (hE:Env w) :
  Calls Tryz.prog 12 #[.int .i64 p,.int .i64 q] w λ e w' => zfF w' (Rat.divInt p q) e/\BH w w':=by
 have hbw:=Below.refl w.heap.size w;go_enter func12,ntmps12;go_upto_region 1 with fail;obtain ⟨w1,gR,hw9,hg9,hb,rR⟩:=bxr w [.bool false,.slice none 0 0,.bool false,.slice none 0 0] 32;rw [<- hw9,<- hg9];have HgR:Hid (w.heap.size<=gR):=hii (by have:=hbw.size; omega);clear hw9 hg9;have hE:=hE.mono hb;have hbw:=bu hbw hb;clear hb;go_wp2_with fail;go_fit (zgE p q w1 hp1 hp2 hq1 hq2 hq hE);rintro e w2 ⟨hz,hb⟩;obtain ⟨J1,ao1,n1,Y1,K1,ap1,m1,Z1,rfl,hV⟩:=hz.rat;have rR:=rR.below hb;have hbw:=bu hbw hb;clear hb;clear hz;go_upto_region 2 with fail;obtain ⟨w3,g3,hw9,hg9,hb,r3⟩:=bxr w2 [.bool J1,.slice ao1 n1 Y1,.bool K1,.slice ap1 m1 Z1] 32;rw [<- hw9,<- hg9];have Hg3:Hid (w.heap.size<=g3):=hii (by have:=hbw.size; omega);clear hw9 hg9;have hV:=hV.mono hb;have rR:=rR.below hb;have hbw:=bu hbw hb;clear hb;obtain ⟨c0,c1,c2,c3⟩:=r3.n4;obtain ⟨d0,d1,d2,d3⟩:=rR.n4;have f:=rR.free;go_wp2;obtain ⟨q9,hk,hV⟩:=zkG rR zlt (.bool J1) (.slice ao1 n1 Y1) (.bool K1) (.slice ap1 m1 Z1) hV;obtain ⟨e0,e1,e2,e3⟩:=q9.n4;refine bodyPost_ret (v:=.agg #[.bool J1,.slice ao1 n1 Y1,.bool K1,.slice ap1 m1 Z1]) (by simp [results,Tryz.results12,go_sem,e0,e1,e2,e3]) rfl ⟨zfF.mk hV,?_⟩;exact hbw.trans (hk.below (λ b e => by rw [e]; exact HgR.out) hbw.size)
theorem zgl (l:List Nat) (aa ab:Option Addr) (ca cb:Nat) (w:World) (hl:l.length<=1000000) (ua:EU 1 zjw w aa l) (ub:EU 1 zjw w ab l) :
  Calls Tryz.prog 27 #[.slice aa l.length ca,.slice ab l.length cb] w λ e w' => e=.returned (.bool true)/\BH w w':=by
 go_enter func27,ntmps27;go_wp2_with fail;go_loopw [13] (λ s wr => ∃ k:Nat,k<=l.length/\s=.int .i64 k/\BH w wr) (λ s _ => l.length - (intOf s).toNat)
 case atStart => exact ⟨0,Nat.zero_le _,rfl,br⟩
 case round =>
  obtain ⟨k,hk,rfl,hbr⟩:=hrel
  by_cases hlt:k < l.length
  ·obtain ⟨x,hx⟩:∃ x,l[k]?=some x:=⟨l[k],gE hlt⟩;obtain ⟨b1,off1,cs1,ea,-,hs1,e1⟩:=(ua.mono zaZ hbr) k x hx;obtain ⟨b2,off2,cs2,eb,-,hs2,e2⟩:=(ub.mono zaZ hbr) k x hx;have c1:=hs1 0 (.int .i64 (x:Nat)) (by rw [e1]; rfl);have c2:=hs2 0 (.int .i64 (x:Nat)) (by rw [e2]; rfl);rw [Nat.mul_one,Nat.add_zero] at c1 c2;subst ea;subst eb;have hkl:(k:Int) < (l.length:Int):=by omega
   clear hx hs1 hs2 e1 e2 ua ub;go_upto_region 6 with fail;refine zae (wx:=wr) [vf (.slice (some ⟨b1,off1,none⟩) l.length ca),vf (.int .i64 k),vf (.pointer (some ⟨b1,off1 + k,none⟩)),vf (.int .i64 (x:Nat)),vf (.slice (some ⟨b2,off2,none⟩) l.length cb),vf (.int .i64 k),vf (.pointer (some ⟨b2,off2 + k,none⟩)),vf (.int .i64 (x:Nat)),vf (.bool false)] [16,17,18,19,20,21,22,23,24] (by kernel_rfl) (by kernel_rfl) (by kernel_rfl) (of_decide_eq_true (by kernel_rfl)) br ⟨sV _,sV _,sV _,sV _,sV _,sV _,sV _,sV _,sV _,trivial⟩ ⟨?s0,?s1,?s2,?s3,?s4,?s5,?s6,?s7,?s8,trivial⟩ ?he
   case' s0 | s1 | s2 | s3 | s4 | s5 | s6 | s7 | s8 =>
    rintro T W hb hA K hK
   case' s0 | s1 | s4 | s5 =>
    simp only [sA] at hK |-
   case' s2 =>
    have e0:T 16=_:=hA.1;have e1:T 17=_:=hA.2.1;simp only [sA,e0,e1] at hK |-
   case' s6 =>
    have e4:T 20=_:=hA.1;have e5:T 21=_:=hA.2.1;simp only [sA,e4,e5] at hK |-
   case' s8 =>
    have e3:T 19=_:=hA.1;have e7:T 23=_:=hA.2.1;simp only [sA,e3,e7] at hK |-
   case' s3 =>
    have e2:T 18=_:=hA.1;simp only [sA,e2] at hK |-;have HK:=hii hK;clear hK hA;have h0:=(hb.cell (zag c1)).trans c1
   case' s7 =>
    have e6:T 22=_:=hA.1;simp only [sA,e6] at hK |-;have HK:=hii hK;clear hK hA;have h0:=(hb.cell (zag c2)).trans c2
   case s0 | s1 | s2 | s4 | s5 | s6 | s8 =>
    have HK:=hii hK;clear hK hA;refine wO rfl (by rfl) ?_;go_simp;exact HK.out _ _ br (rfl)
   case s3 | s7 =>
    refine wO rfl (by rfl) ?_;go_simp;exact HK.out _ _ br (rfl)
   case he =>
    rintro T W hb hA;have f8:T 24=.bool false:=hA.at 8 (by decide);simp only [sA,f8];have hbr:=bu hbr hb;clear hA f8 hb;go_wp2;go_roundw
    case rel => exact ⟨k + 1,by omega,by go_num,hbr⟩
    case measure => simp [intOf]; omega
  ·obtain rfl:k=l.length:=by omega
   go_wp2;go_ret;exact ⟨rfl,hbr⟩
end Go.Proofs.YtfgffkmddanjjaaGreatDoor
