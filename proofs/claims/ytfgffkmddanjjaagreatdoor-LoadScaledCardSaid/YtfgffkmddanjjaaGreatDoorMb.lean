/-
  The reference: Sorted.
-/
import Derived.Test.YtfgffkmddanjjaaGreatDoorMp
set_option linter.unusedVariables false
set_option linter.unusedSimpArgs false
set_option maxRecDepth 100000
set_option maxHeartbeats 25600000
namespace Go.Proofs.YtfgffkmddanjjaaGreatDoor
open _root_.Go.Proofs.Tryz
open Go.RowKit
theorem zjI {L:List Nat} {j u:Nat} (hj:0 < j) (hl:j<=L.length):(L.take j ++ u :: L.drop j).set j (L.getD (j - 1) 0)=L.take (j - 1) ++ L.getD (j - 1) 0 :: L.drop (j - 1):=by
 obtain ⟨j,rfl⟩:∃ q,j=q + 1:=⟨j - 1,by omega⟩;have hlt:j < L.length:=by omega
 rw [show j + 1 - 1=j by omega,List.getD_eq_getElem?_getD,gE hlt,Option.getD_some];rw [List.set_append_right _ _ (by rw [List.length_take]; omega),show j + 1 - (L.take (j + 1)).length=0 by rw [List.length_take]; omega,List.set_cons_zero];rw [<- List.take_append_getElem hlt,List.append_assoc,List.drop_eq_getElem_cons hlt]
 rfl
theorem zh6 {L:List Nat} {j u:Nat} (hj:0 < j) (hl:j<=L.length):(L.take j ++ u :: L.drop j)[j - 1]?=some (L.getD (j - 1) 0):=by
 rw [List.getElem?_append_left (by rw [List.length_take]; omega),List.getElem?_take_of_lt (by omega),List.getD_eq_getElem?_getD,gE (by omega)]
 rfl
theorem zh7 {L:List Nat} {k u x:Nat} (hl:k<=L.length):(L.take k ++ u :: L.drop k).set k x=L.take k ++ x :: L.drop k:=by
 rw [List.set_append_right _ _ (by rw [List.length_take]; omega),show k - (L.take k).length=0 by rw [List.length_take]; omega,List.set_cons_zero]
theorem zho (l:List Nat) (aa:Option Addr) (ca:Nat) (w:World) (hl:l.length<=1000) (ua:zaM w aa l) (h16:Hid (zaJ l)) :
  Calls Tryz.prog 127 #[.slice aa l.length ca] w λ e w' => (∃ v,e=.returned v/\zbT w' w.heap.size v (zaV l))/\BH w w':=by
 have hbw:=Below.refl w.heap.size w;go_enter func127,ntmps127;go_wp2_with fail;go_loopw [3,4] (λ v s wr => ∃ i:Nat,i<=l.length/\s=.int .i64 i/\zbT wr w.heap.size v (zaV (l.take i))/\BH w wr) (λ _ s _ => l.length - (intOf s).toNat)
 case atStart => exact ⟨0,Nat.zero_le _,rfl,zbT.nil _ _,hbw⟩
 case round =>
  clear hbw;obtain ⟨i,hi,rfl,hO,hbw⟩:=hrel
  by_cases hlt:i < l.length
  ·obtain ⟨x,hx⟩:∃ x,l[i]?=some x:=⟨l[i],gE hlt⟩;have hx16:=h16.out x (List.mem_of_getElem? hx);obtain ⟨b1,off1,ea1,hc1⟩:=ua i x hx;have HS:Hid (zaV (l.take (i + 1))=zdv (zaV (l.take i)) x):=hii (zh2 hx);have hL16:∀ y∈zaV (l.take i),y < 65536:=λ y hy => h16.out y (List.mem_of_mem_take (zcw.1 hy))
   have hLl:(zaV (l.take i)).length<=1000:=Nat.le_trans (zeh _) (by rw [List.length_take]; omega);obtain ⟨L,hL⟩:∃ L,zaV (l.take i)=L:=⟨_,rfl⟩;rw [hL] at HS hL16 hLl hO;have HL16:=hii hL16;clear hL hL16;obtain ⟨aL,cL,rfl,hcL,uL⟩:=hO.read;obtain ⟨n,hn⟩:∃ n,L.length=n:=⟨_,rfl⟩;rw [hn] at hO hLl;have Hn:=hii hn;rw [hn];obtain ⟨N,hN⟩:∃ N,l.length=N:=⟨_,rfl⟩;rw [hN] at hlt hi hl |-;have HN:=hii hN;have hil:(i:Int) < (N:Int):=by omega
   have Hx:=hii hx;have hbo:=Below.refl wr.heap.size wr;obtain ⟨wo,rfl⟩:=exi wr;clear hn hN hx hcL;subst ea1;go_wp2_with fail;go_loopw [5] (λ s wr => ∃ k:Nat,k<=n/\s=.int .i64 k/\Hid (∀ y∈L.take k,bef y x=true)/\Hid (BH wo wr)) (λ s _ => n - (intOf s).toNat)
   case atStart => exact ⟨0,Nat.zero_le _,rfl,hii (by simp),hii hbo⟩
   case round =>
    clear hbo;obtain ⟨k,hk,rfl,HB,Hbo⟩:=hrel;have hbr:=Below.step hbw Hbo.out nl;have hOk:=hO.mono Hbo.out;have hc:=(hbr.cell (zag hc1)).trans hc1;obtain ⟨b,hb9⟩:∃ b,decide (k < n)=b:=⟨_,rfl⟩;obtain ⟨y,hy⟩:∃ y,L.getD k 0=y:=⟨_,rfl⟩;have Hy:Hid (b=true->k < n/\L[k]?=some y):=hii λ e => by
     have h:=of_decide_eq_true (hb9.trans e);refine ⟨h,?_⟩;rw [<- hy,List.getD_eq_getElem?_getD,gE (by rw [Hn.out]; exact h)]
     rfl
    have Hyf:Hid (b=false->n<=k):=hii λ e => by have:=of_decide_eq_false (hb9.trans e); omega
    have hy16:y < 65536:=by
     cases b with
     | true => exact HL16.out y (List.mem_of_getElem? (Hy.out rfl).2)
     | false => rw [<- hy,List.getD_eq_getElem?_getD,List.getElem?_eq_none (by rw [Hn.out]; exact Hyf.out rfl)]; decide
    obtain ⟨b2,off2,HA⟩:∃ b2 off2,Hid (b=true->aL=some ⟨b2,off2,none⟩/\wr.cell? ⟨b2,off2 + k,none⟩=some (.int .u16 (y:Nat))):=by
     cases b with
     | false => exact ⟨0,0,hii λ e => by cases e⟩
     | true =>
      obtain ⟨b2,off2,e,h⟩:=(uL.mono Hbo.out) k y (Hy.out rfl).2;exact ⟨b2,off2,hii λ _ => ⟨e,h⟩⟩
    obtain ⟨z,hz⟩:∃ z,bef y x=z:=⟨_,rfl⟩;have HKc:Hid (∀ W,Calls Tryz.prog 89 #[.int .u16 (y:Nat),.int .u16 (x:Nat)] W λ e w' => e=.returned (.bool z)/\BH W w'):=hii λ W => by have:=zhp y x W hy16 hx16; rw [hz] at this; exact this
    have HZ:=hii hz;obtain ⟨q,hq⟩:∃ q,(y == x)=q:=⟨_,rfl⟩;have hq2:((y:Int) == (x:Int))=q:=by rw [<- hq,Bool.eq_iff_iff,beq_iff_eq,beq_iff_eq]; omega
    have HQ:=hii hq;clear hz hy;go_upto_region 6 with fail;refine zae (wx:=wr) [vf (.int .i64 k),vf (.slice aL n cL),vf (.int .i64 n),vf (.bool b),vf (.bool b),vf (bif b then .slice aL n cL else undef),vf (bif b then .int .i64 k else undef),vf (bif b then .pointer (some ⟨b2,off2 + k,none⟩) else undef),vf (bif b then .int .u16 (y:Nat) else undef),vf (bif b then .slice (some ⟨b1,off1,none⟩) N ca else undef),vf (bif b then .int .i64 i else undef),vf (bif b then .pointer (some ⟨b1,off1 + i,none⟩) else undef),vf (bif b then .int .u16 (x:Nat) else undef),vf (bif b then .bool z else undef),vf (bif b then .bool z else .bool false)] [13,14,15,16,17,18,19,20,21,22,23,24,25,26,27] (by kernel_rfl) (by kernel_rfl) (by kernel_rfl) (of_decide_eq_true (by kernel_rfl)) br ⟨sV _,sV _,sV _,sV _,sV _,sV _,sV _,sV _,sV _,sV _,sV _,sV _,sV _,sV _,sV _,trivial⟩ ⟨?s0,?s1,?s2,?s3,?s4,?s5,?s6,?s7,?s8,?s9,?s10,?s11,?s12,?s13,?s14,trivial⟩ ?he
    case' s0 | s1 | s2 | s3 | s4 =>
     rintro T W hb hA K hK
    case' s0 | s1 =>
     simp only [sA] at hK |-
    case' s2 =>
     have e1:T 14=_:=hA.1;simp only [sA,e1] at hK |-
    case' s3 =>
     have e0:T 13=_:=hA.1;have e2:T 15=_:=hA.2.1;simp only [sA,e0,e2] at hK |-
    case' s4 =>
     have e3:T 16=_:=hA.1;simp only [sA,e3] at hK |-
    case s0 | s1 | s2 | s3 | s4 =>
     have HK:=hii hK;clear hK hA;refine wO rfl (by rfl) ?_;go_simp;exact HK.out _ _ br (rfl)
    case s5 | s6 | s9 | s10 =>
     cases b
     ·rintro T W hb hA K hK;have e4:T 17=_:=hA.1;simp only [sA,e4] at hK |-;have HK:=hii hK;clear hK hA;refine zax rfl (by rfl) ?_;simp only [Act.put,List.setIfInBounds_toArray];exact HK.out _ _ br (rfl)
     ·rintro T W hb hA K hK;have e4:T 17=_:=hA.1;simp only [sA,e4] at hK |-;have HK:=hii hK;clear hK hA;refine wO rfl (by rfl) ?_;go_simp;exact HK.out _ _ br (rfl)
    case s7 =>
     cases b
     ·rintro T W hb hA K hK;have e5:T 18=_:=hA.1;have e6:T 19=_:=hA.2.1;have e4:T 17=_:=hA.2.2.1;simp only [sA,e5,e6,e4] at hK |-;have HK:=hii hK;clear hK hA;refine zax rfl (by rfl) ?_;simp only [Act.put,List.setIfInBounds_toArray];exact HK.out _ _ br (rfl)
     ·rintro T W hb hA K hK;have e5:T 18=_:=hA.1;have e6:T 19=_:=hA.2.1;have e4:T 17=_:=hA.2.2.1;simp only [sA,e5,e6,e4] at hK |-;have HK:=hii hK;clear hK hA;obtain ⟨ea,h0⟩:=HA.out rfl;obtain ⟨hkn,-⟩:=Hy.out rfl;have hkn2:(k:Int) < (n:Int):=by omega
      subst ea;refine wO rfl (by rfl) ?_;go_simp;exact HK.out _ _ br (rfl)
    case s8 =>
     cases b
     ·rintro T W hb hA K hK;have e7:T 20=_:=hA.1;have e4:T 17=_:=hA.2.1;simp only [sA,e7,e4] at hK |-;have HK:=hii hK;clear hK hA;refine zax rfl (by rfl) ?_;simp only [Act.put,List.setIfInBounds_toArray];exact HK.out _ _ br (rfl)
     ·rintro T W hb hA K hK;have e7:T 20=_:=hA.1;have e4:T 17=_:=hA.2.1;simp only [sA,e7,e4] at hK |-;have HK:=hii hK;clear hK hA;obtain ⟨ea,h0⟩:=HA.out rfl;subst ea;have h0:=(hb.cell (zag h0)).trans h0;refine wO rfl (by rfl) ?_;go_simp;exact HK.out _ _ br (rfl)
    case s11 =>
     cases b
     ·rintro T W hb hA K hK;have e9:T 22=_:=hA.1;have e10:T 23=_:=hA.2.1;have e4:T 17=_:=hA.2.2.1;simp only [sA,e9,e10,e4] at hK |-;have HK:=hii hK;clear hK hA;refine zax rfl (by rfl) ?_;simp only [Act.put,List.setIfInBounds_toArray];exact HK.out _ _ br (rfl)
     ·rintro T W hb hA K hK;have e9:T 22=_:=hA.1;have e10:T 23=_:=hA.2.1;have e4:T 17=_:=hA.2.2.1;simp only [sA,e9,e10,e4] at hK |-;have HK:=hii hK;clear hK hA;refine wO rfl (by rfl) ?_;go_simp;exact HK.out _ _ br (rfl)
    case s12 =>
     cases b
     ·rintro T W hb hA K hK;have e11:T 24=_:=hA.1;have e4:T 17=_:=hA.2.1;simp only [sA,e11,e4] at hK |-;have HK:=hii hK;clear hK hA;refine zax rfl (by rfl) ?_;simp only [Act.put,List.setIfInBounds_toArray];exact HK.out _ _ br (rfl)
     ·rintro T W hb hA K hK;have e11:T 24=_:=hA.1;have e4:T 17=_:=hA.2.1;simp only [sA,e11,e4] at hK |-;have HK:=hii hK;clear hK hA;have h0:=(hb.cell (zag hc)).trans hc;refine wO rfl (by rfl) ?_;go_simp;exact HK.out _ _ br (rfl)
    case s13 =>
     cases b
     ·rintro T W hb hA K hK;have e8:T 21=_:=hA.1;have e12:T 25=_:=hA.2.1;have e4:T 17=_:=hA.2.2.1;simp only [sA,e8,e12,e4] at hK |-;have HK:=hii hK;clear hK hA;refine zax rfl (by rfl) ?_;simp only [Act.put,List.setIfInBounds_toArray];exact HK.out _ _ br (rfl)
     ·rintro T W hb hA K hK;have e8:T 21=_:=hA.1;have e12:T 25=_:=hA.2.1;have e4:T 17=_:=hA.2.2.1;simp only [sA,e8,e12,e4] at hK |-;have HK:=hii hK;clear hK hA;refine wO rfl (by rfl) ?_;go_simp;go_fit (HKc.out W);rintro e w2 ⟨rfl,hb1⟩
      try dsimp only
      exact HK.out _ _ hb1 (rfl)
    case s14 =>
     cases b
     ·rintro T W hb hA K hK;have e4:T 17=_:=hA.1;have e13:T 26=_:=hA.2.1;simp only [sA,e4,e13] at hK |-;have HK:=hii hK;clear hK hA;refine wO rfl (by rfl) ?_;go_simp;exact HK.out _ _ br (rfl)
     ·rintro T W hb hA K hK;have e4:T 17=_:=hA.1;have e13:T 26=_:=hA.2.1;simp only [sA,e4,e13] at hK |-;have HK:=hii hK;clear hK hA;refine wO rfl (by rfl) ?_;go_simp;exact HK.out _ _ br (rfl)
    case he =>
     rintro T W hb hA;have f14:T 27=bif b then .bool z else .bool false:=hA.at 14 (by decide)
     obtain ⟨c,hcc⟩:∃ c,(b && z)=c:=⟨_,rfl⟩;have f14:T 27=.bool c:=by rw [f14,<- hcc]; cases b <;> rfl
     simp only [sA,f14];have Hbo:=hii (Below.step Hbo.out hb nl);have hbr:=bu hbr hb;have hOk:=hOk.mono hb;have hc:=(hb.cell (zag hc)).trans hc;have HA:Hid (b=true->aL=some ⟨b2,off2,none⟩/\W.cell? ⟨b2,off2 + k,none⟩=some (.int .u16 (y:Nat))):=hii λ e => ⟨(HA.out e).1,(hb.cell (zag (HA.out e).2)).trans (HA.out e).2⟩
     clear hA f14 hb HKc
     cases c with
     | true =>
      have HB2:Hid (∀ y∈L.take (k + 1),bef y x=true):=hii λ y' hy' => by
       rw [Bool.and_eq_true] at hcc;rw [zaH (Hy.out hcc.1).2] at hy';rcases List.mem_append.1 hy' with h | h
       ·exact HB.out y' h
       ·simp at h; subst h; rw [HZ.out]; exact hcc.2
      have hkn:k < n:=by rw [Bool.and_eq_true] at hcc; exact (Hy.out hcc.1).1
      clear HB hcc hb9;go_wp2;go_roundw
      case rel => exact ⟨k + 1,by omega,by go_num,HB2,Hbo⟩
      case measure => simp [intOf]; omega
     | false =>
      have HX:Hid (∀ y',L[k]?=some y'->bef y' x=false):=hii λ y' hy' => by
       cases b with
       | true =>
        have:=(Hy.out rfl).2.symm.trans hy';simp only [Option.some.injEq] at this;rw [<- this,HZ.out]; simpa using hcc
       | false =>
        have:=(List.getElem?_eq_some_iff.1 hy').1;have:=Hyf.out rfl;rw [Hn.out] at *;omega
      have HI:Hid (zdv L x=if L[k]?=some x then L else L.take k ++ x :: L.drop k):=hii (zkR L x k HB.out (by rw [Hn.out]; exact hk) HX.out);clear HB HX hcc;obtain ⟨wp,rfl⟩:=exi W;go_upto_region 8 with fail;refine zae (wx:=wp) [vf (.int .i64 k),vf (.slice aL n cL),vf (.int .i64 n),vf (.bool b),vf (.bool b),vf (bif b then .slice aL n cL else undef),vf (bif b then .int .i64 k else undef),vf (bif b then .pointer (some ⟨b2,off2 + k,none⟩) else undef),vf (bif b then .int .u16 (y:Nat) else undef),vf (bif b then .slice (some ⟨b1,off1,none⟩) N ca else undef),vf (bif b then .int .i64 i else undef),vf (bif b then .pointer (some ⟨b1,off1 + i,none⟩) else undef),vf (bif b then .int .u16 (x:Nat) else undef),vf (bif b then .bool q else undef),vf (bif b then .bool q else .bool false)] [30,31,32,33,34,35,36,37,38,39,40,41,42,43,44] (by kernel_rfl) (by kernel_rfl) (by kernel_rfl) (of_decide_eq_true (by kernel_rfl)) br ⟨sV _,sV _,sV _,sV _,sV _,sV _,sV _,sV _,sV _,sV _,sV _,sV _,sV _,sV _,sV _,trivial⟩ ⟨?s0,?s1,?s2,?s3,?s4,?s5,?s6,?s7,?s8,?s9,?s10,?s11,?s12,?s13,?s14,trivial⟩ ?he
      case' s0 | s1 | s2 | s3 | s4 =>
       rintro T W hb hA K hK
      case' s0 | s1 =>
       simp only [sA] at hK |-
      case' s2 =>
       have e1:T 31=_:=hA.1;simp only [sA,e1] at hK |-
      case' s3 =>
       have e0:T 30=_:=hA.1;have e2:T 32=_:=hA.2.1;simp only [sA,e0,e2] at hK |-
      case' s4 =>
       have e3:T 33=_:=hA.1;simp only [sA,e3] at hK |-
      case s0 | s1 | s2 | s3 | s4 =>
       have HK:=hii hK;clear hK hA;refine wO rfl (by rfl) ?_;go_simp;exact HK.out _ _ br (rfl)
      case s5 | s6 | s9 | s10 =>
       cases b
       ·rintro T W hb hA K hK;have e4:T 34=_:=hA.1;simp only [sA,e4] at hK |-;have HK:=hii hK;clear hK hA;refine zax rfl (by rfl) ?_;simp only [Act.put,List.setIfInBounds_toArray];exact HK.out _ _ br (rfl)
       ·rintro T W hb hA K hK;have e4:T 34=_:=hA.1;simp only [sA,e4] at hK |-;have HK:=hii hK;clear hK hA;refine wO rfl (by rfl) ?_;go_simp;exact HK.out _ _ br (rfl)
      case s7 =>
       cases b
       ·rintro T W hb hA K hK;have e5:T 35=_:=hA.1;have e6:T 36=_:=hA.2.1;have e4:T 34=_:=hA.2.2.1;simp only [sA,e5,e6,e4] at hK |-;have HK:=hii hK;clear hK hA;refine zax rfl (by rfl) ?_;simp only [Act.put,List.setIfInBounds_toArray];exact HK.out _ _ br (rfl)
       ·rintro T W hb hA K hK;have e5:T 35=_:=hA.1;have e6:T 36=_:=hA.2.1;have e4:T 34=_:=hA.2.2.1;simp only [sA,e5,e6,e4] at hK |-;have HK:=hii hK;clear hK hA;obtain ⟨ea,h0⟩:=HA.out rfl;obtain ⟨hkn,-⟩:=Hy.out rfl;have hkn2:(k:Int) < (n:Int):=by omega
        subst ea;refine wO rfl (by rfl) ?_;go_simp;exact HK.out _ _ br (rfl)
      case s8 =>
       cases b
       ·rintro T W hb hA K hK;have e7:T 37=_:=hA.1;have e4:T 34=_:=hA.2.1;simp only [sA,e7,e4] at hK |-;have HK:=hii hK;clear hK hA;refine zax rfl (by rfl) ?_;simp only [Act.put,List.setIfInBounds_toArray];exact HK.out _ _ br (rfl)
       ·rintro T W hb hA K hK;have e7:T 37=_:=hA.1;have e4:T 34=_:=hA.2.1;simp only [sA,e7,e4] at hK |-;have HK:=hii hK;clear hK hA;obtain ⟨ea,h0⟩:=HA.out rfl;subst ea;have h0:=(hb.cell (zag h0)).trans h0;refine wO rfl (by rfl) ?_;go_simp;exact HK.out _ _ br (rfl)
      case s11 =>
       cases b
       ·rintro T W hb hA K hK;have e9:T 39=_:=hA.1;have e10:T 40=_:=hA.2.1;have e4:T 34=_:=hA.2.2.1;simp only [sA,e9,e10,e4] at hK |-;have HK:=hii hK;clear hK hA;refine zax rfl (by rfl) ?_;simp only [Act.put,List.setIfInBounds_toArray];exact HK.out _ _ br (rfl)
       ·rintro T W hb hA K hK;have e9:T 39=_:=hA.1;have e10:T 40=_:=hA.2.1;have e4:T 34=_:=hA.2.2.1;simp only [sA,e9,e10,e4] at hK |-;have HK:=hii hK;clear hK hA;refine wO rfl (by rfl) ?_;go_simp;exact HK.out _ _ br (rfl)
      case s12 =>
       cases b
       ·rintro T W hb hA K hK;have e11:T 41=_:=hA.1;have e4:T 34=_:=hA.2.1;simp only [sA,e11,e4] at hK |-;have HK:=hii hK;clear hK hA;refine zax rfl (by rfl) ?_;simp only [Act.put,List.setIfInBounds_toArray];exact HK.out _ _ br (rfl)
       ·rintro T W hb hA K hK;have e11:T 41=_:=hA.1;have e4:T 34=_:=hA.2.1;simp only [sA,e11,e4] at hK |-;have HK:=hii hK;clear hK hA;have h0:=(hb.cell (zag hc)).trans hc;refine wO rfl (by rfl) ?_;go_simp;exact HK.out _ _ br (rfl)
      case s13 =>
       cases b
       ·rintro T W hb hA K hK;have e8:T 38=_:=hA.1;have e12:T 42=_:=hA.2.1;have e4:T 34=_:=hA.2.2.1;simp only [sA,e8,e12,e4] at hK |-;have HK:=hii hK;clear hK hA;refine zax rfl (by rfl) ?_;simp only [Act.put,List.setIfInBounds_toArray];exact HK.out _ _ br (rfl)
       ·rintro T W hb hA K hK;have e8:T 38=_:=hA.1;have e12:T 42=_:=hA.2.1;have e4:T 34=_:=hA.2.2.1;simp only [sA,e8,e12,e4] at hK |-;have HK:=hii hK;clear hK hA;refine wO rfl (by rfl) ?_;go_simp;exact HK.out _ _ br (rfl)
      case s14 =>
       cases b
       ·rintro T W hb hA K hK;have e4:T 34=_:=hA.1;have e13:T 43=_:=hA.2.1;simp only [sA,e4,e13] at hK |-;have HK:=hii hK;clear hK hA;refine wO rfl (by rfl) ?_;go_simp;exact HK.out _ _ br (rfl)
       ·rintro T W hb hA K hK;have e4:T 34=_:=hA.1;have e13:T 43=_:=hA.2.1;simp only [sA,e4,e13] at hK |-;have HK:=hii hK;clear hK hA;refine wO rfl (by rfl) ?_;go_simp;exact HK.out _ _ br (rfl)
      case he =>
       rintro T W hb hA;have f14:T 44=bif b then .bool q else .bool false:=hA.at 14 (by decide)
       obtain ⟨c,hcc⟩:∃ c,(b && q)=c:=⟨_,rfl⟩;have f14:T 44=.bool c:=by rw [f14,<- hcc]; cases b <;> rfl
       simp only [sA,f14];have hbr:=bu hbr hb;have hOk:=hOk.mono hb;clear hA f14 hb HA Hbo hc
       cases c with
       | true =>
        have HE:Hid (zaV (l.take (i + 1))=L):=hii (by
         rw [Bool.and_eq_true] at hcc;have e:=HQ.out;rw [hcc.2,beq_iff_eq] at e;rw [HS.out,HI.out,if_pos];rw [(Hy.out hcc.1).2,e])
        clear HI hcc hb9;go_wp2;go_roundw
        case rel => exact ⟨i + 1,by omega,by go_num,by rw [HE.out]; exact hOk,hbr⟩
        case measure => simp [intOf]; omega
       | false =>
        have HE:Hid (zaV (l.take (i + 1))=L.take k ++ x :: L.drop k):=hii (by
         rw [HS.out,HI.out,if_neg];intro h
         cases b with
         | false =>
          have h1:=(List.getElem?_eq_some_iff.1 h).1;have:=Hyf.out rfl;rw [Hn.out] at h1;omega
         | true =>
          have h2:=(Hy.out rfl).2.symm.trans h;simp only [Option.some.injEq] at h2;have e:=HQ.out;rw [h2,beq_self_eq_true] at e;rw [<- e] at hcc
          cases hcc)
        clear HI hcc hb9 HQ HZ Hy Hyf hq hq2;have hsz:=hbr.size;obtain ⟨wq,rfl⟩:=exi W;have e0:L ++ [0]=L.take n ++ 0 :: L.drop n:=by rw [List.take_of_length_le (by rw [Hn.out]; omega),List.drop_of_length_le (by rw [Hn.out]; omega)]
        obtain ⟨n1,hn1⟩:∃ m,m=n + 1:=⟨_,rfl⟩;have hl1:(L ++ [0]).length=n1:=by rw [List.length_append,Hn.out,List.length_singleton,hn1]
        have hn1i:(n1:Int) - 1=(n:Int):=by omega
        have hn1l:n1<=1001:=by omega
        have hn1n:n < n1:=by omega
        have HE0:=hii e0;have HL1:=hii hl1;clear e0 hl1 hn1;go_wp2_with (at_builtin; go_loud (refine zi3 wq w w.heap.size rfl (.tmp 45) (.tmp 46) rfl (a:=0) rfl rfl hOk hsz hbr (by rw [Hn.out]; omega) ?_); intro v2 w6 hO2 hb2; obtain ⟨g,c3,rfl,hg,hc3⟩:=hO2.row (by simp); rw [HL1.out] at hO2 hc3 |-; rw [HE0.out] at hO2; clear hOk hsz hO uL);go_loopw [6] (λ s wr => ∃ j u:Nat,k<=j/\j<=n/\s=.int .i64 j/\zbT wr w.heap.size (.slice (some ⟨g,0,none⟩) n1 c3) (L.take j ++ u :: L.drop j)/\Hid (BH w wr)) (λ s _ => (intOf s).toNat)
        case atStart => exact ⟨n,0,hk,nl,by go_num,hO2,hii hb2⟩
        case round =>
         clear hO2 hb2;obtain ⟨j,u,hj1,hj2,rfl,hOj,Hbj⟩:=hrel;have c2:=hOj.cell (k:=j) (x:=u) (by rw [List.getElem?_append_right (by rw [List.length_take]; omega),show j - (L.take j).length=0 by rw [List.length_take,Hn.out]; omega]; rfl);have f2:=hOj.free j;have hjn:(j:Int) < (n1:Int):=by omega
         by_cases hjk:k < j
         ·have c1:=hOj.cell (zh6 (u:=u) (j:=j) (by omega) (by rw [Hn.out]; omega));have hO3:=hOj.set j (L.getD (j - 1) 0);rw [zjI (by omega) (by rw [Hn.out]; omega)] at hO3;obtain ⟨y2,hy2⟩:∃ y,L.getD (j - 1) 0=y:=⟨_,rfl⟩;rw [hy2] at c1 hO3;have hj3:(j:Int) - 1=((j - 1:Nat):Int):=by omega
          have hjk2:(k:Int) < (j:Int):=by omega
          have HO3:=hii hO3;have Hb3:=hii (Hbj.out.setCell (p:=⟨g,j,none⟩) hg (.int .u16 (y2:Nat)));clear hO3 hOj hy2;go_wp2;go_roundw
          case rel => exact ⟨j - 1,y2,by omega,by omega,by go_num,HO3.out,Hb3⟩
          case measure => simp [intOf]; omega
         ·obtain rfl:j=k:=by omega
          have hc:=(Hbj.out.cell (zag hc1)).trans hc1;have hO3:=hOj.set j x;rw [zh7 (by rw [Hn.out]; omega)] at hO3;have HO3:=hii hO3;have Hb3:=hii (Hbj.out.setCell (p:=⟨g,j,none⟩) hg (.int .u16 (x:Nat)));clear hO3 hOj;go_wp2;go_roundw
          case rel => exact ⟨i + 1,by omega,by go_num,by rw [HE.out]; exact HO3.out,Hb3.out⟩
          case measure => simp [intOf]; omega
  ·obtain rfl:i=l.length:=by omega
   rw [List.take_length] at hO;go_wp2;go_ret;exact ⟨⟨_,rfl,hO⟩,hbw⟩
theorem zbT.weak {w:World} {B B':Nat} {v:Value} {l:List Nat} (h:zbT w B v l) (hB:B'<=B):zbT w B' v l:=by
 rcases h with ⟨h1,h2 | ⟨g,cap,cur,e,h2,h3⟩⟩
 ·exact ⟨h1,.inl h2⟩
 ·exact ⟨h1,.inr ⟨g,cap,cur,e,Nat.le_trans hB h2,h3⟩⟩
theorem zaM.kept {G:Nat->Prop} {w w':World} {ao:Option Addr} {l:List Nat} (h:zaM w ao l) (hk:zaf G w w') (hp:NoG G w):zaM w' ao l:=by
 intro i x hi;obtain ⟨b,off,e,hc⟩:=h i x hi;refine ⟨b,off,e,?_⟩
 by_cases hb:G b
 ·exfalso
  unfold World.cell? at hc;simp only at hc
  cases ho:w.heap[b]? with
  | none => rw [ho] at hc; simp at hc
  | some ob =>
   rw [ho] at hc
   cases ob with
   | cells cur t fr =>
    simp only [Option.isSome_none,Bool.false_eq_true,if_false] at hc;exact hp b hb cur t fr ho _ (by have:=Array.mem_of_getElem? hc; exact Array.mem_toList_iff.2 this) _ _ rfl
   | _ => simp at hc
 ·exact hk.cell hc hb
def zeA (s:List Nat) (i k:Nat):Bool:=(List.range k).all λ k => decide (i=k) || !zdj (s.getD i 0) (s.getD k 0)
theorem zhx (s:List Nat) (i k:Nat):zeA s i (k + 1)=(zeA s i k && (decide (i=k) || !zdj (s.getD i 0) (s.getD k 0))):=by
 unfold zeA; rw [List.range_succ,List.all_append]; simp
theorem zcC (l:List Nat) (aa:Option Addr) (ca:Nat) (w:World) (hl:l.length<=1000) (ua:zaM w aa l) (h16:Hid (zaJ l)) :
  Calls Tryz.prog 75 #[.slice aa l.length ca] w λ e w' => (∃ v,e=.returned v/\zbT w' w.heap.size v (zch l))/\BH w w':=by
 have hbw:=Below.refl w.heap.size w;go_enter func75,ntmps75;go_wp2_with fail;go_fit (zho l aa ca w hl ua h16);rintro e w1 ⟨⟨v,rfl,hO⟩,hb⟩;obtain ⟨S,hS⟩:∃ S,zaV l=S:=⟨_,rfl⟩;have HS16:Hid (zaJ S):=hii λ x hx => h16.out x (zcw.1 (by rw [hS]; exact hx))
 have hSl:S.length<=1000:=by rw [<- hS]; exact Nat.le_trans (zeh _) hl
 have HL:Hid (zch l=zaW S S.length):=hii (by rw [<- hS]; rfl);rw [hS] at hO;obtain ⟨aS,cS,rfl,hcS,uS⟩:=hO.read;have hbw:=bu hbw hb;clear hb hS hO hcS ua;obtain ⟨n,hn⟩:∃ n,S.length=n:=⟨_,rfl⟩;have Hn:=hii hn;rw [hn] at hSl HL |-;clear hn;have hbq:=Below.refl w1.heap.size w1;go_wp2_with fail;go_loopw [3,5] (λ v s wr => ∃ i:Nat,i<=n/\s=.int .i64 i/\zbT wr w1.heap.size v (zaW S i)/\Hid (BH w1 wr)) (λ _ s _ => n - (intOf s).toNat)
 case atStart => exact ⟨0,Nat.zero_le _,rfl,zbT.nil _ _,hii hbq⟩
 case round =>
  clear hbq;obtain ⟨i,hi,rfl,hO,Hbq⟩:=hrel
  by_cases hlt:i < n
  ·obtain ⟨a,ha⟩:∃ x,S[i]?=some x:=⟨S[i]'(by rw [Hn.out]; exact hlt),gE _⟩;have ha16:=HS16.out a (List.mem_of_getElem? ha);have Ha:=hii ha;have Hga:Hid (S.getD i 0=a):=hii (by rw [List.getD_eq_getElem?_getD,ha]; rfl);have hil:(i:Int) < (n:Int):=by omega
   have HLt:=hii (zb2 S i);obtain ⟨L,hL⟩:∃ L,zaW S i=L:=⟨_,rfl⟩;have hLl:L.length<=1000000:=by rw [<- hL]; exact Nat.le_trans (zcn _ _) (by omega)
   rw [hL] at hO HLt;obtain ⟨aO,cO,eO,-,-⟩:=hO.read;obtain ⟨nO,hnO⟩:∃ m,L.length=m:=⟨_,rfl⟩;clear ha hL;have hbo:=Below.refl wr.heap.size wr;obtain ⟨wo,rfl⟩:=exi wr;rw [hnO] at eO;subst eO;clear hnO;go_wp2_with fail;go_loopw [6,7] (λ b s wr => ∃ (k:Nat) (z:Bool),k<=n/\s=.int .i64 k/\b=.bool z/\Hid (z=zeA S i k)/\Hid (BH wo wr)) (λ _ s _ => n - (intOf s).toNat)
   case atStart => exact ⟨0,true,Nat.zero_le _,rfl,rfl,hii rfl,hii hbo⟩
   case round =>
    clear hbo;obtain ⟨k,z,hk,rfl,rfl,HZ,Hbo⟩:=hrel;have HZ2:=hii (zhx S i k)
    by_cases hlk:k < n
    ·have hkl:(k:Int) < (n:Int):=by omega
     by_cases hik:i=k
     ·subst hik;have HZ3:Hid (z=zeA S i (i + 1)):=hii (by rw [HZ2.out,<- HZ.out]; simp);have hne:((i:Int) != (i:Int))=false:=by simp
      have hne2:(i != i)=false:=by simp
      clear HZ HZ2;obtain ⟨wp,rfl⟩:=exi wr;go_upto_region 10 with fail;refine zae (wx:=wp) [vf (.int .i64 i),vf (.int .i64 i),vf (.bool false),vf (.bool false),vf undef,vf undef,vf undef,vf undef,vf undef,vf undef,vf undef,vf undef,vf undef,vf (.bool false)] [22,23,24,25,26,27,28,29,30,31,32,33,34,35] (by kernel_rfl) (by kernel_rfl) (by kernel_rfl) (of_decide_eq_true (by kernel_rfl)) br ⟨sV _,sV _,sV _,sV _,sV _,sV _,sV _,sV _,sV _,sV _,sV _,sV _,sV _,sV _,trivial⟩ ⟨?s0,?s1,?s2,?s3,?s4,?s5,?s6,?s7,?s8,?s9,?s10,?s11,?s12,?s13,trivial⟩ ?he
      case' s0 | s1 | s2 | s3 | s4 | s5 | s6 | s7 | s8 | s9 | s10 | s11 | s12 | s13 =>
       rintro T W hb hA K hK
      case' s0 | s1 =>
       simp only [sA] at hK |-
      case' s2 =>
       have e0:T 22=_:=hA.1;have e1:T 23=_:=hA.2.1;simp only [sA,e0,e1] at hK |-
      case' s3 =>
       have e2:T 24=_:=hA.1;simp only [sA,e2] at hK |-
      case' s13 =>
       have e3:T 25=_:=hA.1;have e12:T 34=_:=hA.2.1;simp only [sA,e3,e12] at hK |-
      case' s4 | s5 | s8 | s9 =>
       have e3:T 25=_:=hA.1;simp only [sA,e3] at hK |-
      case' s6 =>
       have e4:T 26=_:=hA.1;have e5:T 27=_:=hA.2.1;have e3:T 25=_:=hA.2.2.1;simp only [sA,e4,e5,e3] at hK |-
      case' s7 =>
       have e6:T 28=_:=hA.1;have e3:T 25=_:=hA.2.1;simp only [sA,e6,e3] at hK |-
      case' s10 =>
       have e8:T 30=_:=hA.1;have e9:T 31=_:=hA.2.1;have e3:T 25=_:=hA.2.2.1;simp only [sA,e8,e9,e3] at hK |-
      case' s11 =>
       have e10:T 32=_:=hA.1;have e3:T 25=_:=hA.2.1;simp only [sA,e10,e3] at hK |-
      case' s12 =>
       have e7:T 29=_:=hA.1;have e11:T 33=_:=hA.2.1;have e3:T 25=_:=hA.2.2.1;simp only [sA,e7,e11,e3] at hK |-
      case s0 | s1 | s2 | s3 | s13 =>
       have HK:=hii hK;clear hK hA;refine wO rfl (by rfl) ?_;go_simp;exact HK.out _ _ br (rfl)
      case s4 | s5 | s6 | s7 | s8 | s9 | s10 | s11 | s12 =>
       have HK:=hii hK;clear hK hA;refine zax rfl (by rfl) ?_;simp only [Act.put,List.setIfInBounds_toArray];exact HK.out _ _ br (rfl)
      case he =>
       rintro T W hb hA;have f13:T 35=.bool false:=hA.at 13 (by decide);simp only [sA,f13];have Hbo:=hii (Below.step Hbo.out hb nl);clear hA f13 hb;go_wp2;go_roundw
       case rel => exact ⟨i + 1,z,by omega,by go_num,rfl,HZ3,Hbo⟩
       case measure => simp [intOf]; omega
     ·obtain ⟨x,hx⟩:∃ x,S[k]?=some x:=⟨S[k]'(by rw [Hn.out]; exact hlk),gE _⟩;have hx16:=HS16.out x (List.mem_of_getElem? hx);have usr:=uS.mono (Below.step Hbq.out Hbo.out nl);obtain ⟨b1,off1,ea,hc⟩:=usr k x hx;obtain ⟨b2,off2,ea2,hc2⟩:=usr i a Ha.out;have hne:((i:Int) != (k:Int))=true:=by simp; omega
      have hne2:(i != k)=true:=by simp; omega
      obtain ⟨y,hy⟩:∃ y,zdj a x=y:=⟨_,rfl⟩;have HZ3:Hid (zeA S i (k + 1)=(z && !y)):=hii (by rw [HZ2.out,<- HZ.out,Hga.out,show S.getD k 0=x by rw [List.getD_eq_getElem?_getD,hx]; rfl,hy]; simp [hik]);have HKc:Hid (∀ W,Calls Tryz.prog 90 #[.int .u16 (a:Nat),.int .u16 (x:Nat)] W λ e w' => e=.returned (.bool y)/\BH W w'):=hii λ W => by have:=ze6 a x ha16 hx16 W; rw [hy] at this; exact this
      cases ea
      cases ea2
      clear hx hy hik usr HZ HZ2;obtain ⟨wp,rfl⟩:=exi wr;go_upto_region 10 with fail;refine zae (wx:=wp) [vf (.int .i64 i),vf (.int .i64 k),vf (.bool true),vf (.bool true),vf (.slice (some ⟨b1,off1,none⟩) n cS),vf (.int .i64 i),vf (.pointer (some ⟨b1,off1 + i,none⟩)),vf (.int .u16 (a:Nat)),vf (.slice (some ⟨b1,off1,none⟩) n cS),vf (.int .i64 k),vf (.pointer (some ⟨b1,off1 + k,none⟩)),vf (.int .u16 (x:Nat)),vf (.bool y),vf (.bool y)] [22,23,24,25,26,27,28,29,30,31,32,33,34,35] (by kernel_rfl) (by kernel_rfl) (by kernel_rfl) (of_decide_eq_true (by kernel_rfl)) br ⟨sV _,sV _,sV _,sV _,sV _,sV _,sV _,sV _,sV _,sV _,sV _,sV _,sV _,sV _,trivial⟩ ⟨?s0,?s1,?s2,?s3,?s4,?s5,?s6,?s7,?s8,?s9,?s10,?s11,?s12,?s13,trivial⟩ ?he
      case' s0 | s1 | s2 | s3 | s4 | s5 | s6 | s7 | s8 | s9 | s10 | s11 | s12 | s13 =>
       rintro T W hb hA K hK
      case' s0 | s1 =>
       simp only [sA] at hK |-
      case' s2 =>
       have e0:T 22=_:=hA.1;have e1:T 23=_:=hA.2.1;simp only [sA,e0,e1] at hK |-
      case' s3 =>
       have e2:T 24=_:=hA.1;simp only [sA,e2] at hK |-
      case' s4 | s5 | s8 | s9 =>
       have e3:T 25=_:=hA.1;simp only [sA,e3] at hK |-
      case' s6 =>
       have e4:T 26=_:=hA.1;have e5:T 27=_:=hA.2.1;have e3:T 25=_:=hA.2.2.1;simp only [sA,e4,e5,e3] at hK |-
      case' s10 =>
       have e8:T 30=_:=hA.1;have e9:T 31=_:=hA.2.1;have e3:T 25=_:=hA.2.2.1;simp only [sA,e8,e9,e3] at hK |-
      case' s13 =>
       have e3:T 25=_:=hA.1;have e12:T 34=_:=hA.2.1;simp only [sA,e3,e12] at hK |-
      case' s7 =>
       have e6:T 28=_:=hA.1;have e3:T 25=_:=hA.2.1;simp only [sA,e6,e3] at hK |-;have HK:=hii hK;clear hK hA;have h0:=(hb.cell (zag hc2)).trans hc2
      case' s11 =>
       have e10:T 32=_:=hA.1;have e3:T 25=_:=hA.2.1;simp only [sA,e10,e3] at hK |-;have HK:=hii hK;clear hK hA;have h0:=(hb.cell (zag hc)).trans hc
      case s0 | s1 | s2 | s3 | s4 | s5 | s6 | s8 | s9 | s10 | s13 =>
       have HK:=hii hK;clear hK hA;refine wO rfl (by rfl) ?_;go_simp;exact HK.out _ _ br (rfl)
      case s7 | s11 =>
       refine wO rfl (by rfl) ?_;go_simp;exact HK.out _ _ br (rfl)
      case s12 =>
       have e7:T 29=_:=hA.1;have e11:T 33=_:=hA.2.1;have e3:T 25=_:=hA.2.2.1;simp only [sA,e7,e11,e3] at hK |-;have HK:=hii hK;clear hK hA;refine wO rfl (by rfl) ?_;go_simp;go_fit (HKc.out W);rintro e w2 ⟨rfl,hb1⟩
       try dsimp only
       exact HK.out _ _ hb1 (rfl)
      case he =>
       rintro T W hb hA;have f13:T 35=.bool y:=hA.at 13 (by decide);simp only [sA,f13];have Hbo:=hii (Below.step Hbo.out hb nl);clear hA f13 hb hc hc2 HKc
       cases y with
       | true =>
        have HZ4:Hid (false=zeA S i (k + 1)):=hii (by rw [HZ3.out]; simp);go_wp2;go_roundw
        case rel => exact ⟨k + 1,false,by omega,by go_num,rfl,HZ4,Hbo⟩
        case measure => simp [intOf]; omega
       | false =>
        have HZ4:Hid (z=zeA S i (k + 1)):=hii (by rw [HZ3.out]; simp);go_wp2;go_roundw
        case rel => exact ⟨k + 1,z,by omega,by go_num,rfl,HZ4,Hbo⟩
        case measure => simp [intOf]; omega
    ·have hkn:¬ (k:Int) < (n:Int):=by omega
     obtain rfl:k=n:=by omega
     have HZ3:Hid (zeB S i=z):=hii (by rw [HZ.out]; unfold zeB zeA; rw [Hn.out]);have hO:=hO.mono Hbo.out;have usr:=uS.mono (Below.step Hbq.out Hbo.out nl);obtain ⟨b2,off2,ea2,hc2⟩:=usr i a Ha.out
     cases ea2
     have Hbq:=hii (Below.step Hbq.out Hbo.out nl);clear HZ HZ2 usr Hbo
     cases z with
     | false =>
      have HLt:Hid (zaW S (i + 1)=L):=hii (by rw [HLt.out,HZ3.out]; simp);go_wp2;go_roundw
      case rel => exact ⟨i + 1,by omega,by go_num,by rw [HLt.out]; exact hO,Hbq⟩
      case measure => simp [intOf]; omega
     | true =>
      have HLt:Hid (zaW S (i + 1)=L ++ [a]):=hii (by rw [HLt.out,HZ3.out,Hga.out]; simp);have hsz:=Hbq.out.size;obtain ⟨wq,rfl⟩:=exi wr;go_wp2_with (at_builtin; go_loud (refine zi3 wq w1 w1.heap.size rfl (.tmp 37) (.tmp 42) rfl (a:=a) rfl rfl hO hsz Hbq.out hLl ?_); intro v2 w6 hO2 hb2);go_roundw
      case rel => exact ⟨i + 1,by omega,by go_num,by rw [HLt.out]; exact hO2,hii hb2⟩
      case measure => simp [intOf]; omega
  ·have hin:¬ (i:Int) < (n:Int):=by omega
   obtain rfl:i=n:=by omega
   go_wp2;go_ret;exact ⟨⟨_,rfl,by rw [HL.out]; exact hO.weak hbw.size⟩,Below.step hbw Hbq.out nl⟩
theorem zgD (l:List Nat) (n:Nat) (aa:Option Addr) (ca:Nat) (w:World) (hl:l.length<=9223372036854775807) (hn1:1<=n) (hn2:n<=12) (ua:zaM w aa l) (h16:Hid (zaJ l)) :
  Calls Tryz.prog 29 #[.slice aa l.length ca,.int .i64 (n:Nat)] w λ e w' => (∃ v,e=.returned v/\zbT w' w.heap.size v (zbR l n))/\BH w w':=by
 have hbw:=Below.refl w.heap.size w;obtain ⟨M,hM⟩:∃ M,2 ^ n=M:=⟨_,rfl⟩;have hM1:1<=M:=by rw [<- hM]; exact Nat.two_pow_pos n
 have hML:M<=4096:=by rw [<- hM]; exact Nat.pow_le_pow_right (by decide) hn2
 have hsh:(2:Int) ^ n=(M:Int):=by rw [<- hM]; push_cast; rfl
 have hwr:IntKind.u16.wrap (M:Int)=(M:Int):=zdg (by omega);obtain ⟨kM,hK⟩:∃ kM,M - 1=kM:=⟨_,rfl⟩;have hsb:(M:Int) - 1=(kM:Int):=by omega
 have hwk:IntKind.u16.wrap (kM:Int)=(kM:Int):=zdg (by omega);have hK16:kM < 65536:=by omega
 have HKn:Hid (kM=2 ^ n - 1):=hii (by rw [hM,hK]);have HS:Hid (∀ (i x:Nat),l[i]?=some x->zd5 (l.take (i + 1)) n=zd5 (l.take i) n ++ if x % M=0 then [] else [x % M]):=hii λ i x h => by rw [<- hM]; exact ziQ h
 have HA:Hid (∀ x:Nat,x < 65536->bits .and .u16 (x:Int) (kM:Int)=((x % M:Nat):Int)):=hii λ x hx => by
  rw [zi6 x kM hx,HKn.out,Nat.and_two_pow_sub_one_eq_mod,hM]
 have hn64:(n:Int) < 64:=by omega
 have HC:Hid (∀ k,(zd5 (l.take k) n).length<=k):=hii λ k => Nat.le_trans (zg1 _ _) (by simp; omega)
 have HM:=hii hM;clear hM hK;obtain ⟨N,hN⟩:∃ N,l.length=N:=⟨_,rfl⟩;have HN:=hii hN;rw [hN] at hl |-;clear hN;go_enter func29,ntmps29;go_wp2_with fail;go_loopw [5,6] (λ v s wr => ∃ i:Nat,i<=N/\i<=3/\s=.int .i64 i/\zbT wr w.heap.size v (zd5 (l.take i) n)/\Hid (BH w wr)) (λ _ s _ => 3 - (intOf s).toNat)
 case atStart => exact ⟨0,Nat.zero_le _,Nat.zero_le _,rfl,zbT.nil _ _,hii hbw⟩
 case round =>
  clear hbw;obtain ⟨i,hiN,hi3,rfl,hO,Hbw⟩:=hrel
  by_cases hlt:i < N/\i < 3
  ·have hilN:(i:Int) < (N:Int):=by omega
   have hil3:(i:Int) < 3:=by omega
   obtain ⟨x,hx⟩:∃ x,l[i]?=some x:=⟨l[i]'(by rw [HN.out]; exact hlt.1),gE _⟩;have hx16:=h16.out x (List.mem_of_getElem? hx);have HX:=hii (HS.out i x hx);have uar:=ua.mono Hbw.out;obtain ⟨b1,off1,ea,hc⟩:=uar i x hx;have han:=HA.out x hx16;obtain ⟨y,hy⟩:∃ y,x % M=y:=⟨_,rfl⟩;have hy16:y < 65536:=by rw [<- hy]; exact Nat.lt_of_le_of_lt (Nat.mod_le _ _) hx16
   rw [hy] at han HX;have HCl:=HC.out i;obtain ⟨L,hL⟩:∃ L,zd5 (l.take i) n=L:=⟨_,rfl⟩;rw [hL] at hO HX HCl
   cases ea
   clear hx uar hy hL hlt;go_wp2_with fail;go_upto_region 5 with fail;refine zae (wx:=wr) [vf (.slice (some ⟨b1,off1,none⟩) N ca),vf (.int .i64 i),vf (.pointer (some ⟨b1,off1 + i,none⟩)),vf (.int .u16 (x:Nat)),vf (.int .i64 (n:Nat)),vf (.int .u16 (M:Nat)),vf (.int .u16 (kM:Nat)),vf (.int .u16 (y:Nat)),vf (.int .u16 (y:Nat))] [18,19,20,21,22,23,24,25,7] (by kernel_rfl) (by kernel_rfl) (by kernel_rfl) (of_decide_eq_true (by kernel_rfl)) br ⟨sV _,sV _,sV _,sV _,sV _,sV _,sV _,sV _,sV _,trivial⟩ ⟨?s0,?s1,?s2,?s3,?s4,?s5,?s6,?s7,?s8,trivial⟩ ?he
   case' s0 | s1 | s2 | s3 | s4 | s5 | s6 | s7 | s8 =>
    rintro T W hb hA K hK
   case' s0 | s1 | s4 =>
    simp only [sA] at hK |-
   case' s2 =>
    have e0:T 18=_:=hA.1;have e1:T 19=_:=hA.2.1;simp only [sA,e0,e1] at hK |-
   case' s5 =>
    have e4:T 22=_:=hA.1;simp only [sA,e4] at hK |-
   case' s6 =>
    have e5:T 23=_:=hA.1;simp only [sA,e5] at hK |-
   case' s7 =>
    have e3:T 21=_:=hA.1;have e6:T 24=_:=hA.2.1;simp only [sA,e3,e6] at hK |-
   case' s8 =>
    have e7:T 25=_:=hA.1;simp only [sA,e7] at hK |-
   case s0 | s1 | s2 | s4 | s5 | s6 | s7 | s8 =>
    have HK:=hii hK;clear hK hA;refine wO rfl (by rfl) ?_;go_simp;exact HK.out _ _ br (rfl)
   case s3 =>
    have e2:T 20=_:=hA.1;simp only [sA,e2] at hK |-;have HK:=hii hK;clear hK hA;have h0:=(hb.cell (zag hc)).trans hc;refine wO rfl (by rfl) ?_;go_simp;exact HK.out _ _ br (rfl)
   case he =>
    rintro T W hb hA;have f8:T 7=.int .u16 (y:Nat):=hA.at 8 (by decide);simp only [sA,f8];have hO:=hO.mono hb;have Hbw:=hii (Below.step Hbw.out hb nl);clear hA f8 hb hc han;obtain ⟨wp,rfl⟩:=exi W
    by_cases hy0:y=0
    ·subst hy0;have HX:Hid (zd5 (l.take (i + 1)) n=L):=hii (by rw [HX.out]; simp);go_wp2;go_roundw
     case rel => exact ⟨i + 1,by omega,by omega,by go_num,by rw [HX.out]; exact hO,Hbw⟩
     case measure => simp [intOf]; omega
    ·have HX:Hid (zd5 (l.take (i + 1)) n=L ++ [y]):=hii (by rw [HX.out]; simp [hy0]);have hyz:((y:Int) != 0)=true:=by simp; omega
     have hsz:=Hbw.out.size;clear hy0;go_wp2_with (at_builtin; go_loud (refine zi3 wp w w.heap.size rfl (.tmp 28) (.tmp 30) rfl (a:=y) rfl rfl hO hsz Hbw.out (by omega) ?_); intro v2 w6 hO2 hb2);go_roundw
     case rel => exact ⟨i + 1,by omega,by omega,by go_num,by rw [HX.out]; exact hO2,hii hb2⟩
     case measure => simp [intOf]; omega
  ·have HX:Hid (zd5 (l.take i) n=zd5 (l.take 3) n):=hii (by
    by_cases h3:i=3
    ·rw [h3]
    ·have h1:i=N:=by omega
     rw [h1,<- HN.out,List.take_length,List.take_of_length_le (by have:=HN.out; omega)])
   have HSt:Hid (zbR l n=zch (zhS (l.take 3) n)):=hii rfl;have HCl:=HC.out i;rw [HX.out] at HCl;have h16c:Hid (zaJ (zhS (l.take 3) n)):=hii λ x hx => by
    have:=(zda hn1 hx).2;have:=HKn.out;omega
   have HO1:Hid (zhS (l.take 3) n=if zd5 (l.take 3) n=[] then [kM] else zd5 (l.take 3) n):=hii (by rw [HKn.out]; rfl);rw [HX.out] at hO;obtain ⟨L,hL⟩:∃ L,zd5 (l.take 3) n=L:=⟨_,rfl⟩;rw [hL] at hO HO1 HCl;obtain ⟨T,hT⟩:∃ T,zhS (l.take 3) n=T:=⟨_,rfl⟩;rw [hT] at HSt HO1 h16c;have hend:(decide ((i:Int) < (N:Int)) && decide ((i:Int) < 3))=false:=by
    rw [Bool.and_eq_false_iff,decide_eq_false_iff_not,decide_eq_false_iff_not]; omega
   clear hL hT HX HS HA hsh hwr;obtain ⟨aO,cO,eO,-,uO⟩:=hO.read;obtain ⟨m,hm⟩:∃ m,L.length=m:=⟨_,rfl⟩;rw [hm] at eO HCl;subst eO;have hsz:=Hbw.out.size
   by_cases hiN2:i < N
   ·have hilN:(i:Int) < (N:Int):=by omega
    have hil3:¬ (i:Int) < 3:=by omega
    by_cases h0:L=[]
    ·subst h0;have hm0:m=0:=by rw [<- hm]; rfl
     subst hm0;have HT:Hid (T=[kM]):=hii (by rw [HO1.out,if_pos rfl]);have hsh:(2:Int) ^ n=(M:Int):=by have:=HM.out; rw [<- this]; push_cast; rfl
     have hwr:IntKind.u16.wrap (M:Int)=(M:Int):=zdg (by omega);obtain ⟨wq,rfl⟩:=exi wr;clear hm HO1 hlt;have h1:T.length<=1000:=by rw [HT.out]; simp
     go_wp2_with (at_builtin; go_loud (refine zi3 wq w w.heap.size rfl (.tmp 35) (.tmp 39) rfl (a:=kM) rfl rfl hO hsz Hbw.out (by simp) ?_); intro v2 w6 hO2 hb2; obtain ⟨a2,c2,e2,-,u2⟩:=hO2.read; rw [List.nil_append,<- HT.out] at e2 u2; subst e2);go_fit (zcC T a2 c2 w6 h1 u2 h16c);rintro e w7 ⟨⟨v3,rfl,hO3⟩,hb⟩;have hbw:=bu hb2 hb;have hsz6:=hb2.size;go_wp2;go_ret;exact ⟨⟨_,rfl,by rw [HSt.out]; exact hO3.weak hsz6⟩,hbw⟩
    ·have HT:Hid (L=T):=hii (by rw [HO1.out,if_neg h0]);have hm0:((m:Int) == 0)=false:=by
      have:=List.length_pos_iff.2 h0;simp; omega
     have h1:T.length<=1000:=by rw [<- HT.out]; omega
     have e1:T.length=m:=by rw [<- HT.out]; exact hm
     have uO:zaM wr aO T:=by rw [<- HT.out]; exact uO
     have HLc:=hii (zcC T aO cO wr h1 uO h16c);rw [e1] at HLc;clear e1 h1 hm h0 HT hlt;go_wp2_with fail;(with_reducible refine HLc.out.mono ?_);rintro e w7 ⟨⟨v3,rfl,hO3⟩,hb⟩;have hbw:=Below.step Hbw.out hb nl;go_wp2;go_ret;exact ⟨⟨_,rfl,by rw [HSt.out]; exact hO3.weak hsz⟩,hbw⟩
   ·have hilN:¬ (i:Int) < (N:Int):=by omega
    by_cases h0:L=[]
    ·subst h0;have hm0:m=0:=by rw [<- hm]; rfl
     subst hm0;have HT:Hid (T=[kM]):=hii (by rw [HO1.out,if_pos rfl]);have hsh:(2:Int) ^ n=(M:Int):=by have:=HM.out; rw [<- this]; push_cast; rfl
     have hwr:IntKind.u16.wrap (M:Int)=(M:Int):=zdg (by omega);obtain ⟨wq,rfl⟩:=exi wr;clear hm HO1 hlt;have h1:T.length<=1000:=by rw [HT.out]; simp
     go_wp2_with (at_builtin; go_loud (refine zi3 wq w w.heap.size rfl (.tmp 35) (.tmp 39) rfl (a:=kM) rfl rfl hO hsz Hbw.out (by simp) ?_); intro v2 w6 hO2 hb2; obtain ⟨a2,c2,e2,-,u2⟩:=hO2.read; rw [List.nil_append,<- HT.out] at e2 u2; subst e2);go_fit (zcC T a2 c2 w6 h1 u2 h16c);rintro e w7 ⟨⟨v3,rfl,hO3⟩,hb⟩;have hbw:=bu hb2 hb;have hsz6:=hb2.size;go_wp2;go_ret;exact ⟨⟨_,rfl,by rw [HSt.out]; exact hO3.weak hsz6⟩,hbw⟩
    ·have HT:Hid (L=T):=hii (by rw [HO1.out,if_neg h0]);have hm0:((m:Int) == 0)=false:=by
      have:=List.length_pos_iff.2 h0;simp; omega
     have h1:T.length<=1000:=by rw [<- HT.out]; omega
     have e1:T.length=m:=by rw [<- HT.out]; exact hm
     have uO:zaM wr aO T:=by rw [<- HT.out]; exact uO
     have HLc:=hii (zcC T aO cO wr h1 uO h16c);rw [e1] at HLc;clear e1 h1 hm h0 HT hlt;go_wp2_with fail;(with_reducible refine HLc.out.mono ?_);rintro e w7 ⟨⟨v3,rfl,hO3⟩,hb⟩;have hbw:=Below.step Hbw.out hb nl;go_wp2;go_ret;exact ⟨⟨_,rfl,by rw [HSt.out]; exact hO3.weak hsz⟩,hbw⟩
end Go.Proofs.YtfgffkmddanjjaaGreatDoor
