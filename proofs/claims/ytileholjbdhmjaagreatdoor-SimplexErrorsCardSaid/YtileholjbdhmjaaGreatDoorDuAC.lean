/-
  Programs and lists as they come in; Few and Short.
-/
import Derived.Test.YtileholjbdhmjaaGreatDoorDuV
set_option linter.unusedVariables false
set_option linter.unusedSimpArgs false
set_option maxRecDepth 100000
set_option maxHeartbeats 25600000
namespace Go.Proofs.YtileholjbdhmjaaGreatDoor
open Go.RowKit
def RawFour (w:World) (b off:Nat):Prop:=∃ (n1:Bool) (a1:Option Addr) (L1:List Nat) (c1:Nat) (n2:Bool) (a2:Option Addr) (L2:List Nat) (c2:Nat),
 Four w b off (.bool n1) (.slice a1 L1.length c1) (.bool n2) (.slice a2 L2.length c2)∧L1.length≤c1∧L2.length≤c2∧U w a1 L1∧U w a2 L2
theorem RawFour.mono {w w':World} {b off:Nat} (h:RawFour w b off) (hb:Below w.heap.size w w'):RawFour w' b off:=by
 obtain ⟨n1,a1,L1,c1,n2,a2,L2,c2,F,k1,k2,u1,u2⟩:=h;exact ⟨n1,a1,L1,c1,n2,a2,L2,c2,F.mono hb,k1,k2,u1.mono hb,u2.mono hb⟩
def RawU (w:World) (ao:Option Addr) (n:Nat):Prop:=∀ i,i < n→∃ b off,ao=some ⟨b,off,none⟩∧RawFour w b (off + i * 4)
theorem RawU.mono {w w':World} {ao:Option Addr} {n:Nat} (h:RawU w ao n) (hb:Below w.heap.size w w'):RawU w' ao n:=fun i hi => by
 obtain ⟨b,off,e,h⟩:=h i hi;exact ⟨b,off,e,h.mono hb⟩
def RawM (w:World) (ao:Option Addr) (m:Nat):Prop:=∀ i,i < m→∃ b off ar n cr,ao=some ⟨b,off,none⟩∧w.cell? ⟨b,off + i,none⟩=some (.slice ar n cr)∧n≤9223372036854775807∧RawU w ar n
theorem RawM.mono {w w':World} {ao:Option Addr} {n:Nat} (h:RawM w ao n) (hb:Below w.heap.size w w'):RawM w' ao n:=fun i hi => by
 obtain ⟨b,off,ar,n,cr,e,hc,hn,h⟩:=h i hi;exact ⟨b,off,ar,n,cr,e,(hb.cell (cell_lt hc)).trans hc,hn,h.mono hb⟩
def FewAt (w:World) (ao:Option Addr) (i:Nat):Prop:=∃ b off n1 a1 L1 c1 n2 a2 L2 c2,ao=some ⟨b,off,none⟩∧Four w b (off + i * 4) (.bool n1) (.slice a1 (List.length (α:=Nat) L1) c1) (.bool n2) (.slice a2 (List.length (α:=Nat) L2) c2)∧L1.length≤c1∧L2.length≤c2∧U w a1 L1∧U w a2 L2∧L1.length≤6∧L2.length≤6
theorem FewAt.qv {w:World} {ao:Option Addr} {i:Nat} (h:FewAt w ao i):∃ o:Qo,∃ (b off:Nat) (n1:Bool) (a1:Option Addr) (l1 c1:Nat) (n2:Bool) (a2:Option Addr) (l2 c2:Nat),ao=some ⟨b,off,none⟩∧Four w b (off + i * 4) (.bool n1) (.slice a1 l1 c1) (.bool n2) (.slice a2 l2 c2)∧QV w (.agg #[.bool n1,.slice a1 l1 c1,.bool n2,.slice a2 l2 c2]) o:=by
 classical
 obtain ⟨b,off,n1,a1,L1,c1,n2,a2,L2,c2,e,F,k1,k2,u1,u2,h1,h2⟩:=h
 by_cases hv:ValidR n1 L1 n2 L2
 ·have hq:VQ w (.agg #[.bool n1,.slice a1 L1.length c1,.bool n2,.slice a2 L2.length c2]) true:=⟨n1,n2,L1,L2,a1,a2,c1,c2,rfl,by omega,by omega,k1,k2,u1,u2,hii ⟨fun _ => hv,fun _ => rfl⟩⟩;obtain ⟨r,hr⟩:=hq.rat;exact ⟨some r,b,off,n1,a1,L1.length,c1,n2,a2,L2.length,c2,e,F,hr⟩
 ·have hq:VQ w (.agg #[.bool n1,.slice a1 L1.length c1,.bool n2,.slice a2 L2.length c2]) false:=⟨n1,n2,L1,L2,a1,a2,c1,c2,rfl,by omega,by omega,k1,k2,u1,u2,hii ⟨(fun h => nomatch h),fun h => absurd h hv⟩⟩;exact ⟨none,b,off,n1,a1,L1.length,c1,n2,a2,L2.length,c2,e,F,hq⟩
theorem UQ.of_few {w:World} {ao:Option Addr}:∀ (n:Nat),(∀ i,i < n→FewAt w ao i)→∃ l:List Qo,l.length=n∧UQ w ao l:=by
 intro n h
 classical
 have hc:∀ i,∃ o:Qo,i < n→∃ (b off:Nat) (n1:Bool) (a1:Option Addr) (l1 c1:Nat) (n2:Bool) (a2:Option Addr) (l2 c2:Nat),ao=some ⟨b,off,none⟩∧Four w b (off + i * 4) (.bool n1) (.slice a1 l1 c1) (.bool n2) (.slice a2 l2 c2)∧QV w (.agg #[.bool n1,.slice a1 l1 c1,.bool n2,.slice a2 l2 c2]) o:=fun i => by
  by_cases hi:i < n
  ·obtain ⟨o,ho⟩:=(h i hi).qv;exact ⟨o,fun _ => ho⟩
  ·exact ⟨none,fun hh => absurd hh hi⟩
 let f:Nat→Qo:=fun i => Classical.choose (hc i)
 have hf:∀ i,i < n→_:=fun i hi => Classical.choose_spec (hc i) hi
 refine ⟨(List.range n).map f,by simp,fun i o hi => ?_⟩;rw [List.getElem?_map] at hi
 by_cases hlt:i < n
 ·rw [List.getElem?_range hlt] at hi;simp only [Option.map_some,Option.some.injEq] at hi;subst hi;exact hf i hlt
 ·rw [List.getElem?_eq_none (by simp; omega)] at hi;simp at hi
def ShortP (w:World) (ao:Option Addr) (n:Nat) (e:Ending):Prop:=∃ b,e=.returned (.bool b)∧(b=true→n≤8∧∃ l:List Qo,l.length=n∧UQ w ao l)
theorem few_six (neg:Bool) (l:List Nat) (b:Bool) (ao:Option Addr) (cap:Nat) (w:World) (h:Hid (decide (l.length≤6)=b)) :
  Calls Tryz.prog 100 #[.agg #[.bool neg,.slice ao l.length cap],.int .i64 6] w fun e w' => e=.returned (.bool b)∧Below w.heap.size w w':=by
 have:=few_any neg l 6 ao cap w;have e:decide ((l.length:Int)≤6)=b:=by rw [← h.out]; exact decide_eq_decide.2 (by omega)
 rw [e] at this;exact this
theorem rShort_any (n:Nat) (aa:Option Addr) (ca:Nat) (w:World) (hl:n≤9223372036854775807) (ua:RawU w aa n) :
  Calls Tryz.prog 68 #[.slice aa n ca] w fun e w' => ShortP w aa n e∧Below w.heap.size w w':=by
 have hbw:=Below.refl w.heap.size w;have HUA:=hii ua;clear ua;go_enter Tryz.func68,Tryz.ntmps68;go_wp2_with fail;go_loopw [3] (fun s wr => ∃ k:Nat,k≤n∧s=.int .i64 k∧Hid (∀ i,i < k→FewAt w aa i)∧Below w.heap.size w wr) (fun s _ => n - (intOf s).toNat)
 case atStart => exact ⟨0,Nat.zero_le _,rfl,hii (fun i hi => by omega),hbw⟩
 case round =>
  clear hbw;obtain ⟨k,hk,rfl,HN,hbw⟩:=hrel
  by_cases hlt:k < n
  ·obtain ⟨b1,off1,ea,n1,a1,L1,c1,n2,a2,L2,c2,F,k1,k2,u1,u2⟩:=HUA.out k hlt;have hFA:L1.length≤6→L2.length≤6→FewAt w aa k:=fun h1 h2 => ⟨b1,off1,n1,a1,L1,c1,n2,a2,L2,c2,ea,F,k1,k2,u1,u2,h1,h2⟩
   have HFA:=hii hFA;have F:=F.mono hbw;clear k1 k2 u1 u2 hFA;subst ea;obtain ⟨f0,f1,f2,f3,_,_,_,_⟩:=F;obtain ⟨v1,hv1⟩:∃ v,decide (L1.length≤6)=v:=⟨_,rfl⟩;have HV1:=hii hv1;clear hv1
   cases v1 with
   | false =>
    go_wp2_with fail;(with_reducible refine (few_six n1 L1 false a1 c1 wr HV1).mono ?_);rintro e w2 ⟨rfl,hb⟩;have hbw:=bu hbw hb;go_wp2;go_ret;exact ⟨⟨false,rfl,fun h => nomatch h⟩,hbw⟩
   | true =>
    go_wp2_with fail;(with_reducible refine (few_six n1 L1 true a1 c1 wr HV1).mono ?_);rintro e w2 ⟨rfl,hb⟩;have hbw:=bu hbw hb;have f2:=(hb.cell (p:=⟨b1,off1 + k * 4 + 2,none⟩) (cell_lt f2)).trans f2;have f3:=(hb.cell (p:=⟨b1,off1 + k * 4 + 3,none⟩) (cell_lt f3)).trans f3;clear hb f0 f1;obtain ⟨v2,hv2⟩:∃ v,decide (L2.length≤6)=v:=⟨_,rfl⟩;have HV2:=hii hv2;clear hv2
    cases v2 with
    | false =>
     go_wp2_with fail;(with_reducible refine (few_six n2 L2 false a2 c2 w2 HV2).mono ?_);rintro e w3 ⟨rfl,hb⟩;have hbw:=bu hbw hb;go_wp2;go_ret;exact ⟨⟨false,rfl,fun h => nomatch h⟩,hbw⟩
    | true =>
     go_wp2_with fail;(with_reducible refine (few_six n2 L2 true a2 c2 w2 HV2).mono ?_);rintro e w3 ⟨rfl,hb⟩;have hbw:=bu hbw hb;have HF:=hii (HFA.out (of_decide_eq_true HV1.out) (of_decide_eq_true HV2.out));clear hb f2 f3;go_wp2;go_roundw
     case rel =>
      refine ⟨k + 1,by omega,by go_num,hii fun i hi => ?_,hbw⟩
      by_cases hik:i=k
      ·rw [hik]; exact HF.out
      ·exact HN.out i (by omega)
     case measure => simp [intOf]; omega
  ·obtain rfl:k=n:=by omega
   have HQ:=hii (UQ.of_few k HN.out);clear HN
   by_cases h8:k≤8
   ·have H8:=hii h8;go_wp2;go_ret;exact ⟨⟨true,by simp; have:=H8.out; omega,fun _ => ⟨H8.out,HQ.out⟩⟩,hbw⟩
   ·have H8:=hii h8;go_wp2;go_ret;exact ⟨⟨false,by simp; have:=H8.out; omega,fun h => nomatch h⟩,hbw⟩
def RowsAt (w:World) (ao:Option Addr) (n:Nat):Prop:=∀ i,i < n→∃ row:List Qo,row.length≤8∧∃ b off ar cr,ao=some ⟨b,off,none⟩∧w.cell? ⟨b,off + i,none⟩=some (.slice ar row.length cr)∧UQ w ar row
theorem RowsAt.mono {w w':World} {ao:Option Addr} {n:Nat} (h:RowsAt w ao n) (hb:Below w.heap.size w w'):RowsAt w' ao n:=fun i hi => by
 obtain ⟨row,hl,b,off,ar,cr,e,hc,hu⟩:=h i hi;exact ⟨row,hl,b,off,ar,cr,e,(hb.cell (cell_lt hc)).trans hc,hu.mono hb⟩
theorem UM.of_rows {w:World} {ao:Option Addr}:∀ (n:Nat),RowsAt w ao n→∃ l:List (List Qo),l.length=n∧(∀ r∈l,r.length≤8)∧UM w ao l:=by
 intro n h
 classical
 have hc:∀ i,∃ row:List Qo,i < n→row.length≤8∧∃ b off ar cr,ao=some ⟨b,off,none⟩∧w.cell? ⟨b,off + i,none⟩=some (.slice ar row.length cr)∧UQ w ar row:=fun i => by
  by_cases hi:i < n
  ·obtain ⟨o,ho⟩:=h i hi;exact ⟨o,fun _ => ho⟩
  ·exact ⟨[],fun hh => absurd hh hi⟩
 let f:Nat→List Qo:=fun i => Classical.choose (hc i)
 have hf:∀ i,i < n→_:=fun i hi => Classical.choose_spec (hc i) hi
 refine ⟨(List.range n).map f,by simp,fun r hr => ?_,fun i o hi => ?_⟩
 ·obtain ⟨i,hi,rfl⟩:=List.mem_map.1 hr;exact (hf i (by simpa using hi)).1
 ·rw [List.getElem?_map] at hi
  by_cases hlt:i < n
  ·rw [List.getElem?_range hlt] at hi;simp only [Option.map_some,Option.some.injEq] at hi;subst hi;exact (hf i hlt).2
  ·rw [List.getElem?_eq_none (by simp; omega)] at hi;simp at hi
def FewP (w:World) (aA aB aC:Option Addr) (nA nB nC:Nat) (e:Ending):Prop:=∃ b,e=.returned (.bool b)∧(b=true→∃ p:Prg,p.A.length=nA∧p.B.length=nB∧p.C.length=nC∧nA≤8∧nB≤8∧nC≤8∧UM w aA p.A∧UQ w aB p.B∧UQ w aC p.C∧∀ r∈p.A,r.length≤8)
theorem rFew13_any (nA nB nC:Nat) (aA aB aC:Option Addr) (cA cB cC:Nat) (w:World) (hA:nA≤9223372036854775807) (hB:nB≤9223372036854775807) (hC:nC≤9223372036854775807) (uA:RawM w aA nA) (uB:RawU w aB nB) (uC:RawU w aC nC) :
  Calls Tryz.prog 34 #[.agg #[.slice aA nA cA,.slice aB nB cB,.slice aC nC cC]] w fun e w' => FewP w' aA aB aC nA nB nC e∧Below w.heap.size w w':=by
 have HUA:=hii uA;go_enter Tryz.func34,Tryz.ntmps34;go_upto_region 1 with fail;have hb0:=bA w (.cells #[.slice aA nA cA,.slice aB nB cB,.slice aC nC cC] 30);have rA:Row (w.alloc (.cells #[.slice aA nA cA,.slice aB nB cB,.slice aC nC cC] 30)) w.heap.size 30 [.slice aA nA cA,.slice aB nB cB,.slice aC nC cC]:=heap_alloc_new _ _;obtain ⟨g,hg⟩:∃ g,g=w.heap.size:=⟨_,rfl⟩;rw [← hg] at rA ⊢;clear hg;generalize w.alloc (.cells #[.slice aA nA cA,.slice aB nB cB,.slice aC nC cC] 30)=w1 at *;have vB:=uB.mono hb0;have vC:=uC.mono hb0;have hbw:=hb0;have HB0:=hii hb0;clear hb0 uA uB uC;obtain ⟨x0,x1,x2⟩:=rA.n3;have no:∀ w',FewP w' aA aB aC nA nB nC (.returned (.bool false))∧Below w.heap.size w w'↔Below w.heap.size w w':=fun w' => ⟨fun h => h.2,fun h => ⟨⟨false,rfl,fun h => nomatch h⟩,h⟩⟩
 have HNo:=hii no;clear no
 by_cases h1:(8:Int) < (nA:Int)
 ·go_wp2;go_ret;exact (HNo.out _).2 hbw
 ·by_cases h2:(8:Int) < (nB:Int)
  ·go_wp2;go_ret;exact (HNo.out _).2 hbw
  ·go_wp2_with fail;(with_reducible refine (rShort_any nC aC cC w1 hC vC).mono ?_);rintro e w2 ⟨⟨bC,rfl,hSC⟩,hb⟩;have HW1:=hii hb;have vB:=vB.mono hb;have rA:=rA.below hb;have hbw:=bu hbw hb;have HSC:=hii hSC;clear hb x0 x1 x2 hSC;obtain ⟨x0,x1,x2⟩:=rA.n3
   cases bC with
   | false =>
    go_wp2;go_ret;exact (HNo.out _).2 hbw
   | true =>
    go_wp2_with fail;(with_reducible refine (rShort_any nB aB cB w2 hB vB).mono ?_);rintro e w3 ⟨⟨bB,rfl,hSB⟩,hb⟩;have HW2:=hii hb;have rA:=rA.below hb;have hbw:=bu hbw hb;have HSB:=hii hSB;clear hb x0 x1 x2 hSB;obtain ⟨x0,x1,x2⟩:=rA.n3
    cases bB with
    | false =>
     go_wp2;go_ret;exact (HNo.out _).2 hbw
    | true =>
     go_wp2_with fail;clear x0 x1 x2;have hb3:=Below.refl w3.heap.size w3;have H1:=hii h1;have H2:=hii h2;clear h1 h2 hb3;go_loopw [3] (fun s wr => ∃ k:Nat,k≤nA∧s=.int .i64 k∧RowsAt wr aA k∧Below w3.heap.size w3 wr) (fun s _ => nA - (intOf s).toNat)
     case atStart => exact ⟨0,Nat.zero_le _,rfl,fun i hi => by omega,br⟩
     case round =>
      obtain ⟨k,hk,rfl,hR,hbr⟩:=hrel;have hbw:=bu hbw hbr;have rA:=rA.below hbr
      by_cases hlt:k < nA
      ·obtain ⟨b0,off0,ar,n,cr,ea,hc,hn,hu⟩:=(HUA.out.mono hbw) k hlt;have HEA:=hii ea;have hC':=hc;subst ea;obtain ⟨x0,x1,x2⟩:=rA.n3;go_wp2_with fail;(with_reducible refine (rShort_any n ar cr wr hn hu).mono ?_);rintro e w4 ⟨⟨bR,rfl,hSR⟩,hb⟩;have hR:=hR.mono hb;have hbw:=bu hbw hb;have hbr:=bu hbr hb
       cases bR with
       | false =>
        clear hSR;go_wp2;go_ret;exact (HNo.out _).2 hbw
       | true =>
        have hR':RowsAt w4 (some ⟨b0,off0,none⟩) (k + 1):=by
         intro i hi
         by_cases hik:i=k
         ·obtain ⟨h8,l,hll,hl⟩:=hSR rfl;subst hik;exact ⟨l,by omega,b0,off0,ar,cr,rfl,by rw [hll]; exact (hb.cell (p:=⟨b0,off0 + i,none⟩) (cell_lt hC')).trans hC',hl.mono hb⟩
         ·exact hR i (by omega)
        clear hSR hb hC' hc hR x0 x1 x2;go_wp2;go_roundw
        case rel => exact ⟨k + 1,by omega,by go_num,hR',hbr⟩
        case measure => simp [intOf]; omega
      ·obtain rfl:k=nA:=by omega
       have hF:FewP wr aA aB aC k nB nC (.returned (.bool true)):=by
        obtain ⟨hc8,lC,hlC,uC⟩:=HSC.out trivial;obtain ⟨hb8,lB,hlB,uB⟩:=HSB.out trivial;obtain ⟨lA,hlA,hrA,uA⟩:=UM.of_rows k hR;have h12:Below w1.heap.size w1 wr:=HW1.out.trans (HW2.out.trans (hbr.mono HW2.out.size) |>.mono HW1.out.size);exact ⟨true,rfl,fun _ => ⟨⟨lA,lB,lC⟩,hlA,hlB,hlC,by have:=H1.out; omega,hb8,hc8,uA,uB.mono (HW2.out.trans (hbr.mono HW2.out.size)),uC.mono h12,hrA⟩⟩
       have HF:=hii hF;clear hF hR;obtain ⟨x0,x1,x2⟩:=rA.n3;go_wp2;go_ret;exact ⟨HF.out,hbw⟩
end Go.Proofs.YtileholjbdhmjaaGreatDoor
