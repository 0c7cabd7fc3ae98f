/-
  the reference: sets and families.
-/
import Derived.Test.YtfgffkmddanjjaaGreatDoorLs1
set_option linter.unusedVariables false
set_option linter.unusedSimpArgs false
set_option maxRecDepth 100000
set_option maxHeartbeats 25600000
namespace Go.Proofs.YtfgffkmddanjjaaGreatDoor
open _root_.Go.Proofs.Tryz
open Go.RowKit
theorem Tryz.info52:(Tryz.prog.info? 52).map (λ i => (i.zero,i.size,i.bytes))=some (some (.int .u16 0),1,2):=by kernel_rfl
theorem Tryz.slice27:Tryz.prog.underlying 27=some (.slice 52):=by kernel_rfl
theorem zaM.nil {w:World} {a:Option Addr}:zaM w a []:=λ i x h => by simp at h
theorem zks {ops:Array Oper} {rest:List Oper} {o:Oper} {a:Act} {Q:Exit->Act->World->Prop} (w W:World) (B:Nat) (hgd:o.guard=none) (s x:Operand) (ho:o.op=.call { callee:=.builtin .append,args:=#[s,x],argTypes:=#[27,27] })
  {v:Value} {l:List Nat} {ad:Addr} {c:Nat} (hs:a.eval s=v) (hx:a.eval x=.slice (some ad) l.length c) (hown:w.ownsRow B 52 1 v 0 []) (hB:B<=w.heap.size) (hb:Below B W w)
  (hU:zaM w (some ad) l) (hl:l.length<=1000000)
  (hK:∀ a2 c2 w',l.length<=c2->zaM w' a2 l->Below B W w'->wpList Tryz.prog ops Q rest (a.put o.dst (.slice a2 l.length c2)) w') :
  wpList Tryz.prog ops Q (o :: rest) a w:=by
 obtain ⟨i0,hi,hz0,hz1,hz2⟩:=info_parts Tryz.info52;have hn:(l.map λ x:Nat => Value.int .u16 (x:Nat)).length=l.length * i0.size:=by rw [List.length_map,hz1,Nat.mul_one]
 have hcn:∀ (j:Nat) (u:Value),(l.map λ x:Nat => Value.int .u16 (x:Nat))[j]?=some u->w.cell? (ad.add j)=some u:=by
  intro j u hj;rw [List.getElem?_map,Option.map_eq_some_iff] at hj;obtain ⟨y,hy,rfl⟩:=hj;obtain ⟨b',off',e,hc⟩:=hU j y hy;simp only [Option.some.injEq] at e;subst e;have ha:(⟨b',off',none⟩:Addr).add j=⟨b',off' + j,none⟩:=by
   unfold Addr.add; split
   ·subst j; rfl
   ·simp
  rw [ha]; exact hc
 have hone:∀ u∈l.map (λ x:Nat => Value.int .u16 (x:Nat)),u.oneCell'=true:=by
  intro u hu;obtain ⟨y,-,rfl⟩:=List.mem_map.1 hu
  rfl
 have hby:(0 + l.length) * i0.bytes<=140737488355328:=by
  rw [hz2];omega
 obtain ⟨v',w',hr1,h3,h4,h5⟩:=run_append_own (P:=Tryz.prog) w B 27 o.type 52 i0 (.int .u16 0) i0.size i0.bytes Tryz.slice27 hi hz0 rfl rfl (by rw [hz1]; rfl) (by rw [hz1]; decide) v 0 [] (by rw [hz1]; exact hown) ad l.length c _ hn hcn hone (by unfold maxLen; omega) hby hB;rw [hz1,Nat.zero_add,List.nil_append] at h3;refine wpList_plain hgd λ K hK' => ?_
 obtain ⟨a2,c2,rfl,hc2,hu2⟩:∃ a2 c2,v'=.slice a2 l.length c2/\l.length<=c2/\zaM w' a2 l:=by
  have h30:=h3;rcases h3.2 with ⟨rfl,hn0⟩ | ⟨g,cap,cur,rfl,hB,hg,hnc,hcm,hcs,htake⟩
  ·have:l=[]:=List.eq_nil_of_length_eq_zero hn0;subst this;exact ⟨none,0,rfl,nl,zaM.nil⟩
  ·refine ⟨some ⟨g,0,none⟩,cap,rfl,hnc,λ j y hy => ⟨g,0,rfl,?_⟩⟩;rw [Nat.zero_add];exact zaA h30 (by rw [List.getElem?_map,hy]; rfl)
 exact zaB s x ho hs hx hr1 (hK' _ _ (hK a2 c2 w' hc2 hu2 (hb.grown h4 hB λ g hg => (World.ownsRow.lt hown g hg).1)))
theorem zkj (x k:Nat):(List.range (k + 1)).countP (λ i => x.testBit i)=(List.range k).countP (λ i => x.testBit i) + (if x.testBit k then 1 else 0):=by
 rw [List.range_succ,List.countP_append,List.countP_singleton]
theorem zft (l:List Nat) (aa:Option Addr) (ca:Nat) (w:World) (hl:l.length<=1000000) (ua:zaM w aa l) :
  Calls Tryz.prog 15 #[.slice aa l.length ca] w λ e w' => (∃ a2 c2,e=.returned (.slice a2 l.length c2)/\l.length<=c2/\zaM w' a2 l)/\BH w w':=by
 cases aa with
 | none =>
  have hln:l=[]:=by
   cases l with
   | nil => rfl
   | cons x r => obtain ⟨b,off,e,_⟩:=ua 0 x rfl; cases e
  subst hln;have hn:=λ w:World => Lib.run_eql_slice_nil (P:=Tryz.prog) w 27 52 none 0 ca 0 0 Tryz.slice27
  simp only [Option.isNone_none] at hn;go_enter func15,ntmps15;go_wp2;go_ret;exact ⟨⟨none,0,rfl,nl,zaM.nil⟩,br⟩
 | some a =>
  have hn:=λ w:World => Lib.run_eql_slice_nil (P:=Tryz.prog) w 27 52 (some a) l.length ca 0 0 Tryz.slice27
  simp only [Option.isNone_some] at hn;have hown:(w.alloc (.cells #[] 52)).ownsRow w.heap.size 52 1 (.slice (some ⟨w.heap.size,0,none⟩) 0 0) 0 []:=World.ownsRow_made w #[] 0 nl (Nat.zero_le _) (by simp);have hba:=bA w (.cells #[] 52);have hU:=ua.mono hba;have hsz:=hba.size;go_enter func15,ntmps15;go_wp2_with (at_builtin; go_loud (refine zks _ w w.heap.size rfl (.tmp 5) (.tmp 6) rfl rfl rfl hown hsz hba hU hl ?_); intro a2 c2 w1 hc2 hu2 hb2);go_ret;exact ⟨⟨a2,c2,rfl,hc2,hu2⟩,hb2⟩
theorem zgC (x:Nat) (w:World) (hx:x < 65536) :
  Calls Tryz.prog 137 #[.int .u16 (x:Nat)] w λ e w' => e=.returned (.int .i64 (cnt x:Nat))/\BH w w':=by
 have hbw:=Below.refl w.heap.size w;go_enter func137,ntmps137;go_wp2_with fail;go_loopw [3,4] (λ v s wr => ∃ k c:Nat,k<=16/\s=.int .i64 k/\v=.int .i64 (c:Nat)/\c<=k/\Hid (c=(List.range k).countP λ i => x.testBit i)/\wr=w) (λ _ s _ => 16 - (intOf s).toNat)
 case atStart => exact ⟨0,0,Nat.zero_le _,rfl,rfl,nl,hii rfl,by trivial⟩
 case round =>
  obtain ⟨k,c,hk,rfl,rfl,hc,HC,rfl⟩:=hrel
  by_cases hlt:k < 16
  ·have HN:=hii (zkj x k);have hz:=zmV x k hx;obtain ⟨b,hbb⟩:∃ b,x.testBit k=b:=⟨_,rfl⟩;rw [hbb] at hz HN;have hkn:(k:Int) < 16:=by omega
   clear hbb
   cases b with
   | false =>
    have hz:bits .and .u16 ((x:Int) / 2 ^ k) 1=0:=hz;have HN:Hid ((List.range (k + 1)).countP (λ i => x.testBit i)=c):=hii (by rw [HN.out,HC.out]; rfl);go_wp2;go_roundw
    case rel => exact ⟨k + 1,c,by omega,by go_num,by go_num,by omega,hii HN.out.symm,by trivial⟩
    case measure => simp [intOf]; omega
   | true =>
    have hz:bits .and .u16 ((x:Int) / 2 ^ k) 1=1:=hz;have HN:Hid ((List.range (k + 1)).countP (λ i => x.testBit i)=c + 1):=hii (by rw [HN.out,HC.out]; rfl);go_wp2;go_roundw
    case rel => exact ⟨k + 1,c + 1,by omega,by go_num,by go_num,by omega,hii HN.out.symm,by trivial⟩
    case measure => simp [intOf]; omega
  ·obtain rfl:k=16:=by omega
   have HC:Hid (cnt x=c):=hii (by rw [HC.out]; rfl);go_wp2;go_ret;exact ⟨by rw [HC.out]; rfl,hbw⟩
theorem zhp (a b:Nat) (w:World) (ha:a < 65536) (hb':b < 65536) :
  Calls Tryz.prog 89 #[.int .u16 (a:Nat),.int .u16 (b:Nat)] w λ e w' => e=.returned (.bool (bef a b))/\BH w w':=by
 have hbw:=Below.refl w.heap.size w;obtain ⟨z,hz⟩:∃ z,bef a b=z:=⟨_,rfl⟩;rw [hz];have hz:z=(decide (cnt a < cnt b) || (decide (cnt a=cnt b) && decide (a < b))):=by rw [<- hz]; rfl
 have H1:=λ W => zgC a W ha
 have H2:=λ W => zgC b W hb'
 have l1:=zd7 a;have l2:=zd7 b;generalize cnt a=p at H1 hz l1;generalize cnt b=q at H2 hz l2;have HZ:=hii hz;clear hz
 by_cases hpq:p=q
 ·have hne:((p:Int) != (q:Int))=false:=by simp; omega
  have hd:decide (a < b)=z:=by rw [HZ.out,hpq]; simp
  clear hpq HZ;go_enter func89,ntmps89;go_wp2_with fail;go_fit (H1 w);rintro e w1 ⟨rfl,hb⟩;have hbw:=bu hbw hb;clear hb;go_wp2_with fail;go_fit (H2 w1);rintro e w2 ⟨rfl,hb⟩;have hbw:=bu hbw hb;clear hb;go_wp2;go_ret;exact ⟨by rw [<- hd]; rfl,hbw⟩
 ·have hne:((p:Int) != (q:Int))=true:=by simp; omega
  have hd:decide (p < q)=z:=by rw [HZ.out]; simp [hpq]
  clear hpq HZ;go_enter func89,ntmps89;go_wp2_with fail;go_fit (H1 w);rintro e w1 ⟨rfl,hb⟩;have hbw:=bu hbw hb;clear hb;go_wp2_with fail;go_fit (H2 w1);rintro e w2 ⟨rfl,hb⟩;have hbw:=bu hbw hb;clear hb;go_wp2_with fail;go_fit (H1 w2);rintro e w3 ⟨rfl,hb⟩;have hbw:=bu hbw hb;clear hb;go_wp2_with fail;go_fit (H2 w3);rintro e w4 ⟨rfl,hb⟩;have hbw:=bu hbw hb;clear hb;go_wp2;go_ret;exact ⟨by rw [<- hd]; rfl,hbw⟩
theorem ze6 (a b:Nat) (ha:a < 65536) (hb':b < 65536) (w:World) :
  Calls Tryz.prog 90 #[.int .u16 (a:Nat),.int .u16 (b:Nat)] w λ e w' => e=.returned (.bool (zdj a b))/\BH w w':=by
 have e1:=zha a b ha hb';obtain ⟨z,hz⟩:∃ z,zdj a b=z:=⟨_,rfl⟩;have e2:(bits .andNot .u16 (b:Int) (a:Int) == 0)=z:=by rw [e1,<- hz]; rfl
 rw [hz];clear e1 hz;go_enter func90,ntmps90;go_wp2;go_ret;exact ⟨rfl,br⟩
end Go.Proofs.YtfgffkmddanjjaaGreatDoor
