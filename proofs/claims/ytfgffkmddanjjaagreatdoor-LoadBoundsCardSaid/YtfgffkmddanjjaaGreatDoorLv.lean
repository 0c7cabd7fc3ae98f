/-
  the reference: sets and families.
-/
import Derived.Test.YtfgffkmddanjjaaGreatDoorLs1
set_option linter.unusedVariables false
set_option linter.unusedSimpArgs false
set_option maxRecDepth 100000
set_option maxHeartbeats 25600000
namespace Go.Proofs.YtfgffkmddanjjaaGreatDoor
open _root_.Go.Proofs.Tryz
open Go.RowKit
theorem Tryz.info52:(Tryz.prog.info? 52).map (λ i => (i.zero,i.size,i.bytes))=some (some (.int .u16 0),1,2):=by kernel_rfl
theorem Tryz.slice27:Tryz.prog.underlying 27=some (.slice 52):=by kernel_rfl
theorem SetU.nil {w:World} {a:Option Addr}:SetU w a []:=λ i x h => by simp at h
theorem app_sets {ops:Array Oper} {rest:List Oper} {o:Oper} {a:Act} {Q:Exit->Act->World->Prop} (w W:World) (B:Nat) (hgd:o.guard=none) (s x:Operand) (ho:o.op=.call { callee:=.builtin .append,args:=#[s,x],argTypes:=#[27,27] })
  {v:Value} {l:List Nat} {ad:Addr} {c:Nat} (hs:a.eval s=v) (hx:a.eval x=.slice (some ad) l.length c) (hown:w.ownsRow B 52 1 v 0 []) (hB:B<=w.heap.size) (hb:Below B W w)
  (hU:SetU w (some ad) l) (hl:l.length<=1000000)
  (hK:∀ a2 c2 w',l.length<=c2->SetU w' a2 l->Below B W w'->wpList Tryz.prog ops Q rest (a.put o.dst (.slice a2 l.length c2)) w') :
  wpList Tryz.prog ops Q (o :: rest) a w:=by
 obtain ⟨i0,hi,hz0,hz1,hz2⟩:=info_parts Tryz.info52;have hn:(l.map λ x:Nat => Value.int .u16 (x:Nat)).length=l.length * i0.size:=by rw [List.length_map,hz1,Nat.mul_one]
 have hcn:∀ (j:Nat) (u:Value),(l.map λ x:Nat => Value.int .u16 (x:Nat))[j]?=some u->w.cell? (ad.add j)=some u:=by
  intro j u hj;rw [List.getElem?_map,Option.map_eq_some_iff] at hj;obtain ⟨y,hy,rfl⟩:=hj;obtain ⟨b',off',e,hc⟩:=hU j y hy;simp only [Option.some.injEq] at e;subst e;have ha:(⟨b',off',none⟩:Addr).add j=⟨b',off' + j,none⟩:=by
   unfold Addr.add; split
   ·subst j; rfl
   ·simp
  rw [ha]; exact hc
 have hone:∀ u∈l.map (λ x:Nat => Value.int .u16 (x:Nat)),u.oneCell'=true:=by
  intro u hu;obtain ⟨y,-,rfl⟩:=List.mem_map.1 hu
  rfl
 have hby:(0 + l.length) * i0.bytes<=140737488355328:=by
  rw [hz2];omega
 obtain ⟨v',w',hr1,h3,h4,h5⟩:=run_append_own (P:=Tryz.prog) w B 27 o.type 52 i0 (.int .u16 0) i0.size i0.bytes Tryz.slice27 hi hz0 rfl rfl (by rw [hz1]; rfl) (by rw [hz1]; decide) v 0 [] (by rw [hz1]; exact hown) ad l.length c _ hn hcn hone (by unfold maxLen; omega) hby hB;rw [hz1,Nat.zero_add,List.nil_append] at h3;refine wpList_plain hgd λ K hK' => ?_
 obtain ⟨a2,c2,rfl,hc2,hu2⟩:∃ a2 c2,v'=.slice a2 l.length c2/\l.length<=c2/\SetU w' a2 l:=by
  have h30:=h3;rcases h3.2 with ⟨rfl,hn0⟩ | ⟨g,cap,cur,rfl,hB,hg,hnc,hcm,hcs,htake⟩
  ·have:l=[]:=List.eq_nil_of_length_eq_zero hn0;subst this;exact ⟨none,0,rfl,nl,SetU.nil⟩
  ·refine ⟨some ⟨g,0,none⟩,cap,rfl,hnc,λ j y hy => ⟨g,0,rfl,?_⟩⟩;rw [Nat.zero_add];exact ownsRow_cell h30 (by rw [List.getElem?_map,hy]; rfl)
 exact oper_append s x ho hs hx hr1 (hK' _ _ (hK a2 c2 w' hc2 hu2 (hb.grown h4 hB λ g hg => (World.ownsRow.lt hown g hg).1)))
theorem famE2_one:∀ (l e:List Nat) (i:Nat) (a x:Nat),l[i]?=some a->x∈e ++ l.take i->subB a x=true->famE2 e l=1
 | [],_,i,a,x,h,_,_ => by simp at h
 | s :: l,e,0,a,x,h,hx,hs => by
  simp at h;subst h;unfold famE2;rw [if_pos];exact List.any_eq_true.2 ⟨x,by simpa using hx,hs⟩
 | s :: l,e,i + 1,a,x,h,hx,hs => by
  unfold famE2
  split
  ·rfl
  ·refine famE2_one l (e ++ [s]) i a x (by simpa using h) ?_ hs
   simpa using hx
theorem famE2_zero:∀ (l e:List Nat),(∀ (i:Nat) (a x:Nat),l[i]?=some a->x∈e ++ l.take i->subB a x=false)->famE2 e l=0
 | [],_,_ => rfl
 | s :: l,e,h => by
  unfold famE2;rw [if_neg]
  ·refine famE2_zero l (e ++ [s]) λ i a x h1 h2 => h (i + 1) a x (by simpa using h1) (by simpa using h2)
  ·rw [Bool.not_eq_true,List.any_eq_false];intro x hx;rw [Bool.not_eq_true];exact h 0 s x rfl (by simpa using hx)
theorem famE1_pair:∀ (l:List Nat) (p:Option Nat),famE1 p l=0->(∀ x∈l,x < 4096)/\l.Pairwise (λ a b => bef a b=true)/\∀ q,p=some q->∀ x∈l,bef q x=true
 | [],_,_ => ⟨by simp,by simp,by simp⟩
 | s :: l,p,h => by
  unfold famE1 at h
  by_cases h4:4096<=s
  ·rw [if_pos h4] at h; cases h
  rw [if_neg h4] at h;have key:famE1 (some s) l=0/\∀ q,p=some q->bef q s=true:=by
   cases p with
   | none => exact ⟨by simpa using h,λ q e => by cases e⟩
   | some q =>
    by_cases hq:bef q s=true
    ·exact ⟨by simpa [hq] using h,λ q' e => by cases e; exact hq⟩
    ·simp [hq] at h
  obtain ⟨h1,h2,h3⟩:=famE1_pair l (some s) key.1;have hs:=h3 s rfl;refine ⟨λ x hx => ?_,List.pairwise_cons.2 ⟨hs,h2⟩,λ q e x hx => ?_⟩
  ·rcases List.mem_cons.1 hx with rfl | hx
   ·omega
   ·exact h1 x hx
  ·have hqs:=key.2 q e;rcases List.mem_cons.1 hx with rfl | hx
   ·exact hqs
   ·exact bef_trans hqs (hs x hx)
theorem famE2_both {l:List Nat} {i k a x:Nat} (h1:famE1 none l=0) (hne:i ≠ k) (hi:l[i]?=some a) (hk:l[k]?=some x) (hs:subB a x=true):famE2 [] l=1:=by
 obtain ⟨h4,hp,-⟩:=famE1_pair l none h1;rcases Nat.lt_or_gt_of_ne hne with h | h
 ·exfalso
  obtain ⟨hi',ei⟩:=List.getElem?_eq_some_iff.1 hi;obtain ⟨hk',ek⟩:=List.getElem?_eq_some_iff.1 hk;have hb:=List.pairwise_iff_getElem.1 hp i k hi' hk' h;rw [ei,ek] at hb;have hxa:x ≠ a:=λ e => by rw [e,bef_irrefl] at hb; cases hb
  have:=sub_bef (by have:=h4 a (List.mem_of_getElem? hi); omega) hs hxa;have:=bef_trans hb this;rw [bef_irrefl] at this
  cases this
 ·refine famE2_one l [] i a x hi ?_ hs;rw [List.nil_append];exact List.mem_take_iff_getElem.2 ⟨k,by have:=(List.getElem?_eq_some_iff.1 hk).1; omega,(List.getElem?_eq_some_iff.1 hk).2⟩
theorem famE2_none {l:List Nat} (h:∀ (i k a x:Nat),i ≠ k->l[i]?=some a->l[k]?=some x->subB a x=false):famE2 [] l=0:=by
 refine famE2_zero l [] λ i a x h1 h2 => ?_
 rw [List.nil_append] at h2;obtain ⟨k,hk,e⟩:=List.mem_take_iff_getElem.1 h2;exact h i k a x (by omega) h1 (by rw [List.getElem?_eq_some_iff]; exact ⟨by omega,e⟩)
theorem cnt_snoc (x k:Nat):(List.range (k + 1)).countP (λ i => x.testBit i)=(List.range k).countP (λ i => x.testBit i) + (if x.testBit k then 1 else 0):=by
 rw [List.range_succ,List.countP_append,List.countP_singleton]
theorem filt_snoc (x k:Nat):(List.range (k + 1)).filter (λ i => x.testBit i)=(List.range k).filter (λ i => x.testBit i) ++ if x.testBit k then [k] else []:=by
 rw [List.range_succ,List.filter_append]
 congr 1
 cases h:x.testBit k <;> simp [h]
theorem filt_len (x:Nat):((List.range 16).filter λ i => x.testBit i).length=cnt x:=by
 rw [<- List.countP_eq_length_filter]; rfl
theorem cloneS_ok (l:List Nat) (aa:Option Addr) (ca:Nat) (w:World) (hl:l.length<=1000000) (ua:SetU w aa l) :
  Calls Tryz.prog 15 #[.slice aa l.length ca] w λ e w' => (∃ a2 c2,e=.returned (.slice a2 l.length c2)/\l.length<=c2/\SetU w' a2 l)/\BH w w':=by
 cases aa with
 | none =>
  have hln:l=[]:=by
   cases l with
   | nil => rfl
   | cons x r => obtain ⟨b,off,e,_⟩:=ua 0 x rfl; cases e
  subst hln;have hn:=λ w:World => Lib.run_eql_slice_nil (P:=Tryz.prog) w 27 52 none 0 ca 0 0 Tryz.slice27
  simp only [Option.isNone_none] at hn;go_enter func15,ntmps15;go_wp2;go_ret;exact ⟨⟨none,0,rfl,nl,SetU.nil⟩,br⟩
 | some a =>
  have hn:=λ w:World => Lib.run_eql_slice_nil (P:=Tryz.prog) w 27 52 (some a) l.length ca 0 0 Tryz.slice27
  simp only [Option.isNone_some] at hn;have hown:(w.alloc (.cells #[] 52)).ownsRow w.heap.size 52 1 (.slice (some ⟨w.heap.size,0,none⟩) 0 0) 0 []:=World.ownsRow_made w #[] 0 nl (Nat.zero_le _) (by simp);have hba:=bA w (.cells #[] 52);have hU:=ua.mono hba;have hsz:=hba.size;go_enter func15,ntmps15;go_wp2_with (at_builtin; go_loud (refine app_sets _ w w.heap.size rfl (.tmp 5) (.tmp 6) rfl rfl rfl hown hsz hba hU hl ?_); intro a2 c2 w1 hc2 hu2 hb2);go_ret;exact ⟨⟨a2,c2,rfl,hc2,hu2⟩,hb2⟩
theorem rHas_ok (x i:Nat) (w:World) (hx:x < 65536) (hi:i < 16) :
  Calls Tryz.prog 110 #[.int .u16 (x:Nat),.int .i64 (i:Nat)] w λ e w' => e=.returned (.bool (x.testBit i))/\BH w w':=by
 obtain ⟨z,hz,hb'⟩:=bitB x i hx;obtain ⟨b,hbb⟩:∃ b,x.testBit i=b:=⟨_,rfl⟩;rw [hbb] at hb' |-;clear hbb;have hi16:(i:Int) < 16:=by omega
 go_enter func110,ntmps110;go_wp2;go_ret;exact ⟨rfl,br⟩
theorem rMembers_ok (x:Nat) (w:World) (hx:x < 65536) :
  Calls Tryz.prog 91 #[.int .u16 (x:Nat)] w λ e w' => (∃ a c,e=.returned (.slice a (cnt x) c))/\BH w w':=by
 have hbw:=Below.refl w.heap.size w;go_enter func91,ntmps91;go_wp2_with fail;go_loopw [3,4] (λ v s wr => ∃ k:Nat,k<=16/\s=.int .i64 k/\OwnE 3 1 IntC wr w.heap.size v ((List.range k).filter λ i => x.testBit i)/\BH w wr) (λ _ s _ => 16 - (intOf s).toNat)
 case atStart => exact ⟨0,Nat.zero_le _,rfl,OwnE.nil _ _,hbw⟩
 case round =>
  clear hbw;obtain ⟨k,hk,rfl,hO,hbw⟩:=hrel
  by_cases hlt:k < 16
  ·have HF:=hii (filt_snoc x k);obtain ⟨L,hL⟩:∃ L,(List.range k).filter (λ i => x.testBit i)=L:=⟨_,rfl⟩;have hLl:L.length<=1000000:=by rw [<- hL]; exact Nat.le_trans (List.length_filter_le _ _) (by simp; omega)
   rw [hL] at hO HF;have hH:=rHas_ok x k wr hx hlt;obtain ⟨b,hbb⟩:∃ b,x.testBit k=b:=⟨_,rfl⟩;rw [hbb] at hH HF;clear hL hbb;have hkn:(k:Int) < 16:=by omega
   go_wp2_with fail;(with_reducible refine hH.mono ?_);rintro e w1 ⟨rfl,hb⟩;have hO:=hO.mono stay_intC hb;have hbw:=bu hbw hb;clear hb hH
   cases b with
   | false =>
    have HF:Hid ((List.range (k + 1)).filter (λ i => x.testBit i)=L):=hii (by rw [HF.out]; simp);go_wp2;go_roundw
    case rel => exact ⟨k + 1,by omega,by go_num,by rw [HF.out]; exact hO,hbw⟩
    case measure => simp [intOf]; omega
   | true =>
    have HF:Hid ((List.range (k + 1)).filter (λ i => x.testBit i)=L ++ [k]):=hii (by rw [HF.out]; simp);have hsz:=hbw.size;go_wp2_with (at_builtin; go_loud (refine app_eL IntC stay_intC Tryz.slice55 Tryz.info3 rfl (by decide) (by decide) noL1 w1 w w.heap.size rfl (.tmp 12) (.tmp 14) rfl (a:=k) rfl rfl hO hsz hbw rfl (λ u hu => by simp at hu; subst hu; rfl) noL1 rfl hLl ?_); intro v2 w6 hO2 hb2 hk2 _);go_roundw
    case rel => exact ⟨k + 1,by omega,by go_num,by rw [HF.out]; exact hO2,hb2⟩
    case measure => simp [intOf]; omega
  ·obtain rfl:k=16:=by omega
   obtain ⟨a2,c2,e,-,-⟩:=hO.read;rw [filt_len] at e;subst e;clear hO;go_wp2;go_ret;exact ⟨⟨a2,c2,rfl⟩,hbw⟩
theorem rCount_ok (x:Nat) (w:World) (hx:x < 65536) :
  Calls Tryz.prog 45 #[.int .u16 (x:Nat)] w λ e w' => e=.returned (.int .i64 (cnt x:Nat))/\BH w w':=by
 have hM:=rMembers_ok x w hx;generalize cnt x=c at hM |-;go_enter func45,ntmps45;go_wp2_with fail;(with_reducible refine hM.mono ?_);rintro e w1 ⟨⟨a,c1,rfl⟩,hb⟩;clear hM;go_wp2;go_ret;exact ⟨rfl,hb⟩
theorem rRange_ok (x:Nat) (w:World) :
  Calls Tryz.prog 88 #[.int .u16 (x:Nat)] w λ e w' => e=.returned (.bool (decide (x < 4096)))/\BH w w':=by
 have h1:decide ((x:Int) < 4096)=decide (x < 4096):=by rw [decide_eq_decide]; omega
 generalize decide (x < 4096)=b at h1 |-;go_enter func88,ntmps88;go_wp2;go_ret;exact ⟨rfl,br⟩
theorem rSize_ok (x:Nat) (w:World) (hx:x < 65536) :
  Calls Tryz.prog 137 #[.int .u16 (x:Nat)] w λ e w' => e=.returned (.int .i64 (cnt x:Nat))/\BH w w':=by
 have hbw:=Below.refl w.heap.size w;go_enter func137,ntmps137;go_wp2_with fail;go_loopw [3,4] (λ v s wr => ∃ k c:Nat,k<=16/\s=.int .i64 k/\v=.int .i64 (c:Nat)/\c<=k/\Hid (c=(List.range k).countP λ i => x.testBit i)/\wr=w) (λ _ s _ => 16 - (intOf s).toNat)
 case atStart => exact ⟨0,0,Nat.zero_le _,rfl,rfl,nl,hii rfl,by trivial⟩
 case round =>
  obtain ⟨k,c,hk,rfl,rfl,hc,HC,rfl⟩:=hrel
  by_cases hlt:k < 16
  ·have HN:=hii (cnt_snoc x k);have hz:=bit16 x k hx;obtain ⟨b,hbb⟩:∃ b,x.testBit k=b:=⟨_,rfl⟩;rw [hbb] at hz HN;have hkn:(k:Int) < 16:=by omega
   clear hbb
   cases b with
   | false =>
    have hz:bits .and .u16 ((x:Int) / 2 ^ k) 1=0:=hz;have HN:Hid ((List.range (k + 1)).countP (λ i => x.testBit i)=c):=hii (by rw [HN.out,HC.out]; rfl);go_wp2;go_roundw
    case rel => exact ⟨k + 1,c,by omega,by go_num,by go_num,by omega,hii HN.out.symm,by trivial⟩
    case measure => simp [intOf]; omega
   | true =>
    have hz:bits .and .u16 ((x:Int) / 2 ^ k) 1=1:=hz;have HN:Hid ((List.range (k + 1)).countP (λ i => x.testBit i)=c + 1):=hii (by rw [HN.out,HC.out]; rfl);go_wp2;go_roundw
    case rel => exact ⟨k + 1,c + 1,by omega,by go_num,by go_num,by omega,hii HN.out.symm,by trivial⟩
    case measure => simp [intOf]; omega
  ·obtain rfl:k=16:=by omega
   have HC:Hid (cnt x=c):=hii (by rw [HC.out]; rfl);go_wp2;go_ret;exact ⟨by rw [HC.out]; rfl,hbw⟩
theorem rBefore_ok (a b:Nat) (w:World) (ha:a < 65536) (hb':b < 65536) :
  Calls Tryz.prog 89 #[.int .u16 (a:Nat),.int .u16 (b:Nat)] w λ e w' => e=.returned (.bool (bef a b))/\BH w w':=by
 have hbw:=Below.refl w.heap.size w;obtain ⟨z,hz⟩:∃ z,bef a b=z:=⟨_,rfl⟩;rw [hz];have hz:z=(decide (cnt a < cnt b) || (decide (cnt a=cnt b) && decide (a < b))):=by rw [<- hz]; rfl
 have H1:=λ W => rSize_ok a W ha
 have H2:=λ W => rSize_ok b W hb'
 have l1:=cnt_le a;have l2:=cnt_le b;generalize cnt a=p at H1 hz l1;generalize cnt b=q at H2 hz l2;have HZ:=hii hz;clear hz
 by_cases hpq:p=q
 ·have hne:((p:Int) != (q:Int))=false:=by simp; omega
  have hd:decide (a < b)=z:=by rw [HZ.out,hpq]; simp
  clear hpq HZ;go_enter func89,ntmps89;go_wp2_with fail;(with_reducible refine (H1 w).mono ?_);rintro e w1 ⟨rfl,hb⟩;have hbw:=bu hbw hb;clear hb;go_wp2_with fail;(with_reducible refine (H2 w1).mono ?_);rintro e w2 ⟨rfl,hb⟩;have hbw:=bu hbw hb;clear hb;go_wp2;go_ret;exact ⟨by rw [<- hd]; rfl,hbw⟩
 ·have hne:((p:Int) != (q:Int))=true:=by simp; omega
  have hd:decide (p < q)=z:=by rw [HZ.out]; simp [hpq]
  clear hpq HZ;go_enter func89,ntmps89;go_wp2_with fail;(with_reducible refine (H1 w).mono ?_);rintro e w1 ⟨rfl,hb⟩;have hbw:=bu hbw hb;clear hb;go_wp2_with fail;(with_reducible refine (H2 w1).mono ?_);rintro e w2 ⟨rfl,hb⟩;have hbw:=bu hbw hb;clear hb;go_wp2_with fail;(with_reducible refine (H1 w2).mono ?_);rintro e w3 ⟨rfl,hb⟩;have hbw:=bu hbw hb;clear hb;go_wp2_with fail;(with_reducible refine (H2 w3).mono ?_);rintro e w4 ⟨rfl,hb⟩;have hbw:=bu hbw hb;clear hb;go_wp2;go_ret;exact ⟨by rw [<- hd]; rfl,hbw⟩
theorem rContains_ok (a b:Nat) (ha:a < 65536) (hb':b < 65536) (w:World) :
  Calls Tryz.prog 90 #[.int .u16 (a:Nat),.int .u16 (b:Nat)] w λ e w' => e=.returned (.bool (subB a b))/\BH w w':=by
 have e1:=andNot16 a b ha hb';obtain ⟨z,hz⟩:∃ z,subB a b=z:=⟨_,rfl⟩;have e2:(bits .andNot .u16 (b:Int) (a:Int) == 0)=z:=by rw [e1,<- hz]; rfl
 rw [hz];clear e1 hz;go_enter func90,ntmps90;go_wp2;go_ret;exact ⟨rfl,br⟩
theorem rQuorums_ok (l:List Nat) (aa:Option Addr) (ca:Nat) (w:World) (hl:l.length<=1000000) (ua:SetU w aa l) :
  Calls Tryz.prog 43 #[.slice aa l.length ca] w λ e w' => e=.returned (.int .i64 (if emptyF l then 9 else 0:Nat))/\BH w w':=by
 cases l with
 | nil =>
  go_enter func43,ntmps43;go_wp2;go_ret;exact ⟨rfl,br⟩
 | cons x r =>
  obtain ⟨b,off,ea,hc⟩:=ua 0 x rfl;rw [Nat.add_zero] at hc;obtain ⟨n,hn⟩:∃ n,(x :: r).length=n:=⟨_,rfl⟩;have hn0:0 < n:=by rw [<- hn]; simp
  rw [hn] at hl |-;have hnz:((n:Int) == 0)=false:=by simp; omega
  have hni:(0:Int) < (n:Int):=by omega
  have hE:emptyF (x :: r)=decide (x=0):=rfl;rw [hE];subst ea;clear ua hn hE
  by_cases hx0:x=0
  ·subst hx0;go_enter func43,ntmps43;go_wp2;go_ret;exact ⟨rfl,br⟩
  ·have hxz:((x:Int) == 0)=false:=by simp; omega
   have hd:decide (x=0)=false:=decide_eq_false hx0;rw [hd];go_enter func43,ntmps43;go_wp2;go_ret;exact ⟨rfl,br⟩
theorem rbelow_ok (l:List Nat) (n:Nat) (aa:Option Addr) (ca:Nat) (w:World) (hl:l.length<=1000000) (hn1:1<=n) (hn2:n<=12) (ua:SetU w aa l) :
  Calls Tryz.prog 44 #[.slice aa l.length ca,.int .i64 (n:Nat)] w λ e w' => e=.returned (.bool (l.all λ x => decide (x < 2 ^ n)))/\BH w w':=by
 have hbw:=Below.refl w.heap.size w;obtain ⟨M,hM⟩:∃ M,2 ^ n=M:=⟨_,rfl⟩;have hML:M<=4096:=by rw [<- hM]; exact Nat.pow_le_pow_right (by decide) hn2
 have hsh:(2:Int) ^ n=(M:Int):=by rw [<- hM]; push_cast; rfl
 have hwr:IntKind.u16.wrap (M:Int)=(M:Int):=wrap16 (by omega);rw [hM];have hn64:(n:Int) < 64:=by omega
 clear hM;go_enter func44,ntmps44;go_wp2_with fail;go_loopw [5] (λ s wr => ∃ k:Nat,k<=l.length/\s=.int .i64 k/\Hid ((l.take k).all (λ x => decide (x < M))=true)/\BH w wr) (λ s _ => l.length - (intOf s).toNat)
 case atStart => exact ⟨0,Nat.zero_le _,rfl,hii (by simp),hbw⟩
 case round =>
  clear hbw;obtain ⟨k,hk,rfl,HA,hbw⟩:=hrel;have ua:=ua.mono hbw
  by_cases hlt:k < l.length
  ·obtain ⟨x,hx⟩:∃ x,l[k]?=some x:=⟨l[k],gE hlt⟩;obtain ⟨b1,off1,ea,hc⟩:=ua k x hx;have HT:Hid ((l.take (k + 1)).all (λ x => decide (x < M))=decide (x < M)):=hii (by rw [take_get hx,List.all_append,HA.out]; simp);have HM:Hid (x∈l):=hii (List.mem_of_getElem? hx);have hkl:(k:Int) < (l.length:Int):=by omega
   subst ea;clear hx ua;go_upto_region 4 with fail;obtain ⟨z,hz⟩:∃ z,decide (M<=x)=z:=⟨_,rfl⟩;have HZ:Hid (decide (x < M)=!z):=hii (by rw [<- hz,Bool.eq_iff_iff]; simp);refine wp_region_vals (wx:=wr) [vf (.slice (some ⟨b1,off1,none⟩) l.length ca),vf (.int .i64 k),vf (.pointer (some ⟨b1,off1 + k,none⟩)),vf (.int .u16 (x:Nat)),vf (.int .i64 (n:Nat)),vf (.int .u16 (M:Nat)),vf (.bool z)] [12,13,14,15,16,17,18] (by kernel_rfl) (by kernel_rfl) (by kernel_rfl) (of_decide_eq_true (by kernel_rfl)) br ⟨sV _,sV _,sV _,sV _,sV _,sV _,sV _,trivial⟩ ⟨?s0,?s1,?s2,?s3,?s4,?s5,?s6,trivial⟩ ?he
   case' s0 | s1 | s2 | s3 | s4 | s5 | s6 =>
    rintro T W hb hA K hK
   case' s0 | s1 | s4 =>
    simp only [sA] at hK |-
   case' s2 =>
    have e0:T 12=_:=hA.1;have e1:T 13=_:=hA.2.1;simp only [sA,e0,e1] at hK |-
   case' s5 =>
    have e4:T 16=_:=hA.1;simp only [sA,e4] at hK |-
   case' s6 =>
    have e3:T 15=_:=hA.1;have e5:T 17=_:=hA.2.1;simp only [sA,e3,e5] at hK |-
   case s0 | s1 | s2 | s4 | s5 | s6 =>
    have HK:=hii hK;clear hK hA;refine wO rfl (by rfl) ?_;go_simp;exact HK.out _ _ br (rfl)
   case s3 =>
    have e2:T 14=_:=hA.1;simp only [sA,e2] at hK |-;have HK:=hii hK;clear hK hA;have h0:=(hb.cell (cell_lt hc)).trans hc;refine wO rfl (by rfl) ?_;go_simp;exact HK.out _ _ br (rfl)
   case he =>
    rintro T W hb hA;have f6:T 18=.bool z:=hA.at 6 (by decide);simp only [sA,f6];have hbw:=bu hbw hb;clear hA f6 hb
    cases z with
    | true =>
     have HE:Hid (l.all (λ x => decide (x < M))=false):=hii (by rw [List.all_eq_false]; exact ⟨x,HM.out,by rw [HZ.out]; decide⟩);clear HT HZ hz;go_wp2;go_ret;exact ⟨by rw [HE.out]; rfl,hbw⟩
    | false =>
     have HT:Hid ((l.take (k + 1)).all (λ x => decide (x < M))=true):=hii (by rw [HT.out,HZ.out]; rfl);clear HZ hz;go_wp2;go_roundw
     case rel => exact ⟨k + 1,by omega,by go_num,HT,hbw⟩
     case measure => simp [intOf]; omega
  ·obtain rfl:k=l.length:=by omega
   have HE:Hid (l.all (λ x => decide (x < M))=true):=hii (by have h:=HA.out; rw [List.take_length] at h; exact h);go_wp2;go_ret;exact ⟨by rw [HE.out]; rfl,hbw⟩
theorem rFamValid_ok (l:List Nat) (aa:Option Addr) (ca:Nat) (w:World) (hl:l.length<=400) (ua:SetU w aa l) (h16:Hid (Sets16 l)) :
  Calls Tryz.prog 42 #[.slice aa l.length ca] w λ e w' => e=.returned (.int .i64 (famE l:Nat))/\BH w w':=by
 have hbw:=Below.refl w.heap.size w;obtain ⟨E,hE⟩:∃ E,famE l=E:=⟨_,rfl⟩;rw [hE];have h4:¬ 400 < l.length:=by omega
 have HE:Hid (E=if famE1 none l ≠ 0 then famE1 none l else famE2 [] l):=hii (by rw [<- hE]; unfold famE; rw [if_neg h4]);clear hE;have h4':¬ (400:Int) < (l.length:Int):=by omega
 go_enter func42,ntmps42;go_wp2_with fail;go_loopw [3] (λ s wr => ∃ k:Nat,k<=l.length/\s=.int .i64 k/\Hid (famE1 none l=famE1 (prvN l k) (l.drop k))/\BH w wr) (λ s _ => l.length - (intOf s).toNat)
 case atStart => exact ⟨0,Nat.zero_le _,rfl,hii rfl,hbw⟩
 case round =>
  clear hbw;obtain ⟨k,hk,rfl,HN,hbw⟩:=hrel
  by_cases hlt:k < l.length
  ·obtain ⟨x,hx⟩:∃ x,l[k]?=some x:=⟨l[k],gE hlt⟩;obtain ⟨b1,off1,ea,hc⟩:=(ua.mono hbw) k x hx;have hx16:=h16.out x (List.mem_of_getElem? hx);have HN:Hid (famE1 none l=if 4096<=x then 7 else if (match prvN l k with | none => false | some q => !bef q x) then 1 else famE1 (some x) (l.drop (k + 1))):=hii (by rw [HN.out,drop_get hx]; rfl);have Hp:Hid (prvN l (k + 1)=some x):=hii (by unfold prvN; rw [if_neg (by omega)]; exact hx);have hkl:(k:Int) < (l.length:Int):=by omega
   have HR:=rRange_ok x wr
   by_cases hx4:4096<=x
   ·have h7:decide (x < 4096)=false:=decide_eq_false (by omega);rw [h7] at HR;have HE1:Hid (E=7):=hii (by rw [HE.out,HN.out,if_pos hx4]; rfl);clear HE HN hx ua Hp h7;subst ea;go_wp2_with fail;(with_reducible refine HR.mono ?_);rintro e w1 ⟨rfl,hb⟩;have hbw:=bu hbw hb;clear hb hc HR;go_wp2;go_ret;exact ⟨by rw [HE1.out]; rfl,hbw⟩
   ·have h7:decide (x < 4096)=true:=decide_eq_true (by omega);rw [h7] at HR
    by_cases hk0:k=0
    ·subst hk0;rw [Nat.add_zero] at hc;have HN1:Hid (famE1 none l=famE1 (prvN l (0 + 1)) (l.drop (0 + 1))):=hii (by rw [HN.out,if_neg hx4,Hp.out]; rfl);clear HN Hp hx h7;subst ea;go_wp2_with fail;(with_reducible refine HR.mono ?_);rintro e w1 ⟨rfl,hb⟩;have hbw:=bu hbw hb;clear hb hc HR;go_upto_region 8 with fail;refine wp_region_vals (wx:=w1) [vf (.int .i64 ((0:Nat):Int)),vf (.bool false),vf (.bool false),vf undef,vf undef,vf undef,vf undef,vf undef,vf undef,vf undef,vf undef,vf undef,vf undef,vf undef,vf (.bool false)] [21,22,23,24,25,26,27,28,29,30,31,32,33,34,35] (by kernel_rfl) (by kernel_rfl) (by kernel_rfl) (of_decide_eq_true (by kernel_rfl)) br ⟨sV _,sV _,sV _,sV _,sV _,sV _,sV _,sV _,sV _,sV _,sV _,sV _,sV _,sV _,sV _,trivial⟩ ⟨?s0,?s1,?s2,?s3,?s4,?s5,?s6,?s7,?s8,?s9,?s10,?s11,?s12,?s13,?s14,trivial⟩ ?he
     case' s0 | s1 | s2 | s3 | s4 | s5 | s6 | s7 | s8 | s9 | s10 | s11 | s12 | s13 | s14 =>
      rintro T W hb hA K hK
     case' s0 =>
      simp only [sA] at hK |-
     case' s1 =>
      have e0:T 21=_:=hA.1;simp only [sA,e0] at hK |-
     case' s2 =>
      have e1:T 22=_:=hA.1;simp only [sA,e1] at hK |-
     case' s14 =>
      have e2:T 23=_:=hA.1;have e13:T 34=_:=hA.2.1;simp only [sA,e2,e13] at hK |-
     case' s3 | s4 | s8 | s9 =>
      have e2:T 23=_:=hA.1;simp only [sA,e2] at hK |-
     case' s5 =>
      have e4:T 25=_:=hA.1;have e2:T 23=_:=hA.2.1;simp only [sA,e4,e2] at hK |-
     case' s6 =>
      have e3:T 24=_:=hA.1;have e5:T 26=_:=hA.2.1;have e2:T 23=_:=hA.2.2.1;simp only [sA,e3,e5,e2] at hK |-
     case' s7 =>
      have e6:T 27=_:=hA.1;have e2:T 23=_:=hA.2.1;simp only [sA,e6,e2] at hK |-
     case' s10 =>
      have e8:T 29=_:=hA.1;have e9:T 30=_:=hA.2.1;have e2:T 23=_:=hA.2.2.1;simp only [sA,e8,e9,e2] at hK |-
     case' s11 =>
      have e10:T 31=_:=hA.1;have e2:T 23=_:=hA.2.1;simp only [sA,e10,e2] at hK |-
     case' s12 =>
      have e7:T 28=_:=hA.1;have e11:T 32=_:=hA.2.1;have e2:T 23=_:=hA.2.2.1;simp only [sA,e7,e11,e2] at hK |-
     case' s13 =>
      have e12:T 33=_:=hA.1;have e2:T 23=_:=hA.2.1;simp only [sA,e12,e2] at hK |-
     case s0 | s1 | s2 | s14 =>
      have HK:=hii hK;clear hK hA;refine wO rfl (by rfl) ?_;go_simp;exact HK.out _ _ br (rfl)
     case s3 | s4 | s5 | s6 | s7 | s8 | s9 | s10 | s11 | s12 | s13 =>
      have HK:=hii hK;clear hK hA;refine wpOp_pass rfl (by rfl) ?_;simp only [Act.put,List.setIfInBounds_toArray];exact HK.out _ _ br (rfl)
     case he =>
      rintro T W hb hA;have f14:T 35=.bool false:=hA.at 14 (by decide);simp only [sA,f14];have hbw:=bu hbw hb;clear hA f14 hb;go_wp2;go_roundw
      case rel => exact ⟨0 + 1,by omega,by go_num,HN1,hbw⟩
      case measure => simp [intOf]; omega
    ·obtain ⟨q,hq⟩:∃ q,l[k - 1]?=some q:=⟨l[k - 1]'(by omega),gE _⟩;obtain ⟨b2,off2,ea2,hc2⟩:=(ua.mono hbw) (k - 1) q hq;have hq16:=h16.out q (List.mem_of_getElem? hq);have HN:Hid (famE1 none l=if (!bef q x)=true then 1 else famE1 (some x) (l.drop (k + 1))):=hii (by
      rw [HN.out,if_neg hx4];unfold prvN;rw [if_neg hk0,hq])
     have HKc:=hii (λ W => rBefore_ok q x W hq16 hx16);obtain ⟨z,hz⟩:∃ z,bef q x=z:=⟨_,rfl⟩;rw [hz] at HN;have HKc:Hid (∀ W,Calls Tryz.prog 89 #[.int .u16 (q:Nat),.int .u16 (x:Nat)] W λ e w' => e=.returned (.bool z)/\BH W w'):=hii λ W => by have:=HKc.out W; rw [hz] at this; exact this
     subst ea
     cases ea2
     have hkp:decide ((0:Int) < (k:Int))=true:=decide_eq_true (by omega);have hk1:(k:Int) - 1=((k - 1:Nat):Int):=by omega
     have hkq:((k - 1:Nat):Int) < (l.length:Int):=by omega
     have hk0':0 < k:=by omega
     have hwk:IntKind.i64.wrap ((k - 1:Nat):Int)=((k - 1:Nat):Int):=by unfold IntKind.wrap; simp [IntKind.bits,IntKind.signed]; omega
     clear hx hq hz h7 ua;go_wp2_with fail;(with_reducible refine HR.mono ?_);rintro e w1 ⟨rfl,hb⟩;have hc2:=(hb.cell (cell_lt hc2)).trans hc2;have hc:=(hb.cell (cell_lt hc)).trans hc;have hbw:=bu hbw hb;clear hb HR;go_upto_region 8 with fail;refine wp_region_vals (wx:=w1) [vf (.int .i64 k),vf (.bool true),vf (.bool true),vf (.slice (some ⟨b1,off1,none⟩) l.length ca),vf (.int .i64 k),vf (.int .i64 ((k - 1:Nat):Int)),vf (.pointer (some ⟨b1,off1 + (k - 1),none⟩)),vf (.int .u16 (q:Nat)),vf (.slice (some ⟨b1,off1,none⟩) l.length ca),vf (.int .i64 k),vf (.pointer (some ⟨b1,off1 + k,none⟩)),vf (.int .u16 (x:Nat)),vf (.bool z),vf (.bool (!z)),vf (.bool (!z))] [21,22,23,24,25,26,27,28,29,30,31,32,33,34,35] (by kernel_rfl) (by kernel_rfl) (by kernel_rfl) (of_decide_eq_true (by kernel_rfl)) br ⟨sV _,sV _,sV _,sV _,sV _,sV _,sV _,sV _,sV _,sV _,sV _,sV _,sV _,sV _,sV _,trivial⟩ ⟨?s0,?s1,?s2,?s3,?s4,?s5,?s6,?s7,?s8,?s9,?s10,?s11,?s12,?s13,?s14,trivial⟩ ?he
     case' s0 | s1 | s2 | s3 | s4 | s5 | s6 | s7 | s8 | s9 | s10 | s11 | s12 | s13 | s14 =>
      rintro T W hb hA K hK
     case' s0 =>
      simp only [sA] at hK |-
     case' s1 =>
      have e0:T 21=_:=hA.1;simp only [sA,e0] at hK |-
     case' s2 =>
      have e1:T 22=_:=hA.1;simp only [sA,e1] at hK |-
     case' s3 | s4 | s8 | s9 =>
      have e2:T 23=_:=hA.1;simp only [sA,e2] at hK |-
     case' s5 =>
      have e4:T 25=_:=hA.1;have e2:T 23=_:=hA.2.1;simp only [sA,e4,e2] at hK |-
     case' s6 =>
      have e3:T 24=_:=hA.1;have e5:T 26=_:=hA.2.1;have e2:T 23=_:=hA.2.2.1;simp only [sA,e3,e5,e2] at hK |-
     case' s10 =>
      have e8:T 29=_:=hA.1;have e9:T 30=_:=hA.2.1;have e2:T 23=_:=hA.2.2.1;simp only [sA,e8,e9,e2] at hK |-
     case' s13 =>
      have e12:T 33=_:=hA.1;have e2:T 23=_:=hA.2.1;simp only [sA,e12,e2] at hK |-
     case' s14 =>
      have e2:T 23=_:=hA.1;have e13:T 34=_:=hA.2.1;simp only [sA,e2,e13] at hK |-
     case' s7 =>
      have e6:T 27=_:=hA.1;have e2:T 23=_:=hA.2.1;simp only [sA,e6,e2] at hK |-;have HK:=hii hK;clear hK hA;have h0:=(hb.cell (cell_lt hc2)).trans hc2
     case' s11 =>
      have e10:T 31=_:=hA.1;have e2:T 23=_:=hA.2.1;simp only [sA,e10,e2] at hK |-;have HK:=hii hK;clear hK hA;have h0:=(hb.cell (cell_lt hc)).trans hc
     case s0 | s1 | s2 | s3 | s4 | s5 | s6 | s8 | s9 | s10 | s13 | s14 =>
      have HK:=hii hK;clear hK hA;refine wO rfl (by rfl) ?_;go_simp;exact HK.out _ _ br (rfl)
     case s7 | s11 =>
      refine wO rfl (by rfl) ?_;go_simp;exact HK.out _ _ br (rfl)
     case s12 =>
      have e7:T 28=_:=hA.1;have e11:T 32=_:=hA.2.1;have e2:T 23=_:=hA.2.2.1;simp only [sA,e7,e11,e2] at hK |-;have HK:=hii hK;clear hK hA;refine wO rfl (by rfl) ?_;go_simp;(with_reducible refine (HKc.out W).mono ?_);rintro e w2 ⟨rfl,hb1⟩
      try dsimp only
      exact HK.out _ _ hb1 (rfl)
     case he =>
      rintro T W hb hA;have f14:T 35=.bool (!z):=hA.at 14 (by decide);simp only [sA,f14];have hbw:=bu hbw hb;clear hA f14 hb hc hc2 HKc
      cases z with
      | true =>
       have HN1:Hid (famE1 none l=famE1 (prvN l (k + 1)) (l.drop (k + 1))):=hii (by rw [HN.out,Hp.out]; rfl);clear HN Hp;go_wp2;go_roundw
       case rel => exact ⟨k + 1,by omega,by go_num,HN1,hbw⟩
       case measure => simp [intOf]; omega
      | false =>
       have HE1:Hid (E=1):=hii (by rw [HE.out,HN.out]; rfl);clear HN Hp HE;go_wp2;go_ret;exact ⟨by rw [HE1.out]; rfl,hbw⟩
  ·obtain rfl:k=l.length:=by omega
   have HF0:Hid (famE1 none l=0):=hii (by rw [HN.out,List.drop_length]; simp [famE1]);have HE:Hid (E=famE2 [] l):=hii (by rw [HE.out,if_neg]; rw [HF0.out]; simp);have hbw0:=hbw;clear HN hbw;go_wp2_with fail;go_loopw [4,5] (λ s _ wr => ∃ k:Nat,k<=l.length/\s=.int .i64 k/\Hid (∀ (i j a x:Nat),i < k->i ≠ j->l[i]?=some a->l[j]?=some x->subB a x=false)/\BH w wr) (λ s _ _ => l.length - (intOf s).toNat)
   case atStart => exact ⟨0,Nat.zero_le _,rfl,hii (λ i j a x h => absurd h (Nat.not_lt_zero _)),hbw0⟩
   case round =>
    clear hbw0;obtain ⟨i,hi,rfl,HI,hbw⟩:=hrel
    by_cases hlt:i < l.length
    ·obtain ⟨a,ha⟩:∃ a,l[i]?=some a:=⟨l[i],gE hlt⟩;have ha16:=h16.out a (List.mem_of_getElem? ha);have Ha:=hii ha;have hil:(i:Int) < (l.length:Int):=by omega
     have hbw0:=hbw;clear hbw ha;go_wp2_with fail;go_loopw [5] (λ s wr => ∃ j:Nat,j<=l.length/\s=.int .i64 j/\Hid (∀ (j' x:Nat),j' < j->i ≠ j'->l[j']?=some x->subB a x=false)/\BH w wr) (λ s _ => l.length - (intOf s).toNat)
     case atStart => exact ⟨0,Nat.zero_le _,rfl,hii (λ j x h => absurd h (Nat.not_lt_zero _)),hbw0⟩
     case round =>
      clear hbw0;obtain ⟨j,hj,rfl,HJ,hbw⟩:=hrel
      by_cases hlj:j < l.length
      ·by_cases hij:i=j
       ·subst hij;have HJ2:Hid (∀ (j' x:Nat),j' < i + 1->i ≠ j'->l[j']?=some x->subB a x=false):=hii λ j' x h hne hx => HJ.out j' x (by omega) hne hx
        have hne:((i:Int) != (i:Int))=false:=by simp
        have hne2:(i != i)=false:=by simp
        clear HJ;go_upto_region 16 with fail;refine wp_region_vals (wx:=wr) [vf (.int .i64 i),vf (.int .i64 i),vf (.bool false),vf (.bool false),vf undef,vf undef,vf undef,vf undef,vf undef,vf undef,vf undef,vf undef,vf undef,vf (.bool false)] [48,49,50,51,52,53,54,55,56,57,58,59,60,61] (by kernel_rfl) (by kernel_rfl) (by kernel_rfl) (of_decide_eq_true (by kernel_rfl)) br ⟨sV _,sV _,sV _,sV _,sV _,sV _,sV _,sV _,sV _,sV _,sV _,sV _,sV _,sV _,trivial⟩ ⟨?s0,?s1,?s2,?s3,?s4,?s5,?s6,?s7,?s8,?s9,?s10,?s11,?s12,?s13,trivial⟩ ?he
        case' s0 | s1 | s2 | s3 | s4 | s5 | s6 | s7 | s8 | s9 | s10 | s11 | s12 | s13 =>
         rintro T W hb hA K hK
        case' s0 | s1 =>
         simp only [sA] at hK |-
        case' s2 =>
         have e0:T 48=_:=hA.1;have e1:T 49=_:=hA.2.1;simp only [sA,e0,e1] at hK |-
        case' s3 =>
         have e2:T 50=_:=hA.1;simp only [sA,e2] at hK |-
        case' s13 =>
         have e3:T 51=_:=hA.1;have e12:T 60=_:=hA.2.1;simp only [sA,e3,e12] at hK |-
        case' s4 | s5 | s8 | s9 =>
         have e3:T 51=_:=hA.1;simp only [sA,e3] at hK |-
        case' s6 =>
         have e4:T 52=_:=hA.1;have e5:T 53=_:=hA.2.1;have e3:T 51=_:=hA.2.2.1;simp only [sA,e4,e5,e3] at hK |-
        case' s7 =>
         have e6:T 54=_:=hA.1;have e3:T 51=_:=hA.2.1;simp only [sA,e6,e3] at hK |-
        case' s10 =>
         have e8:T 56=_:=hA.1;have e9:T 57=_:=hA.2.1;have e3:T 51=_:=hA.2.2.1;simp only [sA,e8,e9,e3] at hK |-
        case' s11 =>
         have e10:T 58=_:=hA.1;have e3:T 51=_:=hA.2.1;simp only [sA,e10,e3] at hK |-
        case' s12 =>
         have e7:T 55=_:=hA.1;have e11:T 59=_:=hA.2.1;have e3:T 51=_:=hA.2.2.1;simp only [sA,e7,e11,e3] at hK |-
        case s0 | s1 | s2 | s3 | s13 =>
         have HK:=hii hK;clear hK hA;refine wO rfl (by rfl) ?_;go_simp;exact HK.out _ _ br (rfl)
        case s4 | s5 | s6 | s7 | s8 | s9 | s10 | s11 | s12 =>
         have HK:=hii hK;clear hK hA;refine wpOp_pass rfl (by rfl) ?_;simp only [Act.put,List.setIfInBounds_toArray];exact HK.out _ _ br (rfl)
        case he =>
         rintro T W hb hA;have f13:T 61=.bool false:=hA.at 13 (by decide);simp only [sA,f13];have hbw:=bu hbw hb;clear hA f13 hb;go_wp2;go_roundw
         case rel => exact ⟨i + 1,by omega,by go_num,HJ2,hbw⟩
         case measure => simp [intOf]; omega
       ·obtain ⟨x,hx⟩:∃ x,l[j]?=some x:=⟨l[j],gE hlj⟩;have hx16:=h16.out x (List.mem_of_getElem? hx);obtain ⟨b1,off1,ea,hc⟩:=(ua.mono hbw) j x hx;obtain ⟨b2,off2,ea2,hc2⟩:=(ua.mono hbw) i a Ha.out;have hne:((i:Int) != (j:Int))=true:=by simp; omega
        have hne2:(i != j)=true:=by simp; omega
        have hjl:(j:Int) < (l.length:Int):=by omega
        obtain ⟨z,hz⟩:∃ z,subB a x=z:=⟨_,rfl⟩;have HZ:=hii hz;have Hx:=hii hx;have Hij:=hii hij;have HKc:Hid (∀ W,Calls Tryz.prog 90 #[.int .u16 (a:Nat),.int .u16 (x:Nat)] W λ e w' => e=.returned (.bool z)/\BH W w'):=hii λ W => by have:=rContains_ok a x ha16 hx16 W; rw [hz] at this; exact this
        subst ea
        cases ea2
        clear hx hz hij ua;go_upto_region 16 with fail;refine wp_region_vals (wx:=wr) [vf (.int .i64 i),vf (.int .i64 j),vf (.bool true),vf (.bool true),vf (.slice (some ⟨b1,off1,none⟩) l.length ca),vf (.int .i64 i),vf (.pointer (some ⟨b1,off1 + i,none⟩)),vf (.int .u16 (a:Nat)),vf (.slice (some ⟨b1,off1,none⟩) l.length ca),vf (.int .i64 j),vf (.pointer (some ⟨b1,off1 + j,none⟩)),vf (.int .u16 (x:Nat)),vf (.bool z),vf (.bool z)] [48,49,50,51,52,53,54,55,56,57,58,59,60,61] (by kernel_rfl) (by kernel_rfl) (by kernel_rfl) (of_decide_eq_true (by kernel_rfl)) br ⟨sV _,sV _,sV _,sV _,sV _,sV _,sV _,sV _,sV _,sV _,sV _,sV _,sV _,sV _,trivial⟩ ⟨?s0,?s1,?s2,?s3,?s4,?s5,?s6,?s7,?s8,?s9,?s10,?s11,?s12,?s13,trivial⟩ ?he
        case' s0 | s1 | s2 | s3 | s4 | s5 | s6 | s7 | s8 | s9 | s10 | s11 | s12 | s13 =>
         rintro T W hb hA K hK
        case' s0 | s1 =>
         simp only [sA] at hK |-
        case' s2 =>
         have e0:T 48=_:=hA.1;have e1:T 49=_:=hA.2.1;simp only [sA,e0,e1] at hK |-
        case' s3 =>
         have e2:T 50=_:=hA.1;simp only [sA,e2] at hK |-
        case' s4 | s5 | s8 | s9 =>
         have e3:T 51=_:=hA.1;simp only [sA,e3] at hK |-
        case' s6 =>
         have e4:T 52=_:=hA.1;have e5:T 53=_:=hA.2.1;have e3:T 51=_:=hA.2.2.1;simp only [sA,e4,e5,e3] at hK |-
        case' s10 =>
         have e8:T 56=_:=hA.1;have e9:T 57=_:=hA.2.1;have e3:T 51=_:=hA.2.2.1;simp only [sA,e8,e9,e3] at hK |-
        case' s13 =>
         have e3:T 51=_:=hA.1;have e12:T 60=_:=hA.2.1;simp only [sA,e3,e12] at hK |-
        case' s7 =>
         have e6:T 54=_:=hA.1;have e3:T 51=_:=hA.2.1;simp only [sA,e6,e3] at hK |-;have HK:=hii hK;clear hK hA;have h0:=(hb.cell (cell_lt hc2)).trans hc2
        case' s11 =>
         have e10:T 58=_:=hA.1;have e3:T 51=_:=hA.2.1;simp only [sA,e10,e3] at hK |-;have HK:=hii hK;clear hK hA;have h0:=(hb.cell (cell_lt hc)).trans hc
        case s0 | s1 | s2 | s3 | s4 | s5 | s6 | s8 | s9 | s10 | s13 =>
         have HK:=hii hK;clear hK hA;refine wO rfl (by rfl) ?_;go_simp;exact HK.out _ _ br (rfl)
        case s7 | s11 =>
         refine wO rfl (by rfl) ?_;go_simp;exact HK.out _ _ br (rfl)
        case s12 =>
         have e7:T 55=_:=hA.1;have e11:T 59=_:=hA.2.1;have e3:T 51=_:=hA.2.2.1;simp only [sA,e7,e11,e3] at hK |-;have HK:=hii hK;clear hK hA;refine wO rfl (by rfl) ?_;go_simp;(with_reducible refine (HKc.out W).mono ?_);rintro e w2 ⟨rfl,hb1⟩
         try dsimp only
         exact HK.out _ _ hb1 (rfl)
        case he =>
         rintro T W hb hA;have f13:T 61=.bool z:=hA.at 13 (by decide);simp only [sA,f13];have hbw:=bu hbw hb;clear hA f13 hb hc hc2 HKc
         cases z with
         | true =>
          have HE1:Hid (E=1):=hii (by rw [HE.out]; exact famE2_both HF0.out Hij.out Ha.out Hx.out HZ.out);clear HJ HI HE;go_wp2;go_ret;exact ⟨by rw [HE1.out]; rfl,hbw⟩
         | false =>
          have HJ2:Hid (∀ (j' x:Nat),j' < j + 1->i ≠ j'->l[j']?=some x->subB a x=false):=hii λ j' y h hn hy => by
           by_cases e:j'=j
           ·subst e;have:=Hx.out.symm.trans hy;simp only [Option.some.injEq] at this;rw [<- this]; exact HZ.out
           ·exact HJ.out j' y (by omega) hn hy
          clear HJ;go_wp2;go_roundw
          case rel => exact ⟨j + 1,by omega,by go_num,HJ2,hbw⟩
          case measure => simp [intOf]; omega
      ·obtain rfl:j=l.length:=by omega
       have HI2:Hid (∀ (i' j a x:Nat),i' < i + 1->i' ≠ j->l[i']?=some a->l[j]?=some x->subB a x=false):=hii λ i' j' b y h hn hb' hy => by
        by_cases e:i'=i
        ·subst e;have:=Ha.out.symm.trans hb';simp only [Option.some.injEq] at this;rw [<- this];exact HJ.out j' y (List.getElem?_eq_some_iff.1 hy).1 hn hy
        ·exact HI.out i' j' b y (by omega) hn hb' hy
       clear HJ HI;go_wp2;go_roundw
       case rel => exact ⟨i + 1,by omega,by go_num,HI2,hbw⟩
       case measure => simp [intOf]; omega
    ·obtain rfl:i=l.length:=by omega
     have HE1:Hid (E=0):=hii (by rw [HE.out]; exact famE2_none λ i k a x hne hi hk => HI.out i k a x (List.getElem?_eq_some_iff.1 hi).1 hne hi hk);clear HI HE;go_wp2;go_ret;exact ⟨by rw [HE1.out]; rfl,hbw⟩
end Go.Proofs.YtfgffkmddanjjaaGreatDoor
