/-
  the reference: Bounds.
-/
import Derived.Test.YtfgffkmddanjjaaGreatDoorLv
import Derived.Test.YtfgffkmddanjjaaGreatDoorLa
import Derived.Test.YtfgffkmddanjjaaGreatDoorLu
set_option linter.unusedVariables false
set_option linter.unusedSimpArgs false
set_option maxRecDepth 100000
set_option maxHeartbeats 25600000
namespace Go.Proofs.YtfgffkmddanjjaaGreatDoor
open _root_.Go.Proofs.Tryz
open Go.RowKit
theorem setsE_1 (l:List Nat):setsE [l]=if famE l ≠ 0 then famE l else if emptyF l then 9 else 0:=by
 unfold setsE famsE famsE
 by_cases h:famE l=0 <;> simp [h]
theorem uni_all {l:List Nat} {n:Nat}:(l.all λ x => decide (x < 2 ^ n))=decide (uniN l < 2 ^ n):=by
 have key:∀ (l:List Nat) (a:Nat),(l.foldl (· ||| ·) a < 2 ^ n)↔(a < 2 ^ n/\∀ x∈l,x < 2 ^ n):=by
  intro l
  induction l with
  | nil => intro a; simp
  | cons x l ih =>
   intro a;rw [List.foldl_cons,ih]
   constructor
   ·rintro ⟨h1,h2⟩;exact ⟨Nat.lt_of_le_of_lt Nat.left_le_or h1,λ y hy => by
     rcases List.mem_cons.1 hy with rfl | hy
     ·exact Nat.lt_of_le_of_lt Nat.right_le_or h1
     ·exact h2 y hy⟩
   ·rintro ⟨h1,h2⟩;exact ⟨Nat.or_lt_two_pow h1 (h2 x (by simp)),λ y hy => h2 y (by simp [hy])⟩
 rw [Bool.eq_iff_iff,List.all_eq_true,decide_eq_true_iff];unfold uniN;rw [key];simp [Nat.two_pow_pos]
theorem bef_cnt {a b:Nat} (h:bef a b=true):cnt a<=cnt b:=by
 unfold bef at h;simp only [Bool.or_eq_true,decide_eq_true_eq,Bool.and_eq_true] at h;omega
theorem bef_ne {a b:Nat} (h:bef a b=true) (ha:a ≠ 0):b ≠ 0:=by
 intro e;subst e;have h0:cnt 0=0:=by decide
 unfold bef at h;simp only [Bool.or_eq_true,decide_eq_true_eq,Bool.and_eq_true] at h;omega
theorem cnt_low {x n:Nat} (hn:n<=12) (h:x < 2 ^ n):cnt x<=n:=by
 have h1:∀ n:Fin 13,(List.range 16).countP (λ i => decide (i < n.val))=n.val:=by decide
 have h2:=h1 ⟨n,by omega⟩;simp only at h2;unfold cnt;rw [<- h2];refine countP_le_of _ λ i _ hi => ?_
 rw [decide_eq_true_eq];refine Nat.lt_of_not_le λ hge => ?_
 rw [Nat.testBit_lt_two_pow (Nat.lt_of_lt_of_le h (Nat.pow_le_pow_right (by decide) hge))] at hi
 cases hi
theorem meet_of {l:List Nat} (h0:∀ x∈l,x ≠ 0) (h:∀ (i k a x:Nat),k < i->l[i]?=some a->l[k]?=some x->a &&& x ≠ 0):meetB l=true:=by
 unfold meetB;rw [List.all_eq_true];intro s hs;rw [Bool.not_eq_true',List.any_eq_false];intro t ht;rw [decide_eq_true_eq];obtain ⟨i,hi,rfl⟩:=List.getElem_of_mem hs;obtain ⟨k,hk,rfl⟩:=List.getElem_of_mem ht;rcases Nat.lt_trichotomy k i with h1 | h1 | h1
 ·exact h i k _ _ h1 (gE hi) (gE hk)
 ·subst h1;rw [Nat.and_self];exact h0 _ hs
 ·rw [Nat.and_comm];exact h k i _ _ h1 (gE hk) (gE hi)
theorem meet_not {l:List Nat} {a x:Nat} (ha:a∈l) (hx:x∈l) (h:a &&& x=0):meetB l=false:=by
 unfold meetB;rw [List.all_eq_false];refine ⟨a,ha,?_⟩;rw [Bool.not_eq_true,Bool.not_eq_false',List.any_eq_true];exact ⟨x,hx,decide_eq_true h⟩
theorem fam_first {l:List Nat} {x0:Nat} {r0:List Nat} (h:famE l=0) (hl:l=x0 :: r0) (h0:x0 ≠ 0):(∀ x∈l,x ≠ 0)/\∀ x∈l,cnt x0<=cnt x:=by
 subst hl;have h1:famE1 none (x0 :: r0)=0:=by
  unfold famE at h
  split at h
  ·cases h
  ·split at h
   ·next h2 => exact absurd h h2
   ·next h2 => simpa using h2
 obtain ⟨-,hp,-⟩:=famE1_pair _ _ h1;obtain ⟨hp,-⟩:=List.pairwise_cons.1 hp;refine ⟨λ x hx => ?_,λ x hx => ?_⟩
 ·rcases List.mem_cons.1 hx with rfl | hx
  ·exact h0
  ·exact bef_ne (hp x hx) h0
 ·rcases List.mem_cons.1 hx with rfl | hx
  ·exact nl
  ·exact bef_cnt (hp x hx)
theorem least_step {i n c c0 cs:Nat} (hc:c=if i=0 then n else c0) (h0:c0<=n) (h1:i=0->cs=c0) (h2:c0<=cs):(if cs < c then cs else c)=c0:=by
 by_cases hi:i=0
 ·rw [if_pos hi] at hc;have:=h1 hi
  split <;> omega
 ·rw [if_neg hi] at hc
  split <;> omega
theorem rBounds_ok (l:List Nat) (n:Int) (al:Option Addr) (cl:Nat) (w:World) (hl:l.length<=400) (hn1:-9223372036854775808<=n) (hn2:n<=9223372036854775807) (ul:SetU w al l) (h16:Hid (Sets16 l)) (hE:Env w) :
  Calls Tryz.prog 16 #[.slice al l.length cl,.int .i64 n] w λ e w' => BndP w' l n e/\BH w w':=by
 have hbw:=Below.refl w.heap.size w;obtain ⟨E,hE1⟩:∃ E,famE l=E:=⟨_,rfl⟩;have HE1:=hii hE1;clear hE1;go_enter func16,ntmps16;go_upto_region 1 with fail;obtain ⟨wx,hwx,r4,r5,hb⟩:=two_rows w 32 32 [.bool false,.slice none 0 0,.bool false,.slice none 0 0] [.bool false,.slice none 0 0,.bool false,.slice none 0 0];simp only [List.toArray] at hwx;rw [<- hwx];clear hwx;obtain ⟨wA,rfl⟩:=exi wx;obtain ⟨g5,hg5⟩:=exi (w.heap.size + 1);have Hg5:Hid (w.heap.size<=g5):=hii (by omega);rw [<- hg5] at r5 |-;have Hgx:=hii hg5;clear hg5;obtain ⟨g4,hg4⟩:=exi (w.heap.size);have Hg4:Hid (w.heap.size<=g4):=hii (by omega);rw [<- hg4] at r4 |-;have Hne:Hid (g5 ≠ g4):=hii (by have:=Hgx.out; omega);clear hg4 Hgx;have ul:=ul.mono hb;have hE:=hE.mono hb;have hbw:=bu hbw hb;clear hb;have HV:=rFamValid_ok l al cl wA hl ul h16;rw [HE1.out] at HV;go_wp2_with fail;(with_reducible refine HV.mono ?_);rintro e wB ⟨rfl,hb⟩;have ul:=ul.mono hb;have hE:=hE.mono hb;have r4:=r4.below hb;have r5:=r5.below hb;have hbw:=bu hbw hb;clear hb;clear HV
 by_cases hE0:E=0
 case neg =>
  have hEn:((E:Int) != 0)=true:=by simp; omega
  have HBE:Hid (bndE l n=E):=hii (by unfold bndE; rw [setsE_1,HE1.out]; simp [hE0]);have HEn:Hid (E ≠ 0):=hii hE0;clear hE0;obtain ⟨⟨p0,p1,p2,p3⟩,q0,⟨⟨v0,v1,v2,v3⟩,q4⟩,R9,R5⟩:=errF r4 r5 Hne.out;have hne1:=Hne.out;have hne2:=Ne.symm Hne.out;have HB9:=hii hbw;go_wp2;obtain ⟨e0,e1,e2,e3⟩:=Row.n4 R9.out;obtain ⟨f0,f1,f2,f3⟩:=Row.n4 R5.out;refine bodyPost_ret (v:=.tuple #[.agg #[.bool false,.slice none 0 0,.bool false,.slice none 0 0],.agg #[.bool false,.slice none 0 0,.bool false,.slice none 0 0],.int .i64 ((E:Nat))]) (by simp [results,Tryz.results16,go_sem,e0,e1,e2,e3,f0,f1,f2,f3]) rfl ⟨.inl ⟨by rw [HBE.out]; exact HEn.out,by rw [HBE.out]⟩,?_⟩;exact HB9.out.trans ((two_k.trans two_k').below (λ b e => by rcases e with rfl | rfl <;> first | exact Hg4.out | exact Hg5.out) HB9.out.size)
 subst hE0;have HQ:=rQuorums_ok l al cl wB (by omega) ul
 cases hem:emptyF l with
 | true =>
  rw [hem] at HQ;have HQ:Calls Tryz.prog 43 #[.slice al l.length cl] wB λ e w' => e=.returned (.int .i64 9)/\BH wB w':=HQ
  have HBE:Hid (bndE l n=9):=hii (by unfold bndE; rw [setsE_1,HE1.out,hem]; simp);clear hem;go_wp2_with fail;(with_reducible refine HQ.mono ?_);rintro e wC ⟨rfl,hb⟩;have r4:=r4.below hb;have r5:=r5.below hb;have hbw:=bu hbw hb;clear hb;clear HQ;obtain ⟨⟨p0,p1,p2,p3⟩,q0,⟨⟨v0,v1,v2,v3⟩,q4⟩,R9,R5⟩:=errF r4 r5 Hne.out;have hne1:=Hne.out;have hne2:=Ne.symm Hne.out;have HB9:=hii hbw;go_wp2;obtain ⟨e0,e1,e2,e3⟩:=Row.n4 R9.out;obtain ⟨f0,f1,f2,f3⟩:=Row.n4 R5.out;refine bodyPost_ret (v:=.tuple #[.agg #[.bool false,.slice none 0 0,.bool false,.slice none 0 0],.agg #[.bool false,.slice none 0 0,.bool false,.slice none 0 0],.int .i64 (9)]) (by simp [results,Tryz.results16,go_sem,e0,e1,e2,e3,f0,f1,f2,f3]) rfl ⟨.inl ⟨by rw [HBE.out]; decide,by rw [HBE.out]; rfl⟩,?_⟩;exact HB9.out.trans ((two_k.trans two_k').below (λ b e => by rcases e with rfl | rfl <;> first | exact Hg4.out | exact Hg5.out) HB9.out.size)
 | false =>
 rw [hem] at HQ;have HQ:Calls Tryz.prog 43 #[.slice al l.length cl] wB λ e w' => e=.returned (.int .i64 0)/\BH wB w':=HQ
 have HB:Hid (bndE l n=if n < 1\/12 < n\/2 ^ n.toNat<=uniN l then 7 else if meetB l=true then 0 else 12):=hii (by unfold bndE; rw [setsE_1,HE1.out,hem]; simp);obtain ⟨x0,r0,hlx,hx0⟩:∃ x r,l=x :: r/\x ≠ 0:=by
  cases l with
  | nil => simp [emptyF] at hem
  | cons x r => exact ⟨x,r,rfl,by simpa [emptyF] using hem⟩
 obtain ⟨hN0,hMn⟩:=fam_first HE1.out hlx hx0;have HN0:=hii hN0;have HMn:=hii hMn;have Hlx:=hii hlx;have Hx0:=hii hx0;clear hlx hx0 hem hN0 hMn;go_wp2_with fail;(with_reducible refine HQ.mono ?_);rintro e wC ⟨rfl,hb⟩;have ul:=ul.mono hb;have hE:=hE.mono hb;have r4:=r4.below hb;have r5:=r5.below hb;have hbw:=bu hbw hb;clear hb;clear HQ
 by_cases hn1':n < 1
 ·have HBE:Hid (bndE l n=7):=hii (by rw [HB.out,if_pos (.inl hn1')]);have hd:decide (n < 1)=true:=decide_eq_true hn1';clear HB;obtain ⟨⟨p0,p1,p2,p3⟩,q0,⟨⟨v0,v1,v2,v3⟩,q4⟩,R9,R5⟩:=errF r4 r5 Hne.out;have hne1:=Hne.out;have hne2:=Ne.symm Hne.out;have HB9:=hii hbw;go_wp2;obtain ⟨e0,e1,e2,e3⟩:=Row.n4 R9.out;obtain ⟨f0,f1,f2,f3⟩:=Row.n4 R5.out;refine bodyPost_ret (v:=.tuple #[.agg #[.bool false,.slice none 0 0,.bool false,.slice none 0 0],.agg #[.bool false,.slice none 0 0,.bool false,.slice none 0 0],.int .i64 (7)]) (by simp [results,Tryz.results16,go_sem,e0,e1,e2,e3,f0,f1,f2,f3]) rfl ⟨.inl ⟨by rw [HBE.out]; decide,by rw [HBE.out]; rfl⟩,?_⟩;exact HB9.out.trans ((two_k.trans two_k').below (λ b e => by rcases e with rfl | rfl <;> first | exact Hg4.out | exact Hg5.out) HB9.out.size)
 have hd1:decide (n < 1)=false:=decide_eq_false hn1'
 by_cases hn12:12 < n
 ·have HBE:Hid (bndE l n=7):=hii (by rw [HB.out,if_pos (.inr (.inl hn12))]);have hd:decide (12 < n)=true:=decide_eq_true hn12;clear HB;obtain ⟨⟨p0,p1,p2,p3⟩,q0,⟨⟨v0,v1,v2,v3⟩,q4⟩,R9,R5⟩:=errF r4 r5 Hne.out;have hne1:=Hne.out;have hne2:=Ne.symm Hne.out;have HB9:=hii hbw;go_wp2;obtain ⟨e0,e1,e2,e3⟩:=Row.n4 R9.out;obtain ⟨f0,f1,f2,f3⟩:=Row.n4 R5.out;refine bodyPost_ret (v:=.tuple #[.agg #[.bool false,.slice none 0 0,.bool false,.slice none 0 0],.agg #[.bool false,.slice none 0 0,.bool false,.slice none 0 0],.int .i64 (7)]) (by simp [results,Tryz.results16,go_sem,e0,e1,e2,e3,f0,f1,f2,f3]) rfl ⟨.inl ⟨by rw [HBE.out]; decide,by rw [HBE.out]; rfl⟩,?_⟩;exact HB9.out.trans ((two_k.trans two_k').below (λ b e => by rcases e with rfl | rfl <;> first | exact Hg4.out | exact Hg5.out) HB9.out.size)
 have hd2:decide (12 < n)=false:=decide_eq_false hn12;obtain ⟨n,rfl⟩:∃ k:Nat,n=(k:Int):=⟨n.toNat,by omega⟩;rw [Int.toNat_natCast] at HB;have hk1:1<=n/\n<=12:=by omega
 have hk12:n<=12:=hk1.2;clear hn1 hn2;have HBw:=rbelow_ok l n al cl wC (by omega) hk1.1 hk12 ul;rw [uni_all] at HBw;obtain ⟨z,hz⟩:∃ z,decide (uniN l < 2 ^ n)=z:=⟨_,rfl⟩;rw [hz] at HBw;have HZ:=hii hz;clear hz;go_wp2_with fail;(with_reducible refine HBw.mono ?_);rintro e wD ⟨rfl,hb⟩;have ul:=ul.mono hb;have hE:=hE.mono hb;have r4:=r4.below hb;have r5:=r5.below hb;have hbw:=bu hbw hb;clear hb;clear HBw
 cases z with
 | false =>
  have HBE:Hid (bndE l n=7):=hii (by rw [HB.out,if_pos (.inr (.inr (by have:=of_decide_eq_false HZ.out; omega)))]);clear HB HZ;obtain ⟨⟨p0,p1,p2,p3⟩,q0,⟨⟨v0,v1,v2,v3⟩,q4⟩,R9,R5⟩:=errF r4 r5 Hne.out;have hne1:=Hne.out;have hne2:=Ne.symm Hne.out;have HB9:=hii hbw;go_wp2;obtain ⟨e0,e1,e2,e3⟩:=Row.n4 R9.out;obtain ⟨f0,f1,f2,f3⟩:=Row.n4 R5.out;refine bodyPost_ret (v:=.tuple #[.agg #[.bool false,.slice none 0 0,.bool false,.slice none 0 0],.agg #[.bool false,.slice none 0 0,.bool false,.slice none 0 0],.int .i64 (7)]) (by simp [results,Tryz.results16,go_sem,e0,e1,e2,e3,f0,f1,f2,f3]) rfl ⟨.inl ⟨by rw [HBE.out]; decide,by rw [HBE.out]; rfl⟩,?_⟩;exact HB9.out.trans ((two_k.trans two_k').below (λ b e => by rcases e with rfl | rfl <;> first | exact Hg4.out | exact Hg5.out) HB9.out.size)
 | true =>
 have HB:Hid (bndE l n=if meetB l=true then 0 else 12):=hii (by have:=of_decide_eq_true HZ.out; rw [HB.out,if_neg (by omega)]);have hx16:=h16.out x0 (by rw [Hlx.out]; simp);have Hgd:Hid (l.getD 0 0=x0):=hii (by rw [Hlx.out]; rfl);have hcn:=cnt_pos hx16 Hx0.out;have hcl16:=cnt_le x0;have hlow:uniN l < 2 ^ n:=of_decide_eq_true HZ.out;have hcn12:cnt x0<=n:=cnt_low hk12 (by
  have h:(l.all λ x => decide (x < 2 ^ n))=true:=by rw [uni_all]; exact HZ.out
  have:=List.all_eq_true.1 h x0 (by rw [Hlx.out]; simp);exact of_decide_eq_true this)
 obtain ⟨c0,hcc⟩:∃ c,cnt x0=c:=⟨_,rfl⟩;have Hcc:=hii hcc;rw [hcc] at hcn hcl16 hcn12 HMn;clear hcc hx16 hlow HZ hn1' hn12;obtain ⟨N,hN⟩:∃ N,l.length=N:=⟨_,rfl⟩;have HN:=hii hN;have hNl:N<=400:=by rw [<- hN]; exact hl
 rw [hN];clear hN;have hbr:=Below.refl wD.heap.size wD;go_wp2_with fail;go_loopw [9,10] (λ v s wr => ∃ i c:Nat,i<=N/\s=.int .i64 i/\v=.int .i64 (c:Nat)/\c<=16/\Hid (c=if i=0 then n else c0)/\Hid (∀ (i' k a x:Nat),i' < i->k < i'->l[i']?=some a->l[k]?=some x->a &&& x ≠ 0)/\Hid (BH wD wr)) (λ _ s _ => N - (intOf s).toNat)
 case atStart => exact ⟨0,n,Nat.zero_le _,rfl,rfl,by omega,hii rfl,hii (λ i' k a x h => absurd h (Nat.not_lt_zero _)),hii hbr⟩
 case round =>
  clear hbr;obtain ⟨i,c,hi,rfl,rfl,hc16,HC,HI,Hbr⟩:=hrel
  by_cases hli:i < N
  ·obtain ⟨a,ha⟩:∃ x,l[i]?=some x:=⟨l[i]'(by rw [HN.out]; exact hli),gE _⟩;have ha16:=h16.out a (List.mem_of_getElem? ha);have ulr:=ul.mono Hbr.out;obtain ⟨b1,off1,ea,hc⟩:=ulr i a ha;have HM:Hid (a∈l):=hii (List.mem_of_getElem? ha);have Ha:=hii ha;have hin:(i:Int) < (N:Int):=by omega
   have HCt:=rCount_ok a wr ha16;have hcs2:=HMn.out a HM.out;have hcs1:i=0->cnt a=c0:=λ e => by
    subst e;have:=ha.symm.trans (show l[0]?=some x0 by rw [Hlx.out]; rfl);simp only [Option.some.injEq] at this;rw [this,Hcc.out]
   obtain ⟨cs,hcs⟩:∃ c,cnt a=c:=⟨_,rfl⟩;rw [hcs] at HCt hcs1 hcs2;have hm1:=least_step HC.out hcn12 hcs1 hcs2;have hm2:(if (cs:Int) < (c:Int) then (cs:Int) else (c:Int))=(c0:Int):=by rw [<- hm1]; split <;> split <;> omega
   have hm3:(if cs < c then (cs:Int) else (c:Int))=(c0:Int):=by rw [<- hm1]; split <;> rfl
   have hm4:min (c:Int) (cs:Int)=(c0:Int):=by rw [<- hm2]; split <;> omega
   have hm5:min c cs=c0:=by rw [<- hm1]; split <;> omega
   clear ha hcs hcs1 hcs2 HC;subst ea;go_wp2_with fail;(with_reducible refine HCt.mono ?_);rintro e wc ⟨rfl,hb⟩;have hc:=(hb.cell (cell_lt hc)).trans hc;have Hbr:=hii (Below.step Hbr.out hb nl);clear hb HCt;go_wp2_with fail;clear hm1 hm2 hm3 hm4 hm5;go_loopw [11] (λ s wr => ∃ k:Nat,k<=i/\s=.int .i64 k/\Hid (∀ (k' x:Nat),k' < k->l[k']?=some x->a &&& x ≠ 0)/\Hid (BH wD wr)) (λ s _ => i - (intOf s).toNat)
   case atStart => exact ⟨0,Nat.zero_le _,rfl,hii (λ k x h => absurd h (Nat.not_lt_zero _)),Hbr⟩
   case round =>
    obtain ⟨k,hk,rfl,HK2,Hbk⟩:=hrel
    by_cases hki:k < i
    ·obtain ⟨x,hx⟩:∃ x,l[k]?=some x:=⟨l[k]'(by rw [HN.out]; omega),gE _⟩;have ulk:=ul.mono Hbk.out;obtain ⟨b2,off2,ea2,hc2⟩:=ulk k x hx;obtain ⟨b3,off3,ea3,hc⟩:=ulk i a Ha.out
     cases ea2
     cases ea3
     have hkN:(k:Int) < (N:Int):=by omega
     have hkii:(k:Int) < (i:Int):=by omega
     have e1:=and16 a x ha16;obtain ⟨z,hz⟩:∃ z,decide (a &&& x=0)=z:=⟨_,rfl⟩;have e2:(((a &&& x:Nat):Int) == 0)=z:=by rw [<- hz,Bool.eq_iff_iff,beq_iff_eq,decide_eq_true_iff]; omega
     have HZ:=hii hz;have Hx:=hii hx;have HMx:Hid (x∈l):=hii (List.mem_of_getElem? hx);clear hz hx ulk;go_upto_region 17 with fail;refine wp_region_vals (wx:=wr) [vf (.slice (some ⟨b1,off1,none⟩) N cl),vf (.int .i64 i),vf (.pointer (some ⟨b1,off1 + i,none⟩)),vf (.int .u16 (a:Nat)),vf (.slice (some ⟨b1,off1,none⟩) N cl),vf (.int .i64 k),vf (.pointer (some ⟨b1,off1 + k,none⟩)),vf (.int .u16 (x:Nat)),vf (.int .u16 (a &&& x:Nat)),vf (.bool z)] [63,64,65,66,67,68,69,70,71,72] (by kernel_rfl) (by kernel_rfl) (by kernel_rfl) (of_decide_eq_true (by kernel_rfl)) br ⟨sV _,sV _,sV _,sV _,sV _,sV _,sV _,sV _,sV _,sV _,trivial⟩ ⟨?s0,?s1,?s2,?s3,?s4,?s5,?s6,?s7,?s8,?s9,trivial⟩ ?he
     case' s0 | s1 | s2 | s3 | s4 | s5 | s6 | s7 | s8 | s9 =>
      rintro T W hb hA K hK
     case' s0 | s1 | s4 | s5 =>
      simp only [sA] at hK |-
     case' s2 =>
      have e0:T 63=_:=hA.1;have e1:T 64=_:=hA.2.1;simp only [sA,e0,e1] at hK |-
     case' s6 =>
      have e4:T 67=_:=hA.1;have e5:T 68=_:=hA.2.1;simp only [sA,e4,e5] at hK |-
     case' s8 =>
      have e3:T 66=_:=hA.1;have e7:T 70=_:=hA.2.1;simp only [sA,e3,e7] at hK |-
     case' s9 =>
      have e8:T 71=_:=hA.1;simp only [sA,e8] at hK |-
     case' s3 =>
      have e2:T 65=_:=hA.1;simp only [sA,e2] at hK |-;have HK:=hii hK;clear hK hA;have h0:=(hb.cell (cell_lt hc)).trans hc
     case' s7 =>
      have e6:T 69=_:=hA.1;simp only [sA,e6] at hK |-;have HK:=hii hK;clear hK hA;have h0:=(hb.cell (cell_lt hc2)).trans hc2
     case s0 | s1 | s2 | s4 | s5 | s6 | s8 | s9 =>
      have HK:=hii hK;clear hK hA;refine wO rfl (by rfl) ?_;go_simp;exact HK.out _ _ br (rfl)
     case s3 | s7 =>
      refine wO rfl (by rfl) ?_;go_simp;exact HK.out _ _ br (rfl)
     case he =>
      rintro T W hb hA;have f9:T 72=.bool z:=hA.at 9 (by decide);simp only [sA,f9];have Hbk:=hii (Below.step Hbk.out hb nl);clear hA f9 hb hc hc2 e1 e2
      cases z with
      | true =>
       have HBE:Hid (bndE l n=12):=hii (by rw [HB.out,meet_not HM.out HMx.out (of_decide_eq_true HZ.out)]; rfl);have r4:=r4.below Hbk.out;have r5:=r5.below Hbk.out;have hbw:=Below.step hbw Hbk.out nl;clear HB HI HK2 HMn HN0;obtain ⟨⟨p0,p1,p2,p3⟩,q0,⟨⟨v0,v1,v2,v3⟩,q4⟩,R9,R5⟩:=errF r4 r5 Hne.out;have hne1:=Hne.out;have hne2:=Ne.symm Hne.out;have HB9:=hii hbw;go_wp2;obtain ⟨e0,e1,e2,e3⟩:=Row.n4 R9.out;obtain ⟨f0,f1,f2,f3⟩:=Row.n4 R5.out;refine bodyPost_ret (v:=.tuple #[.agg #[.bool false,.slice none 0 0,.bool false,.slice none 0 0],.agg #[.bool false,.slice none 0 0,.bool false,.slice none 0 0],.int .i64 (12)]) (by simp [results,Tryz.results16,go_sem,e0,e1,e2,e3,f0,f1,f2,f3]) rfl ⟨.inl ⟨by rw [HBE.out]; decide,by rw [HBE.out]; rfl⟩,?_⟩;exact HB9.out.trans ((two_k.trans two_k').below (λ b e => by rcases e with rfl | rfl <;> first | exact Hg4.out | exact Hg5.out) HB9.out.size)
      | false =>
       have HK3:Hid (∀ (k' y:Nat),k' < k + 1->l[k']?=some y->a &&& y ≠ 0):=hii λ k' y h hy => by
        by_cases e:k'=k
        ·subst e;have:=Hx.out.symm.trans hy;simp only [Option.some.injEq] at this;rw [<- this]; exact of_decide_eq_false HZ.out
        ·exact HK2.out k' y (by omega) hy
       clear HK2;go_wp2;go_roundw
       case rel => exact ⟨k + 1,by omega,by go_num,HK3,Hbk⟩
       case measure => simp [intOf]; omega
    ·obtain rfl:k=i:=by omega
     have HI3:Hid (∀ (i' j y x:Nat),i' < k + 1->j < i'->l[i']?=some y->l[j]?=some x->y &&& x ≠ 0):=hii λ i' j y x h hj hy hx => by
      by_cases e:i'=k
      ·subst e;have:=Ha.out.symm.trans hy;simp only [Option.some.injEq] at this;rw [<- this]; exact HK2.out j x hj hx
      ·exact HI.out i' j y x (by omega) hj hy hx
     clear HI HK2;go_wp2;go_roundw
     case rel => exact ⟨k + 1,c0,by omega,by go_num,rfl,by omega,hii (by simp),HI3,Hbk⟩
     case measure => simp [intOf]; omega
  ·obtain rfl:i=N:=by omega
   have hN1:i ≠ 0:=by rw [<- HN.out,Hlx.out]; simp
   have hcc:c=c0:=by rw [HC.out,if_neg hN1]
   subst hcc;have HBE:Hid (bndE l n=0):=hii (by
    rw [HB.out,if_pos];exact meet_of HN0.out λ i' k a x hk ha hx => HI.out i' k a x (by rw [<- HN.out]; exact (List.getElem?_eq_some_iff.1 ha).1) hk ha hx)
   have hEr:=hE.mono Hbr.out;have r4:=r4.below Hbr.out;have r5:=r5.below Hbr.out;have hbw:=Below.step hbw Hbr.out nl;clear HB HI HC HN0 HMn hN1;go_wp2_with fail;(with_reducible refine (rOf_ok 1 (c:Nat) wr (by decide) (by decide) (by omega) (by omega) (hii (by omega)) hEr).mono ?_);rintro e wd ⟨hz,hb⟩;obtain ⟨J1,ao1,n1,Y1,K1,ap1,m1,Z1,rfl,hv1⟩:=hz.rat;have hE2:=hEr.mono hb;have r4:=r4.below hb;have r5:=r5.below hb;have hbw:=bu hbw hb;clear hb;clear hz;go_upto_region 20 with fail;obtain ⟨we,g11,hw9,hg9,hb,r11⟩:=bxr wd [.bool J1,.slice ao1 n1 Y1,.bool K1,.slice ap1 m1 Z1] 32;rw [<- hw9,<- hg9];have Hg11:Hid (g4 < g11/\g5 < g11):=hii (by have:=r4.lt; have:=r5.lt; omega);clear hw9 hg9;have hv1:=hv1.mono hb;have hE2:=hE2.mono hb;have r4:=r4.below hb;have r5:=r5.below hb;have hbw:=bu hbw hb;clear hb;go_wp2_with fail;(with_reducible refine (rOf_ok (c:Nat) (n:Nat) we (by omega) (by omega) (by omega) (by omega) (hii (by omega)) hE2).mono ?_);rintro e wf ⟨hz,hb⟩;obtain ⟨J2,ao2,n2,Y2,K2,ap2,m2,Z2,rfl,hv2⟩:=hz.rat;have hv1:=hv1.mono hb;have r4:=r4.below hb;have r5:=r5.below hb;have r11:=r11.below hb;have hbw:=bu hbw hb;clear hb;clear hz hE2 hEr;go_upto_region 21 with fail;obtain ⟨wh,g13,hw9,hg9,hb,r13⟩:=bxr wf [.bool J2,.slice ao2 n2 Y2,.bool K2,.slice ap2 m2 Z2] 32;rw [<- hw9,<- hg9];have Hg13:Hid (g4 < g13/\g5 < g13):=hii (by have:=r4.lt; have:=r5.lt; omega);clear hw9 hg9;have hv1:=hv1.mono hb;have hv2:=hv2.mono hb;have r4:=r4.below hb;have r5:=r5.below hb;have r11:=r11.below hb;have hbw:=bu hbw hb;clear hb;obtain ⟨wi,rfl⟩:=exi wh;have H11:Hid (¬ (λ b => b=g4\/b=g5) g11):=hii (λ h => by have:=Hg11.out; rcases h with h | h <;> omega);have H13:Hid (¬ (λ b => b=g4\/b=g5) g13):=hii (λ h => by have:=Hg13.out; rcases h with h | h <;> omega);have Hn:Hid (NoU (λ b => b=g4\/b=g5) wi):=hii (λ b hb => hb.elim (λ e => r4.noU noI4' b e) (λ e => r5.noU noI4' b e));refine wp_region_seqk (G:=(λ b => b=g4\/b=g5)) (wx:=wi) [vf (.agg #[.bool J1,.slice ao1 n1 Y1,.bool K1,.slice ap1 m1 Z1]),vf (.agg #[.bool J2,.slice ao2 n2 Y2,.bool K2,.slice ap2 m2 Z2]),(λ _ _ => True),(λ _ _ => True),vf (.int .i64 0)] [some 86,some 87,none,none,some 6] [86,87,6] [2,3] [[0],[0,1],[0],[1],[2]] [none,none,none,none,none] (λ p T W => match p with | 0 => Row W g4 32 [.bool false,.slice none 0 0,.bool false,.slice none 0 0]/\Row W g5 32 [.bool false,.slice none 0 0,.bool false,.slice none 0 0] | 1 => Row W g4 32 [.bool J1,.slice ao1 n1 Y1,.bool K1,.slice ap1 m1 Z1]/\Row W g5 32 [.bool false,.slice none 0 0,.bool false,.slice none 0 0] | _ + 2 => Row W g4 32 [.bool J1,.slice ao1 n1 Y1,.bool K1,.slice ap1 m1 Z1]/\Row W g5 32 [.bool J2,.slice ao2 n2 Y2,.bool K2,.slice ap2 m2 Z2]) (by kernel_rfl) (by kernel_rfl) (by kernel_rfl) (by kernel_rfl) (of_decide_eq_true (by kernel_rfl)) (of_decide_eq_true (by kernel_rfl)) (by kernel_rfl) (by kernel_rfl) (λ T => ⟨r4.below br.drew,r5.below br.drew⟩) (λ p T W W' h hb => match p,h with | 0,h => ⟨h.1.below hb,h.2.below hb⟩ | 1,h => ⟨h.1.below hb,h.2.below hb⟩ | _ + 2,h => ⟨h.1.below hb,h.2.below hb⟩) (λ p T T' W hT h => match p,hT,h with | 0,_,h => h | 1,_,h => h | _ + 2,_,h => h) (Kept.refl _) ⟨stayK_val _ _,stayK_val _ _,(λ _ _ _ h _ => h),(λ _ _ _ h _ => h),stayK_val _ _,trivial⟩ ⟨?s0,?s1,?s2,?s3,?s4,trivial⟩ ?he
   case' s0 | s1 | s2 | s3 | s4 =>
    rintro T W p hb hp hS hA K hK
   case' s0 =>
    clear hS;obtain ⟨k0,k1,k2,k3⟩:=(r11.mono hb H11.out).n4;simp only [sA] at hK |-
   case' s1 =>
    clear hS;obtain ⟨k0,k1,k2,k3⟩:=(r13.mono hb H13.out).n4;simp only [sA] at hK |-
   case' s4 =>
    clear hS;simp only [sA] at hK |-
   case s0 | s1 | s4 =>
    have HK:=hii hK;clear hK hA;refine wO rfl (by rfl) ?_;go_simp;exact HK.out _ _ ⟨λ _ => br,λ h => absurd h (seq_ne (by decide) (by decide))⟩ (rfl)
   case s2 =>
    obtain rfl:p=0:=by simpa using hp
    have hS:Row W g4 32 [.bool false,.slice none 0 0,.bool false,.slice none 0 0]/\Row W g5 32 [.bool false,.slice none 0 0,.bool false,.slice none 0 0]:=hS;have e0:T 86=_:=hA.1 rfl;obtain ⟨p0,p1,p2,p3⟩:=Row.n4 hS.1;have q0:=Row.free hS.1;simp only [sA,e0] at hK |-;have HK:=hii hK;clear hK hA;refine wO rfl (by rfl) ?_;go_simp;exact HK.out undef _ ⟨λ h => absurd rfl h,λ _ => ⟨⟨row_put4 hS.1 _ _ _ _,row_oth4 hS.2 Hne.out _ _ _ _⟩,two_k⟩⟩ (trivial)
   case s3 =>
    obtain rfl:p=1:=by simpa using hp
    have hS:Row W g4 32 [.bool J1,.slice ao1 n1 Y1,.bool K1,.slice ap1 m1 Z1]/\Row W g5 32 [.bool false,.slice none 0 0,.bool false,.slice none 0 0]:=hS;have e1:T 87=_:=hA.1 rfl;obtain ⟨p0,p1,p2,p3⟩:=Row.n4 hS.2;have q0:=Row.free hS.2;simp only [sA,e1] at hK |-;have HK:=hii hK;clear hK hA;refine wO rfl (by rfl) ?_;go_simp;exact HK.out undef _ ⟨λ h => absurd rfl h,λ _ => ⟨⟨row_oth4 hS.1 (Ne.symm Hne.out) _ _ _ _,row_put4 hS.2 _ _ _ _⟩,two_k'⟩⟩ (trivial)
   case he =>
    rintro T W hb hS hA;have hS:Row W g4 32 [.bool J1,.slice ao1 n1 Y1,.bool K1,.slice ap1 m1 Z1]/\Row W g5 32 [.bool J2,.slice ao2 n2 Y2,.bool K2,.slice ap2 m2 Z2]:=hS;have f4:T 6=.int .i64 0:=hA.at 4 (by decide) rfl;simp only [sA,f4];obtain ⟨R4,R5⟩:=hS;have HV1:=hii (hv1.keptU hb Hn.out);have HV2:=hii (hv2.keptU hb Hn.out);have Hbw:=hii (hbw.trans (hb.below (λ b e => by rcases e with rfl | rfl <;> first | exact Hg4.out | exact Hg5.out) hbw.size));clear hA f4 hb;obtain ⟨e0,e1,e2,e3⟩:=Row.n4 R4;obtain ⟨f0,f1,f2,f3⟩:=Row.n4 R5;go_wp2;refine bodyPost_ret (v:=.tuple #[.agg #[.bool J1,.slice ao1 n1 Y1,.bool K1,.slice ap1 m1 Z1],.agg #[.bool J2,.slice ao2 n2 Y2,.bool K2,.slice ap2 m2 Z2],.int .i64 0]) (by simp [results,Tryz.results16,go_sem,e0,e1,e2,e3,f0,f1,f2,f3]) rfl ⟨.inr ⟨HBE.out,_,_,_,_,_,_,_,_,_,_,_,_,_,_,_,_,rfl,?_,?_⟩,Hbw.out⟩
    ·rw [Hgd.out,Hcc.out]; exact HV1.out
    ·rw [Hgd.out,Hcc.out]; exact HV2.out
def r1B (l:List Nat):Rat:=Rat.divInt 1 (cnt (l.getD 0 0):Nat)
def r2B (l:List Nat) (n:Int):Rat:=Rat.divInt (cnt (l.getD 0 0):Nat) n
def pB (l:List Nat) (n:Int) (r:Rat):Int:=if bndE l n=0 then r.num else 0
def dB (l:List Nat) (n:Int) (r:Rat):Int:=if bndE l n=0 then (r.den:Int) else 0
theorem BndP.uni {w':World} {l:List Nat} {n:Int} {e:Ending} (h:BndP w' l n e):∃ J1 ao1 n1 Y1 K1 ap1 m1 Z1 J2 ao2 n2 Y2 K2 ap2 m2 Z2,e=.returned (.tuple #[.agg #[.bool J1,.slice ao1 n1 Y1,.bool K1,.slice ap1 m1 Z1],.agg #[.bool J2,.slice ao2 n2 Y2,.bool K2,.slice ap2 m2 Z2],.int .i64 (bndE l n:Nat)]) /\
  (IntV w' (.agg #[.bool J1,.slice ao1 n1 Y1]) (pB l n (r1B l))/\IntV w' (.agg #[.bool K1,.slice ap1 m1 Z1]) (dB l n (r1B l)))/\IntV w' (.agg #[.bool J2,.slice ao2 n2 Y2]) (pB l n (r2B l n))/\IntV w' (.agg #[.bool K2,.slice ap2 m2 Z2]) (dB l n (r2B l n)):=by
 rcases h with ⟨h0,rfl⟩ | ⟨h0,J1,ao1,n1,Y1,K1,ap1,m1,Z1,J2,ao2,n2,Y2,K2,ap2,m2,Z2,rfl,h1,h2⟩
 ·refine ⟨_,_,_,_,_,_,_,_,_,_,_,_,_,_,_,_,rfl,?_⟩;unfold pB dB;simp only [if_neg h0];exact ⟨⟨IntV.zero _,IntV.zero _⟩,IntV.zero _,IntV.zero _⟩
 ·refine ⟨_,_,_,_,_,_,_,_,_,_,_,_,_,_,_,_,by rw [h0]; rfl,?_⟩;unfold pB dB;simp only [if_pos h0];obtain ⟨_,_,_,_,_,_,_,_,e1,a1,a2⟩:=h1;obtain ⟨_,_,_,_,_,_,_,_,e2,b1,b2⟩:=h2
  cases e1
  cases e2
  exact ⟨⟨a1,a2⟩,b1,b2⟩
theorem loadBounds_law (l:List Nat) (n:Int) (al:Option Addr) (cl:Nat) (w:World) (hl:l.length<=9223372036854775807) (hn1:-9223372036854775808<=n) (hn2:n<=9223372036854775807) (ul:SetU w al l) (h16:Hid (Sets16 l)) (hE:Env w) :
  Calls Tryz.prog 4 #[.slice al l.length cl,.int .i64 n] w λ e w' => e=.returned (.bool true)/\BH w w':=by
 have hbw:=Below.refl w.heap.size w;go_enter func4,ntmps4;go_wp2_with fail;(with_reducible refine (awake15_ok w hE).mono ?_);rintro e w1 ⟨rfl,hb⟩;have ul:=ul.mono hb;have hE:=hE.mono hb;have hbw:=bu hbw hb;clear hb
 by_cases h60:60 < l.length
 ·have hd:decide ((60:Int) < (l.length:Int))=true:=decide_eq_true (by omega);have hd2:(60:Int) < (l.length:Int):=by omega
  go_wp2_with fail;(with_reducible refine (awake15_ok w1 hE).mono ?_);rintro e w2 ⟨rfl,hb⟩;have hbw:=bu hbw hb;clear hb;go_wp2;go_ret;exact ⟨rfl,hbw⟩
 have hd2:¬ (60:Int) < (l.length:Int):=by omega
 have hl6:l.length<=60:=by omega
 clear h60 hl;have HCl:=cloneS_ok l al cl w1 (by omega) ul;go_wp2_with fail;(with_reducible refine HCl.mono ?_);rintro e w2 ⟨⟨a2,c2,rfl,hc2,u2⟩,hb⟩;have ul:=ul.mono hb;have hE:=hE.mono hb;have hbw:=bu hbw hb;clear hb;clear HCl;have HB:=Bounds_ok l n a2 c2 w2 (by omega) hc2 hn1 hn2 u2 h16 hE;go_wp2_with fail;(with_reducible refine HB.mono ?_);rintro e w3 ⟨hBP,hb⟩;have ul:=ul.mono hb;have hE:=hE.mono hb;have hbw:=bu hbw hb;clear hb;clear HB u2 hc2;obtain ⟨J1,ao1,n1,Y1,K1,ap1,m1,Z1,J2,ao2,n2,Y2,K2,ap2,m2,Z2,rfl,⟨hp1,hd1⟩,hp2,hq2⟩:=hBP.uni;have HR:=λ W h1 h2 => rBounds_ok l n al cl W (by omega) hn1 hn2 h1 h16 h2
 have HU:=λ W e (h:BndP W l n e) => BndP.uni h
 clear hBP;generalize pB l n (r1B l)=P1 at *;generalize dB l n (r1B l)=D1 at *;generalize pB l n (r2B l n)=P2 at *;generalize dB l n (r2B l n)=D2 at *;have HU:=hii HU;have HR:=hii HR;go_upto_region 4 with fail;obtain ⟨wx,hwx,r5,r6,hb⟩:=two_rows w3 32 32 [.bool J1,.slice ao1 n1 Y1,.bool K1,.slice ap1 m1 Z1] [.bool J2,.slice ao2 n2 Y2,.bool K2,.slice ap2 m2 Z2];simp only [List.toArray] at hwx;rw [<- hwx];clear hwx;obtain ⟨wA,rfl⟩:=exi wx;obtain ⟨g6,hgb⟩:∃ g,g=w3.heap.size + 1:=⟨_,rfl⟩;rw [<- hgb] at r6 |-;clear hgb;obtain ⟨g5,hga⟩:∃ g,g=w3.heap.size:=⟨_,rfl⟩;rw [<- hga] at r5 |-;clear hga;have hp1:=hp1.mono hb;have hd1:=hd1.mono hb;have hp2:=hp2.mono hb;have hq2:=hq2.mono hb;have ul:=ul.mono hb;have hE:=hE.mono hb;have hbw:=bu hbw hb;clear hb;have HR1:=hii (HR.out wA ul hE);go_wp2_with fail;(with_reducible refine HR1.out.mono ?_);rintro e w4 ⟨hBP,hb⟩;have hp1:=hp1.mono hb;have hd1:=hd1.mono hb;have hp2:=hp2.mono hb;have hq2:=hq2.mono hb;have hE:=hE.mono hb;have r5:=r5.below hb;have r6:=r6.below hb;have hbw:=bu hbw hb;clear hb;obtain ⟨J3,ao3,n3,Y3,K3,ap3,m3,Z3,J4,ao4,n4,Y4,K4,ap4,m4,Z4,rfl,⟨hp3,hd3⟩,hp4,hq4⟩:=HU.out w4 e hBP;clear hBP HR HR1 HU ul;generalize bndE l n=k at *;go_upto_region 5 with fail;obtain ⟨wx,hwx,r8,r9,hb⟩:=two_rows w4 32 32 [.bool J3,.slice ao3 n3 Y3,.bool K3,.slice ap3 m3 Z3] [.bool J4,.slice ao4 n4 Y4,.bool K4,.slice ap4 m4 Z4];simp only [List.toArray] at hwx;rw [<- hwx];clear hwx;obtain ⟨wB,rfl⟩:∃ wA:World,wA=wx:=⟨_,rfl⟩;obtain ⟨g9,hgb⟩:∃ g,g=w4.heap.size + 1:=⟨_,rfl⟩;rw [<- hgb] at r9 |-;clear hgb;obtain ⟨g8,hga⟩:∃ g,g=w4.heap.size:=⟨_,rfl⟩;rw [<- hga] at r8 |-;clear hga;have hp1:=hp1.mono hb;have hd1:=hd1.mono hb;have hp2:=hp2.mono hb;have hq2:=hq2.mono hb;have hp3:=hp3.mono hb;have hd3:=hd3.mono hb;have hp4:=hp4.mono hb;have hq4:=hq4.mono hb;have hE:=hE.mono hb;have r5:=r5.below hb;have r6:=r6.below hb;have hbw:=bu hbw hb;clear hb;obtain ⟨y0,y1,y2,y3⟩:=r5.n4;obtain ⟨x0,x1,x2,x3⟩:=r8.n4;have HQ:=hii (eqQ_same P1 D1 P1 D1 wB (hii ⟨rfl,rfl⟩) hp1 hd1 hp3 hd3 hE);go_wp2_with fail;(with_reducible refine HQ.out.mono ?_);rintro e wC ⟨rfl,hb⟩;have hp2:=hp2.mono hb;have hq2:=hq2.mono hb;have hp4:=hp4.mono hb;have hq4:=hq4.mono hb;have hE:=hE.mono hb;have r6:=r6.below hb;have r9:=r9.below hb;have hbw:=bu hbw hb;clear hb;clear HQ y0 y1 y2 y3 x0 x1 x2 x3 hp1 hd1 hp3 hd3 r5 r8;obtain ⟨y0,y1,y2,y3⟩:=r6.n4;obtain ⟨x0,x1,x2,x3⟩:=r9.n4;have HQ:=hii (eqQ_same P2 D2 P2 D2 wC (hii ⟨rfl,rfl⟩) hp2 hq2 hp4 hq4 hE);go_wp2_with fail;(with_reducible refine HQ.out.mono ?_);rintro e wD ⟨rfl,hb⟩;have hbw:=bu hbw hb;clear hb HQ;go_wp2;go_ret;exact ⟨rfl,hbw⟩
end Go.Proofs.YtfgffkmddanjjaaGreatDoor
