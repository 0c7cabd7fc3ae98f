/-
  Lists of whole numbers in the statements; their examples.
-/
import Derived.Test.YtaedmaifkfhpfaaGreatDoorDuV
import Derived.Test.YtaedmaifkfhpfaaGreatDoorFlowX
set_option linter.unusedVariables false
set_option linter.unusedSimpArgs false
set_option maxRecDepth 100000
set_option maxHeartbeats 25600000
namespace Go.Proofs.YtaedmaifkfhpfaaGreatDoor
open Go.RowKit
def UI (w:World) (ao:Option Addr) (l:List Int):Prop:=∀ i z,l[i]?=some z→∃ b off,ao=some ⟨b,off,none⟩∧w.cell? ⟨b,off + i,none⟩=some (.int .i64 z)
theorem UI.mono {w w':World} {ao:Option Addr} {l:List Int} (h:UI w ao l) (hb:Below w.heap.size w w'):UI w' ao l:=by
 intro i s hi;obtain ⟨b,off,e,hc⟩:=h i s hi;exact ⟨b,off,e,(hb.cell (cell_lt hc)).trans hc⟩
theorem UI.kept {G:Nat→Prop} {w w':World} {n:Nat} {l:List Int} (h:UI w (some ⟨n,0,none⟩) l) (hk:Kept G w w') (hg:¬ G n):UI w' (some ⟨n,0,none⟩) l:=by
 intro i s hi;obtain ⟨b,off,e,hc⟩:=h i s hi
 cases e
 exact ⟨n,0,rfl,hk.cell hc hg⟩
theorem ui_two (w:World) (a b:Int):UI (w.alloc (.cells #[.int .i64 a,.int .i64 b] 2)) (some ⟨w.heap.size,0,none⟩) [a,b]:=by
 have r:Row (w.alloc (.cells #[.int .i64 a,.int .i64 b] 2)) w.heap.size 2 [.int .i64 a,.int .i64 b]:=heap_alloc_new _ _;intro i z hi
 match i,hi with
 | 0,hi => simp at hi; subst hi; exact ⟨_,0,rfl,r.cell (k:=0) (by simp)⟩
 | 1,hi => simp at hi; subst hi; exact ⟨_,0,rfl,r.cell (k:=1) (by simp)⟩
 | i + 2,hi => simp at hi
theorem ui_one (w:World) (a:Int):UI (w.alloc (.cells #[.int .i64 a] 2)) (some ⟨w.heap.size,0,none⟩) [a]:=by
 have r:Row (w.alloc (.cells #[.int .i64 a] 2)) w.heap.size 2 [.int .i64 a]:=heap_alloc_new _ _;intro i z hi
 match i,hi with
 | 0,hi => simp at hi; subst hi; exact ⟨_,0,rfl,r.cell (k:=0) (by simp)⟩
 | i + 1,hi => simp at hi
def IU2 (a b:Int) (W:World) (v:Value):Prop:=∃ n:Nat,v=.slice (some ⟨n,0,none⟩) 2 2∧UI W (some ⟨n,0,none⟩) [a,b]
theorem IU2.mono {a b:Int} {w w':World} {v:Value} (h:IU2 a b w v) (hb:Below w.heap.size w w'):IU2 a b w' v:=by
 obtain ⟨n,e,h⟩:=h;exact ⟨n,e,h.mono hb⟩
def LU (n:Nat) (l:List Int) (W:World) (v:Value):Prop:=∃ (ao:Option Addr) (cap:Nat),v=.slice ao n cap∧UQ W ao (zq l)
theorem LU.mono {n:Nat} {l:List Int} {w w':World} {v:Value} (h:LU n l w v) (hb:Below w.heap.size w w'):LU n l w' v:=by
 obtain ⟨a,c,e,h⟩:=h;exact ⟨a,c,e,h.mono hb⟩
theorem OwnQ.readB {w:World} {B:Nat} {v:Value} {l:List Rat} (h:OwnQ w B v l):∃ ao cap,v=.slice ao l.length cap∧(∀ a,ao=some a→B≤a.block∧a.block < w.heap.size)∧UQ w ao (l.map some):=by
 have hr:=h.read;obtain ⟨ao,cap,e,hu⟩:=hr;refine ⟨ao,cap,e,fun a ha => ?_,hu⟩;subst ha;obtain ⟨xs,h1,_⟩:=h;have:=h1.lt a.block (by rw [e]; rfl);exact this
def GotL (B:Nat) (l:List Int) (n:Nat) (w':World) (e:Ending):Prop:=∃ ao cap,e=.returned (.slice ao n cap)∧(∀ a,ao=some a→B≤a.block∧a.block < w'.heap.size)∧UQ w' ao (zq l)
theorem zr_snoc {l:List Int} {k:Nat} {z:Int} (h:l[k]?=some z):zr (l.take (k + 1))=zr (l.take k) ++ [(z:Rat)]:=by
 unfold zr;rw [List.take_add_one,h]; simp
theorem list14_any (l:List Int) (n:Nat) (hn:n=l.length) (ao:Option Addr) (cap:Nat) (w:World) (hl:Hid (∀ z∈l,-9223372036854775808≤z∧z≤9223372036854775807)) (h6:n≤1000) (hU:UI w ao l) (hE:Env w) :
  Calls Tryz.prog 11 #[.slice ao n cap] w fun e w' => GotL w.heap.size l n w' e∧Below w.heap.size w w':=by
 have Hn:=hii hn;clear hn;have hE0:=hE;have hbw:=Below.refl w.heap.size w;go_enter Tryz.func11,Tryz.ntmps11;go_wp2_with fail;go_loopw [3,8] (fun s c wr => ∃ k:Nat,k≤n∧c=.int .i64 k∧OwnQ wr w.heap.size s (zr (l.take k))∧Env wr∧Below w.heap.size w wr) (fun _ c _ => n - (intOf c).toNat)
 case atStart => exact ⟨0,Nat.zero_le _,rfl,OwnQ.nil _ _,hE,hbw⟩
 case round =>
  clear hE hbw;obtain ⟨k,hk,rfl,hown,hE,hbw⟩:=hrel
  by_cases hlt:k < n
  ·obtain ⟨z,hz⟩:∃ x,l[k]?=some x:=⟨l[k]'(by rw [← Hn.out]; exact hlt),gE _⟩;obtain ⟨b,off,e,hc⟩:=(hU.mono hbw) k z hz;have HS:=hii (zr_snoc hz);have HZ:=hii (hl.out z (List.mem_of_getElem? hz));subst e;clear hz;go_wp2_with fail;(with_reducible refine (rnum_any z HZ.out.1 HZ.out.2 wr hE).mono ?_);rintro e v1 ⟨hz,hb⟩;obtain ⟨ng,ao,nn,cap,nh,ap,m,caq,rfl,h1,h2⟩:=hz;have hown:=hown.mono hb;have hE:=hE.mono hb;have hbw:=bu hbw hb;have hsz:=hbw.size;have HLL:Hid ((zr (l.take k)).length≤1000000):=hii (by unfold zr; simp; omega);clear hb hc;go_wp2_with (at_builtin; refine app_q _ rfl (.tmp 12) (.tmp 15) rfl w w.heap.size _ (zr (l.take k)) rfl hown hsz hbw h1 h2 rfl HLL.out ?_; intro v3 w3 hown3 hbel3 hsz3);have hE:=hE0.mono hbel3;go_roundw
   case rel => exact ⟨k + 1,by omega,by go_num,by rw [HS.out]; exact hown3,hE,hbel3⟩
   case measure => simp [intOf]; omega
  ·obtain rfl:k=n:=by omega
   have e0:l.take k=l:=by rw [Hn.out]; exact List.take_length
   rw [e0] at hown;obtain ⟨ao,cap,rfl,ha,hu⟩:=hown.readB;have e1:(zr l).length=k:=by unfold zr; rw [List.length_map]; exact Hn.out.symm
   rw [e1];rw [← zq_map] at hu;have HG:=hii (⟨ao,cap,rfl,ha,hu⟩:GotL w.heap.size l k wr (.returned (.slice ao k cap)));clear hU hown hu ha e0 e1;go_wp2;go_ret;exact ⟨HG.out,hbw⟩
theorem eqQ_ok (va vb:Value) (r:Rat) (w:World) (ha:RatV w va r) (hb:RatV w vb r) (hE:Env w) :
  Calls Tryz.prog 17 #[va,vb] w fun e w' => e=.returned (.bool true)∧Below w.heap.size w w':=by
 obtain ⟨n1,a1,l1,c1,n2,a2,l2,c2,rfl,h1,h2⟩:=ha;obtain ⟨n3,a3,l3,c3,n4,a4,l4,c4,rfl,h3,h4⟩:=hb;exact eqQ_same r.num r.den r.num r.den w (hii ⟨rfl,rfl⟩) h1 h2 h3 h4 hE
theorem eqQ_zero (w:World) (hE:Env w) :
  Calls Tryz.prog 17 #[.agg #[.bool false,.slice none 0 0,.bool false,.slice none 0 0],.agg #[.bool false,.slice none 0 0,.bool false,.slice none 0 0]] w fun e w' => e=.returned (.bool true)∧Below w.heap.size w w' :=
 eqQ_same 0 0 0 0 w (hii ⟨rfl,rfl⟩) (IntV.zero _) (IntV.zero _) (IntV.zero _) (IntV.zero _) hE
theorem awake14 (w:World) (hE:Env w) :
  Calls Tryz.prog 5 #[] w fun e w' => e=.returned (.bool true)∧Below w.heap.size w w':=by
 have hbw:=Below.refl w.heap.size w;go_enter Tryz.func5,Tryz.ntmps5;go_wp2_with fail;have hU:=ui_two w 1 1;have hb:=bA w (.cells #[.int .i64 1,.int .i64 1] 2);obtain ⟨gi,hgi⟩:∃ gi,gi=w.heap.size:=⟨_,rfl⟩;rw [← hgi] at hU ⊢;clear hgi;generalize w.alloc (.cells #[.int .i64 1,.int .i64 1] 2)=w1 at *;have hE:=hE.mono hb;have hbw:=bu hbw hb;clear hb;(with_reducible refine (list14_any [1,1] 2 rfl _ _ w1 (hii (by intro z hz; simp at hz; subst hz; decide)) (by decide) hU hE).mono ?_);rintro e w2 ⟨⟨a11,c11,rfl,-,u11⟩,hb⟩;have hE:=hE.mono hb;have hbw:=bu hbw hb;clear hb;clear hU;go_wp2_with fail;have hU:=ui_two w2 1 0;have hb:=bA w2 (.cells #[.int .i64 1,.int .i64 0] 2);obtain ⟨gi,hgi⟩:∃ gi,gi=w2.heap.size:=⟨_,rfl⟩;rw [← hgi] at hU ⊢;clear hgi;generalize w2.alloc (.cells #[.int .i64 1,.int .i64 0] 2)=w3 at *;have hE:=hE.mono hb;have u11:=u11.mono hb;have hbw:=bu hbw hb;clear hb;(with_reducible refine (list14_any [1,0] 2 rfl _ _ w3 (hii (by intro z hz; simp at hz; rcases hz with rfl | rfl <;> decide)) (by decide) hU hE).mono ?_);rintro e w4 ⟨⟨a13,c13,rfl,-,u13⟩,hb⟩;have hE:=hE.mono hb;have u11:=u11.mono hb;have hbw:=bu hbw hb;clear hb;clear hU;go_wp2_with fail;have hb:=bA w4 (.cells #[.slice a11 2 c11,.slice a13 2 c13] 27);have r14:Row (w4.alloc (.cells #[.slice a11 2 c11,.slice a13 2 c13] 27)) w4.heap.size 27 [.slice a11 2 c11,.slice a13 2 c13]:=heap_alloc_new _ _;have hsz:(w4.alloc (.cells #[.slice a11 2 c11,.slice a13 2 c13] 27)).heap.size=w4.heap.size + 1:=by simp
 obtain ⟨g14,hg⟩:∃ g14,g14=w4.heap.size:=⟨_,rfl⟩;rw [← hg] at r14 hsz ⊢;clear hg;generalize w4.alloc (.cells #[.slice a11 2 c11,.slice a13 2 c13] 27)=w5 at *;have hE:=hE.mono hb;have u11:=u11.mono hb;have u13:=u13.mono hb;have hbw:=bu hbw hb;clear hb;rw [← hsz];have hU:=ui_two w5 4 3;have hb:=bA w5 (.cells #[.int .i64 4,.int .i64 3] 2);obtain ⟨gi,hgi⟩:∃ gi,gi=w5.heap.size:=⟨_,rfl⟩;rw [← hgi] at hU ⊢;clear hgi;generalize w5.alloc (.cells #[.int .i64 4,.int .i64 3] 2)=w6 at *;have hE:=hE.mono hb;have u11:=u11.mono hb;have u13:=u13.mono hb;have r14:=r14.below hb;have hbw:=bu hbw hb;clear hb;clear hsz;(with_reducible refine (list14_any [4,3] 2 rfl _ _ w6 (hii (by intro z hz; simp at hz; rcases hz with rfl | rfl <;> decide)) (by decide) hU hE).mono ?_);rintro e w7 ⟨⟨a16,c16,rfl,-,u16⟩,hb⟩;have hE:=hE.mono hb;have u11:=u11.mono hb;have u13:=u13.mono hb;have r14:=r14.below hb;have hbw:=bu hbw hb;clear hb;clear hU;go_wp2_with fail;have hU:=ui_two w7 3 2;have hb:=bA w7 (.cells #[.int .i64 3,.int .i64 2] 2);obtain ⟨gi,hgi⟩:∃ gi,gi=w7.heap.size:=⟨_,rfl⟩;rw [← hgi] at hU ⊢;clear hgi;generalize w7.alloc (.cells #[.int .i64 3,.int .i64 2] 2)=w8 at *;have hE:=hE.mono hb;have u11:=u11.mono hb;have u13:=u13.mono hb;have r14:=r14.below hb;have u16:=u16.mono hb;have hbw:=bu hbw hb;clear hb;(with_reducible refine (list14_any [3,2] 2 rfl _ _ w8 (hii (by intro z hz; simp at hz; rcases hz with rfl | rfl <;> decide)) (by decide) hU hE).mono ?_);rintro e w9 ⟨⟨a18,c18,rfl,-,u18⟩,hb⟩;have hE:=hE.mono hb;have u11:=u11.mono hb;have u13:=u13.mono hb;have r14:=r14.below hb;have u16:=u16.mono hb;have hbw:=bu hbw hb;clear hb;clear hU;go_wp2_with fail;have hb:=bA w9 (.cells #[.slice (some ⟨g14,0,none⟩) 2 2,.slice a16 2 c16,.slice a18 2 c18] 42);have rP:Row (w9.alloc (.cells #[.slice (some ⟨g14,0,none⟩) 2 2,.slice a16 2 c16,.slice a18 2 c18] 42)) w9.heap.size 42 [.slice (some ⟨g14,0,none⟩) 2 2,.slice a16 2 c16,.slice a18 2 c18]:=heap_alloc_new _ _;obtain ⟨gP,hg⟩:∃ gP,gP=w9.heap.size:=⟨_,rfl⟩;rw [← hg] at rP  ⊢;clear hg;generalize w9.alloc (.cells #[.slice (some ⟨g14,0,none⟩) 2 2,.slice a16 2 c16,.slice a18 2 c18] 42)=w10 at *;have hE:=hE.mono hb;have u11:=u11.mono hb;have u13:=u13.mono hb;have r14:=r14.below hb;have u16:=u16.mono hb;have u18:=u18.mono hb;have hbw:=bu hbw hb;clear hb;have hP:PrgV w10 (.agg #[.slice (some ⟨g14,0,none⟩) 2 2,.slice a16 2 c16,.slice a18 2 c18]) pA:=by
  refine ⟨some ⟨g14,0,none⟩,2,a16,c16,a18,c18,rfl,?_,u16,u18⟩;intro i row hi
  match i,hi with
  | 0,hi => simp [pA,zP] at hi; subst hi; exact ⟨g14,0,a11,c11,rfl,r14.cell (k:=0) (by simp),u11⟩
  | 1,hi => simp [pA,zP] at hi; subst hi; exact ⟨g14,0,a13,c13,rfl,r14.cell (k:=1) (by simp),u13⟩
  | i + 2,hi => simp [pA,zP] at hi
 clear u11 u13 u16 u18 r14;(with_reducible refine (rnum_any 11 (by decide) (by decide) w10 hE).mono ?_);rintro e w11 ⟨hz,hb⟩;obtain ⟨ng20,ao20,n20,cap20,nh20,ap20,m20,caq20,rfl,hv20⟩:=hz.rat;clear hz;have hE:=hE.mono hb;have rP:=rP.below hb;have hP:=hP.mono hb;have hbw:=bu hbw hb;clear hb;go_wp2_with fail;have hU:=ui_two w11 3 1;have hb:=bA w11 (.cells #[.int .i64 3,.int .i64 1] 2);obtain ⟨gi,hgi⟩:∃ gi,gi=w11.heap.size:=⟨_,rfl⟩;rw [← hgi] at hU ⊢;clear hgi;generalize w11.alloc (.cells #[.int .i64 3,.int .i64 1] 2)=w12 at *;have hE:=hE.mono hb;have rP:=rP.below hb;have hP:=hP.mono hb;have hv20:=hv20.mono hb;have hbw:=bu hbw hb;clear hb;(with_reducible refine (list14_any [3,1] 2 rfl _ _ w12 (hii (by intro z hz; simp at hz; rcases hz with rfl | rfl <;> decide)) (by decide) hU hE).mono ?_);rintro e w13 ⟨⟨a22,c22,rfl,-,u22⟩,hb⟩;have hE:=hE.mono hb;have rP:=rP.below hb;have hP:=hP.mono hb;have hv20:=hv20.mono hb;have hbw:=bu hbw hb;clear hb;clear hU;go_wp2_with fail;have hU:=ui_two w13 2 1;have hb:=bA w13 (.cells #[.int .i64 2,.int .i64 1] 2);obtain ⟨gi,hgi⟩:∃ gi,gi=w13.heap.size:=⟨_,rfl⟩;rw [← hgi] at hU ⊢;clear hgi;generalize w13.alloc (.cells #[.int .i64 2,.int .i64 1] 2)=w14 at *;have hE:=hE.mono hb;have rP:=rP.below hb;have hP:=hP.mono hb;have hv20:=hv20.mono hb;have u22:=u22.mono hb;have hbw:=bu hbw hb;clear hb;(with_reducible refine (list14_any [2,1] 2 rfl _ _ w14 (hii (by intro z hz; simp at hz; rcases hz with rfl | rfl <;> decide)) (by decide) hU hE).mono ?_);rintro e w15 ⟨⟨a24,c24,rfl,-,u24⟩,hb⟩;have hE:=hE.mono hb;have rP:=rP.below hb;have hP:=hP.mono hb;have hv20:=hv20.mono hb;have u22:=u22.mono hb;have hbw:=bu hbw hb;clear hb;clear hU;go_upto_region 3 with fail;have hb:=bA w15 (.cells #[.bool ng20,.slice ao20 n20 cap20,.bool nh20,.slice ap20 m20 caq20,.slice a22 2 c22,.slice a24 2 c24] 30);have rO:Row (w15.alloc (.cells #[.bool ng20,.slice ao20 n20 cap20,.bool nh20,.slice ap20 m20 caq20,.slice a22 2 c22,.slice a24 2 c24] 30)) w15.heap.size 30 [.bool ng20,.slice ao20 n20 cap20,.bool nh20,.slice ap20 m20 caq20,.slice a22 2 c22,.slice a24 2 c24]:=heap_alloc_new _ _;obtain ⟨gO,hg⟩:∃ gO,gO=w15.heap.size:=⟨_,rfl⟩;rw [← hg] at rO  ⊢;clear hg;generalize w15.alloc (.cells #[.bool ng20,.slice ao20 n20 cap20,.bool nh20,.slice ap20 m20 caq20,.slice a22 2 c22,.slice a24 2 c24] 30)=w16 at *;have hE:=hE.mono hb;have rP:=rP.below hb;have hP:=hP.mono hb;have hv20:=hv20.mono hb;have u22:=u22.mono hb;have u24:=u24.mono hb;have hbw:=bu hbw hb;clear hb;have hO:OptV w16 (.agg #[.bool ng20,.slice ao20 n20 cap20,.bool nh20,.slice ap20 m20 caq20,.slice a22 2 c22,.slice a24 2 c24]) (some ((11:Int):Rat)) (zq [3,1]) (zq [2,1]):=⟨_,_,_,_,_,_,_,_,_,_,_,_,rfl,hv20,u22,u24⟩;clear hv20;obtain ⟨wa,rfl⟩:∃ wa:World,wa=w16:=⟨_,rfl⟩;refine wp_region_newx (wx:=wa) (fun _ => False) [(fun _ X _ => X 0=.agg #[.slice (some ⟨g14,0,none⟩) 2 2,.slice a16 2 c16,.slice a18 2 c18]),(fun _ X _ => X 1=.pointer (some ⟨gO,4,none⟩)),(fun _ X _ => X 2=.slice a22 2 c22),(fun G X W => ((fun G W v => ∃ n,v=.slice (some ⟨n,0,none⟩) 2 2∧n < W.heap.size∧¬ G n∧UI W (some ⟨n,0,none⟩) [3,0]):(Nat→Prop)→World→Value→Prop) G W (X 3)),(fun G X W => ((FL (zq [3,0])):(Nat→Prop)→World→Value→Prop) G W (X 4)),(fun G X W => ((fun G W v => ∃ a,v=.tuple #[a,.int .i64 0]∧RatV W a (((1:Int)):Rat)):(Nat→Prop)→World→Value→Prop) G W (X 5)),(fun G X W => ((fun G W v => ∃ a,v=.tuple #[a,.int .i64 0]∧RatV W a (((1:Int)):Rat)):(Nat→Prop)→World→Value→Prop) G W (X 6)),(fun G X W => ((FQ (((1:Int)):Rat)):(Nat→Prop)→World→Value→Prop) G W (X 7)),(fun _ X _ => X 8=.int .i64 0),(fun _ _ _ => True),(fun _ _ _ => True),(fun _ X _ => X 11=.int .i64 0)] [some 27,some 28,some 29,some 30,some 31,some 32,some 26,some 33,some 34,some 3,none,some 4] [none,none,none,none,none,none,none,none,none,some ⟨10,7,26,[.bool false,.slice none 0 0,.bool false,.slice none 0 0]⟩,none,none] [27,28,29,30,31,32,26,33,34,3,4] (by kernel_rfl) (by kernel_rfl) (by kernel_rfl) (by kernel_rfl) (of_decide_eq_true (by kernel_rfl)) (by kernel_rfl) ⟨(by intro u hu k z e; subst e; simp at hu),trivial⟩ (fun b h => h) br ⟨adjX_val _ _ _,adjX_val _ _ _,adjX_val _ _ _,(adjX_own (F:=fun G W v => ∃ n,v=.slice (some ⟨n,0,none⟩) 2 2∧n < W.heap.size∧¬ G n∧UI W (some ⟨n,0,none⟩) [3,0]) fun G G' W W' v ⟨n,e,hl,hg,h⟩ hk hn hG => ⟨n,e,Nat.lt_of_lt_of_le hl hk.size,fun hh => hg (hG _ hl hh),h.kept hk hg⟩),adjX_fl _,(adjX_own (F:=fun G W v => ∃ a,v=.tuple #[a,.int .i64 0]∧RatV W a (((1:Int)):Rat)) fun G G' W W' v ⟨a,e,h⟩ hk hn hG => ⟨a,e,h.kept hk hn⟩),(adjX_own (F:=fun G W v => ∃ a,v=.tuple #[a,.int .i64 0]∧RatV W a (((1:Int)):Rat)) fun G G' W W' v ⟨a,e,h⟩ hk hn hG => ⟨a,e,h.kept hk hn⟩),adjX_fq _,adjX_val _ _ _,adjX_true _,adjX_true _,adjX_val _ _ _,trivial⟩ ⟨⟨fun _ _ _ => trivial,fun _ _ _ => trivial⟩,trivial⟩ ⟨?s0,?s1,?s2,?s3,?s4,?s5,?s6,?s7,?s8,?s9,?s10,?s11,trivial⟩ ⟨?b9,trivial⟩ ?he
 case s0 =>
  rintro - G T W hb hHG hGW hGo hNG hA K hK;obtain ⟨x0,x1,x2⟩:=(rP.below hb).n3;simp only [ovr,Act.put,List.setIfInBounds_toArray,List.set_cons_zero,List.set_cons_succ] at hK ⊢;have HK:=hii hK;clear hK hA;refine wO rfl (by rfl) ?_;go_simp;exact HK.out _ _ br fun X hX _ => hX
 case s1 =>
  rintro - G T W hb hHG hGW hGo hNG hA K hK;simp only [ovr,Act.put,List.setIfInBounds_toArray,List.set_cons_zero,List.set_cons_succ] at hK ⊢;have HK:=hii hK;clear hK hA;refine wO rfl (by rfl) ?_;go_simp;exact HK.out _ _ br fun X hX _ => hX
 case s2 =>
  rintro - G T W hb hHG hGW hGo hNG hA K hK;have e1:T 28=.pointer (some ⟨gO,4,none⟩):=hA.1;obtain ⟨y0,y1,y2,y3,y4,y5⟩:=(rO.below hb).n6;simp only [ovr,Act.put,List.setIfInBounds_toArray,List.set_cons_zero,List.set_cons_succ,e1] at hK ⊢;have HK:=hii hK;clear hK hA;refine wO rfl (by rfl) ?_;go_simp;exact HK.out _ _ br fun X hX _ => hX
 case s3 =>
  rintro - G T W hb hHG hGW hGo hNG hA K hK;simp only [ovr,Act.put,List.setIfInBounds_toArray,List.set_cons_zero,List.set_cons_succ] at hK ⊢;have HK:=hii hK;clear hK hA;refine wO rfl (by rfl) ?_;go_simp;have hU1:=ui_two W 3 0;have hb1:=bA W (.cells #[.int .i64 3,.int .i64 0] 2);have hlt1:W.heap.size < (W.alloc (.cells #[.int .i64 3,.int .i64 0] 2)).heap.size:=by simp
  have hng:¬ G W.heap.size:=fun hh => absurd (hGW _ hh) (Nat.lt_irrefl _)
  obtain ⟨w1,hw1⟩:∃ w1,w1=W.alloc (.cells #[.int .i64 3,.int .i64 0] 2):=⟨_,rfl⟩;rw [← hw1] at hU1 hb1 hlt1 ⊢
  try dsimp only
  exact HK.out _ _ (hb1) fun X hX _ => by
   show ((fun G W v => ∃ n,v=.slice (some ⟨n,0,none⟩) 2 2∧n < W.heap.size∧¬ G n∧UI W (some ⟨n,0,none⟩) [3,0]):(Nat→Prop)→World→Value→Prop) G _ (X 3)
   rw [hX];exact ⟨_,rfl,hlt1,hng,hU1⟩
 case s4 =>
  rintro - G T W hb hHG hGW hGo hNG hA K hK;have r3:((fun G W v => ∃ n,v=.slice (some ⟨n,0,none⟩) 2 2∧n < W.heap.size∧¬ G n∧UI W (some ⟨n,0,none⟩) [3,0]):(Nat→Prop)→World→Value→Prop) G W (T 30):=hA.1;obtain ⟨n3,e3,_,_,hU⟩:=r3;simp only [ovr,Act.put,List.setIfInBounds_toArray,List.set_cons_zero,List.set_cons_succ,e3] at hK ⊢;have HK:=hii hK;clear hK hA;refine wO rfl (by rfl) ?_;go_simp;(with_reducible refine (list14_any [3,0] 2 rfl _ _ W (hii (by intro z hz; simp at hz; rcases hz with rfl | rfl <;> decide)) (by decide) hU (hE.mono hb)).mono ?_);rintro e w1 ⟨⟨ao,cap,rfl,ha,hu⟩,hb1⟩
  try dsimp only
  exact HK.out _ _ (hb1) fun X hX _ => by
   show ((FL (zq [3,0])):(Nat→Prop)→World→Value→Prop) G _ (X 4)
   rw [hX];exact ⟨ao,cap,rfl,fun a h => ⟨(ha a h).2,fun hh => absurd (hGW _ hh) (by have:=(ha a h).1; omega)⟩,hu⟩
 case s5 =>
  rintro - G T W hb hHG hGW hGo hNG hA K hK;have e0:T 27=.agg #[.slice (some ⟨g14,0,none⟩) 2 2,.slice a16 2 c16,.slice a18 2 c18]:=hA.1;have e2:T 29=.slice a22 2 c22:=hA.2.1;have r4:((FL (zq [3,0])):(Nat→Prop)→World→Value→Prop) G W (T 31):=hA.2.2.1;obtain ⟨ao4,cap4,e4,_,hu4⟩:=r4;simp only [ovr,Act.put,List.setIfInBounds_toArray,List.set_cons_zero,List.set_cons_succ,e0,e2,e4] at hK ⊢;have HK:=hii hK;clear hK hA;refine wO rfl (by rfl) ?_;go_simp;have hG:=(show Calls Tryz.prog 13 #[.agg #[.slice (some ⟨g14,0,none⟩) 2 2,.slice a16 2 c16,.slice a18 2 c18],.slice a22 2 c22,.slice ao4 2 cap4] W (fun e w' => ResE (gapR pA (zq [3,1]) (zq [3,0])) w' e∧Below W.heap.size W w') from Gap_any pA (zq [3,1]) (zq [3,0]) _ a22 ao4 c22 cap4 W (hP.mono hb) (by decide) (by decide) (u22.mono hb) hu4 (hE.mono hb));rw [aw_gap] at hG
  show Calls Tryz.prog 13 #[.agg #[.slice (some ⟨g14,0,none⟩) 2 2,.slice a16 2 c16,.slice a18 2 c18],.slice a22 2 c22,.slice ao4 2 cap4] W _
  (with_reducible refine hG.mono ?_);rintro e w1 ⟨hr,hb1⟩;have hr:GotQ w1 (((1:Int)):Rat) e:=hr;obtain ⟨ng5,ao5,n5,cap5,nh5,ap5,m5,caq5,rfl,h1,h2⟩:=hr;have hv5:RatV w1 (.agg #[.bool ng5,.slice ao5 n5 cap5,.bool nh5,.slice ap5 m5 caq5]) (((1:Int)):Rat):=⟨_,_,_,_,_,_,_,_,rfl,h1.out,h2.out⟩
  try dsimp only
  exact HK.out _ _ (hb1) fun X hX _ => by
   show ((fun G W v => ∃ a,v=.tuple #[a,.int .i64 0]∧RatV W a (((1:Int)):Rat)):(Nat→Prop)→World→Value→Prop) G _ (X 5)
   rw [hX];exact ⟨_,rfl,hv5⟩
 case s6 =>
  rintro - G T W hb hHG hGW hGo hNG hA K hK;have r5:((fun G W v => ∃ a,v=.tuple #[a,.int .i64 0]∧RatV W a (((1:Int)):Rat)):(Nat→Prop)→World→Value→Prop) G W (T 32):=hA.1;obtain ⟨a5,e5,h5⟩:=r5;simp only [ovr,Act.put,List.setIfInBounds_toArray,List.set_cons_zero,List.set_cons_succ,e5] at hK ⊢;have HK:=hii hK;clear hK hA;refine wO rfl (by rfl) ?_;go_simp;exact HK.out _ _ br fun X hX _ => by
   show ((fun G W v => ∃ a,v=.tuple #[a,.int .i64 0]∧RatV W a (((1:Int)):Rat)):(Nat→Prop)→World→Value→Prop) G _ (X 6)
   rw [hX];exact ⟨_,rfl,h5⟩
 case s7 =>
  rintro - G T W hb hHG hGW hGo hNG hA K hK;have r6:((fun G W v => ∃ a,v=.tuple #[a,.int .i64 0]∧RatV W a (((1:Int)):Rat)):(Nat→Prop)→World→Value→Prop) G W (T 26):=hA.1;obtain ⟨a6,e6,h6⟩:=r6;simp only [ovr,Act.put,List.setIfInBounds_toArray,List.set_cons_zero,List.set_cons_succ,e6] at hK ⊢;have HK:=hii hK;clear hK hA;refine wO rfl (by rfl) ?_;go_simp;exact HK.out _ _ br fun X hX _ => by
   show ((FQ (((1:Int)):Rat)):(Nat→Prop)→World→Value→Prop) G _ (X 7)
   rw [hX];exact h6
 case s8 =>
  rintro - G T W hb hHG hGW hGo hNG hA K hK;have r6:((fun G W v => ∃ a,v=.tuple #[a,.int .i64 0]∧RatV W a (((1:Int)):Rat)):(Nat→Prop)→World→Value→Prop) G W (T 26):=hA.1;obtain ⟨a6,e6,h6⟩:=r6;simp only [ovr,Act.put,List.setIfInBounds_toArray,List.set_cons_zero,List.set_cons_succ,e6] at hK ⊢;have HK:=hii hK;clear hK hA;refine wO rfl (by rfl) ?_;go_simp;exact HK.out _ _ br fun X hX _ => hX
 case s9 => exact fun h => absurd h (by decide)
 case s10 => exact fun h => absurd h (by decide)
 case s11 =>
  rintro - G T W hb hHG hGW hGo hNG hA K hK;have e8:T 34=.int .i64 0:=hA.1;simp only [ovr,Act.put,List.setIfInBounds_toArray,List.set_cons_zero,List.set_cons_succ,e8] at hK ⊢;have HK:=hii hK;clear hK hA;refine wO rfl (by rfl) ?_;go_simp;exact HK.out _ _ br fun X hX _ => hX
 case b9 =>
  refine ⟨?_,?_⟩
  ·rintro o ho T W K hK;obtain rfl:=Option.some.inj ho;simp only [ovr,Act.put,List.setIfInBounds_toArray,List.set_cons_zero,List.set_cons_succ] at hK ⊢;have HK:=hii hK;clear hK ho;refine wO rfl (by rfl) ?_;go_simp;exact HK.out
  ·rintro o ho G T W nb hA hp hrow K hK;obtain rfl:=Option.some.inj ho;have ep:T 3=.pointer (some ⟨nb,0,none⟩):=hp;have r7:((FQ (((1:Int)):Rat)):(Nat→Prop)→World→Value→Prop) G W (T 33):=hA.2.1;obtain ⟨ng1,ao1,n1,cap1,nh1,ap1,m1,caq1,e7⟩:=(r7:RatV W _ _).parts;have hK:=hK [.bool ng1,.slice ao1 n1 cap1,.bool nh1,.slice ap1 m1 caq1] (.inl e7) rfl (by intro u hu k z e; subst e; simp at hu);simp only [ovr,List.setIfInBounds_toArray,List.set_cons_zero,List.set_cons_succ,ep,e7] at hK ⊢;have HK:=hii hK;clear hK hA ho;have q0:=hrow.cell (k:=0) (by simp);have f0:=hrow.free 0;have q1:=hrow.cell (k:=1) (by simp);have f1:=hrow.free 1;have q2:=hrow.cell (k:=2) (by simp);have f2:=hrow.free 2;have q3:=hrow.cell (k:=3) (by simp);have f3:=hrow.free 3;simp only [List.getElem_cons_zero,List.getElem_cons_succ] at q0 q1 q2 q3;refine wO rfl (by rfl) ?_;go_simp;exact HK.out
 case he =>
  rintro GG N T W hb hHG hGW hGo hbox hNG hne hA;have fv:((FQ (((1:Int)):Rat)):(Nat→Prop)→World→Value→Prop) GG W (T 33):=hA.at 7 (by decide);have f11:T 4=.int .i64 0:=hA.at 11 (by decide);have hE:=hE.mono hb;have rP:=rP.below hb;have hP:=hP.mono hb;have rO:=rO.below hb;have hO:=hO.mono hb;have hbw:=bu hbw hb;clear hb;obtain ⟨ep,_,hge,vs,hsto,hrow⟩:=hbox 9 _ rfl;have ep:T 3=.pointer (some ⟨N 9,0,none⟩):=ep;obtain ⟨ngg,aog,ng,capg,nhg,apg,mg,caqg,rfl,ev⟩:=hsto.frac fv;have gX:=Row.box4 hrow;have gV:RatV W (.agg #[.bool ngg,.slice aog ng capg,.bool nhg,.slice apg mg caqg]) (((1:Int)):Rat):=by rw [← ev]; exact fv
  obtain ⟨gg,hg⟩:∃ gg,gg=N 9:=⟨_,rfl⟩;rw [← hg] at ep gX;clear hg;simp only [ovr,List.setIfInBounds_toArray,List.set_cons_zero,List.set_cons_succ,ep,f11];clear hA f11 ep hbox hNG hne hrow hHG hGW hGo;obtain ⟨wb,rfl⟩:∃ wb:World,wb=W:=⟨_,rfl⟩;go_upto_region 4 with fail;refine wp_region_newx (wx:=wb) (fun _ => False) [(fun _ X _ => X 0=.agg #[.slice (some ⟨g14,0,none⟩) 2 2,.slice a16 2 c16,.slice a18 2 c18]),(fun G X W => ((fun G W v => ∃ n,v=.slice (some ⟨n,0,none⟩) 2 2∧n < W.heap.size∧¬ G n∧UI W (some ⟨n,0,none⟩) [3,0]):(Nat→Prop)→World→Value→Prop) G W (X 1)),(fun G X W => ((FL (zq [3,0])):(Nat→Prop)→World→Value→Prop) G W (X 2)),(fun G X W => ((fun G W v => ∃ a,v=.tuple #[a,.int .i64 0]∧RatV W a (((12:Int)):Rat)):(Nat→Prop)→World→Value→Prop) G W (X 3)),(fun G X W => ((fun G W v => ∃ a,v=.tuple #[a,.int .i64 0]∧RatV W a (((12:Int)):Rat)):(Nat→Prop)→World→Value→Prop) G W (X 4)),(fun G X W => ((FQ (((12:Int)):Rat)):(Nat→Prop)→World→Value→Prop) G W (X 5)),(fun _ X _ => X 6=.int .i64 0),(fun _ _ _ => True),(fun _ _ _ => True),(fun _ X _ => X 9=.int .i64 0)] [some 36,some 37,some 38,some 39,some 35,some 40,some 41,some 5,none,some 6] [none,none,none,none,none,none,none,some ⟨8,5,26,[.bool false,.slice none 0 0,.bool false,.slice none 0 0]⟩,none,none] [36,37,38,39,35,40,41,5,6] (by kernel_rfl) (by kernel_rfl) (by kernel_rfl) (by kernel_rfl) (of_decide_eq_true (by kernel_rfl)) (by kernel_rfl) ⟨(by intro u hu k z e; subst e; simp at hu),trivial⟩ (fun b h => h) br ⟨adjX_val _ _ _,(adjX_own (F:=fun G W v => ∃ n,v=.slice (some ⟨n,0,none⟩) 2 2∧n < W.heap.size∧¬ G n∧UI W (some ⟨n,0,none⟩) [3,0]) fun G G' W W' v ⟨n,e,hl,hg,h⟩ hk hn hG => ⟨n,e,Nat.lt_of_lt_of_le hl hk.size,fun hh => hg (hG _ hl hh),h.kept hk hg⟩),adjX_fl _,(adjX_own (F:=fun G W v => ∃ a,v=.tuple #[a,.int .i64 0]∧RatV W a (((12:Int)):Rat)) fun G G' W W' v ⟨a,e,h⟩ hk hn hG => ⟨a,e,h.kept hk hn⟩),(adjX_own (F:=fun G W v => ∃ a,v=.tuple #[a,.int .i64 0]∧RatV W a (((12:Int)):Rat)) fun G G' W W' v ⟨a,e,h⟩ hk hn hG => ⟨a,e,h.kept hk hn⟩),adjX_fq _,adjX_val _ _ _,adjX_true _,adjX_true _,adjX_val _ _ _,trivial⟩ ⟨⟨fun _ _ _ => trivial,fun _ _ _ => trivial⟩,trivial⟩ ⟨?s0,?s1,?s2,?s3,?s4,?s5,?s6,?s7,?s8,?s9,trivial⟩ ⟨?b7,trivial⟩ ?he
  case s0 =>
   rintro - G T W hb hHG hGW hGo hNG hA K hK;obtain ⟨x0,x1,x2⟩:=(rP.below hb).n3;simp only [ovr,Act.put,List.setIfInBounds_toArray,List.set_cons_zero,List.set_cons_succ] at hK ⊢;have HK:=hii hK;clear hK hA;refine wO rfl (by rfl) ?_;go_simp;exact HK.out _ _ br fun X hX _ => hX
  case s1 =>
   rintro - G T W hb hHG hGW hGo hNG hA K hK;simp only [ovr,Act.put,List.setIfInBounds_toArray,List.set_cons_zero,List.set_cons_succ] at hK ⊢;have HK:=hii hK;clear hK hA;refine wO rfl (by rfl) ?_;go_simp;have hU1:=ui_two W 3 0;have hb1:=bA W (.cells #[.int .i64 3,.int .i64 0] 2);have hlt1:W.heap.size < (W.alloc (.cells #[.int .i64 3,.int .i64 0] 2)).heap.size:=by simp
   have hng:¬ G W.heap.size:=fun hh => absurd (hGW _ hh) (Nat.lt_irrefl _)
   obtain ⟨w1,hw1⟩:∃ w1,w1=W.alloc (.cells #[.int .i64 3,.int .i64 0] 2):=⟨_,rfl⟩;rw [← hw1] at hU1 hb1 hlt1 ⊢
   try dsimp only
   exact HK.out _ _ (hb1) fun X hX _ => by
    show ((fun G W v => ∃ n,v=.slice (some ⟨n,0,none⟩) 2 2∧n < W.heap.size∧¬ G n∧UI W (some ⟨n,0,none⟩) [3,0]):(Nat→Prop)→World→Value→Prop) G _ (X 1)
    rw [hX];exact ⟨_,rfl,hlt1,hng,hU1⟩
  case s2 =>
   rintro - G T W hb hHG hGW hGo hNG hA K hK;have r1:((fun G W v => ∃ n,v=.slice (some ⟨n,0,none⟩) 2 2∧n < W.heap.size∧¬ G n∧UI W (some ⟨n,0,none⟩) [3,0]):(Nat→Prop)→World→Value→Prop) G W (T 37):=hA.1;obtain ⟨n3,e1,_,_,hU⟩:=r1;simp only [ovr,Act.put,List.setIfInBounds_toArray,List.set_cons_zero,List.set_cons_succ,e1] at hK ⊢;have HK:=hii hK;clear hK hA;refine wO rfl (by rfl) ?_;go_simp;(with_reducible refine (list14_any [3,0] 2 rfl _ _ W (hii (by intro z hz; simp at hz; rcases hz with rfl | rfl <;> decide)) (by decide) hU (hE.mono hb)).mono ?_);rintro e w1 ⟨⟨ao,cap,rfl,ha,hu⟩,hb1⟩
   try dsimp only
   exact HK.out _ _ (hb1) fun X hX _ => by
    show ((FL (zq [3,0])):(Nat→Prop)→World→Value→Prop) G _ (X 2)
    rw [hX];exact ⟨ao,cap,rfl,fun a h => ⟨(ha a h).2,fun hh => absurd (hGW _ hh) (by have:=(ha a h).1; omega)⟩,hu⟩
  case s3 =>
   rintro - G T W hb hHG hGW hGo hNG hA K hK;have e0:T 36=.agg #[.slice (some ⟨g14,0,none⟩) 2 2,.slice a16 2 c16,.slice a18 2 c18]:=hA.1;have r2:((FL (zq [3,0])):(Nat→Prop)→World→Value→Prop) G W (T 38):=hA.2.1;obtain ⟨ao4,cap4,e2,_,hu4⟩:=r2;simp only [ovr,Act.put,List.setIfInBounds_toArray,List.set_cons_zero,List.set_cons_succ,e0,e2] at hK ⊢;have HK:=hii hK;clear hK hA;refine wO rfl (by rfl) ?_;go_simp;have hG:=(show Calls Tryz.prog 14 #[.agg #[.slice (some ⟨g14,0,none⟩) 2 2,.slice a16 2 c16,.slice a18 2 c18],.slice ao4 2 cap4] W (fun e w' => ResE (bndR pA (zq [3,0])) w' e∧Below W.heap.size W w') from Bound_any pA (zq [3,0]) _ ao4 cap4 W (hP.mono hb) (by decide) (by decide) hu4 (hE.mono hb));rw [aw_bnd] at hG
   show Calls Tryz.prog 14 #[.agg #[.slice (some ⟨g14,0,none⟩) 2 2,.slice a16 2 c16,.slice a18 2 c18],.slice ao4 2 cap4] W _
   (with_reducible refine hG.mono ?_);rintro e w1 ⟨hr,hb1⟩;have hr:GotQ w1 (((12:Int)):Rat) e:=hr;obtain ⟨ng5,ao5,n5,cap5,nh5,ap5,m5,caq5,rfl,h1,h2⟩:=hr;have hv5:RatV w1 (.agg #[.bool ng5,.slice ao5 n5 cap5,.bool nh5,.slice ap5 m5 caq5]) (((12:Int)):Rat):=⟨_,_,_,_,_,_,_,_,rfl,h1.out,h2.out⟩
   try dsimp only
   exact HK.out _ _ (hb1) fun X hX _ => by
    show ((fun G W v => ∃ a,v=.tuple #[a,.int .i64 0]∧RatV W a (((12:Int)):Rat)):(Nat→Prop)→World→Value→Prop) G _ (X 3)
    rw [hX];exact ⟨_,rfl,hv5⟩
  case s4 =>
   rintro - G T W hb hHG hGW hGo hNG hA K hK;have r3:((fun G W v => ∃ a,v=.tuple #[a,.int .i64 0]∧RatV W a (((12:Int)):Rat)):(Nat→Prop)→World→Value→Prop) G W (T 39):=hA.1;obtain ⟨a5,e3,h5⟩:=r3;simp only [ovr,Act.put,List.setIfInBounds_toArray,List.set_cons_zero,List.set_cons_succ,e3] at hK ⊢;have HK:=hii hK;clear hK hA;refine wO rfl (by rfl) ?_;go_simp;exact HK.out _ _ br fun X hX _ => by
    show ((fun G W v => ∃ a,v=.tuple #[a,.int .i64 0]∧RatV W a (((12:Int)):Rat)):(Nat→Prop)→World→Value→Prop) G _ (X 4)
    rw [hX];exact ⟨_,rfl,h5⟩
  case s5 =>
   rintro - G T W hb hHG hGW hGo hNG hA K hK;have r4:((fun G W v => ∃ a,v=.tuple #[a,.int .i64 0]∧RatV W a (((12:Int)):Rat)):(Nat→Prop)→World→Value→Prop) G W (T 35):=hA.1;obtain ⟨a6,e4,h6⟩:=r4;simp only [ovr,Act.put,List.setIfInBounds_toArray,List.set_cons_zero,List.set_cons_succ,e4] at hK ⊢;have HK:=hii hK;clear hK hA;refine wO rfl (by rfl) ?_;go_simp;exact HK.out _ _ br fun X hX _ => by
    show ((FQ (((12:Int)):Rat)):(Nat→Prop)→World→Value→Prop) G _ (X 5)
    rw [hX];exact h6
  case s6 =>
   rintro - G T W hb hHG hGW hGo hNG hA K hK;have r4:((fun G W v => ∃ a,v=.tuple #[a,.int .i64 0]∧RatV W a (((12:Int)):Rat)):(Nat→Prop)→World→Value→Prop) G W (T 35):=hA.1;obtain ⟨a6,e4,h6⟩:=r4;simp only [ovr,Act.put,List.setIfInBounds_toArray,List.set_cons_zero,List.set_cons_succ,e4] at hK ⊢;have HK:=hii hK;clear hK hA;refine wO rfl (by rfl) ?_;go_simp;exact HK.out _ _ br fun X hX _ => hX
  case s7 => exact fun h => absurd h (by decide)
  case s8 => exact fun h => absurd h (by decide)
  case s9 =>
   rintro - G T W hb hHG hGW hGo hNG hA K hK;have e6:T 41=.int .i64 0:=hA.1;simp only [ovr,Act.put,List.setIfInBounds_toArray,List.set_cons_zero,List.set_cons_succ,e6] at hK ⊢;have HK:=hii hK;clear hK hA;refine wO rfl (by rfl) ?_;go_simp;exact HK.out _ _ br fun X hX _ => hX
  case b7 =>
   refine ⟨?_,?_⟩
   ·rintro o ho T W K hK;obtain rfl:=Option.some.inj ho;simp only [ovr,Act.put,List.setIfInBounds_toArray,List.set_cons_zero,List.set_cons_succ] at hK ⊢;have HK:=hii hK;clear hK ho;refine wO rfl (by rfl) ?_;go_simp;exact HK.out
   ·rintro o ho G T W nb hA hp hrow K hK;obtain rfl:=Option.some.inj ho;have ep:T 5=.pointer (some ⟨nb,0,none⟩):=hp;have r5:((FQ (((12:Int)):Rat)):(Nat→Prop)→World→Value→Prop) G W (T 40):=hA.2.1;obtain ⟨ng1,ao1,n1,cap1,nh1,ap1,m1,caq1,e5⟩:=(r5:RatV W _ _).parts;have hK:=hK [.bool ng1,.slice ao1 n1 cap1,.bool nh1,.slice ap1 m1 caq1] (.inl e5) rfl (by intro u hu k z e; subst e; simp at hu);simp only [ovr,List.setIfInBounds_toArray,List.set_cons_zero,List.set_cons_succ,ep,e5] at hK ⊢;have HK:=hii hK;clear hK hA ho;have q0:=hrow.cell (k:=0) (by simp);have f0:=hrow.free 0;have q1:=hrow.cell (k:=1) (by simp);have f1:=hrow.free 1;have q2:=hrow.cell (k:=2) (by simp);have f2:=hrow.free 2;have q3:=hrow.cell (k:=3) (by simp);have f3:=hrow.free 3;simp only [List.getElem_cons_zero,List.getElem_cons_succ] at q0 q1 q2 q3;refine wO rfl (by rfl) ?_;go_simp;exact HK.out
  case he =>
   rintro GG N T W hb hHG hGW hGo hbox hNG hne hA;have fv:((FQ (((12:Int)):Rat)):(Nat→Prop)→World→Value→Prop) GG W (T 40):=hA.at 5 (by decide);have f9:T 6=.int .i64 0:=hA.at 9 (by decide);have hE:=hE.mono hb;have rP:=rP.below hb;have hP:=hP.mono hb;have rO:=rO.below hb;have hO:=hO.mono hb;have gX:=gX.mono hb;have gV:=gV.mono hb;have hbw:=bu hbw hb;clear hb;obtain ⟨ep,_,hge,vs,hsto,hrow⟩:=hbox 7 _ rfl;have ep:T 5=.pointer (some ⟨N 7,0,none⟩):=ep;obtain ⟨ngb,aob,nb,capb,nhb,apb,mb,caqb,rfl,ev⟩:=hsto.frac fv;have bX:=Row.box4 hrow;have bV:RatV W (.agg #[.bool ngb,.slice aob nb capb,.bool nhb,.slice apb mb caqb]) (((12:Int)):Rat):=by rw [← ev]; exact fv
   obtain ⟨gb,hg⟩:∃ gb,gb=N 7:=⟨_,rfl⟩;rw [← hg] at ep bX;clear hg;simp only [ovr,List.setIfInBounds_toArray,List.set_cons_zero,List.set_cons_succ,ep,f9];clear hA f9 ep hbox hNG hne hrow hHG hGW hGo;obtain ⟨wc,rfl⟩:∃ wc:World,wc=W:=⟨_,rfl⟩;obtain ⟨y0,y1,y2,y3,y4,y5⟩:=rO.n6;have hF:=dFormat_any (some ((11:Int):Rat)) (zq [3,1]) (zq [2,1]) _ wc (by decide) (by decide) hO hE;rw [aw_fmE,aw_fmT] at hF;have HF:=hii hF;clear hF;go_wp2_with fail;(with_reducible refine (HF.out).mono ?_);rintro e w17 ⟨rfl,hb⟩;have hE:=hE.mono hb;have rP:=rP.below hb;have hP:=hP.mono hb;have rO:=rO.below hb;have hO:=hO.mono hb;have gX:=gX.mono hb;have gV:=gV.mono hb;have bX:=bX.mono hb;have bV:=bV.mono hb;have hbw:=bu hbw hb;clear hb;clear HF y0 y1 y2 y3 y4 y5;go_wp2_with fail;have hU:=ui_two w17 (-1) 1;have hb:=bA w17 (.cells #[.int .i64 (-1),.int .i64 1] 2);obtain ⟨gi,hgi⟩:∃ gi,gi=w17.heap.size:=⟨_,rfl⟩;rw [← hgi] at hU ⊢;clear hgi;generalize w17.alloc (.cells #[.int .i64 (-1),.int .i64 1] 2)=w18 at *;have hE:=hE.mono hb;have rP:=rP.below hb;have hP:=hP.mono hb;have rO:=rO.below hb;have hO:=hO.mono hb;have gX:=gX.mono hb;have gV:=gV.mono hb;have bX:=bX.mono hb;have bV:=bV.mono hb;have hbw:=bu hbw hb;clear hb;(with_reducible refine (list14_any [-1,1] 2 rfl _ _ w18 (hii (by intro z hz; simp at hz; rcases hz with rfl | rfl <;> decide)) (by decide) hU hE).mono ?_);rintro e w19 ⟨⟨a48,c48,rfl,-,u48⟩,hb⟩;have hE:=hE.mono hb;have rP:=rP.below hb;have hP:=hP.mono hb;have rO:=rO.below hb;have hO:=hO.mono hb;have gX:=gX.mono hb;have gV:=gV.mono hb;have bX:=bX.mono hb;have bV:=bV.mono hb;have hbw:=bu hbw hb;clear hb;clear hU;go_wp2_with fail;have hb:=bA w19 (.cells #[.slice a48 2 c48] 27);have r49:Row (w19.alloc (.cells #[.slice a48 2 c48] 27)) w19.heap.size 27 [.slice a48 2 c48]:=heap_alloc_new _ _;have hsz:(w19.alloc (.cells #[.slice a48 2 c48] 27)).heap.size=w19.heap.size + 1:=by simp
   obtain ⟨g49,hg⟩:∃ g49,g49=w19.heap.size:=⟨_,rfl⟩;rw [← hg] at r49 hsz ⊢;clear hg;generalize w19.alloc (.cells #[.slice a48 2 c48] 27)=w20 at *;have hE:=hE.mono hb;have rP:=rP.below hb;have hP:=hP.mono hb;have rO:=rO.below hb;have hO:=hO.mono hb;have gX:=gX.mono hb;have gV:=gV.mono hb;have bX:=bX.mono hb;have bV:=bV.mono hb;have u48:=u48.mono hb;have hbw:=bu hbw hb;clear hb;rw [← hsz];have hU:=ui_one w20 0;have hb:=bA w20 (.cells #[.int .i64 0] 2);obtain ⟨gi,hgi⟩:∃ gi,gi=w20.heap.size:=⟨_,rfl⟩;rw [← hgi] at hU ⊢;clear hgi;generalize w20.alloc (.cells #[.int .i64 0] 2)=w21 at *;have hE:=hE.mono hb;have rP:=rP.below hb;have hP:=hP.mono hb;have rO:=rO.below hb;have hO:=hO.mono hb;have gX:=gX.mono hb;have gV:=gV.mono hb;have bX:=bX.mono hb;have bV:=bV.mono hb;have u48:=u48.mono hb;have r49:=r49.below hb;have hbw:=bu hbw hb;clear hb;clear hsz;(with_reducible refine (list14_any [0] 1 rfl _ _ w21 (hii (by intro z hz; simp at hz; subst hz; decide)) (by decide) hU hE).mono ?_);rintro e w22 ⟨⟨a51,c51,rfl,-,u51⟩,hb⟩;have hE:=hE.mono hb;have rP:=rP.below hb;have hP:=hP.mono hb;have rO:=rO.below hb;have hO:=hO.mono hb;have gX:=gX.mono hb;have gV:=gV.mono hb;have bX:=bX.mono hb;have bV:=bV.mono hb;have u48:=u48.mono hb;have r49:=r49.below hb;have hbw:=bu hbw hb;clear hb;clear hU;go_wp2_with fail;have hU:=ui_two w22 3 2;have hb:=bA w22 (.cells #[.int .i64 3,.int .i64 2] 2);obtain ⟨gi,hgi⟩:∃ gi,gi=w22.heap.size:=⟨_,rfl⟩;rw [← hgi] at hU ⊢;clear hgi;generalize w22.alloc (.cells #[.int .i64 3,.int .i64 2] 2)=w23 at *;have hE:=hE.mono hb;have rP:=rP.below hb;have hP:=hP.mono hb;have rO:=rO.below hb;have hO:=hO.mono hb;have gX:=gX.mono hb;have gV:=gV.mono hb;have bX:=bX.mono hb;have bV:=bV.mono hb;have u48:=u48.mono hb;have r49:=r49.below hb;have u51:=u51.mono hb;have hbw:=bu hbw hb;clear hb;(with_reducible refine (list14_any [3,2] 2 rfl _ _ w23 (hii (by intro z hz; simp at hz; rcases hz with rfl | rfl <;> decide)) (by decide) hU hE).mono ?_);rintro e w24 ⟨⟨a53,c53,rfl,-,u53⟩,hb⟩;have hE:=hE.mono hb;have rP:=rP.below hb;have hP:=hP.mono hb;have rO:=rO.below hb;have hO:=hO.mono hb;have gX:=gX.mono hb;have gV:=gV.mono hb;have bX:=bX.mono hb;have bV:=bV.mono hb;have u48:=u48.mono hb;have r49:=r49.below hb;have u51:=u51.mono hb;have hbw:=bu hbw hb;clear hb;clear hU;go_upto_region 7 with fail;have hb:=bA w24 (.cells #[.slice (some ⟨g49,0,none⟩) 1 1,.slice a51 1 c51,.slice a53 2 c53] 42);have rQ:Row (w24.alloc (.cells #[.slice (some ⟨g49,0,none⟩) 1 1,.slice a51 1 c51,.slice a53 2 c53] 42)) w24.heap.size 42 [.slice (some ⟨g49,0,none⟩) 1 1,.slice a51 1 c51,.slice a53 2 c53]:=heap_alloc_new _ _;obtain ⟨gQ,hg⟩:∃ gQ,gQ=w24.heap.size:=⟨_,rfl⟩;rw [← hg] at rQ  ⊢;clear hg;generalize w24.alloc (.cells #[.slice (some ⟨g49,0,none⟩) 1 1,.slice a51 1 c51,.slice a53 2 c53] 42)=w25 at *;have hE:=hE.mono hb;have rP:=rP.below hb;have hP:=hP.mono hb;have rO:=rO.below hb;have hO:=hO.mono hb;have gX:=gX.mono hb;have gV:=gV.mono hb;have bX:=bX.mono hb;have bV:=bV.mono hb;have u48:=u48.mono hb;have r49:=r49.below hb;have u51:=u51.mono hb;have u53:=u53.mono hb;have hbw:=bu hbw hb;clear hb;have hQ:PrgV w25 (.agg #[.slice (some ⟨g49,0,none⟩) 1 1,.slice a51 1 c51,.slice a53 2 c53]) qA:=by
    refine ⟨some ⟨g49,0,none⟩,1,a51,c51,a53,c53,rfl,?_,u51,u53⟩;intro i row hi
    match i,hi with
    | 0,hi => simp [qA,zP] at hi; subst hi; exact ⟨g49,0,a48,c48,rfl,r49.cell (k:=0) (by simp),u48⟩
    | i + 1,hi => simp [qA,zP] at hi
   clear u48 u51 u53 r49;obtain ⟨wd,rfl⟩:∃ wd:World,wd=w25:=⟨_,rfl⟩;refine wp_region_vals (wx:=wd) [(fun _ v => v=.agg #[.slice (some ⟨g14,0,none⟩) 2 2,.slice a16 2 c16,.slice a18 2 c18]),(fun _ v => v=.agg #[.bool ng20,.slice ao20 n20 cap20,.bool nh20,.slice ap20 m20 caq20,.slice a22 2 c22,.slice a24 2 c24]),(fun _ v => v=.bool true),(fun _ v => v=.bool true),(fun _ v => v=.agg #[.slice (some ⟨g14,0,none⟩) 2 2,.slice a16 2 c16,.slice a18 2 c18]),(fun _ v => v=.agg #[.bool ng20,.slice ao20 n20 cap20,.bool nh20,.slice ap20 m20 caq20,.slice a22 2 c22,.slice a24 2 c24]),(fun _ v => v=.bool true),(fun _ v => v=.bool true),(fun _ v => v=.bool true),(fun _ v => v=.int .i64 0),(fun _ v => v=.bool true),(fun _ v => v=.bool true),(fun _ v => v=.bool true),(fun _ v => v=.agg #[.bool ngg,.slice aog ng capg,.bool nhg,.slice apg mg caqg]),(fun W v => RatV W v (((1:Int)):Rat)),(fun _ v => v=.bool true),(fun _ v => v=.bool true),(fun _ v => v=.bool true),(fun _ v => v=.int .i64 0),(fun _ v => v=.bool true),(fun _ v => v=.bool true),(fun _ v => v=.bool true),(fun _ v => v=.agg #[.bool ngb,.slice aob nb capb,.bool nhb,.slice apb mb caqb]),(fun W v => RatV W v (((12:Int)):Rat)),(fun _ v => v=.bool true),(fun _ v => v=.bool true),(fun _ v => v=.bool true),(fun _ v => v=.int .i64 0),(fun _ v => v=.bool true),(fun _ v => v=.bool true),(fun _ v => v=.bool true),(fun _ v => v=.string ⟨#[49,49,59,32,51,32,49,59,32,50,32,49]⟩),(fun _ v => v=.bool true),(fun _ v => v=.bool true),(fun _ v => v=.bool true),(fun _ v => v=.agg #[.slice (some ⟨g49,0,none⟩) 1 1,.slice a51 1 c51,.slice a53 2 c53]),(IU2 1 0),(LU 2 [1,0]),(fun _ v => v=.bool true),(fun _ v => v=.bool true),(fun _ v => v=.bool true),(fun _ v => v=.agg #[.slice (some ⟨g14,0,none⟩) 2 2,.slice a16 2 c16,.slice a18 2 c18]),(IU2 1 0),(LU 2 [1,0]),(fun _ v => v=.bool false),(fun _ v => v=.bool true),(fun _ v => v=.bool true),(fun _ v => v=.bool true)] [55,56,57,58,59,60,61,62,63,64,65,66,67,68,69,70,71,72,73,74,75,76,77,78,79,80,81,82,83,84,85,86,87,88,89,90,91,92,93,94,95,96,97,98,99,100,101,0] (by kernel_rfl) (by kernel_rfl) (by kernel_rfl) (of_decide_eq_true (by kernel_rfl)) br ⟨sV _,sV _,sV _,sV _,sV _,sV _,sV _,sV _,sV _,sV _,sV _,sV _,sV _,sV _,fun _ _ _ h hb => RatV.mono h hb,sV _,sV _,sV _,sV _,sV _,sV _,sV _,sV _,fun _ _ _ h hb => RatV.mono h hb,sV _,sV _,sV _,sV _,sV _,sV _,sV _,sV _,sV _,sV _,sV _,sV _,fun _ _ _ h hb => IU2.mono h hb,fun _ _ _ h hb => LU.mono h hb,sV _,sV _,sV _,sV _,fun _ _ _ h hb => IU2.mono h hb,fun _ _ _ h hb => LU.mono h hb,sV _,sV _,sV _,sV _,trivial⟩ ⟨?s0,?s1,?s2,?s3,?s4,?s5,?s6,?s7,?s8,?s9,?s10,?s11,?s12,?s13,?s14,?s15,?s16,?s17,?s18,?s19,?s20,?s21,?s22,?s23,?s24,?s25,?s26,?s27,?s28,?s29,?s30,?s31,?s32,?s33,?s34,?s35,?s36,?s37,?s38,?s39,?s40,?s41,?s42,?s43,?s44,?s45,?s46,?s47,trivial⟩ ?he
   case s0 =>
    rintro T W hb hA K hK;simp only [ovr,Act.put,List.setIfInBounds_toArray,List.set_cons_zero,List.set_cons_succ] at hK ⊢;have HK:=hii hK;clear hK hA;obtain ⟨x0,x1,x2⟩:=(rP.below hb).n3;refine wO rfl (by rfl) ?_;go_simp;exact HK.out _ _ br (rfl)
   case s1 =>
    rintro T W hb hA K hK;simp only [ovr,Act.put,List.setIfInBounds_toArray,List.set_cons_zero,List.set_cons_succ] at hK ⊢;have HK:=hii hK;clear hK hA;obtain ⟨y0,y1,y2,y3,y4,y5⟩:=(rO.below hb).n6;refine wO rfl (by rfl) ?_;go_simp;exact HK.out _ _ br (rfl)
   case s2 =>
    rintro T W hb hA K hK;have e0:T 55=.agg #[.slice (some ⟨g14,0,none⟩) 2 2,.slice a16 2 c16,.slice a18 2 c18]:=hA.1;have e1:T 56=.agg #[.bool ng20,.slice ao20 n20 cap20,.bool nh20,.slice ap20 m20 caq20,.slice a22 2 c22,.slice a24 2 c24]:=hA.2.1;simp only [ovr,Act.put,List.setIfInBounds_toArray,List.set_cons_zero,List.set_cons_succ,e0,e1] at hK ⊢;have HK:=hii hK;clear hK hA;refine wO rfl (by rfl) ?_;go_simp;have hG:=Optimal_any pA (zq [3,1]) (zq [2,1]) (some ((11:Int):Rat)) _ _ W (hP.mono hb) (hO.mono hb) (by decide) (by decide) (hE.mono hb);rw [aw_opt] at hG;have hG:Calls Tryz.prog 15 #[.agg #[.slice (some ⟨g14,0,none⟩) 2 2,.slice a16 2 c16,.slice a18 2 c18],.agg #[.bool ng20,.slice ao20 n20 cap20,.bool nh20,.slice ap20 m20 caq20,.slice a22 2 c22,.slice a24 2 c24]] W (fun e w' => e=.returned (.bool true)∧Below W.heap.size W w'):=hG;(with_reducible refine hG.mono ?_);rintro e w1 ⟨rfl,hb1⟩
    try dsimp only
    exact HK.out _ _ hb1 (rfl)
   case s3 =>
    rintro T W hb hA K hK;have e2:T 57=.bool true:=hA.1;simp only [ovr,Act.put,List.setIfInBounds_toArray,List.set_cons_zero,List.set_cons_succ,e2] at hK ⊢;have HK:=hii hK;clear hK hA;refine wO rfl (by rfl) ?_;go_simp;exact HK.out _ _ br (rfl)
   case s4 =>
    rintro T W hb hA K hK;have e3:T 58=.bool true:=hA.1;simp only [ovr,Act.put,List.setIfInBounds_toArray,List.set_cons_zero,List.set_cons_succ,e3] at hK ⊢;have HK:=hii hK;clear hK hA;obtain ⟨x0,x1,x2⟩:=(rP.below hb).n3;refine wO rfl (by rfl) ?_;go_simp;exact HK.out _ _ br (rfl)
   case s5 =>
    rintro T W hb hA K hK;have e3:T 58=.bool true:=hA.1;simp only [ovr,Act.put,List.setIfInBounds_toArray,List.set_cons_zero,List.set_cons_succ,e3] at hK ⊢;have HK:=hii hK;clear hK hA;obtain ⟨y0,y1,y2,y3,y4,y5⟩:=(rO.below hb).n6;refine wO rfl (by rfl) ?_;go_simp;exact HK.out _ _ br (rfl)
   case s6 =>
    rintro T W hb hA K hK;have e4:T 59=.agg #[.slice (some ⟨g14,0,none⟩) 2 2,.slice a16 2 c16,.slice a18 2 c18]:=hA.1;have e5:T 60=.agg #[.bool ng20,.slice ao20 n20 cap20,.bool nh20,.slice ap20 m20 caq20,.slice a22 2 c22,.slice a24 2 c24]:=hA.2.1;have e3:T 58=.bool true:=hA.2.2.1;simp only [ovr,Act.put,List.setIfInBounds_toArray,List.set_cons_zero,List.set_cons_succ,e4,e5,e3] at hK ⊢;have HK:=hii hK;clear hK hA;refine wO rfl (by rfl) ?_;go_simp;have hG:=Slack_any pA (zq [3,1]) (zq [2,1]) (some ((11:Int):Rat)) _ _ W (hP.mono hb) (hO.mono hb) (by decide) (by decide) (hE.mono hb);rw [aw_slack] at hG;have hG:Calls Tryz.prog 16 #[.agg #[.slice (some ⟨g14,0,none⟩) 2 2,.slice a16 2 c16,.slice a18 2 c18],.agg #[.bool ng20,.slice ao20 n20 cap20,.bool nh20,.slice ap20 m20 caq20,.slice a22 2 c22,.slice a24 2 c24]] W (fun e w' => e=.returned (.bool true)∧Below W.heap.size W w'):=hG;(with_reducible refine hG.mono ?_);rintro e w1 ⟨rfl,hb1⟩
    try dsimp only
    exact HK.out _ _ hb1 (rfl)
   case s7 =>
    rintro T W hb hA K hK;have e3:T 58=.bool true:=hA.1;have e6:T 61=.bool true:=hA.2.1;simp only [ovr,Act.put,List.setIfInBounds_toArray,List.set_cons_zero,List.set_cons_succ,e3,e6] at hK ⊢;have HK:=hii hK;clear hK hA;refine wO rfl (by rfl) ?_;go_simp;exact HK.out _ _ br (rfl)
   case s8 =>
    rintro T W hb hA K hK;have e7:T 62=.bool true:=hA.1;simp only [ovr,Act.put,List.setIfInBounds_toArray,List.set_cons_zero,List.set_cons_succ,e7] at hK ⊢;have HK:=hii hK;clear hK hA;refine wO rfl (by rfl) ?_;go_simp;exact HK.out _ _ br (rfl)
   case s9 =>
    rintro T W hb hA K hK;have e8:T 63=.bool true:=hA.1;simp only [ovr,Act.put,List.setIfInBounds_toArray,List.set_cons_zero,List.set_cons_succ,e8] at hK ⊢;have HK:=hii hK;clear hK hA;refine wO rfl (by rfl) ?_;go_simp;exact HK.out _ _ br (rfl)
   case s10 =>
    rintro T W hb hA K hK;have e9:T 64=.int .i64 0:=hA.1;have e8:T 63=.bool true:=hA.2.1;simp only [ovr,Act.put,List.setIfInBounds_toArray,List.set_cons_zero,List.set_cons_succ,e9,e8] at hK ⊢;have HK:=hii hK;clear hK hA;refine wO rfl (by rfl) ?_;go_simp;exact HK.out _ _ br (rfl)
   case s11 =>
    rintro T W hb hA K hK;have e8:T 63=.bool true:=hA.1;have e10:T 65=.bool true:=hA.2.1;simp only [ovr,Act.put,List.setIfInBounds_toArray,List.set_cons_zero,List.set_cons_succ,e8,e10] at hK ⊢;have HK:=hii hK;clear hK hA;refine wO rfl (by rfl) ?_;go_simp;exact HK.out _ _ br (rfl)
   case s12 =>
    rintro T W hb hA K hK;have e11:T 66=.bool true:=hA.1;simp only [ovr,Act.put,List.setIfInBounds_toArray,List.set_cons_zero,List.set_cons_succ,e11] at hK ⊢;have HK:=hii hK;clear hK hA;refine wO rfl (by rfl) ?_;go_simp;exact HK.out _ _ br (rfl)
   case s13 =>
    rintro T W hb hA K hK;have e12:T 67=.bool true:=hA.1;simp only [ovr,Act.put,List.setIfInBounds_toArray,List.set_cons_zero,List.set_cons_succ,e12] at hK ⊢;have HK:=hii hK;clear hK hA;have k0:=(gX.mono hb).c0;have k1:=(gX.mono hb).c1;have k2:=(gX.mono hb).c2;have k3:=(gX.mono hb).c3;refine wO rfl (by rfl) ?_;go_simp;exact HK.out _ _ br (rfl)
   case s14 =>
    rintro T W hb hA K hK;have e12:T 67=.bool true:=hA.1;simp only [ovr,Act.put,List.setIfInBounds_toArray,List.set_cons_zero,List.set_cons_succ,e12] at hK ⊢;have HK:=hii hK;clear hK hA;refine wO rfl (by rfl) ?_;go_simp;(with_reducible refine (rnum_any 1 (by decide) (by decide) W (hE.mono hb)).mono ?_);rintro e w1 ⟨hz,hb1⟩;obtain ⟨ng1,ao1,n1,cap1,nh1,ap1,m1,caq1,rfl,hv0⟩:=hz.rat
    try dsimp only
    exact HK.out _ _ hb1 (hv0)
   case s15 =>
    rintro T W hb hA K hK;have e13:T 68=.agg #[.bool ngg,.slice aog ng capg,.bool nhg,.slice apg mg caqg]:=hA.1;have r14:((fun W v => RatV W v (((1:Int)):Rat)):World→Value→Prop) W (T 69):=hA.2.1;have e12:T 67=.bool true:=hA.2.2.2.1;simp only [ovr,Act.put,List.setIfInBounds_toArray,List.set_cons_zero,List.set_cons_succ,e13,e12] at hK ⊢;have HK:=hii hK;clear hK hA;obtain ⟨ng1,ao1,n1,cap1,nh1,ap1,m1,caq1,e14⟩:=(r14:RatV W _ _).parts;have hv0:RatV W _ _:=r14;rw [e14] at hv0;simp only [e14] at HK ⊢;refine wO rfl (by rfl) ?_;go_simp;(with_reducible refine (eqQ_ok _ _ _ W (gV.mono hb) hv0 (hE.mono hb)).mono ?_);rintro e w1 ⟨rfl,hb1⟩
    try dsimp only
    exact HK.out _ _ hb1 (rfl)
   case s16 =>
    rintro T W hb hA K hK;have e12:T 67=.bool true:=hA.1;have e15:T 70=.bool true:=hA.2.1;simp only [ovr,Act.put,List.setIfInBounds_toArray,List.set_cons_zero,List.set_cons_succ,e12,e15] at hK ⊢;have HK:=hii hK;clear hK hA;refine wO rfl (by rfl) ?_;go_simp;exact HK.out _ _ br (rfl)
   case s17 =>
    rintro T W hb hA K hK;have e16:T 71=.bool true:=hA.1;simp only [ovr,Act.put,List.setIfInBounds_toArray,List.set_cons_zero,List.set_cons_succ,e16] at hK ⊢;have HK:=hii hK;clear hK hA;refine wO rfl (by rfl) ?_;go_simp;exact HK.out _ _ br (rfl)
   case s18 =>
    rintro T W hb hA K hK;have e17:T 72=.bool true:=hA.1;simp only [ovr,Act.put,List.setIfInBounds_toArray,List.set_cons_zero,List.set_cons_succ,e17] at hK ⊢;have HK:=hii hK;clear hK hA;refine wO rfl (by rfl) ?_;go_simp;exact HK.out _ _ br (rfl)
   case s19 =>
    rintro T W hb hA K hK;have e18:T 73=.int .i64 0:=hA.1;have e17:T 72=.bool true:=hA.2.1;simp only [ovr,Act.put,List.setIfInBounds_toArray,List.set_cons_zero,List.set_cons_succ,e18,e17] at hK ⊢;have HK:=hii hK;clear hK hA;refine wO rfl (by rfl) ?_;go_simp;exact HK.out _ _ br (rfl)
   case s20 =>
    rintro T W hb hA K hK;have e17:T 72=.bool true:=hA.1;have e19:T 74=.bool true:=hA.2.1;simp only [ovr,Act.put,List.setIfInBounds_toArray,List.set_cons_zero,List.set_cons_succ,e17,e19] at hK ⊢;have HK:=hii hK;clear hK hA;refine wO rfl (by rfl) ?_;go_simp;exact HK.out _ _ br (rfl)
   case s21 =>
    rintro T W hb hA K hK;have e20:T 75=.bool true:=hA.1;simp only [ovr,Act.put,List.setIfInBounds_toArray,List.set_cons_zero,List.set_cons_succ,e20] at hK ⊢;have HK:=hii hK;clear hK hA;refine wO rfl (by rfl) ?_;go_simp;exact HK.out _ _ br (rfl)
   case s22 =>
    rintro T W hb hA K hK;have e21:T 76=.bool true:=hA.1;simp only [ovr,Act.put,List.setIfInBounds_toArray,List.set_cons_zero,List.set_cons_succ,e21] at hK ⊢;have HK:=hii hK;clear hK hA;have k0:=(bX.mono hb).c0;have k1:=(bX.mono hb).c1;have k2:=(bX.mono hb).c2;have k3:=(bX.mono hb).c3;refine wO rfl (by rfl) ?_;go_simp;exact HK.out _ _ br (rfl)
   case s23 =>
    rintro T W hb hA K hK;have e21:T 76=.bool true:=hA.1;simp only [ovr,Act.put,List.setIfInBounds_toArray,List.set_cons_zero,List.set_cons_succ,e21] at hK ⊢;have HK:=hii hK;clear hK hA;refine wO rfl (by rfl) ?_;go_simp;(with_reducible refine (rnum_any 12 (by decide) (by decide) W (hE.mono hb)).mono ?_);rintro e w1 ⟨hz,hb1⟩;obtain ⟨ng1,ao1,n1,cap1,nh1,ap1,m1,caq1,rfl,hv0⟩:=hz.rat
    try dsimp only
    exact HK.out _ _ hb1 (hv0)
   case s24 =>
    rintro T W hb hA K hK;have e22:T 77=.agg #[.bool ngb,.slice aob nb capb,.bool nhb,.slice apb mb caqb]:=hA.1;have r23:((fun W v => RatV W v (((12:Int)):Rat)):World→Value→Prop) W (T 78):=hA.2.1;have e21:T 76=.bool true:=hA.2.2.2.1;simp only [ovr,Act.put,List.setIfInBounds_toArray,List.set_cons_zero,List.set_cons_succ,e22,e21] at hK ⊢;have HK:=hii hK;clear hK hA;obtain ⟨ng1,ao1,n1,cap1,nh1,ap1,m1,caq1,e23⟩:=(r23:RatV W _ _).parts;have hv0:RatV W _ _:=r23;rw [e23] at hv0;simp only [e23] at HK ⊢;refine wO rfl (by rfl) ?_;go_simp;(with_reducible refine (eqQ_ok _ _ _ W (bV.mono hb) hv0 (hE.mono hb)).mono ?_);rintro e w1 ⟨rfl,hb1⟩
    try dsimp only
    exact HK.out _ _ hb1 (rfl)
   case s25 =>
    rintro T W hb hA K hK;have e21:T 76=.bool true:=hA.1;have e24:T 79=.bool true:=hA.2.1;simp only [ovr,Act.put,List.setIfInBounds_toArray,List.set_cons_zero,List.set_cons_succ,e21,e24] at hK ⊢;have HK:=hii hK;clear hK hA;refine wO rfl (by rfl) ?_;go_simp;exact HK.out _ _ br (rfl)
   case s26 =>
    rintro T W hb hA K hK;have e25:T 80=.bool true:=hA.1;simp only [ovr,Act.put,List.setIfInBounds_toArray,List.set_cons_zero,List.set_cons_succ,e25] at hK ⊢;have HK:=hii hK;clear hK hA;refine wO rfl (by rfl) ?_;go_simp;exact HK.out _ _ br (rfl)
   case s27 =>
    rintro T W hb hA K hK;have e26:T 81=.bool true:=hA.1;simp only [ovr,Act.put,List.setIfInBounds_toArray,List.set_cons_zero,List.set_cons_succ,e26] at hK ⊢;have HK:=hii hK;clear hK hA;refine wO rfl (by rfl) ?_;go_simp;exact HK.out _ _ br (rfl)
   case s28 =>
    rintro T W hb hA K hK;have e27:T 82=.int .i64 0:=hA.1;have e26:T 81=.bool true:=hA.2.1;simp only [ovr,Act.put,List.setIfInBounds_toArray,List.set_cons_zero,List.set_cons_succ,e27,e26] at hK ⊢;have HK:=hii hK;clear hK hA;refine wO rfl (by rfl) ?_;go_simp;exact HK.out _ _ br (rfl)
   case s29 =>
    rintro T W hb hA K hK;have e26:T 81=.bool true:=hA.1;have e28:T 83=.bool true:=hA.2.1;simp only [ovr,Act.put,List.setIfInBounds_toArray,List.set_cons_zero,List.set_cons_succ,e26,e28] at hK ⊢;have HK:=hii hK;clear hK hA;refine wO rfl (by rfl) ?_;go_simp;exact HK.out _ _ br (rfl)
   case s30 =>
    rintro T W hb hA K hK;have e29:T 84=.bool true:=hA.1;simp only [ovr,Act.put,List.setIfInBounds_toArray,List.set_cons_zero,List.set_cons_succ,e29] at hK ⊢;have HK:=hii hK;clear hK hA;refine wO rfl (by rfl) ?_;go_simp;exact HK.out _ _ br (rfl)
   case s31 =>
    rintro T W hb hA K hK;have e30:T 85=.bool true:=hA.1;simp only [ovr,Act.put,List.setIfInBounds_toArray,List.set_cons_zero,List.set_cons_succ,e30] at hK ⊢;have HK:=hii hK;clear hK hA;refine wO rfl (by rfl) ?_;go_simp;exact HK.out _ _ br (rfl)
   case s32 =>
    rintro T W hb hA K hK;have e31:T 86=.string ⟨#[49,49,59,32,51,32,49,59,32,50,32,49]⟩:=hA.1;have e30:T 85=.bool true:=hA.2.1;simp only [ovr,Act.put,List.setIfInBounds_toArray,List.set_cons_zero,List.set_cons_succ,e31,e30] at hK ⊢;have HK:=hii hK;clear hK hA;refine wO rfl (by rfl) ?_;go_simp;exact HK.out _ _ br (rfl)
   case s33 =>
    rintro T W hb hA K hK;have e30:T 85=.bool true:=hA.1;have e32:T 87=.bool true:=hA.2.1;simp only [ovr,Act.put,List.setIfInBounds_toArray,List.set_cons_zero,List.set_cons_succ,e30,e32] at hK ⊢;have HK:=hii hK;clear hK hA;refine wO rfl (by rfl) ?_;go_simp;exact HK.out _ _ br (rfl)
   case s34 =>
    rintro T W hb hA K hK;have e33:T 88=.bool true:=hA.1;simp only [ovr,Act.put,List.setIfInBounds_toArray,List.set_cons_zero,List.set_cons_succ,e33] at hK ⊢;have HK:=hii hK;clear hK hA;refine wO rfl (by rfl) ?_;go_simp;exact HK.out _ _ br (rfl)
   case s35 =>
    rintro T W hb hA K hK;have e34:T 89=.bool true:=hA.1;simp only [ovr,Act.put,List.setIfInBounds_toArray,List.set_cons_zero,List.set_cons_succ,e34] at hK ⊢;have HK:=hii hK;clear hK hA;obtain ⟨x0,x1,x2⟩:=(rQ.below hb).n3;refine wO rfl (by rfl) ?_;go_simp;exact HK.out _ _ br (rfl)
   case s36 =>
    rintro T W hb hA K hK;have e34:T 89=.bool true:=hA.1;simp only [ovr,Act.put,List.setIfInBounds_toArray,List.set_cons_zero,List.set_cons_succ,e34] at hK ⊢;have HK:=hii hK;clear hK hA;refine wO rfl (by rfl) ?_;go_simp;have hU1:=ui_two W 1 0;have hb1:=bA W (.cells #[.int .i64 1,.int .i64 0] 2);obtain ⟨w1,hw1⟩:∃ w1,w1=W.alloc (.cells #[.int .i64 1,.int .i64 0] 2):=⟨_,rfl⟩;rw [← hw1] at hU1 hb1 ⊢
    try dsimp only
    exact HK.out _ _ hb1 (⟨_,rfl,hU1⟩)
   case s37 =>
    rintro T W hb hA K hK;have r36:((IU2 1 0):World→Value→Prop) W (T 91):=hA.1;have e34:T 89=.bool true:=hA.2.1;simp only [ovr,Act.put,List.setIfInBounds_toArray,List.set_cons_zero,List.set_cons_succ,e34] at hK ⊢;have HK:=hii hK;clear hK hA;obtain ⟨n3,e36,hU⟩:=r36;simp only [e36] at HK ⊢;refine wO rfl (by rfl) ?_;go_simp;(with_reducible refine (list14_any [1,0] 2 rfl _ _ W (hii (by intro z hz; simp at hz; rcases hz with rfl | rfl <;> decide)) (by decide) hU (hE.mono hb)).mono ?_);rintro e w1 ⟨⟨ao,cap,rfl,ha,hu⟩,hb1⟩
    try dsimp only
    exact HK.out _ _ hb1 (⟨ao,cap,rfl,hu⟩)
   case s38 =>
    rintro T W hb hA K hK;have e35:T 90=.agg #[.slice (some ⟨g49,0,none⟩) 1 1,.slice a51 1 c51,.slice a53 2 c53]:=hA.1;have r37:((LU 2 [1,0]):World→Value→Prop) W (T 92):=hA.2.1;have e34:T 89=.bool true:=hA.2.2.2.1;simp only [ovr,Act.put,List.setIfInBounds_toArray,List.set_cons_zero,List.set_cons_succ,e35,e34] at hK ⊢;have HK:=hii hK;clear hK hA;obtain ⟨ao4,cap4,e37,hu4⟩:=r37;simp only [e37] at HK ⊢;refine wO rfl (by rfl) ?_;go_simp;have hG:=Unb_any qA (zq [1,0]) _ ao4 cap4 W (hQ.mono hb) (by decide) hu4 (hE.mono hb);rw [aw_unb] at hG;have hG:Calls Tryz.prog 18 #[.agg #[.slice (some ⟨g49,0,none⟩) 1 1,.slice a51 1 c51,.slice a53 2 c53],.slice ao4 2 cap4] W (fun e w' => e=.returned (.bool true)∧Below W.heap.size W w'):=hG;(with_reducible refine hG.mono ?_);rintro e w1 ⟨rfl,hb1⟩
    try dsimp only
    exact HK.out _ _ hb1 (rfl)
   case s39 =>
    rintro T W hb hA K hK;have e34:T 89=.bool true:=hA.1;have e38:T 93=.bool true:=hA.2.1;simp only [ovr,Act.put,List.setIfInBounds_toArray,List.set_cons_zero,List.set_cons_succ,e34,e38] at hK ⊢;have HK:=hii hK;clear hK hA;refine wO rfl (by rfl) ?_;go_simp;exact HK.out _ _ br (rfl)
   case s40 =>
    rintro T W hb hA K hK;have e39:T 94=.bool true:=hA.1;simp only [ovr,Act.put,List.setIfInBounds_toArray,List.set_cons_zero,List.set_cons_succ,e39] at hK ⊢;have HK:=hii hK;clear hK hA;refine wO rfl (by rfl) ?_;go_simp;exact HK.out _ _ br (rfl)
   case s41 =>
    rintro T W hb hA K hK;have e40:T 95=.bool true:=hA.1;simp only [ovr,Act.put,List.setIfInBounds_toArray,List.set_cons_zero,List.set_cons_succ,e40] at hK ⊢;have HK:=hii hK;clear hK hA;obtain ⟨x0,x1,x2⟩:=(rP.below hb).n3;refine wO rfl (by rfl) ?_;go_simp;exact HK.out _ _ br (rfl)
   case s42 =>
    rintro T W hb hA K hK;have e40:T 95=.bool true:=hA.1;simp only [ovr,Act.put,List.setIfInBounds_toArray,List.set_cons_zero,List.set_cons_succ,e40] at hK ⊢;have HK:=hii hK;clear hK hA;refine wO rfl (by rfl) ?_;go_simp;have hU1:=ui_two W 1 0;have hb1:=bA W (.cells #[.int .i64 1,.int .i64 0] 2);obtain ⟨w1,hw1⟩:∃ w1,w1=W.alloc (.cells #[.int .i64 1,.int .i64 0] 2):=⟨_,rfl⟩;rw [← hw1] at hU1 hb1 ⊢
    try dsimp only
    exact HK.out _ _ hb1 (⟨_,rfl,hU1⟩)
   case s43 =>
    rintro T W hb hA K hK;have r42:((IU2 1 0):World→Value→Prop) W (T 97):=hA.1;have e40:T 95=.bool true:=hA.2.1;simp only [ovr,Act.put,List.setIfInBounds_toArray,List.set_cons_zero,List.set_cons_succ,e40] at hK ⊢;have HK:=hii hK;clear hK hA;obtain ⟨n3,e42,hU⟩:=r42;simp only [e42] at HK ⊢;refine wO rfl (by rfl) ?_;go_simp;(with_reducible refine (list14_any [1,0] 2 rfl _ _ W (hii (by intro z hz; simp at hz; rcases hz with rfl | rfl <;> decide)) (by decide) hU (hE.mono hb)).mono ?_);rintro e w1 ⟨⟨ao,cap,rfl,ha,hu⟩,hb1⟩
    try dsimp only
    exact HK.out _ _ hb1 (⟨ao,cap,rfl,hu⟩)
   case s44 =>
    rintro T W hb hA K hK;have e41:T 96=.agg #[.slice (some ⟨g14,0,none⟩) 2 2,.slice a16 2 c16,.slice a18 2 c18]:=hA.1;have r43:((LU 2 [1,0]):World→Value→Prop) W (T 98):=hA.2.1;have e40:T 95=.bool true:=hA.2.2.2.1;simp only [ovr,Act.put,List.setIfInBounds_toArray,List.set_cons_zero,List.set_cons_succ,e41,e40] at hK ⊢;have HK:=hii hK;clear hK hA;obtain ⟨ao4,cap4,e43,hu4⟩:=r43;simp only [e43] at HK ⊢;refine wO rfl (by rfl) ?_;go_simp;have hG:=Unb_any pA (zq [1,0]) _ ao4 cap4 W (hP.mono hb) (by decide) hu4 (hE.mono hb);rw [aw_unb2] at hG;have hG:Calls Tryz.prog 18 #[.agg #[.slice (some ⟨g14,0,none⟩) 2 2,.slice a16 2 c16,.slice a18 2 c18],.slice ao4 2 cap4] W (fun e w' => e=.returned (.bool false)∧Below W.heap.size W w'):=hG;(with_reducible refine hG.mono ?_);rintro e w1 ⟨rfl,hb1⟩
    try dsimp only
    exact HK.out _ _ hb1 (rfl)
   case s45 =>
    rintro T W hb hA K hK;have e44:T 99=.bool false:=hA.1;have e40:T 95=.bool true:=hA.2.1;simp only [ovr,Act.put,List.setIfInBounds_toArray,List.set_cons_zero,List.set_cons_succ,e44,e40] at hK ⊢;have HK:=hii hK;clear hK hA;refine wO rfl (by rfl) ?_;go_simp;exact HK.out _ _ br (rfl)
   case s46 =>
    rintro T W hb hA K hK;have e40:T 95=.bool true:=hA.1;have e45:T 100=.bool true:=hA.2.1;simp only [ovr,Act.put,List.setIfInBounds_toArray,List.set_cons_zero,List.set_cons_succ,e40,e45] at hK ⊢;have HK:=hii hK;clear hK hA;refine wO rfl (by rfl) ?_;go_simp;exact HK.out _ _ br (rfl)
   case s47 =>
    rintro T W hb hA K hK;have e46:T 101=.bool true:=hA.1;simp only [ovr,Act.put,List.setIfInBounds_toArray,List.set_cons_zero,List.set_cons_succ,e46] at hK ⊢;have HK:=hii hK;clear hK hA;refine wO rfl (by rfl) ?_;go_simp;exact HK.out _ _ br (rfl)
   case he =>
    rintro T W hb hA;have f47:T 0=.bool true:=hA.at 47 (by decide);have hbw:=bu hbw hb;simp only [ovr,List.setIfInBounds_toArray,List.set_cons_zero,List.set_cons_succ,f47];clear hA f47 hb;go_wp2;go_ret;exact ⟨rfl,hbw⟩
end Go.Proofs.YtaedmaifkfhpfaaGreatDoor
