/-
  The reference's vertices: the conditions that are tight, and their rank.
-/
import Derived.Test.YtileholjbdhmjaaGreatDoorVb
import Derived.Test.YtileholjbdhmjaaGreatDoorRq
import Derived.Test.YtileholjbdhmjaaGreatDoorRj
set_option linter.unusedVariables false
set_option linter.unusedSimpArgs false
set_option maxRecDepth 100000
set_option maxHeartbeats 25600000
namespace Go.Proofs.YtileholjbdhmjaaGreatDoor
open Go.RowKit
structure TT (W:World) (B:Nat) (v:Value) (rows:List (List Qo)):Prop where
 ex:∃ xs,OwnR W B v xs∧RowsOf W xs rows∧∀ x∈xs,∀ b,x.ownBlock=some b→v.ownBlock ≠ some b∧b < W.heap.size
theorem TT.nil (W:World) (B:Nat):TT W B (.slice none 0 0) []:=⟨[],OwnR.nil _ _,⟨rfl,fun i row h => by simp at h⟩,fun x h => by simp at h⟩
theorem TT.mono {W W':World} {B:Nat} {v:Value} {rows:List (List Qo)} (h:TT W B v rows) (hb:Below W.heap.size W W'):TT W' B v rows:=by
 obtain ⟨xs,h1,h2,h3⟩:=h.ex;exact ⟨xs,h1.kept (.of_below hb) (G:=fun _ => False) fun _ _ h => h,h2.mono hb,fun x hx b e => ⟨(h3 x hx b e).1,Nat.lt_of_lt_of_le (h3 x hx b e).2 hb.size⟩⟩
theorem TT.read {W:World} {B:Nat} {v:Value} {rows:List (List Qo)} (h:TT W B v rows):∃ ao cap,v=.slice ao rows.length cap∧UM W ao rows:=by
 obtain ⟨xs,h1,h2,_⟩:=h.ex;exact OwnS.um h1.1 h2
theorem TT.lt {W:World} {B:Nat} {v:Value} {rows:List (List Qo)} (h:TT W B v rows):∀ b,v.ownBlock=some b→B≤b∧b < W.heap.size:=by
 obtain ⟨xs,h1,_⟩:=h.ex;exact h1.lt
section
variable {ops : Array Oper} {rest : List Oper} {o : Oper} {a : Act} {Q : Exit → Act → World → Prop}
theorem app_tt (W X:World) (B:Nat) (hgd:o.guard=none) (s x:Operand) (ho:o.op=.call { callee:=.builtin .append,args:=#[s,x],argTypes:=#[27,27] })
  {v:Value} {rows:List (List Qo)} {ar:Option Addr} {nn cr:Nat} {l:List Qo} (hs:a.eval s=v) (hxx:a.eval x=.slice (some ⟨W.heap.size,0,none⟩) 1 1) (hT:TT W B v rows) (hnl:nn=l.length) (hu:UQ W ar l) (hsp:∀ b,(Value.slice ar nn cr).ownBlock=some b→v.ownBlock ≠ some b∧b < W.heap.size) (hB:B≤W.heap.size) (hb:Below B X W) (hl:rows.length≤1000000)
  (hK:∀ v' w',TT w' B v' (rows ++ [l])→Below B X w'→wpList Tryz.prog ops Q rest (a.put o.dst v') w') :
  wpList Tryz.prog ops Q (o :: rest) a (W.alloc (.cells #[.slice ar nn cr] 28)):=by
 subst hnl;have hba:=bA W (.cells #[.slice ar l.length cr] 28);have hc:(W.alloc (.cells #[.slice ar l.length cr] 28)).cell? ⟨W.heap.size,0,none⟩=some (.slice ar l.length cr):=by simp [go_sem]
 have hsz:=hba.size;obtain ⟨xs,h1,h2,h3⟩:=(hT.mono hba).ex;have hu2:=hu.mono hba;obtain ⟨v',w',hr,k1,k2,gr⟩:=run_app_r _ X o.type B v xs ar l.length cr W.heap.size 1 h1 (Nat.le_trans hB hsz) (hb.alloc hB _) hc (by rw [h2.1]; exact hl);refine wpList_plain hgd fun K hK' => ?_
 refine oper_append s x ho hs hxx hr (hK' _ _ (hK v' w' ⟨xs ++ [.slice ar l.length cr],k1,(h2.kept gr.kept gr.noG fun x hx b e e2 => (h3 x hx b e).1 e2).snoc (hu2.kept gr.kept gr.noG fun a e e2 => (hsp a.block (by rw [e]; rfl)).1 e2),fun x hx b e => ?_⟩ k2));have hlt:b < (W.alloc (.cells #[.slice ar l.length cr] 28)).heap.size∧v.ownBlock ≠ some b:=by
  rcases List.mem_append.1 hx with hx | hx
  ·exact ⟨(h3 x hx b e).2,(h3 x hx b e).1⟩
  ·simp only [List.mem_cons,List.not_mem_nil,or_false] at hx;rw [hx] at e;exact ⟨Nat.lt_of_lt_of_le (hsp b e).2 hsz,(hsp b e).1⟩
 refine ⟨?_,Nat.lt_of_lt_of_le hlt.1 gr.grown.size⟩;rcases gr.new with e2 | e2
 ·rw [e2]; exact hlt.2
 ·rw [e2]; intro e3;simp only [Option.some.injEq] at e3;omega
end
def t1 (A:List (List Rat)) (b X:List Rat) (i:Nat):List (List Rat):=((List.range i).filter fun i => decide (Du.dotR (A.getD i []) X=b.getD i 0)).map fun i => A.getD i []
def t2 (X:List Rat) (k:Nat):List (List Rat):=((List.range k).filter fun k => decide (X.getD k 0=0)).map (unitR X.length)
theorem t1_succ (A:List (List Rat)) (b X:List Rat) (i:Nat):t1 A b X (i + 1)=t1 A b X i ++ (if Du.dotR (A.getD i []) X=b.getD i 0 then [A.getD i []] else []):=by
 unfold t1;rw [List.range_succ,List.filter_append,List.map_append]
 congr 1
 by_cases h:Du.dotR (A.getD i []) X=b.getD i 0
 ·rw [if_pos h]; simp only [List.filter_cons,List.filter_nil]; rw [if_pos (decide_eq_true h)]; rfl
 ·rw [if_neg h]; simp only [List.filter_cons,List.filter_nil]; rw [if_neg (by rw [decide_eq_false h]; decide)]; rfl
theorem t2_succ (X:List Rat) (k:Nat):t2 X (k + 1)=t2 X k ++ (if X.getD k 0=0 then [unitR X.length k] else []):=by
 unfold t2;rw [List.range_succ,List.filter_append,List.map_append]
 congr 1
 by_cases h:X.getD k 0=0
 ·rw [if_pos h]; simp only [List.filter_cons,List.filter_nil]; rw [if_pos (decide_eq_true h)]; rfl
 ·rw [if_neg h]; simp only [List.filter_cons,List.filter_nil]; rw [if_neg (by rw [decide_eq_false h]; decide)]; rfl
theorem t1_len (A:List (List Rat)) (b X:List Rat) (i:Nat):(t1 A b X i).length≤i:=by
 unfold t1;rw [List.length_map];exact Nat.le_trans (List.length_filter_le _ _) (by simp)
theorem t2_len (X:List Rat) (k:Nat):(t2 X k).length≤k:=by
 unfold t2;rw [List.length_map];exact Nat.le_trans (List.length_filter_le _ _) (by simp)
theorem tight_t (A:List (List Rat)) (b X:List Rat):tightL A b X=t1 A b X A.length ++ t2 X X.length:=rfl
theorem one_ok (p:Bool) (w:World):Calls Tryz.prog 54 #[.bool p] w fun e w' => e=.returned (.int .i64 (if p then 1 else 0))∧Below w.heap.size w w':=by
 cases p
 all_goals
  go_enter Tryz.func54,Tryz.ntmps54;go_wp2;go_ret;exact ⟨rfl,br⟩
theorem tight_ok {A:List (List Rat)} {b C X:List Rat} {m n K:Nat} (HW:Hid (WP A b C m n K)) (hX:Hid (X.length=n)) (hD:Hid (∀ (k:Nat) (a:List Rat) (bi:Rat),A[k]?=some a→b[k]?=some bi→∃ s,DotS 0 a X (some s)∧CrS s bi)) (aA aB aC ax:Option Addr) (cA cB cC cx:Nat) (w:World) (hP:PrgA w A b C aA aB aC) (ux:UQ w ax (X.map some)) (hE:Env w) :
  Calls Tryz.prog 51 #[.agg #[.slice aA m cA,.slice aB m cB,.slice aC n cC],.slice ax n cx] w fun e w' => (∃ at_ ct,e=.returned (.slice at_ (tightL A b X).length ct)∧UM w' at_ ((tightL A b X).map (·.map some)))∧Below w.heap.size w w':=by
 have hm1:=HW.out.hm;have hn1:=HW.out.hn;go_enter Tryz.func51,Tryz.ntmps51;go_upto_region 1 with fail;have hbw:=bA w (.cells #[.slice aA m cA,.slice aB m cB,.slice aC n cC] 30);have rP:Row (w.alloc (.cells #[.slice aA m cA,.slice aB m cB,.slice aC n cC] 30)) w.heap.size 30 [.slice aA m cA,.slice aB m cB,.slice aC n cC]:=heap_alloc_new _ _;obtain ⟨g,hg⟩:∃ g,g=w.heap.size:=⟨_,rfl⟩;rw [← hg] at rP ⊢;clear hg;have hP1:=hP.mono hbw;have ux1:=ux.mono hbw;have hE1:=hE.mono hbw;generalize w.alloc (.cells #[.slice aA m cA,.slice aB m cB,.slice aC n cC] 30)=w1 at *;clear hP ux hE;go_wp2_with fail;go_loopw [5,6] (fun s c wr => ∃ i:Nat,i≤m∧c=.int .i64 (i:Nat)∧TT wr w1.heap.size s ((t1 A b X i).map (·.map some))∧Below w1.heap.size w1 wr) (fun _ c _ => m - (intOf c).toNat)
 case atStart => exact ⟨0,Nat.zero_le _,rfl,TT.nil _ _,br⟩
 case round =>
  obtain ⟨i,hi,rfl,hT,hbr⟩:=hrel;have hlen:((t1 A b X i).map (·.map some)).length≤1000:=by have:=t1_len A b X i; rw [List.length_map]; omega
  obtain ⟨x0,x1,x2⟩:=(rP.below hbr).n3
  by_cases hli:i < m
  ·obtain ⟨a,ha⟩:∃ a,A[i]?=some a:=⟨A[i]'(by rw [HW.out.lA]; exact hli),gE _⟩;obtain ⟨bi,hbi⟩:∃ a,b[i]?=some a:=⟨b[i]'(by rw [HW.out.lb]; exact hli),gE _⟩;obtain ⟨s,hDs,hCs⟩:=hD.out i a bi ha hbi;have hla:a.length=n:=HW.out.rA a (List.mem_of_getElem? ha);have Hal:Hid (a.length=X.length):=hii (hla.trans hX.out.symm);obtain ⟨b0,off0,ar,cr,ea,hc,ur⟩:=(hP1.1.mono hbr) i (a.map some) (by rw [List.getElem?_map,ha]; rfl);rw [List.length_map,hla] at hc;obtain ⟨b1,off1,ng1,ao1,n1,cap1,nh1,ap1,m1,caq1,eb,FB,hv⟩:=(hP1.2.1.mono hbr) i (some bi) (by rw [List.getElem?_map,hbi]; rfl);have hv:RatV wr _ bi:=hv;obtain ⟨c,hc0⟩:∃ c,Rq.cmpQ s bi=c:=⟨_,rfl⟩;have HDs:=hii hDs;have HCs:=hii hCs;have Hc:=hii hc0;have HT1:Hid ((t1 A b X (i + 1)).map (·.map some)=(t1 A b X i).map (·.map some) ++ (if c=0 then [a.map some] else [])):=hii (by
    have e1:A.getD i []=a:=getDL_of ha;have e2:b.getD i 0=bi:=gdo13 hbi;have e3:s=Du.dotR a X:=dot_of hDs;rw [t1_succ,e1,e2,List.map_append]
    congr 1
    by_cases hz:c=0
    ·have:Du.dotR a X=bi:=by
      rw [← e3];refine Rat.le_antisymm (Rat.not_lt.1 fun h => ?_) (Rat.not_lt.1 fun h => ?_)
      ·have:=cmpQ_gt.2 h; rw [hc0] at this; omega
      ·have:=cmpQ_lt.2 h; rw [hc0] at this; omega
     rw [if_pos this,if_pos hz]; rfl
    ·have:¬ Du.dotR a X=bi:=fun h => hz (by rw [← hc0]; exact cmpQ_same (e3.trans h))
     rw [if_neg this,if_neg hz]; rfl)
   have hEr:=hE1.mono hbr;have uxr:=ux1.mono hbr;have ha6:a.length≤1000000000:=by omega
   have rPr:=rP.below hbr;have Hbl:Hid (∀ b,(Value.slice ar n cr).ownBlock=some b→b < w1.heap.size):=hii (by
    obtain ⟨b9,off9,ar9,cr9,e9,hc9,ur9⟩:=hP1.1 i (a.map some) (by rw [List.getElem?_map,ha]; rfl);have e10:ar9=ar:=by
     have e11:=(hbr.cell (p:=⟨b9,off9 + i,none⟩) (cell_lt hc9)).trans hc9;rw [e9] at ea;simp only [Option.some.injEq,Addr.mk.injEq,and_true] at ea;rw [← ea.1,← ea.2,e11] at hc;simp only [Option.some.injEq,Value.slice.injEq] at hc;exact hc.1
    rw [e10] at ur9;obtain ⟨x,hx⟩:∃ x,a[0]?=some x:=⟨a[0]'(by omega),gE _⟩;obtain ⟨b8,off8,_,_,_,_,_,_,_,_,e8,f8,_⟩:=ur9 0 (some x) (by rw [List.getElem?_map,hx]; rfl);intro b e;rw [e8] at e;simp only [Value.ownBlock,Option.some.injEq] at e;rw [← e];exact cell_lt f8.c0)
   clear hDs hCs hc0 ha hbi;subst ea;subst eb;go_upto_region 5 with fail;clear x0 x1 x2;refine wp_region_vals (wx:=wr) [(fun _ v => v=.pointer (some ⟨g,0,none⟩)),(fun _ v => v=.slice (some ⟨b0,off0,none⟩) m cA),(fun _ v => v=.int .i64 (i:Nat)),(fun _ v => v=.pointer (some ⟨b0,off0 + i,none⟩)),(fun _ v => v=.slice ar n cr),(fun _ v => v=.slice ax n cx),(fun W v => RatV W v s),(fun _ v => v=.pointer (some ⟨g,1,none⟩)),(fun _ v => v=.slice (some ⟨b1,off1,none⟩) m cB),(fun _ v => v=.int .i64 (i:Nat)),(fun _ v => v=.pointer (some ⟨b1,off1 + i * 4,none⟩)),(fun _ v => v=.agg #[.bool ng1,.slice ao1 n1 cap1,.bool nh1,.slice ap1 m1 caq1]),(fun _ v => v=.int .i64 c),(fun _ v => v=.bool (c == 0))] [17,18,19,20,21,22,23,24,25,26,27,28,29,30] (by kernel_rfl) (by kernel_rfl) (by kernel_rfl) (of_decide_eq_true (by kernel_rfl)) br ⟨sV _,sV _,sV _,sV _,sV _,sV _,fun _ _ _ h hb => h.mono hb,sV _,sV _,sV _,sV _,sV _,sV _,sV _,trivial⟩ ⟨?s0,?s1,?s2,?s3,?s4,?s5,?s6,?s7,?s8,?s9,?s10,?s11,?s12,?s13,trivial⟩ ?he
   case s0 | s2 | s5 | s7 | s9 =>
    rintro T W hb hA K hK;simp only [ovr,Act.put,List.setIfInBounds_toArray,List.set_cons_zero,List.set_cons_succ] at hK ⊢;have HK:=hii hK;clear hK hA;refine wO rfl (by rfl) ?_;go_simp;exact HK.out _ _ br (rfl)
   case s1 =>
    rintro T W hb hA K hK;have e0:T 17=.pointer (some ⟨g,0,none⟩):=hA.1;simp only [ovr,Act.put,List.setIfInBounds_toArray,List.set_cons_zero,List.set_cons_succ,e0] at hK ⊢;have HK:=hii hK;clear hK hA;obtain ⟨x0,x1,x2⟩:=(rPr.below hb).n3;refine wO rfl (by rfl) ?_;go_simp;exact HK.out _ _ br (rfl)
   case s3 =>
    rintro T W hb hA K hK;have e1:T 18=.slice (some ⟨b0,off0,none⟩) m cA:=hA.1;have e2:T 19=.int .i64 (i:Nat):=hA.2.1;simp only [ovr,Act.put,List.setIfInBounds_toArray,List.set_cons_zero,List.set_cons_succ,e1,e2] at hK ⊢;have HK:=hii hK;clear hK hA;refine wO rfl (by rfl) ?_;go_simp;exact HK.out _ _ br (rfl)
   case s4 =>
    rintro T W hb hA K hK;have e3:T 20=.pointer (some ⟨b0,off0 + i,none⟩):=hA.1;simp only [ovr,Act.put,List.setIfInBounds_toArray,List.set_cons_zero,List.set_cons_succ,e3] at hK ⊢;have HK:=hii hK;clear hK hA;have y9:=(hb.cell (p:=⟨b0,off0 + i,none⟩) (cell_lt hc)).trans hc;refine wO rfl (by rfl) ?_;go_simp;exact HK.out _ _ br (rfl)
   case s6 =>
    rintro T W hb hA K hK;have e4:T 21=.slice ar n cr:=hA.1;have e5:T 22=.slice ax n cx:=hA.2.1;simp only [ovr,Act.put,List.setIfInBounds_toArray,List.set_cons_zero,List.set_cons_succ,e4,e5] at hK ⊢;have HK:=hii hK;clear hK hA;refine wO rfl (by rfl) ?_;go_simp;have HDt:=rdot13 a X s ar ax cr cx W ha6 Hal.out (ur.mono hb) (uxr.mono hb) HDs (hEr.mono hb);rw [hla,hX.out] at HDt;(with_reducible refine HDt.mono ?_);rintro e w1 ⟨hz,hb1⟩;obtain ⟨ng5,ao5,n5,cap5,nh5,ap5,m5,caq5,rfl,hV⟩:=hz.rat
    try dsimp only
    exact HK.out _ _ hb1 (hV)
   case s8 =>
    rintro T W hb hA K hK;have e7:T 24=.pointer (some ⟨g,1,none⟩):=hA.1;simp only [ovr,Act.put,List.setIfInBounds_toArray,List.set_cons_zero,List.set_cons_succ,e7] at hK ⊢;have HK:=hii hK;clear hK hA;obtain ⟨x0,x1,x2⟩:=(rPr.below hb).n3;refine wO rfl (by rfl) ?_;go_simp;exact HK.out _ _ br (rfl)
   case s10 =>
    rintro T W hb hA K hK;have e8:T 25=.slice (some ⟨b1,off1,none⟩) m cB:=hA.1;have e9:T 26=.int .i64 (i:Nat):=hA.2.1;simp only [ovr,Act.put,List.setIfInBounds_toArray,List.set_cons_zero,List.set_cons_succ,e8,e9] at hK ⊢;have HK:=hii hK;clear hK hA;refine wO rfl (by rfl) ?_;go_simp;exact HK.out _ _ br (rfl)
   case s11 =>
    rintro T W hb hA K hK;have e10:T 27=.pointer (some ⟨b1,off1 + i * 4,none⟩):=hA.1;simp only [ovr,Act.put,List.setIfInBounds_toArray,List.set_cons_zero,List.set_cons_succ,e10] at hK ⊢;have HK:=hii hK;clear hK hA;obtain ⟨f0,f1,f2,f3,_,_,_,_⟩:=FB.mono hb;refine wO rfl (by rfl) ?_;go_simp;exact HK.out _ _ br (rfl)
   case s12 =>
    rintro T W hb hA K hK;have r6:((fun W v => RatV W v s):World→Value→Prop) W (T 23):=hA.1;have e11:T 28=.agg #[.bool ng1,.slice ao1 n1 cap1,.bool nh1,.slice ap1 m1 caq1]:=hA.2.1;simp only [ovr,Act.put,List.setIfInBounds_toArray,List.set_cons_zero,List.set_cons_succ,e11] at hK ⊢;have HK:=hii hK;clear hK hA;have r6:RatV W _ s:=r6;obtain ⟨ng6,ao6,n6,cap6,nh6,ap6,m6,caq6,e6⟩:=r6.parts;rw [e6] at r6;simp only [e6] at HK ⊢;refine wO rfl (by rfl) ?_;go_simp;(with_reducible refine (rcmp13 _ _ s bi c W r6 (hv.mono hb) HCs Hc (hEr.mono hb)).mono ?_);rintro e w1 ⟨rfl,hb1⟩
    try dsimp only
    exact HK.out _ _ hb1 (rfl)
   case s13 =>
    rintro T W hb hA K hK;have e12:T 29=.int .i64 c:=hA.1;simp only [ovr,Act.put,List.setIfInBounds_toArray,List.set_cons_zero,List.set_cons_succ,e12] at hK ⊢;have HK:=hii hK;clear hK hA;refine wO rfl (by rfl) ?_;go_simp;exact HK.out _ _ br (rfl)
   case he =>
    rintro T W hb hA;have f13:T 30=.bool (c == 0):=hA.at 13 (by decide);have hbr:=bu hbr hb;have hT:=hT.mono hb;have hcW:=(hb.cell (p:=⟨b0,off0 + i,none⟩) (cell_lt hc)).trans hc;have urW:=ur.mono hb;simp only [ovr,List.setIfInBounds_toArray,List.set_cons_zero,List.set_cons_succ,f13];clear hA f13 hb hv FB hEr uxr ur hc rPr HDs HCs Hc;obtain ⟨w3,rfl⟩:∃ w3:World,w3=W:=⟨_,rfl⟩;obtain ⟨x0,x1,x2⟩:=(rP.below hbr).n3
    by_cases hz:c=0
    ·have hzd:(c == 0)=true:=by simpa using hz
     have hT1:=HT1.out;rw [if_pos hz] at hT1;rw [hzd];have hsz:=hbr.size;have hsp:∀ b,(Value.slice ar n cr).ownBlock=some b→u5.ownBlock ≠ some b∧b < w3.heap.size:=fun b e => ⟨fun e2 => by have:=Hbl.out b e; have:=(hT.lt b e2).1; omega,Nat.lt_of_lt_of_le (Hbl.out b e) hsz⟩
     go_wp2_with (at_builtin; go_loud (refine app_tt w3 w1 w1.heap.size rfl (.tmp 31) (.tmp 37) rfl rfl rfl hT (by rw [List.length_map,hla]) urW hsp hsz hbr (by omega) ?_); intro v2 w4 hT2 hbr2);go_roundw
     case rel => exact ⟨i + 1,by omega,by go_num,by rw [hT1]; exact hT2,hbr2⟩
     case measure => simp [intOf]; omega
    ·have hzd:(c == 0)=false:=by simpa using hz
     have hT1:=HT1.out;rw [if_neg hz,List.append_nil] at hT1;rw [hzd];go_wp2;go_roundw
     case rel => exact ⟨i + 1,by omega,by go_num,by rw [hT1]; exact hT,hbr⟩
     case measure => simp [intOf]; omega
  ·have hie:i=m:=by omega
   rw [hie] at hT;have Hlen:Hid ((t1 A b X m).length≤m):=hii (t1_len A b X m);clear hlen hie hi;go_wp2_with fail;clear hli x0 x1 x2;go_loopw [5,7] (fun s c wr => ∃ k:Nat,k≤n∧c=.int .i64 (k:Nat)∧TT wr w1.heap.size s ((t1 A b X m ++ t2 X k).map (·.map some))∧Below w1.heap.size w1 wr) (fun _ c _ => n - (intOf c).toNat)
   case atStart => exact ⟨0,Nat.zero_le _,rfl,by simpa [t2] using hT,hbr⟩
   case round =>
    clear hT hbr;obtain ⟨k,hk,rfl,hT,hbr⟩:=hrel
    by_cases hlk:k < n
    ·obtain ⟨xk,hxk⟩:∃ x,X[k]?=some x:=⟨X[k]'(by rw [hX.out]; exact hlk),gE _⟩;obtain ⟨b1,off1,ng1,ao1,n1,cap1,nh1,ap1,m1,caq1,eb,FB,hv⟩:=(ux1.mono hbr) k (some xk) (by rw [List.getElem?_map,hxk]; rfl);have hv:RatV wr _ xk:=hv;obtain ⟨_,_,_,_,_,_,_,_,e2,hv1,hv2⟩:=hv
     cases e2
     obtain ⟨s,hs⟩:∃ s,sgnI xk.num=s:=⟨_,rfl⟩;have Hs:=hii hs;have HT2:Hid ((t1 A b X m ++ t2 X (k + 1)).map (·.map some)=(t1 A b X m ++ t2 X k).map (·.map some) ++ (if xk=0 then [(unitR n k).map some] else [])):=hii (by
      rw [t2_succ,gdo13 hxk,hX.out,← List.append_assoc,List.map_append (l₁:=t1 A b X m ++ t2 X k)]
      congr 1
      by_cases hz:xk=0
      ·rw [if_pos hz,if_pos hz]; rfl
      ·rw [if_neg hz,if_neg hz]; rfl)
     have Hln:Hid (((t1 A b X m ++ t2 X k).map (·.map some)).length≤1000000):=hii (by have:=Hlen.out; have:=t2_len X k; simp only [List.length_map,List.length_append]; omega);clear hs hv2 hxk;subst eb;obtain ⟨f0,f1,f2,f3,_,_,_,_⟩:=id FB;go_wp2_with fail;(with_reducible refine (rSign_eq _ xk.num s wr Hs hv1).mono ?_);rintro e w6 ⟨rfl,hb⟩;have hT:=hT.mono hb;have hbr:=bu hbr hb;clear hb hv1 f0 f1 f2 f3 FB
     by_cases hz:s=0
     ·have HT2:Hid ((t1 A b X m ++ t2 X (k + 1)).map (·.map some)=(t1 A b X m ++ t2 X k).map (·.map some) ++ [(unitR n k).map some]):=hii (by have:=HT2.out; rw [if_pos (num_zero.1 ((sgnI_zero _).1 (Hs.out.trans hz)))] at this; exact this);obtain ⟨w7,rfl⟩:∃ w7:World,w7=w6:=⟨_,rfl⟩;have HVT:=hii hT;have HVB:=hii hbr;have hE7:=hE1.mono hbr;clear hT hbr Hs;go_wp2_with fail;go_loopw [8,9] (fun s c wr => ∃ j:Nat,j≤n∧c=.int .i64 (j:Nat)∧OwnO wr w7.heap.size s (((List.range j).map fun t => if t=k then (1:Rat) else 0).map some)∧Below w7.heap.size w7 wr) (fun _ c _ => n - (intOf c).toNat)
      case atStart => exact ⟨0,Nat.zero_le _,rfl,OwnO.nil _ _,br⟩
      case round =>
       obtain ⟨j,hj,rfl,hown,hbj⟩:=hrel
       by_cases hlj:j < n
       ·have HJ:Hid (((List.range (j + 1)).map fun t => if t=k then (1:Rat) else 0).map some=((List.range j).map fun t => if t=k then (1:Rat) else 0).map some ++ [some (if j=k then (1:Rat) else 0)]):=hii (by rw [range_snoc,List.map_append]; rfl);have Hj6:Hid ((((List.range j).map fun t => if t=k then (1:Rat) else 0).map some).length≤100000):=hii (by simp; omega);have hEj:=hE7.mono hbj;obtain ⟨p,hp⟩:∃ p,p=decide (j=k):=⟨_,rfl⟩;have HJ1:Hid ((((if p then 1 else 0:Int)):Rat)=if j=k then (1:Rat) else 0):=hii (by rw [hp]; by_cases e:j=k <;> simp [e]);have HJ2:Hid (-9223372036854775808≤(if p then 1 else 0:Int)∧(if p then 1 else 0:Int)≤9223372036854775807):=hii (by cases p <;> decide);have hpk:decide ((j:Int)=(k:Int))=p:=by rw [hp]; exact decide_eq_decide.2 ⟨fun h => by omega,fun h => by omega⟩
        have hpk2:((j:Int) == (k:Int))=p:=hpk;clear hp;go_wp2_with fail
        try rw [hpk2]
        try rw [hpk]
        (with_reducible refine (one_ok p wr).mono ?_);rintro e w8 ⟨rfl,hb⟩;have hown:=hown.mono hb;have hEj:=hEj.mono hb;have hbj:=bu hbj hb;clear hb;obtain ⟨z1,hz1⟩:∃ z1:Int,z1=if p then 1 else 0:=⟨_,rfl⟩
        rw [← hz1] at HJ1 HJ2 ⊢;clear hz1;go_wp2_with fail;(with_reducible refine (rnum_any z1 HJ2.out.1 HJ2.out.2 w8 hEj).mono ?_);rintro e w9 ⟨⟨ng2,ao2,n2,cap2,nh2,ap2,m2,caq2,rfl,h1,h2⟩,hb⟩;have hown:=hown.mono hb;have hbj:=bu hbj hb;have hsz:=hbj.size;clear hb hEj;go_wp2_with (at_builtin; go_loud (refine app_o1 _ w7 rfl (.tmp 58) (.tmp 64) rfl w7.heap.size _ _ rfl hown hsz hbj (RatV.mk' h1 h2) rfl Hj6.out ?_); intro v3 w10 hown3 hbel3);go_roundw
        case rel => exact ⟨j + 1,by omega,by go_num,by rw [HJ.out,← HJ1.out]; exact hown3,hbel3⟩
        case measure => simp [intOf]; omega
       ·have hje:j=n:=by omega
        rw [hje] at hown;have hlt2:=hown.lt;obtain ⟨ar,cr,e8,uq⟩:=hown.read;have e1:(((List.range n).map fun t => if t=k then (1:Rat) else 0).map some).length=n:=by simp
        rw [e1] at e8;subst e8;have hT:=HVT.out.mono hbj;have hsp:∀ b,(Value.slice ar n cr).ownBlock=some b→u5.ownBlock ≠ some b∧b < wr.heap.size:=fun b e => ⟨fun e2 => by have:=(hlt2 b e).1; have:=(HVT.out.lt b e2).2; omega,(hlt2 b e).2⟩
        have hbr:=Below.step HVB.out hbj nl;have hsz:=hbr.size;clear hown hlt2 hbj hj hje;go_wp2_with (at_builtin; go_loud (refine app_tt wr w1 w1.heap.size rfl (.tmp 66) (.tmp 68) rfl rfl rfl hT e1.symm uq hsp hsz hbr Hln.out ?_); intro v3 w10 hT3 hbr3);go_roundw
        case rel => exact ⟨k + 1,by omega,by go_num,by rw [HT2.out]; exact hT3,hbr3⟩
        case measure => simp [intOf]; omega
     ·have HT2:Hid ((t1 A b X m ++ t2 X (k + 1)).map (·.map some)=(t1 A b X m ++ t2 X k).map (·.map some)):=hii (by have:=HT2.out; rw [if_neg (fun e => hz (Hs.out.symm.trans ((sgnI_zero _).2 (num_zero.2 e)))),List.append_nil] at this; exact this);go_wp2;go_roundw
      case rel => exact ⟨k + 1,by omega,by go_num,by rw [HT2.out]; exact hT,hbr⟩
      case measure => simp [intOf]; omega
    ·have hke:k=n:=by omega
     rw [hke] at hT;have e1:t1 A b X m ++ t2 X n=tightL A b X:=by rw [tight_t,HW.out.lA,hX.out]
     rw [e1] at hT;obtain ⟨at_,ct,e7,um⟩:=hT.read;rw [List.length_map] at e7;subst e7;go_wp2;go_ret;exact ⟨⟨_,_,rfl,um⟩,bu hbw hbr⟩
theorem dz20:∀ k,k≤8→Sx.dz 20 k≤KK:=fun k hk => by
 unfold KK;exact (of_decide_eq_true (by kernel_rfl):∀ k,k < 9→Sx.dz 20 k≤10 ^ 25) k (by omega)
theorem corner_ok {A:List (List Rat)} {b C X Y:List Rat} {val:Rat} {m n:Nat} (HW:Hid (WP A b C m n 20)) (HO:Hid (OptX A b C m n val X Y)) (aA aB aC ax:Option Addr) (cA cB cC cx:Nat) (w:World) (hP:PrgA w A b C aA aB aC) (ux:UQ w ax (X.map some)) (hE:Env w) :
  Calls Tryz.prog 17 #[.agg #[.slice aA m cA,.slice aB m cB,.slice aC n cC],.slice ax n cx] w fun e w' => e=.returned (.bool true)∧Below w.heap.size w w':=by
 have hm1:=HW.out.hm;have hn1:=HW.out.hn;have HL:=hii (HO.out.list HW.out).1;have hlX:=HL.out.lX;have HR:=hii HL.out.row;have HTK:Hid (∀ z:Nat→Rat,(∀ i,i < (tightL A b X).length→Du.sm n (fun j => ((tightL A b X).getD i []).getD j 0 * z j)=0)→∀ j,j < n→z j=0):=hii (tight_mat HW.out HO.out);have HTL:Hid (1≤(tightL A b X).length∧(tightL A b X).length≤100):=hii ⟨by
  apply Classical.byContradiction
  intro h;have:=HTK.out (fun _ => 1) (fun i hi => by omega) 0 (by omega);exact absurd this (by decide),by
  rw [tight_t,List.length_append];have h1:=t1_len A b X A.length;have h2:=t2_len X X.length;have h3:=HW.out.lA;omega⟩
 go_enter Tryz.func17,Tryz.ntmps17;go_upto_region 1 with fail;have hb:=bA w (.cells #[.slice aA m cA,.slice aB m cB,.slice aC n cC] 30);have rP:Row (w.alloc (.cells #[.slice aA m cA,.slice aB m cB,.slice aC n cC] 30)) w.heap.size 30 [.slice aA m cA,.slice aB m cB,.slice aC n cC]:=heap_alloc_new _ _;obtain ⟨g,hg⟩:∃ g,g=w.heap.size:=⟨_,rfl⟩;rw [← hg] at rP ⊢;clear hg;generalize w.alloc (.cells #[.slice aA m cA,.slice aB m cB,.slice aC n cC] 30)=w1 at *;have hP:=hP.mono hb;have ux:=ux.mono hb;have hE:=hE.mono hb;have hbw:=hb;clear hb;obtain ⟨x0,x1,x2⟩:=rP.n3;have HF:=rfits13 A b C X (hii ⟨by rw [HW.out.lA,HW.out.lb]; exact nl,by rw [HW.out.lA]; omega,by rw [hlX]; omega⟩) (hii fun r hr => by rw [HW.out.rA r hr,hlX]) HR aA aB aC ax cA cB cC cx w1 hP.1 hP.2.1 hP.2.2 ux hE;rw [HW.out.lA,HW.out.lb,HW.out.lC,hlX,HL.out.fit] at HF;go_wp2_with fail;(with_reducible refine (HF).mono ?_);rintro e w2 ⟨rfl,hb⟩;have hP:=hP.mono hb;have ux:=ux.mono hb;have hE:=hE.mono hb;have rP:=rP.below hb;have hbw:=bu hbw hb;clear hb;clear x0 x1 x2 HF;obtain ⟨x0,x1,x2⟩:=rP.n3;go_wp2_with fail;(with_reducible refine (tight_ok HW (hii hlX) HR aA aB aC ax cA cB cC cx w2 hP ux hE).mono ?_);rintro e w3 ⟨⟨at_,ct,rfl,um⟩,hb⟩;have hE:=hE.mono hb;have hbw:=bu hbw hb;clear hb;clear x0 x1 x2;go_wp2_with fail;(with_reducible refine (rank_ok (tightL A b X) n 20 HTL (hii hn1) (hii (tight_len HW.out hlX)) (hii (tight_wh HW.out)) (hii dz20) HTK at_ ct w3 um hE).mono ?_);rintro e w4 ⟨rfl,hb⟩;have um:=um.mono hb;have hbw:=bu hbw hb;clear hb;clear um;go_wp2;go_ret;exact ⟨rfl,hbw⟩
end Go.Proofs.YtileholjbdhmjaaGreatDoor
