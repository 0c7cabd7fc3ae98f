/-
  load: balances in memory.
-/
import Derived.Test.YtfgffkmddanjjaaGreatDoorLh
import Derived.Test.YtfgffkmddanjjaaGreatDoorLd
import Derived.Test.YtfgffkmddanjjaaGreatDoorSk
set_option linter.unusedVariables false
set_option linter.unusedSimpArgs false
set_option maxRecDepth 100000
set_option maxHeartbeats 25600000
namespace Go.Proofs.YtfgffkmddanjjaaGreatDoor
open _root_.Go.Proofs.Tryz
open Go.RowKit
def zck (w:World) (c:List Value) (s:(Nat × Nat) × Rat):Prop:=∃ J1 ao1 n1 Y1 K1 ap1 m1 Z1,c=[.int .u16 (s.1.1:Nat),.int .u16 (s.1.2:Nat),.bool J1,.slice ao1 n1 Y1,.bool K1,.slice ap1 m1 Z1]/\zac w (qA J1 ao1 n1 Y1 K1 ap1 m1 Z1) s.2
theorem zar:zc4 zck:=λ G w w' c s h hk hn => by
 obtain ⟨J1,ao1,n1,Y1,K1,ap1,m1,Z1,e,h⟩:=h;exact ⟨J1,ao1,n1,Y1,K1,ap1,m1,Z1,e,h.keptU hk hn⟩
theorem Tryz.info59:(Tryz.prog.info? 59).map (λ i => (i.zero,i.size,i.bytes))=some (some (.agg #[.int .u16 0,.int .u16 0,.bool false,.slice none 0 0,.bool false,.slice none 0 0]),6,72):=by kernel_rfl
theorem Tryz.slice37:Tryz.prog.underlying 37=some (.slice 59):=by kernel_rfl
theorem zn2 {a b:Int} {J1:Bool} {ao1:Option Addr} {n1 Y1:Nat} {K1:Bool} {ap1:Option Addr} {m1 Z1:Nat}:∀ u∈[Value.int .u16 a,.int .u16 b,.bool J1,.slice ao1 n1 Y1,.bool K1,.slice ap1 m1 Z1],zaI u:=by
 intro u hu;simp at hu;rcases hu with rfl | rfl | rfl | rfl | rfl | rfl <;> (intro z e; cases e)
theorem zok {a b:Int} {J1:Bool} {ao1:Option Addr} {n1 Y1:Nat} {K1:Bool} {ap1:Option Addr} {m1 Z1:Nat}:∀ u∈[Value.int .u16 a,.int .u16 b,.bool J1,.slice ao1 n1 Y1,.bool K1,.slice ap1 m1 Z1],u.oneCell'=true:=by
 intro u hu;simp at hu;rcases hu with rfl | rfl | rfl | rfl | rfl | rfl <;> rfl
def zjx (w:World) (v:Value) (ld:Rat) (sh:List ((Nat × Nat) × Rat)) (Q:List Rat):Prop:=∃ J1 ao1 n1 Y1 K1 ap1 m1 Z1 aS cS aQ cQ,v=.agg #[.bool J1,.slice ao1 n1 Y1,.bool K1,.slice ap1 m1 Z1,.slice aS sh.length cS,.slice aQ Q.length cQ]/\zac w (qA J1 ao1 n1 Y1 K1 ap1 m1 Z1) ld/\EU 6 zck w aS sh/\UQ w aQ (Q.map some)
theorem zjx.mono {w w':World} {v:Value} {ld:Rat} {sh:List ((Nat × Nat) × Rat)} {Q:List Rat} (h:zjx w v ld sh Q) (hb:BH w w'):zjx w' v ld sh Q:=by
 obtain ⟨J1,ao1,n1,Y1,K1,ap1,m1,Z1,aS,cS,aQ,cQ,e,h1,h2,h3⟩:=h;exact ⟨J1,ao1,n1,Y1,K1,ap1,m1,Z1,aS,cS,aQ,cQ,e,h1.mono hb,h2.mono zar hb,h3.mono hb⟩
def BB (W:World) (g B:Nat) (x0 x1 x2 x3 vS vQ:Value) (sh:List ((Nat × Nat) × Rat)) (pr:List Qo):Prop :=
 Row W g 39 [x0,x1,x2,x3,vS,vQ]/\zcc 59 6 zck W B vS sh/\zaz W B vQ pr/\Sep vS vQ/\g < B
theorem BB.mono {W W':World} {g B:Nat} {x0 x1 x2 x3 vS vQ:Value} {sh:List ((Nat × Nat) × Rat)} {pr:List Qo} (h:BB W g B x0 x1 x2 x3 vS vQ sh pr) (hb:BH W W'):BB W' g B x0 x1 x2 x3 vS vQ sh pr :=
 ⟨h.1.below hb,h.2.1.mono zar hb,h.2.2.1.mono hb,h.2.2.2⟩
theorem BB.putS {W W':World} {g B:Nat} {x0 x1 x2 x3 vS vQ:Value} {a':Option Addr} {n' c':Nat} {sh sh':List ((Nat × Nat) × Rat)} {pr:List Qo} (h:BB W g B x0 x1 x2 x3 vS vQ sh pr) (hO:zcc 59 6 zck W' B (.slice a' n' c') sh') (hk:zaf (λ b => vS.ownBlock=some b) W W')
  (hn:∀ b,(Value.slice a' n' c').ownBlock=some b->vS.ownBlock=some b\/W.heap.size<=b) (hx:∀ u∈[x0,x1,x2,x3,vS,vQ],zaE u):Row W' g 39 [x0,x1,x2,x3,vS,vQ]/\BB (W'.setCell ⟨g,4,none⟩ (.slice a' n' c')) g B x0 x1 x2 x3 (.slice a' n' c') vQ sh' pr:=by
 obtain ⟨h1,h2,h3,h4,h5⟩:=h;have hg:¬ vS.ownBlock=some g:=λ e => by have:=(h2.lt g e).1; omega
 have r:=h1.mono hk hg;have hk2:zaf (λ b => b=g) W' (W'.setCell ⟨g,4,none⟩ (.slice a' n' c')):=(zaf.refl W':zaf (λ b => b=g) W' W').setCell (p:=⟨g,4,none⟩) rfl _;have hnG:NoG (λ b => b=g) W':=by
  intro b hb cur t fr hc;subst hb;have:=r.symm.trans hc;simp only [Option.some.injEq,Obj.cells.injEq] at this;obtain ⟨rfl,_,_⟩:=this;intro u hu;exact hx u (by simpa using hu)
 have hO3:zaz W' B vQ pr:=h3.keptU hk h2.noU (λ b e1 e2 => h4 b e2 e1);refine ⟨r,r.set 4 _,hO.kept zar hk2 hnG.u (λ b e1 e2 => by have:=(hO.lt b e1).1; omega),hO3.kept hk2 hnG (λ b e1 e2 => by have:=(hO3.lt b e1).1; omega),λ b e1 e2 => ?_,h5⟩;rcases hn b e1 with e | e
 ·exact h4 b e e2
 ·have:=(h3.lt b e2).2; omega
theorem BB.putQ {W W':World} {g B:Nat} {x0 x1 x2 x3 vS vQ:Value} {a':Option Addr} {n' c':Nat} {sh:List ((Nat × Nat) × Rat)} {pr pr':List Qo} (h:BB W g B x0 x1 x2 x3 vS vQ sh pr) (hO:zaz W' B (.slice a' n' c') pr') (gr:Grw W W' vQ (.slice a' n' c')) (hx:∀ u∈[x0,x1,x2,x3,vS,vQ],zaE u) :
  Row W' g 39 [x0,x1,x2,x3,vS,vQ]/\BB (W'.setCell ⟨g,5,none⟩ (.slice a' n' c')) g B x0 x1 x2 x3 vS (.slice a' n' c') sh pr':=by
 obtain ⟨h1,h2,h3,h4,h5⟩:=h;have hg:¬ vQ.ownBlock=some g:=λ e => by have:=(h3.lt g e).1; omega
 have r:=h1.mono gr.kept hg;have hk2:zaf (λ b => b=g) W' (W'.setCell ⟨g,5,none⟩ (.slice a' n' c')):=(zaf.refl W':zaf (λ b => b=g) W' W').setCell (p:=⟨g,5,none⟩) rfl _;have hnG:NoG (λ b => b=g) W':=by
  intro b hb cur t fr hc;subst hb;have:=r.symm.trans hc;simp only [Option.some.injEq,Obj.cells.injEq] at this;obtain ⟨rfl,_,_⟩:=this;intro u hu;exact hx u (by simpa using hu)
 have hO2:zcc 59 6 zck W' B vS sh:=h2.kept zar gr.kept gr.noG.u (λ b e1 e2 => h4 b e1 e2);refine ⟨r,r.set 5 _,hO2.kept zar hk2 hnG.u (λ b e1 e2 => by have:=(hO2.lt b e1).1; omega),hO.kept hk2 hnG (λ b e1 e2 => by have:=(hO.lt b e1).1; omega),λ b e1 e2 => ?_,h5⟩;exact (h4.grw (λ b e => (h2.lt b e).2) gr) b e1 e2
section
variable {ops : Array Oper} {rest : List Oper} {o : Oper} {a : Act} {Q : Exit → Act → World → Prop}
theorem zi4 (W X:World) (B:Nat) (hgd:o.guard=none) (s x:Operand) (ho:o.op=.call { callee:=.builtin .append,args:=#[s,x],argTypes:=#[33,33] })
  {v:Value} {l:List Qo} {r:Rat} {J1:Bool} {ao1:Option Addr} {n1 Y1:Nat} {K1:Bool} {ap1:Option Addr} {m1 Z1:Nat} (hs:a.eval s=v) (hx:a.eval x=.slice (some ⟨W.heap.size,0,none⟩) 1 1) (hown:zaz W B v l) (hB:B<=W.heap.size) (hb:Below B X W) (hr:zac W (qA J1 ao1 n1 Y1 K1 ap1 m1 Z1) r) (hl:l.length<=100000)
  (hK:∀ a' n' c' w' W1,BH W W1->zaz w' B (.slice a' n' c') (l ++ [some r])->Below B X w'->Grw W1 w' v (.slice a' n' c')->wpList Tryz.prog ops Q rest (a.put o.dst (.slice a' n' c')) w') :
  wpList Tryz.prog ops Q (o :: rest) a (W.alloc (.cells #[.bool J1,.slice ao1 n1 Y1,.bool K1,.slice ap1 m1 Z1] 32)):=by
 have hba:=bA W (.cells #[.bool J1,.slice ao1 n1 Y1,.bool K1,.slice ap1 m1 Z1] 32);obtain ⟨v',w',h1,h2,h3,h4⟩:=zb0 (W.alloc (.cells #[.bool J1,.slice ao1 n1 Y1,.bool K1,.slice ap1 m1 Z1] 32)) X o.type B v l (some r) _ 1 (hown.mono hba) (Nat.le_trans hB hba.size) (hb.alloc hB _) (zeT hr) hl;obtain ⟨a',c',rfl,_⟩:=h2.read;refine wpList_plain hgd λ K hK' => ?_
 exact zaB s x ho hs hx h1 (hK' _ _ (hK _ _ _ w' _ hba h2 h3 h4))
end
theorem zjG {l:List (Nat × Nat)} {P:List Rat} {k:Nat} {q:Nat × Nat} {x:Rat} (h1:l[k]?=some q) (h2:P[k]?=some x):shs (l.take (k + 1)) (P.take (k + 1))=shs (l.take k) (P.take k) ++ (if 0 < x then [(q,x)] else []):=by
 rw [zaH h1,zaH h2];refine zgv _ _ _ _ ?_;have:=zdu h1;have:=zdu h2;simp only [List.length_take];omega
theorem zfM:∀ (l:List (Nat × Nat)) (P:List Rat),(shs l P).length<=l.length
 | [],P => by cases P <;> simp [shs]
 | q :: l,[] => by simp [shs]
 | q :: l,x :: P => by
  have:=zfM l P;simp only [shs]
  split <;> simp <;> omega
def zoa (l:List (Nat × Nat)) (f:Rat) (cap:List Rat) (m n M:Nat) (w':World) (e:Ending):Prop:=∃ v ld Ps Qs,e=.returned (.tuple #[v,.int .i64 0])/\zjx w' v ld (shs l Ps) Qs/\Bal l f cap m n M ld Ps Qs
theorem zno {a c:Bool} {b d e f:Option Addr} {n1 n2 n3 n4 n5 n6 n7 n8:Nat}:∀ u∈[Value.bool a,.slice b n1 n2,.bool c,.slice d n3 n4,.slice e n5 n6,.slice f n7 n8],zaE u:=by
 intro u hu;simp at hu;rcases hu with rfl | rfl | rfl | rfl | rfl | rfl <;> (intro k z e; cases e)
theorem noI6' {a c:Bool} {b d e f:Option Addr} {n1 n2 n3 n4 n5 n6 n7 n8:Nat}:∀ u∈[Value.bool a,.slice b n1 n2,.bool c,.slice d n3 n4,.slice e n5 n6,.slice f n7 n8],zaE u:=zno
theorem zeD {g B:Nat} {w w':World} (h:Below B w w'):zaf (λ b => b=g\/B<=b) w w':=⟨h.os,h.tape,h.output,h.size,λ k _ hn => h.block k (Nat.lt_of_not_le λ e => hn (.inr e))⟩
theorem zlT (w:World) {J1:Bool} {ao1:Option Addr} {n1 Y1:Nat} {K1:Bool} {ap1:Option Addr} {m1 Z1:Nat} :
  BB (w.alloc (.cells #[.bool J1,.slice ao1 n1 Y1,.bool K1,.slice ap1 m1 Z1,.slice none 0 0,.slice none 0 0] 39)) w.heap.size (w.heap.size + 1) (.bool J1) (.slice ao1 n1 Y1) (.bool K1) (.slice ap1 m1 Z1) (.slice none 0 0) (.slice none 0 0) [] [] :=
 ⟨heap_alloc_new _ _,zcc.nil _ _,zaz.nil _ _,zbZ _,Nat.lt_succ_self _⟩
theorem zlR {W:World} {g8 g B9:Nat} {v0 v1 v2 v3 v4 v5:Value} {J1:Bool} {ao1:Option Addr} {n1 Y1:Nat} {K1:Bool} {ap1:Option Addr} {m1 Z1:Nat} {aS aQ:Option Addr} {nS cS nQ cQ:Nat} {sh:List ((Nat × Nat) × Rat)} {Qs:List Rat} {ld:Rat} (r8:Row W g8 39 [v0,v1,v2,v3,v4,v5]) (hx:∀ u∈[v0,v1,v2,v3,v4,v5],zaE u)
  (h:BB W g B9 (.bool J1) (.slice ao1 n1 Y1) (.bool K1) (.slice ap1 m1 Z1) (.slice aS nS cS) (.slice aQ nQ cQ) sh (Qs.map some)) (hV:zac W (qA J1 ao1 n1 Y1 K1 ap1 m1 Z1) ld) (hg:g8 < B9) :
  Row ((((((W.setCell ⟨g8,0,none⟩ (.bool J1)).setCell ⟨g8,1,none⟩ (.slice ao1 n1 Y1)).setCell ⟨g8,2,none⟩ (.bool K1)).setCell ⟨g8,3,none⟩ (.slice ap1 m1 Z1)).setCell ⟨g8,4,none⟩ (.slice aS nS cS)).setCell ⟨g8,5,none⟩ (.slice aQ nQ cQ)) g8 39 [.bool J1,.slice ao1 n1 Y1,.bool K1,.slice ap1 m1 Z1,.slice aS nS cS,.slice aQ nQ cQ] /\
  zjx ((((((W.setCell ⟨g8,0,none⟩ (.bool J1)).setCell ⟨g8,1,none⟩ (.slice ao1 n1 Y1)).setCell ⟨g8,2,none⟩ (.bool K1)).setCell ⟨g8,3,none⟩ (.slice ap1 m1 Z1)).setCell ⟨g8,4,none⟩ (.slice aS nS cS)).setCell ⟨g8,5,none⟩ (.slice aQ nQ cQ)) (.agg #[.bool J1,.slice ao1 n1 Y1,.bool K1,.slice ap1 m1 Z1,.slice aS nS cS,.slice aQ nQ cQ]) ld sh Qs /\
  ∀ B X,B<=g8->Below B X W->Below B X ((((((W.setCell ⟨g8,0,none⟩ (.bool J1)).setCell ⟨g8,1,none⟩ (.slice ao1 n1 Y1)).setCell ⟨g8,2,none⟩ (.bool K1)).setCell ⟨g8,3,none⟩ (.slice ap1 m1 Z1)).setCell ⟨g8,4,none⟩ (.slice aS nS cS)).setCell ⟨g8,5,none⟩ (.slice aQ nQ cQ)):=by
 have hk:zaf (λ b => b=g8) W ((((((W.setCell ⟨g8,0,none⟩ (.bool J1)).setCell ⟨g8,1,none⟩ (.slice ao1 n1 Y1)).setCell ⟨g8,2,none⟩ (.bool K1)).setCell ⟨g8,3,none⟩ (.slice ap1 m1 Z1)).setCell ⟨g8,4,none⟩ (.slice aS nS cS)).setCell ⟨g8,5,none⟩ (.slice aQ nQ cQ)) :=
  ((((((zaf.refl W:zaf (λ b => b=g8) W W).setCell (p:=⟨g8,0,none⟩) rfl _).setCell (p:=⟨g8,1,none⟩) rfl _).setCell (p:=⟨g8,2,none⟩) rfl _).setCell (p:=⟨g8,3,none⟩) rfl _).setCell (p:=⟨g8,4,none⟩) rfl _).setCell (p:=⟨g8,5,none⟩) rfl _
 have hnG:NoG (λ b => b=g8) W:=by
  intro b hb cur t fr hc;subst hb;have:=r8.symm.trans hc;simp only [Option.some.injEq,Obj.cells.injEq] at this;obtain ⟨rfl,_,_⟩:=this;intro u hu;exact hx u (by simpa using hu)
 obtain ⟨h1,h2,h3,h4,h5⟩:=h;refine ⟨(((((r8.set 0 (.bool J1)).set 1 (.slice ao1 n1 Y1)).set 2 (.bool K1)).set 3 (.slice ap1 m1 Z1)).set 4 (.slice aS nS cS)).set 5 (.slice aQ nQ cQ),?_,λ B X hB hb => hb.trans (hk.below (λ b e => by rw [e]; exact hB) (Nat.le_trans hB (Nat.le_of_lt r8.lt)))⟩;have h2':=h2.kept zar hk hnG.u (λ b e1 e2 => by have:=(h2.lt b e1).1; omega);have h3':=h3.kept hk hnG (λ b e1 e2 => by have:=(h3.lt b e1).1; omega);obtain ⟨a5,c5,e5,_,hE5⟩:=h2'.read;obtain ⟨a6,c6,e6,hU6⟩:=h3'.read;simp only [Value.slice.injEq] at e5 e6;obtain ⟨rfl,rfl,rfl⟩:=e5;obtain ⟨rfl,rfl,rfl⟩:=e6;refine ⟨J1,ao1,n1,Y1,K1,ap1,m1,Z1,aS,cS,aQ,cQ,by rw [List.length_map],hV.keptU hk hnG.u,hE5,hU6⟩
theorem zmW {B:Nat} {X W:World} {g:Nat} (hg:B<=g) (hb:Below B X W) (y0 y1 y2 y3 y4 y5:Value):Below B X ((((((W.setCell ⟨g,0,none⟩ y0).setCell ⟨g,1,none⟩ y1).setCell ⟨g,2,none⟩ y2).setCell ⟨g,3,none⟩ y3).setCell ⟨g,4,none⟩ y4).setCell ⟨g,5,none⟩ y5) :=
 (((((hb.setCell (p:=⟨g,_,none⟩) hg _).setCell (p:=⟨g,_,none⟩) hg _).setCell (p:=⟨g,_,none⟩) hg _).setCell (p:=⟨g,_,none⟩) hg _).setCell (p:=⟨g,_,none⟩) hg _).setCell (p:=⟨g,_,none⟩) hg _
theorem zea (R S:List Nat) (f:Rat) (cap:List Rat) (m:Nat) (HW:Hid (WkM R S f cap m)) (aR aS aC:Option Addr) (cR cS cC:Nat) (vf:Value) (w:World) (hcR:R.length<=cR) (hcS:S.length<=cS) (uR:zaM w aR R) (uS:zaM w aS S) (hf:zac w vf f) (uC:UQ w aC (cap.map some)) (hE:Env w) :
  Calls Tryz.prog 26 #[.slice aR R.length cR,.slice aS S.length cS,vf,.slice aC cap.length cC] w λ e w' => zoa (prs R S) f cap m (prs R S).length (szE 96 m) w' e/\BH w w':=by
 have hbw:=Below.refl w.heap.size w;obtain ⟨J1,ao1,n1,Y1,K1,ap1,m1,Z1,rfl⟩:=hf.parts;have hm:=HW.out.hm;have hm8:1<=m/\m<=8:=⟨hm.1,by omega⟩;have HLc:Hid (cap.length=m):=hii HW.out.lc;have HWk:=hii HW.out.wk;rw [<- zbK] at HWk;have hR4:=HW.out.fR.len;have hS4:=HW.out.fS.len;have hn9:1<=(prs R S).length/\(prs R S).length<=9:=⟨HWk.out.hn.1,by rw [zbK]; exact HW.out.n9⟩;have HPg:=hii (λ w u1 u2 u3 u4 u5 => zhK R S f cap m HW aR aS aC cR cS cC (.agg #[.bool J1,.slice ao1 n1 Y1,.bool K1,.slice ap1 m1 Z1]) w hcR hcS u1 u2 u3 u4 u5);have HNW:=hii (λ w u1 u2 u3 u4 u5 => zcS R S f cap m HW aR aS aC cR cS cC (.agg #[.bool J1,.slice ao1 n1 Y1,.bool K1,.slice ap1 m1 Z1]) w hcR hcS u1 u2 u3 u4 u5);have HPR:=hii (λ g w hW => zc9 g R S f cap w (by omega) (by omega) hW);obtain ⟨l,hl⟩:∃ l,prs R S=l:=⟨_,rfl⟩;rw [hl] at hn9 HPg HPR HWk |-;rw [HLc.out] at HNW HPg |-;clear hl hR4 hS4;obtain ⟨n,hn⟩:∃ n,l.length=n:=⟨_,rfl⟩;have Hn:=hii hn;rw [hn] at hn9 HPg HWk |-;clear hn;obtain ⟨A,hA⟩:∃ A,wA f l m=A:=⟨_,rfl⟩;have HA:=hii hA;rw [hA] at HPg;clear hA;obtain ⟨M,hM⟩:∃ M,szE 96 m=M:=⟨_,rfl⟩;have HMK:Hid (M<=KK):=hii (by rw [<- hM]; exact HWk.out.wq.bigE);have HM:=hii hM;rw [hM];clear hM;go_enter func26,ntmps26;go_upto_region 1 with fail;obtain ⟨wx,hwx,r1,r2,hb⟩:=zaO w 32 39 [.bool J1,.slice ao1 n1 Y1,.bool K1,.slice ap1 m1 Z1] [.bool false,.slice none 0 0,.bool false,.slice none 0 0,.slice none 0 0,.slice none 0 0];simp only [List.toArray] at hwx;rw [<- hwx];clear hwx;obtain ⟨w1,rfl⟩:=exi wx;obtain ⟨g2,hg2⟩:=exi (w.heap.size + 1);have Hg2:Hid (w.heap.size<=g2):=hii (by omega);rw [<- hg2] at r2 |-;clear hg2;obtain ⟨g1,hg1⟩:=exi (w.heap.size);have Hg1:Hid (w.heap.size<=g1):=hii (by omega);rw [<- hg1] at r1 |-;clear hg1;have hf:=hf.mono hb;have uR:=uR.mono hb;have uS:=uS.mono hb;have uC:=uC.mono hb;have hE:=hE.mono hb;have hbw:=bu hbw hb;clear hb;obtain ⟨c0,c1,c2,c3⟩:=r1.n4;go_wp2_with fail;go_fit (HPg.out w1 uR uS hf uC hE);rintro e w2 ⟨⟨aA,cA,aB,cB,aD,cD,rfl,uA,uB,uD⟩,hb⟩;have hf:=hf.mono hb;have uR:=uR.mono hb;have uS:=uS.mono hb;have uC:=uC.mono hb;have hE:=hE.mono hb;have r1:=r1.below hb;have r2:=r2.below hb;have hbw:=bu hbw hb;clear hb;clear c0 c1 c2 c3 HPg;go_upto_region 2 with fail;obtain ⟨w3,g10,hw9,hg9,hb,r10⟩:=bxr w2 [.slice aA m cA,.slice aB m cB,.slice aD n cD] 105;rw [<- hw9,<- hg9];have Hg10:Hid (w.heap.size<=g10):=hii (by have:=hbw.size; omega);clear hw9 hg9;have uA:=uA.mono hb;have uB:=uB.mono hb;have uD:=uD.mono hb;have hf:=hf.mono hb;have uR:=uR.mono hb;have uS:=uS.mono hb;have uC:=uC.mono hb;have hE:=hE.mono hb;have r1:=r1.below hb;have r2:=r2.below hb;have hbw:=bu hbw hb;clear hb;have hSv:Calls Tryz.prog 66 #[.agg #[.slice aA m cA,.slice aB m cB,.slice aD n cD]] w3 λ e w' => zn7 A cap (List.replicate n 1) m n w' e/\BH w3 w':=by
  rw [<- HA.out] at uA |-;exact zjE _ _ _ m n (hii HWk.out.wq.err) (hii HWk.out.wq.sz) (hii ⟨HWk.out.wq.lA,HWk.out.wq.rA⟩) (hii ⟨HLc.out,HWk.out.wq.pb⟩) (hii (by simp)) ⟨hm.1,by omega⟩ ⟨hn9.1,by omega⟩ aA aB aD cA cB cD w3 uA uB (by rw [List.map_replicate]; exact uD) hE
 obtain ⟨c0,c1,c2⟩:=r10.n3;go_wp2_with fail;(with_reducible refine hSv.mono ?_);rintro e w4 ⟨hSol,hb⟩;clear hSv c0 c1 c2 uA uB uD;have hf:=hf.mono hb;have uR:=uR.mono hb;have uS:=uS.mono hb;have uC:=uC.mono hb;have hE:=hE.mono hb;have r1:=r1.below hb;have r2:=r2.below hb;have hbw:=bu hbw hb;clear hb;rw [<- HA.out] at hSol;obtain ⟨val,X,Y,vo,rfl,hO,hX⟩ | ⟨Z,rfl,hZ⟩:=hSol
 case inr => exact (HWk.out.nounb hZ).elim
 have hOW:=HWk.out.opt hX;rw [HM.out] at hOW;have hBal:=hOW.bal;obtain ⟨D9,hD0,hDM,⟨hD1,hD2,hD3⟩⟩:=hOW.den;have hDK:D9.natAbs<=KK:=Nat.le_trans hDM HMK.out;have hKv:Kb 1 val:=zca hD0 hDK hD1 HMK.out;have hKX:∀ x∈X,Kb 1 x:=λ x hx => zca hD0 hDK (hD2 x hx) HMK.out
 have hKY:∀ x∈Y,Kb 1 x:=λ x hx => zca hD0 hDK (hD3 x hx) HMK.out
 have hK1:Kb 1 1:=zbr zgn (by decide);have hv0:val.num ≠ 0:=(λ e => by have h:=hOW.vp; rw [Rat.num_eq_zero.1 e] at h; exact Rat.lt_irrefl h);have HDs:Hid (zk0 1 val):=hii (hK1.divS hKv (by decide));have Hv0:=hii hv0;obtain ⟨ld,hld⟩:∃ d,1 / val=d:=⟨_,rfl⟩;have hKl:Kb 2 ld:=by rw [<- hld]; exact hK1.div hKv hv0
 have HMX:Hid (∀ x∈X,zdH x ld):=hii λ x hx => (hKX x hx).mulS hKl (by decide)
 have HMY:Hid (∀ x∈Y,zdH x ld):=hii λ x hx => (hKY x hx).mulS hKl (by decide)
 have h0K:Kb 1 0:=zbr (Sx.wh_zero.mono (Nat.zero_le 1)) (by decide);have HCX:Hid (∀ x∈X,CrS (x * ld) 0):=hii λ x hx => ((hKX x hx).mul hKl).crS h0K (by decide)
 rw [hld] at hBal;have Hld:=hii hld;have HBal:=hii hBal;have HXl:Hid (X.length=n):=hii hOW.lX;have HYl:Hid (Y.length=m):=hii hOW.lY;clear hX hOW hBal hD0 hDM hD1 hD2 hD3 hDK hKv hKX hKY hK1 hv0 hKl h0K hld;obtain ⟨J2,ao2,n2,Y2,K2,ap2,m2,Z2,aX,cX,aY,cY,rfl,hvV,uX,uY⟩:=hO;have hvV:zac w4 (qA J2 ao2 n2 Y2 K2 ap2 m2 Z2) val:=hvV;rw [List.length_map,List.length_map,HXl.out,HYl.out];go_upto_region 5 with fail;obtain ⟨w5,g12,hw9,hg9,hb,r12⟩:=bxr w4 [.bool J2,.slice ao2 n2 Y2,.bool K2,.slice ap2 m2 Z2,.slice aX n cX,.slice aY m cY] 109;rw [<- hw9,<- hg9];have Hg12:Hid (w.heap.size<=g12):=hii (by have:=hbw.size; omega);clear hw9 hg9;have hvV:=hvV.mono hb;have uX:=uX.mono hb;have uY:=uY.mono hb;have hf:=hf.mono hb;have uR:=uR.mono hb;have uS:=uS.mono hb;have uC:=uC.mono hb;have hE:=hE.mono hb;have r1:=r1.below hb;have r2:=r2.below hb;have hbw:=bu hbw hb;clear hb;obtain ⟨c0,c1,c2,c3⟩:=r1.n4;go_wp2_with fail;go_fit (HNW.out w5 uR uS hf uC hE);rintro e w6 ⟨⟨g13,rfl,hg13,hW⟩,hb⟩;clear uR uS uC hf HNW c0 c1 c2 c3 r1;have hvV:=hvV.mono hb;have uX:=uX.mono hb;have uY:=uY.mono hb;have hE:=hE.mono hb;have r2:=r2.below hb;have r12:=r12.below hb;have hbw:=bu hbw hb;clear hb;go_upto_region 8 with fail;obtain ⟨wa,rfl⟩:=exi w6;refine zaq (wx:=wa) (λ _ => False) [(λ G X W => ((FQ 1):(Nat->Prop)->World->Value->Prop) G W (X 0)),(λ _ X _ => X 1=.pointer (some ⟨g12,0,none⟩)),(λ _ X _ => X 2=.agg #[.bool J2,.slice ao2 n2 Y2,.bool K2,.slice ap2 m2 Z2]),(λ G X W => ((λ _ W v => ∃ a,v=.tuple #[a,.int .i64 0]/\zac W a (ld)):(Nat->Prop)->World->Value->Prop) G W (X 3)),(λ G X W => ((λ _ W v => ∃ a,v=.tuple #[a,.int .i64 0]/\zac W a (ld)):(Nat->Prop)->World->Value->Prop) G W (X 4)),(λ G X W => ((FQ (ld)):(Nat->Prop)->World->Value->Prop) G W (X 5)),(λ _ X _ => X 6=.int .i64 0),(λ _ _ _ => True),(λ _ _ _ => True),(λ _ X _ => X 9=.int .i64 0)] [some 55,some 56,some 57,some 58,some 54,some 59,some 60,some 15,none,some 11] [none,none,none,none,none,none,none,some ⟨8,5,32,[.bool false,.slice none 0 0,.bool false,.slice none 0 0]⟩,none,none] [55,56,57,58,54,59,60,15,11] (by kernel_rfl) (by kernel_rfl) (by kernel_rfl) (by kernel_rfl) (of_decide_eq_true (by kernel_rfl)) (by kernel_rfl) ⟨(by intro u hu k z e; subst e; simp at hu),trivial⟩ (λ b h => h) br ⟨za7 _,zab _ _ _,zab _ _ _,(zaw (F:=λ _ W v => ∃ a,v=.tuple #[a,.int .i64 0]/\zac W a (ld)) λ G G' W W' v ⟨a,e,h⟩ hk hn hG => ⟨a,e,h.kept hk hn⟩),(zaw (F:=λ _ W v => ∃ a,v=.tuple #[a,.int .i64 0]/\zac W a (ld)) λ G G' W W' v ⟨a,e,h⟩ hk hn hG => ⟨a,e,h.kept hk hn⟩),za7 _,zab _ _ _,zao _,zao _,zab _ _ _,trivial⟩ ⟨⟨λ _ _ _ => trivial,λ _ _ _ => trivial⟩,trivial⟩ ⟨?s0,?s1,?s2,?s3,?s4,?s5,?s6,?s7,?s8,?s9,trivial⟩ ⟨?b7,trivial⟩ ?he
 case' s0 | s1 | s2 | s3 | s4 | s5 | s6 =>
  rintro - G T W hb hHG hGW hGo hNG hA K hK
 case' s1 =>
  simp only [sA] at hK |-
 case' s2 =>
  have e1:T 56=_:=hA.1;obtain ⟨k0,k1,k2,k3,k4,k5⟩:=(r12.below hb).n6;simp only [sA,e1] at hK |-
 case' s6 =>
  have r4:((λ _ W v => ∃ a,v=.tuple #[a,.int .i64 0]/\zac W a (ld)):(Nat->Prop)->World->Value->Prop) G W (T 54):=hA.1;obtain ⟨a6,e4,h6⟩:=r4;simp only [sA,e4] at hK |-
 case s1 | s2 | s6 =>
  have HK:=hii hK;clear hK hA;refine wO rfl (by rfl) ?_;go_simp;exact HK.out _ _ br λ X hX _ => hX
 case s0 =>
  simp only [sA] at hK |-;have HK:=hii hK;clear hK hA;refine wO rfl (by rfl) ?_;go_simp;go_fit (zaF 1 (by decide) (by decide) W (hE.mono hb));rintro e w1 ⟨hz,hb1⟩;obtain ⟨J5,ao5,n5,Y5,K5,ap5,m5,Z5,rfl,hV5⟩:=hz.rat;have hV5:zac w1 (qA J5 ao5 n5 Y5 K5 ap5 m5 Z5) 1:=hV5
  try dsimp only
  exact HK.out _ _ (hb1) λ X hX _ => by
   show ((FQ 1):(Nat->Prop)->World->Value->Prop) G _ (X 0)
   rw [hX];exact hV5
 case s3 =>
  have r0:((FQ 1):(Nat->Prop)->World->Value->Prop) G W (T 55):=hA.1;have e2:T 57=_:=hA.2.1;have r0:zac W _ 1:=r0;obtain ⟨J6,ao6,n6,Y6,K6,ap6,m6,Z6,e0⟩:=r0.parts;rw [e0] at r0;simp only [sA,e2,e0] at hK |-;have HK:=hii hK;clear hK hA;refine wO rfl (by rfl) ?_;go_simp;go_fit (zkz _ _ 1 val 0 W r0 (hvV.mono hb) Hv0 (hii (KQ.ok HDs.out)) (hE.mono hb));rintro e w1 ⟨hz,hb1⟩;rw [Hld.out] at hz;obtain ⟨J7,ao7,n7,Y7,K7,ap7,m7,Z7,rfl,hV7⟩:=hz.got.rat
  try dsimp only
  exact HK.out _ _ (hb1) λ X hX _ => by
   show ((λ _ W v => ∃ a,v=.tuple #[a,.int .i64 0]/\zac W a (ld)):(Nat->Prop)->World->Value->Prop) G _ (X 3)
   rw [hX];exact ⟨_,rfl,hV7⟩
 case s4 =>
  have r3:((λ _ W v => ∃ a,v=.tuple #[a,.int .i64 0]/\zac W a (ld)):(Nat->Prop)->World->Value->Prop) G W (T 58):=hA.1;obtain ⟨a6,e3,h6⟩:=r3;simp only [sA,e3] at hK |-;have HK:=hii hK;clear hK hA;refine wO rfl (by rfl) ?_;go_simp;exact HK.out _ _ br λ X hX _ => by
   show ((λ _ W v => ∃ a,v=.tuple #[a,.int .i64 0]/\zac W a (ld)):(Nat->Prop)->World->Value->Prop) G _ (X 4)
   rw [hX];exact ⟨_,rfl,h6⟩
 case s5 =>
  have r4:((λ _ W v => ∃ a,v=.tuple #[a,.int .i64 0]/\zac W a (ld)):(Nat->Prop)->World->Value->Prop) G W (T 54):=hA.1;obtain ⟨a6,e4,h6⟩:=r4;simp only [sA,e4] at hK |-;have HK:=hii hK;clear hK hA;refine wO rfl (by rfl) ?_;go_simp;exact HK.out _ _ br λ X hX _ => by
   show ((FQ (ld)):(Nat->Prop)->World->Value->Prop) G _ (X 5)
   rw [hX];exact h6
 case s7 => exact λ h => absurd h (by decide)
 case s8 => exact λ h => absurd h (by decide)
 case s9 =>
  rintro - G T W hb hHG hGW hGo hNG hA K hK;have e6:T 60=_:=hA.1;simp only [sA,e6] at hK |-;have HK:=hii hK;clear hK hA;refine wO rfl (by rfl) ?_;go_simp;exact HK.out _ _ br λ X hX _ => hX
 case b7 =>
  refine ⟨?_,?_⟩
  ·rintro o ho T W K hK;obtain rfl:=Option.some.inj ho;simp only [sA] at hK |-;have HK:=hii hK;clear hK ho;refine wO rfl (by rfl) ?_;go_simp;exact HK.out
  ·rintro o ho G T W nb hA hp hrow K hK;obtain rfl:=Option.some.inj ho;have ep:T 15=.pointer (some ⟨nb,0,none⟩):=hp;have r5:((FQ (ld)):(Nat->Prop)->World->Value->Prop) G W (T 59):=hA.2.1;have r5:zac W _ (ld):=r5;obtain ⟨J8,ao8,n8,Y8,K8,ap8,m8,Z8,e5⟩:=r5.parts;have hK:=hK [.bool J8,.slice ao8 n8 Y8,.bool K8,.slice ap8 m8 Z8] (.inl e5) rfl (by intro u hu k z e; subst e; simp at hu);simp only [sA,ep,e5] at hK |-;have HK:=hii hK;clear hK hA ho;have q0:=hrow.cell (k:=0) (by simp);have f0:=hrow.free 0;have q1:=hrow.cell (k:=1) (by simp);have f1:=hrow.free 1;have q2:=hrow.cell (k:=2) (by simp);have f2:=hrow.free 2;have q3:=hrow.cell (k:=3) (by simp);have f3:=hrow.free 3;simp only [List.getElem_cons_zero,List.getElem_cons_succ] at q0 q1 q2 q3;refine wO rfl (by rfl) ?_;go_simp;exact HK.out
 case he =>
  rintro GG N T W hb hHG hGW hGo hbox hNG hne hA;have fv:((FQ (ld)):(Nat->Prop)->World->Value->Prop) GG W (T 59):=hA.at 5 (by decide);have f9:T 11=.int .i64 0:=hA.at 9 (by decide);obtain ⟨ep,_,hge,vs,hsto,hrow⟩:=hbox 7 _ rfl;have ep:T 15=.pointer (some ⟨N 7,0,none⟩):=ep;have fv:zac W _ (ld):=fv;obtain ⟨J3,ao3,n3,Y3,K3,ap3,m3,Z3,e5⟩:=fv.parts;obtain rfl:=hsto.four e5;rw [e5] at fv;simp only [sA,ep,f9];obtain ⟨g15,hg⟩:∃ g,g=N 7:=⟨_,rfl⟩;rw [<- hg] at hrow hge |-;have Hg15:=hii hge;clear hA hbox hNG hne hHG hGW hGo ep f9 hsto hge e5 hg;have uX:=uX.mono hb;have uY:=uY.mono hb;have hW:=hW.mono hb;have hE:=hE.mono hb;have r2:=r2.below hb;have r12:=r12.below hb;have hbw:=bu hbw hb;clear hb;clear HDs Hv0 hvV;obtain ⟨wb,rfl⟩:=exi W;have r15:Row wb g15 32 [.bool J3,.slice ao3 n3 Y3,.bool K3,.slice ap3 m3 Z3]:=hrow;have hL:=fv;clear hrow fv;obtain ⟨k0,k1,k2,k3⟩:=r15.n4;go_upto_region 12 with fail;clear k0 k1 k2 k3;have hb:=bA wb (.cells #[.bool J3,.slice ao3 n3 Y3,.bool K3,.slice ap3 m3 Z3,.slice none 0 0,.slice none 0 0] 39);have hBB:=zlT wb (J1:=J3) (ao1:=ao3) (n1:=n3) (Y1:=Y3) (K1:=K3) (ap1:=ap3) (m1:=m3) (Z1:=Z3);obtain ⟨g16,hg⟩:∃ g,g=wb.heap.size:=⟨_,rfl⟩;have hgl:wb.heap.size<=g16:=by omega
  have H816:Hid (g2 < g16):=hii (by have:=r2.lt; omega);have H1216:Hid (g12 < g16/\g15 < g16):=hii (by have:=r12.lt; have:=r15.lt; omega);rw [<- hg] at hBB |-;clear hg;have HbX:=hii hb;generalize wb.alloc (.cells #[.bool J3,.slice ao3 n3 Y3,.bool K3,.slice ap3 m3 Z3,.slice none 0 0,.slice none 0 0] 39)=w8 at *;have hW8:=hW.mono hb;go_wp2_with fail;go_fit (HPR.out g13 w8 hW8);rintro e w9 ⟨⟨vl,rfl,hOl⟩,hb9⟩;obtain ⟨al,cl,rfl,-,uL⟩:=hOl.read;rw [Hn.out];have hal:∀ a,al=some a->g16 < a.block/\a.block < w9.heap.size:=λ a e => by
   subst e;have h1:=hOl.lt a.block rfl;have h2:=hBB.1.lt;exact ⟨by omega,h1.2⟩
  have HkA:=hii (hBB.1.below hb9);have HbX:=hii (HbX.out.trans (hb9.mono HbX.out.size));clear hOl hb hW8 HPR hW hBB hb9;obtain ⟨wL,rfl⟩:=exi w9;have HgL:Hid (g16 < wL.heap.size):=hii HkA.out.lt;have hBB:BB wL g16 wL.heap.size (.bool J3) (.slice ao3 n3 Y3) (.bool K3) (.slice ap3 m3 Z3) (.slice none 0 0) (.slice none 0 0) [] []:=⟨HkA.out,zcc.nil _ _,zaz.nil _ _,zbZ _,HgL.out⟩;have HkL:Hid (zaf (λ b => b=g16\/wL.heap.size<=b) wL wL):=hii (zaf.refl _);clear HkA;have Hal:=hii hal;clear hal;go_wp2_with fail;go_loopw [70] (λ s wr => ∃ k:Nat,∃ vS:Value,k<=n/\s=.int .i64 k/\BB wr g16 wL.heap.size (.bool J3) (.slice ao3 n3 Y3) (.bool K3) (.slice ap3 m3 Z3) vS (.slice none 0 0) (shs (l.take k) ((X.map (· * ld)).take k)) []/\Hid (BH wb wr)/\Hid (zaf (λ b => b=g16\/wL.heap.size<=b) wL wr)) (λ s _ => n - (intOf s).toNat)
  case atStart => exact ⟨0,_,Nat.zero_le _,rfl,by simpa [shs] using hBB,HbX,HkL⟩
  case round =>
   clear hBB HbX HkL;obtain ⟨k,vS,hk,rfl,hBB,HbX,HkL⟩:=hrel
   by_cases hlt:k < n
   ·obtain ⟨q,hx⟩:∃ x,l[k]?=some x:=⟨l[k]'(by rw [Hn.out]; exact hlt),gE _⟩;obtain ⟨x,hxx⟩:∃ x,X[k]?=some x:=⟨X[k]'(by rw [HXl.out]; exact hlt),gE _⟩;have hxm:=List.mem_of_getElem? hxx;have HM1:Hid (zdH x ld):=hii (HMX.out x hxm);have HC1:Hid (CrS (x * ld) 0):=hii (HCX.out x hxm);have HSh:=hii (zjG (P:=X.map (· * ld)) hx (x:=x * ld) (by rw [List.getElem?_map,hxx]; rfl));have HSl:Hid ((shs (l.take k) ((X.map (· * ld)).take k)).length<=1000000):=hii (by have:=zfM (l.take k) ((X.map (· * ld)).take k); simp at this; omega);obtain ⟨sh,hsh⟩:∃ sh,(shs (l.take k) ((X.map (· * ld)).take k))=sh:=⟨_,rfl⟩;rw [hsh] at hBB HSh HSl;obtain ⟨b1,off1,c,ea,hck,hcs,hcq⟩:=uL k q hx;obtain ⟨r,s⟩:=q;have hc0:=hcs 0 (.int .u16 (r:Nat)) (by rw [hcq]; rfl);have hc1:=hcs 1 (.int .u16 (s:Nat)) (by rw [hcq]; rfl);subst ea;have hne:¬ (λ b => b=g16\/wL.heap.size<=b) b1:=λ h => by have:=Hal.out _ rfl; simp only at this; rcases h with h | h <;> omega
    have hc0:=HkL.out.cell hc0 hne;have hc1:=HkL.out.cell hc1 hne;rw [Nat.add_zero] at hc0;rw [<- Nat.add_assoc] at hc1;obtain ⟨bX,offX,J4,ao4,n4,Y4,K4,ap4,m4,Z4,eX,z4,hvx⟩:=(uX.mono HbX.out) k (some x) (by rw [List.getElem?_map,hxx]; rfl);have hvx:zac wr (qA J4 ao4 n4 Y4 K4 ap4 m4 Z4) x:=hvx;have r12k:=r12.below HbX.out;have r15k:=r15.below HbX.out;have hLk:=hL.mono HbX.out;have hEk:=hE.mono HbX.out;have hxn:(k:Int) < (n:Int):=by omega
    subst eX;clear hx hxx hxm hsh hcs hcq hck hne;go_upto_region 15 with fail;have hb:=bA wr (.cells #[.int .u16 (r:Nat),.int .u16 (s:Nat)] 115);have r8:Row (wr.alloc (.cells #[.int .u16 (r:Nat),.int .u16 (s:Nat)] 115)) wr.heap.size 115 [.int .u16 (r:Nat),.int .u16 (s:Nat)]:=heap_alloc_new _ _;obtain ⟨g18,hg⟩:∃ g,g=wr.heap.size:=⟨_,rfl⟩;rw [<- hg] at r8 |-;clear hg hc0 hc1;generalize wr.alloc (.cells #[.int .u16 (r:Nat),.int .u16 (s:Nat)] 115)=wc at *;have z4:=z4.mono hb;have hvx:=hvx.mono hb;have r12k:=r12k.below hb;have r15k:=r15k.below hb;have hLk:=hLk.mono hb;have hEk:=hEk.mono hb;have hbw9:=Below.step (Below.refl wr.heap.size wr) hb nl;clear hb;refine zaq (wx:=wc) (λ _ => False) [(λ _ X _ => X 0=.pointer (some ⟨g12,4,none⟩)),(λ _ X _ => X 1=.slice (some ⟨bX,offX,none⟩) n cX),(λ _ X _ => X 2=.int .i64 k),(λ _ X _ => X 3=.pointer (some ⟨bX,offX + k * 4,none⟩)),(λ _ X _ => X 4=.agg #[.bool J4,.slice ao4 n4 Y4,.bool K4,.slice ap4 m4 Z4]),(λ _ X _ => X 5=.agg #[.bool J3,.slice ao3 n3 Y3,.bool K3,.slice ap3 m3 Z3]),(λ G X W => ((λ _ W v => ∃ a,v=.tuple #[a,.int .i64 0]/\zac W a (x * ld)):(Nat->Prop)->World->Value->Prop) G W (X 6)),(λ G X W => ((λ _ W v => ∃ a,v=.tuple #[a,.int .i64 0]/\zac W a (x * ld)):(Nat->Prop)->World->Value->Prop) G W (X 7)),(λ G X W => ((FQ (x * ld)):(Nat->Prop)->World->Value->Prop) G W (X 8)),(λ _ X _ => X 9=.int .i64 0),(λ _ _ _ => True),(λ _ _ _ => True),(λ _ X _ => X 12=.int .i64 0)] [some 76,some 77,some 78,some 79,some 80,some 81,some 82,some 75,some 83,some 84,some 19,none,some 20] [none,none,none,none,none,none,none,none,none,none,some ⟨11,8,32,[.bool false,.slice none 0 0,.bool false,.slice none 0 0]⟩,none,none] [76,77,78,79,80,81,82,75,83,84,19,20] (by kernel_rfl) (by kernel_rfl) (by kernel_rfl) (by kernel_rfl) (of_decide_eq_true (by kernel_rfl)) (by kernel_rfl) ⟨(by intro u hu k z e; subst e; simp at hu),trivial⟩ (λ b h => h) br ⟨zab _ _ _,zab _ _ _,zab _ _ _,zab _ _ _,zab _ _ _,zab _ _ _,(zaw (F:=λ _ W v => ∃ a,v=.tuple #[a,.int .i64 0]/\zac W a (x * ld)) λ G G' W W' v ⟨a,e,h⟩ hk hn hG => ⟨a,e,h.kept hk hn⟩),(zaw (F:=λ _ W v => ∃ a,v=.tuple #[a,.int .i64 0]/\zac W a (x * ld)) λ G G' W W' v ⟨a,e,h⟩ hk hn hG => ⟨a,e,h.kept hk hn⟩),za7 _,zab _ _ _,zao _,zao _,zab _ _ _,trivial⟩ ⟨⟨λ _ _ _ => trivial,λ _ _ _ => trivial⟩,trivial⟩ ⟨?s0,?s1,?s2,?s3,?s4,?s5,?s6,?s7,?s8,?s9,?s10,?s11,?s12,trivial⟩ ⟨?b10,trivial⟩ ?he
    case' s0 | s1 | s2 | s3 | s4 | s5 | s6 | s7 | s8 | s9 =>
     rintro - G T W hb hHG hGW hGo hNG hA K hK
    case' s0 | s2 =>
     simp only [sA] at hK |-
    case' s1 =>
     have e0:T 76=_:=hA.1;obtain ⟨k0,k1,k2,k3,k4,k5⟩:=(r12k.below hb).n6;simp only [sA,e0] at hK |-
    case' s3 =>
     have e1:T 77=_:=hA.1;have e2:T 78=_:=hA.2.1;simp only [sA,e1,e2] at hK |-
    case' s4 =>
     have e3:T 79=_:=hA.1;obtain ⟨f0,f1,f2,f3,_,_,_,_⟩:=z4.mono hb;simp only [sA,e3] at hK |-
    case' s5 =>
     obtain ⟨k0,k1,k2,k3⟩:=(r15k.below hb).n4;simp only [sA] at hK |-
    case' s9 =>
     have r7:((λ _ W v => ∃ a,v=.tuple #[a,.int .i64 0]/\zac W a (x * ld)):(Nat->Prop)->World->Value->Prop) G W (T 75):=hA.1;obtain ⟨a6,e7,h6⟩:=r7;simp only [sA,e7] at hK |-
    case s0 | s1 | s2 | s3 | s4 | s5 | s9 =>
     have HK:=hii hK;clear hK hA;refine wO rfl (by rfl) ?_;go_simp;exact HK.out _ _ br λ X hX _ => hX
    case s6 =>
     have e4:T 80=_:=hA.1;have e5:T 81=_:=hA.2.1;simp only [sA,e4,e5] at hK |-;have HK:=hii hK;clear hK hA;refine wO rfl (by rfl) ?_;go_simp;go_fit (zl5 _ _ x ld W (hvx.mono hb) (hLk.mono hb) HM1 (hEk.mono hb));rintro e w1 ⟨hz,hb1⟩;obtain ⟨J7,ao7,n7,Y7,K7,ap7,m7,Z7,rfl,hV7⟩:=hz.rat
     try dsimp only
     exact HK.out _ _ (hb1) λ X hX _ => by
      show ((λ _ W v => ∃ a,v=.tuple #[a,.int .i64 0]/\zac W a (x * ld)):(Nat->Prop)->World->Value->Prop) G _ (X 6)
      rw [hX];exact ⟨_,rfl,hV7⟩
    case s7 =>
     have r6:((λ _ W v => ∃ a,v=.tuple #[a,.int .i64 0]/\zac W a (x * ld)):(Nat->Prop)->World->Value->Prop) G W (T 82):=hA.1;obtain ⟨a6,e6,h6⟩:=r6;simp only [sA,e6] at hK |-;have HK:=hii hK;clear hK hA;refine wO rfl (by rfl) ?_;go_simp;exact HK.out _ _ br λ X hX _ => by
      show ((λ _ W v => ∃ a,v=.tuple #[a,.int .i64 0]/\zac W a (x * ld)):(Nat->Prop)->World->Value->Prop) G _ (X 7)
      rw [hX];exact ⟨_,rfl,h6⟩
    case s8 =>
     have r7:((λ _ W v => ∃ a,v=.tuple #[a,.int .i64 0]/\zac W a (x * ld)):(Nat->Prop)->World->Value->Prop) G W (T 75):=hA.1;obtain ⟨a6,e7,h6⟩:=r7;simp only [sA,e7] at hK |-;have HK:=hii hK;clear hK hA;refine wO rfl (by rfl) ?_;go_simp;exact HK.out _ _ br λ X hX _ => by
      show ((FQ (x * ld)):(Nat->Prop)->World->Value->Prop) G _ (X 8)
      rw [hX];exact h6
    case s10 => exact λ h => absurd h (by decide)
    case s11 => exact λ h => absurd h (by decide)
    case s12 =>
     rintro - G T W hb hHG hGW hGo hNG hA K hK;have e9:T 84=_:=hA.1;simp only [sA,e9] at hK |-;have HK:=hii hK;clear hK hA;refine wO rfl (by rfl) ?_;go_simp;exact HK.out _ _ br λ X hX _ => hX
    case b10 =>
     refine ⟨?_,?_⟩
     ·rintro o ho T W K hK;obtain rfl:=Option.some.inj ho;simp only [sA] at hK |-;have HK:=hii hK;clear hK ho;refine wO rfl (by rfl) ?_;go_simp;exact HK.out
     ·rintro o ho G T W nb hA hp hrow K hK;obtain rfl:=Option.some.inj ho;have ep:T 19=.pointer (some ⟨nb,0,none⟩):=hp;have r8:((FQ (x * ld)):(Nat->Prop)->World->Value->Prop) G W (T 83):=hA.2.1;have r8:zac W _ (x * ld):=r8;obtain ⟨J8,ao8,n8,Y8,K8,ap8,m8,Z8,e8⟩:=r8.parts;have hK:=hK [.bool J8,.slice ao8 n8 Y8,.bool K8,.slice ap8 m8 Z8] (.inl e8) rfl (by intro u hu k z e; subst e; simp at hu);simp only [sA,ep,e8] at hK |-;have HK:=hii hK;clear hK hA ho;have q0:=hrow.cell (k:=0) (by simp);have f0:=hrow.free 0;have q1:=hrow.cell (k:=1) (by simp);have f1:=hrow.free 1;have q2:=hrow.cell (k:=2) (by simp);have f2:=hrow.free 2;have q3:=hrow.cell (k:=3) (by simp);have f3:=hrow.free 3;simp only [List.getElem_cons_zero,List.getElem_cons_succ] at q0 q1 q2 q3;refine wO rfl (by rfl) ?_;go_simp;exact HK.out
    case he =>
     rintro GG N T W hb hHG hGW hGo hbox hNG hne hA;have fv:((FQ (x * ld)):(Nat->Prop)->World->Value->Prop) GG W (T 83):=hA.at 8 (by decide);have f12:T 20=.int .i64 0:=hA.at 12 (by decide);obtain ⟨ep,_,hge,vs,hsto,hrow⟩:=hbox 10 _ rfl;have ep:T 19=.pointer (some ⟨N 10,0,none⟩):=ep;have fv:zac W _ (x * ld):=fv;obtain ⟨J5,ao5,n5,Y5,K5,ap5,m5,Z5,e5⟩:=fv.parts;obtain rfl:=hsto.four e5;rw [e5] at fv;simp only [sA,ep,f12];obtain ⟨g19,hg⟩:∃ g,g=N 10:=⟨_,rfl⟩;rw [<- hg] at hrow hge |-;have Hg19:=hii hge;clear hA hbox hNG hne hHG hGW hGo ep f12 hsto hge e5 hg;have r8:=r8.below hb;have hbw9:=bu hbw9 hb;have hEk:=hEk.mono hb;clear hb r12k r15k hLk hvx z4;obtain ⟨wd,rfl⟩:=exi W;have r19:Row wd g19 32 [.bool J5,.slice ao5 n5 Y5,.bool K5,.slice ap5 m5 Z5]:=hrow;clear hrow;obtain ⟨cc,hcc⟩:∃ c,Rq.cmpQ (x * ld) 0=c:=⟨_,rfl⟩;have Hcc:=hii hcc;clear hcc;go_upto_region 18 with fail;refine zae (wx:=wd) [vf (.agg #[.bool J5,.slice ao5 n5 Y5,.bool K5,.slice ap5 m5 Z5]),(λ W v => zac W v 0),vf (.int .i64 cc),vf (.bool (decide (0 < cc)))] [89,90,91,92] (by kernel_rfl) (by kernel_rfl) (by kernel_rfl) (of_decide_eq_true (by kernel_rfl)) br ⟨sV _,(λ _ _ _ h hb => h.mono hb),sV _,sV _,trivial⟩ ⟨?s0,?s1,?s2,?s3,trivial⟩ ?he
     case' s0 | s1 | s2 | s3 =>
      rintro T W hb hA K hK
     case s0 =>
      simp only [sA] at hK |-;have HK:=hii hK;clear hK hA;obtain ⟨k0,k1,k2,k3⟩:=(r19.below hb).n4;refine wO rfl (by rfl) ?_;go_simp;exact HK.out _ _ br (rfl)
     case s1 =>
      simp only [sA] at hK |-;have HK:=hii hK;clear hK hA;refine wO rfl (by rfl) ?_;go_simp;go_fit (zaF 0 (by decide) (by decide) W (hEk.mono hb));rintro e w1 ⟨hz,hb1⟩;obtain ⟨J7,ao7,n7,Y7,K7,ap7,m7,Z7,rfl,hV7⟩:=hz.rat;have hV7:zac w1 (qA J7 ao7 n7 Y7 K7 ap7 m7 Z7) 0:=hV7
      try dsimp only
      exact HK.out _ _ hb1 (hV7)
     case s2 =>
      have e0:T 89=_:=hA.1;have r1:(_:World->Value->Prop) W (T 90):=hA.2.1;simp only [sA,e0] at hK |-;have HK:=hii hK;clear hK hA;have r1:zac W _ 0:=r1;obtain ⟨J6,ao6,n6,Y6,K6,ap6,m6,Z6,e1⟩:=r1.parts;rw [e1] at r1;simp only [e1] at HK |-;refine wO rfl (by rfl) ?_;go_simp;go_fit (zaT _ _ (x * ld) 0 W (fv.mono hb) r1 HC1 (hEk.mono hb));rw [Hcc.out];rintro e w1 ⟨rfl,hb1⟩
      try dsimp only
      exact HK.out _ _ hb1 (rfl)
     case s3 =>
      have e2:T 91=_:=hA.1;simp only [sA,e2] at hK |-;have HK:=hii hK;clear hK hA;refine wO rfl (by rfl) ?_;go_simp;exact HK.out _ _ br (rfl)
     case he =>
      rintro T W hb hA;have f3:T 92=.bool (decide (0 < cc)):=hA.at 3 (by decide);simp only [sA,f3];have r8:=r8.below hb;have r19:=r19.below hb;have fv:=fv.mono hb;have hbw9:=bu hbw9 hb;clear hb hA f3 hEk;have hBB:=hBB.mono hbw9;have HbX:=hii (HbX.out.trans (hbw9.mono HbX.out.size));have HkL:=hii (HkL.out.trans (zaf.of_below hbw9));clear hbw9;obtain ⟨we,rfl⟩:=exi W
      by_cases hp:0 < x * ld
      ·have hd:decide (0 < cc)=true:=decide_eq_true (by rw [<- Hcc.out,ziW hp]; decide);rw [if_pos hp] at HSh;rw [hd];obtain ⟨aS0,cS0,eS0,_,_⟩:=hBB.2.1.read;obtain ⟨nS,hnS⟩:∃ nS,sh.length=nS:=⟨_,rfl⟩;rw [hnS] at eS0;subst eS0;have HBB:=hii hBB;have HSB:=hii (Nat.le_trans nl HkL.out.size);obtain ⟨y0,y1,y2,y3,y4,y5⟩:=Row.n6 hBB.1;have d0:=r8.cell (k:=0) (by simp);have d1:=r8.cell (k:=1) (by simp);simp only [List.getElem_cons_zero,List.getElem_cons_succ] at d0 d1;obtain ⟨k0,k1,k2,k3⟩:=r19.n4;clear hBB hd;go_wp2_with (at_builtin; go_loud (refine zm0 zck zar Tryz.slice37 Tryz.info59 rfl (by decide) (by decide) zn2 we we wL.heap.size rfl (.tmp 94) (.tmp 101) rfl (a:=((r,s),x * ld)) rfl rfl HBB.out.2.1 HSB.out br rfl zok zn2 ⟨_,_,_,_,_,_,_,_,rfl,fv⟩ HSl.out ?_); intro a3 n3' c3 w6 hO2 hb2 hk2 hn2; have hP2:=hii (HBB.out.putS hO2 hk2 hn2 zno); obtain ⟨y0,y1,y2,y3,y4,y5⟩:=hP2.out.1.n6; have q0:=hP2.out.1.free 4);have hb5:=hii ((HbX.out.trans (hb2.mono (by have:=HgL.out; omega))).setCell (p:=⟨g16,4,none⟩) hgl (.slice a3 n3' c3));have hk5:zaf (λ b => b=g16\/wL.heap.size<=b) we (w6.setCell ⟨g16,4,none⟩ (.slice a3 n3' c3)):=(zeD hb2).setCell (p:=⟨g16,4,none⟩) (.inl rfl) _;have hk5:=hii (HkL.out.trans hk5);go_roundw
       case rel => exact ⟨k + 1,_,by omega,by go_num,by rw [HSh.out]; exact hP2.out.2,hb5,hk5⟩
       case measure => simp [intOf]; omega
      ·have hd:decide (0 < cc)=false:=decide_eq_false (by rw [<- Hcc.out]; have:=ziX (Rat.not_lt.1 hp); omega);rw [if_neg hp,List.append_nil] at HSh;rw [hd];clear hd;go_wp2;go_roundw
       case rel => exact ⟨k + 1,_,by omega,by go_num,by rw [HSh.out]; exact hBB,HbX,HkL⟩
       case measure => simp [intOf]; omega
   ·have hkn:k=n:=by omega
    rw [hkn,List.take_of_length_le (by rw [Hn.out]; exact nl),List.take_of_length_le (by rw [List.length_map,HXl.out]; exact nl)] at hBB;obtain ⟨sh,hsh⟩:∃ sh,shs l (X.map (· * ld))=sh:=⟨_,rfl⟩;have Hsh:=hii hsh;rw [hsh] at hBB;have hk2:¬ (k:Int) < (n:Int):=by omega
    obtain ⟨aS0,cS0,eS0,_,_⟩:=hBB.2.1.read;obtain ⟨nS,hnS⟩:∃ nS,sh.length=nS:=⟨_,rfl⟩;rw [hnS] at eS0;subst eS0;have HnS:=hii hnS;have HLs:Hid (wL.heap.size<=wr.heap.size):=hii HkL.out.size;clear hsh hlt hkn HkL uL hnS;obtain ⟨-,-,-,-,-,k5⟩:=(r12.below HbX.out).n6;go_wp2_with fail;clear k5 hk2;go_loopw [108] (λ s wr => ∃ j:Nat,∃ vQ:Value,j<=m/\s=.int .i64 j/\BB wr g16 wL.heap.size (.bool J3) (.slice ao3 n3 Y3) (.bool K3) (.slice ap3 m3 Z3) (.slice aS0 nS cS0) vQ sh (((Y.map (· * ld)).take j).map some)/\Hid (BH wb wr)/\Hid (wL.heap.size<=wr.heap.size)) (λ s _ => m - (intOf s).toNat)
    case atStart => exact ⟨0,_,Nat.zero_le _,rfl,hBB,HbX,HLs⟩
    case round =>
     clear hBB HbX HLs;obtain ⟨j,vQ,hj,rfl,hBB,HbX,HLs⟩:=hrel
     by_cases hlj:j < m
     ·obtain ⟨y,hyy⟩:∃ x,Y[j]?=some x:=⟨Y[j]'(by rw [HYl.out]; exact hlj),gE _⟩;have HM1:Hid (zdH y ld):=hii (HMY.out y (List.mem_of_getElem? hyy));have HQ1:Hid (((Y.map (· * ld)).take (j + 1)).map (some:Rat->Qo)=((Y.map (· * ld)).take j).map some ++ [some (y * ld)]):=hii (by rw [List.take_add_one,List.getElem?_map,hyy]; simp);obtain ⟨pr,hpr⟩:∃ p,((Y.map (· * ld)).take j).map (some:Rat->Qo)=p:=⟨_,rfl⟩;have HPl:Hid (pr.length<=100000):=hii (by rw [<- hpr]; simp; omega);rw [hpr] at hBB HQ1;obtain ⟨bY,offY,J6,ao6,n6,Y6,K6,ap6,m6,Z6,eY,z6,hvy⟩:=(uY.mono HbX.out) j (some y) (by rw [List.getElem?_map,hyy]; rfl);have hvy:zac wr (qA J6 ao6 n6 Y6 K6 ap6 m6 Z6) y:=hvy;have r15k:=r15.below HbX.out;have hLk:=hL.mono HbX.out;have hEk:=hE.mono HbX.out;subst eY;clear hyy hpr;obtain ⟨f0,f1,f2,f3,_,_,_,_⟩:=z6;have hbr:=Below.refl wr.heap.size wr;go_upto_region 24 with fail;clear f0 f1 f2 f3;have hbw:=hbr;obtain ⟨wc,g22,hw9,hg9,hb,r22⟩:=bxr wr [.bool J6,.slice ao6 n6 Y6,.bool K6,.slice ap6 m6 Z6] 32;rw [<- hw9,<- hg9];have Hg22:Hid (wr.heap.size<=g22):=hii (by have:=hbw.size; omega);clear hw9 hg9;have hvy:=hvy.mono hb;have hLk:=hLk.mono hb;have hEk:=hEk.mono hb;have r15k:=r15k.below hb;have hbr:=bu hbr hb;clear hb hbw;obtain ⟨e0,e1,e2,e3⟩:=r22.n4;obtain ⟨k0,k1,k2,k3⟩:=r15k.n4;go_wp2_with fail;go_fit (zl5 _ _ y ld wc hvy hLk HM1 hEk);rintro e wd ⟨hz,hb⟩;obtain ⟨J7,ao7,n7,Y7,K7,ap7,m7,Z7,rfl,hvp⟩:=hz.rat;have hbr:=bu hbr hb;clear hb hz e0 e1 e2 e3 k0 k1 k2 k3 r22 r15k hLk hEk hvy;go_upto_region 25 with fail;have hbw:=hbr;obtain ⟨we,g23,hw9,hg9,hb,r23⟩:=bxr wd [.bool J7,.slice ao7 n7 Y7,.bool K7,.slice ap7 m7 Z7] 32;rw [<- hw9,<- hg9];have Hg23:Hid (wr.heap.size<=g23):=hii (by have:=hbw.size; omega);clear hw9 hg9;have hvp:=hvp.mono hb;have hbr:=bu hbr hb;clear hb hbw;have hBB:=hBB.mono hbr;have HbX:=hii (HbX.out.trans (hbr.mono HbX.out.size));have hszr:=hbr.size;clear hbr;obtain ⟨aQ0,cQ0,eQ0,_⟩:=hBB.2.2.1.read;obtain ⟨nQ,hnQ⟩:∃ nQ,pr.length=nQ:=⟨_,rfl⟩;rw [hnQ] at eQ0;subst eQ0;have HBB:=hii hBB;have HSB:Hid (wL.heap.size<=we.heap.size):=hii (Nat.le_trans HLs.out hszr);obtain ⟨y0,y1,y2,y3,y4,y5⟩:=Row.n6 hBB.1;obtain ⟨k0,k1,k2,k3⟩:=r23.n4;clear hBB r23;go_wp2_with (at_builtin; go_loud (refine zi4 we we wL.heap.size rfl (.tmp 123) (.tmp 125) rfl rfl rfl HBB.out.2.2.1 HSB.out br hvp HPl.out ?_); intro a3 n3' c3 w6 W1 hb1 hO2 hb2 gr2; have hP2:=hii ((HBB.out.mono hb1).putQ hO2 gr2 noI6'); obtain ⟨y0,y1,y2,y3,y4,y5⟩:=hP2.out.1.n6; have q0:=hP2.out.1.free 5);have hb5:=hii ((HbX.out.trans (hb2.mono (by have:=HgL.out; omega))).setCell (p:=⟨g16,5,none⟩) hgl (.slice a3 n3' c3));go_roundw
      case rel => exact ⟨j + 1,_,by omega,by go_num,by rw [HQ1.out]; exact hP2.out.2,hb5,hii (by have:=hb2.size; have:=HSB.out; simp only [World.size_setCell]; omega)⟩
      case measure => simp [intOf]; omega
     ·have hjm:j=m:=by omega
      rw [hjm,List.take_of_length_le (by rw [List.length_map,HYl.out]; exact nl)] at hBB;have hj2:¬ (j:Int) < (m:Int):=by omega
      obtain ⟨aQ0,cQ0,eQ0,_⟩:=hBB.2.2.1.read;obtain ⟨nQ,hnQ⟩:∃ nQ,((Y.map (· * ld)).map (some:Rat->Qo)).length=nQ:=⟨_,rfl⟩;rw [hnQ] at eQ0;subst eQ0;have hr:=zlR (r2.below HbX.out) zno hBB (hL.mono HbX.out) (by have:=H816.out; have:=HgL.out; omega);have Hr:=hii hr;have Hbw:=hii (hr.2.2 w.heap.size w Hg2.out (hbw.trans (HbX.out.mono hbw.size)));have r2':=r2.below HbX.out;obtain ⟨y0,y1,y2,y3,y4,y5⟩:=Row.n6 hBB.1;have q0:=r2'.free 0;have q1:=r2'.free 1;have q2:=r2'.free 2;have q3:=r2'.free 3;have q4:=r2'.free 4;have q5:=r2'.free 5;obtain ⟨p0,p1,p2,p3,p4,p5⟩:=r2'.n6;clear hr hBB hjm hlj r2' r2 r12 r15 hL hE uX uY hbw HbX;go_wp2;obtain ⟨R1,R2,-⟩:=Hr.out;obtain ⟨p0,p1,p2,p3,p4,p5⟩:=Row.n6 R1;refine bodyPost_ret (v:=.tuple #[.agg #[.bool J3,.slice ao3 n3 Y3,.bool K3,.slice ap3 m3 Z3,.slice aS0 nS cS0,.slice aQ0 nQ cQ0],.int .i64 0]) (by simp [results,Tryz.results26,go_sem,p0,p1,p2,p3,p4,p5]) rfl ⟨⟨_,ld,X.map (· * ld),Y.map (· * ld),rfl,?_,HBal.out⟩,Hbw.out⟩;rw [Hsh.out];exact R2
end Go.Proofs.YtfgffkmddanjjaaGreatDoor
