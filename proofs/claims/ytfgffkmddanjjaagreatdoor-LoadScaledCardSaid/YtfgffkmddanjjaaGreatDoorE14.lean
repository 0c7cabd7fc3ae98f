/-
  As wp_region_use; one operation uses up a fact and writes nothing (a slice that is built of a value).
-/
import Derived.Test.YtfgffkmddanjjaaGreatDoorOQ
import Derived.Test.YtfgffkmddanjjaaGreatDoorD5
import Derived.Maps.AppendAt
set_option linter.unusedVariables false
set_option linter.unusedSimpArgs false
namespace Go.Proofs.YtfgffkmddanjjaaGreatDoor
open Go.RowKit
theorem zaf.of_grown {w w':World} {row:Option Nat} (h:w.grownBy w' row):zaf (λ k => row=some k) w w' :=
 ⟨h.os,h.tape,h.output,h.size,λ k hk hg => h.block k hk λ e => hg e.symm⟩
structure Grw (W W':World) (v v':Value):Prop where
 grown:W.grownBy W' v.ownBlock
 noi:NoI W v
 new:v'.ownBlock=v.ownBlock\/v'.ownBlock=some W.heap.size
theorem Grw.kept {W W':World} {v v':Value} (h:Grw W W' v v'):zaf (λ k => v.ownBlock=some k) W W':=.of_grown h.grown
theorem Grw.noG {W W':World} {v v':Value} (h:Grw W W' v v'):NoG (λ k => v.ownBlock=some k) W:=λ g hg cur t fr hc => h.noi g hg cur t fr hc
def Sep (u v:Value):Prop:=∀ b,u.ownBlock=some b->v.ownBlock ≠ some b
theorem Sep.symm {u v:Value} (h:Sep u v):Sep v u:=λ b hv hu => h b hu hv
theorem Sep.grw {W W':World} {u v v':Value} (h:Sep u v) (hu:∀ b,u.ownBlock=some b->b < W.heap.size) (g:Grw W W' v v'):Sep u v':=by
 intro b hb;rcases g.new with e | e
 ·rw [e]; exact h b hb
 ·rw [e]; intro e2;have:=hu b hb;simp only [Option.some.injEq] at e2;omega
theorem zbZ (v:Value):Sep (.slice none 0 0) v:=λ b h => by simp [Value.ownBlock] at h
def zdM (W:World) (xs:List Value) (v:Value):Prop:=∀ x∈xs,(∀ b,x.ownBlock=some b->b < W.heap.size)/\Sep x v
theorem zdM.nil (W:World) (v:Value):zdM W [] v:=λ x h => by simp at h
theorem zdM.mono {W W':World} {xs:List Value} {v:Value} (h:zdM W xs v) (hs:W.heap.size<=W'.heap.size):zdM W' xs v :=
 λ x hx => ⟨λ b hb => Nat.lt_of_lt_of_le ((h x hx).1 b hb) hs,(h x hx).2⟩
theorem zdM.grw {W W':World} {xs:List Value} {v v':Value} (h:zdM W xs v) (g:Grw W W' v v'):zdM W' xs v' :=
 λ x hx => ⟨λ b hb => Nat.lt_of_lt_of_le ((h x hx).1 b hb) g.grown.size,(h x hx).2.grw (h x hx).1 g⟩
theorem zdM.snoc {W:World} {xs:List Value} {v x:Value} (h:zdM W xs v) (hx:∀ b,x.ownBlock=some b->b < W.heap.size) (hs:Sep x v):zdM W (xs ++ [x]) v:=by
 intro y hy;rcases List.mem_append.1 hy with hy | hy
 ·exact h y hy
 ·simp at hy; subst hy; exact ⟨hx,hs⟩
theorem zaP {G:Nat->Prop} {w w':World} {B e size n:Nat} {v:Value} {xs:List Value} (h:w.ownsRow B e size v n xs) (hk:zaf G w w') (hv:∀ b,v.ownBlock=some b->¬ G b):w'.ownsRow B e size v n xs:=by
 refine ⟨h.1,h.2.imp id ?_⟩;rintro ⟨g,cap,cur,rfl,hB,hg,r⟩;exact ⟨g,cap,cur,rfl,hB,hk.heap hg (hv g rfl),r⟩
theorem NoI.kept {G:Nat->Prop} {w w':World} {B e size n:Nat} {v:Value} {xs:List Value} (hn:NoI w v) (h:w.ownsRow B e size v n xs) (hk:zaf G w w') (hv:∀ b,v.ownBlock=some b->¬ G b):NoI w' v:=by
 intro g hg cur t fr hc;have hlt:=(h.lt g hg).2;exact hn g hg cur t fr ((hk.block g hlt (hv g hg)).symm.trans hc)
theorem zaz.kept {G:Nat->Prop} {w w':World} {B:Nat} {v:Value} {l:List Qo} (h:zaz w B v l) (hk:zaf G w w') (hp:NoG G w) (hv:∀ b,v.ownBlock=some b->¬ G b):zaz w' B v l:=by
 obtain ⟨xs,h1,h2,h3⟩:=h;exact ⟨xs,zaP h1 hk hv,h2.kept h1 hk hv,λ i o hi => (h3 i o hi).kept hk hp⟩
theorem zaz.lt {w:World} {B:Nat} {v:Value} {l:List Qo} (h:zaz w B v l):∀ b,v.ownBlock=some b->B<=b/\b < w.heap.size:=by
 obtain ⟨xs,h1,_⟩:=h;exact h1.lt
def zgi (w:World) (B:Nat) (v:Value) (xs:List Value):Prop:=zfz w B v xs/\NoI w v
theorem zgi.nil (w:World) (B:Nat):zgi w B (.slice none 0 0) []:=⟨World.ownsRow_nil _ _ _ _,λ g hg => by simp [Value.ownBlock] at hg⟩
theorem zgi.kept {G:Nat->Prop} {w w':World} {B:Nat} {v:Value} {xs:List Value} (h:zgi w B v xs) (hk:zaf G w w') (hv:∀ b,v.ownBlock=some b->¬ G b):zgi w' B v xs :=
 ⟨zaP h.1 hk hv,h.2.kept h.1 hk hv⟩
theorem zgi.lt {w:World} {B:Nat} {v:Value} {xs:List Value} (h:zgi w B v xs):∀ b,v.ownBlock=some b->B<=b/\b < w.heap.size:=World.ownsRow.lt h.1
theorem zbe.kept {G:Nat->Prop} {w w':World} {xs:List Value} {rows:List (List Qo)} (h:zbe w xs rows) (hk:zaf G w w') (hp:NoG G w) (hv:∀ x∈xs,∀ b,x.ownBlock=some b->¬ G b):zbe w' xs rows:=by
 refine ⟨h.1,λ i row hi => ?_⟩;obtain ⟨ar,cr,e,hq⟩:=h.2 i row hi;refine ⟨ar,cr,e,hq.kept hk hp ?_⟩;rintro a rfl;exact hv _ (List.mem_of_getElem? e) a.block rfl
theorem zbe.snoc {w:World} {xs:List Value} {rows:List (List Qo)} {a:List Qo} {aa:Option Addr} {ca:Nat} (h:zbe w xs rows) (ha:UQ w aa a) :
  zbe w (xs ++ [.slice aa a.length ca]) (rows ++ [a]):=by
 refine ⟨by simp [h.1],λ i row hi => ?_⟩;rcases Nat.lt_or_ge i rows.length with hl | hl
 ·rw [List.getElem?_append_left hl] at hi;obtain ⟨ar,cr,e,hq⟩:=h.2 i row hi;exact ⟨ar,cr,by rw [List.getElem?_append_left (by rw [h.1]; exact hl)]; exact e,hq⟩
 ·rw [List.getElem?_append_right hl] at hi;have hx:=h.1
  match hj:i - rows.length,hi with
  | 0,hi =>
   simp at hi; subst hi;exact ⟨aa,ca,by rw [List.getElem?_append_right (by omega),show i - xs.length=0 by omega]; rfl,ha⟩
  | j + 1,hi => simp at hi
theorem ze4 (w W:World) (ty:TypeId) (B:Nat) (v:Value) (xs:List Value) (ar:Option Addr) (n cr bx c:Nat) (hown:zgi w B v xs) (hB:B<=w.heap.size) (hb:Below B W w)
  (hc:w.cell? ⟨bx,0,none⟩=some (.slice ar n cr)) (hl:xs.length<=1000000) :
  ∃ v' w',(Builtin.append_ #[103,103] ty #[v,.slice (some ⟨bx,0,none⟩) 1 c]).run Tryz.prog w=.ok v' w'/\zgi w' B v' (xs ++ [.slice ar n cr])/\Below B W w'/\Grw w w' v v':=by
 obtain ⟨i0,hi,hz0,hz1,hz2⟩:=info_parts Tryz.info33;have hn:∀ (j:Nat) (u:Value),[Value.slice ar n cr][j]?=some u->w.cell? ((⟨bx,0,none⟩:Addr).add j)=some u:=by
  intro j u hj
  match j,hj with
  | 0,hj => simp at hj; subst hj; simpa [Addr.add] using hc
  | j + 1,hj => simp at hj
 have h1:∀ u∈[Value.slice ar n cr],u.oneCell'=true:=by intro u hu; simp at hu; subst hu; rfl
 obtain ⟨v',w',hr,h3,h4,h5⟩:=zcf (P:=Tryz.prog) w B 103 ty 33 i0 (.slice none 0 0) Tryz.underlying103 hi hz0 (by rw [hz1]; rfl) (by rw [hz1]; decide) v xs.length xs (by rw [hz1]; exact hown.1) hown.2 ⟨bx,0,none⟩ 1 c [.slice ar n cr] (by rw [hz1]; rfl) hn h1 (by unfold maxLen; omega) (by rw [hz2]; omega) hB (by omega)
  (by intro u hu k z e; simp [Value.cells] at hu; subst hu; cases e) (by intro u hu k z e; simp at hu; subst hu; cases e)
 obtain ⟨v2,w2,hr2,_,_,_,hat⟩:=run_append_own_at (P:=Tryz.prog) w B 103 ty 33 i0 (.slice none 0 0) i0.size i0.bytes Tryz.underlying103 hi hz0 rfl rfl (by rw [hz1]; rfl) (by rw [hz1]; decide) v xs.length xs (by rw [hz1]; exact hown.1) ⟨bx,0,none⟩ 1 c [.slice ar n cr] (by rw [hz1]; rfl) hn h1 (by unfold maxLen; omega) (by rw [hz2]; omega) hB;have he:=hr.symm.trans hr2;simp only [Result.ok.injEq] at he;obtain ⟨rfl,rfl⟩:=he;refine ⟨v',w',hr,⟨?_,h5⟩,hb.grown h4 hB λ k hk => (hown.1.lt k hk).1,⟨h4,hown.2,hat⟩⟩;unfold zfz;rw [List.length_append]; rw [hz1] at h3; exact h3
theorem zb0 (w W:World) (ty:TypeId) (B:Nat) (v:Value) (l:List Qo) (o:Qo) (ao:Option Addr) (c:Nat) (hown:zaz w B v l) (hB:B<=w.heap.size) (hb:Below B W w) (hm:UQ w ao [o]) (hl:l.length<=100000) :
  ∃ v' w',(Builtin.append_ #[33,33] ty #[v,.slice ao 1 c]).run Tryz.prog w=.ok v' w'/\zaz w' B v' (l ++ [o])/\Below B W w'/\Grw w w' v v':=by
 obtain ⟨v',w',hr,h1,h2,h3,h4⟩:=zdT w W ty B v l [o] ao c hown hB hb hm (by simp) (by simp; omega);obtain ⟨xs,hrow,hno,hel⟩:=hown;obtain ⟨b,off,m1,b1,k1,d1,m2,b2,k2,d2,rfl,hf,hq⟩:=hm 0 o rfl;obtain ⟨i0,hi,hz0,hz1,hz2⟩:=info_parts Tryz.info32;have hn:∀ (j:Nat) (u:Value),[Value.bool m1,.slice b1 k1 d1,.bool m2,.slice b2 k2 d2][j]?=some u->w.cell? ((⟨b,off,none⟩:Addr).add j)=some u:=by
  intro j u hj;have ha:∀ j,(⟨b,off,none⟩:Addr).add j=⟨b,off + j,none⟩:=by
   intro j; unfold Addr.add; split
   ·subst j; rfl
   ·rfl
  rw [ha]
  match j,hj with
  | 0,hj => simp at hj; subst hj; exact hf.c0
  | 1,hj => simp at hj; subst hj; exact hf.c1
  | 2,hj => simp at hj; subst hj; exact hf.c2
  | 3,hj => simp at hj; subst hj; exact hf.c3
  | j + 4,hj => simp at hj
 obtain ⟨v2,w2,hr2,_,_,_,hat⟩:=run_append_own_at (P:=Tryz.prog) w B 33 ty 32 i0 (.agg #[.bool false,.slice none 0 0,.bool false,.slice none 0 0]) i0.size i0.bytes Tryz.underlying33 hi hz0 rfl rfl (by rw [hz1]; rfl) (by rw [hz1]; decide) v l.length xs (by rw [hz1]; exact hrow) ⟨b,off,none⟩ 1 c [.bool m1,.slice b1 k1 d1,.bool m2,.slice b2 k2 d2] (by rw [hz1]; rfl) hn (by intro u hu; simp at hu; rcases hu with rfl | rfl | rfl | rfl <;> rfl) (by unfold maxLen; omega) (by rw [hz2]; omega) hB;have he:=hr.symm.trans hr2;simp only [Result.ok.injEq] at he;obtain ⟨rfl,rfl⟩:=he;exact ⟨v',w',hr,h1,h2,⟨h4,hno,hat⟩⟩
def zne (B:Nat) (xs:List Value):Prop:=∀ x∈xs,∀ b,x.ownBlock=some b->B<=b
theorem zne.snoc {B:Nat} {xs:List Value} {x:Value} (h:zne B xs) (hx:∀ b,x.ownBlock=some b->B<=b):zne B (xs ++ [x]):=by
 intro y hy;rcases List.mem_append.1 hy with hy | hy
 ·exact h y hy
 ·simp at hy; subst hy; exact hx
structure MS (W:World) (B:Nat) (vA vB vC:Value) (rows:List (List Qo)) (lb lc:List Qo):Prop where
 ex:∃ xs,zgi W B vA xs/\zbe W xs rows/\zdM W xs vA/\zdM W xs vB/\zdM W xs vC/\zne B xs
 b:zaz W B vB lb
 c:zaz W B vC lc
 ab:Sep vA vB
 ac:Sep vA vC
 bc:Sep vB vC
theorem MS.nil (W:World) (B:Nat):MS W B (.slice none 0 0) (.slice none 0 0) (.slice none 0 0) [] [] [] :=
 ⟨⟨[],zgi.nil _ _,⟨rfl,λ i row h => by simp at h⟩,zdM.nil _ _,zdM.nil _ _,zdM.nil _ _,λ x h => by simp at h⟩,zaz.nil _ _,zaz.nil _ _,zbZ _,zbZ _,zbZ _⟩
section
variable {W W' : World} {B : Nat} {vA vB vC : Value} {rows : List (List Qo)} {lb lc : List Qo}
theorem MS.kept {G:Nat->Prop} (h:MS W B vA vB vC rows lb lc) (hk:zaf G W W') (hp:NoG G W) (hG:∀ b,G b->b < B):MS W' B vA vB vC rows lb lc:=by
 obtain ⟨⟨xs,h1,h2,h3,h4,h5,h6⟩,hb,hc,ab,ac,bc⟩:=h;have out:∀ (b:Nat),B<=b->¬ G b:=λ b hb hg => by have:=hG b hg; omega
 refine ⟨⟨xs,h1.kept hk (λ b e => out b (h1.lt b e).1),h2.kept hk hp ?_,h3.mono hk.size,h4.mono hk.size,h5.mono hk.size,h6⟩,hb.kept hk hp (λ b e => out b (hb.lt b e).1),hc.kept hk hp (λ b e => out b (hc.lt b e).1),ab,ac,bc⟩;exact λ x hx b e => out b (h6 x hx b e)
theorem MS.mono (h:MS W B vA vB vC rows lb lc) (hb:BH W W'):MS W' B vA vB vC rows lb lc:=by
 obtain ⟨⟨xs,h1,h2,h3,h4,h5,h6⟩,hB,hC,ab,ac,bc⟩:=h;have hk:zaf (λ _ => False) W W':=.of_below hb;exact ⟨⟨xs,h1.kept hk (λ _ _ h => h),h2.mono hb,h3.mono hb.size,h4.mono hb.size,h5.mono hb.size,h6⟩,hB.mono hb,hC.mono hb,ab,ac,bc⟩
theorem MS.growC {vC':Value} {lc':List Qo} (h:MS W B vA vB vC rows lb lc) (g:Grw W W' vC vC') (hn:zaz W' B vC' lc'):MS W' B vA vB vC' rows lb lc':=by
 obtain ⟨⟨xs,h1,h2,h3,h4,h5,h6⟩,hB,hC,ab,ac,bc⟩:=h;have la:=λ b e => (h1.lt b e).2
 have lB:=λ b e => (hB.lt b e).2
 exact ⟨⟨xs,h1.kept g.kept (λ b e => ac b e),h2.kept g.kept g.noG (λ x hx b e => (h5 x hx).2 b e),h3.mono g.grown.size,h4.mono g.grown.size,h5.grw g,h6⟩,hB.kept g.kept g.noG (λ b e => bc b e),hn,ab,ac.grw la g,bc.grw lB g⟩
theorem MS.run_row (h:MS W B vA vB vC rows lb lc) (X:World) (ty:TypeId) {row:List Qo} {ar:Option Addr} {cr bx c:Nat} (hq:UQ W ar row) (hs:∀ b,(Value.slice ar row.length cr).ownBlock=some b->B<=b/\b < W.heap.size/\vA.ownBlock ≠ some b/\vB.ownBlock ≠ some b/\vC.ownBlock ≠ some b)
  (hB:B<=W.heap.size) (hb:Below B X W) (hc:W.cell? ⟨bx,0,none⟩=some (.slice ar row.length cr)) (hl:rows.length<=1000000) :
  ∃ v' w',(Builtin.append_ #[103,103] ty #[vA,.slice (some ⟨bx,0,none⟩) 1 c]).run Tryz.prog W=.ok v' w'/\MS w' B v' vB vC (rows ++ [row]) lb lc/\Below B X w'/\Grw W w' vA v':=by
 obtain ⟨⟨xs,h1,h2,h3,h4,h5,h6⟩,hB',hC,ab,ac,bc⟩:=h;obtain ⟨v',w',hr,k1,k2,g⟩:=ze4 W X ty B vA xs ar row.length cr bx c h1 hB hb hc (by rw [h2.1]; exact hl);have lB:=λ b e => (hB'.lt b e).2
 have lC:=λ b e => (hC.lt b e).2
 have ha:∀ a,ar=some a->¬ vA.ownBlock=some a.block:=by rintro a rfl; exact (hs a.block rfl).2.2.1
 have hs':∀ b,(Value.slice ar row.length cr).ownBlock=some b->b < w'.heap.size:=λ b e => Nat.lt_of_lt_of_le (hs b e).2.1 g.grown.size
 have hsv:Sep (.slice ar row.length cr) v':=Sep.grw (W:=W) (λ b e => (hs b e).2.2.1) (λ b e => (hs b e).2.1) g;refine ⟨v',w',hr,⟨⟨_,k1,(h2.kept g.kept g.noG (λ x hx b e => (h3 x hx).2 b e)).snoc (hq.kept g.kept g.noG ha),(h3.grw g).snoc hs' hsv,(h4.mono g.grown.size).snoc hs' (λ b e => (hs b e).2.2.2.1),(h5.mono g.grown.size).snoc hs' (λ b e => (hs b e).2.2.2.2),h6.snoc (λ b e => (hs b e).1)⟩,
  hB'.kept g.kept g.noG (λ b e => ab.symm b e),hC.kept g.kept g.noG (λ b e => ac.symm b e),(ab.symm.grw lB g).symm,(ac.symm.grw lC g).symm,bc⟩,k2,g⟩
theorem MS.prg (h:MS W B vA vB vC rows lb lc):zm8 W (.agg #[vA,vB,vC]) ⟨rows,lb,lc⟩:=by
 obtain ⟨⟨xs,h1,h2,_⟩,hB,hC,_⟩:=h;obtain ⟨aA,cA,rfl,uA⟩:=h1.1.um h2;obtain ⟨aB,cB,rfl,uB⟩:=hB.read;obtain ⟨aC,cC,rfl,uC⟩:=hC.read;exact ⟨aA,cA,aB,cB,aC,cC,rfl,uA,uB,uC⟩
theorem MS.lts (h:MS W B vA vB vC rows lb lc):(∀ b,vA.ownBlock=some b->B<=b/\b < W.heap.size)/\(∀ b,vB.ownBlock=some b->B<=b/\b < W.heap.size)/\(∀ b,vC.ownBlock=some b->B<=b/\b < W.heap.size):=by
 obtain ⟨⟨xs,h1,_⟩,hB,hC,_⟩:=h;exact ⟨h1.lt,hB.lt,hC.lt⟩
end
def UK (k:IntKind) (w:World) (ao:Option Addr) (l:List Int):Prop:=∀ i z,l[i]?=some z->∃ b off,ao=some ⟨b,off,none⟩/\w.cell? ⟨b,off + i,none⟩=some (.int k z)
theorem UK.mono {k:IntKind} {w w':World} {ao:Option Addr} {l:List Int} (h:UK k w ao l) (hb:BH w w'):UK k w' ao l:=by
 intro i s hi;obtain ⟨b,off,e,hc⟩:=h i s hi;exact ⟨b,off,e,(hb.cell (zag hc)).trans hc⟩
def UR (w:World) (ao:Option Addr) (rows:List (List Int)):Prop:=∀ i row,rows[i]?=some row->∃ b off ar cr,ao=some ⟨b,off,none⟩/\w.cell? ⟨b,off + i,none⟩=some (.slice ar row.length cr)/\UK .i8 w ar row
theorem UR.mono {w w':World} {ao:Option Addr} {rows:List (List Int)} (h:UR w ao rows) (hb:BH w w'):UR w' ao rows:=by
 intro i row hi;obtain ⟨b,off,ar,cr,e,hc,hk⟩:=h i row hi;exact ⟨b,off,ar,cr,e,(hb.cell (zag hc)).trans hc,hk.mono hb⟩
def PB (W:World) (g:Nat) (vA vB vC:Value) (rows:List (List Qo)) (lb lc:List Qo):Prop:=Row W g 105 [vA,vB,vC]/\MS W (g + 1) vA vB vC rows lb lc/\zaE vA/\zaE vB/\zaE vC
theorem PB.mono {W W':World} {g:Nat} {vA vB vC:Value} {rows:List (List Qo)} {lb lc:List Qo} (h:PB W g vA vB vC rows lb lc) (hb:BH W W'):PB W' g vA vB vC rows lb lc :=
 ⟨h.1.below hb,h.2.1.mono hb,h.2.2⟩
theorem zaG (a:Option Addr) (n c:Nat):zaE (.slice a n c):=λ k z e => by cases e
theorem zdr {w:World} {B e s n:Nat} {v:Value} {xs:List Value} (h:w.ownsRow B e s v n xs):zaE v:=by
 intro k z e; subst e;rcases h.2 with ⟨h,_⟩ | ⟨_,_,_,h,_⟩ <;> cases h
theorem MS.noInt {W:World} {B:Nat} {vA vB vC:Value} {rows:List (List Qo)} {lb lc:List Qo} (h:MS W B vA vB vC rows lb lc):zaE vA/\zaE vB/\zaE vC:=by
 obtain ⟨⟨xs,h1,_⟩,⟨_,h2,_⟩,⟨_,h3,_⟩,_⟩:=h;exact ⟨zdr h1.1,zdr h2,zdr h3⟩
theorem zdp {w:World} {B e s n:Nat} {v:Value} {xs:List Value} (h:w.ownsRow B e s v n xs):∃ a n c,v=.slice a n c:=by
 rcases h.2 with ⟨h,_⟩ | ⟨_,_,_,h,_⟩
 ·exact ⟨_,_,_,h⟩
 ·exact ⟨_,_,_,h⟩
theorem MS.slices {W:World} {B:Nat} {vA vB vC:Value} {rows:List (List Qo)} {lb lc:List Qo} (h:MS W B vA vB vC rows lb lc):(∃ a n c,vA=.slice a n c)/\(∃ a n c,vB=.slice a n c)/\∃ a n c,vC=.slice a n c:=by
 obtain ⟨⟨xs,h1,_⟩,⟨_,h2,_⟩,⟨_,h3,_⟩,_⟩:=h;exact ⟨zdp h1.1,zdp h2,zdp h3⟩
theorem Row.grw {W W':World} {g:Nat} {E:TypeId} {xs:List Value} {v v':Value} (h:Row W g E xs) (gr:Grw W W' v v') (hv:∀ b,v.ownBlock=some b->g + 1<=b):Row W' g E xs :=
 h.mono gr.kept λ e => by have:=hv g e; omega
section
variable {ops : Array Oper} {rest : List Oper} {o : Oper} {a : Act} {Q : Exit → Act → World → Prop}
theorem zeT {w:World} {n1:Bool} {a1:Option Addr} {l1 c1:Nat} {n2:Bool} {a2:Option Addr} {l2 c2:Nat} {q:Rat} (hr:zac w (qA n1 a1 l1 c1 n2 a2 l2 c2) q) :
  UQ (w.alloc (.cells #[.bool n1,.slice a1 l1 c1,.bool n2,.slice a2 l2 c2] 32)) (some ⟨w.heap.size,0,none⟩) [some q]:=by
 have r:Row (w.alloc (.cells #[.bool n1,.slice a1 l1 c1,.bool n2,.slice a2 l2 c2] 32)) w.heap.size 32 [.bool n1,.slice a1 l1 c1,.bool n2,.slice a2 l2 c2]:=heap_alloc_new _ _;intro i o hi
 match i,hi with
 | 0,hi =>
  simp at hi; subst hi;exact ⟨_,0,n1,a1,l1,c1,n2,a2,l2,c2,rfl,⟨r.n4.1,r.n4.2.1,r.n4.2.2.1,r.n4.2.2.2,trivial,trivial,trivial,trivial⟩,hr.mono (bA _ _)⟩
 | i + 1,hi => simp at hi
theorem zg9 (w W:World) {n1:Bool} {a1:Option Addr} {l1 c1:Nat} {n2:Bool} {a2:Option Addr} {l2 c2:Nat} {q:Rat} (hgd:o.guard=none) (s x:Operand) (ho:o.op=.call { callee:=.builtin .append,args:=#[s,x],argTypes:=#[33,33] })
  (B:Nat) (v:Value) (l:List Qo) (hs:a.eval s=v) (hown:zaz w B v l) (hB:B<=w.heap.size) (hb:Below B W w) (hr:zac w (qA n1 a1 l1 c1 n2 a2 l2 c2) q)
  (hx:a.eval x=.slice (some ⟨w.heap.size,0,none⟩) 1 1) (hl:l.length<=100000)
  (hK:∀ v' w',zaz w' B v' (l ++ [some q])->Below B W w'->wpList Tryz.prog ops Q rest (a.put o.dst v') w') :
  wpList Tryz.prog ops Q (o :: rest) a (w.alloc (.cells #[.bool n1,.slice a1 l1 c1,.bool n2,.slice a2 l2 c2] 32)):=by
 have hba:=bA w (.cells #[.bool n1,.slice a1 l1 c1,.bool n2,.slice a2 l2 c2] 32);have hsz:=hba.size;obtain ⟨v',w',hr',h1,h2,_⟩:=zb0 _ W o.type B v l (some q) _ 1 (hown.mono hba) (by omega) (hb.alloc hB _) (zeT hr) hl;refine wpList_plain hgd λ K hK' => ?_
 unfold Oper.wp;simp [execOp,ho,resolve,invoke,builtin,hs,hx,hr',Result.andThen];exact hK' _ _ (hK v' w' h1 h2)
end
section
variable {P : Program} {ops : Array Oper} {Q : Exit → Act → World → Prop}
def zdB (G:Nat->Prop) (F:World->Value->Prop):Prop:=∀ (W W':World) (v:Value),F W v->zaf G W W'->F W' v
theorem zaa (G:Nat->Prop) (u:Value):zdB G (vf u):=λ _ _ _ h _ => h
def zhQ (G:Nat->Prop):List (World->Value->Prop)->Prop
 | [] => True
 | F :: r => zdB G F/\zhQ G r
theorem zhQ.get {G:Nat->Prop}:∀ {l:List (World->Value->Prop)} (k:Nat),zhQ G l->zdB G (l.getD k λ _ _ => True)
 | [],_,_ => λ _ _ _ _ _ => trivial
 | _ :: _,0,h => h.1
 | _ :: r,k + 1,h => zhQ.get (l:=r) k h.2
def zcN (Fs:List (World->Value->Prop)) (ds:List (Option Nat)) (T:Nat->Value) (W:World):List Nat->Prop
 | [] => True
 | k :: r => (Fs.getD k λ _ _ => True) W (dv ds T k)/\zcN Fs ds T W r
theorem zcN.mem {Fs:List (World->Value->Prop)} {ds:List (Option Nat)} {T:Nat->Value} {W:World}:∀ {l:List Nat},(∀ k∈l,(Fs.getD k λ _ _ => True) W (dv ds T k))->zcN Fs ds T W l
 | [],_ => trivial
 | k :: r,h => ⟨h k (by simp),zcN.mem λ x hx => h x (by simp [hx])⟩
theorem zcN.at {Fs:List (World->Value->Prop)} {ds:List (Option Nat)} {T:Nat->Value} {W:World}:∀ {l:List Nat} (k:Nat),zcN Fs ds T W l->k∈l->(Fs.getD k λ _ _ => True) W (dv ds T k)
 | [],_,_,h => by simp at h
 | x :: r,k,h,hk => by
  rcases List.mem_cons.1 hk with rfl | hk
  ·exact h.1
  ·exact zcN.at k h.2 hk
theorem za2 {id:Nat} {a:Act} {w wx:World} (G:Nat->Prop) (Fs:List (World->Value->Prop)) (ds:List (Option Nat)) (dl:List Nat) (si:Nat) (P0 R:World->Prop) (hsi:si < ops.size)
  (hm:P.follows .mixedOrders=true) (ht:zjt .any ops=true) (hd:ops.toList.map (·.dst)=ds) (hdl:ds.filterMap (λ x => x)=dl) (hnd:dl.Nodup) (hP0:P0 w.drew) (hPS:∀ W W',P0 W->BH W W'->P0 W') (hRS:∀ W W',R W->BH W W'->R W')
  (hw:zaf G wx w) (hS:zhQ G Fs)
  (hs:zaD (λ i o => ∀ (T:Nat->Value) (W:World),zaf G wx W->(i=si\/i∈zas ops si->P0 W)->zcN Fs ds T W (zaK .any o) ->
   ∀ K:Act->World->Prop,(∀ v W',((i ≠ si->BH W W')/\(i=si->R W')/\zaf G W W')->(Fs.getD i λ _ _ => True) W' ((o.dst.map λ _ => v).getD undef)->K (({ a with tmps:=ovr a.tmps T dl }:Act).put o.dst v) W') ->
    wpOp P ops Q i K { a with tmps:=ovr a.tmps T dl } W) 0 ops.toList)
  (he:∀ T W,zaf G wx W->R W->zcN Fs ds T W (List.range ops.size)->Q .normal { a with tmps:=ovr a.tmps T dl } W):(Code.region id ops true).wp P Q a w:=by
 have hnd':(ds.filterMap _root_.id).Nodup:=by
  have:ds.filterMap _root_.id=dl:=hdl;rw [this]; exact hnd
 have hdst:∀ (i:Nat) (o:Oper),ops[i]?=some o->i < ops.size/\o.dst=ds.getD i none:=by
  intro i o ho;have hi:i < ops.size:=(Array.getElem?_eq_some_iff.1 ho).1;refine ⟨hi,?_⟩;have h1:(ops.toList.map (·.dst))[i]?=some o.dst:=by simp [ho]
  rw [hd] at h1;rw [List.getD_eq_getElem?_getD,h1]; rfl
 have hwt:∀ k o,ops[k]?=some o->zas ops k=zaK .any o:=by
  intro k o ho; unfold zas; rw [ho]; rfl
 refine zbj (λ L T W => zaf G wx W/\(¬ L si->P0 W)/\(L si->R W)/\(∀ k,k < ops.size->L k->∀ d∈zas ops k,L d)/\∀ k,k < ops.size->L k->(Fs.getD k λ _ _ => True) W (dv ds T k)) dl hm ht ?_ ⟨hw.drew,λ _ => hP0,λ h => h.elim,λ k _ h => h.elim,λ k _ h => h.elim⟩ ?_ ?_ ?_
 ·unfold zlF;rw [<- hdl,<- hd];simp [List.filterMap_map]
  rfl
 ·have key:∀ (l:List Oper) (k:Nat),(∀ j o,l[j]?=some o->ops[k + j]?=some o) ->
    zaD (λ i o => ∀ (T:Nat->Value) (W:World),zaf G wx W->(i=si\/i∈zas ops si->P0 W)->zcN Fs ds T W (zaK .any o) ->
     ∀ K:Act->World->Prop,(∀ v W',((i ≠ si->BH W W')/\(i=si->R W')/\zaf G W W')->(Fs.getD i λ _ _ => True) W' ((o.dst.map λ _ => v).getD undef)->K (({ a with tmps:=ovr a.tmps T dl }:Act).put o.dst v) W') ->
      wpOp P ops Q i K { a with tmps:=ovr a.tmps T dl } W) k l ->
    zaD (λ i o => ∀ (L:Nat->Prop) (T:Nat->Value) (w:World),zde L (zaK .any o)->¬ L i->(zaf G wx w/\(¬ L si->P0 w)/\(L si->R w)/\(∀ k,k < ops.size->L k->∀ d∈zas ops k,L d)/\∀ k,k < ops.size->L k->(Fs.getD k λ _ _ => True) w (dv ds T k)) ->
     ∀ K:Act->World->Prop,(∀ v w',(zaf G wx w'/\(¬ (si=i\/L si)->P0 w')/\((si=i\/L si)->R w')/\(∀ k,k < ops.size->(k=i\/L k)->∀ d∈zas ops k,(d=i\/L d))/\∀ k,k < ops.size->(k=i\/L k)->(Fs.getD k λ _ _ => True) w' (dv ds (zbF T o.dst v) k))->K (({ a with tmps:=ovr a.tmps T dl }:Act).put o.dst v) w') ->
      wpOp P ops Q i K { a with tmps:=ovr a.tmps T dl } w) k l:=by
   intro l
   induction l with
   | nil => intro k _ _; trivial
   | cons o r ih =>
    intro k hin h;refine ⟨?_,ih (k + 1) (λ j o' ho => by have:=hin (j + 1) o' (by simpa using ho); rw [show k + 1 + j=k + (j + 1) by omega]; exact this) h.2⟩;rintro L T W hL hn ⟨hb,hp,hr,hcl,hJ⟩ K hK;have hko:ops[k]?=some o:=by simpa using hin 0 o rfl
    obtain ⟨hkl,hkd⟩:=hdst k o hko;have hks:k < ops.size:=hkl;have hall:=zde.all hL;have hnsi:k=si\/k∈zas ops si->¬ L si:=by
     rintro (rfl | hk) hl
     ·exact hn hl
     ·exact hn (hcl si hsi hl k hk)
    refine h.1 T W hb (λ e => hp (hnsi e)) (zcN.mem λ d hdw => hJ d (Nat.lt_trans (zbt ht hko hdw) hks) (hall d hdw)) K λ v W' hst hv => hK v W' ⟨hb.trans hst.2.2,?_,?_,?_,?_⟩
    ·intro hnp;exact hPS _ _ (hp λ h => hnp (.inr h)) (hst.1 λ e => hnp (.inl e.symm))
    ·rintro (e | hl)
     ·exact hst.2.1 e.symm
     ·by_cases e:k=si
      ·exact hst.2.1 e
      ·exact hRS _ _ (hr hl) (hst.1 e)
    ·rintro j hj (rfl | hLj) d hd
     ·rw [hwt _ _ hko] at hd; exact .inr (hall d hd)
     ·exact .inr (hcl j hj hLj d hd)
    ·rintro j hj hLj
     by_cases hjk:j=k
     ·subst hjk;have:dv ds (zbF T o.dst v) j=(o.dst.map λ _ => v).getD undef:=by
       unfold dv;rw [<- hkd]
       cases hdo:o.dst with
       | none => rfl
       | some d => simp [zbF,upd]
      rw [this]; exact hv
     ·have hLj:L j:=hLj.resolve_left hjk;have hval:dv ds (zbF T o.dst v) j=dv ds T j:=by
       unfold dv
       cases hdj:ds.getD j none with
       | none => rfl
       | some d =>
        cases hdo:o.dst with
        | none => rfl
        | some d' =>
         have hne:d ≠ d':=λ e => by
          rw [hdo] at hkd;exact hjk (zbh hnd' hdj (by rw [<- hkd,e]))
         simp [zbF,upd,hne]
      rw [hval];exact zhQ.get j hS _ _ _ (hJ j hj hLj) hst.2.2
  exact key ops.toList 0 (λ j o ho => by simpa using ho) hs
 ·rintro T W ⟨hb,_,hr,_,hJ⟩;exact he T W hb (hr hsi) (zcN.mem λ k hk => hJ k (by simpa using hk) (by simpa using hk))
 ·rintro L T W hL ⟨hb,hp,hr,hcl,hJ⟩;refine ⟨hb,λ h => absurd hsi h,λ _ => hr (hL si hsi),λ k hk _ d hd => ?_,λ k hk _ => hJ k hk (hL k hk)⟩;obtain ⟨o,ho⟩:∃ o,ops[k]?=some o:=⟨ops[k],Array.getElem?_eq_getElem hk⟩;rw [hwt k o ho] at hd;exact Nat.lt_trans (zbt ht ho hd) hk
end
def RK (G:Nat->Prop) (r:Rat) (W:World) (v:Value):Prop:=∀ W',zaf G W W'->zac W' v r
theorem RK.stay {G:Nat->Prop} {r:Rat}:zdB G (RK G r):=λ W W' v h hk W'' hk' => h W'' (hk.trans hk')
theorem RK.rat {G:Nat->Prop} {r:Rat} {W:World} {v:Value} (h:RK G r W v):zac W v r:=h W (zaf.refl W)
theorem RK.at {G:Nat->Prop} {r:Rat} {W W':World} {v:Value} (h:RK G r W v) (hk:zaf G W W'):zac W' v r:=h W' hk
theorem zac.rk {G:Nat->Prop} {r:Rat} {W:World} {v:Value} (h:zac W v r) (hn:NoG G W):RK G r W v:=λ W' hk => h.kept hk hn
structure MX (W:World) (B:Nat) (vA:Value) (rows:List (List Qo)) (ow:List (Value × List Qo)):Prop where
 ex:∃ xs,zgi W B vA xs/\zbe W xs rows/\zdM W xs vA/\zne B xs/\∀ p∈ow,zdM W xs p.1
 o:∀ p∈ow,zaz W B p.1 p.2/\Sep vA p.1
 s:ow.Pairwise λ p q => Sep p.1 q.1
theorem MX.nil (W:World) (B:Nat) (n:Nat):MX W B (.slice none 0 0) [] (List.replicate n (.slice none 0 0,[])):=by
 refine ⟨⟨[],zgi.nil _ _,⟨rfl,λ i row h => by simp at h⟩,zdM.nil _ _,λ x h => by simp at h,λ p _ => zdM.nil _ _⟩,λ p hp => ?_,?_⟩
 ·obtain ⟨_,rfl⟩:=List.mem_replicate.1 hp;exact ⟨zaz.nil _ _,zbZ _⟩
 ·exact List.pairwise_replicate.2 (.inr (zbZ _))
section
variable {W W' : World} {B : Nat} {vA : Value} {rows : List (List Qo)} {ow : List (Value × List Qo)}
theorem MX.mono (h:MX W B vA rows ow) (hb:BH W W'):MX W' B vA rows ow:=by
 obtain ⟨⟨xs,h1,h2,h3,h4,h5⟩,ho,hs⟩:=h;have hk:zaf (λ _ => False) W W':=.of_below hb;exact ⟨⟨xs,h1.kept hk (λ _ _ h => h),h2.mono hb,h3.mono hb.size,h4,λ p hp => (h5 p hp).mono hb.size⟩,λ p hp => ⟨(ho p hp).1.mono hb,(ho p hp).2⟩,hs⟩
theorem MX.own (h:MX W B vA rows ow) {p:Value × List Qo} (hp:p∈ow):zaz W B p.1 p.2:=(h.o p hp).1
end
theorem za5 {w:World} {B e s g n cap m k:Nat} {xs:List Value} {x:Value} (h:w.ownsRow B e s (.slice (some ⟨g,0,none⟩) n cap) m xs):(w.setCell ⟨g,k,none⟩ x).ownsRow B e s (.slice (some ⟨g,0,none⟩) n cap) m (xs.set k x):=by
 obtain ⟨hl,hr⟩:=h;refine ⟨by simp [hl],?_⟩;rcases hr with ⟨hv,_⟩ | ⟨g',cap',cur,hv,hB,hg,hn,hm,hs,ht⟩
 ·cases hv
 ·cases hv
  refine .inr ⟨g,cap,cur.setIfInBounds k x,rfl,hB,?_,hn,hm,by simp [hs],?_⟩
  ·rw [setCell_eq_setRow w g k cur e (0,0) x hg,setRow_heap w g cur _ e _ hg]
  ·rw [Array.toList_setIfInBounds,List.take_set,ht]
theorem zex {w:World} {B e s g n cap m k:Nat} {xs:List Value} {x:Value} (hn:NoI w (.slice (some ⟨g,0,none⟩) n cap)) (h:w.ownsRow B e s (.slice (some ⟨g,0,none⟩) n cap) m xs) (hx:zaE x):NoI (w.setCell ⟨g,k,none⟩ x) (.slice (some ⟨g,0,none⟩) n cap):=by
 obtain ⟨hl,hr⟩:=h;rcases hr with ⟨hv,_⟩ | ⟨g',cap',cur,hv,hB,hg,_⟩
 ·cases hv
 ·cases hv
  intro g' hg' cur' t fr hc u hu;simp only [Value.ownBlock,Option.some.injEq] at hg';subst hg';rw [setCell_eq_setRow w g k cur e (0,0) x hg,setRow_heap w g cur _ e _ hg] at hc;simp only [Option.some.injEq,Obj.cells.injEq] at hc;obtain ⟨rfl,_,_⟩:=hc;rw [Array.toList_setIfInBounds] at hu;rcases List.mem_or_eq_of_mem_set hu with hu | rfl
  ·exact hn g rfl cur e _ hg u hu
  ·exact hx
theorem zaz.put {w:World} {B g i n cap:Nat} {l:List Qo} {n1:Bool} {a1:Option Addr} {l1 c1:Nat} {n2:Bool} {a2:Option Addr} {l2 c2:Nat} {o:Qo} (h:zaz w B (.slice (some ⟨g,0,none⟩) n cap) l) (hi:i < l.length) (hv:QV w (.agg #[.bool n1,.slice a1 l1 c1,.bool n2,.slice a2 l2 c2]) o) :
  zaz ((((w.setCell ⟨g,i * 4,none⟩ (.bool n1)).setCell ⟨g,i * 4 + 1,none⟩ (.slice a1 l1 c1)).setCell ⟨g,i * 4 + 2,none⟩ (.bool n2)).setCell ⟨g,i * 4 + 3,none⟩ (.slice a2 l2 c2)) B (.slice (some ⟨g,0,none⟩) n cap) (l.set i o) /\
  Grw w ((((w.setCell ⟨g,i * 4,none⟩ (.bool n1)).setCell ⟨g,i * 4 + 1,none⟩ (.slice a1 l1 c1)).setCell ⟨g,i * 4 + 2,none⟩ (.bool n2)).setCell ⟨g,i * 4 + 3,none⟩ (.slice a2 l2 c2)) (.slice (some ⟨g,0,none⟩) n cap) (.slice (some ⟨g,0,none⟩) n cap):=by
 obtain ⟨xs,h1,h2,h3⟩:=h;have hno:NoG (λ k => k=g) w:=λ k hk cur t fr hc => by subst hk; exact h2 k rfl cur t fr hc
 have hk:zaf (λ k => k=g) w ((((w.setCell ⟨g,i * 4,none⟩ (.bool n1)).setCell ⟨g,i * 4 + 1,none⟩ (.slice a1 l1 c1)).setCell ⟨g,i * 4 + 2,none⟩ (.bool n2)).setCell ⟨g,i * 4 + 3,none⟩ (.slice a2 l2 c2)) :=
  (((((zaf.refl w:zaf (λ k => k=g) w w)).setCell (p:=⟨g,i * 4,none⟩) rfl _).setCell (p:=⟨g,i * 4 + 1,none⟩) rfl _).setCell (p:=⟨g,i * 4 + 2,none⟩) rfl _).setCell (p:=⟨g,i * 4 + 3,none⟩) rfl _
 have b1:zaE (.bool n1):=by intro k z e; cases e
 have b2:zaE (.bool n2):=by intro k z e; cases e
 have r1:=za5 (k:=i * 4) (x:=.bool n1) h1;have r2:=za5 (k:=i * 4 + 1) (x:=.slice a1 l1 c1) r1;have r3:=za5 (k:=i * 4 + 2) (x:=.bool n2) r2;have r4:=za5 (k:=i * 4 + 3) (x:=.slice a2 l2 c2) r3;have n4:=zex (k:=i * 4 + 3) (x:=.slice a2 l2 c2) (zex (k:=i * 4 + 2) (x:=.bool n2) (zex (k:=i * 4 + 1) (x:=.slice a1 l1 c1) (zex (k:=i * 4) (x:=.bool n1) h2 h1 b1) r1 (zaG _ _ _)) r2 b2) r3 (zaG _ _ _);have hxl:xs.length=l.length * 4:=h1.1;refine ⟨⟨_,by rw [List.length_set]; exact r4,n4,?_⟩,⟨⟨hk.os,hk.tape,hk.output,hk.size,λ k hk1 hk2 => hk.block k hk1 λ e => hk2 (by rw [e]; rfl)⟩,h2,.inl rfl⟩⟩;intro j q hj
 by_cases hji:j=i
 ·subst hji;rw [List.getElem?_set_self hi] at hj
  cases hj
  refine ⟨n1,a1,l1,c1,n2,a2,l2,c2,?_,?_,?_,?_,hv.kept hk hno⟩
  ·rw [List.getElem?_set_ne (by omega),List.getElem?_set_ne (by omega),List.getElem?_set_ne (by omega),List.getElem?_set_self (by omega)]
  ·rw [List.getElem?_set_ne (by omega),List.getElem?_set_ne (by omega),List.getElem?_set_self (by simp; omega)]
  ·rw [List.getElem?_set_ne (by omega),List.getElem?_set_self (by simp; omega)]
  ·rw [List.getElem?_set_self (by simp; omega)]
 ·rw [List.getElem?_set_ne (λ e => hji e.symm)] at hj;obtain ⟨m1,b1,k1,d1,m2,b2,k2,d2,e0,e1,e2,e3,hr⟩:=h3 j q hj;have hs:∀ m,m < 4->((((xs.set (i * 4) (.bool n1)).set (i * 4 + 1) (.slice a1 l1 c1)).set (i * 4 + 2) (.bool n2)).set (i * 4 + 3) (.slice a2 l2 c2))[j * 4 + m]?=xs[j * 4 + m]?:=by
   intro m hm;rw [List.getElem?_set_ne (by omega),List.getElem?_set_ne (by omega),List.getElem?_set_ne (by omega),List.getElem?_set_ne (by omega)]
  exact ⟨m1,b1,k1,d1,m2,b2,k2,d2,(hs 0 (by omega)).trans e0,(hs 1 (by omega)).trans e1,(hs 2 (by omega)).trans e2,(hs 3 (by omega)).trans e3,hr.kept hk hno⟩
end Go.Proofs.YtfgffkmddanjjaaGreatDoor
