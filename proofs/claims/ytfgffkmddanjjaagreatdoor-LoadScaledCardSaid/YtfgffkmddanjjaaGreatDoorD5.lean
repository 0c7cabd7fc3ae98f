/-
  What the checks of chapter 14 say about the numbers: plain laws.
-/
import Derived.Test.YtfgffkmddanjjaaGreatDoorD1
import Derived.Test.YtfgffkmddanjjaaGreatDoorDuJ
import Derived.Test.YtfgffkmddanjjaaGreatDoorOQ
import Derived.Laws.CopyRow
set_option linter.unusedVariables false
set_option linter.unusedSimpArgs false
namespace Go.Proofs.YtfgffkmddanjjaaGreatDoor
open Go.RowKit
structure Fit (A:List (List Rat)) (B C:List Rat):Prop where
 rows:A.length=B.length
 cols:∀ r∈A,r.length=C.length
def KK:Nat:=10 ^ 25
theorem zmE (a b c d e:Nat) (h:b * c=d + e):(a ^ b) ^ c=a ^ d * a ^ e:=by rw [<- Nat.pow_mul,h,Nat.pow_add]
theorem zmP:KK ^ 12=Bi.Big:=zmE 10 25 12 150 150 (by decide)
theorem zgP:1 < KK:=by unfold KK; exact of_decide_eq_true (by kernel_rfl)
theorem znH {n:Nat} (h:n < 12):KK ^ n < Bi.Big:=by rw [<- zmP]; exact Nat.pow_lt_pow_right zgP h
theorem zmO {i j:Nat} (h:i<=j):KK ^ i<=KK ^ j:=Nat.pow_le_pow_right (by have:=zgP; omega) h
theorem zdK {z:Int} {n:Nat} (hn:n < 12) (h:z.natAbs<=KK ^ n):Rq.Sm z:=Nat.lt_of_le_of_lt h (znH hn)
theorem Bd.mono {r:Rat} {N D M E:Nat} (h:Rq.Bd r N D) (h1:N<=M) (h2:D<=E):Rq.Bd r M E:=⟨Nat.le_trans h.1 h1,Nat.le_trans h.2 h2⟩
def Sx (r:Rat):Prop:=Rq.Bd r 100 2
structure SmallD (p:Prg) (x y:List Qo):Prop where
 m:p.B.length<=5
 n:p.C.length<=5
 x:∀ r,some r∈x->Sx r
 y:∀ r,some r∈y->Sx r
def znb (w:World) (v:Value) (val:Qo) (x y:List Qo):Prop :=
 ∃ ng ao n cap nh ap m caq ax cx ay cy,v=.agg #[.bool ng,.slice ao n cap,.bool nh,.slice ap m caq,.slice ax x.length cx,.slice ay y.length cy]/\QV w (.agg #[.bool ng,.slice ao n cap,.bool nh,.slice ap m caq]) val/\UQ w ax x/\UQ w ay y
theorem znb.mono {w w':World} {v:Value} {val:Qo} {x y:List Qo} (h:znb w v val x y) (hb:BH w w'):znb w' v val x y:=by
 obtain ⟨ng,ao,n,cap,nh,ap,m,caq,ax,cx,ay,cy,e,h1,h2,h3⟩:=h;exact ⟨ng,ao,n,cap,nh,ap,m,caq,ax,cx,ay,cy,e,h1.mono hb,h2.mono hb,h3.mono hb⟩
theorem zaO (w:World) (E F:TypeId) (xs ys:List Value):∃ wx,wx=(w.alloc (.cells xs.toArray E)).alloc (.cells ys.toArray F)/\Row wx w.heap.size E xs/\Row wx (w.heap.size + 1) F ys/\BH w wx:=by
 refine ⟨_,rfl,?_,?_,?_⟩
 ·exact Row.below (heap_alloc_new w _) (bA _ _)
 ·have:=heap_alloc_new (w.alloc (.cells xs.toArray E)) (.cells ys.toArray F)
  simpa [Row] using this
 ·exact (bA w _).alloc (by simp) _
theorem Row.n6 {w:World} {g:Nat} {E:TypeId} {a b c d e f:Value} (h:Row w g E [a,b,c,d,e,f]):w.cell? ⟨g,0,none⟩=some a/\w.cell? ⟨g,1,none⟩=some b/\w.cell? ⟨g,2,none⟩=some c/\w.cell? ⟨g,3,none⟩=some d/\w.cell? ⟨g,4,none⟩=some e/\w.cell? ⟨g,5,none⟩=some f :=
 ⟨h.cell (k:=0) (by simp),h.cell (k:=1) (by simp),h.cell (k:=2) (by simp),h.cell (k:=3) (by simp),h.cell (k:=4) (by simp),h.cell (k:=5) (by simp)⟩
theorem QAt.kept {G:Nat->Prop} {w w':World} {xs:List Value} {i:Nat} {o:Qo} (h:QAt w xs i o) (hk:zaf G w w') (hp:NoG G w):QAt w' xs i o:=by
 obtain ⟨n1,a1,l1,c1,n2,a2,l2,c2,e0,e1,e2,e3,hr⟩:=h;exact ⟨n1,a1,l1,c1,n2,a2,l2,c2,e0,e1,e2,e3,hr.kept hk hp⟩
theorem QAt.mono {w w':World} {xs:List Value} {i:Nat} {o:Qo} (h:QAt w xs i o) (hb:BH w w'):QAt w' xs i o:=by
 obtain ⟨n1,a1,l1,c1,n2,a2,l2,c2,e0,e1,e2,e3,hr⟩:=h;exact ⟨n1,a1,l1,c1,n2,a2,l2,c2,e0,e1,e2,e3,hr.mono hb⟩
def MQ (w:World) (g:Nat) (l:List Qo):Prop :=
 ∃ xs,Row w g 32 xs/\xs.length=l.length * 4/\(∀ u∈xs,zaE u)/\∀ i o,l[i]?=some o->QAt w xs i o
theorem MQ.mono {w w':World} {g:Nat} {l:List Qo} (h:MQ w g l) (hb:BH w w'):MQ w' g l:=by
 obtain ⟨xs,h1,h2,h3,h4⟩:=h;exact ⟨xs,h1.below hb,h2,h3,λ i o hi => (h4 i o hi).mono hb⟩
theorem MQ.lt {w:World} {g:Nat} {l:List Qo} (h:MQ w g l):g < w.heap.size:=by
 obtain ⟨xs,h1,_⟩:=h; exact h1.lt
theorem MQ.noG {w:World} {g:Nat} {l:List Qo} (h:MQ w g l):NoG (λ k => k=g) w:=by
 obtain ⟨xs,h1,h2,h3,h4⟩:=h;intro k hk cur t fr hc;subst hk;have:=h1.symm.trans hc;simp only [Option.some.injEq,Obj.cells.injEq] at this;obtain ⟨rfl,_,_⟩:=this;exact h3
theorem MQ.kept {G:Nat->Prop} {w w':World} {g:Nat} {l:List Qo} (h:MQ w g l) (hk:zaf G w w') (hp:NoG G w) (hg:¬ G g):MQ w' g l:=by
 obtain ⟨xs,h1,h2,h3,h4⟩:=h;exact ⟨xs,h1.mono hk hg,h2,h3,λ i o hi => (h4 i o hi).kept hk hp⟩
theorem MQ.read {w:World} {g:Nat} {l:List Qo} (h:MQ w g l):UQ w (some ⟨g,0,none⟩) l:=by
 obtain ⟨xs,h1,h2,h3,h4⟩:=h;intro i o hi;obtain ⟨n1,a1,l1,c1,n2,a2,l2,c2,e0,e1,e2,e3,hq⟩:=h4 i o hi;have hc:∀ j u,xs[j]?=some u->w.cell? ⟨g,0 + j,none⟩=some u:=by
  intro j u hu;obtain ⟨hj,rfl⟩:=List.getElem?_eq_some_iff.1 hu;rw [Nat.zero_add]; exact h1.cell hj
 exact ⟨g,0,n1,a1,l1,c1,n2,a2,l2,c2,rfl,⟨hc _ _ e0,hc _ _ e1,hc _ _ e2,hc _ _ e3,trivial,trivial,trivial,trivial⟩,hq⟩
theorem MQ.four {w:World} {g i:Nat} {l:List Qo} (h:MQ w g l) (hi:i < l.length):∃ (n1:Bool) (a1:Option Addr) (l1 c1:Nat) (n2:Bool) (a2:Option Addr) (l2 c2:Nat),
  w.cell? ⟨g,i * 4,none⟩=some (.bool n1)/\w.cell? ⟨g,i * 4 + 1,none⟩=some (.slice a1 l1 c1)/\w.cell? ⟨g,i * 4 + 2,none⟩=some (.bool n2)/\w.cell? ⟨g,i * 4 + 3,none⟩=some (.slice a2 l2 c2) /\
  w.frozen? ⟨g,i * 4,none⟩=false/\w.frozen? ⟨g,i * 4 + 1,none⟩=false/\w.frozen? ⟨g,i * 4 + 2,none⟩=false/\w.frozen? ⟨g,i * 4 + 3,none⟩=false /\
  QV w (.agg #[.bool n1,.slice a1 l1 c1,.bool n2,.slice a2 l2 c2]) l[i]:=by
 obtain ⟨xs,h1,h2,h3,h4⟩:=h;obtain ⟨n1,a1,l1,c1,n2,a2,l2,c2,e0,e1,e2,e3,hq⟩:=h4 i l[i] (gE hi);have hc:∀ j u,xs[j]?=some u->w.cell? ⟨g,j,none⟩=some u:=by
  intro j u hu;obtain ⟨hj,rfl⟩:=List.getElem?_eq_some_iff.1 hu;exact h1.cell hj
 exact ⟨n1,a1,l1,c1,n2,a2,l2,c2,hc _ _ e0,hc _ _ e1,hc _ _ e2,hc _ _ e3,h1.free _,h1.free _,h1.free _,h1.free _,hq⟩
theorem MQ.put {w:World} {g i:Nat} {l:List Qo} {n1:Bool} {a1:Option Addr} {l1 c1:Nat} {n2:Bool} {a2:Option Addr} {l2 c2:Nat} {o:Qo} (h:MQ w g l) (hi:i < l.length) (hv:QV w (.agg #[.bool n1,.slice a1 l1 c1,.bool n2,.slice a2 l2 c2]) o) :
  MQ ((((w.setCell ⟨g,i * 4,none⟩ (.bool n1)).setCell ⟨g,i * 4 + 1,none⟩ (.slice a1 l1 c1)).setCell ⟨g,i * 4 + 2,none⟩ (.bool n2)).setCell ⟨g,i * 4 + 3,none⟩ (.slice a2 l2 c2)) g (l.set i o) /\
  zaf (λ k => k=g) w ((((w.setCell ⟨g,i * 4,none⟩ (.bool n1)).setCell ⟨g,i * 4 + 1,none⟩ (.slice a1 l1 c1)).setCell ⟨g,i * 4 + 2,none⟩ (.bool n2)).setCell ⟨g,i * 4 + 3,none⟩ (.slice a2 l2 c2)):=by
 have hno:=h.noG;obtain ⟨xs,h1,h2,h3,h4⟩:=h;have hk:zaf (λ k => k=g) w ((((w.setCell ⟨g,i * 4,none⟩ (.bool n1)).setCell ⟨g,i * 4 + 1,none⟩ (.slice a1 l1 c1)).setCell ⟨g,i * 4 + 2,none⟩ (.bool n2)).setCell ⟨g,i * 4 + 3,none⟩ (.slice a2 l2 c2)) :=
  (((((zaf.refl w:zaf (λ k => k=g) w w)).setCell (p:=⟨g,i * 4,none⟩) rfl _).setCell (p:=⟨g,i * 4 + 1,none⟩) rfl _).setCell (p:=⟨g,i * 4 + 2,none⟩) rfl _).setCell (p:=⟨g,i * 4 + 3,none⟩) rfl _
 refine ⟨⟨(((xs.set (i * 4) (.bool n1)).set (i * 4 + 1) (.slice a1 l1 c1)).set (i * 4 + 2) (.bool n2)).set (i * 4 + 3) (.slice a2 l2 c2),(((h1.set _ _).set _ _).set _ _).set _ _,by simp [h2],?_,?_⟩,hk⟩
 ·intro u hu;have hm:∀ (ys:List Value) (j:Nat) (v:Value),(∀ u∈ys,zaE u)->zaE v->∀ u∈ys.set j v,zaE u:=by
   intro ys j v hy hv u hu;rcases List.mem_or_eq_of_mem_set hu with hu | rfl
   ·exact hy u hu
   ·exact hv
  refine hm _ _ _ (hm _ _ _ (hm _ _ _ (hm _ _ _ h3 ?_) ?_) ?_) ?_ u hu
  ·intro k z e; cases e
  ·intro k z e; cases e
  ·intro k z e; cases e
  ·intro k z e; cases e
 ·intro j q hj;have hxl:i * 4 + 3 < xs.length:=by rw [h2]; omega
  by_cases hji:j=i
  ·subst hji;rw [List.getElem?_set_self hi] at hj
   cases hj
   refine ⟨n1,a1,l1,c1,n2,a2,l2,c2,?_,?_,?_,?_,hv.kept hk hno⟩
   ·rw [List.getElem?_set_ne (by omega),List.getElem?_set_ne (by omega),List.getElem?_set_ne (by omega),List.getElem?_set_self (by omega)]
   ·rw [List.getElem?_set_ne (by omega),List.getElem?_set_ne (by omega),List.getElem?_set_self (by simp; omega)]
   ·rw [List.getElem?_set_ne (by omega),List.getElem?_set_self (by simp; omega)]
   ·rw [List.getElem?_set_self (by simp; omega)]
  ·rw [List.getElem?_set_ne (λ e => hji e.symm)] at hj;obtain ⟨m1,b1,k1,d1,m2,b2,k2,d2,e0,e1,e2,e3,hr⟩:=h4 j q hj;have hs:∀ m,m < 4->((((xs.set (i * 4) (.bool n1)).set (i * 4 + 1) (.slice a1 l1 c1)).set (i * 4 + 2) (.bool n2)).set (i * 4 + 3) (.slice a2 l2 c2))[j * 4 + m]?=xs[j * 4 + m]?:=by
    intro m hm;rw [List.getElem?_set_ne (by omega),List.getElem?_set_ne (by omega),List.getElem?_set_ne (by omega),List.getElem?_set_ne (by omega)]
   exact ⟨m1,b1,k1,d1,m2,b2,k2,d2,(hs 0 (by omega)).trans e0,(hs 1 (by omega)).trans e1,(hs 2 (by omega)).trans e2,(hs 3 (by omega)).trans e3,hr.kept hk hno⟩
theorem zk4 (w:World):VQ w (.agg #[.bool false,.slice none 0 0,.bool false,.slice none 0 0]) false:=by
 refine ⟨false,false,[],[],none,none,0,0,rfl,by simp,by simp,by simp,by simp,U.nil _ _,U.nil _ _,hii (Iff.intro (λ h => nomatch h) ?_)⟩;rintro ⟨r,_,_,_,_,hd,_⟩;rw [Bi.limbs_pos r.den_nz] at hd
 cases hd
end Go.Proofs.YtfgffkmddanjjaaGreatDoor
