/-
  Made, in the reference of chapter 14: a program and an optimum that read well, with small numbers.
-/
import Derived.Test.YtagdgdacecibiaaGreatDoorE14
import Derived.Test.YtagdgdacecibiaaGreatDoorFlowX
import Derived.Deep.CutBlock
set_option linter.unusedVariables false
set_option linter.unusedSimpArgs false
set_option maxRecDepth 100000
set_option maxHeartbeats 25600000
namespace Go.Proofs.YtagdgdacecibiaaGreatDoor
open Go.RowKit
theorem three_rows (w:World) (E F G:TypeId) (xs ys zs:List Value):∃ wx,wx=((w.alloc (.cells xs.toArray E)).alloc (.cells ys.toArray F)).alloc (.cells zs.toArray G)∧Row wx w.heap.size E xs∧Row wx (w.heap.size + 1) F ys∧Row wx (w.heap.size + 2) G zs∧Below w.heap.size w wx:=by
 obtain ⟨w2,h2,r1,r2,hb⟩:=two_rows w E F xs ys;refine ⟨_,rfl,?_,?_,?_,?_⟩
 ·rw [← h2]; exact r1.below (bA _ _)
 ·rw [← h2]; exact r2.below (bA _ _)
 ·have:=heap_alloc_new ((w.alloc (.cells xs.toArray E)).alloc (.cells ys.toArray F)) (.cells zs.toArray G)
  simpa [Row] using this
 ·rw [← h2]; exact hb.alloc hb.size _
theorem Row.n9 {w:World} {g:Nat} {E:TypeId} {a b c d e f x y z:Value} (h:Row w g E [a,b,c,d,e,f,x,y,z]):w.cell? ⟨g,0,none⟩=some a∧w.cell? ⟨g,1,none⟩=some b∧w.cell? ⟨g,2,none⟩=some c∧w.cell? ⟨g,3,none⟩=some d∧w.cell? ⟨g,4,none⟩=some e∧w.cell? ⟨g,5,none⟩=some f∧w.cell? ⟨g,6,none⟩=some x∧w.cell? ⟨g,7,none⟩=some y∧w.cell? ⟨g,8,none⟩=some z :=
 ⟨h.cell (k:=0) (by simp),h.cell (k:=1) (by simp),h.cell (k:=2) (by simp),h.cell (k:=3) (by simp),h.cell (k:=4) (by simp),h.cell (k:=5) (by simp),h.cell (k:=6) (by simp),h.cell (k:=7) (by simp),h.cell (k:=8) (by simp)⟩
theorem Row.other14 {w:World} {g g' k:Nat} {E:TypeId} {xs:List Value} (h:Row w g E xs) (hne:g ≠ g') (x:Value):Row (w.setCell ⟨g',k,none⟩ x) g E xs:=by
 unfold Row at *;rw [Below.heap_setCell _ _ _ _ hne]; exact h
structure BX (W:World) (g7 g8:Nat) (xs7 xs8:List Value):Prop where
 r7:Row W g7 29 xs7
 r8:Row W g8 36 xs8
 lt:g7 < g8
 n7:∀ u∈xs7,NoInt u
 n8:∀ u∈xs8,NoInt u
section
variable {W W' : World} {g7 g8 : Nat} {xs7 xs8 : List Value}
theorem BX.mono (h:BX W g7 g8 xs7 xs8) (hb:Below W.heap.size W W'):BX W' g7 g8 xs7 xs8:=⟨h.r7.below hb,h.r8.below hb,h.lt,h.n7,h.n8⟩
theorem BX.grw {v v':Value} (h:BX W g7 g8 xs7 xs8) (gr:Grw W W' v v') (hv:∀ b,v.ownBlock=some b→g8 + 1≤b):BX W' g7 g8 xs7 xs8 :=
 ⟨h.r7.mono gr.kept fun e => by have:=hv g7 e; have:=h.lt; omega,h.r8.mono gr.kept fun e => by have:=hv g8 e; omega,h.lt,h.n7,h.n8⟩
theorem noInt_setL {xs:List Value} {k:Nat} {x:Value} (h:∀ u∈xs,NoInt u) (hx:NoInt x):∀ u∈xs.set k x,NoInt u:=fun u hu => by
 rcases List.mem_or_eq_of_mem_set hu with hu | rfl
 ·exact h u hu
 ·exact hx
theorem Row.noG {E:TypeId} {g:Nat} {xs:List Value} (h:Row W g E xs) (hn:∀ u∈xs,NoInt u):NoG (fun b => b=g) W:=by
 intro b hb cur t fr hc;subst hb;have:=h.symm.trans hc;simp only [Option.some.injEq,Obj.cells.injEq] at this;obtain ⟨rfl,_,_⟩:=this;intro u hu;exact hn u (by simpa using hu)
theorem BX.set8 (h:BX W g7 g8 xs7 xs8) (k:Nat) {x:Value} (hx:NoInt x):BX (W.setCell ⟨g8,k,none⟩ x) g7 g8 xs7 (xs8.set k x) :=
 ⟨h.r7.other14 (by have:=h.lt; omega) x,h.r8.set k x,h.lt,h.n7,noInt_setL h.n8 hx⟩
theorem BX.set7 (h:BX W g7 g8 xs7 xs8) (k:Nat) {x:Value} (hx:NoInt x):BX (W.setCell ⟨g7,k,none⟩ x) g7 g8 (xs7.set k x) xs8 :=
 ⟨h.r7.set k x,h.r8.other14 (by have:=h.lt; omega) x,h.lt,noInt_setL h.n7 hx,h.n8⟩
theorem MX.set8 {vA:Value} {rows:List (List Qo)} {ow:List (Value × List Qo)} (h:MX W (g8 + 1) vA rows ow) (hB:BX W g7 g8 xs7 xs8) (k:Nat) (x:Value):MX (W.setCell ⟨g8,k,none⟩ x) (g8 + 1) vA rows ow :=
 h.kept ((Kept.refl W:Kept (fun b => b=g8) W W).setCell (p:=⟨g8,k,none⟩) rfl x) (hB.r8.noG hB.n8) fun b e => by omega
theorem BX.val {W:World} {g7 g8:Nat} {xs7:List Value} {z0 z1 z2 z3 vX vY vA:Value} {rows:List (List Qo)} {ow:List (Value × List Qo)} {n1:Bool} {a1:Option Addr} {l1 c1:Nat} {n2:Bool} {a2:Option Addr} {l2 c2:Nat} (h:BX W g7 g8 xs7 [z0,z1,z2,z3,vX,vY]) (hM:MX W (g8 + 1) vA rows ow) :
  BX ((((W.setCell ⟨g8,0,none⟩ (.bool n1)).setCell ⟨g8,1,none⟩ (.slice a1 l1 c1)).setCell ⟨g8,2,none⟩ (.bool n2)).setCell ⟨g8,3,none⟩ (.slice a2 l2 c2)) g7 g8 xs7 [.bool n1,.slice a1 l1 c1,.bool n2,.slice a2 l2 c2,vX,vY] ∧
  MX ((((W.setCell ⟨g8,0,none⟩ (.bool n1)).setCell ⟨g8,1,none⟩ (.slice a1 l1 c1)).setCell ⟨g8,2,none⟩ (.bool n2)).setCell ⟨g8,3,none⟩ (.slice a2 l2 c2)) (g8 + 1) vA rows ow ∧
  Kept (fun b => b=g8) W ((((W.setCell ⟨g8,0,none⟩ (.bool n1)).setCell ⟨g8,1,none⟩ (.slice a1 l1 c1)).setCell ⟨g8,2,none⟩ (.bool n2)).setCell ⟨g8,3,none⟩ (.slice a2 l2 c2)):=by
 have b1:NoInt (.bool n1):=by intro k z e; cases e
 have b2:NoInt (.bool n2):=by intro k z e; cases e
 have h0:=h.set8 0 b1;have h1:=h0.set8 1 (noInt_slice a1 l1 c1);have h2:=h1.set8 2 b2;have hk:Kept (fun b => b=g8) W ((((W.setCell ⟨g8,0,none⟩ (.bool n1)).setCell ⟨g8,1,none⟩ (.slice a1 l1 c1)).setCell ⟨g8,2,none⟩ (.bool n2)).setCell ⟨g8,3,none⟩ (.slice a2 l2 c2)) :=
  ((((Kept.refl W:Kept (fun b => b=g8) W W).setCell (p:=⟨g8,0,none⟩) rfl _).setCell (p:=⟨g8,1,none⟩) rfl _).setCell (p:=⟨g8,2,none⟩) rfl _).setCell (p:=⟨g8,3,none⟩) rfl _
 exact ⟨h2.set8 3 (noInt_slice a2 l2 c2),hM.kept hk (h.r8.noG h.n8) fun b e => by omega,hk⟩
theorem MX.set7 {vA:Value} {rows:List (List Qo)} {ow:List (Value × List Qo)} (h:MX W (g8 + 1) vA rows ow) (hB:BX W g7 g8 xs7 xs8) (k:Nat) (x:Value):MX (W.setCell ⟨g7,k,none⟩ x) (g8 + 1) vA rows ow :=
 h.kept ((Kept.refl W:Kept (fun b => b=g7) W W).setCell (p:=⟨g7,k,none⟩) rfl x) (hB.r7.noG hB.n7) fun b e => by have:=hB.lt; omega
theorem OwnO.slice {w:World} {B:Nat} {v:Value} {l:List Qo} (h:OwnO w B v l):∃ a n c,v=.slice a n c:=by
 obtain ⟨_,h,_⟩:=h;exact own_slice h
end
section
variable {ops : Array Oper} {rest : List Oper} {o : Oper} {a : Act} {Q : Exit → Act → World → Prop}
theorem app_rowx (W X:World) (g7 g8:Nat) (hgd:o.guard=none) (s x:Operand) (ho:o.op=.call { callee:=.builtin .append,args:=#[s,x],argTypes:=#[26,26] })
  {vA:Value} {rows:List (List Qo)} {ow:List (Value × List Qo)} {xs7 xs8:List Value} {row:List Qo} {ar:Option Addr} {n cr:Nat} (hn:n=row.length) (hs:a.eval s=vA) (hx:a.eval x=.slice (some ⟨W.heap.size,0,none⟩) 1 1) (hB:BX W g7 g8 xs7 xs8) (h:MX W (g8 + 1) vA rows ow)
  (hq:UQ W ar row) (hsp:∀ b,(Value.slice ar n cr).ownBlock=some b→g8 + 1≤b∧b < W.heap.size∧vA.ownBlock ≠ some b∧∀ p∈ow,p.1.ownBlock ≠ some b)
  (hb:Below (g8 + 1) X W) (hl:rows.length≤1000000)
  (hK:∀ a' n' c' w',BX w' g7 g8 xs7 xs8→MX w' (g8 + 1) (.slice a' n' c') (rows ++ [row]) ow→Below (g8 + 1) X w'→W.heap.size≤w'.heap.size→wpList Tryz.prog ops Q rest (a.put o.dst (.slice a' n' c')) w') :
  wpList Tryz.prog ops Q (o :: rest) a (W.alloc (.cells #[.slice ar n cr] 27)):=by
 subst hn;have hba:=bA W (.cells #[.slice ar row.length cr] 27);have hg:g8 < W.heap.size:=hB.r8.lt;have h2:=h.mono hba;have hsz:W.heap.size≤(W.alloc (.cells #[.slice ar row.length cr] 27)).heap.size:=hba.size;obtain ⟨v',w',hr,h3,h4,gr⟩:=h2.run_row X o.type (bx:=W.heap.size) (c:=1) (hq.mono hba) (fun b e => ⟨(hsp b e).1,Nat.lt_of_lt_of_le (hsp b e).2.1 hsz,(hsp b e).2.2⟩) (by omega) (hb.alloc (by omega) _) (by simp [go_sem]) hl;obtain ⟨a',c',rfl,_⟩:=h3.um;refine wpList_plain hgd fun K hK' => ?_
 unfold Oper.wp;simp only [List.length_append,List.length_cons,List.length_nil] at hr;simp [execOp,ho,resolve,invoke,builtin,hs,hx,hr,Result.andThen];simp only [List.length_append,List.length_cons,List.length_nil] at h3;exact hK' _ _ (hK a' _ c' w' ((hB.mono hba).grw gr fun b e => (h2.ltA b e).1) h3 h4 (Nat.le_trans hsz gr.grown.size))
end
theorem tmod_pos {z m:Int} (hz:0≤z) (hm:0 < m):0≤z.tmod m∧z.tmod m < m:=⟨Int.tmod_nonneg m hz,Int.tmod_lt_of_pos z hm⟩
theorem tmod10 (z:Int):-10 < z.tmod 10∧z.tmod 10 < 10:=by
 have h1:=Int.tmod_lt_of_pos z (show (0:Int) < 10 by decide);have h2:=Int.tmod_lt_of_pos (-z) (show (0:Int) < 10 by decide);rw [Int.neg_tmod] at h2;omega
theorem wrap_small {z:Int} (h:-1000≤z∧z≤1000):IntKind.i64.wrap z=z:=by
 unfold IntKind.wrap;simp [IntKind.bits,IntKind.signed];omega
theorem cd_range {l:List Int} (h:∀ z∈l,0≤z∧z≤255) (i:Nat):0≤cd l i∧cd l i≤255:=by
 unfold cd;rw [List.getD_eq_getElem?_getD]
 cases hz:l[i]? with
 | none => simp
 | some z => exact h z (List.mem_of_getElem? hz)
def dn (hf:Bool):Int:=if hf then 2 else 1
theorem dn_or (hf:Bool):dn hf=1∨dn hf=2:=by cases hf <;> simp [dn]
def hx (hf:Bool) (l:List Int) (k:Nat):Qo:=some (Rat.divInt ((cd l k).tmod 5) (dn hf))
def i10 (z:Int):Qo:=some ((z.tmod 10:Int):Rat)
def row14 (A:List (List Int)) (n i:Nat):List Qo:=(List.range n).map fun k => i10 (elA A i k)
def rowR (A:List (List Int)) (n i:Nat):List Rat:=(List.range n).map fun k => (((elA A i k).tmod 10:Int):Rat)
def xsR (hf:Bool) (l:List Int) (n:Nat):List Rat:=(List.range n).map fun k => Rat.divInt ((cd l k).tmod 5) (dn hf)
theorem row14_eq (A:List (List Int)) (n i:Nat):row14 A n i=(rowR A n i).map some:=by unfold row14 rowR; rw [List.map_map]; rfl
theorem xs_eq (hf:Bool) (l:List Int) (n:Nat):(List.range n).map (hx hf l)=(xsR hf l n).map some:=by unfold xsR; rw [List.map_map]; rfl
theorem rowR_len (A:List (List Int)) (n i:Nat):(rowR A n i).length=n:=by simp [rowR]
theorem xsR_len (hf:Bool) (l:List Int) (n:Nat):(xsR hf l n).length=n:=by simp [xsR]
theorem rowR_bd (A:List (List Int)) (n i:Nat):∀ r∈rowR A n i,Rq.Bd r 9 9:=by
 intro r hr;obtain ⟨k,_,rfl⟩:=List.mem_map.1 hr;exact bd_int (by have:=tmod10 (elA A i k); omega) (by omega)
theorem xsR_bd (hf:Bool) {l:List Int} (hl:∀ z∈l,0≤z∧z≤255) (n:Nat):∀ r∈xsR hf l n,Rq.Bd r 4 2:=by
 intro r hr;obtain ⟨k,_,rfl⟩:=List.mem_map.1 hr;exact half_bd (by have:=tmod_pos (m:=5) (cd_range hl k).1 (by decide); omega) (dn_or hf)
theorem MX.umA {W:World} {B n c:Nat} {ao:Option Addr} {rows:List (List Qo)} {ow:List (Value × List Qo)} (h:MX W B (.slice ao n c) rows ow):UM W ao rows:=by
 obtain ⟨ao',c',e,hu⟩:=h.um
 cases e; exact hu
theorem OwnO.uq {W:World} {B n c:Nat} {ao:Option Addr} {l:List Qo} (h:OwnO W B (.slice ao n c) l):UQ W ao l:=by
 obtain ⟨ao',c',e,hu⟩:=h.read
 cases e; exact hu
def rowsL (A:List (List Int)) (n m:Nat):List (List Rat):=(List.range m).map (rowR A n)
theorem rowsL_len (A:List (List Int)) (n m:Nat):(rowsL A n m).length=m:=by simp [rowsL]
theorem rows_eq (A:List (List Int)) (n m:Nat):(List.range m).map (row14 A n)=(rowsL A n m).map (·.map some):=by
 unfold rowsL; rw [List.map_map]; exact List.map_congr_left fun i _ => row14_eq A n i
theorem rowsL_mem {A:List (List Int)} {n m:Nat} {r:List Rat} (h:r∈rowsL A n m):r.length=n:=by
 obtain ⟨i,_,rfl⟩:=List.mem_map.1 h;exact rowR_len A n i
theorem colR_bd (A:List (List Int)) (n m k:Nat):∀ r∈colR (rowsL A n m) k,Rq.Bd r 9 9:=by
 intro r hr;obtain ⟨row,hrow,rfl⟩:=List.mem_map.1 hr;obtain ⟨i,_,rfl⟩:=List.mem_map.1 hrow;rw [List.getD_eq_getElem?_getD]
 cases h:(rowR A n i)[k]? with
 | none => exact bd_int (z:=0) (by decide) (by decide)
 | some q => exact rowR_bd A n i q (List.mem_of_getElem? h)
def ShL (lb:List Qo) (k:Nat):Prop:=lb.length=k∧∀ q∈lb,∃ b,q=some b∧Sh b
theorem MX.prg {W:World} {B:Nat} {vA vB vC:Value} {rows:List (List Qo)} {lb lc:List Qo} {ow:List (Value × List Qo)} (h:MX W B vA rows ((vB,lb) :: (vC,lc) :: ow)):PrgV W (.agg #[vA,vB,vC]) ⟨rows,lb,lc⟩:=by
 obtain ⟨aA,cA,rfl,uA⟩:=h.um;obtain ⟨aB,cB,e,uB⟩:=(h.own (p:=(vB,lb)) (by simp)).read;obtain ⟨aC,cC,e2,uC⟩:=(h.own (p:=(vC,lc)) (by simp)).read;simp only at e e2;subst e e2;exact ⟨aA,cA,aB,cB,aC,cC,rfl,uA,uB,uC⟩
theorem MX.opt {W:World} {B:Nat} {vA vX vY:Value} {rows:List (List Qo)} {p1 p2:Value × List Qo} {lx ly:List Qo} {n1:Bool} {a1:Option Addr} {l1 c1:Nat} {n2:Bool} {a2:Option Addr} {l2 c2:Nat} {o:Qo} (h:MX W B vA rows [p1,p2,(vX,lx),(vY,ly)]) (hv:QV W (.agg #[.bool n1,.slice a1 l1 c1,.bool n2,.slice a2 l2 c2]) o) :
  OptV W (.agg #[.bool n1,.slice a1 l1 c1,.bool n2,.slice a2 l2 c2,vX,vY]) o lx ly:=by
 obtain ⟨aX,cX,e,uX⟩:=(h.own (p:=(vX,lx)) (by simp)).read;obtain ⟨aY,cY,e2,uY⟩:=(h.own (p:=(vY,ly)) (by simp)).read;simp only at e e2;subst e e2;exact ⟨_,_,_,_,_,_,_,_,aX,cX,aY,cY,rfl,hv,uX,uY⟩
theorem OwnO.tailq {W:World} {B g n c:Nat} {l:List Qo} (h:OwnO W B (.slice (some ⟨g,0,none⟩) n c) l) (hl:l.length=n):UQ W (if c=1 then some ⟨g,0,none⟩ else some ⟨g,4,none⟩) l.tail:=by
 have hu:=h.uq;obtain ⟨xs,h1,_⟩:=h;have hnc:l.length≤c:=by
  rcases h1.2 with ⟨e,_⟩ | ⟨_,_,_,e,_,_,hn,_⟩
  ·cases e
  ·cases e; exact hn
 intro i o hi;rw [List.getElem?_tail] at hi;obtain ⟨hlt,_⟩:=List.getElem?_eq_some_iff.1 hi;obtain ⟨b,off,n1,a1,l1,c1,n2,a2,l2,c2,e,f,q⟩:=hu (i + 1) o hi
 cases e
 refine ⟨g,4,n1,a1,l1,c1,n2,a2,l2,c2,by rw [if_neg (by omega)],?_,q⟩;rw [show 4 + i * 4=0 + (i + 1) * 4 by omega]; exact f
theorem optT {W:World} {B g n c m cY:Nat} {aY aH:Option Addr} {lx ly:List Qo} {n1:Bool} {a1:Option Addr} {l1 c1:Nat} {n2:Bool} {a2:Option Addr} {l2 c2:Nat} {o:Qo} (hx:OwnO W B (.slice (some ⟨g,0,none⟩) n c) lx) (hy:OwnO W B (.slice aY m cY) ly) (hl:lx.length=n) (hm:ly.length=m) (hH:aH=(if c=1 then some ⟨g,0,none⟩ else some ⟨g,4,none⟩)) (hv:QV W (.agg #[.bool n1,.slice a1 l1 c1,.bool n2,.slice a2 l2 c2]) o) :
  OptV W (.agg #[.bool n1,.slice a1 l1 c1,.bool n2,.slice a2 l2 c2,.slice aH (n - 1) (c - 1),.slice aY m cY]) o lx.tail ly:=by
 subst hH hl hm;exact ⟨_,_,_,_,_,_,_,_,_,c - 1,_,cY,by rw [List.length_tail],hv,hx.tailq rfl,hy.uq⟩
theorem ShL.vals {lb:List Qo} {k:Nat} (h:ShL lb k):∃ la:List Rat,lb=la.map some∧la.length=k∧∀ r∈la,Sh r:=by
 obtain ⟨h1,h2⟩:=h
 induction lb generalizing k with
 | nil => exact ⟨[],rfl,h1,fun r hr => by simp at hr⟩
 | cons q l ih =>
  obtain ⟨b,rfl,hb⟩:=h2 q (by simp);obtain ⟨la,e,hl,hs⟩:=ih (k:=l.length) rfl fun x hx => h2 x (by simp [hx])
  refine ⟨b :: la,by rw [e]; rfl,by simp at h1 ⊢; omega,fun r hr => ?_⟩;rcases List.mem_cons.1 hr with rfl | hr
  ·exact hb
  ·exact hs r hr
theorem ShL.snoc {lb:List Qo} {k:Nat} {b:Rat} (h:ShL lb k) (hb:Sh b):ShL (lb ++ [some b]) (k + 1):=by
 refine ⟨by simp [h.1],fun q hq => ?_⟩;rcases List.mem_append.1 hq with hq | hq
 ·exact h.2 q hq
 ·simp at hq; exact ⟨b,hq,hb⟩
section
variable {ops : Array Oper} {rest : List Oper} {o : Oper} {a : Act} {Q : Exit → Act → World → Prop}
theorem app_ox (W X:World) (g7 g8:Nat) (hgd:o.guard=none) (s x:Operand) (ho:o.op=.call { callee:=.builtin .append,args:=#[s,x],argTypes:=#[27,27] })
  {vA v:Value} {rows:List (List Qo)} {l:List Qo} (pre post:List (Value × List Qo)) {xs7 xs8:List Value} {n1:Bool} {a1:Option Addr} {l1 c1:Nat} {n2:Bool} {a2:Option Addr} {l2 c2:Nat} {q:Rat} (hs:a.eval s=v) (hx:a.eval x=.slice (some ⟨W.heap.size,0,none⟩) 1 1) (hB:BX W g7 g8 xs7 xs8) (h:MX W (g8 + 1) vA rows (pre ++ (v,l) :: post))
  (hr:RatV W (.agg #[.bool n1,.slice a1 l1 c1,.bool n2,.slice a2 l2 c2]) q) (hb:Below (g8 + 1) X W) (hl:l.length≤100000)
  (hK:∀ a' n' c' w',BX w' g7 g8 xs7 xs8→MX w' (g8 + 1) vA rows (pre ++ (.slice a' n' c',l ++ [some q]) :: post)→Below (g8 + 1) X w'→W.heap.size≤w'.heap.size→(∀ u r,RatV W u r→RatV w' u r)→wpList Tryz.prog ops Q rest (a.put o.dst (.slice a' n' c')) w') :
  wpList Tryz.prog ops Q (o :: rest) a (W.alloc (.cells #[.bool n1,.slice a1 l1 c1,.bool n2,.slice a2 l2 c2] 34)):=by
 have hba:=bA W (.cells #[.bool n1,.slice a1 l1 c1,.bool n2,.slice a2 l2 c2] 34);have hg:g8 < W.heap.size:=hB.r8.lt;have h2:=h.mono hba;have hsz:=hba.size;have ho2:=h2.own (p:=(v,l)) (by simp);obtain ⟨v',w',hr',k1,k2,gr⟩:=run_app_o _ X o.type (g8 + 1) v l (some q) _ 1 ho2 (by omega) (hb.alloc (by omega) _) (uq_one hr) hl;obtain ⟨a',n',c',rfl⟩:=k1.slice;refine wpList_plain hgd fun K hK' => ?_
 unfold Oper.wp;simp [execOp,ho,resolve,invoke,builtin,hs,hx,hr',Result.andThen];exact hK' _ _ (hK a' n' c' w' ((hB.mono hba).grw gr fun b e => (ho2.lt b e).1) (h2.turn gr k1) k2 (Nat.le_trans hsz gr.grown.size) fun u r h => (h.mono hba).grown gr.grown gr.noi)
end
theorem Below.put36 {B:Nat} {w w':World} {n m:Nat} (h:Below B w w') (hn:B≤n) (hm:B≤m) (x0 x1 x2 y0 y1 y2 y3 y4 y5:Value) :
  Below B w (((((((((w'.setCell ⟨n,0,none⟩ x0).setCell ⟨n,1,none⟩ x1).setCell ⟨n,2,none⟩ x2).setCell ⟨m,0,none⟩ y0).setCell ⟨m,1,none⟩ y1).setCell ⟨m,2,none⟩ y2).setCell ⟨m,3,none⟩ y3).setCell ⟨m,4,none⟩ y4).setCell ⟨m,5,none⟩ y5) :=
 ((((((Below.put3 h hn x0 x1 x2).setCell hm _).setCell hm _).setCell hm _).setCell hm _).setCell hm _).setCell hm _
theorem Kept.wider14 {G H:Nat→Prop} {w w':World} (h:Kept G w w') (hg:∀ b,G b→H b):Kept H w w':=⟨h.os,h.tape,h.output,h.size,fun k hk hn => h.block k hk fun g => hn (hg k g)⟩
theorem kept3 (w:World) (n:Nat) (x0 x1 x2:Value):Kept (fun b => b=n) w (((w.setCell ⟨n,0,none⟩ x0).setCell ⟨n,1,none⟩ x1).setCell ⟨n,2,none⟩ x2) :=
 (((Kept.refl w:Kept (fun b => b=n) w w).setCell (p:=⟨n,0,none⟩) rfl _).setCell (p:=⟨n,1,none⟩) rfl _).setCell (p:=⟨n,2,none⟩) rfl _
theorem kept6 (w:World) (n:Nat) (x0 x1 x2 x3 x4 x5:Value):Kept (fun b => b=n) w ((((((w.setCell ⟨n,0,none⟩ x0).setCell ⟨n,1,none⟩ x1).setCell ⟨n,2,none⟩ x2).setCell ⟨n,3,none⟩ x3).setCell ⟨n,4,none⟩ x4).setCell ⟨n,5,none⟩ x5) :=
 (((kept3 w n x0 x1 x2).setCell (p:=⟨n,3,none⟩) rfl _).setCell (p:=⟨n,4,none⟩) rfl _).setCell (p:=⟨n,5,none⟩) rfl _
theorem OwnO.addr {w:World} {B n c:Nat} {ao:Option Addr} {l:List Qo} (h:OwnO w B (.slice ao n c) l) (hl:0 < l.length):∃ g,ao=some ⟨g,0,none⟩∧B≤g:=by
 obtain ⟨xs,h1,_⟩:=h;rcases h1.2 with ⟨_,hn⟩ | ⟨g,cap,cur,e,hB,_⟩
 ·omega
 ·cases e; exact ⟨g,rfl,hB⟩
theorem OwnO.four' {w:World} {B g i n cap:Nat} {l:List Qo} (h:OwnO w B (.slice (some ⟨g,0,none⟩) n cap) l) (hi:i < l.length):∃ (n1:Bool) (a1:Option Addr) (l1 c1:Nat) (n2:Bool) (a2:Option Addr) (l2 c2:Nat),
  w.cell? ⟨g,i * 4,none⟩=some (.bool n1)∧w.cell? ⟨g,i * 4 + 1,none⟩=some (.slice a1 l1 c1)∧w.cell? ⟨g,i * 4 + 2,none⟩=some (.bool n2)∧w.cell? ⟨g,i * 4 + 3,none⟩=some (.slice a2 l2 c2) ∧
  w.frozen? ⟨g,i * 4,none⟩=false∧w.frozen? ⟨g,i * 4 + 1,none⟩=false∧w.frozen? ⟨g,i * 4 + 2,none⟩=false∧w.frozen? ⟨g,i * 4 + 3,none⟩=false ∧
  QV w (.agg #[.bool n1,.slice a1 l1 c1,.bool n2,.slice a2 l2 c2]) l[i]:=by
 obtain ⟨xs,h1,h2,h3⟩:=h;obtain ⟨n1,a1,l1,c1,n2,a2,l2,c2,e0,e1,e2,e3,hq⟩:=h3 i l[i] (gE hi);have hc:∀ j u,xs[j]?=some u→w.cell? ⟨g,j,none⟩=some u:=by
  intro j u hu;have:=h1.cells (g:=g) rfl j u hu;have ha:(⟨g,0,none⟩:Addr).add j=⟨g,j,none⟩:=by
   unfold Addr.add; split
   ·subst j; rfl
   ·simp
  rw [ha] at this; exact this
 have hf:∀ j,w.frozen? ⟨g,j,none⟩=false:=by
  intro j;rcases h1.2 with ⟨e,_⟩ | ⟨g',cap',cur,e,hB,hg,_⟩
  ·cases e
  ·cases e
   simp [World.frozen?,hg]
 exact ⟨n1,a1,l1,c1,n2,a2,l2,c2,hc _ _ e0,hc _ _ e1,hc _ _ e2,hc _ _ e3,hf _,hf _,hf _,hf _,hq⟩
theorem OwnO.noG {w:World} {B g n cap:Nat} {l:List Qo} (h:OwnO w B (.slice (some ⟨g,0,none⟩) n cap) l):NoG (fun b => b=g) w:=by
 obtain ⟨xs,h1,h2,_⟩:=h;exact fun k hk cur t fr hc => by subst hk; exact h2 k rfl cur t fr hc
def FrBox (g:Nat) (r:Rat) (W:World):Prop:=∃ (n1:Bool) (a1:Option Addr) (l1 c1:Nat) (n2:Bool) (a2:Option Addr) (l2 c2:Nat),Row W g 34 [.bool n1,.slice a1 l1 c1,.bool n2,.slice a2 l2 c2]∧RatV W (.agg #[.bool n1,.slice a1 l1 c1,.bool n2,.slice a2 l2 c2]) r
theorem FrBox.mono {g:Nat} {r:Rat} {W W':World} (h:FrBox g r W) (hb:Below W.heap.size W W'):FrBox g r W':=by
 obtain ⟨_,_,_,_,_,_,_,_,h1,h2⟩:=h;exact ⟨_,_,_,_,_,_,_,_,h1.below hb,h2.mono hb⟩
def Made14 (w':World) (e:Ending):Prop :=
 ∃ (p:Prg) (x y:List Qo) (val:Qo) (vp vo:Value) (ok:Bool),e=.returned (.tuple #[vp,vo,.bool ok])∧PrgV w' vp p∧OptV w' vo val x y∧SmallD p x y∧x.length≤10∧y.length≤10
def Spoilt (g7 g8:Nat) (VA VB VC:Value) (p:Prg) (wx:World):Prop :=
 ∃ (n1:Bool) (a1:Option Addr) (l1 c1:Nat) (n2:Bool) (a2:Option Addr) (l2 c2:Nat) (ax:Option Addr) (nx cx:Nat) (ay:Option Addr) (ny cy:Nat) (ow:List (Value × List Qo)) (val:Qo) (x y:List Qo),
  BX wx g7 g8 [VA,VB,VC] [.bool n1,.slice a1 l1 c1,.bool n2,.slice a2 l2 c2,.slice ax nx cx,.slice ay ny cy]∧MX wx (g8 + 1) VA p.A ow∧QV wx (.agg #[.bool n1,.slice a1 l1 c1,.bool n2,.slice a2 l2 c2]) val ∧
  (∀ W,MX W (g8 + 1) VA p.A ow→PrgV W (.agg #[VA,VB,VC]) p∧(QV W (.agg #[.bool n1,.slice a1 l1 c1,.bool n2,.slice a2 l2 c2]) val→OptV W (.agg #[.bool n1,.slice a1 l1 c1,.bool n2,.slice a2 l2 c2,.slice ax nx cx,.slice ay ny cy]) val x y))∧SmallD p x y∧x.length≤10∧y.length≤10
theorem spoiltOf {wx:World} {g7 g8 nx cx ny cy:Nat} {ax ay:Option Addr} {VA VB VC:Value} {rows:List (List Qo)} {lb lc lx ly:List Qo} {val:Qo} {n1:Bool} {a1:Option Addr} {l1 c1:Nat} {n2:Bool} {a2:Option Addr} {l2 c2:Nat}
  (hB:BX wx g7 g8 [VA,VB,VC] [.bool n1,.slice a1 l1 c1,.bool n2,.slice a2 l2 c2,.slice ax nx cx,.slice ay ny cy]) (hM:MX wx (g8 + 1) VA rows [(VB,lb),(VC,lc),(.slice ax nx cx,lx),(.slice ay ny cy,ly)]) (hq:QV wx (.agg #[.bool n1,.slice a1 l1 c1,.bool n2,.slice a2 l2 c2]) val)
  (hs:SmallD ⟨rows,lb,lc⟩ lx ly) (h5:lx.length≤10) (h6:ly.length≤10):Spoilt g7 g8 VA VB VC ⟨rows,lb,lc⟩ wx :=
 ⟨_,_,_,_,_,_,_,_,_,_,_,_,_,_,_,val,lx,ly,hB,hM,hq,fun W h => ⟨h.prg,fun hv => h.opt hv⟩,hs,h5,h6⟩
theorem smallSetX {p:Prg} {x y:List Qo} {k:Nat} {q:Qo} (h:SmallD p x y) (hq:∀ r,q=some r→Sx r):SmallD p (x.set k q) y:=⟨h.m,h.n,fun r hr => (List.mem_or_eq_of_mem_set hr).elim (h.x r) fun e => hq r e.symm,h.y⟩
theorem smallSetY {p:Prg} {x y:List Qo} {k:Nat} {q:Qo} (h:SmallD p x y) (hq:∀ r,q=some r→Sx r):SmallD p x (y.set k q):=⟨h.m,h.n,h.x,fun r hr => (List.mem_or_eq_of_mem_set hr).elim (h.y r) fun e => hq r e.symm⟩
theorem smallApp {p:Prg} {x y:List Qo} {q:Rat} (h:SmallD p x y) (hq:Sx q):SmallD p x (y ++ [some q]):=⟨h.m,h.n,h.x,fun r hr => (List.mem_append.1 hr).elim (h.y r) fun e => by simp only [List.mem_singleton,Option.some.injEq] at e; rw [e]; exact hq⟩
theorem lenSet {l:List Qo} {k:Nat} {q:Qo} (h:l.length≤10):(l.set k q).length≤10:=by rw [List.length_set]; exact h
theorem lenApp {l:List Qo} {q:Qo} (h:l.length≤4):(l ++ [q]).length≤10:=by rw [List.length_append]; exact Nat.le_trans (Nat.add_le_add_right h 1) (by decide)
theorem spoilt4 {wd:World} {g7 g8 bZ n m cX cY cH:Nat} {aH aY:Option Addr} {VA VB VC:Value} {rows:List (List Qo)} {lb lc lx ly:List Qo} {v:Rat} {n1:Bool} {a1:Option Addr} {l1 c1:Nat} {n2:Bool} {a2:Option Addr} {l2 c2:Nat}
  (hB:BX wd g7 g8 [VA,VB,VC] [.bool n1,.slice a1 l1 c1,.bool n2,.slice a2 l2 c2,.slice (some ⟨bZ,0,none⟩) n cX,.slice aY m cY]) (hM:MX wd (g8 + 1) VA rows [(VB,lb),(VC,lc),(.slice (some ⟨bZ,0,none⟩) n cX,lx),(.slice aY m cY,ly)]) (hv:RatV wd (.agg #[.bool n1,.slice a1 l1 c1,.bool n2,.slice a2 l2 c2]) v)
  (hH:aH=(if cX=1 then some ⟨bZ,0,none⟩ else some ⟨bZ,4,none⟩)) (hcH:cH=cX - 1) (hl:lx.length=n) (hm:ly.length=m) (hs:SmallD ⟨rows,lb,lc⟩ lx ly) (h5:lx.length≤10) (h6:ly.length≤10) :
  Spoilt g7 g8 VA VB VC ⟨rows,lb,lc⟩ (wd.setCell ⟨g8,4,none⟩ (.slice aH (n - 1) cH)):=by
 subst hcH;refine ⟨_,_,_,_,_,_,_,_,_,_,_,_,_,_,_,some v,lx.tail,ly,hB.set8 4 (noInt_slice aH (n - 1) (cX - 1)),hM.set8 hB 4 _,?_,fun W h => ⟨h.prg,fun hq => optT (h.own (p:=(.slice (some ⟨bZ,0,none⟩) n cX,lx)) (by simp)) (h.own (p:=(.slice aY m cY,ly)) (by simp)) hl hm hH hq⟩,⟨hs.m,hs.n,fun r hr => hs.x r (List.mem_of_mem_tail hr),hs.y⟩,by simp; omega,h6⟩;exact hv.kept ((Kept.refl wd:Kept (fun b => b=g8) wd wd).setCell (p:=⟨g8,4,none⟩) rfl _) (hB.r8.noG hB.n8)
theorem made14_no (W:World):Made14 W (.returned (.tuple #[.agg #[.slice none 0 0,.slice none 0 0,.slice none 0 0],.agg #[.bool false,.slice none 0 0,.bool false,.slice none 0 0,.slice none 0 0,.slice none 0 0],.bool false])) :=
 ⟨⟨[],[],[]⟩,[],[],none,_,_,_,rfl,⟨none,0,none,0,none,0,rfl,UM.nil _ _,UQ.nil _ _,UQ.nil _ _⟩,⟨false,none,0,0,false,none,0,0,none,0,none,0,rfl,vq_zero W,UQ.nil _ _,UQ.nil _ _⟩,⟨by simp,by simp,fun r h => by simp at h,fun r h => by simp at h⟩,by simp,by simp⟩
noncomputable def findB (n:Nat):Code→Option Code
 | .seq a b => (findB n a).orElse fun _ => findB n b
 | .cond _ a b => (findB n a).orElse fun _ => findB n b
 | .block k b => if k=n then some (.block k b) else findB n b
 | .loop b => findB n b
 | .scope b => findB n b
 | _ => none
noncomputable def sw14:Code:=((Tryz.f9).body.bind (findB 10)).getD .skip
abbrev Arm14 (P:Int→Prop):Prop :=
 ∀ {K:Act→World→Prop} {Q':Exit→Act→World→Prop} {wb wd:World} {g g7 g8 g20 n m:Nat} {sp ap vv:Int} {hf:Bool} {X Y:List Int} {aV aB9 aC9 aXv aYv:Option Addr} {cV nB9 cB9 cC9 cXv cYv:Nat} {RW:List (List Qo)} {lb lc LX LY:List Qo} {v:Rat} {y0 y1 y2 y3 y4 y5 y6 y8:Value}
  {ng1 nh1 ng2 nh2:Bool} {ao1 ap1 ao2 ap2:Option Addr} {n1 cap1 m1 caq1 n2 cap2 m2 caq2:Nat} {x0 x2 x3 x4 x7 x9 x10 x11 x12 x13 x14 x15 x16 x17 x18 x19 x21 x22 x23 x24 x25 x26 x27 x28 x29 x30 x31 x32 x33 x34 x35 x36 x37 x38 x39 x40 x41 x42 x43 x44 x45 x46 x47 x48 x49 x50 x51 x52 x53 x54 x55 x56 x57 x58 x59 x60 x61 x62 x63 x64 x65 x66 x67 x68 x69 x70 x71 x72 x73 x74 x75 x76 x77 x78 x79 x80 x81 x82 x83 x84 x85 x86 x87 x88 x89 x90 x91 x92 x93 x94 x95 x96 x97 x98 x99 x100 x101 x102 x103 x104 x105 x106 x107 x108 x109 x110 x111 x112 x113 x114 x115 x116 x117 x118 x119 x120 x121 x122 x123 x124 x125 x126 x127 x128 x129 x130 x131 x132 x133 x134 x135 x136 x137 x138 x139 x140 x141 x142 x143 x144 x145 x146 x147 x148 x149 x150 x151 x152 x153 x154 x155 x156 x157 x158 x159 x160 x161 x162 x163 x164 x165 x166 x167 x168 x169 x170 x171 x172 x173 x174 x175 x176 x177 x178 x179 x180 x181 x182 x183 x184 x185 x186 x187 x188 x189 x190 x191 x192 x193 x194 x195 x196 x197 x198 x199 x200 x201 x202 x203 x204 x205 x206 x207 x208 x209 x210 x211 x212 x213 x215 x216 x217 x218 x219 x220 x221 x222 x223 x224 x225 x226 x227 x228 x229 x230 x231 x232 x233 x234 x235 x236 x237 x238 x239 x240 x241 x242 x243 x244 x245 x246 x247 x248 x249 x250 x251 x252 x253 x254 x255 x256 x257 x258 x259 x260 x261 x262 x263 x264 x265 x266 x267 x268 x269 x270 x271 x272 x273 x274 x275 x276 x277 x278 x279 x280 x281 x282 x283 x284 x285 x286 x287 x288 x289 x290 x291 x292 x293 x294 x295 x296 x297 x298 x299 x300 x301 x302 x303 x304:Value},
  Env wb →
  Row wb g 25 [y0,y1,y2,y3,y4,y5,y6,.int .u8 ap,y8] →
  Below wb.heap.size wb wd →
  BX wd g7 g8 [.slice aV m cV,.slice aB9 nB9 cB9,.slice aC9 n cC9] [.bool ng1,.slice ao1 n1 cap1,.bool nh1,.slice ap1 m1 caq1,.slice aXv n cXv,.slice aYv m cYv] →
  MX wd (g8 + 1) (.slice aV m cV) RW [((.slice aB9 nB9 cB9),lb),((.slice aC9 n cC9),lc),((.slice aXv n cXv),LX),((.slice aYv m cYv),LY)] →
  RatV wd (.agg #[.bool ng1,.slice ao1 n1 cap1,.bool nh1,.slice ap1 m1 caq1]) v →
  RatV wd (.agg #[.bool ng2,.slice ao2 n2 cap2,.bool nh2,.slice ap2 m2 caq2]) (((vv % 5 - 2:Int)):Rat) →
  Row wd g20 34 [.bool ng2,.slice ao2 n2 cap2,.bool nh2,.slice ap2 m2 caq2] →
  Hid (wb.heap.size≤g8) →
  Hid (1≤n∧n≤5) →
  Hid (1≤m∧m≤4) →
  (0≤ap∧ap≤255) →
  (0≤vv∧vv≤255) →
  Hid (Rq.Bd v (KK ^ 5) (KK ^ 5)) →
  Hid (LX=(List.range n).map (hx hf X)) →
  Hid (LY=(List.range m).map (hx hf Y)) →
  Hid (∀ z∈X,0≤z∧z≤255) →
  Hid (∀ z∈Y,0≤z∧z≤255) →
  Hid (LX.length≤5) →
  Hid (LY.length≤4) →
  Hid (SmallD ⟨RW,lb,lc⟩ LX LY) →
  (∀ u21 u22 u215 u216 u217 u218 u219 u220 u221 u222 u223 u224 u225 u226 u227 u228 u229 u230 u231 u232 u233 u234 u235 u236 u237 u238 u239 u240 u241 u242 u243 u244 u245 u246 u247 u248 u249 u250 u251 u252 u253 u254 u255 u256 u257 u258 u259 u260 u261 u262 u263 u264 u265 u266 u267 u268 u269 u270 u271 u272 u273 u274 u275 u276 u277 u278 u279 u280 u281 u282 u283 u284 u285 u286 u287 u288 u289 u290 u291 u292 u293 u294 u295 u296 u297 u298 u299 u300 u301 u302 u303 u304 W,Spoilt g7 g8 (.slice aV m cV) (.slice aB9 nB9 cB9) (.slice aC9 n cC9) ⟨RW,lb,lc⟩ W→Below wb.heap.size wb W→K { tmps:=List.toArray (x0::.pointer (some ⟨g,0,none⟩)::x2::x3::x4::.int .i64 m::.int .i64 n::x7::.pointer (some ⟨g8,0,none⟩)::x9::x10::x11::x12::x13::x14::x15::x16::x17::x18::x19::.pointer (some ⟨g20,0,none⟩)::u21::u22::x23::x24::x25::x26::x27::x28::x29::x30::x31::x32::x33::x34::x35::x36::x37::x38::x39::x40::x41::x42::x43::x44::x45::x46::x47::x48::x49::x50::x51::x52::x53::x54::x55::x56::x57::x58::x59::x60::x61::x62::x63::x64::x65::x66::x67::x68::x69::x70::x71::x72::x73::x74::x75::x76::x77::x78::x79::x80::x81::x82::x83::x84::x85::x86::x87::x88::x89::x90::x91::x92::x93::x94::x95::x96::x97::x98::x99::x100::x101::x102::x103::x104::x105::x106::x107::x108::x109::x110::x111::x112::x113::x114::x115::x116::x117::x118::x119::x120::x121::x122::x123::x124::x125::x126::x127::x128::x129::x130::x131::x132::x133::x134::x135::x136::x137::x138::x139::x140::x141::x142::x143::x144::x145::x146::x147::x148::x149::x150::x151::x152::x153::x154::x155::x156::x157::x158::x159::x160::x161::x162::x163::x164::x165::x166::x167::x168::x169::x170::x171::x172::x173::x174::x175::x176::x177::x178::x179::x180::x181::x182::x183::x184::x185::x186::x187::x188::x189::x190::x191::x192::x193::x194::x195::x196::x197::x198::x199::x200::x201::x202::x203::x204::x205::x206::x207::x208::x209::x210::x211::x212::x213::.int .u8 sp::u215::u216::u217::u218::u219::u220::u221::u222::u223::u224::u225::u226::u227::u228::u229::u230::u231::u232::u233::u234::u235::u236::u237::u238::u239::u240::u241::u242::u243::u244::u245::u246::u247::u248::u249::u250::u251::u252::u253::u254::u255::u256::u257::u258::u259::u260::u261::u262::u263::u264::u265::u266::u267::u268::u269::u270::u271::u272::u273::u274::u275::u276::u277::u278::u279::u280::u281::u282::u283::u284::u285::u286::u287::u288::u289::u290::u291::u292::u293::u294::u295::u296::u297::u298::u299::u300::u301::u302::u303::u304::[]),defers:=[] } W) →
  P sp →
  Code.wp Tryz.prog sw14 (Exit.then K Q') { tmps:=List.toArray (x0::.pointer (some ⟨g,0,none⟩)::x2::x3::x4::.int .i64 m::.int .i64 n::x7::.pointer (some ⟨g8,0,none⟩)::x9::x10::x11::x12::x13::x14::x15::x16::x17::x18::x19::.pointer (some ⟨g20,0,none⟩)::x21::x22::x23::x24::x25::x26::x27::x28::x29::x30::x31::x32::x33::x34::x35::x36::x37::x38::x39::x40::x41::x42::x43::x44::x45::x46::x47::x48::x49::x50::x51::x52::x53::x54::x55::x56::x57::x58::x59::x60::x61::x62::x63::x64::x65::x66::x67::x68::x69::x70::x71::x72::x73::x74::x75::x76::x77::x78::x79::x80::x81::x82::x83::x84::x85::x86::x87::x88::x89::x90::x91::x92::x93::x94::x95::x96::x97::x98::x99::x100::x101::x102::x103::x104::x105::x106::x107::x108::x109::x110::x111::x112::x113::x114::x115::x116::x117::x118::x119::x120::x121::x122::x123::x124::x125::x126::x127::x128::x129::x130::x131::x132::x133::x134::x135::x136::x137::x138::x139::x140::x141::x142::x143::x144::x145::x146::x147::x148::x149::x150::x151::x152::x153::x154::x155::x156::x157::x158::x159::x160::x161::x162::x163::x164::x165::x166::x167::x168::x169::x170::x171::x172::x173::x174::x175::x176::x177::x178::x179::x180::x181::x182::x183::x184::x185::x186::x187::x188::x189::x190::x191::x192::x193::x194::x195::x196::x197::x198::x199::x200::x201::x202::x203::x204::x205::x206::x207::x208::x209::x210::x211::x212::x213::.int .u8 sp::x215::x216::x217::x218::x219::x220::x221::x222::x223::x224::x225::x226::x227::x228::x229::x230::x231::x232::x233::x234::x235::x236::x237::x238::x239::x240::x241::x242::x243::x244::x245::x246::x247::x248::x249::x250::x251::x252::x253::x254::x255::x256::x257::x258::x259::x260::x261::x262::x263::x264::x265::x266::x267::x268::x269::x270::x271::x272::x273::x274::x275::x276::x277::x278::x279::x280::x281::x282::x283::x284::x285::x286::x287::x288::x289::x290::x291::x292::x293::x294::x295::x296::x297::x298::x299::x300::x301::x302::x303::x304::[]),defers:=[] } wd
end Go.Proofs.YtagdgdacecibiaaGreatDoor
