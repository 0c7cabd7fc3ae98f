/-
  As wp_region_use; one operation uses up a fact and writes nothing (a slice that is built of a value).
-/
import Derived.Test.YtaedmaifkfhpfaaGreatDoorOQ
import Derived.Test.YtaedmaifkfhpfaaGreatDoorD5
import Derived.Maps.AppendAt
set_option linter.unusedVariables false
set_option linter.unusedSimpArgs false
namespace Go.Proofs.YtaedmaifkfhpfaaGreatDoor
open Go.RowKit
section
variable {P : Program} {ops : Array Oper} {Q : Exit → Act → World → Prop}
end
theorem Kept.of_grown {w w':World} {row:Option Nat} (h:w.grownBy w' row):Kept (fun k => row=some k) w w' :=
 ⟨h.os,h.tape,h.output,h.size,fun k hk hg => h.block k hk fun e => hg e.symm⟩
structure Grw (W W':World) (v v':Value):Prop where
 grown:W.grownBy W' v.ownBlock
 noi:NoI W v
 new:v'.ownBlock=v.ownBlock∨v'.ownBlock=some W.heap.size
theorem Grw.kept {W W':World} {v v':Value} (h:Grw W W' v v'):Kept (fun k => v.ownBlock=some k) W W':=.of_grown h.grown
theorem Grw.noG {W W':World} {v v':Value} (h:Grw W W' v v'):NoG (fun k => v.ownBlock=some k) W:=fun g hg cur t fr hc => h.noi g hg cur t fr hc
def Sep (u v:Value):Prop:=∀ b,u.ownBlock=some b→v.ownBlock ≠ some b
theorem Sep.symm {u v:Value} (h:Sep u v):Sep v u:=fun b hv hu => h b hu hv
theorem sep_nil (v:Value):Sep (.slice none 0 0) v:=fun b h => by simp [Value.ownBlock] at h
def SepR (W:World) (xs:List Value) (v:Value):Prop:=∀ x∈xs,(∀ b,x.ownBlock=some b→b < W.heap.size)∧Sep x v
theorem SepR.nil (W:World) (v:Value):SepR W [] v:=fun x h => by simp at h
theorem SepR.mono {W W':World} {xs:List Value} {v:Value} (h:SepR W xs v) (hs:W.heap.size≤W'.heap.size):SepR W' xs v :=
 fun x hx => ⟨fun b hb => Nat.lt_of_lt_of_le ((h x hx).1 b hb) hs,(h x hx).2⟩
theorem SepR.snoc {W:World} {xs:List Value} {v x:Value} (h:SepR W xs v) (hx:∀ b,x.ownBlock=some b→b < W.heap.size) (hs:Sep x v):SepR W (xs ++ [x]) v:=by
 intro y hy;rcases List.mem_append.1 hy with hy | hy
 ·exact h y hy
 ·simp at hy; subst hy; exact ⟨hx,hs⟩
theorem ownsRow_kept {G:Nat→Prop} {w w':World} {B e size n:Nat} {v:Value} {xs:List Value} (h:w.ownsRow B e size v n xs) (hk:Kept G w w') (hv:∀ b,v.ownBlock=some b→¬ G b):w'.ownsRow B e size v n xs:=by
 refine ⟨h.1,h.2.imp id ?_⟩;rintro ⟨g,cap,cur,rfl,hB,hg,r⟩;exact ⟨g,cap,cur,rfl,hB,hk.heap hg (hv g rfl),r⟩
theorem NoI.kept {G:Nat→Prop} {w w':World} {B e size n:Nat} {v:Value} {xs:List Value} (hn:NoI w v) (h:w.ownsRow B e size v n xs) (hk:Kept G w w') (hv:∀ b,v.ownBlock=some b→¬ G b):NoI w' v:=by
 intro g hg cur t fr hc;have hlt:=(h.lt g hg).2;exact hn g hg cur t fr ((hk.block g hlt (hv g hg)).symm.trans hc)
theorem OwnO.kept {G:Nat→Prop} {w w':World} {B:Nat} {v:Value} {l:List Qo} (h:OwnO w B v l) (hk:Kept G w w') (hp:NoG G w) (hv:∀ b,v.ownBlock=some b→¬ G b):OwnO w' B v l:=by
 obtain ⟨xs,h1,h2,h3⟩:=h;exact ⟨xs,ownsRow_kept h1 hk hv,h2.kept h1 hk hv,fun i o hi => (h3 i o hi).kept hk hp⟩
theorem OwnO.lt {w:World} {B:Nat} {v:Value} {l:List Qo} (h:OwnO w B v l):∀ b,v.ownBlock=some b→B≤b∧b < w.heap.size:=by
 obtain ⟨xs,h1,_⟩:=h;exact h1.lt
def OwnR (w:World) (B:Nat) (v:Value) (xs:List Value):Prop:=OwnS w B v xs∧NoI w v
theorem OwnR.nil (w:World) (B:Nat):OwnR w B (.slice none 0 0) []:=⟨World.ownsRow_nil _ _ _ _,fun g hg => by simp [Value.ownBlock] at hg⟩
theorem OwnR.kept {G:Nat→Prop} {w w':World} {B:Nat} {v:Value} {xs:List Value} (h:OwnR w B v xs) (hk:Kept G w w') (hv:∀ b,v.ownBlock=some b→¬ G b):OwnR w' B v xs :=
 ⟨ownsRow_kept h.1 hk hv,h.2.kept h.1 hk hv⟩
theorem OwnR.lt {w:World} {B:Nat} {v:Value} {xs:List Value} (h:OwnR w B v xs):∀ b,v.ownBlock=some b→B≤b∧b < w.heap.size:=World.ownsRow.lt h.1
theorem RowsOf.kept {G:Nat→Prop} {w w':World} {xs:List Value} {rows:List (List Qo)} (h:RowsOf w xs rows) (hk:Kept G w w') (hp:NoG G w) (hv:∀ x∈xs,∀ b,x.ownBlock=some b→¬ G b):RowsOf w' xs rows:=by
 refine ⟨h.1,fun i row hi => ?_⟩;obtain ⟨ar,cr,e,hq⟩:=h.2 i row hi;refine ⟨ar,cr,e,hq.kept hk hp ?_⟩;rintro a rfl;exact hv _ (List.mem_of_getElem? e) a.block rfl
theorem RowsOf.snoc {w:World} {xs:List Value} {rows:List (List Qo)} {a:List Qo} {aa:Option Addr} {ca:Nat} (h:RowsOf w xs rows) (ha:UQ w aa a) :
  RowsOf w (xs ++ [.slice aa a.length ca]) (rows ++ [a]):=by
 refine ⟨by simp [h.1],fun i row hi => ?_⟩;rcases Nat.lt_or_ge i rows.length with hl | hl
 ·rw [List.getElem?_append_left hl] at hi;obtain ⟨ar,cr,e,hq⟩:=h.2 i row hi;exact ⟨ar,cr,by rw [List.getElem?_append_left (by rw [h.1]; exact hl)]; exact e,hq⟩
 ·rw [List.getElem?_append_right hl] at hi;have hx:=h.1
  match hj:i - rows.length,hi with
  | 0,hi =>
   simp at hi; subst hi;exact ⟨aa,ca,by rw [List.getElem?_append_right (by omega),show i - xs.length=0 by omega]; rfl,ha⟩
  | j + 1,hi => simp at hi
theorem run_app_o (w W:World) (ty:TypeId) (B:Nat) (v:Value) (l:List Qo) (o:Qo) (ao:Option Addr) (c:Nat) (hown:OwnO w B v l) (hB:B≤w.heap.size) (hb:Below B W w) (hm:UQ w ao [o]) (hl:l.length≤100000) :
  ∃ v' w',(Builtin.append_ #[27,27] ty #[v,.slice ao 1 c]).run Tryz.prog w=.ok v' w'∧OwnO w' B v' (l ++ [o])∧Below B W w'∧Grw w w' v v':=by
 obtain ⟨v',w',hr,h1,h2,h3,h4⟩:=run_app_os w W ty B v l [o] ao c hown hB hb hm (by simp) (by simp; omega);obtain ⟨xs,hrow,hno,hel⟩:=hown;obtain ⟨b,off,m1,b1,k1,d1,m2,b2,k2,d2,rfl,hf,hq⟩:=hm 0 o rfl;obtain ⟨i0,hi,hz0,hz1,hz2⟩:=info_parts Tryz.info26;have hn:∀ (j:Nat) (u:Value),[Value.bool m1,.slice b1 k1 d1,.bool m2,.slice b2 k2 d2][j]?=some u→w.cell? ((⟨b,off,none⟩:Addr).add j)=some u:=by
  intro j u hj;have ha:∀ j,(⟨b,off,none⟩:Addr).add j=⟨b,off + j,none⟩:=by
   intro j; unfold Addr.add; split
   ·subst j; rfl
   ·rfl
  rw [ha]
  match j,hj with
  | 0,hj => simp at hj; subst hj; exact hf.c0
  | 1,hj => simp at hj; subst hj; exact hf.c1
  | 2,hj => simp at hj; subst hj; exact hf.c2
  | 3,hj => simp at hj; subst hj; exact hf.c3
  | j + 4,hj => simp at hj
 obtain ⟨v2,w2,hr2,_,_,_,hat⟩:=run_append_own_at (P:=Tryz.prog) w B 27 ty 26 i0 (.agg #[.bool false,.slice none 0 0,.bool false,.slice none 0 0]) i0.size i0.bytes Tryz.underlying27 hi hz0 rfl rfl (by rw [hz1]; rfl) (by rw [hz1]; decide) v l.length xs (by rw [hz1]; exact hrow) ⟨b,off,none⟩ 1 c [.bool m1,.slice b1 k1 d1,.bool m2,.slice b2 k2 d2] (by rw [hz1]; rfl) hn (by intro u hu; simp at hu; rcases hu with rfl | rfl | rfl | rfl <;> rfl) (by unfold maxLen; omega) (by rw [hz2]; omega) hB;have he:=hr.symm.trans hr2;simp only [Result.ok.injEq] at he;obtain ⟨rfl,rfl⟩:=he;exact ⟨v',w',hr,h1,h2,⟨h4,hno,hat⟩⟩
def LowR (B:Nat) (xs:List Value):Prop:=∀ x∈xs,∀ b,x.ownBlock=some b→B≤b
theorem LowR.snoc {B:Nat} {xs:List Value} {x:Value} (h:LowR B xs) (hx:∀ b,x.ownBlock=some b→B≤b):LowR B (xs ++ [x]):=by
 intro y hy;rcases List.mem_append.1 hy with hy | hy
 ·exact h y hy
 ·simp at hy; subst hy; exact hx
section
variable {W W' : World} {B : Nat} {vA vB vC : Value} {rows : List (List Qo)} {lb lc : List Qo}
end
def UK (k:IntKind) (w:World) (ao:Option Addr) (l:List Int):Prop:=∀ i z,l[i]?=some z→∃ b off,ao=some ⟨b,off,none⟩∧w.cell? ⟨b,off + i,none⟩=some (.int k z)
theorem UK.mono {k:IntKind} {w w':World} {ao:Option Addr} {l:List Int} (h:UK k w ao l) (hb:Below w.heap.size w w'):UK k w' ao l:=by
 intro i s hi;obtain ⟨b,off,e,hc⟩:=h i s hi;exact ⟨b,off,e,(hb.cell (cell_lt hc)).trans hc⟩
def UR (w:World) (ao:Option Addr) (rows:List (List Int)):Prop:=∀ i row,rows[i]?=some row→∃ b off ar cr,ao=some ⟨b,off,none⟩∧w.cell? ⟨b,off + i,none⟩=some (.slice ar row.length cr)∧UK .i8 w ar row
theorem UR.mono {w w':World} {ao:Option Addr} {rows:List (List Int)} (h:UR w ao rows) (hb:Below w.heap.size w w'):UR w' ao rows:=by
 intro i row hi;obtain ⟨b,off,ar,cr,e,hc,hk⟩:=h i row hi;exact ⟨b,off,ar,cr,e,(hb.cell (cell_lt hc)).trans hc,hk.mono hb⟩
theorem noInt_slice (a:Option Addr) (n c:Nat):NoInt (.slice a n c):=fun k z e => by cases e
section
variable {ops : Array Oper} {rest : List Oper} {o : Oper} {a : Act} {Q : Exit → Act → World → Prop}
theorem uq_one {w:World} {n1:Bool} {a1:Option Addr} {l1 c1:Nat} {n2:Bool} {a2:Option Addr} {l2 c2:Nat} {q:Rat} (hr:RatV w (.agg #[.bool n1,.slice a1 l1 c1,.bool n2,.slice a2 l2 c2]) q) :
  UQ (w.alloc (.cells #[.bool n1,.slice a1 l1 c1,.bool n2,.slice a2 l2 c2] 26)) (some ⟨w.heap.size,0,none⟩) [some q]:=by
 have r:Row (w.alloc (.cells #[.bool n1,.slice a1 l1 c1,.bool n2,.slice a2 l2 c2] 26)) w.heap.size 26 [.bool n1,.slice a1 l1 c1,.bool n2,.slice a2 l2 c2]:=heap_alloc_new _ _;intro i o hi
 match i,hi with
 | 0,hi =>
  simp at hi; subst hi;exact ⟨_,0,n1,a1,l1,c1,n2,a2,l2,c2,rfl,⟨r.n4.1,r.n4.2.1,r.n4.2.2.1,r.n4.2.2.2,trivial,trivial,trivial,trivial⟩,hr.mono (bA _ _)⟩
 | i + 1,hi => simp at hi
theorem app_o1 (w W:World) {n1:Bool} {a1:Option Addr} {l1 c1:Nat} {n2:Bool} {a2:Option Addr} {l2 c2:Nat} {q:Rat} (hgd:o.guard=none) (s x:Operand) (ho:o.op=.call { callee:=.builtin .append,args:=#[s,x],argTypes:=#[27,27] })
  (B:Nat) (v:Value) (l:List Qo) (hs:a.eval s=v) (hown:OwnO w B v l) (hB:B≤w.heap.size) (hb:Below B W w) (hr:RatV w (.agg #[.bool n1,.slice a1 l1 c1,.bool n2,.slice a2 l2 c2]) q)
  (hx:a.eval x=.slice (some ⟨w.heap.size,0,none⟩) 1 1) (hl:l.length≤100000)
  (hK:∀ v' w',OwnO w' B v' (l ++ [some q])→Below B W w'→wpList Tryz.prog ops Q rest (a.put o.dst v') w') :
  wpList Tryz.prog ops Q (o :: rest) a (w.alloc (.cells #[.bool n1,.slice a1 l1 c1,.bool n2,.slice a2 l2 c2] 26)):=by
 have hba:=bA w (.cells #[.bool n1,.slice a1 l1 c1,.bool n2,.slice a2 l2 c2] 26);have hsz:=hba.size;obtain ⟨v',w',hr',h1,h2,_⟩:=run_app_o _ W o.type B v l (some q) _ 1 (hown.mono hba) (by omega) (hb.alloc hB _) (uq_one hr) hl;refine wpList_plain hgd fun K hK' => ?_
 unfold Oper.wp;simp [execOp,ho,resolve,invoke,builtin,hs,hx,hr',Result.andThen];exact hK' _ _ (hK v' w' h1 h2)
end
section
variable {P : Program} {ops : Array Oper} {Q : Exit → Act → World → Prop}
def StayK (G:Nat→Prop) (F:World→Value→Prop):Prop:=∀ (W W':World) (v:Value),F W v→Kept G W W'→F W' v
def AllSK (G:Nat→Prop):List (World→Value→Prop)→Prop
 | [] => True
 | F :: r => StayK G F∧AllSK G r
theorem AllSK.get {G:Nat→Prop}:∀ {l:List (World→Value→Prop)} (k:Nat),AllSK G l→StayK G (l.getD k fun _ _ => True)
 | [],_,_ => fun _ _ _ _ _ => trivial
 | _ :: _,0,h => h.1
 | _ :: r,k + 1,h => AllSK.get (l:=r) k h.2
def AllF (Fs:List (World→Value→Prop)) (ds:List (Option Nat)) (T:Nat→Value) (W:World):List Nat→Prop
 | [] => True
 | k :: r => (Fs.getD k fun _ _ => True) W (dv ds T k)∧AllF Fs ds T W r
theorem AllF.mem {Fs:List (World→Value→Prop)} {ds:List (Option Nat)} {T:Nat→Value} {W:World}:∀ {l:List Nat},(∀ k∈l,(Fs.getD k fun _ _ => True) W (dv ds T k))→AllF Fs ds T W l
 | [],_ => trivial
 | k :: r,h => ⟨h k (by simp),AllF.mem fun x hx => h x (by simp [hx])⟩
theorem AllF.at {Fs:List (World→Value→Prop)} {ds:List (Option Nat)} {T:Nat→Value} {W:World}:∀ {l:List Nat} (k:Nat),AllF Fs ds T W l→k∈l→(Fs.getD k fun _ _ => True) W (dv ds T k)
 | [],_,_,h => by simp at h
 | x :: r,k,h,hk => by
  rcases List.mem_cons.1 hk with rfl | hk
  ·exact h.1
  ·exact AllF.at k h.2 hk
end
def RK (G:Nat→Prop) (r:Rat) (W:World) (v:Value):Prop:=∀ W',Kept G W W'→RatV W' v r
theorem RK.rat {G:Nat→Prop} {r:Rat} {W:World} {v:Value} (h:RK G r W v):RatV W v r:=h W (Kept.refl W)
theorem RK.at {G:Nat→Prop} {r:Rat} {W W':World} {v:Value} (h:RK G r W v) (hk:Kept G W W'):RatV W' v r:=h W' hk
structure MX (W:World) (B:Nat) (vA:Value) (rows:List (List Qo)) (ow:List (Value × List Qo)):Prop where
 ex:∃ xs,OwnR W B vA xs∧RowsOf W xs rows∧SepR W xs vA∧LowR B xs∧∀ p∈ow,SepR W xs p.1
 o:∀ p∈ow,OwnO W B p.1 p.2∧Sep vA p.1
 s:ow.Pairwise fun p q => Sep p.1 q.1
theorem MX.nil (W:World) (B:Nat) (n:Nat):MX W B (.slice none 0 0) [] (List.replicate n (.slice none 0 0,[])):=by
 refine ⟨⟨[],OwnR.nil _ _,⟨rfl,fun i row h => by simp at h⟩,SepR.nil _ _,fun x h => by simp at h,fun p _ => SepR.nil _ _⟩,fun p hp => ?_,?_⟩
 ·obtain ⟨_,rfl⟩:=List.mem_replicate.1 hp;exact ⟨OwnO.nil _ _,sep_nil _⟩
 ·exact List.pairwise_replicate.2 (.inr (sep_nil _))
section
variable {W W' : World} {B : Nat} {vA : Value} {rows : List (List Qo)} {ow : List (Value × List Qo)}
theorem MX.kept {G:Nat→Prop} (h:MX W B vA rows ow) (hk:Kept G W W') (hp:NoG G W) (hG:∀ b,G b→b < B):MX W' B vA rows ow:=by
 obtain ⟨⟨xs,h1,h2,h3,h4,h5⟩,ho,hs⟩:=h;have out:∀ (b:Nat),B≤b→¬ G b:=fun b hb hg => by have:=hG b hg; omega
 exact ⟨⟨xs,h1.kept hk (fun b e => out b (h1.lt b e).1),h2.kept hk hp (fun x hx b e => out b (h4 x hx b e)),h3.mono hk.size,h4,fun p hp' => (h5 p hp').mono hk.size⟩,
  fun p hp' => ⟨(ho p hp').1.kept hk hp fun b e => out b ((ho p hp').1.lt b e).1,(ho p hp').2⟩,hs⟩
theorem MX.mono (h:MX W B vA rows ow) (hb:Below W.heap.size W W'):MX W' B vA rows ow:=by
 obtain ⟨⟨xs,h1,h2,h3,h4,h5⟩,ho,hs⟩:=h;have hk:Kept (fun _ => False) W W':=.of_below hb;exact ⟨⟨xs,h1.kept hk (fun _ _ h => h),h2.mono hb,h3.mono hb.size,h4,fun p hp => (h5 p hp).mono hb.size⟩,fun p hp => ⟨(ho p hp).1.mono hb,(ho p hp).2⟩,hs⟩
theorem MX.own (h:MX W B vA rows ow) {p:Value × List Qo} (hp:p∈ow):OwnO W B p.1 p.2:=(h.o p hp).1
theorem MX.um (h:MX W B vA rows ow):∃ ao cap,vA=.slice ao rows.length cap∧UM W ao rows:=by
 obtain ⟨⟨xs,h1,h2,_⟩,_,_⟩:=h;exact h1.1.um h2
end
theorem ownsRow_set {w:World} {B e s g n cap m k:Nat} {xs:List Value} {x:Value} (h:w.ownsRow B e s (.slice (some ⟨g,0,none⟩) n cap) m xs):(w.setCell ⟨g,k,none⟩ x).ownsRow B e s (.slice (some ⟨g,0,none⟩) n cap) m (xs.set k x):=by
 obtain ⟨hl,hr⟩:=h;refine ⟨by simp [hl],?_⟩;rcases hr with ⟨hv,_⟩ | ⟨g',cap',cur,hv,hB,hg,hn,hm,hs,ht⟩
 ·cases hv
 ·cases hv
  refine .inr ⟨g,cap,cur.setIfInBounds k x,rfl,hB,?_,hn,hm,by simp [hs],?_⟩
  ·rw [setCell_eq_setRow w g k cur e (0,0) x hg,setRow_heap w g cur _ e _ hg]
  ·rw [Array.toList_setIfInBounds,List.take_set,ht]
theorem noI_set {w:World} {B e s g n cap m k:Nat} {xs:List Value} {x:Value} (hn:NoI w (.slice (some ⟨g,0,none⟩) n cap)) (h:w.ownsRow B e s (.slice (some ⟨g,0,none⟩) n cap) m xs) (hx:NoInt x):NoI (w.setCell ⟨g,k,none⟩ x) (.slice (some ⟨g,0,none⟩) n cap):=by
 obtain ⟨hl,hr⟩:=h;rcases hr with ⟨hv,_⟩ | ⟨g',cap',cur,hv,hB,hg,_⟩
 ·cases hv
 ·cases hv
  intro g' hg' cur' t fr hc u hu;simp only [Value.ownBlock,Option.some.injEq] at hg';subst hg';rw [setCell_eq_setRow w g k cur e (0,0) x hg,setRow_heap w g cur _ e _ hg] at hc;simp only [Option.some.injEq,Obj.cells.injEq] at hc;obtain ⟨rfl,_,_⟩:=hc;rw [Array.toList_setIfInBounds] at hu;rcases List.mem_or_eq_of_mem_set hu with hu | rfl
  ·exact hn g rfl cur e _ hg u hu
  ·exact hx
theorem OwnO.put {w:World} {B g i n cap:Nat} {l:List Qo} {n1:Bool} {a1:Option Addr} {l1 c1:Nat} {n2:Bool} {a2:Option Addr} {l2 c2:Nat} {o:Qo} (h:OwnO w B (.slice (some ⟨g,0,none⟩) n cap) l) (hi:i < l.length) (hv:QV w (.agg #[.bool n1,.slice a1 l1 c1,.bool n2,.slice a2 l2 c2]) o) :
  OwnO ((((w.setCell ⟨g,i * 4,none⟩ (.bool n1)).setCell ⟨g,i * 4 + 1,none⟩ (.slice a1 l1 c1)).setCell ⟨g,i * 4 + 2,none⟩ (.bool n2)).setCell ⟨g,i * 4 + 3,none⟩ (.slice a2 l2 c2)) B (.slice (some ⟨g,0,none⟩) n cap) (l.set i o) ∧
  Grw w ((((w.setCell ⟨g,i * 4,none⟩ (.bool n1)).setCell ⟨g,i * 4 + 1,none⟩ (.slice a1 l1 c1)).setCell ⟨g,i * 4 + 2,none⟩ (.bool n2)).setCell ⟨g,i * 4 + 3,none⟩ (.slice a2 l2 c2)) (.slice (some ⟨g,0,none⟩) n cap) (.slice (some ⟨g,0,none⟩) n cap):=by
 obtain ⟨xs,h1,h2,h3⟩:=h;have hno:NoG (fun k => k=g) w:=fun k hk cur t fr hc => by subst hk; exact h2 k rfl cur t fr hc
 have hk:Kept (fun k => k=g) w ((((w.setCell ⟨g,i * 4,none⟩ (.bool n1)).setCell ⟨g,i * 4 + 1,none⟩ (.slice a1 l1 c1)).setCell ⟨g,i * 4 + 2,none⟩ (.bool n2)).setCell ⟨g,i * 4 + 3,none⟩ (.slice a2 l2 c2)) :=
  (((((Kept.refl w:Kept (fun k => k=g) w w)).setCell (p:=⟨g,i * 4,none⟩) rfl _).setCell (p:=⟨g,i * 4 + 1,none⟩) rfl _).setCell (p:=⟨g,i * 4 + 2,none⟩) rfl _).setCell (p:=⟨g,i * 4 + 3,none⟩) rfl _
 have b1:NoInt (.bool n1):=by intro k z e; cases e
 have b2:NoInt (.bool n2):=by intro k z e; cases e
 have r1:=ownsRow_set (k:=i * 4) (x:=.bool n1) h1;have r2:=ownsRow_set (k:=i * 4 + 1) (x:=.slice a1 l1 c1) r1;have r3:=ownsRow_set (k:=i * 4 + 2) (x:=.bool n2) r2;have r4:=ownsRow_set (k:=i * 4 + 3) (x:=.slice a2 l2 c2) r3;have n4:=noI_set (k:=i * 4 + 3) (x:=.slice a2 l2 c2) (noI_set (k:=i * 4 + 2) (x:=.bool n2) (noI_set (k:=i * 4 + 1) (x:=.slice a1 l1 c1) (noI_set (k:=i * 4) (x:=.bool n1) h2 h1 b1) r1 (noInt_slice _ _ _)) r2 b2) r3 (noInt_slice _ _ _);have hxl:xs.length=l.length * 4:=h1.1;refine ⟨⟨_,by rw [List.length_set]; exact r4,n4,?_⟩,⟨⟨hk.os,hk.tape,hk.output,hk.size,fun k hk1 hk2 => hk.block k hk1 fun e => hk2 (by rw [e]; rfl)⟩,h2,.inl rfl⟩⟩;intro j q hj
 by_cases hji:j=i
 ·subst hji;rw [List.getElem?_set_self hi] at hj
  cases hj
  refine ⟨n1,a1,l1,c1,n2,a2,l2,c2,?_,?_,?_,?_,hv.kept hk hno⟩
  ·rw [List.getElem?_set_ne (by omega),List.getElem?_set_ne (by omega),List.getElem?_set_ne (by omega),List.getElem?_set_self (by omega)]
  ·rw [List.getElem?_set_ne (by omega),List.getElem?_set_ne (by omega),List.getElem?_set_self (by simp; omega)]
  ·rw [List.getElem?_set_ne (by omega),List.getElem?_set_self (by simp; omega)]
  ·rw [List.getElem?_set_self (by simp; omega)]
 ·rw [List.getElem?_set_ne (fun e => hji e.symm)] at hj;obtain ⟨m1,b1,k1,d1,m2,b2,k2,d2,e0,e1,e2,e3,hr⟩:=h3 j q hj;have hs:∀ m,m < 4→((((xs.set (i * 4) (.bool n1)).set (i * 4 + 1) (.slice a1 l1 c1)).set (i * 4 + 2) (.bool n2)).set (i * 4 + 3) (.slice a2 l2 c2))[j * 4 + m]?=xs[j * 4 + m]?:=by
   intro m hm;rw [List.getElem?_set_ne (by omega),List.getElem?_set_ne (by omega),List.getElem?_set_ne (by omega),List.getElem?_set_ne (by omega)]
  exact ⟨m1,b1,k1,d1,m2,b2,k2,d2,(hs 0 (by omega)).trans e0,(hs 1 (by omega)).trans e1,(hs 2 (by omega)).trans e2,(hs 3 (by omega)).trans e3,hr.kept hk hno⟩
end Go.Proofs.YtaedmaifkfhpfaaGreatDoor
