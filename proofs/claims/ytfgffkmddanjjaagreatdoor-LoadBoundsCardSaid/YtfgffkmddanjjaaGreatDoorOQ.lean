/-
  Bounds and laws of fractions, plain.
-/
import Derived.Test.YtfgffkmddanjjaaGreatDoorQ7
import Derived.Test.YtfgffkmddanjjaaGreatDoorQ1
import Derived.Test.YtfgffkmddanjjaaGreatDoorI8
set_option linter.unusedVariables false
set_option linter.unusedSimpArgs false
namespace Go.Proofs.YtfgffkmddanjjaaGreatDoor
open Go.RowKit
def NoInt (u:Value):Prop:=∀ k z,u ≠ .int k z
def NoI (w:World) (v:Value):Prop:=∀ g,v.ownBlock=some g->∀ cur t fr,w.heap[g]?=some (.cells cur t fr)->∀ u∈cur.toList,NoInt u
theorem zero_mem {z:Array Value} {n:Nat} {u:Value} (h:u∈(Builtin.zeroCells z n).toList):u∈z.toList:=by
 unfold Builtin.zeroCells at h;simp only [Array.toList_map,List.mem_map] at h;obtain ⟨i,hi,rfl⟩:=h;have hpos:0 < z.size:=by
  simp at hi;rcases Nat.eq_zero_or_pos z.size with h0 | h0
  ·rw [h0] at hi; omega
  ·exact h0
 have hlt:=Nat.mod_lt i hpos;rw [getElem!_pos z _ hlt];exact Array.mem_toList_iff.2 (Array.getElem_mem hlt)
theorem noI_alloc (w:World) (cur:Array Value) (e:TypeId) (n c:Nat) (h:∀ u∈cur.toList,NoInt u):NoI (w.alloc (.cells cur e)) (.slice (some ⟨w.heap.size,0,none⟩) n c):=by
 intro g hg cur' t fr hc;simp only [Value.ownBlock,Option.some.injEq] at hg;subst hg;rw [heap_alloc_new] at hc;simp only [Option.some.injEq,Obj.cells.injEq] at hc;obtain ⟨rfl,_,_⟩:=hc;exact h
section
variable {P : Program} {ops : Array Oper} {rest : List Oper} {o : Oper} {a : Act} {Q : Exit → Act → World → Prop}
theorem run_append_noI (w:World) (base:Nat) (t ty e:TypeId) (i:TypeInfo) (z:Value) (ht:P.underlying t=some (.slice e)) (hi:P.info? e=some i) (hz:i.zero=some z)
  (hzs:z.cells.size=i.size) (hsz:0 < i.size) (v:Value) (n:Nat) (xs:List Value) (hown:w.ownsRow base e i.size v n xs) (hp:NoI w v)
  (a:Addr) (m c:Nat) (news:List Value) (hl:news.length=m * i.size) (hnews:∀ j u,news[j]?=some u->w.cell? (a.add j)=some u) (h1:∀ u∈news,u.oneCell'=true)
  (h63:n + m<=maxLen) (hbytes:(n + m) * i.bytes<=140737488355328) (hbase:base<=w.heap.size) (hm:0 < m) (hzn:∀ u∈z.cells.toList,NoInt u) (hnn:∀ u∈news,NoInt u) :
  ∃ v' w',(Builtin.append_ #[t,t] ty #[v,.slice (some a) m c]).run P w=.ok v' w'/\w'.ownsRow base e i.size v' (n + m) (xs ++ news)/\w.grownBy w' v.ownBlock/\NoI w' v':=by
 obtain ⟨v',w',hr,h2,h3,h4⟩:=run_append_own (P:=P) w base t ty e i z i.size i.bytes ht hi hz rfl rfl hzs hsz v n xs hown a m c news hl hnews h1 h63 hbytes hbase;refine ⟨v',w',hr,h2,h3,?_⟩;have hm63:n + m<=9223372036854775807:=by simp only [maxLen] at h63; omega
 rcases hown.2 with ⟨rfl,rfl⟩ | ⟨g,cap,cur,rfl,hbg,hg,hnc,hcm,hcs,htake⟩
 ·have hr2:=run_append_nil (P:=P) w t ty e i z ht hi hz a m c news hl hnews hm (by omega) (by have hb:=hbytes; simp only [Nat.zero_add] at hb; omega);have he:=hr.symm.trans hr2;simp only [Result.ok.injEq] at he;obtain ⟨rfl,rfl⟩:=he;refine noI_alloc w.drew _ e _ _ λ u hu => ?_
  simp only [Array.toList_append,List.mem_append] at hu;rcases hu with hu | hu
  ·exact hnn u (by simpa using hu)
  ·exact hzn u (zero_mem hu)
 ·by_cases hroom:n + m<=cap
  ·have hfit:n * i.size + news.length<=cur.size:=by rw [hl,hcs,<- Nat.add_mul]; exact Nat.mul_le_mul_right _ hroom
   have hr2:=run_append_room (P:=P) w t ty e i ht hi g n cap cur hg a m c news hl hnews h1 hroom hfit;have he:=hr.symm.trans hr2;simp only [Result.ok.injEq] at he;obtain ⟨rfl,rfl⟩:=he;intro g' hg' cur' t' fr' hc';simp only [Value.ownBlock,Option.some.injEq] at hg';subst hg';rw [setRow_heap w g cur _ e _ hg] at hc';simp only [Option.some.injEq,Obj.cells.injEq] at hc';obtain ⟨rfl,_,_⟩:=hc';have hcur:=hp g rfl cur e _ hg;intro u hu;simp only [List.mem_append] at hu;rcases hu with (hu | hu) | hu
   ·exact hcur u (List.mem_of_mem_take hu)
   ·exact hnn u hu
   ·exact hcur u (List.mem_of_mem_drop hu)
  ·have holds:∀ j u,xs[j]?=some u->w.cell? ((⟨g,0,none⟩:Addr).add j)=some u:=hown.cells (g:=g) rfl;have hr2:=run_append_grow (P:=P) w t ty e i z ht hi hz ⟨g,0,none⟩ n cap xs hown.1 holds a m c news hl hnews (by omega) (by omega) (growslice_fits (by omega) hbytes);have he:=hr.symm.trans hr2;simp only [Result.ok.injEq] at he;obtain ⟨rfl,rfl⟩:=he;have hcur:=hp g rfl cur e _ hg;refine noI_alloc w.drew _ e _ _ λ u hu => ?_
   simp only [Array.toList_append,List.mem_append] at hu;rcases hu with (hu | hu) | hu
   ·have:u∈xs:=by simpa using hu
    rw [<- htake] at this;exact hcur u (List.mem_of_mem_take this)
   ·exact hnn u (by simpa using hu)
   ·exact hzn u (zero_mem hu)
end
theorem U.grown {w w':World} {v:Value} {ao:Option Addr} {l:List Nat} (h:U w ao l) (hg:w.grownBy w' v.ownBlock) (hp:NoI w v):U w' ao l:=by
 intro i hi;obtain ⟨b,off,e,hc⟩:=h i hi;refine ⟨b,off,e,?_⟩;have hlt:b < w.heap.size:=cell_lt hc
 by_cases hb:v.ownBlock=some b
 ·exfalso
  unfold World.cell? at hc;simp only at hc
  cases ho:w.heap[b]? with
  | none => rw [ho] at hc; simp at hc
  | some ob =>
   rw [ho] at hc
   cases ob with
   | cells cur t fr =>
    simp only [Option.isSome_none,Bool.false_eq_true,if_false] at hc;exact hp b hb cur t fr ho _ (by have:=Array.mem_of_getElem? hc; exact Array.mem_toList_iff.2 this) _ _ rfl
   | _ => simp at hc
 ·exact hg.cell (a:=⟨b,off + i,none⟩) hc (λ e => hb e.symm)
theorem IntV.grown {w w':World} {v u:Value} {z:Int} (h:IntV w u z) (hg:w.grownBy w' v.ownBlock) (hp:NoI w v):IntV w' u z:=by
 obtain ⟨n1,ao1,L1,c1,rfl,Hn1,HL1,HB1,hc1,hl1,hU1⟩:=h;exact ⟨n1,ao1,L1,c1,rfl,Hn1,HL1,HB1,hc1,hl1,hU1.grown hg hp⟩
theorem RatV.grown {w w':World} {v u:Value} {r:Rat} (h:RatV w u r) (hg:w.grownBy w' v.ownBlock) (hp:NoI w v):RatV w' u r:=by
 obtain ⟨n1,a1,l1,c1,n2,a2,l2,c2,e,h1,h2⟩:=h;exact ⟨n1,a1,l1,c1,n2,a2,l2,c2,e,h1.grown hg hp,h2.grown hg hp⟩
def OwnQ (w:World) (B:Nat) (v:Value) (l:List Rat):Prop :=
 ∃ xs:List Value,w.ownsRow B 32 4 v l.length xs/\NoI w v /\
  ∀ (i:Nat) (r:Rat),l[i]?=some r->∃ (n1:Bool) (a1:Option Addr) (l1 c1:Nat) (n2:Bool) (a2:Option Addr) (l2 c2:Nat),
   xs[i * 4]?=some (.bool n1)/\xs[i * 4 + 1]?=some (.slice a1 l1 c1)/\xs[i * 4 + 2]?=some (.bool n2)/\xs[i * 4 + 3]?=some (.slice a2 l2 c2)/\RatV w (.agg #[.bool n1,.slice a1 l1 c1,.bool n2,.slice a2 l2 c2]) r
theorem OwnQ.nil (w:World) (B:Nat):OwnQ w B (.slice none 0 0) [] :=
 ⟨[],World.ownsRow_nil _ _ _ _,λ g hg => by simp [Value.ownBlock] at hg,λ i r h => by simp at h⟩
theorem ownsRow_below {w w':World} {B e size n:Nat} {v:Value} {xs:List Value} (h:w.ownsRow B e size v n xs) (hb:BH w w'):w'.ownsRow B e size v n xs:=by
 refine ⟨h.1,h.2.imp id ?_⟩;rintro ⟨g,cap,cur,hv,hB,hg,r⟩;have hlt:g < w.heap.size:=(Array.getElem?_eq_some_iff.1 hg).1;exact ⟨g,cap,cur,hv,hB,(hb.block _ hlt).trans hg,r⟩
theorem OwnQ.mono {w w':World} {B:Nat} {v:Value} {l:List Rat} (h:OwnQ w B v l) (hb:BH w w'):OwnQ w' B v l:=by
 obtain ⟨xs,h1,h2,h3⟩:=h;refine ⟨xs,ownsRow_below h1 hb,?_,?_⟩
 ·intro g hg cur t fr hc;have hlt:=(h1.lt g hg).2;exact h2 g hg cur t fr ((hb.block _ hlt).symm.trans hc)
 ·intro i r hi;obtain ⟨n1,a1,l1,c1,n2,a2,l2,c2,e0,e1,e2,e3,hr⟩:=h3 i r hi;exact ⟨n1,a1,l1,c1,n2,a2,l2,c2,e0,e1,e2,e3,hr.mono hb⟩
theorem OwnQ.read {w:World} {B:Nat} {v:Value} {l:List Rat} (h:OwnQ w B v l):∃ ao cap,v=.slice ao l.length cap/\UQ w ao (l.map some):=by
 obtain ⟨xs,h1,h2,h3⟩:=h;rcases h1.2 with ⟨rfl,hn⟩ | ⟨g,cap,cur,rfl,hB,hg,hnc,hcm,hcs,htake⟩
 ·have:l=[]:=List.eq_nil_of_length_eq_zero hn;subst this;exact ⟨none,0,rfl,UQ.nil _ _⟩
 ·refine ⟨some ⟨g,0,none⟩,cap,rfl,?_⟩;intro i o hi;rw [List.getElem?_map] at hi;obtain ⟨r,hr,rfl⟩:=Option.map_eq_some_iff.1 hi;obtain ⟨n1,a1,l1,c1,n2,a2,l2,c2,e0,e1,e2,e3,hq⟩:=h3 i r hr;have hc:∀ j u,xs[j]?=some u->w.cell? ⟨g,0 + j,none⟩=some u:=by
   intro j u hu;have:=h1.cells (g:=g) rfl j u hu;have ha:(⟨g,0,none⟩:Addr).add j=⟨g,0 + j,none⟩:=by
    unfold Addr.add; split
    ·subst j; rfl
    ·rfl
   rw [ha] at this; exact this
  exact ⟨g,0,n1,a1,l1,c1,n2,a2,l2,c2,rfl,⟨hc _ _ e0,hc _ _ e1,hc _ _ e2,hc _ _ e3,trivial,trivial,trivial,trivial⟩,hq⟩
theorem Tryz.info32:(Tryz.prog.info? 32).map (λ i => (i.zero,i.size,i.bytes))=some (some (.agg #[.bool false,.slice none 0 0,.bool false,.slice none 0 0]),4,64):=by kernel_rfl
section
variable {ops : Array Oper} {rest : List Oper} {o : Oper} {a : Act} {Q : Exit → Act → World → Prop}
end
theorem heap_lt {w:World} {g:Nat} {o:Obj} (h:w.heap[g]?=some o):g < w.heap.size:=by
 by_cases hb:g < w.heap.size
 ·exact hb
 ·rw [Array.getElem?_eq_none (by omega)] at h; cases h
structure Kept (G:Nat->Prop) (w w':World):Prop where
 os:w'.os=w.os
 tape:w'.tape=w.tape
 output:w'.output=w.output
 size:w.heap.size<=w'.heap.size
 block:∀ k,k < w.heap.size->¬ G k->w'.heap[k]?=w.heap[k]?
section
variable {G : Nat → Prop}
theorem Kept.refl (w:World):Kept G w w:=⟨rfl,rfl,rfl,nl,λ _ _ _ => rfl⟩
theorem Kept.trans {a b c:World} (h:Kept G a b) (k:Kept G b c):Kept G a c :=
 ⟨k.os.trans h.os,k.tape.trans h.tape,k.output.trans h.output,Nat.le_trans h.size k.size,λ i hi hg => (k.block i (Nat.lt_of_lt_of_le hi h.size) hg).trans (h.block i hi hg)⟩
theorem Kept.of_below {w w':World} (h:BH w w'):Kept G w w':=⟨h.os,h.tape,h.output,h.size,λ k hk _ => h.block k hk⟩
theorem Kept.drew {a w:World} (h:Kept G a w):Kept G a w.drew:=⟨h.os,h.tape,h.output,h.size,h.block⟩
theorem Kept.alloc {a w:World} (h:Kept G a w) (o:Obj):Kept G a (w.alloc o):=h.trans (.of_below (bA w o))
theorem Kept.setCell {a w:World} (h:Kept G a w) {p:Addr} (hp:G p.block) (u:Value):Kept G a (w.setCell p u) :=
 h.trans ⟨rfl,rfl,rfl,by simp [World.setCell],λ k _ hg => Below.heap_setCell _ _ _ _ (λ e => hg (e ▸ hp))⟩
theorem Kept.setRow {a w:World} (h:Kept G a w) {g:Nat} (hp:G g) (cs:Array Value):Kept G a (w.setRow g cs) :=
 h.trans ⟨rfl,rfl,rfl,by simp [World.setRow],λ k _ hg => setRow_other w g k cs (λ e => hg (e ▸ hp))⟩
theorem Kept.below {B:Nat} {w w':World} (h:Kept G w w') (hG:∀ b,G b->B<=b) (hB:B<=w.heap.size):Below B w w' :=
 ⟨h.os,h.tape,h.output,h.size,λ k hk => h.block k (by omega) (λ hg => by have:=hG k hg; omega)⟩
theorem Kept.to {w w':World} (h:Kept (λ _ => False) w w'):BH w w':=⟨h.os,h.tape,h.output,h.size,λ k hk => h.block k hk (λ h => h)⟩
theorem Kept.cell {w w':World} (h:Kept G w w') {p:Addr} {v:Value} (hc:w.cell? p=some v) (hp:¬ G p.block):w'.cell? p=some v :=
 (World.cell?_of_block (w:=w) (h.block p.block (cell_lt hc) hp)).trans hc
theorem Kept.heap {w w':World} (h:Kept G w w') {g:Nat} {o:Obj} (hc:w.heap[g]?=some o) (hp:¬ G g):w'.heap[g]?=some o :=
 (h.block g (heap_lt hc) hp).trans hc
end
def Row (w:World) (g:Nat) (E:TypeId) (xs:List Value):Prop:=w.heap[g]?=some (.cells xs.toArray E (0,0))
theorem Row.lt {w:World} {g:Nat} {E:TypeId} {xs:List Value} (h:Row w g E xs):g < w.heap.size:=heap_lt h
theorem Row.mono {w w':World} {G:Nat->Prop} {g:Nat} {E:TypeId} {xs:List Value} (h:Row w g E xs) (hk:Kept G w w') (hg:¬ G g):Row w' g E xs:=hk.heap h hg
theorem Row.below {w w':World} {g:Nat} {E:TypeId} {xs:List Value} (h:Row w g E xs) (hk:BH w w'):Row w' g E xs:=(hk.block g h.lt).trans h
theorem Row.drew {w:World} {g:Nat} {E:TypeId} {xs:List Value} (h:Row w g E xs):Row w.drew g E xs:=h
theorem Row.cell {w:World} {g:Nat} {E:TypeId} {xs:List Value} (h:Row w g E xs) {k:Nat} (hk:k < xs.length):w.cell? ⟨g,k,none⟩=some xs[k]:=by
 unfold Row at h;simp [World.cell?,h,hk]
theorem Row.free {w:World} {g:Nat} {E:TypeId} {xs:List Value} (h:Row w g E xs) (k:Nat):w.frozen? ⟨g,k,none⟩=false:=by
 unfold Row at h;simp [World.frozen?,h]
theorem Row.set {w:World} {g:Nat} {E:TypeId} {xs:List Value} (h:Row w g E xs) (k:Nat) (x:Value):Row (w.setCell ⟨g,k,none⟩ x) g E (xs.set k x):=by
 unfold Row at *;rw [setCell_eq_setRow w g k _ E (0,0) x h,setRow_heap w g _ _ E _ h];simp
theorem Row.n3 {w:World} {g:Nat} {E:TypeId} {x y z:Value} (h:Row w g E [x,y,z]):w.cell? ⟨g,0,none⟩=some x/\w.cell? ⟨g,1,none⟩=some y/\w.cell? ⟨g,2,none⟩=some z :=
 ⟨h.cell (k:=0) (by simp),h.cell (k:=1) (by simp),h.cell (k:=2) (by simp)⟩
theorem Row.n4 {w:World} {g:Nat} {E:TypeId} {x y z u:Value} (h:Row w g E [x,y,z,u]):w.cell? ⟨g,0,none⟩=some x/\w.cell? ⟨g,1,none⟩=some y/\w.cell? ⟨g,2,none⟩=some z/\w.cell? ⟨g,3,none⟩=some u :=
 ⟨h.cell (k:=0) (by simp),h.cell (k:=1) (by simp),h.cell (k:=2) (by simp),h.cell (k:=3) (by simp)⟩
end Go.Proofs.YtfgffkmddanjjaaGreatDoor
namespace Rq
theorem bd_divInt {x d:Int} (hd:d ≠ 0):(Rat.divInt x d).num.natAbs<=x.natAbs/\(Rat.divInt x d).den<=d.natAbs:=by
 have h1:=num_of (p:=x) hd;have h2:=den_of (p:=x) hd
 constructor
 ·rw [<- h1,Int.natAbs_tdiv]; exact Nat.div_le_self _ _
 ·have:(Rat.divInt x d).den=(d.tdiv (gS x d)).natAbs:=by rw [h2,Int.natAbs_natCast]
  rw [this,Int.natAbs_tdiv]; exact Nat.div_le_self _ _
def Bd (r:Rat) (N D:Nat):Prop:=r.num.natAbs<=N/\r.den<=D
theorem bd_of {x d:Int} {N D:Nat} (hd:d ≠ 0) (h1:x.natAbs<=N) (h2:d.natAbs<=D):Bd (Rat.divInt x d) N D :=
 ⟨Nat.le_trans (bd_divInt hd).1 h1,Nat.le_trans (bd_divInt hd).2 h2⟩
theorem mul_bd {x y:Int} {A B:Nat} (h1:x.natAbs<=A) (h2:y.natAbs<=B):(x * y).natAbs<=A * B:=by
 rw [Int.natAbs_mul]; exact Nat.mul_le_mul h1 h2
theorem dd_ne' (a b:Rat):(a.den:Int) * (b.den:Int) ≠ 0:=Int.mul_ne_zero (den_ne a) (den_ne b)
theorem bd_dd {a b:Rat} {N M D E:Nat} (h1:Bd a N D) (h2:Bd b M E):((a.den:Int) * (b.den:Int)).natAbs<=D * E :=
 mul_bd (by rw [Int.natAbs_natCast]; exact h1.2) (by rw [Int.natAbs_natCast]; exact h2.2)
theorem bd_x {a b:Rat} {N M D E:Nat} (h1:Bd a N D) (h2:Bd b M E):(a.num * (b.den:Int)).natAbs<=N * E :=
 mul_bd h1.1 (by rw [Int.natAbs_natCast]; exact h2.2)
theorem bd_mul {a b:Rat} {N M D E:Nat} (h1:Bd a N D) (h2:Bd b M E):Bd (a * b) (N * M) (D * E):=by
 rw [<- mul_eq];exact bd_of (dd_ne' a b) (mul_bd h1.1 h2.1) (bd_dd h1 h2)
end Rq
namespace Du
def sm:Nat->(Nat->Rat)->Rat
 | 0,_ => 0
 | n + 1,f => sm n f + f n
theorem sm_add (n:Nat) (f g:Nat->Rat):sm n (λ k => f k + g k)=sm n f + sm n g:=by
 induction n with
 | zero => simp only [sm]; grind
 | succ n ih => simp only [sm,ih]; grind
theorem sm_sub (n:Nat) (f g:Nat->Rat):sm n (λ k => f k - g k)=sm n f - sm n g:=by
 induction n with
 | zero => simp only [sm]; grind
 | succ n ih => simp only [sm,ih]; grind
theorem sm_mul (n:Nat) (c:Rat) (f:Nat->Rat):sm n (λ k => c * f k)=c * sm n f:=by
 induction n with
 | zero => simp only [sm]; grind
 | succ n ih => simp only [sm,ih]; grind
theorem sm_zero (n:Nat):sm n (λ _ => 0)=0:=by
 induction n with
 | zero => rfl
 | succ n ih => simp only [sm,ih]; grind
theorem sm_congr (n:Nat) (f g:Nat->Rat) (h:∀ k,k < n->f k=g k):sm n f=sm n g:=by
 induction n with
 | zero => rfl
 | succ n ih => simp only [sm]; rw [ih (λ k hk => h k (by omega)),h n (by omega)]
theorem sm_le (n:Nat) (f g:Nat->Rat) (h:∀ k,k < n->f k<=g k):sm n f<=sm n g:=by
 induction n with
 | zero => simp only [sm]; grind
 | succ n ih => simp only [sm]; have:=ih (λ k hk => h k (by omega)); have:=h n (by omega); grind
theorem sm_nonneg (n:Nat) (f:Nat->Rat) (h:∀ k,k < n->0<=f k):0<=sm n f:=by
 have:=sm_le n (λ _ => 0) f h
 rwa [sm_zero] at this
theorem sm_swap (m n:Nat) (y x:Nat->Rat) (A:Nat->Nat->Rat):sm m (λ i => y i * sm n (λ k => A i k * x k))=sm n (λ k => x k * sm m (λ i => A i k * y i)):=by
 induction m with
 | zero =>
  show (0:Rat)=sm n (λ k => x k * 0)
  exact (sm_zero n).symm.trans (sm_congr _ _ _ λ k _ => by grind)
 | succ m ih =>
  simp only [sm];rw [ih,<- sm_mul,<- sm_add];exact sm_congr _ _ _ λ k _ => by grind
structure Sol (m n:Nat) (A:Nat->Nat->Rat) (b x:Nat->Rat):Prop where
 pos:∀ k,k < n->0<=x k
 row:∀ i,i < m->sm n (λ k => A i k * x k)<=b i
structure Pri (m n:Nat) (A:Nat->Nat->Rat) (c y:Nat->Rat):Prop where
 pos:∀ i,i < m->0<=y i
 col:∀ k,k < n->c k<=sm m (λ i => A i k * y i)
section
variable {m n : Nat} {A : Nat → Nat → Rat} {b c x y : Nat → Rat}
theorem gap_eq:sm m (λ i => b i * y i) - sm n (λ k => c k * x k)=sm m (λ i => y i * (b i - sm n (λ k => A i k * x k))) + sm n (λ k => x k * (sm m (λ i => A i k * y i) - c k)):=by
 have e1:sm m (λ i => y i * (b i - sm n (λ k => A i k * x k)))=sm m (λ i => b i * y i) - sm m (λ i => y i * sm n (λ k => A i k * x k)):=by
  rw [<- sm_sub]; exact sm_congr _ _ _ λ k _ => by grind
 have e2:sm n (λ k => x k * (sm m (λ i => A i k * y i) - c k))=sm n (λ k => x k * sm m (λ i => A i k * y i)) - sm n (λ k => c k * x k):=by
  rw [<- sm_sub]; exact sm_congr _ _ _ λ k _ => by grind
 rw [e1,e2,sm_swap]
 grind
theorem row_pos (hs:Sol m n A b x) (hp:Pri m n A c y):∀ i,i < m->0<=y i * (b i - sm n (λ k => A i k * x k)):=λ i hi =>
 Rat.mul_nonneg (hp.pos i hi) (by have:=hs.row i hi; grind)
theorem col_pos (hs:Sol m n A b x) (hp:Pri m n A c y):∀ k,k < n->0<=x k * (sm m (λ i => A i k * y i) - c k):=λ k hk =>
 Rat.mul_nonneg (hs.pos k hk) (by have:=hp.col k hk; grind)
theorem weak (hs:Sol m n A b x) (hp:Pri m n A c y):0<=sm m (λ i => b i * y i) - sm n (λ k => c k * x k):=by
 rw [gap_eq (A:=A)];have h1:=sm_nonneg m _ (row_pos hs hp);have h2:=sm_nonneg n _ (col_pos hs hp)
 grind
theorem ray_none (hx:∀ k,k < n->0<=x k) (hr:∀ i,i < m->sm n (λ k => A i k * x k)<=0) (hc:0 < sm n (λ k => c k * x k)) (hp:Pri m n A c y):False:=by
 have hs:Sol m n A (λ _ => 0) x:=⟨hx,hr⟩;have h:=weak hs hp;have e:sm m (λ i => (0:Rat) * y i)=0:=(sm_congr m _ (λ _ => 0) λ k _ => by grind).trans (sm_zero m);rw [e] at h
 grind
end
def dotR:List Rat->List Rat->Rat
 | a :: l,b :: m => a * b + dotR l m
 | _,_ => 0
end Du
namespace Go.Proofs.YtfgffkmddanjjaaGreatDoor
open Go.RowKit
section
variable {P : Program} {ops : Array Oper} {Q : Exit → Act → World → Prop}
theorem Kept.wide {G H:Nat->Prop} {w w':World} (h:Kept G w w') (hG:∀ b,G b->H b):Kept H w w':=⟨h.os,h.tape,h.output,h.size,λ k hk hn => h.block k hk λ hg => hn (hG k hg)⟩
def dv (ds:List (Option Nat)) (T:Nat->Value) (k:Nat):Value:=((ds.getD k none).map T).getD undef
def AllD (Fs:List (World->Value->Prop)) (ds:List (Option Nat)) (T:Nat->Value) (W:World):List Nat->Prop
 | [] => True
 | k :: r => (Fs.getD k λ _ _ => True) W (dv ds T k)/\AllD Fs ds T W r
theorem AllD.mem {Fs:List (World->Value->Prop)} {ds:List (Option Nat)} {T:Nat->Value} {W:World}:∀ {l:List Nat},(∀ k∈l,(Fs.getD k λ _ _ => True) W (dv ds T k))->AllD Fs ds T W l
 | [],_ => trivial
 | k :: r,h => ⟨h k (by simp),AllD.mem λ x hx => h x (by simp [hx])⟩
theorem AllD.of {Fs:List (World->Value->Prop)} {ds:List (Option Nat)} {T:Nat->Value} {W:World}:∀ {l:List Nat} (k:Nat),AllD Fs ds T W l->k∈l->(Fs.getD k λ _ _ => True) W (dv ds T k)
 | [],_,_,h => by simp at h
 | x :: r,k,h,hk => by
  rcases List.mem_cons.1 hk with rfl | hk
  ·exact h.1
  ·exact AllD.of k h.2 hk
theorem AllD.at {Fs:List (World->Value->Prop)} {ds:List (Option Nat)} {T:Nat->Value} {W:World} {n:Nat} (k:Nat) (h:AllD Fs ds T W (List.range n)) (hk:k < n):(Fs.getD k λ _ _ => True) W (dv ds T k) :=
 AllD.of k h (by simpa using hk)
def Oth (es:Nat->Option Nat) (k:Nat) (b:Nat):Prop:=∃ i,i ≠ k/\es i=some b
def Any (es:Nat->Option Nat) (b:Nat):Prop:=∃ i,es i=some b
theorem Oth.any {es:Nat->Option Nat} {k b:Nat} (h:Oth es k b):Any es b:=by obtain ⟨i,_,h⟩:=h; exact ⟨i,h⟩
def StayP (H:Nat->Prop) (F:World->Value->Prop):Prop:=∀ (W W':World) (v:Value),F W v->Kept H W W'->F W' v
def AllP (es:Nat->Option Nat):Nat->List (World->Value->Prop)->Prop
 | _,[] => True
 | k,F :: r => StayP (Oth es k) F/\AllP es (k + 1) r
theorem AllP.get {es:Nat->Option Nat}:∀ {l:List (World->Value->Prop)} (j k:Nat),AllP es j l->StayP (Oth es (j + k)) (l.getD k λ _ _ => True)
 | [],_,_,_ => λ _ _ _ _ _ => trivial
 | _ :: _,_,0,h => h.1
 | _ :: r,j,k + 1,h => by have:=AllP.get (l:=r) (j + 1) k h.2; rw [show j + (k + 1)=j + 1 + k by omega]; exact this
theorem nodup_some:∀ {ds:List (Option Nat)},(ds.filterMap id).Nodup->∀ {i k d:Nat},ds.getD i none=some d->ds.getD k none=some d->i=k
 | [],_,i,k,d,h,_ => by simp at h
 | none :: r,hn,i,k,d,h1,h2 => by
  have hn':(r.filterMap id).Nodup:=by simpa using hn
  match i,k with
  | 0,_ => simp at h1
  | _,0 => simp at h2
  | i + 1,k + 1 => rw [nodup_some hn' (i:=i) (k:=k) (by simpa using h1) (by simpa using h2)]
 | some x :: r,hn,i,k,d,h1,h2 => by
  have hn':x ∉ r.filterMap id/\(r.filterMap id).Nodup:=by simpa using hn
  have mem:∀ j,r.getD j none=some d->d∈r.filterMap id:=by
   intro j hj;refine List.mem_filterMap.2 ⟨some d,?_,rfl⟩;rw [List.getD_eq_getElem?_getD] at hj
   cases hg:r[j]? with
   | none => rw [hg] at hj; simp at hj
   | some y => rw [hg] at hj; simp at hj; subst hj; exact List.mem_of_getElem? hg
  match i,k with
  | 0,0 => rfl
  | 0,k + 1 =>
   simp at h1; subst h1;exact absurd (mem k (by simpa using h2)) hn'.1
  | i + 1,0 =>
   simp at h2; subst h2;exact absurd (mem i (by simpa using h1)) hn'.1
  | i + 1,k + 1 => rw [nodup_some hn'.2 (i:=i) (k:=k) (by simpa using h1) (by simpa using h2)]
end
section
variable {P : Program} {ops : Array Oper} {Q : Exit → Act → World → Prop}
def putN (W:World) (n:Nat):Nat->List Value->World
 | _,[] => W
 | k,v :: r => putN (W.setCell ⟨n,k,none⟩ v) n (k + 1) r
theorem putN_kept (n:Nat):∀ (vs:List Value) (k:Nat) (W:World),Kept (λ b => b=n) W (putN W n k vs)
 | [],_,W => Kept.refl W
 | v :: r,k,W => ((Kept.refl W).setCell (G:=λ b => b=n) (p:=⟨n,k,none⟩) rfl v).trans (putN_kept n r (k + 1) _)
theorem putN_row {n:Nat} {E:TypeId}:∀ (vs xs pre:List Value) (W:World),Row W n E (pre ++ xs)->vs.length=xs.length->Row (putN W n pre.length vs) n E (pre ++ vs)
 | [],xs,pre,W,h,hl => by
  have:xs=[]:=List.eq_nil_of_length_eq_zero hl.symm;subst this; exact h
 | v :: r,[],pre,W,h,hl => by simp at hl
 | v :: r,x :: xs,pre,W,h,hl => by
  have h1:=h.set pre.length v;have e:(pre ++ x :: xs).set pre.length v=(pre ++ [v]) ++ xs:=by simp
  rw [e] at h1;have:=putN_row r xs (pre ++ [v]) _ h1 (by simpa using hl);simp only [List.length_append,List.length_singleton,List.append_assoc,List.singleton_append] at this;exact this
structure Fb where
 st:Nat
 src:Nat
 E:TypeId
 z:List Value
def Sto (v:Value) (vs:List Value):Prop:=v=.agg vs.toArray\/vs=[v]
abbrev FactG:=(Nat->Prop)->(Nat->Value)->World->Prop
def Adj (sup:List Nat) (F:FactG):Prop:=∀ (G G':Nat->Prop) (X X':Nat->Value) (W W':World),F G X W->Kept G W W'->(∀ b,b < W.heap.size->G' b->G b)->(∀ j∈sup,X' j=X j)->F G' X' W'
theorem adj_val (k:Nat) (r:List Nat) (u:Value):Adj (k :: r) (λ _ X _ => X k=u):=λ _ _ _ _ _ _ h _ _ hX => (hX k (by simp)).trans h
theorem adj_true (sup:List Nat):Adj sup (λ _ _ _ => True):=λ _ _ _ _ _ _ h _ _ _ => h
def supOf (ops:Array Oper) (k:Nat):List Nat:=k :: ((ops[k]?).map λ o => waits .any o).getD []
def AllA (ops:Array Oper):Nat->List FactG->Prop
 | _,[] => True
 | k,F :: r => Adj (supOf ops k) F/\AllA ops (k + 1) r
theorem AllA.get {ops:Array Oper}:∀ {l:List FactG} (j k:Nat),AllA ops j l->Adj (supOf ops (j + k)) (l.getD k λ _ _ _ => True)
 | [],_,_,_ => adj_true _
 | _ :: _,_,0,h => h.1
 | _ :: r,j,k + 1,h => by have:=AllA.get (l:=r) (j + 1) k h.2; rw [show j + (k + 1)=j + 1 + k by omega]; exact this
def AllG (Fs:List FactG) (G:Nat->Prop) (X:Nat->Value) (W:World):List Nat->Prop
 | [] => True
 | k :: r => (Fs.getD k λ _ _ _ => True) G X W/\AllG Fs G X W r
theorem AllG.mem {Fs:List FactG} {G:Nat->Prop} {X:Nat->Value} {W:World}:∀ {l:List Nat},(∀ k∈l,(Fs.getD k λ _ _ _ => True) G X W)->AllG Fs G X W l
 | [],_ => trivial
 | k :: r,h => ⟨h k (by simp),AllG.mem λ x hx => h x (by simp [hx])⟩
theorem AllG.of {Fs:List FactG} {G:Nat->Prop} {X:Nat->Value} {W:World}:∀ {l:List Nat} (k:Nat),AllG Fs G X W l->k∈l->(Fs.getD k λ _ _ _ => True) G X W
 | [],_,_,h => by simp at h
 | x :: r,k,h,hk => by
  rcases List.mem_cons.1 hk with rfl | hk
  ·exact h.1
  ·exact AllG.of k h.2 hk
theorem AllG.at {Fs:List FactG} {G:Nat->Prop} {X:Nat->Value} {W:World} {n:Nat} (k:Nat) (h:AllG Fs G X W (List.range n)) (hk:k < n):(Fs.getD k λ _ _ _ => True) G X W :=
 AllG.of k h (by simpa using hk)
def okNew (al:List (Option Fb)) (ops:Array Oper):Bool :=
 (List.range al.length).all λ i => match al.getD i none with
  | none => true
  | some fb => decide (i < ops.size) && decide (fb.st < ops.size) && decide (fb.src < ops.size) && ((ops[fb.st]?).map λ o => (waits .any o).contains i && (waits .any o).contains fb.src && o.dst.isNone).getD false &&
    ((ops[i]?).map λ o => o.dst.isSome).getD false && (al.getD fb.st none).isNone && (al.getD fb.src none).isNone &&
    (List.range al.length).all λ j => match al.getD j none with
     | none => true
     | some fc => decide (i=j) || decide (fb.st ≠ fc.st)
theorem getD_lt {al:List (Option Fb)} {i:Nat} {fb:Fb} (h:al.getD i none=some fb):i < al.length:=by
 by_cases hi:i < al.length
 ·exact hi
 ·rw [List.getD_eq_getElem?_getD,List.getElem?_eq_none (by omega)] at h; cases h
theorem okNew.get {al:List (Option Fb)} {ops:Array Oper} (h:okNew al ops=true) {i:Nat} {fb:Fb} (hi:al.getD i none=some fb) :
  i < ops.size/\fb.st < ops.size/\fb.src < ops.size/\(∀ o,ops[fb.st]?=some o->i∈waits .any o/\fb.src∈waits .any o/\o.dst=none)/\(∃ p,∀ o,ops[i]?=some o->o.dst=some p)/\al.getD fb.st none=none/\al.getD fb.src none=none /\
   ∀ j fc,al.getD j none=some fc->i ≠ j->fb.st ≠ fc.st:=by
 have h1:=List.all_eq_true.1 h i (by simpa using getD_lt hi);rw [hi] at h1;simp only [Bool.and_eq_true,decide_eq_true_eq] at h1;obtain ⟨⟨⟨⟨⟨⟨⟨h1,h2⟩,h3⟩,h4⟩,h5⟩,h6⟩,h7⟩,h8⟩:=h1;refine ⟨h1,h2,h3,λ o ho => ?_,?_,by simpa using h6,by simpa using h7,λ j fc hj hij => ?_⟩
 ·rw [ho] at h4;simp at h4;exact ⟨h4.1.1,h4.1.2,h4.2⟩
 ·rw [Array.getElem?_eq_getElem h1] at h5;simp at h5;obtain ⟨p,hp⟩:=Option.isSome_iff_exists.1 h5;refine ⟨p,λ o ho => ?_⟩;rw [Array.getElem?_eq_getElem h1] at ho
  cases ho; exact hp
 ·have h9:=List.all_eq_true.1 h8 j (by simpa using getD_lt hj);rw [hj] at h9;simp only [Bool.or_eq_true,decide_eq_true_eq] at h9;exact h9.resolve_left hij
def ordB (al:List (Option Fb)) (i:Nat):Bool:=(al.getD i none).isNone && al.all λ x => match x with
 | none => true
 | some fb => fb.st != i
theorem ordB.mk {al:List (Option Fb)} {i:Nat} (h:al.getD i none=none) (h2:∀ j fb,al.getD j none=some fb->fb.st ≠ i):ordB al i=true:=by
 unfold ordB;rw [h];simp only [Option.isNone_none,Bool.true_and,List.all_eq_true];intro x hx
 cases x with
 | none => rfl
 | some fb =>
  obtain ⟨j,hj,e⟩:=List.getElem_of_mem hx;have:=h2 j fb (by rw [List.getD_eq_getElem?_getD,gE hj,e]; rfl)
  simpa using this
def EachBox (p:Nat->Fb->Prop):Nat->List (Option Fb)->Prop
 | _,[] => True
 | k,none :: r => EachBox p (k + 1) r
 | k,some fb :: r => p k fb/\EachBox p (k + 1) r
theorem EachBox.at {p:Nat->Fb->Prop}:∀ {al:List (Option Fb)} {k j:Nat} {fb:Fb},EachBox p k al->al.getD j none=some fb->p (k + j) fb
 | [],_,j,_,_,h => by simp at h
 | none :: r,k,0,_,_,h => by simp at h
 | some x :: r,k,0,fb,hp,h => by simp at h; subst h; exact hp.1
 | none :: r,k,j + 1,fb,hp,h => by
  have:=EachBox.at (al:=r) (k:=k + 1) (j:=j) (fb:=fb) hp (by simpa using h);rw [show k + (j + 1)=k + 1 + j by omega]; exact this
 | some x :: r,k,j + 1,fb,hp,h => by
  have:=EachBox.at (al:=r) (k:=k + 1) (j:=j) (fb:=fb) hp.2 (by simpa using h);rw [show k + (j + 1)=k + 1 + j by omega]; exact this
theorem EachBox.get {p:Nat->Fb->Prop} {al:List (Option Fb)} {j:Nat} {fb:Fb} (h:EachBox p 0 al) (hj:al.getD j none=some fb):p j fb:=by
 have:=h.at hj;rw [Nat.zero_add] at this; exact this
theorem EachOp.imp {p q:Nat->Oper->Prop}:∀ (l:List Oper) (k:Nat),(∀ j o,l[j]?=some o->p (k + j) o->q (k + j) o)->EachOp p k l->EachOp q k l
 | [],_,_,_ => trivial
 | o :: r,k,h,hp => ⟨by have:=h 0 o rfl hp.1; exact this,EachOp.imp r (k + 1) (λ j o' ho hp' => by have:=h (j + 1) o' (by simpa using ho) (by rw [show k + (j + 1)=k + 1 + j by omega]; exact hp'); rw [show k + 1 + j=k + (j + 1) by omega]; exact this) hp.2⟩
theorem wp_region_news {id:Nat} {a:Act} {w wx:World} (H:Nat->Prop) (Fs:List FactG) (ds:List (Option Nat)) (al:List (Option Fb)) (dl:List Nat)
  (hm:P.follows .mixedOrders=true) (ht:topo .any ops=true) (hd:ops.toList.map (·.dst)=ds) (hdl:ds.filterMap (λ x => x)=dl) (hnd:dl.Nodup) (hok:okNew al ops=true)
  (hH:∀ b,H b->b < wx.heap.size) (hw:BH wx w) (hS:AllA ops 0 Fs)
  (hT:EachBox (λ i fb => (∀ G X W,(Fs.getD i λ _ _ _ => True) G X W)/\∀ G X W,(Fs.getD fb.st λ _ _ _ => True) G X W) 0 al)
  (hs:EachOp (λ i o => ordB al i=true->∀ (G:Nat->Prop) (T:Nat->Value) (W:World),BH wx W->(∀ b,H b->G b)->(∀ b,G b->b < W.heap.size)->(∀ b,b < wx.heap.size->G b->H b)->AllG Fs G (dv ds T) W (waits .any o) ->
   ∀ K:Act->World->Prop,(∀ v W',BH W W'->(∀ X:Nat->Value,X i=(o.dst.map λ _ => v).getD undef->(∀ j,j ≠ i->X j=dv ds T j)->(Fs.getD i λ _ _ _ => True) G X W')->K (({ a with tmps:=ovr a.tmps T dl }:Act).put o.dst v) W') ->
    wpOp P ops Q i K { a with tmps:=ovr a.tmps T dl } W) 0 ops.toList)
  (hB:EachBox (λ j fb => (∀ o,ops[j]?=some o->∀ (T:Nat->Value) (W:World) (K:Act->World->Prop),K (({ a with tmps:=ovr a.tmps T dl }:Act).put o.dst (.pointer (some ⟨W.heap.size,0,none⟩))) (W.alloc (.cells fb.z.toArray fb.E))->wpOp P ops Q j K { a with tmps:=ovr a.tmps T dl } W) /\
   (∀ o,ops[fb.st]?=some o->∀ (G:Nat->Prop) (T:Nat->Value) (W:World) (n:Nat),AllG Fs G (dv ds T) W (waits .any o)->dv ds T j=.pointer (some ⟨n,0,none⟩)->Row W n fb.E fb.z->∀ K:Act->World->Prop,(∀ vs,Sto (dv ds T fb.src) vs->vs.length=fb.z.length->K { a with tmps:=ovr a.tmps T dl } (putN W n 0 vs))->wpOp P ops Q fb.st K { a with tmps:=ovr a.tmps T dl } W)) 0 al)
  (he:∀ (G:Nat->Prop) (N:Nat->Nat) T W,BH wx W->(∀ b,H b->G b)->(∀ b,G b->b < W.heap.size)->(∀ b,b < wx.heap.size->G b->H b) ->
   (∀ i fb,al.getD i none=some fb->dv ds T i=.pointer (some ⟨N i,0,none⟩)/\G (N i)/\wx.heap.size<=N i/\∃ vs,Sto (dv ds T fb.src) vs/\Row W (N i) fb.E vs) ->
   (∀ i j fb fc,al.getD i none=some fb->al.getD j none=some fc->i ≠ j->N i ≠ N j)->AllG Fs G (dv ds T) W (List.range ops.size)->Q .normal { a with tmps:=ovr a.tmps T dl } W):(Code.region id ops true).wp P Q a w:=by
 have hnd':(ds.filterMap _root_.id).Nodup:=by
  have:ds.filterMap _root_.id=dl:=hdl;rw [this]; exact hnd
 have hdst:∀ (i:Nat) (o:Oper),ops[i]?=some o->i < ops.size/\o.dst=ds.getD i none:=by
  intro i o ho;have hi:i < ops.size:=(Array.getElem?_eq_some_iff.1 ho).1;refine ⟨hi,?_⟩;have h1:(ops.toList.map (·.dst))[i]?=some o.dst:=by simp [ho]
  rw [hd] at h1;rw [List.getD_eq_getElem?_getD,h1]; rfl
 refine wp_region_flow (λ L T W => ∃ (G:Nat->Prop) (N:Nat->Nat),(∀ b,G b->b < W.heap.size)/\(∀ b,H b->G b)/\(∀ b,b < wx.heap.size->G b->H b)/\BH wx W /\
  (∀ i fb,al.getD i none=some fb->L i->dv ds T i=.pointer (some ⟨N i,0,none⟩)/\G (N i)/\wx.heap.size<=N i/\N i < W.heap.size/\(¬ L fb.st->Row W (N i) fb.E fb.z)/\(L fb.st->L fb.src/\∃ vs,Sto (dv ds T fb.src) vs/\Row W (N i) fb.E vs)) /\
  (∀ i j fb fc,al.getD i none=some fb->al.getD j none=some fc->L i->L j->i ≠ j->N i ≠ N j) /\
  (∀ i fb,al.getD i none=some fb->L fb.st->L i) /\
  (∀ k o,ops[k]?=some o->L k->∀ j∈waits .any o,L j) /\
  ∀ k,k < ops.size->L k->(Fs.getD k λ _ _ _ => True) G (dv ds T) W) dl hm ht ?_
  (λ T => ⟨H,λ _ => 0,λ b hb => Nat.lt_of_lt_of_le (hH b hb) hw.size,λ _ h => h,λ _ _ h => h,hw.drew,λ _ _ _ h => h.elim,λ _ _ _ _ _ _ h => h.elim,λ _ _ _ h => h.elim,λ _ _ _ h => h.elim,λ k _ h => h.elim⟩) ?_ ?_ ?_
 ·unfold dsts;rw [<- hdl,<- hd];simp [List.filterMap_map]
  rfl
 ·refine EachOp.imp ops.toList 0 (λ k o ho h => ?_) hs;rw [Nat.zero_add] at h |-;have hko:ops[k]?=some o:=by simpa using ho
  rintro L T W hL hn ⟨G,N,g1,g2,g3,hb,hN,hD,hLL,hW,hJ⟩ K hK;obtain ⟨hkl,hkd⟩:=hdst k o hko;have hall:∀ d,d∈waits .any o->L d:=by
   have:∀ l:List Nat,AllL L l->∀ d,d∈l->L d:=by
    intro l
    induction l with
    | nil => intro _ d hd; simp at hd
    | cons x r ih =>
     intro h d hd;rcases List.mem_cons.1 hd with rfl | hd
     ·exact h.1
     ·exact ih h.2 d hd
   exact this _ hL
  have hA:AllG Fs G (dv ds T) W (waits .any o):=AllG.mem λ d hdw => hJ d (Nat.lt_trans (topo_lt ht hko hdw) hkl) (hall d hdw)
  have same:∀ v j,j ≠ k->dv ds (updO T o.dst v) j=dv ds T j:=by
   intro v j hjk;unfold dv
   cases hdj:ds.getD j none with
   | none => rfl
   | some d =>
    cases hdo:o.dst with
    | none => rfl
    | some d' =>
     have hne:d ≠ d':=λ e => by
      rw [hdo] at hkd;exact hjk (nodup_some hnd' hdj (by rw [<- hkd,e]))
     simp [updO,upd,hne]
  have own:∀ v,dv ds (updO T o.dst v) k=(o.dst.map λ _ => v).getD undef:=by
   intro v;unfold dv;rw [<- hkd]
   cases hdo:o.dst with
   | none => rfl
   | some d => simp [updO,upd]
  have hS':∀ j,Adj (supOf ops j) (Fs.getD j λ _ _ _ => True):=λ j => by have:=hS.get 0 j; rwa [Nat.zero_add] at this
  have hsup:∀ v j,j < ops.size->L j->∀ x∈supOf ops j,dv ds (updO T o.dst v) x=dv ds T x:=by
   intro v j hj hLj x hx;refine same v x λ e => hn (e ▸ ?_)
   rcases List.mem_cons.1 hx with rfl | hx
   ·exact hLj
   ·rw [Array.getElem?_eq_getElem hj] at hx;exact hW j _ (Array.getElem?_eq_getElem hj) hLj x hx
  have hWn:∀ (v:Value) i o',ops[i]?=some o'->(i=k\/L i)->∀ j∈waits .any o',j=k\/L j:=by
   rintro v i o' ho' (rfl | hLi) j hj
   ·rw [hko] at ho'; cases ho'; exact .inr (hall j hj)
   ·exact .inr (hW i o' ho' hLi j hj)
  by_cases hst:∃ j fb,al.getD j none=some fb/\fb.st=k
  ·-- a store
   obtain ⟨j,fb,hj,rfl⟩:=hst;obtain ⟨q1,q2,q3,q4,q5,q6,q7,q8⟩:=okNew.get hok hj;obtain ⟨w1,w2,w3⟩:=q4 o hko;obtain ⟨p1,p2,p3,p4,p5,p6⟩:=hN j fb hj (hall j w1);refine (hB.get hj).2 o hko G T W (N j) hA p1 (p5 hn) K λ vs hvs hvl => ?_
   have hrow:=putN_row vs fb.z [] W (p5 hn) hvl;have hkp:=putN_kept (N j) vs 0 W;have hkG:Kept G W (putN W (N j) 0 vs):=hkp.wide λ b e => e ▸ p2
   have hKK:=hK undef (putN W (N j) 0 vs);rw [w3] at hKK;refine hKK ⟨G,N,λ b hb' => Nat.lt_of_lt_of_le (g1 b hb') hkp.size,g2,g3,hb.trans (hkp.below (λ b e => e ▸ p3) hb.size),?_,?_,?_,?_,?_⟩
   ·intro i fc hi hLi;have hLi':L i:=hLi.resolve_left λ e => by rw [e] at hi; rw [q6] at hi; cases hi
    obtain ⟨r1,r2,r3,r4,r5,r6⟩:=hN i fc hi hLi';have e:∀ x,dv ds (updO T none undef) x=dv ds T x:=λ x => rfl
    refine ⟨r1,r2,r3,Nat.lt_of_lt_of_le r4 hkp.size,?_,?_⟩
    ·intro hns;have hij:i ≠ j:=λ e => by
      subst e; rw [hj] at hi; cases hi; exact hns (.inl rfl)
     exact (r5 λ h => hns (.inr h)).mono hkp (hD i j fc fb hi hj hLi' (hall j w1) hij)
    ·rintro (hs' | hs')
     ·have hij:i=j:=Classical.byContradiction λ hne => (okNew.get hok hi).2.2.2.2.2.2.2 j fb hj hne hs'
      subst hij;rw [hj] at hi; cases hi;exact ⟨.inr (hall _ w2),vs,hvs,by simpa using hrow⟩
     ·have hij:i ≠ j:=λ e => by subst e; rw [hj] at hi; cases hi; exact hn hs'
      obtain ⟨z1,vs',z2,z3⟩:=r6 hs';exact ⟨.inr z1,vs',z2,z3.mono hkp (hD i j fc fb hi hj hLi' (hall j w1) hij)⟩
   ·intro i i' fc fd hi hi' hLi hLi';exact hD i i' fc fd hi hi' (hLi.resolve_left λ e => by rw [e] at hi; rw [q6] at hi; cases hi) (hLi'.resolve_left λ e => by rw [e] at hi'; rw [q6] at hi'; cases hi')
   ·rintro i fc hi (hs' | hs')
    ·have hij:i=j:=Classical.byContradiction λ hne => (okNew.get hok hi).2.2.2.2.2.2.2 j fb hj hne hs'
     subst hij; exact .inr (hall _ w1)
    ·exact .inr (hLL i fc hi hs')
   ·exact λ i o' ho' hLi => hWn undef i o' ho' hLi
   ·rintro x hx (rfl | hLx)
    ·exact (hT.get hj).2 _ _ _
    ·exact hS' x G G _ _ W _ (hJ x hx hLx) hkG (λ _ _ h => h) λ _ _ => rfl
  ·cases hak:al.getD k none with
   | some fb =>
    obtain ⟨q1,q2,q3,q4,⟨p,q5⟩,q6,q7,q8⟩:=okNew.get hok hak;have hop:=q5 o hko;refine (hB.get hak).1 o hko T W K ?_;have hba:=bA W (.cells fb.z.toArray fb.E);have hsz:(W.alloc (.cells fb.z.toArray fb.E)).heap.size=W.heap.size + 1:=by simp
    have hKb:Kept G W (W.alloc (.cells fb.z.toArray fb.E)):=Kept.of_below hba;have hL':∀ b,b < W.heap.size->(G b\/b=W.heap.size)->G b:=λ b hlt hh => hh.resolve_right (by omega)
    obtain ⟨N',hNk,hNo⟩:∃ N':Nat->Nat,N' k=W.heap.size/\∀ x,x ≠ k->N' x=N x:=⟨λ x => if x=k then W.heap.size else N x,if_pos rfl,λ x hx => if_neg hx⟩;refine hK _ _ ⟨λ b => G b\/b=W.heap.size,N',?_,λ b hb' => .inl (g2 b hb'),λ b hlt hh => g3 b hlt (hh.resolve_right (by have:=hb.size; omega)),bu hb hba,?_,?_,?_,?_,?_⟩
    ·rintro b (hb' | rfl)
     ·have:=g1 b hb'; omega
     ·omega
    ·intro i fc hi hLi
     by_cases hik:i=k
     ·subst hik;rw [hak] at hi; cases hi;refine ⟨by rw [own,hop,hNk]; rfl,.inr hNk,by rw [hNk]; exact hb.size,by rw [hNk]; omega,λ _ => ?_,λ hs' => ?_⟩
      ·rw [hNk];exact heap_alloc_new _ _
      ·rcases hs' with hs' | hs'
       ·rw [hs'] at q6; rw [hak] at q6; cases q6
       ·exact absurd (hLL _ _ hak hs') hn
     ·have hLi':=hLi.resolve_left hik;obtain ⟨r1,r2,r3,r4,r5,r6⟩:=hN i fc hi hLi';obtain ⟨_,_,_,_,_,s6,s7,_⟩:=okNew.get hok hi;have hstk:fc.st ≠ k:=λ e => by rw [e] at s6; rw [hak] at s6; cases s6
      have hsrck:fc.src ≠ k:=λ e => by rw [e] at s7; rw [hak] at s7; cases s7
      refine ⟨by rw [same _ _ hik,hNo _ hik]; exact r1,.inl (by rw [hNo _ hik]; exact r2),by rw [hNo _ hik]; exact r3,by rw [hNo _ hik]; omega,λ hns => ?_,λ hs' => ?_⟩
      ·rw [hNo _ hik];exact (r5 λ h => hns (.inr h)).below hba
      ·obtain ⟨z1,vs',z2,z3⟩:=r6 (hs'.resolve_left hstk);rw [hNo _ hik];exact ⟨.inr z1,vs',by rw [same _ _ hsrck]; exact z2,z3.below hba⟩
    ·intro i j fc fd hi hj hLi hLj hij
     by_cases hik:i=k
     ·have hjk:j ≠ k:=λ e => hij (hik.trans e.symm)
      rw [hik,hNk,hNo _ hjk];have:=(hN j fd hj (hLj.resolve_left hjk)).2.2.2.1;omega
     ·rw [hNo _ hik];have h4:=(hN i fc hi (hLi.resolve_left hik)).2.2.2.1
      by_cases hjk:j=k
      ·rw [hjk,hNk]; omega
      ·rw [hNo _ hjk];exact hD i j fc fd hi hj (hLi.resolve_left hik) (hLj.resolve_left hjk) hij
    ·intro i fc hi hs';obtain ⟨_,_,_,_,_,s6,_,_⟩:=okNew.get hok hi;have hstk:fc.st ≠ k:=λ e => by rw [e] at s6; rw [hak] at s6; cases s6
     exact .inr (hLL i fc hi (hs'.resolve_left hstk))
    ·exact λ i o' ho' hLi => hWn (.bool false) i o' ho' hLi
    ·intro x hx hLx
     by_cases hxk:x=k
     ·subst hxk; exact (hT.get hak).1 _ _ _
     ·exact hS' x G _ _ _ W _ (hJ x hx (hLx.resolve_left hxk)) hKb hL' (hsup _ x hx (hLx.resolve_left hxk))
   | none =>
    refine h (ordB.mk hak λ j fb hj e => hst ⟨j,fb,hj,e⟩) G T W hb g2 g1 g3 hA K λ v W' hb' hv => hK v W' ⟨G,N,λ b h => Nat.lt_of_lt_of_le (g1 b h) hb'.size,g2,g3,Below.step hb hb' nl,?_,?_,?_,?_,?_⟩
    ·intro i fc hi hLi;have hik:i ≠ k:=λ e => by rw [e] at hi; rw [hak] at hi; cases hi
     have hLi':=hLi.resolve_left hik;obtain ⟨r1,r2,r3,r4,r5,r6⟩:=hN i fc hi hLi';have hstk:fc.st ≠ k:=λ e => hst ⟨i,fc,hi,e⟩
     refine ⟨by rw [same _ _ hik]; exact r1,r2,r3,Nat.lt_of_lt_of_le r4 hb'.size,λ hns => (r5 λ h => hns (.inr h)).below hb',λ hs' => ?_⟩;obtain ⟨z1,vs',z2,z3⟩:=r6 (hs'.resolve_left hstk);have hsrck:fc.src ≠ k:=λ e => hn (e ▸ z1)
     exact ⟨.inr z1,vs',by rw [same _ _ hsrck]; exact z2,z3.below hb'⟩
    ·intro i j fc fd hi hj hLi hLj hij;have hik:i ≠ k:=λ e => by rw [e] at hi; rw [hak] at hi; cases hi
     have hjk:j ≠ k:=λ e => by rw [e] at hj; rw [hak] at hj; cases hj
     exact hD i j fc fd hi hj (hLi.resolve_left hik) (hLj.resolve_left hjk) hij
    ·intro i fc hi hs';have hstk:fc.st ≠ k:=λ e => hst ⟨i,fc,hi,e⟩
     exact .inr (hLL i fc hi (hs'.resolve_left hstk))
    ·exact λ i o' ho' hLi => hWn v i o' ho' hLi
    ·intro x hx hLx
     by_cases hxk:x=k
     ·subst hxk; exact hv _ (own v) λ j hj => same v j hj
     ·exact hS' x G G _ _ W W' (hJ x hx (hLx.resolve_left hxk)) (Kept.of_below hb') (λ _ _ h => h) (hsup _ x hx (hLx.resolve_left hxk))
 ·rintro T W ⟨G,N,g1,g2,g3,hb,hN,hD,hLL,hW,hJ⟩;refine he G N T W hb g2 g1 g3 ?_ ?_ (AllG.mem λ k hk => hJ k (by simpa using hk) (by simpa using hk))
  ·intro i fb hi;obtain ⟨q1,q2,q3,_⟩:=okNew.get hok hi;obtain ⟨r1,r2,r3,r4,r5,r6⟩:=hN i fb hi q1;exact ⟨r1,r2,r3,(r6 q2).2⟩
  ·intro i j fb fc hi hj hij;exact hD i j fb fc hi hj (okNew.get hok hi).1 (okNew.get hok hj).1 hij
 ·rintro L T W hL ⟨G,N,g1,g2,g3,hb,hN,hD,hLL,hW,hJ⟩;refine ⟨G,N,g1,g2,g3,hb,?_,?_,λ i fb hi _ => (okNew.get hok hi).1,λ k o hk _ j hj => Nat.lt_trans (topo_lt ht hk hj) (Array.getElem?_eq_some_iff.1 hk).1,λ k hk _ => hJ k hk (hL k hk)⟩
  ·intro i fb hi _;obtain ⟨q1,q2,q3,_⟩:=okNew.get hok hi;obtain ⟨r1,r2,r3,r4,r5,r6⟩:=hN i fb hi (hL i q1);exact ⟨r1,r2,r3,r4,λ h => absurd q2 h,λ _ => ⟨q3,(r6 (hL _ q2)).2⟩⟩
  ·intro i j fb fc hi hj _ _ hij;exact hD i j fb fc hi hj (hL i (okNew.get hok hi).1) (hL j (okNew.get hok hj).1) hij
end
section
variable {P : Program} {ops : Array Oper} {Q : Exit → Act → World → Prop}
def ConstF (F:World->Value->Prop):Prop:=∀ (W W':World) (v:Value),F W v->F W' v
theorem cV (u:Value):ConstF (vf u):=λ _ _ _ h => h
def AllU (Fs:List (World->Value->Prop)) (us:List (Option Nat)) (i:Nat) (ds:List (Option Nat)) (T:Nat->Value) (W:World):List Nat->Prop
 | [] => True
 | k :: r => ((us.getD k none=none\/us.getD k none=some i)->(Fs.getD k λ _ _ => True) W (dv ds T k))/\AllU Fs us i ds T W r
theorem AllU.mem {Fs:List (World->Value->Prop)} {us:List (Option Nat)} {i:Nat} {ds:List (Option Nat)} {T:Nat->Value} {W:World}:∀ {l:List Nat},(∀ k∈l,(us.getD k none=none\/us.getD k none=some i)->(Fs.getD k λ _ _ => True) W (dv ds T k))->AllU Fs us i ds T W l
 | [],_ => trivial
 | k :: r,h => ⟨h k (by simp),AllU.mem λ x hx => h x (by simp [hx])⟩
theorem AllU.of {Fs:List (World->Value->Prop)} {us:List (Option Nat)} {i:Nat} {ds:List (Option Nat)} {T:Nat->Value} {W:World}:∀ {l:List Nat} (k:Nat),AllU Fs us i ds T W l->k∈l->(us.getD k none=none\/us.getD k none=some i)->(Fs.getD k λ _ _ => True) W (dv ds T k)
 | [],_,_,h,_ => by simp at h
 | x :: r,k,h,hk,hu => by
  rcases List.mem_cons.1 hk with rfl | hk
  ·exact h.1 hu
  ·exact AllU.of k h.2 hk hu
def AllK:List Bool->List (World->Value->Prop)->Prop
 | c :: cs,F :: r => (c=true->ConstF F)/\AllK cs r
 | _,_ => True
theorem AllK.get:∀ {cs:List Bool} {l:List (World->Value->Prop)} (k:Nat),AllK cs l->cs.getD k false=true->ConstF (l.getD k λ _ _ => True)
 | _,[],_,_,_ => λ _ _ _ _ => trivial
 | [],_ :: _,_,_,h => by simp at h
 | _ :: _,_ :: _,0,h,hc => h.1 hc
 | _ :: cs,_ :: r,k + 1,h,hc => AllK.get (cs:=cs) (l:=r) k h.2 (by simpa using hc)
def bigU (us:List (Option Nat)) (i:Nat):Bool:=us.any (· == some i)
def waitsAt (ops:Array Oper) (k:Nat):List Nat:=((ops[k]?).map λ o => waits .any o).getD []
def okUse (ops:Array Oper) (us:List (Option Nat)) (cs:List Bool):Bool :=
 (List.range ops.size).all λ i => !bigU us i || (List.range ops.size).all λ k =>
  k == i || us.getD k none == some i || cs.getD k false || (waitsAt ops k).contains i || (match us.getD k none with | some u => (waitsAt ops i).contains u | none => false)
def okPre (ops:Array Oper) (us:List (Option Nat)) (ds:List (Option Nat)) (pi d0:Nat):Bool :=
 (List.range ops.size).all λ i => (!bigU us i && !(ds.getD i none == some d0)) || i == pi || (waitsAt ops i).any λ j => decide (j < ops.size) && (j == pi || (waitsAt ops j).contains pi)
def StepU (us:List (Option Nat)) (i:Nat) (wx W W':World):Prop:=BH wx W'/\(bigU us i=false->BH W W')
theorem AllL.all {L:Nat->Prop}:∀ {l:List Nat},AllL L l->∀ d,d∈l->L d
 | [],_,d,hd => by simp at hd
 | x :: r,h,d,hd => by
  rcases List.mem_cons.1 hd with rfl | hd
  ·exact h.1
  ·exact AllL.all h.2 d hd
theorem wp_region_flow0 {id:Nat} {a:Act} {w:World} (J:(Nat->Prop)->(Nat->Value)->World->Prop) (ds:List Nat)
  (hm:P.follows .mixedOrders=true) (ht:topo .any ops=true) (hd:dsts ops=ds)
  (h0:J (λ _ => False) (λ k => a.tmps.getD k undef) { w with drawn:=w.drawn + 1 })
  (hs:EachOp (λ i o => ∀ (L:Nat->Prop) (T:Nat->Value) (w:World),AllL L (waits .any o)->¬ L i->J L T w ->
   ∀ K:Act->World->Prop,(∀ v w',J (λ j => j=i\/L j) (updO T o.dst v) w'->K (({ a with tmps:=ovr a.tmps T ds }:Act).put o.dst v) w') ->
    wpOp P ops Q i K { a with tmps:=ovr a.tmps T ds } w) 0 ops.toList)
  (he:∀ T w,J (λ i => i < ops.size) T w->Q .normal { a with tmps:=ovr a.tmps T ds } w)
  (hmono:∀ L T w,(∀ i,i < ops.size->L i)->J L T w->J (λ i => i < ops.size) T w):(Code.region id ops true).wp P Q a w:=by
 refine wp_region_any hm (wpAny_flow (I:=λ L a' w' => ∃ T,a'={ a with tmps:=ovr a.tmps T ds }/\J L T w') ht ?_ ?_ _ _ _ _ (by simp) (by simp) ?_)
 ·have key:∀ (l:List Oper) (k:Nat),(∀ o∈l,∀ d,o.dst=some d->d∈ds) ->
    EachOp (λ i o => ∀ (L:Nat->Prop) (T:Nat->Value) (w:World),AllL L (waits .any o)->¬ L i->J L T w ->
     ∀ K:Act->World->Prop,(∀ v w',J (λ j => j=i\/L j) (updO T o.dst v) w'->K (({ a with tmps:=ovr a.tmps T ds }:Act).put o.dst v) w') ->
      wpOp P ops Q i K { a with tmps:=ovr a.tmps T ds } w) k l ->
    EachOp (λ i o => ∀ L a' w,AllL L (waits .any o)->¬ L i->(∃ T,a'={ a with tmps:=ovr a.tmps T ds }/\J L T w) ->
     wpOp P ops Q i (λ a' w' => ∃ T,a'={ a with tmps:=ovr a.tmps T ds }/\J (λ j => j=i\/L j) T w') a' w) k l:=by
   intro l
   induction l with
   | nil => intro k _ _; trivial
   | cons o r ih =>
    intro k hin h;refine ⟨?_,ih (k + 1) (λ o ho => hin o (by simp [ho])) h.2⟩;rintro L a' w hL hn ⟨T,rfl,hJ⟩;refine h.1 L T w hL hn hJ _ (λ v w' hJ' => ⟨updO T o.dst v,?_,hJ'⟩)
    cases hdo:o.dst with
    | none => rfl
    | some d =>
     have:=hin o (by simp) d hdo;simp only [Act.put,updO];rw [ovr_set _ _ _ _ _ this]
  refine key ops.toList 0 ?_ hs;intro o ho d hdo;rw [<- hd];exact List.mem_filterMap.2 ⟨o,ho,hdo⟩
 ·rintro L a' w hL ⟨T,rfl,hJ⟩;exact he T w (hmono L T w hL hJ)
 ·refine ⟨λ k => a.tmps.getD k undef,by rw [ovr_self],?_⟩;have:On (Array.replicate ops.size false)=λ _ => False:=by
   funext i
   unfold On
   by_cases h:i < ops.size <;> simp [h]
  rw [this];exact h0
theorem wp_region_use {id:Nat} {a:Act} {w wx:World} (Fs:List (World->Value->Prop)) (us:List (Option Nat)) (cs:List Bool) (ds:List (Option Nat)) (dl:List Nat) (pi d0:Nat) (P0:World->Value->Prop) (hpi:pi < ops.size)
  (hm:P.follows .mixedOrders=true) (ht:topo .any ops=true) (hd:ops.toList.map (·.dst)=ds) (hdl:ds.filterMap (λ x => x)=dl) (hnd:dl.Nodup) (hok:okUse ops us cs=true) (hop:okPre ops us ds pi d0=true) (hP0:P0 w.drew (a.tmps.getD d0 undef)) (hPS:StayB P0)
  (hw:BH wx w) (hS:AllS Fs) (hC:AllK cs Fs)
  (hs:EachOp (λ i o => ∀ (T:Nat->Value) (W:World),BH wx W->(i=pi->P0 W (T d0))->AllU Fs us i ds T W (waits .any o) ->
   ∀ K:Act->World->Prop,(∀ v W',StepU us i wx W W'->(Fs.getD i λ _ _ => True) W' ((o.dst.map λ _ => v).getD undef)->K (({ a with tmps:=ovr a.tmps T dl }:Act).put o.dst v) W') ->
    wpOp P ops Q i K { a with tmps:=ovr a.tmps T dl } W) 0 ops.toList)
  (he:∀ T W,BH wx W->AllU Fs us ops.size ds T W (List.range ops.size)->Q .normal { a with tmps:=ovr a.tmps T dl } W):(Code.region id ops true).wp P Q a w:=by
 have hnd':(ds.filterMap _root_.id).Nodup:=by
  have:ds.filterMap _root_.id=dl:=hdl;rw [this]; exact hnd
 have hdst:∀ (i:Nat) (o:Oper),ops[i]?=some o->i < ops.size/\o.dst=ds.getD i none:=by
  intro i o ho;have hi:i < ops.size:=(Array.getElem?_eq_some_iff.1 ho).1;refine ⟨hi,?_⟩;have h1:(ops.toList.map (·.dst))[i]?=some o.dst:=by simp [ho]
  rw [hd] at h1;rw [List.getD_eq_getElem?_getD,h1]; rfl
 have hus:∀ k,ops.size<=k->True:=λ _ _ => trivial
 have huse:∀ i k,i < ops.size->k < ops.size->bigU us i=true->k ≠ i->us.getD k none ≠ some i->cs.getD k false=true\/i∈waitsAt ops k\/∃ u,us.getD k none=some u/\u∈waitsAt ops i:=by
  intro i k hi hk hb hne hnu;unfold okUse at hok;rw [List.all_eq_true] at hok;have h1:=hok i (by simpa using hi);rw [hb,Bool.not_true,Bool.false_or,List.all_eq_true] at h1;have h2:=h1 k (by simpa using hk);simp only [Bool.or_eq_true,beq_iff_eq,List.contains_iff_mem] at h2;rcases h2 with (((h | h) | h) | h) | h
  ·exact absurd h hne
  ·exact absurd h hnu
  ·exact .inl h
  ·exact .inr (.inl h)
  ·refine .inr (.inr ?_)
   cases hu:us.getD k none with
   | none => rw [hu] at h; simp at h
   | some u => rw [hu] at h; exact ⟨u,rfl,by simpa using h⟩
 have hwt:∀ k o,ops[k]?=some o->waitsAt ops k=waits .any o:=by
  intro k o ho; unfold waitsAt; rw [ho]; rfl
 have hpre:∀ i,i < ops.size->(bigU us i=true\/ds.getD i none=some d0)->i ≠ pi->∃ j,j < ops.size/\j∈waitsAt ops i/\(j=pi\/pi∈waitsAt ops j):=by
  intro i hi hb hne;unfold okPre at hop;rw [List.all_eq_true] at hop;have h1:=hop i (by simpa using hi);simp only [Bool.or_eq_true,beq_iff_eq,List.any_eq_true,Bool.and_eq_true,decide_eq_true_eq,List.contains_iff_mem,Bool.not_eq_true',beq_eq_false_iff_ne] at h1;rcases h1 with (h | h) | ⟨j,hj,hjl,h⟩
  ·exfalso
   rcases hb with hb | hb
   ·rw [h.1] at hb; cases hb
   ·exact h.2 hb
  ·exact absurd h hne
  ·exact ⟨j,hjl,hj,h⟩
 refine wp_region_flow0 (λ L T W => BH wx W/\(¬ L pi->P0 W (T d0))/\(∀ k,k < ops.size->L k->∀ d∈waitsAt ops k,L d)/\∀ k,k < ops.size->L k->(∀ u,us.getD k none=some u->u < ops.size->¬ L u)->(Fs.getD k λ _ _ => True) W (dv ds T k)) dl hm ht ?_ ⟨hw.drew,λ _ => hP0,λ k _ h => h.elim,λ k _ h => h.elim⟩ ?_ ?_ ?_
 ·unfold dsts;rw [<- hdl,<- hd];simp [List.filterMap_map]
  rfl
 ·have key:∀ (l:List Oper) (k:Nat),(∀ j o,l[j]?=some o->ops[k + j]?=some o) ->
    EachOp (λ i o => ∀ (T:Nat->Value) (W:World),BH wx W->(i=pi->P0 W (T d0))->AllU Fs us i ds T W (waits .any o) ->
     ∀ K:Act->World->Prop,(∀ v W',StepU us i wx W W'->(Fs.getD i λ _ _ => True) W' ((o.dst.map λ _ => v).getD undef)->K (({ a with tmps:=ovr a.tmps T dl }:Act).put o.dst v) W') ->
      wpOp P ops Q i K { a with tmps:=ovr a.tmps T dl } W) k l ->
    EachOp (λ i o => ∀ (L:Nat->Prop) (T:Nat->Value) (w:World),AllL L (waits .any o)->¬ L i->(BH wx w/\(¬ L pi->P0 w (T d0))/\(∀ k,k < ops.size->L k->∀ d∈waitsAt ops k,L d)/\∀ k,k < ops.size->L k->(∀ u,us.getD k none=some u->u < ops.size->¬ L u)->(Fs.getD k λ _ _ => True) w (dv ds T k)) ->
     ∀ K:Act->World->Prop,(∀ v w',(BH wx w'/\(¬ (pi=i\/L pi)->P0 w' (updO T o.dst v d0))/\(∀ k,k < ops.size->(k=i\/L k)->∀ d∈waitsAt ops k,(d=i\/L d))/\∀ k,k < ops.size->(k=i\/L k)->(∀ u,us.getD k none=some u->u < ops.size->¬ (u=i\/L u))->(Fs.getD k λ _ _ => True) w' (dv ds (updO T o.dst v) k))->K (({ a with tmps:=ovr a.tmps T dl }:Act).put o.dst v) w') ->
      wpOp P ops Q i K { a with tmps:=ovr a.tmps T dl } w) k l:=by
   intro l
   induction l with
   | nil => intro k _ _; trivial
   | cons o r ih =>
    intro k hin h;refine ⟨?_,ih (k + 1) (λ j o' ho => by have:=hin (j + 1) o' (by simpa using ho); rw [show k + 1 + j=k + (j + 1) by omega]; exact this) h.2⟩;rintro L T W hL hn ⟨hb,hp,hcl,hJ⟩ K hK;have hko:ops[k]?=some o:=by simpa using hin 0 o rfl
    obtain ⟨hkl,hkd⟩:=hdst k o hko;have hks:k < ops.size:=hkl;have hall:=AllL.all hL;refine h.1 T W hb (λ e => hp (e ▸ hn)) (AllU.mem λ d hdw hu => hJ d (Nat.lt_trans (topo_lt ht hko hdw) hks) (hall d hdw) λ u hu' _ hLu => ?_) K λ v W' hst hv => hK v W' ⟨hst.1,?_,?_,?_⟩
    ·rcases hu with hu | hu
     ·rw [hu] at hu'; cases hu'
     ·rw [hu] at hu'; cases hu'; exact hn hLu
    ·intro hnp;have hP:=hp λ h => hnp (.inr h)
     by_cases hbg:bigU us k=true\/ds.getD k none=some d0
     ·exfalso
      obtain ⟨j,hjl,hj,hjp⟩:=hpre k hks hbg λ e => hnp (.inl e.symm)
      rw [hwt _ _ hko] at hj;have hLj:=hall j hj;rcases hjp with rfl | hjp
      ·exact hnp (.inr hLj)
      ·exact hnp (.inr (hcl j hjl hLj pi hjp))
     ·have h1:bigU us k=false:=by
       cases hbb:bigU us k with
       | false => rfl
       | true => exact absurd (.inl hbb) hbg
      have hval:updO T o.dst v d0=T d0:=by
       cases hdo:o.dst with
       | none => rfl
       | some d' =>
        have hne:d0 ≠ d':=λ e => hbg (.inr (by rw [<- hkd,hdo,e]))
        simp [updO,upd,hne]
      rw [hval];exact hPS _ _ _ hP (hst.2 h1)
    ·rintro j hj (rfl | hLj) d hd
     ·rw [hwt _ _ hko] at hd; exact .inr (hall d hd)
     ·exact .inr (hcl j hj hLj d hd)
    ·rintro j hj hLj halive
     by_cases hjk:j=k
     ·subst hjk;have:dv ds (updO T o.dst v) j=(o.dst.map λ _ => v).getD undef:=by
       unfold dv;rw [<- hkd]
       cases hdo:o.dst with
       | none => rfl
       | some d => simp [updO,upd]
      rw [this]; exact hv
     ·have hLj:L j:=hLj.resolve_left hjk;have hval:dv ds (updO T o.dst v) j=dv ds T j:=by
       unfold dv
       cases hdj:ds.getD j none with
       | none => rfl
       | some d =>
        cases hdo:o.dst with
        | none => rfl
        | some d' =>
         have hne:d ≠ d':=λ e => by
          rw [hdo] at hkd;exact hjk (nodup_some hnd' hdj (by rw [<- hkd,e]))
         simp [updO,upd,hne]
      rw [hval];have hF:=hJ j hj hLj λ u hu hul hLu => halive u hu hul (.inr hLu)
      cases hbig:bigU us k with
      | false => exact AllS.get j hS _ _ _ hF (hst.2 hbig)
      | true =>
       have hnu:us.getD j none ≠ some k:=λ e => halive k e hks (.inl rfl)
       rcases huse k j hks hj hbig hjk hnu with hc | hc | ⟨u,hu,hc⟩
       ·exact AllK.get j hC hc _ _ _ hF
       ·exact absurd (hcl j hj hLj k hc) hn
       ·rw [hwt _ _ hko] at hc;exact absurd (.inr (hall u hc)) (halive u hu (Nat.lt_trans (topo_lt ht hko hc) hks))
  exact key ops.toList 0 (λ j o ho => by simpa using ho) hs
 ·rintro T W ⟨hb,_,_,hJ⟩;refine he T W hb (AllU.mem λ k hk hu => hJ k (by simpa using hk) (by simpa using hk) λ u hu' hul _ => ?_);rcases hu with hu | hu
  ·rw [hu] at hu'; cases hu'
  ·rw [hu] at hu'; cases hu'; omega
 ·rintro L T W hL ⟨hb,hp,hcl,hJ⟩;refine ⟨hb,λ h => ?_,λ k hk _ d hd => ?_,λ k hk _ hal => hJ k hk (hL k hk) λ u hu hul _ => hal u hu hul hul⟩
  ·exact absurd hpi h
  obtain ⟨o,ho⟩:∃ o,ops[k]?=some o:=⟨ops[k],Array.getElem?_eq_getElem hk⟩;rw [hwt k o ho] at hd;exact Nat.lt_trans (topo_lt ht ho hd) hk
end
def AllI:List (Nat × Value)->(Nat->Value)->Prop
 | [],_ => True
 | (d,v) :: r,T => T d=v/\AllI r T
theorem AllI.mem:∀ {sl:List (Nat × Value)} {T:Nat->Value},AllI sl T->∀ {d v},(d,v)∈sl->T d=v
 | [],_,_,_,_,h => by simp at h
 | (d',v') :: r,T,hA,d,v,h => by
  rcases List.mem_cons.1 h with h | h
  ·cases h; exact hA.1
  ·exact AllI.mem hA.2 h
theorem AllI.of:∀ {sl:List (Nat × Value)} {T:Nat->Value},(∀ d v,(d,v)∈sl->T d=v)->AllI sl T
 | [],_,_ => trivial
 | (d,v) :: r,T,h => ⟨h d v (by simp),AllI.of λ d' v' hm => h d' v' (by simp [hm])⟩
section
variable {P : Program} {ops : Array Oper} {Q : Exit → Act → World → Prop}
end
def NoG (G:Nat->Prop) (w:World):Prop:=∀ g,G g->∀ cur t fr,w.heap[g]?=some (.cells cur t fr)->∀ u∈cur.toList,NoInt u
theorem U.kept {G:Nat->Prop} {w w':World} {ao:Option Addr} {l:List Nat} (h:U w ao l) (hk:Kept G w w') (hp:NoG G w):U w' ao l:=by
 intro i hi;obtain ⟨b,off,e,hc⟩:=h i hi;refine ⟨b,off,e,?_⟩
 by_cases hb:G b
 ·exfalso
  unfold World.cell? at hc;simp only at hc
  cases ho:w.heap[b]? with
  | none => rw [ho] at hc; simp at hc
  | some ob =>
   rw [ho] at hc
   cases ob with
   | cells cur t fr =>
    simp only [Option.isSome_none,Bool.false_eq_true,if_false] at hc;exact hp b hb cur t fr ho _ (by have:=Array.mem_of_getElem? hc; exact Array.mem_toList_iff.2 this) _ _ rfl
   | _ => simp at hc
 ·exact hk.cell hc hb
theorem IntV.kept {G:Nat->Prop} {w w':World} {u:Value} {z:Int} (h:IntV w u z) (hk:Kept G w w') (hp:NoG G w):IntV w' u z:=by
 obtain ⟨n1,ao1,L1,c1,rfl,Hn1,HL1,HB1,hc1,hl1,hU1⟩:=h;exact ⟨n1,ao1,L1,c1,rfl,Hn1,HL1,HB1,hc1,hl1,hU1.kept hk hp⟩
theorem RatV.kept {G:Nat->Prop} {w w':World} {u:Value} {r:Rat} (h:RatV w u r) (hk:Kept G w w') (hp:NoG G w):RatV w' u r:=by
 obtain ⟨n1,a1,l1,c1,n2,a2,l2,c2,e,h1,h2⟩:=h;exact ⟨n1,a1,l1,c1,n2,a2,l2,c2,e,h1.kept hk hp,h2.kept hk hp⟩
theorem VQ.kept {G:Nat->Prop} {w w':World} {u:Value} {b:Bool} (h:VQ w u b) (hk:Kept G w w') (hp:NoG G w):VQ w' u b:=by
 obtain ⟨x1,x2,l1,l2,a1,a2,c1,c2,e,h1,h2,k1,k2,h3,h4,h5⟩:=h;exact ⟨x1,x2,l1,l2,a1,a2,c1,c2,e,h1,h2,k1,k2,h3.kept hk hp,h4.kept hk hp,h5⟩
theorem QV.kept {G:Nat->Prop} {w w':World} {u:Value} {o:Qo} (h:QV w u o) (hk:Kept G w w') (hp:NoG G w):QV w' u o:=by
 cases o
 ·exact VQ.kept h hk hp
 ·exact RatV.kept h hk hp
theorem UQ.kept {G:Nat->Prop} {w w':World} {ao:Option Addr} {l:List Qo} (h:UQ w ao l) (hk:Kept G w w') (hp:NoG G w) (ha:∀ a,ao=some a->¬ G a.block):UQ w' ao l:=by
 intro i o hi;obtain ⟨b,off,n1,a1,l1,c1,n2,a2,l2,c2,e,f,hq⟩:=h i o hi;have hg:¬ G b:=ha _ e;exact ⟨b,off,n1,a1,l1,c1,n2,a2,l2,c2,e,⟨hk.cell f.c0 hg,hk.cell f.c1 hg,hk.cell f.c2 hg,hk.cell f.c3 hg,trivial,trivial,trivial,trivial⟩,hq.kept hk hp⟩
end Go.Proofs.YtfgffkmddanjjaaGreatDoor
