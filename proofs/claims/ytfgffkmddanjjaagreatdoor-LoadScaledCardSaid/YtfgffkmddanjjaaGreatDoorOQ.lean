/-
  Bounds and laws of fractions, plain.
-/
import Derived.Test.YtfgffkmddanjjaaGreatDoorQ7
import Derived.Test.YtfgffkmddanjjaaGreatDoorQ1
import Derived.Test.YtfgffkmddanjjaaGreatDoorI8
set_option linter.unusedVariables false
set_option linter.unusedSimpArgs false
namespace Go.Proofs.YtfgffkmddanjjaaGreatDoor
open Go.RowKit
def zaE (u:Value):Prop:=∀ k z,u ≠ .int k z
def NoI (w:World) (v:Value):Prop:=∀ g,v.ownBlock=some g->∀ cur t fr,w.heap[g]?=some (.cells cur t fr)->∀ u∈cur.toList,zaE u
theorem zc5 {z:Array Value} {n:Nat} {u:Value} (h:u∈(Builtin.zeroCells z n).toList):u∈z.toList:=by
 unfold Builtin.zeroCells at h;simp only [Array.toList_map,List.mem_map] at h;obtain ⟨i,hi,rfl⟩:=h;have hpos:0 < z.size:=by
  simp at hi;rcases Nat.eq_zero_or_pos z.size with h0 | h0
  ·rw [h0] at hi; omega
  ·exact h0
 have hlt:=Nat.mod_lt i hpos;rw [getElem!_pos z _ hlt];exact Array.mem_toList_iff.2 (Array.getElem_mem hlt)
theorem zds (w:World) (cur:Array Value) (e:TypeId) (n c:Nat) (h:∀ u∈cur.toList,zaE u):NoI (w.alloc (.cells cur e)) (.slice (some ⟨w.heap.size,0,none⟩) n c):=by
 intro g hg cur' t fr hc;simp only [Value.ownBlock,Option.some.injEq] at hg;subst hg;rw [heap_alloc_new] at hc;simp only [Option.some.injEq,Obj.cells.injEq] at hc;obtain ⟨rfl,_,_⟩:=hc;exact h
section
variable {P : Program} {ops : Array Oper} {rest : List Oper} {o : Oper} {a : Act} {Q : Exit → Act → World → Prop}
theorem zcf (w:World) (base:Nat) (t ty e:TypeId) (i:TypeInfo) (z:Value) (ht:P.underlying t=some (.slice e)) (hi:P.info? e=some i) (hz:i.zero=some z)
  (hzs:z.cells.size=i.size) (hsz:0 < i.size) (v:Value) (n:Nat) (xs:List Value) (hown:w.ownsRow base e i.size v n xs) (hp:NoI w v)
  (a:Addr) (m c:Nat) (news:List Value) (hl:news.length=m * i.size) (hnews:∀ j u,news[j]?=some u->w.cell? (a.add j)=some u) (h1:∀ u∈news,u.oneCell'=true)
  (h63:n + m<=maxLen) (hbytes:(n + m) * i.bytes<=140737488355328) (hbase:base<=w.heap.size) (hm:0 < m) (hzn:∀ u∈z.cells.toList,zaE u) (hnn:∀ u∈news,zaE u) :
  ∃ v' w',(Builtin.append_ #[t,t] ty #[v,.slice (some a) m c]).run P w=.ok v' w'/\w'.ownsRow base e i.size v' (n + m) (xs ++ news)/\w.grownBy w' v.ownBlock/\NoI w' v':=by
 obtain ⟨v',w',hr,h2,h3,h4⟩:=run_append_own (P:=P) w base t ty e i z i.size i.bytes ht hi hz rfl rfl hzs hsz v n xs hown a m c news hl hnews h1 h63 hbytes hbase;refine ⟨v',w',hr,h2,h3,?_⟩;have hm63:n + m<=9223372036854775807:=by simp only [maxLen] at h63; omega
 rcases hown.2 with ⟨rfl,rfl⟩ | ⟨g,cap,cur,rfl,hbg,hg,hnc,hcm,hcs,htake⟩
 ·have hr2:=run_append_nil (P:=P) w t ty e i z ht hi hz a m c news hl hnews hm (by omega) (by have hb:=hbytes; simp only [Nat.zero_add] at hb; omega);have he:=hr.symm.trans hr2;simp only [Result.ok.injEq] at he;obtain ⟨rfl,rfl⟩:=he;refine zds w.drew _ e _ _ λ u hu => ?_
  simp only [Array.toList_append,List.mem_append] at hu;rcases hu with hu | hu
  ·exact hnn u (by simpa using hu)
  ·exact hzn u (zc5 hu)
 ·by_cases hroom:n + m<=cap
  ·have hfit:n * i.size + news.length<=cur.size:=by rw [hl,hcs,<- Nat.add_mul]; exact Nat.mul_le_mul_right _ hroom
   have hr2:=run_append_room (P:=P) w t ty e i ht hi g n cap cur hg a m c news hl hnews h1 hroom hfit;have he:=hr.symm.trans hr2;simp only [Result.ok.injEq] at he;obtain ⟨rfl,rfl⟩:=he;intro g' hg' cur' t' fr' hc';simp only [Value.ownBlock,Option.some.injEq] at hg';subst hg';rw [setRow_heap w g cur _ e _ hg] at hc';simp only [Option.some.injEq,Obj.cells.injEq] at hc';obtain ⟨rfl,_,_⟩:=hc';have hcur:=hp g rfl cur e _ hg;intro u hu;simp only [List.mem_append] at hu;rcases hu with (hu | hu) | hu
   ·exact hcur u (List.mem_of_mem_take hu)
   ·exact hnn u hu
   ·exact hcur u (List.mem_of_mem_drop hu)
  ·have holds:∀ j u,xs[j]?=some u->w.cell? ((⟨g,0,none⟩:Addr).add j)=some u:=hown.cells (g:=g) rfl;have hr2:=run_append_grow (P:=P) w t ty e i z ht hi hz ⟨g,0,none⟩ n cap xs hown.1 holds a m c news hl hnews (by omega) (by omega) (growslice_fits (by omega) hbytes);have he:=hr.symm.trans hr2;simp only [Result.ok.injEq] at he;obtain ⟨rfl,rfl⟩:=he;have hcur:=hp g rfl cur e _ hg;refine zds w.drew _ e _ _ λ u hu => ?_
   simp only [Array.toList_append,List.mem_append] at hu;rcases hu with (hu | hu) | hu
   ·have:u∈xs:=by simpa using hu
    rw [<- htake] at this;exact hcur u (List.mem_of_mem_take this)
   ·exact hnn u (by simpa using hu)
   ·exact hzn u (zc5 hu)
end
theorem U.grown {w w':World} {v:Value} {ao:Option Addr} {l:List Nat} (h:U w ao l) (hg:w.grownBy w' v.ownBlock) (hp:NoI w v):U w' ao l:=by
 intro i hi;obtain ⟨b,off,e,hc⟩:=h i hi;refine ⟨b,off,e,?_⟩;have hlt:b < w.heap.size:=zag hc
 by_cases hb:v.ownBlock=some b
 ·exfalso
  unfold World.cell? at hc;simp only at hc
  cases ho:w.heap[b]? with
  | none => rw [ho] at hc; simp at hc
  | some ob =>
   rw [ho] at hc
   cases ob with
   | cells cur t fr =>
    simp only [Option.isSome_none,Bool.false_eq_true,if_false] at hc;exact hp b hb cur t fr ho _ (by have:=Array.mem_of_getElem? hc; exact Array.mem_toList_iff.2 this) _ _ rfl
   | _ => simp at hc
 ·exact hg.cell (a:=⟨b,off + i,none⟩) hc (λ e => hb e.symm)
theorem zai.grown {w w':World} {v u:Value} {z:Int} (h:zai w u z) (hg:w.grownBy w' v.ownBlock) (hp:NoI w v):zai w' u z:=by
 obtain ⟨n1,ao1,L1,c1,rfl,Hn1,HL1,HB1,hc1,hl1,hU1⟩:=h;exact ⟨n1,ao1,L1,c1,rfl,Hn1,HL1,HB1,hc1,hl1,hU1.grown hg hp⟩
theorem zac.grown {w w':World} {v u:Value} {r:Rat} (h:zac w u r) (hg:w.grownBy w' v.ownBlock) (hp:NoI w v):zac w' u r:=by
 obtain ⟨n1,a1,l1,c1,n2,a2,l2,c2,e,h1,h2⟩:=h;exact ⟨n1,a1,l1,c1,n2,a2,l2,c2,e,h1.grown hg hp,h2.grown hg hp⟩
def zm9 (w:World) (B:Nat) (v:Value) (l:List Rat):Prop :=
 ∃ xs:List Value,w.ownsRow B 32 4 v l.length xs/\NoI w v /\
  ∀ (i:Nat) (r:Rat),l[i]?=some r->∃ (n1:Bool) (a1:Option Addr) (l1 c1:Nat) (n2:Bool) (a2:Option Addr) (l2 c2:Nat),
   xs[i * 4]?=some (.bool n1)/\xs[i * 4 + 1]?=some (.slice a1 l1 c1)/\xs[i * 4 + 2]?=some (.bool n2)/\xs[i * 4 + 3]?=some (.slice a2 l2 c2)/\zac w (qA n1 a1 l1 c1 n2 a2 l2 c2) r
theorem zm9.nil (w:World) (B:Nat):zm9 w B (.slice none 0 0) [] :=
 ⟨[],World.ownsRow_nil _ _ _ _,λ g hg => by simp [Value.ownBlock] at hg,λ i r h => by simp at h⟩
theorem zbg {w w':World} {B e size n:Nat} {v:Value} {xs:List Value} (h:w.ownsRow B e size v n xs) (hb:BH w w'):w'.ownsRow B e size v n xs:=by
 refine ⟨h.1,h.2.imp id ?_⟩;rintro ⟨g,cap,cur,hv,hB,hg,r⟩;have hlt:g < w.heap.size:=(Array.getElem?_eq_some_iff.1 hg).1;exact ⟨g,cap,cur,hv,hB,(hb.block _ hlt).trans hg,r⟩
theorem zm9.mono {w w':World} {B:Nat} {v:Value} {l:List Rat} (h:zm9 w B v l) (hb:BH w w'):zm9 w' B v l:=by
 obtain ⟨xs,h1,h2,h3⟩:=h;refine ⟨xs,zbg h1 hb,?_,?_⟩
 ·intro g hg cur t fr hc;have hlt:=(h1.lt g hg).2;exact h2 g hg cur t fr ((hb.block _ hlt).symm.trans hc)
 ·intro i r hi;obtain ⟨n1,a1,l1,c1,n2,a2,l2,c2,e0,e1,e2,e3,hr⟩:=h3 i r hi;exact ⟨n1,a1,l1,c1,n2,a2,l2,c2,e0,e1,e2,e3,hr.mono hb⟩
theorem Tryz.info32:(Tryz.prog.info? 32).map (λ i => (i.zero,i.size,i.bytes))=some (some (.agg #[.bool false,.slice none 0 0,.bool false,.slice none 0 0]),4,64):=by kernel_rfl
theorem zf4 {w:World} {g:Nat} {o:Obj} (h:w.heap[g]?=some o):g < w.heap.size:=by
 by_cases hb:g < w.heap.size
 ·exact hb
 ·rw [Array.getElem?_eq_none (by omega)] at h; cases h
structure zaf (G:Nat->Prop) (w w':World):Prop where
 os:w'.os=w.os
 tape:w'.tape=w.tape
 output:w'.output=w.output
 size:w.heap.size<=w'.heap.size
 block:∀ k,k < w.heap.size->¬ G k->w'.heap[k]?=w.heap[k]?
section
variable {G : Nat → Prop}
theorem zaf.refl (w:World):zaf G w w:=⟨rfl,rfl,rfl,nl,λ _ _ _ => rfl⟩
theorem zaf.trans {a b c:World} (h:zaf G a b) (k:zaf G b c):zaf G a c :=
 ⟨k.os.trans h.os,k.tape.trans h.tape,k.output.trans h.output,Nat.le_trans h.size k.size,λ i hi hg => (k.block i (Nat.lt_of_lt_of_le hi h.size) hg).trans (h.block i hi hg)⟩
theorem zaf.of_below {w w':World} (h:BH w w'):zaf G w w':=⟨h.os,h.tape,h.output,h.size,λ k hk _ => h.block k hk⟩
theorem zaf.drew {a w:World} (h:zaf G a w):zaf G a w.drew:=⟨h.os,h.tape,h.output,h.size,h.block⟩
theorem zaf.setCell {a w:World} (h:zaf G a w) {p:Addr} (hp:G p.block) (u:Value):zaf G a (w.setCell p u) :=
 h.trans ⟨rfl,rfl,rfl,by simp [World.setCell],λ k _ hg => Below.heap_setCell _ _ _ _ (λ e => hg (e ▸ hp))⟩
theorem zaf.below {B:Nat} {w w':World} (h:zaf G w w') (hG:∀ b,G b->B<=b) (hB:B<=w.heap.size):Below B w w' :=
 ⟨h.os,h.tape,h.output,h.size,λ k hk => h.block k (by omega) (λ hg => by have:=hG k hg; omega)⟩
theorem zaf.cell {w w':World} (h:zaf G w w') {p:Addr} {v:Value} (hc:w.cell? p=some v) (hp:¬ G p.block):w'.cell? p=some v :=
 (World.cell?_of_block (w:=w) (h.block p.block (zag hc) hp)).trans hc
theorem zaf.heap {w w':World} (h:zaf G w w') {g:Nat} {o:Obj} (hc:w.heap[g]?=some o) (hp:¬ G g):w'.heap[g]?=some o :=
 (h.block g (zf4 hc) hp).trans hc
end
def Row (w:World) (g:Nat) (E:TypeId) (xs:List Value):Prop:=w.heap[g]?=some (.cells xs.toArray E (0,0))
theorem Row.lt {w:World} {g:Nat} {E:TypeId} {xs:List Value} (h:Row w g E xs):g < w.heap.size:=zf4 h
theorem Row.mono {w w':World} {G:Nat->Prop} {g:Nat} {E:TypeId} {xs:List Value} (h:Row w g E xs) (hk:zaf G w w') (hg:¬ G g):Row w' g E xs:=hk.heap h hg
theorem Row.below {w w':World} {g:Nat} {E:TypeId} {xs:List Value} (h:Row w g E xs) (hk:BH w w'):Row w' g E xs:=(hk.block g h.lt).trans h
theorem Row.cell {w:World} {g:Nat} {E:TypeId} {xs:List Value} (h:Row w g E xs) {k:Nat} (hk:k < xs.length):w.cell? ⟨g,k,none⟩=some xs[k]:=by
 unfold Row at h;simp [World.cell?,h,hk]
theorem Row.free {w:World} {g:Nat} {E:TypeId} {xs:List Value} (h:Row w g E xs) (k:Nat):w.frozen? ⟨g,k,none⟩=false:=by
 unfold Row at h;simp [World.frozen?,h]
theorem Row.set {w:World} {g:Nat} {E:TypeId} {xs:List Value} (h:Row w g E xs) (k:Nat) (x:Value):Row (w.setCell ⟨g,k,none⟩ x) g E (xs.set k x):=by
 unfold Row at *;rw [setCell_eq_setRow w g k _ E (0,0) x h,setRow_heap w g _ _ E _ h];simp
theorem Row.n3 {w:World} {g:Nat} {E:TypeId} {x y z:Value} (h:Row w g E [x,y,z]):w.cell? ⟨g,0,none⟩=some x/\w.cell? ⟨g,1,none⟩=some y/\w.cell? ⟨g,2,none⟩=some z :=
 ⟨h.cell (k:=0) (by simp),h.cell (k:=1) (by simp),h.cell (k:=2) (by simp)⟩
theorem Row.n4 {w:World} {g:Nat} {E:TypeId} {x y z u:Value} (h:Row w g E [x,y,z,u]):w.cell? ⟨g,0,none⟩=some x/\w.cell? ⟨g,1,none⟩=some y/\w.cell? ⟨g,2,none⟩=some z/\w.cell? ⟨g,3,none⟩=some u :=
 ⟨h.cell (k:=0) (by simp),h.cell (k:=1) (by simp),h.cell (k:=2) (by simp),h.cell (k:=3) (by simp)⟩
end Go.Proofs.YtfgffkmddanjjaaGreatDoor
namespace Rq
theorem zfx {x d:Int} (hd:d ≠ 0):(Rat.divInt x d).num.natAbs<=x.natAbs/\(Rat.divInt x d).den<=d.natAbs:=by
 have h1:=num_of (p:=x) hd;have h2:=den_of (p:=x) hd
 constructor
 ·rw [<- h1,Int.natAbs_tdiv]; exact Nat.div_le_self _ _
 ·have:(Rat.divInt x d).den=(d.tdiv (gS x d)).natAbs:=by rw [h2,Int.natAbs_natCast]
  rw [this,Int.natAbs_tdiv]; exact Nat.div_le_self _ _
def Bd (r:Rat) (N D:Nat):Prop:=r.num.natAbs<=N/\r.den<=D
theorem bd_of {x d:Int} {N D:Nat} (hd:d ≠ 0) (h1:x.natAbs<=N) (h2:d.natAbs<=D):Bd (Rat.divInt x d) N D :=
 ⟨Nat.le_trans (zfx hd).1 h1,Nat.le_trans (zfx hd).2 h2⟩
theorem mul_bd {x y:Int} {A B:Nat} (h1:x.natAbs<=A) (h2:y.natAbs<=B):(x * y).natAbs<=A * B:=by
 rw [Int.natAbs_mul]; exact Nat.mul_le_mul h1 h2
theorem dd_ne' (a b:Rat):(a.den:Int) * (b.den:Int) ≠ 0:=Int.mul_ne_zero (den_ne a) (den_ne b)
theorem bd_dd {a b:Rat} {N M D E:Nat} (h1:Bd a N D) (h2:Bd b M E):((a.den:Int) * (b.den:Int)).natAbs<=D * E :=
 mul_bd (by rw [Int.natAbs_natCast]; exact h1.2) (by rw [Int.natAbs_natCast]; exact h2.2)
theorem bd_x {a b:Rat} {N M D E:Nat} (h1:Bd a N D) (h2:Bd b M E):(a.num * (b.den:Int)).natAbs<=N * E :=
 mul_bd h1.1 (by rw [Int.natAbs_natCast]; exact h2.2)
theorem bd_mul {a b:Rat} {N M D E:Nat} (h1:Bd a N D) (h2:Bd b M E):Bd (a * b) (N * M) (D * E):=by
 rw [<- mul_eq];exact bd_of (dd_ne' a b) (mul_bd h1.1 h2.1) (bd_dd h1 h2)
end Rq
namespace Du
def sm:Nat->(Nat->Rat)->Rat
 | 0,_ => 0
 | n + 1,f => sm n f + f n
theorem zcy (n:Nat) (f g:Nat->Rat):sm n (λ k => f k + g k)=sm n f + sm n g:=by
 induction n with
 | zero => simp only [sm]; grind
 | succ n ih => simp only [sm,ih]; grind
theorem zgu (n:Nat) (f g:Nat->Rat):sm n (λ k => f k - g k)=sm n f - sm n g:=by
 induction n with
 | zero => simp only [sm]; grind
 | succ n ih => simp only [sm,ih]; grind
theorem zbP (n:Nat) (c:Rat) (f:Nat->Rat):sm n (λ k => c * f k)=c * sm n f:=by
 induction n with
 | zero => simp only [sm]; grind
 | succ n ih => simp only [sm,ih]; grind
theorem sm_zero (n:Nat):sm n (λ _ => 0)=0:=by
 induction n with
 | zero => rfl
 | succ n ih => simp only [sm,ih]; grind
theorem sm_congr (n:Nat) (f g:Nat->Rat) (h:∀ k,k < n->f k=g k):sm n f=sm n g:=by
 induction n with
 | zero => rfl
 | succ n ih => simp only [sm]; rw [ih (λ k hk => h k (by omega)),h n (by omega)]
theorem sm_le (n:Nat) (f g:Nat->Rat) (h:∀ k,k < n->f k<=g k):sm n f<=sm n g:=by
 induction n with
 | zero => simp only [sm]; grind
 | succ n ih => simp only [sm]; have:=ih (λ k hk => h k (by omega)); have:=h n (by omega); grind
theorem sm_nonneg (n:Nat) (f:Nat->Rat) (h:∀ k,k < n->0<=f k):0<=sm n f:=by
 have:=sm_le n (λ _ => 0) f h
 rwa [sm_zero] at this
theorem sm_swap (m n:Nat) (y x:Nat->Rat) (A:Nat->Nat->Rat):sm m (λ i => y i * sm n (λ k => A i k * x k))=sm n (λ k => x k * sm m (λ i => A i k * y i)):=by
 induction m with
 | zero =>
  show (0:Rat)=sm n (λ k => x k * 0)
  exact (sm_zero n).symm.trans (sm_congr _ _ _ λ k _ => by grind)
 | succ m ih =>
  simp only [sm];rw [ih,<- zbP,<- zcy];exact sm_congr _ _ _ λ k _ => by grind
structure Sol (m n:Nat) (A:Nat->Nat->Rat) (b x:Nat->Rat):Prop where
 pos:∀ k,k < n->0<=x k
 row:∀ i,i < m->sm n (λ k => A i k * x k)<=b i
structure Pri (m n:Nat) (A:Nat->Nat->Rat) (c y:Nat->Rat):Prop where
 pos:∀ i,i < m->0<=y i
 col:∀ k,k < n->c k<=sm m (λ i => A i k * y i)
section
variable {m n : Nat} {A : Nat → Nat → Rat} {b c x y : Nat → Rat}
theorem zmR:sm m (λ i => b i * y i) - sm n (λ k => c k * x k)=sm m (λ i => y i * (b i - sm n (λ k => A i k * x k))) + sm n (λ k => x k * (sm m (λ i => A i k * y i) - c k)):=by
 have e1:sm m (λ i => y i * (b i - sm n (λ k => A i k * x k)))=sm m (λ i => b i * y i) - sm m (λ i => y i * sm n (λ k => A i k * x k)):=by
  rw [<- zgu]; exact sm_congr _ _ _ λ k _ => by grind
 have e2:sm n (λ k => x k * (sm m (λ i => A i k * y i) - c k))=sm n (λ k => x k * sm m (λ i => A i k * y i)) - sm n (λ k => c k * x k):=by
  rw [<- zgu]; exact sm_congr _ _ _ λ k _ => by grind
 rw [e1,e2,sm_swap]
 grind
theorem zlh (hs:Sol m n A b x) (hp:Pri m n A c y):∀ i,i < m->0<=y i * (b i - sm n (λ k => A i k * x k)):=λ i hi =>
 Rat.mul_nonneg (hp.pos i hi) (by have:=hs.row i hi; grind)
theorem zlH (hs:Sol m n A b x) (hp:Pri m n A c y):∀ k,k < n->0<=x k * (sm m (λ i => A i k * y i) - c k):=λ k hk =>
 Rat.mul_nonneg (hs.pos k hk) (by have:=hp.col k hk; grind)
theorem weak (hs:Sol m n A b x) (hp:Pri m n A c y):0<=sm m (λ i => b i * y i) - sm n (λ k => c k * x k):=by
 rw [zmR (A:=A)];have h1:=sm_nonneg m _ (zlh hs hp);have h2:=sm_nonneg n _ (zlH hs hp)
 grind
theorem ray_none (hx:∀ k,k < n->0<=x k) (hr:∀ i,i < m->sm n (λ k => A i k * x k)<=0) (hc:0 < sm n (λ k => c k * x k)) (hp:Pri m n A c y):False:=by
 have hs:Sol m n A (λ _ => 0) x:=⟨hx,hr⟩;have h:=weak hs hp;have e:sm m (λ i => (0:Rat) * y i)=0:=(sm_congr m _ (λ _ => 0) λ k _ => by grind).trans (sm_zero m);rw [e] at h
 grind
end
def dotR:List Rat->List Rat->Rat
 | a :: l,b :: m => a * b + dotR l m
 | _,_ => 0
end Du
namespace Go.Proofs.YtfgffkmddanjjaaGreatDoor
open Go.RowKit
section
variable {P : Program} {ops : Array Oper} {Q : Exit → Act → World → Prop}
theorem zaf.wide {G H:Nat->Prop} {w w':World} (h:zaf G w w') (hG:∀ b,G b->H b):zaf H w w':=⟨h.os,h.tape,h.output,h.size,λ k hk hn => h.block k hk λ hg => hn (hG k hg)⟩
def dv (ds:List (Option Nat)) (T:Nat->Value) (k:Nat):Value:=((ds.getD k none).map T).getD undef
def zme (Fs:List (World->Value->Prop)) (ds:List (Option Nat)) (T:Nat->Value) (W:World):List Nat->Prop
 | [] => True
 | k :: r => (Fs.getD k λ _ _ => True) W (dv ds T k)/\zme Fs ds T W r
theorem zme.of {Fs:List (World->Value->Prop)} {ds:List (Option Nat)} {T:Nat->Value} {W:World}:∀ {l:List Nat} (k:Nat),zme Fs ds T W l->k∈l->(Fs.getD k λ _ _ => True) W (dv ds T k)
 | [],_,_,h => by simp at h
 | x :: r,k,h,hk => by
  rcases List.mem_cons.1 hk with rfl | hk
  ·exact h.1
  ·exact zme.of k h.2 hk
theorem zme.at {Fs:List (World->Value->Prop)} {ds:List (Option Nat)} {T:Nat->Value} {W:World} {n:Nat} (k:Nat) (h:zme Fs ds T W (List.range n)) (hk:k < n):(Fs.getD k λ _ _ => True) W (dv ds T k) :=
 zme.of k h (by simpa using hk)
def Oth (es:Nat->Option Nat) (k:Nat) (b:Nat):Prop:=∃ i,i ≠ k/\es i=some b
def Any (es:Nat->Option Nat) (b:Nat):Prop:=∃ i,es i=some b
theorem Oth.any {es:Nat->Option Nat} {k b:Nat} (h:Oth es k b):Any es b:=by obtain ⟨i,_,h⟩:=h; exact ⟨i,h⟩
def zm6 (H:Nat->Prop) (F:World->Value->Prop):Prop:=∀ (W W':World) (v:Value),F W v->zaf H W W'->F W' v
def znw (es:Nat->Option Nat):Nat->List (World->Value->Prop)->Prop
 | _,[] => True
 | k,F :: r => zm6 (Oth es k) F/\znw es (k + 1) r
theorem znw.get {es:Nat->Option Nat}:∀ {l:List (World->Value->Prop)} (j k:Nat),znw es j l->zm6 (Oth es (j + k)) (l.getD k λ _ _ => True)
 | [],_,_,_ => λ _ _ _ _ _ => trivial
 | _ :: _,_,0,h => h.1
 | _ :: r,j,k + 1,h => by have:=znw.get (l:=r) (j + 1) k h.2; rw [show j + (k + 1)=j + 1 + k by omega]; exact this
theorem zbh:∀ {ds:List (Option Nat)},(ds.filterMap id).Nodup->∀ {i k d:Nat},ds.getD i none=some d->ds.getD k none=some d->i=k
 | [],_,i,k,d,h,_ => by simp at h
 | none :: r,hn,i,k,d,h1,h2 => by
  have hn':(r.filterMap id).Nodup:=by simpa using hn
  match i,k with
  | 0,_ => simp at h1
  | _,0 => simp at h2
  | i + 1,k + 1 => rw [zbh hn' (i:=i) (k:=k) (by simpa using h1) (by simpa using h2)]
 | some x :: r,hn,i,k,d,h1,h2 => by
  have hn':x ∉ r.filterMap id/\(r.filterMap id).Nodup:=by simpa using hn
  have mem:∀ j,r.getD j none=some d->d∈r.filterMap id:=by
   intro j hj;refine List.mem_filterMap.2 ⟨some d,?_,rfl⟩;rw [List.getD_eq_getElem?_getD] at hj
   cases hg:r[j]? with
   | none => rw [hg] at hj; simp at hj
   | some y => rw [hg] at hj; simp at hj; subst hj; exact List.mem_of_getElem? hg
  match i,k with
  | 0,0 => rfl
  | 0,k + 1 =>
   simp at h1; subst h1;exact absurd (mem k (by simpa using h2)) hn'.1
  | i + 1,0 =>
   simp at h2; subst h2;exact absurd (mem i (by simpa using h1)) hn'.1
  | i + 1,k + 1 => rw [zbh hn'.2 (i:=i) (k:=k) (by simpa using h1) (by simpa using h2)]
end
section
variable {P : Program} {ops : Array Oper} {Q : Exit → Act → World → Prop}
def zln (W:World) (n:Nat):Nat->List Value->World
 | _,[] => W
 | k,v :: r => zln (W.setCell ⟨n,k,none⟩ v) n (k + 1) r
theorem ze7 (n:Nat):∀ (vs:List Value) (k:Nat) (W:World),zaf (λ b => b=n) W (zln W n k vs)
 | [],_,W => zaf.refl W
 | v :: r,k,W => ((zaf.refl W).setCell (G:=λ b => b=n) (p:=⟨n,k,none⟩) rfl v).trans (ze7 n r (k + 1) _)
theorem zgI {n:Nat} {E:TypeId}:∀ (vs xs pre:List Value) (W:World),Row W n E (pre ++ xs)->vs.length=xs.length->Row (zln W n pre.length vs) n E (pre ++ vs)
 | [],xs,pre,W,h,hl => by
  have:xs=[]:=List.eq_nil_of_length_eq_zero hl.symm;subst this; exact h
 | v :: r,[],pre,W,h,hl => by simp at hl
 | v :: r,x :: xs,pre,W,h,hl => by
  have h1:=h.set pre.length v;have e:(pre ++ x :: xs).set pre.length v=(pre ++ [v]) ++ xs:=by simp
  rw [e] at h1;have:=zgI r xs (pre ++ [v]) _ h1 (by simpa using hl);simp only [List.length_append,List.length_singleton,List.append_assoc,List.singleton_append] at this;exact this
structure Fb where
 st:Nat
 src:Nat
 E:TypeId
 z:List Value
def Sto (v:Value) (vs:List Value):Prop:=v=.agg vs.toArray\/vs=[v]
abbrev zdN:=(Nat->Prop)->(Nat->Value)->World->Prop
def Adj (sup:List Nat) (F:zdN):Prop:=∀ (G G':Nat->Prop) (X X':Nat->Value) (W W':World),F G X W->zaf G W W'->(∀ b,b < W.heap.size->G' b->G b)->(∀ j∈sup,X' j=X j)->F G' X' W'
theorem adj_true (sup:List Nat):Adj sup (λ _ _ _ => True):=λ _ _ _ _ _ _ h _ _ _ => h
def zef (ops:Array Oper) (k:Nat):List Nat:=k :: ((ops[k]?).map λ o => zaK .any o).getD []
def zoA (ops:Array Oper):Nat->List zdN->Prop
 | _,[] => True
 | k,F :: r => Adj (zef ops k) F/\zoA ops (k + 1) r
def zfH (Fs:List zdN) (G:Nat->Prop) (X:Nat->Value) (W:World):List Nat->Prop
 | [] => True
 | k :: r => (Fs.getD k λ _ _ _ => True) G X W/\zfH Fs G X W r
theorem zfH.mem {Fs:List zdN} {G:Nat->Prop} {X:Nat->Value} {W:World}:∀ {l:List Nat},(∀ k∈l,(Fs.getD k λ _ _ _ => True) G X W)->zfH Fs G X W l
 | [],_ => trivial
 | k :: r,h => ⟨h k (by simp),zfH.mem λ x hx => h x (by simp [hx])⟩
theorem zfH.of {Fs:List zdN} {G:Nat->Prop} {X:Nat->Value} {W:World}:∀ {l:List Nat} (k:Nat),zfH Fs G X W l->k∈l->(Fs.getD k λ _ _ _ => True) G X W
 | [],_,_,h => by simp at h
 | x :: r,k,h,hk => by
  rcases List.mem_cons.1 hk with rfl | hk
  ·exact h.1
  ·exact zfH.of k h.2 hk
theorem zfH.at {Fs:List zdN} {G:Nat->Prop} {X:Nat->Value} {W:World} {n:Nat} (k:Nat) (h:zfH Fs G X W (List.range n)) (hk:k < n):(Fs.getD k λ _ _ _ => True) G X W :=
 zfH.of k h (by simpa using hk)
def zcb (al:List (Option Fb)) (ops:Array Oper):Bool :=
 (List.range al.length).all λ i => match al.getD i none with
  | none => true
  | some fb => decide (i < ops.size) && decide (fb.st < ops.size) && decide (fb.src < ops.size) && ((ops[fb.st]?).map λ o => (zaK .any o).contains i && (zaK .any o).contains fb.src && o.dst.isNone).getD false &&
    ((ops[i]?).map λ o => o.dst.isSome).getD false && (al.getD fb.st none).isNone && (al.getD fb.src none).isNone &&
    (List.range al.length).all λ j => match al.getD j none with
     | none => true
     | some fc => decide (i=j) || decide (fb.st ≠ fc.st)
theorem ziC {al:List (Option Fb)} {i:Nat} {fb:Fb} (h:al.getD i none=some fb):i < al.length:=by
 by_cases hi:i < al.length
 ·exact hi
 ·rw [List.getD_eq_getElem?_getD,List.getElem?_eq_none (by omega)] at h; cases h
theorem zcb.get {al:List (Option Fb)} {ops:Array Oper} (h:zcb al ops=true) {i:Nat} {fb:Fb} (hi:al.getD i none=some fb) :
  i < ops.size/\fb.st < ops.size/\fb.src < ops.size/\(∀ o,ops[fb.st]?=some o->i∈zaK .any o/\fb.src∈zaK .any o/\o.dst=none)/\(∃ p,∀ o,ops[i]?=some o->o.dst=some p)/\al.getD fb.st none=none/\al.getD fb.src none=none /\
   ∀ j fc,al.getD j none=some fc->i ≠ j->fb.st ≠ fc.st:=by
 have h1:=List.all_eq_true.1 h i (by simpa using ziC hi);rw [hi] at h1;simp only [Bool.and_eq_true,decide_eq_true_eq] at h1;obtain ⟨⟨⟨⟨⟨⟨⟨h1,h2⟩,h3⟩,h4⟩,h5⟩,h6⟩,h7⟩,h8⟩:=h1;refine ⟨h1,h2,h3,λ o ho => ?_,?_,by simpa using h6,by simpa using h7,λ j fc hj hij => ?_⟩
 ·rw [ho] at h4;simp at h4;exact ⟨h4.1.1,h4.1.2,h4.2⟩
 ·rw [Array.getElem?_eq_getElem h1] at h5;simp at h5;obtain ⟨p,hp⟩:=Option.isSome_iff_exists.1 h5;refine ⟨p,λ o ho => ?_⟩;rw [Array.getElem?_eq_getElem h1] at ho
  cases ho; exact hp
 ·have h9:=List.all_eq_true.1 h8 j (by simpa using ziC hj);rw [hj] at h9;simp only [Bool.or_eq_true,decide_eq_true_eq] at h9;exact h9.resolve_left hij
def zmH (al:List (Option Fb)) (i:Nat):Bool:=(al.getD i none).isNone && al.all λ x => match x with
 | none => true
 | some fb => fb.st != i
theorem zmH.mk {al:List (Option Fb)} {i:Nat} (h:al.getD i none=none) (h2:∀ j fb,al.getD j none=some fb->fb.st ≠ i):zmH al i=true:=by
 unfold zmH;rw [h];simp only [Option.isNone_none,Bool.true_and,List.all_eq_true];intro x hx
 cases x with
 | none => rfl
 | some fb =>
  obtain ⟨j,hj,e⟩:=List.getElem_of_mem hx;have:=h2 j fb (by rw [List.getD_eq_getElem?_getD,gE hj,e]; rfl)
  simpa using this
def zbq (p:Nat->Fb->Prop):Nat->List (Option Fb)->Prop
 | _,[] => True
 | k,none :: r => zbq p (k + 1) r
 | k,some fb :: r => p k fb/\zbq p (k + 1) r
theorem zbq.at {p:Nat->Fb->Prop}:∀ {al:List (Option Fb)} {k j:Nat} {fb:Fb},zbq p k al->al.getD j none=some fb->p (k + j) fb
 | [],_,j,_,_,h => by simp at h
 | none :: r,k,0,_,_,h => by simp at h
 | some x :: r,k,0,fb,hp,h => by simp at h; subst h; exact hp.1
 | none :: r,k,j + 1,fb,hp,h => by
  have:=zbq.at (al:=r) (k:=k + 1) (j:=j) (fb:=fb) hp (by simpa using h);rw [show k + (j + 1)=k + 1 + j by omega]; exact this
 | some x :: r,k,j + 1,fb,hp,h => by
  have:=zbq.at (al:=r) (k:=k + 1) (j:=j) (fb:=fb) hp.2 (by simpa using h);rw [show k + (j + 1)=k + 1 + j by omega]; exact this
theorem zbq.get {p:Nat->Fb->Prop} {al:List (Option Fb)} {j:Nat} {fb:Fb} (h:zbq p 0 al) (hj:al.getD j none=some fb):p j fb:=by
 have:=h.at hj;rw [Nat.zero_add] at this; exact this
theorem zaD.imp {p q:Nat->Oper->Prop}:∀ (l:List Oper) (k:Nat),(∀ j o,l[j]?=some o->p (k + j) o->q (k + j) o)->zaD p k l->zaD q k l
 | [],_,_,_ => trivial
 | o :: r,k,h,hp => ⟨by have:=h 0 o rfl hp.1; exact this,zaD.imp r (k + 1) (λ j o' ho hp' => by have:=h (j + 1) o' (by simpa using ho) (by rw [show k + (j + 1)=k + 1 + j by omega]; exact hp'); rw [show k + 1 + j=k + (j + 1) by omega]; exact this) hp.2⟩
end
section
variable {P : Program} {ops : Array Oper} {Q : Exit → Act → World → Prop}
def zng (F:World->Value->Prop):Prop:=∀ (W W':World) (v:Value),F W v->F W' v
def znv (Fs:List (World->Value->Prop)) (us:List (Option Nat)) (i:Nat) (ds:List (Option Nat)) (T:Nat->Value) (W:World):List Nat->Prop
 | [] => True
 | k :: r => ((us.getD k none=none\/us.getD k none=some i)->(Fs.getD k λ _ _ => True) W (dv ds T k))/\znv Fs us i ds T W r
theorem znv.of {Fs:List (World->Value->Prop)} {us:List (Option Nat)} {i:Nat} {ds:List (Option Nat)} {T:Nat->Value} {W:World}:∀ {l:List Nat} (k:Nat),znv Fs us i ds T W l->k∈l->(us.getD k none=none\/us.getD k none=some i)->(Fs.getD k λ _ _ => True) W (dv ds T k)
 | [],_,_,h,_ => by simp at h
 | x :: r,k,h,hk,hu => by
  rcases List.mem_cons.1 hk with rfl | hk
  ·exact h.1 hu
  ·exact znv.of k h.2 hk hu
def zoz:List Bool->List (World->Value->Prop)->Prop
 | c :: cs,F :: r => (c=true->zng F)/\zoz cs r
 | _,_ => True
def zas (ops:Array Oper) (k:Nat):List Nat:=((ops[k]?).map λ o => zaK .any o).getD []
theorem zde.all {L:Nat->Prop}:∀ {l:List Nat},zde L l->∀ d,d∈l->L d
 | [],_,d,hd => by simp at hd
 | x :: r,h,d,hd => by
  rcases List.mem_cons.1 hd with rfl | hd
  ·exact h.1
  ·exact zde.all h.2 d hd
theorem zbj {id:Nat} {a:Act} {w:World} (J:(Nat->Prop)->(Nat->Value)->World->Prop) (ds:List Nat)
  (hm:P.follows .mixedOrders=true) (ht:zjt .any ops=true) (hd:zlF ops=ds)
  (h0:J (λ _ => False) (λ k => a.tmps.getD k undef) { w with drawn:=w.drawn + 1 })
  (hs:zaD (λ i o => ∀ (L:Nat->Prop) (T:Nat->Value) (w:World),zde L (zaK .any o)->¬ L i->J L T w ->
   ∀ K:Act->World->Prop,(∀ v w',J (λ j => j=i\/L j) (zbF T o.dst v) w'->K (({ a with tmps:=ovr a.tmps T ds }:Act).put o.dst v) w') ->
    wpOp P ops Q i K { a with tmps:=ovr a.tmps T ds } w) 0 ops.toList)
  (he:∀ T w,J (λ i => i < ops.size) T w->Q .normal { a with tmps:=ovr a.tmps T ds } w)
  (hmono:∀ L T w,(∀ i,i < ops.size->L i)->J L T w->J (λ i => i < ops.size) T w):(Code.region id ops true).wp P Q a w:=by
 refine wp_region_any hm (zdP (I:=λ L a' w' => ∃ T,a'={ a with tmps:=ovr a.tmps T ds }/\J L T w') ht ?_ ?_ _ _ _ _ (by simp) (by simp) ?_)
 ·have key:∀ (l:List Oper) (k:Nat),(∀ o∈l,∀ d,o.dst=some d->d∈ds) ->
    zaD (λ i o => ∀ (L:Nat->Prop) (T:Nat->Value) (w:World),zde L (zaK .any o)->¬ L i->J L T w ->
     ∀ K:Act->World->Prop,(∀ v w',J (λ j => j=i\/L j) (zbF T o.dst v) w'->K (({ a with tmps:=ovr a.tmps T ds }:Act).put o.dst v) w') ->
      wpOp P ops Q i K { a with tmps:=ovr a.tmps T ds } w) k l ->
    zaD (λ i o => ∀ L a' w,zde L (zaK .any o)->¬ L i->(∃ T,a'={ a with tmps:=ovr a.tmps T ds }/\J L T w) ->
     wpOp P ops Q i (λ a' w' => ∃ T,a'={ a with tmps:=ovr a.tmps T ds }/\J (λ j => j=i\/L j) T w') a' w) k l:=by
   intro l
   induction l with
   | nil => intro k _ _; trivial
   | cons o r ih =>
    intro k hin h;refine ⟨?_,ih (k + 1) (λ o ho => hin o (by simp [ho])) h.2⟩;rintro L a' w hL hn ⟨T,rfl,hJ⟩;refine h.1 L T w hL hn hJ _ (λ v w' hJ' => ⟨zbF T o.dst v,?_,hJ'⟩)
    cases hdo:o.dst with
    | none => rfl
    | some d =>
     have:=hin o (by simp) d hdo;simp only [Act.put,zbF];rw [zeu _ _ _ _ _ this]
  refine key ops.toList 0 ?_ hs;intro o ho d hdo;rw [<- hd];exact List.mem_filterMap.2 ⟨o,ho,hdo⟩
 ·rintro L a' w hL ⟨T,rfl,hJ⟩;exact he T w (hmono L T w hL hJ)
 ·refine ⟨λ k => a.tmps.getD k undef,by rw [zev],?_⟩;have:On (Array.replicate ops.size false)=λ _ => False:=by
   funext i
   unfold On
   by_cases h:i < ops.size <;> simp [h]
  rw [this];exact h0
end
def NoG (G:Nat->Prop) (w:World):Prop:=∀ g,G g->∀ cur t fr,w.heap[g]?=some (.cells cur t fr)->∀ u∈cur.toList,zaE u
theorem U.kept {G:Nat->Prop} {w w':World} {ao:Option Addr} {l:List Nat} (h:U w ao l) (hk:zaf G w w') (hp:NoG G w):U w' ao l:=by
 intro i hi;obtain ⟨b,off,e,hc⟩:=h i hi;refine ⟨b,off,e,?_⟩
 by_cases hb:G b
 ·exfalso
  unfold World.cell? at hc;simp only at hc
  cases ho:w.heap[b]? with
  | none => rw [ho] at hc; simp at hc
  | some ob =>
   rw [ho] at hc
   cases ob with
   | cells cur t fr =>
    simp only [Option.isSome_none,Bool.false_eq_true,if_false] at hc;exact hp b hb cur t fr ho _ (by have:=Array.mem_of_getElem? hc; exact Array.mem_toList_iff.2 this) _ _ rfl
   | _ => simp at hc
 ·exact hk.cell hc hb
theorem zai.kept {G:Nat->Prop} {w w':World} {u:Value} {z:Int} (h:zai w u z) (hk:zaf G w w') (hp:NoG G w):zai w' u z:=by
 obtain ⟨n1,ao1,L1,c1,rfl,Hn1,HL1,HB1,hc1,hl1,hU1⟩:=h;exact ⟨n1,ao1,L1,c1,rfl,Hn1,HL1,HB1,hc1,hl1,hU1.kept hk hp⟩
theorem zac.kept {G:Nat->Prop} {w w':World} {u:Value} {r:Rat} (h:zac w u r) (hk:zaf G w w') (hp:NoG G w):zac w' u r:=by
 obtain ⟨n1,a1,l1,c1,n2,a2,l2,c2,e,h1,h2⟩:=h;exact ⟨n1,a1,l1,c1,n2,a2,l2,c2,e,h1.kept hk hp,h2.kept hk hp⟩
theorem VQ.kept {G:Nat->Prop} {w w':World} {u:Value} {b:Bool} (h:VQ w u b) (hk:zaf G w w') (hp:NoG G w):VQ w' u b:=by
 obtain ⟨x1,x2,l1,l2,a1,a2,c1,c2,e,h1,h2,k1,k2,h3,h4,h5⟩:=h;exact ⟨x1,x2,l1,l2,a1,a2,c1,c2,e,h1,h2,k1,k2,h3.kept hk hp,h4.kept hk hp,h5⟩
theorem QV.kept {G:Nat->Prop} {w w':World} {u:Value} {o:Qo} (h:QV w u o) (hk:zaf G w w') (hp:NoG G w):QV w' u o:=by
 cases o
 ·exact VQ.kept h hk hp
 ·exact zac.kept h hk hp
theorem UQ.kept {G:Nat->Prop} {w w':World} {ao:Option Addr} {l:List Qo} (h:UQ w ao l) (hk:zaf G w w') (hp:NoG G w) (ha:∀ a,ao=some a->¬ G a.block):UQ w' ao l:=by
 intro i o hi;obtain ⟨b,off,n1,a1,l1,c1,n2,a2,l2,c2,e,f,hq⟩:=h i o hi;have hg:¬ G b:=ha _ e;exact ⟨b,off,n1,a1,l1,c1,n2,a2,l2,c2,e,⟨hk.cell f.c0 hg,hk.cell f.c1 hg,hk.cell f.c2 hg,hk.cell f.c3 hg,trivial,trivial,trivial,trivial⟩,hq.kept hk hp⟩
end Go.Proofs.YtfgffkmddanjjaaGreatDoor
