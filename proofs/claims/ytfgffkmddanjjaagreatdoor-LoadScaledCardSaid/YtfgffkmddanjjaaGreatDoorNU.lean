/-
  Facts that stay where blocks without limbs turn.
-/
import Derived.Test.YtfgffkmddanjjaaGreatDoorE14
import Derived.Test.YtfgffkmddanjjaaGreatDoorD5
import Derived.Test.YtfgffkmddanjjaaGreatDoorDv
set_option linter.unusedVariables false
set_option linter.unusedSimpArgs false
namespace Go.Proofs.YtfgffkmddanjjaaGreatDoor
open Go.RowKit
def zaI (u:Value):Prop:=∀ z,u ≠ .int .u32 z
def NoU (G:Nat->Prop) (w:World):Prop:=∀ g,G g->∀ cur t fr,w.heap[g]?=some (.cells cur t fr)->∀ u∈cur.toList,zaI u
theorem zaE.limb {u:Value} (h:zaE u):zaI u:=λ z => h .u32 z
theorem NoG.u {G:Nat->Prop} {w:World} (h:NoG G w):NoU G w:=λ g hg cur t fr hc u hu => (h g hg cur t fr hc u hu).limb
theorem Row.noU {w:World} {g:Nat} {E:TypeId} {xs:List Value} (h:Row w g E xs) (hx:∀ u∈xs,zaI u):NoU (λ k => k=g) w:=by
 intro k hk cur t fr hc;subst hk;have:=h.symm.trans hc;simp only [Option.some.injEq,Obj.cells.injEq] at this;obtain ⟨rfl,_,_⟩:=this;exact hx
theorem U.keptU {G:Nat->Prop} {w w':World} {ao:Option Addr} {l:List Nat} (h:U w ao l) (hk:zaf G w w') (hp:NoU G w):U w' ao l:=by
 intro i hi;obtain ⟨b,off,e,hc⟩:=h i hi;refine ⟨b,off,e,?_⟩
 by_cases hb:G b
 ·exfalso
  unfold World.cell? at hc;simp only at hc
  cases ho:w.heap[b]? with
  | none => rw [ho] at hc; simp at hc
  | some ob =>
   rw [ho] at hc
   cases ob with
   | cells cur t fr =>
    simp only [Option.isSome_none,Bool.false_eq_true,if_false] at hc;exact hp b hb cur t fr ho _ (by have:=Array.mem_of_getElem? hc; exact Array.mem_toList_iff.2 this) _ rfl
   | _ => simp at hc
 ·exact hk.cell hc hb
theorem zai.keptU {G:Nat->Prop} {w w':World} {u:Value} {z:Int} (h:zai w u z) (hk:zaf G w w') (hp:NoU G w):zai w' u z:=by
 obtain ⟨n1,ao1,L1,c1,rfl,Hn1,HL1,HB1,hc1,hl1,hU1⟩:=h;exact ⟨n1,ao1,L1,c1,rfl,Hn1,HL1,HB1,hc1,hl1,hU1.keptU hk hp⟩
theorem zac.keptU {G:Nat->Prop} {w w':World} {u:Value} {r:Rat} (h:zac w u r) (hk:zaf G w w') (hp:NoU G w):zac w' u r:=by
 obtain ⟨n1,a1,l1,c1,n2,a2,l2,c2,e,h1,h2⟩:=h;exact ⟨n1,a1,l1,c1,n2,a2,l2,c2,e,h1.keptU hk hp,h2.keptU hk hp⟩
theorem VQ.keptU {G:Nat->Prop} {w w':World} {u:Value} {b:Bool} (h:VQ w u b) (hk:zaf G w w') (hp:NoU G w):VQ w' u b:=by
 obtain ⟨x1,x2,l1,l2,a1,a2,c1,c2,e,h1,h2,k1,k2,h3,h4,h5⟩:=h;exact ⟨x1,x2,l1,l2,a1,a2,c1,c2,e,h1,h2,k1,k2,h3.keptU hk hp,h4.keptU hk hp,h5⟩
theorem QV.keptU {G:Nat->Prop} {w w':World} {u:Value} {o:Qo} (h:QV w u o) (hk:zaf G w w') (hp:NoU G w):QV w' u o:=by
 cases o
 ·exact VQ.keptU h hk hp
 ·exact zac.keptU h hk hp
theorem QAt.keptU {G:Nat->Prop} {w w':World} {xs:List Value} {i:Nat} {o:Qo} (h:QAt w xs i o) (hk:zaf G w w') (hp:NoU G w):QAt w' xs i o:=by
 obtain ⟨n1,a1,l1,c1,n2,a2,l2,c2,e0,e1,e2,e3,hr⟩:=h;exact ⟨n1,a1,l1,c1,n2,a2,l2,c2,e0,e1,e2,e3,hr.keptU hk hp⟩
theorem zaz.keptU {G:Nat->Prop} {w w':World} {B:Nat} {v:Value} {l:List Qo} (h:zaz w B v l) (hk:zaf G w w') (hp:NoU G w) (hv:∀ b,v.ownBlock=some b->¬ G b):zaz w' B v l:=by
 obtain ⟨xs,h1,h2,h3⟩:=h;exact ⟨xs,zaP h1 hk hv,h2.kept h1 hk hv,λ i o hi => (h3 i o hi).keptU hk hp⟩
def up (L:Nat->Nat->Rat) (i j:Nat) (r:Rat):Nat->Nat->Rat:=λ t c => if t=i/\c=j then r else L t c
theorem zk6 (L:Nat->Nat->Rat) (i j:Nat) (r:Rat):up L i j r i j=r:=by unfold up; rw [if_pos ⟨rfl,rfl⟩]
theorem zeU {L:Nat->Nat->Rat} {i j:Nat} {r:Rat} {t c:Nat} (h:t ≠ i\/c ≠ j):up L i j r t c=L t c:=by unfold up; rw [if_neg (by omega)]
def zbf (L:Nat->Nat->Rat) (i k:Nat):List Qo:=(List.range k).map λ j => some (L i j)
theorem zal (L:Nat->Nat->Rat) (i k:Nat):(zbf L i k).length=k:=by simp [zbf]
theorem zbs {L:Nat->Nat->Rat} {i k j:Nat} (h:j < k):(zbf L i k)[j]?=some (some (L i j)):=by
 unfold zbf; rw [List.getElem?_map,List.getElem?_range h]; rfl
theorem zhl {L M:Nat->Nat->Rat} {i t k:Nat} (h:∀ j,j < k->L i j=M t j):zbf L i k=zbf M t k:=by
 unfold zbf;exact List.map_congr_left λ j hj => by rw [h j (List.mem_range.1 hj)]
theorem zjN {L:Nat->Nat->Rat} {i k j:Nat} {r:Rat} (h:j < k):(zbf L i k).set j (some r)=zbf (up L i j r) i k:=by
 refine List.ext_getElem? λ c => ?_
 by_cases hc:c < k
 ·rw [zbs hc]
  by_cases e:c=j
  ·subst e;rw [List.getElem?_set_self (by rw [zal]; exact h),zk6]
  ·rw [List.getElem?_set_ne (λ h => e h.symm),zbs hc,zeU (.inr e)]
 ·rw [List.getElem?_eq_none (by simp [zal]; omega),List.getElem?_eq_none (by simp [zal]; omega)]
theorem zli {L:Nat->Nat->Rat} {i k j t:Nat} {r:Rat} (h:t ≠ i):zbf (up L i j r) t k=zbf L t k:=zhl λ _ _ => zeU (.inl h)
def zkr (bs:Nat->Nat) (m:Nat):List Value:=(List.range m).map λ i => .int .i64 (bs i:Nat)
theorem zcp (bs:Nat->Nat) (m:Nat):(zkr bs m).length=m:=by simp [zkr]
theorem zeN {bs:Nat->Nat} {m i:Nat} (h:i < m):(zkr bs m)[i]?=some (.int .i64 (bs i:Nat)):=by
 unfold zkr; rw [List.getElem?_map,List.getElem?_range h]; rfl
theorem zkq {bs:Nat->Nat} {m i k:Nat} (h:i < m):(zkr bs m).set i (.int .i64 (k:Nat))=zkr (λ t => if t=i then k else bs t) m:=by
 refine List.ext_getElem? λ c => ?_
 by_cases hc:c < m
 ·rw [zeN hc]
  by_cases e:c=i
  ·subst e;rw [List.getElem?_set_self (by rw [zcp]; exact h),if_pos rfl]
  ·rw [List.getElem?_set_ne (λ h => e h.symm),zeN hc,if_neg e]
 ·rw [List.getElem?_eq_none (by simp [zcp]; omega),List.getElem?_eq_none (by simp [zcp]; omega)]
theorem znK (g j:Nat):(⟨g,0,none⟩:Addr).add j=⟨g,j,none⟩:=by
 unfold Addr.add; split
 ·subst j; rfl
 ·simp
theorem zaQ {w:World} {B e s g n cap m:Nat} {xs:List Value} (h:w.ownsRow B e s (.slice (some ⟨g,0,none⟩) n cap) m xs) (j:Nat):w.frozen? ⟨g,j,none⟩=false:=by
 rcases h.2 with ⟨e,_⟩ | ⟨g',cap',cur,e,hB,hg,_⟩
 ·cases e
 ·cases e
  simp [World.frozen?,hg]
theorem zaA {w:World} {B e s g n cap m:Nat} {xs:List Value} (h:w.ownsRow B e s (.slice (some ⟨g,0,none⟩) n cap) m xs) {j:Nat} {u:Value} (hu:xs[j]?=some u):w.cell? ⟨g,j,none⟩=some u:=by
 have:=h.cells (g:=g) rfl j u hu;rw [znK] at this; exact this
theorem zaz.cells4 {w:World} {B g i n cap:Nat} {l:List Qo} {r:Rat} (h:zaz w B (.slice (some ⟨g,0,none⟩) n cap) l) (hi:l[i]?=some (some r)):∃ (n1:Bool) (a1:Option Addr) (l1 c1:Nat) (n2:Bool) (a2:Option Addr) (l2 c2:Nat),
  w.cell? ⟨g,i * 4,none⟩=some (.bool n1)/\w.cell? ⟨g,i * 4 + 1,none⟩=some (.slice a1 l1 c1)/\w.cell? ⟨g,i * 4 + 2,none⟩=some (.bool n2)/\w.cell? ⟨g,i * 4 + 3,none⟩=some (.slice a2 l2 c2) /\
  w.frozen? ⟨g,i * 4,none⟩=false/\w.frozen? ⟨g,i * 4 + 1,none⟩=false/\w.frozen? ⟨g,i * 4 + 2,none⟩=false/\w.frozen? ⟨g,i * 4 + 3,none⟩=false /\
  zac w (qA n1 a1 l1 c1 n2 a2 l2 c2) r:=by
 obtain ⟨xs,h1,h2,h3⟩:=h;obtain ⟨n1,a1,l1,c1,n2,a2,l2,c2,e0,e1,e2,e3,hq⟩:=h3 i _ hi;exact ⟨n1,a1,l1,c1,n2,a2,l2,c2,zaA h1 e0,zaA h1 e1,zaA h1 e2,zaA h1 e3,zaQ h1 _,zaQ h1 _,zaQ h1 _,zaQ h1 _,hq⟩
structure TB (W:World) (B g ga ca gb cb m n q:Nat) (rr cr:Nat->Nat) (L:Nat->Nat->Rat) (bs:Nat->Nat):Prop where
 env:∃ w0,Env w0/\w0.heap.size=B/\Below B w0 W
 box:Row W g 164 [.int .i64 (m:Nat),.int .i64 (n:Nat),.slice (some ⟨ga,0,none⟩) (m + 1) ca,.slice (some ⟨gb,0,none⟩) m cb,.int .i64 0]
 out:∀ i,i<=m->W.cell? ⟨ga,i,none⟩=some (.slice (some ⟨rr i,0,none⟩) (q + 1) (cr i))
 row:∀ i,i<=m->zaz W B (.slice (some ⟨rr i,0,none⟩) (q + 1) (cr i)) (zbf L i (q + 1))
 bas:W.ownsRow B 3 1 (.slice (some ⟨gb,0,none⟩) m cb) m (zkr bs m)
 bno:NoU (λ k => k=gb) W
 inj:∀ i t,i<=m->t<=m->rr i=rr t->i=t
 sepr:∀ i,i<=m->rr i ≠ g/\rr i ≠ ga/\rr i ≠ gb
 sep:g ≠ ga/\g ≠ gb/\ga ≠ gb
 low:B<=g/\B<=ga
 lt:ga < W.heap.size
 small:m<=1000/\n<=1000
 wq:q=n + m
section
variable {W W' : World} {B g ga ca gb cb m n q : Nat} {rr cr : Nat → Nat} {L : Nat → Nat → Rat} {bs : Nat → Nat}
theorem TB.lowB (h:TB W B g ga ca gb cb m n q rr cr L bs):B<=gb/\gb < W.heap.size:=h.bas.lt gb rfl
theorem TB.lowR (h:TB W B g ga ca gb cb m n q rr cr L bs) {i:Nat} (hi:i<=m):B<=rr i/\rr i < W.heap.size:=(h.row i hi).lt (rr i) rfl
theorem TB.size (h:TB W B g ga ca gb cb m n q rr cr L bs):B<=W.heap.size:=by have:=h.lowB; omega
theorem TB.Env' (h:TB W B g ga ca gb cb m n q rr cr L bs):Env W:=by
 obtain ⟨w0,h1,rfl,h2⟩:=h.env;exact h1.mono h2
theorem TB.kept {G:Nat->Prop} (h:TB W B g ga ca gb cb m n q rr cr L bs) (hk:zaf G W W') (hp:NoU G W) (hB:∀ b,G b->B<=b) (h1:¬ G g/\¬ G ga/\¬ G gb) (h2:∀ i,i<=m->¬ G (rr i)):TB W' B g ga ca gb cb m n q rr cr L bs:=by
 obtain ⟨w0,e1,e2,e3⟩:=h.env;refine ⟨⟨w0,e1,e2,e3.trans (hk.below hB h.size)⟩,h.box.mono hk h1.1,λ i hi => hk.cell (h.out i hi) h1.2.1,λ i hi => (h.row i hi).keptU hk hp λ b e => by cases e; exact h2 i hi,zaP h.bas hk λ b e => by cases e; exact h1.2.2,?_,h.inj,h.sepr,h.sep,h.low,Nat.lt_of_lt_of_le h.lt hk.size,h.small,h.wq⟩;intro k hkk cur t fr hc;subst hkk;exact h.bno k rfl cur t fr ((hk.block k h.lowB.2 h1.2.2).symm.trans hc)
theorem TB.mono (h:TB W B g ga ca gb cb m n q rr cr L bs) (hb:BH W W'):TB W' B g ga ca gb cb m n q rr cr L bs :=
 h.kept (G:=λ _ => False) (.of_below hb) (λ _ h => h.elim) (λ _ h => h.elim) ⟨_root_.id,_root_.id,_root_.id⟩ λ _ _ => _root_.id
theorem TB.cells4 (h:TB W B g ga ca gb cb m n q rr cr L bs) {i j:Nat} (hi:i<=m) (hj:j < q + 1):∃ (n1:Bool) (a1:Option Addr) (l1 c1:Nat) (n2:Bool) (a2:Option Addr) (l2 c2:Nat),
  W.cell? ⟨rr i,j * 4,none⟩=some (.bool n1)/\W.cell? ⟨rr i,j * 4 + 1,none⟩=some (.slice a1 l1 c1)/\W.cell? ⟨rr i,j * 4 + 2,none⟩=some (.bool n2)/\W.cell? ⟨rr i,j * 4 + 3,none⟩=some (.slice a2 l2 c2) /\
  W.frozen? ⟨rr i,j * 4,none⟩=false/\W.frozen? ⟨rr i,j * 4 + 1,none⟩=false/\W.frozen? ⟨rr i,j * 4 + 2,none⟩=false/\W.frozen? ⟨rr i,j * 4 + 3,none⟩=false /\
  zac W (qA n1 a1 l1 c1 n2 a2 l2 c2) (L i j):=(h.row i hi).cells4 (zbs hj)
theorem TB.basAt (h:TB W B g ga ca gb cb m n q rr cr L bs) {i:Nat} (hi:i < m):W.cell? ⟨gb,i,none⟩=some (.int .i64 (bs i:Nat))/\W.frozen? ⟨gb,i,none⟩=false :=
 ⟨zaA h.bas (zeN hi),zaQ h.bas i⟩
theorem zfX {w:World} {B e s g n cap m:Nat} {xs:List Value} (h:w.ownsRow B e s (.slice (some ⟨g,0,none⟩) n cap) m xs):n<=cap:=by
 rcases h.2 with ⟨e,_⟩ | ⟨g',cap',cur,e,hB,hg,hn,_⟩
 ·cases e
 ·cases e; exact hn
theorem TB.cap (h:TB W B g ga ca gb cb m n q rr cr L bs) {i:Nat} (hi:i<=m):q + 1<=cr i:=by
 obtain ⟨xs,h1,_⟩:=h.row i hi;exact zfX h1
theorem Row.n5 {w:World} {g:Nat} {E:TypeId} {x0 x1 x2 x3 x4:Value} (h:Row w g E [x0,x1,x2,x3,x4]):w.cell? ⟨g,0,none⟩=some x0/\w.cell? ⟨g,1,none⟩=some x1/\w.cell? ⟨g,2,none⟩=some x2/\w.cell? ⟨g,3,none⟩=some x3/\w.cell? ⟨g,4,none⟩=some x4 :=
 ⟨h.cell (k:=0) (by simp),h.cell (k:=1) (by simp),h.cell (k:=2) (by simp),h.cell (k:=3) (by simp),h.cell (k:=4) (by simp)⟩
theorem TB.noG (h:TB W B g ga ca gb cb m n q rr cr L bs) {i:Nat} (hi:i<=m):NoG (λ k => k=rr i) W:=by
 obtain ⟨xs,_,h2,_⟩:=h.row i hi;intro k hk cur t fr hc;subst hk;exact h2 (rr i) rfl cur t fr hc
theorem TB.uq (h:TB W B g ga ca gb cb m n q rr cr L bs) {i k:Nat} (hi:i<=m) (hk:k<=q + 1):UQ W (some ⟨rr i,0,none⟩) (zbf L i k):=by
 obtain ⟨ao,cap,e,hu⟩:=(h.row i hi).read;simp only [Value.slice.injEq] at e;obtain ⟨rfl,-,-⟩:=e;intro j o hj;have hjk:j < k:=by
  rcases Nat.lt_or_ge j k with h | h
  ·exact h
  ·rw [List.getElem?_eq_none (by rw [zal]; exact h)] at hj; cases hj
 rw [zbs hjk] at hj;exact hu j o (by rw [zbs (by omega)]; exact hj)
theorem TB.put (h:TB W B g ga ca gb cb m n q rr cr L bs) {i j:Nat} {n1:Bool} {a1:Option Addr} {l1 c1:Nat} {n2:Bool} {a2:Option Addr} {l2 c2:Nat} {r:Rat} (hi:i<=m) (hj:j < q + 1) (hv:zac W (qA n1 a1 l1 c1 n2 a2 l2 c2) r) :
  TB ((((W.setCell ⟨rr i,j * 4,none⟩ (.bool n1)).setCell ⟨rr i,j * 4 + 1,none⟩ (.slice a1 l1 c1)).setCell ⟨rr i,j * 4 + 2,none⟩ (.bool n2)).setCell ⟨rr i,j * 4 + 3,none⟩ (.slice a2 l2 c2)) B g ga ca gb cb m n q rr cr (up L i j r) bs /\
  zaf (λ k => k=rr i) W ((((W.setCell ⟨rr i,j * 4,none⟩ (.bool n1)).setCell ⟨rr i,j * 4 + 1,none⟩ (.slice a1 l1 c1)).setCell ⟨rr i,j * 4 + 2,none⟩ (.bool n2)).setCell ⟨rr i,j * 4 + 3,none⟩ (.slice a2 l2 c2)):=by
 obtain ⟨hput,hgr⟩:=(h.row i hi).put (o:=some r) (by rw [zal]; exact hj) hv;have hno:=(h.noG hi).u;have hk:zaf (λ k => k=rr i) W ((((W.setCell ⟨rr i,j * 4,none⟩ (.bool n1)).setCell ⟨rr i,j * 4 + 1,none⟩ (.slice a1 l1 c1)).setCell ⟨rr i,j * 4 + 2,none⟩ (.bool n2)).setCell ⟨rr i,j * 4 + 3,none⟩ (.slice a2 l2 c2)) :=
  (((((zaf.refl W:zaf (λ k => k=rr i) W W)).setCell (p:=⟨rr i,j * 4,none⟩) rfl _).setCell (p:=⟨rr i,j * 4 + 1,none⟩) rfl _).setCell (p:=⟨rr i,j * 4 + 2,none⟩) rfl _).setCell (p:=⟨rr i,j * 4 + 3,none⟩) rfl _
 refine ⟨?_,hk⟩;generalize ((((W.setCell ⟨rr i,j * 4,none⟩ (.bool n1)).setCell ⟨rr i,j * 4 + 1,none⟩ (.slice a1 l1 c1)).setCell ⟨rr i,j * 4 + 2,none⟩ (.bool n2)).setCell ⟨rr i,j * 4 + 3,none⟩ (.slice a2 l2 c2))=W' at *;obtain ⟨w0,e1,e2,e3⟩:=h.env;obtain ⟨s1,s2,s3⟩:=h.sepr i hi;refine ⟨⟨w0,e1,e2,e3.trans (hk.below (λ b e => by subst e; exact (h.lowR hi).1) h.size)⟩,h.box.mono hk (λ e => s1 e.symm),λ t ht => hk.cell (h.out t ht) (λ e => s2 e.symm),λ t ht => ?_,zaP h.bas hk λ b e => by cases e; exact λ e => s3 e.symm,?_,h.inj,h.sepr,h.sep,h.low,Nat.lt_of_lt_of_le h.lt hk.size,h.small,h.wq⟩
 ·by_cases e:t=i
  ·subst e;rw [<- zjN hj]; exact hput
  ·rw [zli e];exact (h.row t ht).keptU hk hno λ b eb => by cases eb; exact λ e2 => e (h.inj t i ht hi e2)
 ·intro k hkk cur t fr hc;subst hkk;exact h.bno k rfl cur t fr ((hk.block k h.lowB.2 λ e => s3 e.symm).symm.trans hc)
theorem TB.bset (h:TB W B g ga ca gb cb m n q rr cr L bs) {i:Nat} (hi:i < m) (k:Nat):TB (W.setCell ⟨gb,i,none⟩ (.int .i64 (k:Nat))) B g ga ca gb cb m n q rr cr L (λ t => if t=i then k else bs t)/\zaf (λ b => b=gb) W (W.setCell ⟨gb,i,none⟩ (.int .i64 (k:Nat))):=by
 have hk:zaf (λ b => b=gb) W (W.setCell ⟨gb,i,none⟩ (.int .i64 (k:Nat))):=(zaf.refl W:zaf (λ b => b=gb) W W).setCell (p:=⟨gb,i,none⟩) rfl _;refine ⟨?_,hk⟩;obtain ⟨w0,e1,e2,e3⟩:=h.env;obtain ⟨s1,s2,s3⟩:=h.sep;refine ⟨⟨w0,e1,e2,e3.trans (hk.below (λ b e => by subst e; exact h.lowB.1) h.size)⟩,h.box.mono hk s2,λ t ht => hk.cell (h.out t ht) s3,λ t ht => (h.row t ht).keptU hk h.bno λ b e => by cases e; exact (h.sepr t ht).2.2,?_,?_,h.inj,h.sepr,h.sep,h.low,Nat.lt_of_lt_of_le h.lt hk.size,h.small,h.wq⟩
 ·have:=za5 (k:=i) (x:=.int .i64 (k:Nat)) h.bas;rw [zkq hi] at this;exact this
 ·have hb:=h.bas;rcases hb.2 with ⟨e,_⟩ | ⟨g',cap',cur,e,hB,hg,_⟩
  ·cases e
  ·cases e
   intro k' hk' cur' t fr hc u hu;subst hk';rw [setCell_eq_setRow W k' i cur 3 (0,0) _ hg,setRow_heap W k' cur _ 3 _ hg] at hc;simp only [Option.some.injEq,Obj.cells.injEq] at hc;obtain ⟨rfl,_,_⟩:=hc;rw [Array.toList_setIfInBounds] at hu;rcases List.mem_or_eq_of_mem_set hu with hu | rfl
   ·exact h.bno k' rfl cur _ _ hg u hu
   ·intro z e; cases e
end
def Kb (j:Nat) (r:Rat):Prop:=Rq.Bd r (KK ^ j) (KK ^ j)
theorem zbz (i j:Nat):KK ^ i * KK ^ j=KK ^ (i + j):=(Nat.pow_add KK i j).symm
theorem Kb.mono {i j:Nat} {r:Rat} (h:Kb i r) (hij:i<=j):Kb j r:=⟨Nat.le_trans h.1 (zmO hij),Nat.le_trans h.2 (zmO hij)⟩
theorem zkP (n:Nat):KK ^ n + KK ^ n<=KK ^ (n + 1):=by
 rw [Nat.pow_succ,<- Nat.mul_two]; exact Nat.mul_le_mul_left _ zgP
section
variable {i j : Nat} {a b : Rat}
theorem Kb.mul (h:Kb i a) (g:Kb j b):Kb (i + j) (a * b):=by
 have:=Rq.bd_mul h g;rw [zbz] at this; exact this
theorem Kb.div (h:Kb i a) (g:Kb j b) (h0:b.num ≠ 0):Kb (i + j) (a / b):=by
 rw [<- Rq.div_eq];refine Rq.bd_of (Int.mul_ne_zero (Rq.den_ne a) h0) ?_ ?_
 ·rw [<- zbz]; exact Rq.bd_x h g
 ·rw [<- zbz]; exact Rq.mul_bd (by rw [Int.natAbs_natCast]; exact h.2) g.1
theorem Kb.divS (h:Kb i a) (g:Kb j b) (hij:i + j < 12):zk0 a b :=
 ⟨zdK hij (by rw [<- zbz]; exact Rq.bd_x h g),zdK hij (by rw [<- zbz]; exact Rq.mul_bd (by rw [Int.natAbs_natCast]; exact h.2) g.1)⟩
theorem Kb.mulS (h:Kb i a) (g:Kb j b) (hij:i + j < 12):zdH a b :=
 ⟨zdK hij (by rw [<- zbz]; exact Rq.mul_bd h.1 g.1),zdK hij (by rw [<- zbz]; exact Rq.bd_dd h g)⟩
theorem Kb.crS (h:Kb i a) (g:Kb j b) (hij:i + j < 12):CrS a b :=
 ⟨zdK hij (by rw [<- zbz]; exact Rq.bd_x h g),zdK (n:=j + i) (by omega) (by rw [<- zbz]; exact Rq.bd_x g h)⟩
theorem Kb.subS (h:Kb i a) (g:Kb j b) (hij:i + j + 1 < 12):zl2 a b:=by
 refine ⟨h.crS g (by omega),zdK hij ?_,zdK (n:=i + j) (by omega) (by rw [<- zbz]; exact Rq.bd_dd h g)⟩;have h1:=Rq.bd_x h g;have h2:=Rq.bd_x g h;rw [zbz] at h1 h2;have:=zkP (i + j);rw [Nat.add_comm j i] at h2;omega
end
end Go.Proofs.YtfgffkmddanjjaaGreatDoor
