/-
  The laws of chapter 13: what Made returns is a program of whole numbers from -20 to 20.
-/
import Derived.Test.YtileholjbdhmjaaGreatDoorRm
import Derived.Test.YtileholjbdhmjaaGreatDoorRj
import Derived.Test.YtileholjbdhmjaaGreatDoorE14
set_option linter.unusedVariables false
set_option linter.unusedSimpArgs false
namespace Go.Proofs.YtileholjbdhmjaaGreatDoor
open Go.RowKit
def zA (A:List (List Int)) (n m:Nat):List (List Int):=(List.range m).map λ i => (List.range n).map λ k => (elA A i k).tmod 21
theorem prg13_qz (A:List (List Int)) (B C:List Int):prg13 A B C=⟨((zA A C.length B.length).map qz).map (·.map some),(qz (B.map (·.tmod 21))).map some,(qz (C.map (·.tmod 21))).map some⟩:=by
 unfold prg13 zA qz row13;simp only [List.map_map,Function.comp_def]
 rfl
theorem tmodA (z:Int):(z.tmod 21).natAbs<=20:=by
 have:=tmod21 z;omega
def MadeW (w':World) (e:Ending):Prop :=
 e=.returned (.tuple #[.agg #[.slice none 0 0,.slice none 0 0,.slice none 0 0],.bool false]) \/
 ∃ A b C m n aA cA aB cB aC cC,e=.returned (.tuple #[.agg #[.slice aA m cA,.slice aB m cB,.slice aC n cC],.bool true])/\WP A b C m n 20/\(m<=6/\n<=8)/\PrgA w' A b C aA aB aC
theorem made_wp (A:List (List Int)) (B C:List Int) (aA aB aC:Option Addr) (cA cB cC:Nat) (w:World) (hA:A.length<=9223372036854775807) (hB:B.length<=9223372036854775807) (hC:C.length<=9223372036854775807)
  (hAl:Hid (∀ row∈A,row.length<=9223372036854775807)) (hAr:Hid (∀ row∈A,∀ z∈row,-128<=z/\z<=127)) (hBr:Hid (∀ z∈B,0<=z/\z<=255)) (hCr:Hid (∀ z∈C,-128<=z/\z<=127)) (uA:UR w aA A) (uB:UK .u8 w aB B) (uC:UK .i8 w aC C) (hE:Env w) :
  Calls Tryz.prog 10 #[.agg #[.slice aA A.length cA,.slice aB B.length cB,.slice aC C.length cC]] w λ e w' => MadeW w' e/\Below w.heap.size w w':=by
 refine (made13_any A B C aA aB aC cA cB cC w hA hB hC hAl hAr hBr hCr uA uB uC hE).mono λ e w' h => ⟨?_,h.2⟩
 rcases h.1 with ⟨_,rfl⟩ | ⟨hg,v0,v1,v2,rfl,hP⟩
 ·exact .inl rfl
 ·right
  rw [prg13_qz] at hP;have hm:1<=B.length/\B.length<=6:=by unfold Bad13 at hg; omega
  have hn:1<=C.length/\C.length<=8:=by unfold Bad13 at hg; omega
  have W:=wp_int (Z:=zA A C.length B.length) (y:=B.map (·.tmod 21)) (c:=C.map (·.tmod 21)) (by simp [zA]) (λ r hr => by
   obtain ⟨i,_,rfl⟩:=List.mem_map.1 hr;simp) (λ r hr z hz => by
   obtain ⟨i,_,rfl⟩:=List.mem_map.1 hr;obtain ⟨k,_,rfl⟩:=List.mem_map.1 hz;exact tmodA _) (λ z hz => by
   obtain ⟨x,hx,rfl⟩:=List.mem_map.1 hz;have h0:=(hBr.out x hx).1;have h1:=tmod21 x;exact ⟨Int.tmod_nonneg _ h0,by omega⟩) (λ z hz => by
   obtain ⟨x,_,rfl⟩:=List.mem_map.1 hz;exact tmodA _) (by simp; omega) (by simp; omega)
  obtain ⟨pA,qA,pB,qB,pC,qC,he,h1,h2,h3⟩:=hP;simp only [List.length_map] at W he;rw [he];have e1:(zA A C.length B.length).length=B.length:=by simp [zA]
  refine ⟨_,_,_,B.length,C.length,pA,qA,pB,qB,pC,qC,?_,W,⟨hm.2,hn.2⟩,h1,h2,h3⟩;simp only [qz_len,List.length_map,e1]
def vq (f:Nat->Rat) (m:Nat):List Qo:=rowQ (λ _ => f) 0 m
theorem vq_len (f:Nat->Rat) (m:Nat):(vq f m).length=m:=rowQ_length _ _ _
theorem vq_get {f:Nat->Rat} {m j:Nat} (h:j < m):(vq f m)[j]?=some (some (f j)):=rowQ_get h
theorem vq_list {l:List Rat} {m:Nat} (h:l.length=m):l.map some=vq (λ k => l.getD k 0) m:=by
 refine List.ext_getElem? λ c => ?_
 by_cases hc:c < m
 ·rw [vq_get hc,List.getElem?_map,List.getD_eq_getElem?_getD,gE (by omega)]; rfl
 ·rw [List.getElem?_eq_none (by rw [List.length_map]; omega),List.getElem?_eq_none (by rw [vq_len]; omega)]
def rsl (rr cr:Nat->Nat) (n m:Nat):List Value:=(List.range m).map λ i => .slice (some ⟨rr i,0,none⟩) n (cr i)
theorem rsl_len (rr cr:Nat->Nat) (n m:Nat):(rsl rr cr n m).length=m:=by simp [rsl]
theorem rsl_get {rr cr:Nat->Nat} {n m i:Nat} (h:i < m):(rsl rr cr n m)[i]?=some (.slice (some ⟨rr i,0,none⟩) n (cr i)):=by
 unfold rsl; rw [List.getElem?_map,List.getElem?_range h]; rfl
theorem rsl_sw {rr cr:Nat->Nat} {n m a i:Nat} (ha:a < m) (hi:i < m):((rsl rr cr n m).set a (.slice (some ⟨rr i,0,none⟩) n (cr i))).set i (.slice (some ⟨rr a,0,none⟩) n (cr a))=rsl (λ t => rr (sw a i t)) (λ t => cr (sw a i t)) n m:=by
 refine List.ext_getElem? λ c => ?_
 by_cases hc:c < m
 ·rw [rsl_get hc]
  by_cases e:c=i
  ·subst e;rw [List.getElem?_set_self (by simp [rsl_len]; omega)];have:sw a c c=a:=by unfold sw; grind
   rw [this]
  ·rw [List.getElem?_set_ne (λ h => e h.symm)]
   by_cases e0:c=a
   ·subst e0;rw [List.getElem?_set_self (by rw [rsl_len]; omega)];have:sw c i c=i:=by unfold sw; grind
    rw [this]
   ·rw [List.getElem?_set_ne (λ h => e0 h.symm),rsl_get hc];have:sw a i c=c:=by unfold sw; grind
    rw [this]
 ·rw [List.getElem?_eq_none (by simp [rsl_len]; omega),List.getElem?_eq_none (by rw [rsl_len]; omega)]
theorem rsl_at {rr cr:Nat->Nat} {n m a i:Nat} (hi:i < m):((rsl rr cr n m).set a (.slice (some ⟨rr i,0,none⟩) n (cr i)))[i]?=some (.slice (some ⟨rr i,0,none⟩) n (cr i)):=by
 by_cases e:i=a
 ·subst e; rw [List.getElem?_set_self (by rw [rsl_len]; exact hi)]
 ·rw [List.getElem?_set_ne (λ h => e h.symm),rsl_get hi]
theorem OwnO.noU' {W:World} {B:Nat} {v:Value} {l:List Qo} (h:OwnO W B v l):NoU (λ k => v.ownBlock=some k) W:=λ k hk cur t fr hc u hu => (h.choose_spec.2.1 k hk cur t fr hc u hu).limb
theorem OwnO.noB {W:World} {B g n' cap:Nat} {l:List Qo} (h:OwnO W B (.slice (some ⟨g,0,none⟩) n' cap) l):NoU (λ k => k=g) W:=h.noU'.sub λ k e => by rw [e]; rfl
theorem OwnO.noGb {W:World} {B g n' cap:Nat} {l:List Qo} (h:OwnO W B (.slice (some ⟨g,0,none⟩) n' cap) l):NoG (λ k => k=g) W:=λ k hk cur t fr hc u hu => h.choose_spec.2.1 k (by rw [hk]; rfl) cur t fr hc u hu
theorem kept4 {W:World} {g k:Nat} {x y z u:Value}:Kept (λ b => b=g) W ((((W.setCell ⟨g,k,none⟩ x).setCell ⟨g,k + 1,none⟩ y).setCell ⟨g,k + 2,none⟩ z).setCell ⟨g,k + 3,none⟩ u) :=
 (((((Kept.refl W:Kept (λ k => k=g) W W)).setCell (p:=⟨g,k,none⟩) rfl _).setCell (p:=⟨g,k + 1,none⟩) rfl _).setCell (p:=⟨g,k + 2,none⟩) rfl _).setCell (p:=⟨g,k + 3,none⟩) rfl _
def C4 (W:World) (g k:Nat) (r:Rat):Prop:=∃ (n1:Bool) (a1:Option Addr) (l1 c1:Nat) (n2:Bool) (a2:Option Addr) (l2 c2:Nat),
  W.cell? ⟨g,k * 4,none⟩=some (.bool n1)/\W.cell? ⟨g,k * 4 + 1,none⟩=some (.slice a1 l1 c1)/\W.cell? ⟨g,k * 4 + 2,none⟩=some (.bool n2)/\W.cell? ⟨g,k * 4 + 3,none⟩=some (.slice a2 l2 c2) /\
  W.frozen? ⟨g,k * 4,none⟩=false/\W.frozen? ⟨g,k * 4 + 1,none⟩=false/\W.frozen? ⟨g,k * 4 + 2,none⟩=false/\W.frozen? ⟨g,k * 4 + 3,none⟩=false/\RatV W (.agg #[.bool n1,.slice a1 l1 c1,.bool n2,.slice a2 l2 c2]) r
structure RX (W:World) (B ga ca m n:Nat) (xs:List Value) (rr cr:Nat->Nat) (L:Nat->Nat->Rat):Prop where
 out:W.ownsRow B 28 1 (.slice (some ⟨ga,0,none⟩) m ca) m xs
 nA:NoI W (.slice (some ⟨ga,0,none⟩) m ca)
 row:∀ i,i < m->OwnO W B (.slice (some ⟨rr i,0,none⟩) n (cr i)) (rowQ L i n)
 inj:∀ i t,i < m->t < m->rr i=rr t->i=t
 sepr:∀ i,i < m->rr i ≠ ga
abbrev RW (W:World) (B ga ca m n:Nat) (rr cr:Nat->Nat) (L:Nat->Nat->Rat):Prop:=RX W B ga ca m n (rsl rr cr n m) rr cr L
section
variable {W W' : World} {B ga ca m n : Nat} {xs : List Value} {rr cr : Nat → Nat} {L : Nat → Nat → Rat}
theorem RX.kept {G:Nat->Prop} (h:RX W B ga ca m n xs rr cr L) (hk:Kept G W W') (hp:NoU G W) (h1:¬ G ga) (h2:∀ i,i < m->¬ G (rr i)):RX W' B ga ca m n xs rr cr L :=
 ⟨ownsRow_kept h.out hk λ b e => by cases e; exact h1,h.nA.kept h.out hk λ b e => by cases e; exact h1,λ i hi => (h.row i hi).keptU hk hp λ b e => by cases e; exact h2 i hi,h.inj,h.sepr⟩
theorem RX.mono (h:RX W B ga ca m n xs rr cr L) (hb:Below W.heap.size W W'):RX W' B ga ca m n xs rr cr L :=
 h.kept (G:=λ _ => False) (.of_below hb) (λ _ h => h.elim) _root_.id λ _ _ => _root_.id
theorem RX.congr {M:Nat->Nat->Rat} (h:RX W B ga ca m n xs rr cr L) (h1:∀ i,i < m->∀ j,j < n->L i j=M i j):RX W B ga ca m n xs rr cr M :=
 ⟨h.out,h.nA,λ i hi => by rw [<- rowQ_congr (L:=L) (M:=M) (i:=i) (t:=i) λ j hj => h1 i hi j hj]; exact h.row i hi,h.inj,h.sepr⟩
theorem RX.at (h:RX W B ga ca m n xs rr cr L) {i j:Nat} (hi:i < m) (hj:j < n):C4 W (rr i) j (L i j):=(h.row i hi).cells4 (rowQ_get hj)
theorem RX.outAt (h:RW W B ga ca m n rr cr L) {i:Nat} (hi:i < m):W.cell? ⟨ga,i,none⟩=some (.slice (some ⟨rr i,0,none⟩) n (cr i))/\W.frozen? ⟨ga,i,none⟩=false:=⟨ownsRow_cell h.out (rsl_get hi),ownsRow_free h.out i⟩
theorem RX.lowA (h:RX W B ga ca m n xs rr cr L):B<=ga/\ga < W.heap.size:=h.out.lt ga rfl
theorem RX.lowR (h:RX W B ga ca m n xs rr cr L) {i:Nat} (hi:i < m):B<=rr i/\rr i < W.heap.size:=(h.row i hi).lt _ rfl
theorem RX.noA (h:RX W B ga ca m n xs rr cr L):NoU (λ k => k=ga) W:=λ k hk cur t fr hc u hu => (h.nA k (by rw [hk]; rfl) cur t fr hc u hu).limb
theorem RX.put (h:RX W B ga ca m n xs rr cr L) {i j:Nat} {n1:Bool} {a1:Option Addr} {l1 c1:Nat} {n2:Bool} {a2:Option Addr} {l2 c2:Nat} {r:Rat} (hi:i < m) (hj:j < n) (hv:RatV W (.agg #[.bool n1,.slice a1 l1 c1,.bool n2,.slice a2 l2 c2]) r) :
  RX ((((W.setCell ⟨rr i,j * 4,none⟩ (.bool n1)).setCell ⟨rr i,j * 4 + 1,none⟩ (.slice a1 l1 c1)).setCell ⟨rr i,j * 4 + 2,none⟩ (.bool n2)).setCell ⟨rr i,j * 4 + 3,none⟩ (.slice a2 l2 c2)) B ga ca m n xs rr cr (up L i j r):=by
 obtain ⟨hput,_⟩:=(h.row i hi).put (o:=some r) (by rw [rowQ_length]; exact hj) hv;have hno:=(h.row i hi).noB;have hk:=kept4 (W:=W) (g:=rr i) (k:=j * 4) (x:=.bool n1) (y:=.slice a1 l1 c1) (z:=.bool n2) (u:=.slice a2 l2 c2);generalize ((((W.setCell ⟨rr i,j * 4,none⟩ (.bool n1)).setCell ⟨rr i,j * 4 + 1,none⟩ (.slice a1 l1 c1)).setCell ⟨rr i,j * 4 + 2,none⟩ (.bool n2)).setCell ⟨rr i,j * 4 + 3,none⟩ (.slice a2 l2 c2))=W' at *;have s1:=h.sepr i hi;refine ⟨ownsRow_kept h.out hk λ b e => by cases e; exact λ e => s1 e.symm,h.nA.kept h.out hk λ b e => by cases e; exact λ e => s1 e.symm,λ t ht => ?_,h.inj,h.sepr⟩
 by_cases e:t=i
 ·subst e;rw [<- rowQ_set hj]; exact hput
 ·rw [rowQ_up e];exact (h.row t ht).keptU hk hno λ b eb => by cases eb; exact λ e2 => e (h.inj t i ht hi e2)
theorem RX.set (h:RX W B ga ca m n xs rr cr L) (k:Nat) (a:Option Addr) (l c:Nat):RX (W.setCell ⟨ga,k,none⟩ (.slice a l c)) B ga ca m n (xs.set k (.slice a l c)) rr cr L:=by
 have r1:=ownsRow_set (k:=k) (x:=.slice a l c) h.out;have nA:=noI_set (k:=k) (x:=.slice a l c) h.nA h.out (noInt_slice _ _ _);have hk:Kept (λ k => k=ga) W (W.setCell ⟨ga,k,none⟩ (.slice a l c)):=((Kept.refl W:Kept (λ k => k=ga) W W)).setCell (p:=⟨ga,k,none⟩) rfl _;have hno:=h.noA;generalize W.setCell ⟨ga,k,none⟩ (.slice a l c)=W' at *;exact ⟨r1,nA,λ t ht => (h.row t ht).keptU hk hno λ b e => by cases e; exact h.sepr t ht,h.inj,h.sepr⟩
theorem RX.swap {a i:Nat} (h:RX W B ga ca m n (((rsl rr cr n m).set a (.slice (some ⟨rr i,0,none⟩) n (cr i))).set i (.slice (some ⟨rr a,0,none⟩) n (cr a))) rr cr L) (ha:a < m) (hi:i < m) :
  RW W B ga ca m n (λ t => rr (sw a i t)) (λ t => cr (sw a i t)) (λ t => L (sw a i t)):=by
 have r2:=h.out;rw [rsl_sw ha hi] at r2;have hl:∀ t,t < m->sw a i t < m:=λ t ht => sw_lt ha hi ht
 refine ⟨r2,h.nA,λ t ht => ?_,λ t u ht hu e => ?_,λ t ht => h.sepr _ (hl t ht)⟩
 ·have e:rowQ (λ t => L (sw a i t)) t n=rowQ L (sw a i t) n:=rowQ_congr λ _ _ => rfl
  rw [e];exact h.row _ (hl t ht)
 ·have:=h.inj _ _ (hl t ht) (hl u hu) e;have h2:=congrArg (sw a i) this
  rwa [sw_sw,sw_sw] at h2
end
section
variable {W W' : World} {B ga ca gb cb gc cc m n : Nat} {xs : List Value} {rr cr : Nat → Nat} {L : Nat → Nat → Rat} {b C : Nat → Rat}
end
section
variable {A : List (List Rat)} {b C : List Rat} {m n K : Nat}
end
end Go.Proofs.YtileholjbdhmjaaGreatDoor
