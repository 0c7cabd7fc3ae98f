/-
  The laws of chapter 13: what Made returns is a program of whole numbers from -20 to 20.
-/
import Derived.Test.YtileholjbdhmjaaGreatDoorRm
import Derived.Test.YtileholjbdhmjaaGreatDoorRj
import Derived.Test.YtileholjbdhmjaaGreatDoorE14
set_option linter.unusedVariables false
set_option linter.unusedSimpArgs false
namespace Go.Proofs.YtileholjbdhmjaaGreatDoor
open Go.RowKit
def zA (A:List (List Int)) (n m:Nat):List (List Int):=(List.range m).map fun i => (List.range n).map fun k => (elA A i k).tmod 21
theorem prg13_qz (A:List (List Int)) (B C:List Int):prg13 A B C=⟨((zA A C.length B.length).map qz).map (·.map some),(qz (B.map (·.tmod 21))).map some,(qz (C.map (·.tmod 21))).map some⟩:=by
 unfold prg13 zA qz row13;simp only [List.map_map,Function.comp_def]
 rfl
theorem tmodA (z:Int):(z.tmod 21).natAbs≤20:=by
 have:=tmod21 z;omega
def MadeW (w':World) (e:Ending):Prop :=
 e=.returned (.tuple #[.agg #[.slice none 0 0,.slice none 0 0,.slice none 0 0],.bool false]) ∨
 ∃ A b C m n aA cA aB cB aC cC,e=.returned (.tuple #[.agg #[.slice aA m cA,.slice aB m cB,.slice aC n cC],.bool true])∧WP A b C m n 20∧(m≤6∧n≤8)∧PrgA w' A b C aA aB aC
theorem made_wp (A:List (List Int)) (B C:List Int) (aA aB aC:Option Addr) (cA cB cC:Nat) (w:World) (hA:A.length≤9223372036854775807) (hB:B.length≤9223372036854775807) (hC:C.length≤9223372036854775807)
  (hAl:Hid (∀ row∈A,row.length≤9223372036854775807)) (hAr:Hid (∀ row∈A,∀ z∈row,-128≤z∧z≤127)) (hBr:Hid (∀ z∈B,0≤z∧z≤255)) (hCr:Hid (∀ z∈C,-128≤z∧z≤127)) (uA:UR w aA A) (uB:UK .u8 w aB B) (uC:UK .i8 w aC C) (hE:Env w) :
  Calls Tryz.prog 10 #[.agg #[.slice aA A.length cA,.slice aB B.length cB,.slice aC C.length cC]] w fun e w' => MadeW w' e∧Below w.heap.size w w':=by
 refine (made13_any A B C aA aB aC cA cB cC w hA hB hC hAl hAr hBr hCr uA uB uC hE).mono fun e w' h => ⟨?_,h.2⟩
 rcases h.1 with ⟨_,rfl⟩ | ⟨hg,v0,v1,v2,rfl,hP⟩
 ·exact .inl rfl
 ·right
  rw [prg13_qz] at hP;have hm:1≤B.length∧B.length≤6:=by unfold Bad13 at hg; omega
  have hn:1≤C.length∧C.length≤8:=by unfold Bad13 at hg; omega
  have W:=wp_int (Z:=zA A C.length B.length) (y:=B.map (·.tmod 21)) (c:=C.map (·.tmod 21)) (by simp [zA]) (fun r hr => by
   obtain ⟨i,_,rfl⟩:=List.mem_map.1 hr;simp) (fun r hr z hz => by
   obtain ⟨i,_,rfl⟩:=List.mem_map.1 hr;obtain ⟨k,_,rfl⟩:=List.mem_map.1 hz;exact tmodA _) (fun z hz => by
   obtain ⟨x,hx,rfl⟩:=List.mem_map.1 hz;have h0:=(hBr.out x hx).1;have h1:=tmod21 x;exact ⟨Int.tmod_nonneg _ h0,by omega⟩) (fun z hz => by
   obtain ⟨x,_,rfl⟩:=List.mem_map.1 hz;exact tmodA _) (by simp; omega) (by simp; omega)
  obtain ⟨pA,qA,pB,qB,pC,qC,he,h1,h2,h3⟩:=hP;simp only [List.length_map] at W he;rw [he];have e1:(zA A C.length B.length).length=B.length:=by simp [zA]
  refine ⟨_,_,_,B.length,C.length,pA,qA,pB,qB,pC,qC,?_,W,⟨hm.2,hn.2⟩,h1,h2,h3⟩;simp only [qz_len,List.length_map,e1]
def vq (f:Nat→Rat) (m:Nat):List Qo:=rowQ (fun _ => f) 0 m
theorem vq_len (f:Nat→Rat) (m:Nat):(vq f m).length=m:=rowQ_length _ _ _
theorem vq_get {f:Nat→Rat} {m j:Nat} (h:j < m):(vq f m)[j]?=some (some (f j)):=rowQ_get h
def upv (f:Nat→Rat) (j:Nat) (r:Rat):Nat→Rat:=fun k => if k=j then r else f k
theorem vq_set {f:Nat→Rat} {m j:Nat} {r:Rat} (h:j < m):(vq f m).set j (some r)=vq (upv f j r) m:=by
 unfold vq;rw [rowQ_set h];refine rowQ_congr fun c _ => ?_
 unfold up upv
 by_cases e:c=j
 ·rw [if_pos ⟨rfl,e⟩,if_pos e]
 ·rw [if_neg (fun h => e h.2),if_neg e]
theorem vq_congr {f g:Nat→Rat} {m:Nat} (h:∀ k,k < m→f k=g k):vq f m=vq g m:=rowQ_congr h
theorem vq_list {l:List Rat} {m:Nat} (h:l.length=m):l.map some=vq (fun k => l.getD k 0) m:=by
 refine List.ext_getElem? fun c => ?_
 by_cases hc:c < m
 ·rw [vq_get hc,List.getElem?_map,List.getD_eq_getElem?_getD,gE (by omega)]; rfl
 ·rw [List.getElem?_eq_none (by rw [List.length_map]; omega),List.getElem?_eq_none (by rw [vq_len]; omega)]
theorem rows_list {A:List (List Rat)} {m n:Nat} (h:A.length=m) (hr:∀ r∈A,r.length=n):A.map (·.map some)=(List.range m).map fun i => rowQ (fun i j => (A.getD i []).getD j 0) i n:=by
 refine List.ext_getElem? fun c => ?_
 by_cases hc:c < m
 ·have hc':c < A.length:=by omega
  rw [List.getElem?_map,List.getElem?_map,List.getElem?_range hc,gE hc'];have:=vq_list (hr A[c] (List.getElem_mem hc'));simp only [Option.map_some,Option.some.injEq];rw [this];refine rowQ_congr fun j _ => ?_
  rw [List.getD_eq_getElem?_getD (l:=A),gE hc']
  rfl
 ·rw [List.getElem?_eq_none (by rw [List.length_map]; omega),List.getElem?_eq_none (by simp; omega)]
def rsl (rr cr:Nat→Nat) (n m:Nat):List Value:=(List.range m).map fun i => .slice (some ⟨rr i,0,none⟩) n (cr i)
theorem rsl_len (rr cr:Nat→Nat) (n m:Nat):(rsl rr cr n m).length=m:=by simp [rsl]
theorem rsl_get {rr cr:Nat→Nat} {n m i:Nat} (h:i < m):(rsl rr cr n m)[i]?=some (.slice (some ⟨rr i,0,none⟩) n (cr i)):=by
 unfold rsl; rw [List.getElem?_map,List.getElem?_range h]; rfl
theorem rsl_sw {rr cr:Nat→Nat} {n m a i:Nat} (ha:a < m) (hi:i < m):((rsl rr cr n m).set a (.slice (some ⟨rr i,0,none⟩) n (cr i))).set i (.slice (some ⟨rr a,0,none⟩) n (cr a))=rsl (fun t => rr (sw a i t)) (fun t => cr (sw a i t)) n m:=by
 refine List.ext_getElem? fun c => ?_
 by_cases hc:c < m
 ·rw [rsl_get hc]
  by_cases e:c=i
  ·subst e;rw [List.getElem?_set_self (by simp [rsl_len]; omega)];have:sw a c c=a:=by unfold sw; grind
   rw [this]
  ·rw [List.getElem?_set_ne (fun h => e h.symm)]
   by_cases e0:c=a
   ·subst e0;rw [List.getElem?_set_self (by rw [rsl_len]; omega)];have:sw c i c=i:=by unfold sw; grind
    rw [this]
   ·rw [List.getElem?_set_ne (fun h => e0 h.symm),rsl_get hc];have:sw a i c=c:=by unfold sw; grind
    rw [this]
 ·rw [List.getElem?_eq_none (by simp [rsl_len]; omega),List.getElem?_eq_none (by rw [rsl_len]; omega)]
theorem rsl_at {rr cr:Nat→Nat} {n m a i:Nat} (hi:i < m):((rsl rr cr n m).set a (.slice (some ⟨rr i,0,none⟩) n (cr i)))[i]?=some (.slice (some ⟨rr i,0,none⟩) n (cr i)):=by
 by_cases e:i=a
 ·subst e; rw [List.getElem?_set_self (by rw [rsl_len]; exact hi)]
 ·rw [List.getElem?_set_ne (fun h => e h.symm),rsl_get hi]
theorem OwnO.noU' {W:World} {B:Nat} {v:Value} {l:List Qo} (h:OwnO W B v l):NoU (fun k => v.ownBlock=some k) W:=fun k hk cur t fr hc u hu => (h.choose_spec.2.1 k hk cur t fr hc u hu).limb
theorem OwnO.noB {W:World} {B g n' cap:Nat} {l:List Qo} (h:OwnO W B (.slice (some ⟨g,0,none⟩) n' cap) l):NoU (fun k => k=g) W:=h.noU'.sub fun k e => by rw [e]; rfl
theorem OwnO.noGb {W:World} {B g n' cap:Nat} {l:List Qo} (h:OwnO W B (.slice (some ⟨g,0,none⟩) n' cap) l):NoG (fun k => k=g) W:=fun k hk cur t fr hc u hu => h.choose_spec.2.1 k (by rw [hk]; rfl) cur t fr hc u hu
theorem kept4 {W:World} {g k:Nat} {x y z u:Value}:Kept (fun b => b=g) W ((((W.setCell ⟨g,k,none⟩ x).setCell ⟨g,k + 1,none⟩ y).setCell ⟨g,k + 2,none⟩ z).setCell ⟨g,k + 3,none⟩ u) :=
 (((((Kept.refl W:Kept (fun k => k=g) W W)).setCell (p:=⟨g,k,none⟩) rfl _).setCell (p:=⟨g,k + 1,none⟩) rfl _).setCell (p:=⟨g,k + 2,none⟩) rfl _).setCell (p:=⟨g,k + 3,none⟩) rfl _
def C4 (W:World) (g k:Nat) (r:Rat):Prop:=∃ (n1:Bool) (a1:Option Addr) (l1 c1:Nat) (n2:Bool) (a2:Option Addr) (l2 c2:Nat),
  W.cell? ⟨g,k * 4,none⟩=some (.bool n1)∧W.cell? ⟨g,k * 4 + 1,none⟩=some (.slice a1 l1 c1)∧W.cell? ⟨g,k * 4 + 2,none⟩=some (.bool n2)∧W.cell? ⟨g,k * 4 + 3,none⟩=some (.slice a2 l2 c2) ∧
  W.frozen? ⟨g,k * 4,none⟩=false∧W.frozen? ⟨g,k * 4 + 1,none⟩=false∧W.frozen? ⟨g,k * 4 + 2,none⟩=false∧W.frozen? ⟨g,k * 4 + 3,none⟩=false∧RatV W (.agg #[.bool n1,.slice a1 l1 c1,.bool n2,.slice a2 l2 c2]) r
structure RX (W:World) (B ga ca m n:Nat) (xs:List Value) (rr cr:Nat→Nat) (L:Nat→Nat→Rat):Prop where
 out:W.ownsRow B 28 1 (.slice (some ⟨ga,0,none⟩) m ca) m xs
 nA:NoI W (.slice (some ⟨ga,0,none⟩) m ca)
 row:∀ i,i < m→OwnO W B (.slice (some ⟨rr i,0,none⟩) n (cr i)) (rowQ L i n)
 inj:∀ i t,i < m→t < m→rr i=rr t→i=t
 sepr:∀ i,i < m→rr i ≠ ga
abbrev RW (W:World) (B ga ca m n:Nat) (rr cr:Nat→Nat) (L:Nat→Nat→Rat):Prop:=RX W B ga ca m n (rsl rr cr n m) rr cr L
section
variable {W W' : World} {B ga ca m n : Nat} {xs : List Value} {rr cr : Nat → Nat} {L : Nat → Nat → Rat}
theorem RX.kept {G:Nat→Prop} (h:RX W B ga ca m n xs rr cr L) (hk:Kept G W W') (hp:NoU G W) (h1:¬ G ga) (h2:∀ i,i < m→¬ G (rr i)):RX W' B ga ca m n xs rr cr L :=
 ⟨ownsRow_kept h.out hk fun b e => by cases e; exact h1,h.nA.kept h.out hk fun b e => by cases e; exact h1,fun i hi => (h.row i hi).keptU hk hp fun b e => by cases e; exact h2 i hi,h.inj,h.sepr⟩
theorem RX.mono (h:RX W B ga ca m n xs rr cr L) (hb:Below W.heap.size W W'):RX W' B ga ca m n xs rr cr L :=
 h.kept (G:=fun _ => False) (.of_below hb) (fun _ h => h.elim) _root_.id fun _ _ => _root_.id
theorem RX.congr {M:Nat→Nat→Rat} (h:RX W B ga ca m n xs rr cr L) (h1:∀ i,i < m→∀ j,j < n→L i j=M i j):RX W B ga ca m n xs rr cr M :=
 ⟨h.out,h.nA,fun i hi => by rw [← rowQ_congr (L:=L) (M:=M) (i:=i) (t:=i) fun j hj => h1 i hi j hj]; exact h.row i hi,h.inj,h.sepr⟩
theorem RX.at (h:RX W B ga ca m n xs rr cr L) {i j:Nat} (hi:i < m) (hj:j < n):C4 W (rr i) j (L i j):=(h.row i hi).cells4 (rowQ_get hj)
theorem RX.outAt (h:RW W B ga ca m n rr cr L) {i:Nat} (hi:i < m):W.cell? ⟨ga,i,none⟩=some (.slice (some ⟨rr i,0,none⟩) n (cr i))∧W.frozen? ⟨ga,i,none⟩=false:=⟨ownsRow_cell h.out (rsl_get hi),ownsRow_free h.out i⟩
theorem RX.lowA (h:RX W B ga ca m n xs rr cr L):B≤ga∧ga < W.heap.size:=h.out.lt ga rfl
theorem RX.lowR (h:RX W B ga ca m n xs rr cr L) {i:Nat} (hi:i < m):B≤rr i∧rr i < W.heap.size:=(h.row i hi).lt _ rfl
theorem RX.noA (h:RX W B ga ca m n xs rr cr L):NoU (fun k => k=ga) W:=fun k hk cur t fr hc u hu => (h.nA k (by rw [hk]; rfl) cur t fr hc u hu).limb
theorem RX.put (h:RX W B ga ca m n xs rr cr L) {i j:Nat} {n1:Bool} {a1:Option Addr} {l1 c1:Nat} {n2:Bool} {a2:Option Addr} {l2 c2:Nat} {r:Rat} (hi:i < m) (hj:j < n) (hv:RatV W (.agg #[.bool n1,.slice a1 l1 c1,.bool n2,.slice a2 l2 c2]) r) :
  RX ((((W.setCell ⟨rr i,j * 4,none⟩ (.bool n1)).setCell ⟨rr i,j * 4 + 1,none⟩ (.slice a1 l1 c1)).setCell ⟨rr i,j * 4 + 2,none⟩ (.bool n2)).setCell ⟨rr i,j * 4 + 3,none⟩ (.slice a2 l2 c2)) B ga ca m n xs rr cr (up L i j r):=by
 obtain ⟨hput,_⟩:=(h.row i hi).put (o:=some r) (by rw [rowQ_length]; exact hj) hv;have hno:=(h.row i hi).noB;have hk:=kept4 (W:=W) (g:=rr i) (k:=j * 4) (x:=.bool n1) (y:=.slice a1 l1 c1) (z:=.bool n2) (u:=.slice a2 l2 c2);generalize ((((W.setCell ⟨rr i,j * 4,none⟩ (.bool n1)).setCell ⟨rr i,j * 4 + 1,none⟩ (.slice a1 l1 c1)).setCell ⟨rr i,j * 4 + 2,none⟩ (.bool n2)).setCell ⟨rr i,j * 4 + 3,none⟩ (.slice a2 l2 c2))=W' at *;have s1:=h.sepr i hi;refine ⟨ownsRow_kept h.out hk fun b e => by cases e; exact fun e => s1 e.symm,h.nA.kept h.out hk fun b e => by cases e; exact fun e => s1 e.symm,fun t ht => ?_,h.inj,h.sepr⟩
 by_cases e:t=i
 ·subst e;rw [← rowQ_set hj]; exact hput
 ·rw [rowQ_up e];exact (h.row t ht).keptU hk hno fun b eb => by cases eb; exact fun e2 => e (h.inj t i ht hi e2)
theorem RX.set (h:RX W B ga ca m n xs rr cr L) (k:Nat) (a:Option Addr) (l c:Nat):RX (W.setCell ⟨ga,k,none⟩ (.slice a l c)) B ga ca m n (xs.set k (.slice a l c)) rr cr L:=by
 have r1:=ownsRow_set (k:=k) (x:=.slice a l c) h.out;have nA:=noI_set (k:=k) (x:=.slice a l c) h.nA h.out (noInt_slice _ _ _);have hk:Kept (fun k => k=ga) W (W.setCell ⟨ga,k,none⟩ (.slice a l c)):=((Kept.refl W:Kept (fun k => k=ga) W W)).setCell (p:=⟨ga,k,none⟩) rfl _;have hno:=h.noA;generalize W.setCell ⟨ga,k,none⟩ (.slice a l c)=W' at *;exact ⟨r1,nA,fun t ht => (h.row t ht).keptU hk hno fun b e => by cases e; exact h.sepr t ht,h.inj,h.sepr⟩
theorem RX.swap {a i:Nat} (h:RX W B ga ca m n (((rsl rr cr n m).set a (.slice (some ⟨rr i,0,none⟩) n (cr i))).set i (.slice (some ⟨rr a,0,none⟩) n (cr a))) rr cr L) (ha:a < m) (hi:i < m) :
  RW W B ga ca m n (fun t => rr (sw a i t)) (fun t => cr (sw a i t)) (fun t => L (sw a i t)):=by
 have r2:=h.out;rw [rsl_sw ha hi] at r2;have hl:∀ t,t < m→sw a i t < m:=fun t ht => sw_lt ha hi ht
 refine ⟨r2,h.nA,fun t ht => ?_,fun t u ht hu e => ?_,fun t ht => h.sepr _ (hl t ht)⟩
 ·have e:rowQ (fun t => L (sw a i t)) t n=rowQ L (sw a i t) n:=rowQ_congr fun _ _ => rfl
  rw [e];exact h.row _ (hl t ht)
 ·have:=h.inj _ _ (hl t ht) (hl u hu) e;have h2:=congrArg (sw a i) this
  rwa [sw_sw,sw_sw] at h2
end
structure QX (W:World) (B ga ca gb cb gc cc m n:Nat) (xs:List Value) (rr cr:Nat→Nat) (L:Nat→Nat→Rat) (b C:Nat→Rat):Prop where
 x:RX W B ga ca m n xs rr cr L
 oB:OwnO W B (.slice (some ⟨gb,0,none⟩) m cb) (vq b m)
 oC:OwnO W B (.slice (some ⟨gc,0,none⟩) n cc) (vq C n)
 sepR:∀ i,i < m→rr i ≠ gb∧rr i ≠ gc
 sep:ga ≠ gb∧ga ≠ gc∧gb ≠ gc
abbrev QW (W:World) (B ga ca gb cb gc cc m n:Nat) (rr cr:Nat→Nat) (L:Nat→Nat→Rat) (b C:Nat→Rat):Prop:=QX W B ga ca gb cb gc cc m n (rsl rr cr n m) rr cr L b C
section
variable {W W' : World} {B ga ca gb cb gc cc m n : Nat} {xs : List Value} {rr cr : Nat → Nat} {L : Nat → Nat → Rat} {b C : Nat → Rat}
theorem QX.out (h:QX W B ga ca gb cb gc cc m n xs rr cr L b C):W.ownsRow B 28 1 (.slice (some ⟨ga,0,none⟩) m ca) m xs:=h.x.out
theorem QX.row (h:QX W B ga ca gb cb gc cc m n xs rr cr L b C):∀ i,i < m→OwnO W B (.slice (some ⟨rr i,0,none⟩) n (cr i)) (rowQ L i n):=h.x.row
theorem QX.mono (h:QX W B ga ca gb cb gc cc m n xs rr cr L b C) (hb:Below W.heap.size W W'):QX W' B ga ca gb cb gc cc m n xs rr cr L b C:=⟨h.x.mono hb,h.oB.mono hb,h.oC.mono hb,h.sepR,h.sep⟩
theorem QX.congr {M:Nat→Nat→Rat} {b' C':Nat→Rat} (h:QX W B ga ca gb cb gc cc m n xs rr cr L b C) (h1:∀ i,i < m→∀ j,j < n→L i j=M i j) (h2:∀ i,i < m→b i=b' i) (h3:∀ j,j < n→C j=C' j):QX W B ga ca gb cb gc cc m n xs rr cr M b' C' :=
 ⟨h.x.congr h1,by rw [← vq_congr h2]; exact h.oB,by rw [← vq_congr h3]; exact h.oC,h.sepR,h.sep⟩
theorem QX.at (h:QX W B ga ca gb cb gc cc m n xs rr cr L b C) {i j:Nat} (hi:i < m) (hj:j < n):C4 W (rr i) j (L i j):=(h.row i hi).cells4 (rowQ_get hj)
theorem QX.bAt (h:QX W B ga ca gb cb gc cc m n xs rr cr L b C) {i:Nat} (hi:i < m):C4 W gb i (b i):=h.oB.cells4 (vq_get hi)
theorem QX.cAt (h:QX W B ga ca gb cb gc cc m n xs rr cr L b C) {j:Nat} (hj:j < n):C4 W gc j (C j):=h.oC.cells4 (vq_get hj)
theorem QX.outAt (h:QW W B ga ca gb cb gc cc m n rr cr L b C) {i:Nat} (hi:i < m):W.cell? ⟨ga,i,none⟩=some (.slice (some ⟨rr i,0,none⟩) n (cr i))∧W.frozen? ⟨ga,i,none⟩=false:=RX.outAt h.x hi
theorem QX.lowA (h:QX W B ga ca gb cb gc cc m n xs rr cr L b C):B≤ga∧ga < W.heap.size:=h.x.lowA
theorem QX.lowB (h:QX W B ga ca gb cb gc cc m n xs rr cr L b C):B≤gb∧gb < W.heap.size:=h.oB.lt gb rfl
theorem QX.lowC (h:QX W B ga ca gb cb gc cc m n xs rr cr L b C):B≤gc∧gc < W.heap.size:=h.oC.lt gc rfl
theorem QX.lowR (h:QX W B ga ca gb cb gc cc m n xs rr cr L b C) {i:Nat} (hi:i < m):B≤rr i∧rr i < W.heap.size:=h.x.lowR hi
theorem QX.put (h:QX W B ga ca gb cb gc cc m n xs rr cr L b C) {i j:Nat} {n1:Bool} {a1:Option Addr} {l1 c1:Nat} {n2:Bool} {a2:Option Addr} {l2 c2:Nat} {r:Rat} (hi:i < m) (hj:j < n) (hv:RatV W (.agg #[.bool n1,.slice a1 l1 c1,.bool n2,.slice a2 l2 c2]) r) :
  QX ((((W.setCell ⟨rr i,j * 4,none⟩ (.bool n1)).setCell ⟨rr i,j * 4 + 1,none⟩ (.slice a1 l1 c1)).setCell ⟨rr i,j * 4 + 2,none⟩ (.bool n2)).setCell ⟨rr i,j * 4 + 3,none⟩ (.slice a2 l2 c2)) B ga ca gb cb gc cc m n xs rr cr (up L i j r) b C :=
 ⟨h.x.put hi hj hv,h.oB.keptU kept4 (h.row i hi).noB fun b e => by cases e; exact fun e => (h.sepR i hi).1 e.symm,h.oC.keptU kept4 (h.row i hi).noB fun b e => by cases e; exact fun e => (h.sepR i hi).2 e.symm,h.sepR,h.sep⟩
theorem QX.reB (h:QX W B ga ca gb cb gc cc m n xs rr cr L b C) (hk:Kept (fun k => k=gb) W W') {b':Nat→Rat} (ho:OwnO W' B (.slice (some ⟨gb,0,none⟩) m cb) (vq b' m)):QX W' B ga ca gb cb gc cc m n xs rr cr L b' C :=
 ⟨h.x.kept hk h.oB.noB h.sep.1 fun i hi => (h.sepR i hi).1,ho,h.oC.keptU hk h.oB.noB fun b e => by cases e; exact fun e => h.sep.2.2 e.symm,h.sepR,h.sep⟩
theorem QX.reC (h:QX W B ga ca gb cb gc cc m n xs rr cr L b C) (hk:Kept (fun k => k=gc) W W') {C':Nat→Rat} (ho:OwnO W' B (.slice (some ⟨gc,0,none⟩) n cc) (vq C' n)):QX W' B ga ca gb cb gc cc m n xs rr cr L b C' :=
 ⟨h.x.kept hk h.oC.noB h.sep.2.1 fun i hi => (h.sepR i hi).2,h.oB.keptU hk h.oC.noB fun b e => by cases e; exact h.sep.2.2,ho,h.sepR,h.sep⟩
theorem QX.putB (h:QX W B ga ca gb cb gc cc m n xs rr cr L b C) {j:Nat} {n1:Bool} {a1:Option Addr} {l1 c1:Nat} {n2:Bool} {a2:Option Addr} {l2 c2:Nat} {r:Rat} (hj:j < m) (hv:RatV W (.agg #[.bool n1,.slice a1 l1 c1,.bool n2,.slice a2 l2 c2]) r) :
  QX ((((W.setCell ⟨gb,j * 4,none⟩ (.bool n1)).setCell ⟨gb,j * 4 + 1,none⟩ (.slice a1 l1 c1)).setCell ⟨gb,j * 4 + 2,none⟩ (.bool n2)).setCell ⟨gb,j * 4 + 3,none⟩ (.slice a2 l2 c2)) B ga ca gb cb gc cc m n xs rr cr L (upv b j r) C :=
 h.reB kept4 (by rw [← vq_set hj]; exact (h.oB.put (o:=some r) (by rw [vq_len]; exact hj) hv).1)
theorem QX.putC (h:QX W B ga ca gb cb gc cc m n xs rr cr L b C) {j:Nat} {n1:Bool} {a1:Option Addr} {l1 c1:Nat} {n2:Bool} {a2:Option Addr} {l2 c2:Nat} {r:Rat} (hj:j < n) (hv:RatV W (.agg #[.bool n1,.slice a1 l1 c1,.bool n2,.slice a2 l2 c2]) r) :
  QX ((((W.setCell ⟨gc,j * 4,none⟩ (.bool n1)).setCell ⟨gc,j * 4 + 1,none⟩ (.slice a1 l1 c1)).setCell ⟨gc,j * 4 + 2,none⟩ (.bool n2)).setCell ⟨gc,j * 4 + 3,none⟩ (.slice a2 l2 c2)) B ga ca gb cb gc cc m n xs rr cr L b (upv C j r) :=
 h.reC kept4 (by rw [← vq_set hj]; exact (h.oC.put (o:=some r) (by rw [vq_len]; exact hj) hv).1)
theorem QX.set (h:QX W B ga ca gb cb gc cc m n xs rr cr L b C) (k:Nat) (a:Option Addr) (l c:Nat):QX (W.setCell ⟨ga,k,none⟩ (.slice a l c)) B ga ca gb cb gc cc m n (xs.set k (.slice a l c)) rr cr L b C:=by
 have hk:Kept (fun k => k=ga) W (W.setCell ⟨ga,k,none⟩ (.slice a l c)):=((Kept.refl W:Kept (fun k => k=ga) W W)).setCell (p:=⟨ga,k,none⟩) rfl _;exact ⟨h.x.set k a l c,h.oB.keptU hk h.x.noA fun b e => by cases e; exact fun e => h.sep.1 e.symm,h.oC.keptU hk h.x.noA fun b e => by cases e; exact fun e => h.sep.2.1 e.symm,h.sepR,h.sep⟩
theorem QX.swA {i:Nat} (h:QX W B ga ca gb cb gc cc m n (((rsl rr cr n m).set 0 (.slice (some ⟨rr i,0,none⟩) n (cr i))).set i (.slice (some ⟨rr 0,0,none⟩) n (cr 0))) rr cr L b C) (hi:i < m) :
  QW W B ga ca gb cb gc cc m n (fun t => rr (sw 0 i t)) (fun t => cr (sw 0 i t)) (fun t => L (sw 0 i t)) b C :=
 ⟨h.x.swap (by omega) hi,h.oB,h.oC,fun t ht => h.sepR _ (sw_lt (by omega) hi ht),h.sep⟩
theorem uq_vq {g n' cap:Nat} {l:List Qo} (h:OwnO W B (.slice (some ⟨g,0,none⟩) n' cap) l):UQ W (some ⟨g,0,none⟩) l:=by
 obtain ⟨ao,cap',e,hu⟩:=h.read;simp only [Value.slice.injEq] at e;obtain ⟨rfl,-,-⟩:=e;exact hu
theorem QW.prg (h:QW W B ga ca gb cb gc cc m n rr cr L b C) {A':List (List Rat)} {b' C':List Rat} (hA:A'.length=m) (hr:∀ r∈A',r.length=n) (hb:b'.length=m) (hC:C'.length=n)
  (h1:∀ i,i < m→∀ j,j < n→L i j=(A'.getD i []).getD j 0) (h2:∀ i,i < m→b i=b'.getD i 0) (h3:∀ j,j < n→C j=C'.getD j 0):PrgA W A' b' C' (some ⟨ga,0,none⟩) (some ⟨gb,0,none⟩) (some ⟨gc,0,none⟩):=by
 have h:=h.congr h1 h2 h3;refine ⟨?_,?_,?_⟩
 ·rw [rows_list hA hr];intro i row hi;rw [List.getElem?_map] at hi;have him:i < m:=by
   rcases Nat.lt_or_ge i m with h | h
   ·exact h
   ·rw [List.getElem?_eq_none (by simpa using h)] at hi; cases hi
  rw [List.getElem?_range him] at hi
  cases hi
  exact ⟨ga,0,some ⟨rr i,0,none⟩,cr i,rfl,by rw [Nat.zero_add,rowQ_length]; exact (h.outAt him).1,uq_vq (h.row i him)⟩
 ·rw [vq_list hb]; exact uq_vq h.oB
 ·rw [vq_list hC]; exact uq_vq h.oC
end
theorem OW.qw {W:World} {B0 B g m n:Nat} {vA vB vC:Value} {ow:List (Value × List Qo)} {b C:List Qo} {L:Nat→Nat→Rat} {fb fC:Nat→Rat} (h:OW W B0 B g vA vB vC ow b C) (hB:B0≤B) (how:ow.map (·.2)=(List.range m).map fun i => rowQ L i n) (hb:b=vq fb m) (hC:C=vq fC n) (hm:0 < m) (hn:0 < n) :
  ∃ ga ca gb cb gc cc rr cr,vA=.slice (some ⟨ga,0,none⟩) m ca∧vB=.slice (some ⟨gb,0,none⟩) m cb∧vC=.slice (some ⟨gc,0,none⟩) n cc∧QW W B0 ga ca gb cb gc cc m n rr cr L fb fC:=by
 have ht:=h.t.low hB;have hlo:ow.length=m:=by have:=congrArg List.length how; simpa using this
 have hget:∀ i,i < m→∃ p,ow[i]?=some p∧p.2=rowQ L i n:=fun i hi => by
  have hi':i < ow.length:=by omega
  refine ⟨ow[i],gE hi',?_⟩;have h1:=congrArg (fun l => l[i]?) how;simp only [List.getElem?_map,gE hi',List.getElem?_range hi,Option.map_some,Option.some.injEq] at h1;exact h1
 have hex:∀ i,∃ rc:Nat × Nat,i < m→ow[i]?=some (.slice (some ⟨rc.1,0,none⟩) n rc.2,rowQ L i n):=fun i => by
  by_cases hi:i < m
  ·obtain ⟨p,hp,e⟩:=hget i hi;obtain ⟨g',cap,e2⟩:=(ht.o p (List.mem_of_getElem? hp)).1.addr' (by rw [e,rowQ_length]; omega);rw [e,rowQ_length] at e2;refine ⟨(g',cap),fun _ => ?_⟩;rw [hp]; exact congrArg some (Prod.ext e2 e)
  ·exact ⟨(0,0),fun h => absurd h hi⟩
 obtain ⟨rc,hrc⟩:=Classical.axiomOfChoice hex;obtain ⟨ga,ca,eA⟩:∃ ga ca,vA=.slice (some ⟨ga,0,none⟩) m ca:=by
  rcases ht.oA.1.2 with ⟨_,hn⟩ | ⟨g',cap,cur,e,_⟩
  ·rw [List.length_map,hlo] at hn; omega
  ·rw [List.length_map,hlo] at e; exact ⟨g',cap,e⟩
 obtain ⟨gb,cb,eB⟩:=h.oB.addr' (by rw [hb,vq_len]; exact hm);obtain ⟨gc,cc,eC⟩:=h.oC.addr' (by rw [hC,vq_len]; exact hn);rw [hb,vq_len] at eB;rw [hC,vq_len] at eC;subst eA;subst eB;subst eC;have hmem:∀ i,i < m→(Value.slice (some ⟨(rc i).1,0,none⟩) n (rc i).2,rowQ L i n)∈ow:=fun i hi => List.mem_of_getElem? (hrc i hi)
 have hlow:∀ i,i < m→B≤(rc i).1:=fun i hi => ((h.t.o _ (hmem i hi)).1.lt _ rfl).1
 have hA:B≤ga:=(h.t.oA.lt ga rfl).1;have hbB:=(h.lB gb rfl).1;have hcB:=(h.lC gc rfl).1;have exs:ow.map (·.1)=rsl (fun i => (rc i).1) (fun i => (rc i).2) n m:=by
  refine List.ext_getElem? fun c => ?_
  by_cases hc:c < m
  ·rw [rsl_get hc,List.getElem?_map,hrc c hc]; rfl
  ·rw [List.getElem?_eq_none (by rw [List.length_map]; omega),List.getElem?_eq_none (by rw [rsl_len]; omega)]
 refine ⟨ga,ca,gb,cb,gc,cc,fun i => (rc i).1,fun i => (rc i).2,rfl,rfl,rfl,⟨?_,ht.oA.2,fun i hi => (ht.o _ (hmem i hi)).1,fun i t hi ht' e => ?_,fun i hi e => (h.t.o _ (hmem i hi)).2.1 ga rfl (by rw [← e]; rfl)⟩,by rw [← hb]; exact h.oB,by rw [← hC]; exact h.oC,fun i hi => ⟨by have:=hlow i hi; omega,by have:=hlow i hi; omega⟩,⟨by omega,by omega,fun e => h.sep gb rfl (by rw [e]; rfl)⟩⟩
 ·have:=ht.oA.1;unfold OwnS at this;rw [exs,rsl_len] at this;exact this
 ·by_cases hit:i=t
  ·exact hit
  ·exfalso
   have key:∀ i t,i < t→t < m→(rc i).1=(rc t).1→False:=fun i t hlt ht e => by
    have h1:=hrc i (by omega);have h2:=hrc t ht;have li:i < ow.length:=by omega
    have lt:t < ow.length:=by omega
    have hs:=List.pairwise_iff_getElem.1 h.t.s i t li lt hlt;rw [gE li] at h1;rw [gE lt] at h2;simp only [Option.some.injEq] at h1 h2;rw [h1,h2] at hs;exact hs (rc i).1 rfl (by rw [e]; rfl)
   rcases Nat.lt_or_gt_of_ne hit with hlt | hlt
   ·exact key i t hlt ht' e
   ·exact key t i hlt hi e.symm
section
variable {A : List (List Rat)} {b C : List Rat} {m n K : Nat}
theorem WP.ownw (W:WP A b C m n K) (aA aB aC:Option Addr) (cA cB cC:Nat) (w:World) (h:PrgA w A b C aA aB aC) :
  Calls Tryz.prog 13 #[.agg #[.slice aA m cA,.slice aB m cB,.slice aC n cC]] w fun e w' => (∃ ga ca gb cb gc cc rr cr,e=.returned (.agg #[.slice (some ⟨ga,0,none⟩) m ca,.slice (some ⟨gb,0,none⟩) m cb,.slice (some ⟨gc,0,none⟩) n cc])∧QW w' w.heap.size ga ca gb cb gc cc m n rr cr (fun i j => (A.getD i []).getD j 0) (fun i => b.getD i 0) (fun k => C.getD k 0))∧Below w.heap.size w w':=by
 have hm:=W.hm;have hn:=W.hn;have hl:∀ r∈A.map (·.map some),(r:List Qo).length≤100000:=fun r hr => by
  obtain ⟨a,ha,rfl⟩:=List.mem_map.1 hr;rw [List.length_map,W.rA a ha]; omega
 have:=own13 (A.map (·.map some)) (b.map some) (C.map some) (hii ⟨by rw [List.length_map,W.lA]; omega,hl⟩) (hii ⟨by rw [List.length_map,W.lb]; omega,by rw [List.length_map,W.lC]; omega⟩) aA aB aC cA cB cC w h.1 h.2.1 h.2.2;rw [List.length_map,List.length_map,List.length_map,W.lA,W.lb,W.lC] at this;refine this.mono fun e w' h => ⟨?_,h.2⟩
 obtain ⟨vA,vB,vC,B,g,ow,rfl,hO,how,hB⟩:=h.1;obtain ⟨ga,ca,gb,cb,gc,cc,rr,cr,rfl,rfl,rfl,hQ⟩:=hO.qw (L:=fun i j => (A.getD i []).getD j 0) (fb:=fun i => b.getD i 0) (fC:=fun k => C.getD k 0) hB (how.trans (rows_list W.lA W.rA)) (vq_list W.lb) (vq_list W.lC) (by omega) (by omega);exact ⟨ga,ca,gb,cb,gc,cc,rr,cr,rfl,hQ⟩
end
end Go.Proofs.YtileholjbdhmjaaGreatDoor
