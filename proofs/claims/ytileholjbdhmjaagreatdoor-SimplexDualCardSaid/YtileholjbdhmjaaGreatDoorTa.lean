/-
  The laws of chapter 13: what Made returns is a program of whole numbers from -20 to 20.
-/
import Derived.Test.YtileholjbdhmjaaGreatDoorRm
import Derived.Test.YtileholjbdhmjaaGreatDoorRj
import Derived.Test.YtileholjbdhmjaaGreatDoorE14
set_option linter.unusedVariables false
set_option linter.unusedSimpArgs false
namespace Go.Proofs.YtileholjbdhmjaaGreatDoor
open Go.RowKit
def zA (A:List (List Int)) (n m:Nat):List (List Int):=(List.range m).map fun i => (List.range n).map fun k => (elA A i k).tmod 21
theorem prg13_qz (A:List (List Int)) (B C:List Int):prg13 A B C=⟨((zA A C.length B.length).map qz).map (·.map some),(qz (B.map (·.tmod 21))).map some,(qz (C.map (·.tmod 21))).map some⟩:=by
 unfold prg13 zA qz row13;simp only [List.map_map,Function.comp_def]
 rfl
theorem tmodA (z:Int):(z.tmod 21).natAbs≤20:=by
 have:=tmod21 z;omega
def MadeW (w':World) (e:Ending):Prop :=
 e=.returned (.tuple #[.agg #[.slice none 0 0,.slice none 0 0,.slice none 0 0],.bool false]) ∨
 ∃ A b C m n aA cA aB cB aC cC,e=.returned (.tuple #[.agg #[.slice aA m cA,.slice aB m cB,.slice aC n cC],.bool true])∧WP A b C m n 20∧(m≤6∧n≤8)∧PrgA w' A b C aA aB aC
theorem made_wp (A:List (List Int)) (B C:List Int) (aA aB aC:Option Addr) (cA cB cC:Nat) (w:World) (hA:A.length≤9223372036854775807) (hB:B.length≤9223372036854775807) (hC:C.length≤9223372036854775807)
  (hAl:Hid (∀ row∈A,row.length≤9223372036854775807)) (hAr:Hid (∀ row∈A,∀ z∈row,-128≤z∧z≤127)) (hBr:Hid (∀ z∈B,0≤z∧z≤255)) (hCr:Hid (∀ z∈C,-128≤z∧z≤127)) (uA:UR w aA A) (uB:UK .u8 w aB B) (uC:UK .i8 w aC C) (hE:Env w) :
  Calls Tryz.prog 10 #[.agg #[.slice aA A.length cA,.slice aB B.length cB,.slice aC C.length cC]] w fun e w' => MadeW w' e∧Below w.heap.size w w':=by
 refine (made13_any A B C aA aB aC cA cB cC w hA hB hC hAl hAr hBr hCr uA uB uC hE).mono fun e w' h => ⟨?_,h.2⟩
 rcases h.1 with ⟨_,rfl⟩ | ⟨hg,v0,v1,v2,rfl,hP⟩
 ·exact .inl rfl
 ·right
  rw [prg13_qz] at hP;have hm:1≤B.length∧B.length≤6:=by unfold Bad13 at hg; omega
  have hn:1≤C.length∧C.length≤8:=by unfold Bad13 at hg; omega
  have W:=wp_int (Z:=zA A C.length B.length) (y:=B.map (·.tmod 21)) (c:=C.map (·.tmod 21)) (by simp [zA]) (fun r hr => by
   obtain ⟨i,_,rfl⟩:=List.mem_map.1 hr;simp) (fun r hr z hz => by
   obtain ⟨i,_,rfl⟩:=List.mem_map.1 hr;obtain ⟨k,_,rfl⟩:=List.mem_map.1 hz;exact tmodA _) (fun z hz => by
   obtain ⟨x,hx,rfl⟩:=List.mem_map.1 hz;have h0:=(hBr.out x hx).1;have h1:=tmod21 x;exact ⟨Int.tmod_nonneg _ h0,by omega⟩) (fun z hz => by
   obtain ⟨x,_,rfl⟩:=List.mem_map.1 hz;exact tmodA _) (by simp; omega) (by simp; omega)
  obtain ⟨pA,qA,pB,qB,pC,qC,he,h1,h2,h3⟩:=hP;simp only [List.length_map] at W he;rw [he];have e1:(zA A C.length B.length).length=B.length:=by simp [zA]
  refine ⟨_,_,_,B.length,C.length,pA,qA,pB,qB,pC,qC,?_,W,⟨hm.2,hn.2⟩,h1,h2,h3⟩;simp only [qz_len,List.length_map,e1]
def rsl (rr cr:Nat→Nat) (n m:Nat):List Value:=(List.range m).map fun i => .slice (some ⟨rr i,0,none⟩) n (cr i)
theorem OwnO.noU' {W:World} {B:Nat} {v:Value} {l:List Qo} (h:OwnO W B v l):NoU (fun k => v.ownBlock=some k) W:=fun k hk cur t fr hc u hu => (h.choose_spec.2.1 k hk cur t fr hc u hu).limb
theorem OwnO.noB {W:World} {B g n' cap:Nat} {l:List Qo} (h:OwnO W B (.slice (some ⟨g,0,none⟩) n' cap) l):NoU (fun k => k=g) W:=h.noU'.sub fun k e => by rw [e]; rfl
theorem kept4 {W:World} {g k:Nat} {x y z u:Value}:Kept (fun b => b=g) W ((((W.setCell ⟨g,k,none⟩ x).setCell ⟨g,k + 1,none⟩ y).setCell ⟨g,k + 2,none⟩ z).setCell ⟨g,k + 3,none⟩ u) :=
 (((((Kept.refl W:Kept (fun k => k=g) W W)).setCell (p:=⟨g,k,none⟩) rfl _).setCell (p:=⟨g,k + 1,none⟩) rfl _).setCell (p:=⟨g,k + 2,none⟩) rfl _).setCell (p:=⟨g,k + 3,none⟩) rfl _
def C4 (W:World) (g k:Nat) (r:Rat):Prop:=∃ (n1:Bool) (a1:Option Addr) (l1 c1:Nat) (n2:Bool) (a2:Option Addr) (l2 c2:Nat),
  W.cell? ⟨g,k * 4,none⟩=some (.bool n1)∧W.cell? ⟨g,k * 4 + 1,none⟩=some (.slice a1 l1 c1)∧W.cell? ⟨g,k * 4 + 2,none⟩=some (.bool n2)∧W.cell? ⟨g,k * 4 + 3,none⟩=some (.slice a2 l2 c2) ∧
  W.frozen? ⟨g,k * 4,none⟩=false∧W.frozen? ⟨g,k * 4 + 1,none⟩=false∧W.frozen? ⟨g,k * 4 + 2,none⟩=false∧W.frozen? ⟨g,k * 4 + 3,none⟩=false∧RatV W (.agg #[.bool n1,.slice a1 l1 c1,.bool n2,.slice a2 l2 c2]) r
structure RX (W:World) (B ga ca m n:Nat) (xs:List Value) (rr cr:Nat→Nat) (L:Nat→Nat→Rat):Prop where
 out:W.ownsRow B 28 1 (.slice (some ⟨ga,0,none⟩) m ca) m xs
 nA:NoI W (.slice (some ⟨ga,0,none⟩) m ca)
 row:∀ i,i < m→OwnO W B (.slice (some ⟨rr i,0,none⟩) n (cr i)) (rowQ L i n)
 inj:∀ i t,i < m→t < m→rr i=rr t→i=t
 sepr:∀ i,i < m→rr i ≠ ga
abbrev RW (W:World) (B ga ca m n:Nat) (rr cr:Nat→Nat) (L:Nat→Nat→Rat):Prop:=RX W B ga ca m n (rsl rr cr n m) rr cr L
section
variable {W W' : World} {B ga ca m n : Nat} {xs : List Value} {rr cr : Nat → Nat} {L : Nat → Nat → Rat}
theorem RX.kept {G:Nat→Prop} (h:RX W B ga ca m n xs rr cr L) (hk:Kept G W W') (hp:NoU G W) (h1:¬ G ga) (h2:∀ i,i < m→¬ G (rr i)):RX W' B ga ca m n xs rr cr L :=
 ⟨ownsRow_kept h.out hk fun b e => by cases e; exact h1,h.nA.kept h.out hk fun b e => by cases e; exact h1,fun i hi => (h.row i hi).keptU hk hp fun b e => by cases e; exact h2 i hi,h.inj,h.sepr⟩
theorem RX.mono (h:RX W B ga ca m n xs rr cr L) (hb:Below W.heap.size W W'):RX W' B ga ca m n xs rr cr L :=
 h.kept (G:=fun _ => False) (.of_below hb) (fun _ h => h.elim) _root_.id fun _ _ => _root_.id
theorem RX.congr {M:Nat→Nat→Rat} (h:RX W B ga ca m n xs rr cr L) (h1:∀ i,i < m→∀ j,j < n→L i j=M i j):RX W B ga ca m n xs rr cr M :=
 ⟨h.out,h.nA,fun i hi => by rw [← rowQ_congr (L:=L) (M:=M) (i:=i) (t:=i) fun j hj => h1 i hi j hj]; exact h.row i hi,h.inj,h.sepr⟩
theorem RX.at (h:RX W B ga ca m n xs rr cr L) {i j:Nat} (hi:i < m) (hj:j < n):C4 W (rr i) j (L i j):=(h.row i hi).cells4 (rowQ_get hj)
theorem RX.lowR (h:RX W B ga ca m n xs rr cr L) {i:Nat} (hi:i < m):B≤rr i∧rr i < W.heap.size:=(h.row i hi).lt _ rfl
theorem RX.noA (h:RX W B ga ca m n xs rr cr L):NoU (fun k => k=ga) W:=fun k hk cur t fr hc u hu => (h.nA k (by rw [hk]; rfl) cur t fr hc u hu).limb
theorem RX.put (h:RX W B ga ca m n xs rr cr L) {i j:Nat} {n1:Bool} {a1:Option Addr} {l1 c1:Nat} {n2:Bool} {a2:Option Addr} {l2 c2:Nat} {r:Rat} (hi:i < m) (hj:j < n) (hv:RatV W (.agg #[.bool n1,.slice a1 l1 c1,.bool n2,.slice a2 l2 c2]) r) :
  RX ((((W.setCell ⟨rr i,j * 4,none⟩ (.bool n1)).setCell ⟨rr i,j * 4 + 1,none⟩ (.slice a1 l1 c1)).setCell ⟨rr i,j * 4 + 2,none⟩ (.bool n2)).setCell ⟨rr i,j * 4 + 3,none⟩ (.slice a2 l2 c2)) B ga ca m n xs rr cr (up L i j r):=by
 obtain ⟨hput,_⟩:=(h.row i hi).put (o:=some r) (by rw [rowQ_length]; exact hj) hv;have hno:=(h.row i hi).noB;have hk:=kept4 (W:=W) (g:=rr i) (k:=j * 4) (x:=.bool n1) (y:=.slice a1 l1 c1) (z:=.bool n2) (u:=.slice a2 l2 c2);generalize ((((W.setCell ⟨rr i,j * 4,none⟩ (.bool n1)).setCell ⟨rr i,j * 4 + 1,none⟩ (.slice a1 l1 c1)).setCell ⟨rr i,j * 4 + 2,none⟩ (.bool n2)).setCell ⟨rr i,j * 4 + 3,none⟩ (.slice a2 l2 c2))=W' at *;have s1:=h.sepr i hi;refine ⟨ownsRow_kept h.out hk fun b e => by cases e; exact fun e => s1 e.symm,h.nA.kept h.out hk fun b e => by cases e; exact fun e => s1 e.symm,fun t ht => ?_,h.inj,h.sepr⟩
 by_cases e:t=i
 ·subst e;rw [← rowQ_set hj]; exact hput
 ·rw [rowQ_up e];exact (h.row t ht).keptU hk hno fun b eb => by cases eb; exact fun e2 => e (h.inj t i ht hi e2)
theorem RX.set (h:RX W B ga ca m n xs rr cr L) (k:Nat) (a:Option Addr) (l c:Nat):RX (W.setCell ⟨ga,k,none⟩ (.slice a l c)) B ga ca m n (xs.set k (.slice a l c)) rr cr L:=by
 have r1:=ownsRow_set (k:=k) (x:=.slice a l c) h.out;have nA:=noI_set (k:=k) (x:=.slice a l c) h.nA h.out (noInt_slice _ _ _);have hk:Kept (fun k => k=ga) W (W.setCell ⟨ga,k,none⟩ (.slice a l c)):=((Kept.refl W:Kept (fun k => k=ga) W W)).setCell (p:=⟨ga,k,none⟩) rfl _;have hno:=h.noA;generalize W.setCell ⟨ga,k,none⟩ (.slice a l c)=W' at *;exact ⟨r1,nA,fun t ht => (h.row t ht).keptU hk hno fun b e => by cases e; exact h.sepr t ht,h.inj,h.sepr⟩
end
section
variable {W W' : World} {B ga ca gb cb gc cc m n : Nat} {xs : List Value} {rr cr : Nat → Nat} {L : Nat → Nat → Rat} {b C : Nat → Rat}
end
section
variable {A : List (List Rat)} {b C : List Rat} {m n K : Nat}
end
end Go.Proofs.YtileholjbdhmjaaGreatDoor
