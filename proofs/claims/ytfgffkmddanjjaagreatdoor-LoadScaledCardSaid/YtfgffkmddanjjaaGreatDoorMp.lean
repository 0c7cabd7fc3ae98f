/-
  The laws of chapter 15, plain: the workload of a case, doubled capacities, both bounds, fair schedules, strategies.
-/
import Derived.Test.YtfgffkmddanjjaaGreatDoorLq1
import Derived.Test.YtfgffkmddanjjaaGreatDoorLs1
import Derived.Test.YtfgffkmddanjjaaGreatDoorLv
set_option linter.unusedVariables false
set_option linter.unusedSimpArgs false
namespace Go.Proofs.YtfgffkmddanjjaaGreatDoor
open Go.RowKit
def zd5 (l:List Nat) (n:Nat):List Nat:=(l.map (· % 2 ^ n)).filter λ x => !decide (x=0)
def zhS (l:List Nat) (n:Nat):List Nat:=if zd5 l n=[] then [2 ^ n - 1] else zd5 l n
def zbR (l:List Nat) (n:Nat):List Nat:=zch (zhS (l.take 3) n)
theorem ziQ {l:List Nat} {i x n:Nat} (h:l[i]?=some x):zd5 (l.take (i + 1)) n=zd5 (l.take i) n ++ if x % 2 ^ n=0 then [] else [x % 2 ^ n]:=by
 unfold zd5;rw [List.take_add_one,h,List.map_append,List.filter_append]
 congr 1
 by_cases h0:x % 2 ^ n=0 <;> simp [h0]
theorem zg1 (l:List Nat) (n:Nat):(zd5 l n).length<=l.length:=by
 unfold zd5; exact Nat.le_trans (List.length_filter_le _ _) (by simp)
theorem zda {l:List Nat} {n x:Nat} (hn:1<=n) (h:x∈zhS l n):x ≠ 0/\x < 2 ^ n:=by
 have hp:=Nat.two_pow_pos n;unfold zhS at h
 split at h
 ·simp at h;subst h;have:2 ^ 1<=2 ^ n:=Nat.pow_le_pow_right (by decide) hn;omega
 ·unfold zd5 at h;obtain ⟨h1,h2⟩:=List.mem_filter.1 h;obtain ⟨y,-,rfl⟩:=List.mem_map.1 h1;exact ⟨by simpa using h2,Nat.mod_lt _ hp⟩
theorem zls (l:List Nat) (n:Nat):zhS l n ≠ []:=by
 unfold zhS
 split
 ·simp
 ·assumption
theorem zj2 {l:List Nat} {n:Nat} (h:l.length<=3):(zhS l n).length<=3:=by
 unfold zhS
 split
 ·simp
 ·exact Nat.le_trans (zg1 l n) h
theorem zbY (l:List Nat) (n:Nat):(zbR l n).length<=3:=Nat.le_trans (zhA _) (zj2 (by simp; omega))
theorem ze2 (l:List Nat) {n:Nat} (hn:1<=n/\n<=12):zfG (zbR l n) n:=by
 have hlow:∀ x∈zhS (l.take 3) n,x < 65536:=λ x hx => Nat.lt_of_lt_of_le (zda hn.1 hx).2 (Nat.le_trans (Nat.pow_le_pow_right (by decide) hn.2) (by decide))
 refine ⟨zhB _,⟨List.length_pos_iff.2 (ziy hlow (zls _ _)),Nat.le_trans (zbY l n) (by decide)⟩,λ x hx => (zda hn.1 (zd0 hx)).1,λ x hx => (zda hn.1 (zd0 hx)).2⟩
theorem zfG.take {l : List Nat} {n k : Nat} (h : zfG l n) (hk : 1 ≤ k) : zfG (l.take k) n :=
  ⟨⟨h.fam.pair.sublist (List.take_sublist _ _), fun x hx y hy => h.fam.anti x (List.mem_of_mem_take hx) y (List.mem_of_mem_take hy)⟩,
   ⟨by rw [List.length_take]; have := h.len.1; omega, by rw [List.length_take]; have := h.len.2; omega⟩,
   fun x hx => h.ne x (List.mem_of_mem_take hx), fun x hx => h.low x (List.mem_of_mem_take hx)⟩
def wrN (R S:List Nat):List Nat:=if 8 < R.length * S.length then S.take 2 else S
def zfE (l:List Nat) (i:Nat):Int:=1 + (l.getD i 0 % 8:Nat)
def zeR (l:List Nat) (n:Nat):List Rat:=(List.range n).map λ i => Rat.divInt (zfE l i) 2
theorem ziY (l:List Nat) (n:Nat):zeR l (n + 1)=zeR l n ++ [Rat.divInt (zfE l n) 2]:=by unfold zeR; rw [List.range_succ,List.map_append]; rfl
def fN (k:Nat):Rat:=Rat.divInt (k % 13:Nat) 12
theorem zcU (z:Int) {d:Int} (hd:d ≠ 0):Rat.divInt z d * (d:Rat)=(z:Rat):=by
 have h0:(d:Rat) ≠ 0:=λ e => hd (by have:=congrArg Rat.num e; simpa using this)
 rw [Rat.divInt_eq_div,Rat.div_mul_cancel h0]
theorem zfn {z d:Int} (hd:0 < d) (hz:0<=z):0<=Rat.divInt z d:=by
 rw [Rat.divInt_eq_div];exact Sx.div_nonneg' (by exact_mod_cast hz) (by exact_mod_cast hd)
theorem zfm {z d:Int} (hd:0 < d) (hz:0 < z):0 < Rat.divInt z d:=by
 refine Rat.lt_of_le_of_ne (zfn hd (Int.le_of_lt hz)) λ e => ?_
 have h:=zcU z (d:=d) (by omega);rw [<- e,Rat.zero_mul] at h;have:=congrArg Rat.num h;simp at this;omega
theorem zeM {l:List Nat} {n:Nat} {c:Rat} (h:c∈zeR l n):∃ k:Int,1<=k/\k<=8/\c=Rat.divInt k 2:=by
 obtain ⟨i,-,rfl⟩:=List.mem_map.1 h;exact ⟨zfE l i,by unfold zfE; omega,by unfold zfE; omega,rfl⟩
theorem zkT {k c:Int} (h1:1<=k) (h2:k<=8) (hc:c=1\/c=2):Sx.Wh (Rat.divInt k 2 * (c:Rat) * ((12:Nat):Rat)) 96:=by
 refine ⟨k * c * 6,?_,by rcases hc with rfl | rfl <;> omega⟩;have h:=zcU k (d:=2) (by decide);rw [Rat.intCast_mul,Rat.intCast_mul,<- h];have:((12:Nat):Rat)=((2:Int):Rat) * ((6:Int):Rat):=by decide +kernel
 rw [this]; grind
theorem zjz (lR lS lC:List Nat) (k:Nat) {n:Nat} (hn:1<=n/\n<=5):WkM (zbR lR n) (wrN (zbR lR n) (zbR lS n)) (fN k) (zeR lC n) n:=by
 have h12:1<=n/\n<=12:=⟨hn.1,by omega⟩;have fR:=ze2 lR h12;have fS:=ze2 lS h12;have l1:=zbY lR n;have l2:=zbY lS n;have h0:(0:Int)<=((k % 13:Nat):Int):=by omega
 have hf:=zcU ((k % 13:Nat):Int) (d:=12) (by decide);have fS2:zfG (wrN (zbR lR n) (zbR lS n)) n:=by
  unfold wrN
  split
  ·exact fS.take (by decide)
  ·exact fS
 refine ⟨hn,fR,fS2,?_,by unfold zeR; simp,zfn (by decide) h0,?_,⟨((k % 13:Nat):Int),hf,by omega⟩,λ c hc => ?_,λ c hc => ?_⟩
 ·unfold wrN
  split
  ·rw [List.length_take];generalize (zbR lR n).length=a at *;generalize (zbR lS n).length=b at *;have:min 2 b<=2:=by omega
   have:=Nat.mul_le_mul l1 this;omega
  ·omega
 ·have h1:Rat.divInt ((k % 13:Nat):Int) 12 * 12<=1 * 12:=by
   rw [show (12:Rat)=((12:Int):Rat) from rfl,hf,Rat.one_mul];have:((k % 13:Nat):Int)<=12:=by omega
   exact_mod_cast this
  refine Rat.not_lt.1 λ h2 => ?_
  have:=Rat.mul_lt_mul_of_pos_right h2 (c:=12) (by decide);exact absurd h1 (Rat.not_le.2 this)
 ·obtain ⟨z,h1,h2,rfl⟩:=zeM hc;have:=zkT h1 h2 (c:=1) (.inl rfl)
  rwa [show ((1:Int):Rat)=1 from rfl,Rat.mul_one] at this
 ·obtain ⟨z,h1,h2,rfl⟩:=zeM hc;exact zfm (by decide) (by omega)
theorem WkM.twice {R S lC:List Nat} {f:Rat} {n:Nat} (W:WkM R S f (zeR lC n) n):WkM R S f ((zeR lC n).map (· * 2)) n:=by
 refine ⟨W.hm,W.fR,W.fS,W.n9,by rw [List.length_map]; exact W.lc,W.f0,W.f1,W.wf,λ c hc => ?_,λ c hc => ?_⟩
 ·obtain ⟨d,hd,rfl⟩:=List.mem_map.1 hc;obtain ⟨z,h1,h2,rfl⟩:=zeM hd;exact zkT h1 h2 (c:=2) (.inr rfl)
 ·obtain ⟨d,hd,rfl⟩:=List.mem_map.1 hc;obtain ⟨z,h1,h2,rfl⟩:=zeM hd;exact Rat.mul_pos (zfm (by decide) (by omega)) (by decide)
section
variable {l : List (Nat × Nat)} {f : Rat} {cap : List Rat} {m n M M2 : Nat} {a b : Rat} {P Q P2 Q2 : List Rat}
theorem Bal.half (B:Bal l f cap m n M a P Q) (B2:Bal l f (cap.map (· * 2)) m n M2 b P2 Q2) (hl:l.length=n):a=b * 2:=by
 refine Rat.le_antisymm ?_ ?_
 ·refine B.le (sh:=shs l P2) (λ s hs => (zbm hs).1) (λ s hs => Rat.le_of_lt (zbm hs).2.2) (B2.total hl) λ i hi => ?_
  rw [B2.tS_eq hl];have:=B2.row i hi;rw [zcD] at this
  grind
 ·have h:b<=a * (1 / 2):=by
   refine B2.le (sh:=shs l P) (λ s hs => (zbm hs).1) (λ s hs => Rat.le_of_lt (zbm hs).2.2) (B.total hl) λ i hi => ?_
   rw [B.tS_eq hl,zcD];have:=B.row i hi
   grind
  grind
end
section
variable {R S : List Nat} {m M : Nat} {ld : Rat} {P Q : List Rat}
theorem Bal.rep (B:Bal (prs R S) 0 (List.replicate m 1) m (prs R S).length M ld P Q) (s0:Nat):Du.sm m (λ i => (if s0.testBit i then (1:Rat) else 0) * Du.sm (prs R S).length (λ k => wt 0 ((prs R S).getD k (0,0)) i * P.getD k 0))<=Du.sm m (λ i => if s0.testBit i then (1:Rat) else 0) * ld:=by
 rw [<- Sx.sm_mulr];refine Du.sm_le _ _ _ λ i hi => ?_
 have h:=B.row i hi;rw [List.getD_eq_getElem?_getD,List.getElem?_replicate,if_pos hi,Option.getD_some,Rat.one_mul] at h
 split
 ·rw [Rat.one_mul,Rat.one_mul]; exact h
 ·rw [Rat.zero_mul,Rat.zero_mul]; exact Rat.le_refl
theorem zmD {k:Nat} (hk:k < (prs R S).length):(prs R S).getD k (0,0)∈prs R S:=by
 rw [List.getD_eq_getElem?_getD,gE hk]; exact List.getElem_mem hk
theorem Bal.posP (B:Bal (prs R S) 0 (List.replicate m 1) m (prs R S).length M ld P Q) {k:Nat} (hk:k < (prs R S).length):0<=P.getD k 0:=by
 have hk':k < P.length:=by rw [B.lP]; exact hk
 rw [List.getD_eq_getElem?_getD,gE hk'];exact B.pP _ (List.getElem_mem hk')
theorem Bal.low (B:Bal (prs R S) 0 (List.replicate m 1) m (prs R S).length M ld P Q) {s0:Nat} {c d:Rat} (hc:Du.sm m (λ i => if s0.testBit i then (1:Rat) else 0)=c) (h:∀ q∈prs R S,d<=Du.sm m (λ i => wt 0 q i * (if s0.testBit i then (1:Rat) else 0))):d<=c * ld:=by
 have h1:=B.rep s0;rw [hc,Du.sm_swap m (prs R S).length (λ i => if s0.testBit i then (1:Rat) else 0) (λ k => P.getD k 0) (λ i k => wt 0 ((prs R S).getD k (0,0)) i)] at h1;refine Rat.le_trans ?_ h1;have h2:Du.sm (prs R S).length (λ k => P.getD k 0 * d)<=Du.sm (prs R S).length (λ k => P.getD k 0 * Du.sm m (λ i => wt 0 ((prs R S).getD k (0,0)) i * (if s0.testBit i then (1:Rat) else 0))) :=
  Du.sm_le _ _ _ λ k hk => Rat.mul_le_mul_of_nonneg_left (h _ (zmD hk)) (B.posP hk)
 rw [Sx.sm_mulr,B.sum,Rat.one_mul] at h2;exact h2
end
def zmh (l:List Nat):List Value:=l.map λ b => .int .u16 (b:Nat)
def zbT (w:World) (B:Nat) (v:Value) (l:List Nat):Prop:=w.ownsRow B 52 1 v l.length (zmh l)
theorem zbT.nil (w:World) (B:Nat):zbT w B (.slice none 0 0) []:=World.ownsRow_nil _ _ _ _
theorem zbT.mono {w w':World} {B:Nat} {v:Value} {l:List Nat} (h:zbT w B v l) (hb:BH w w'):zbT w' B v l:=zbg h hb
theorem zbT.lt {w:World} {B:Nat} {v:Value} {l:List Nat} (h:zbT w B v l):∀ b,v.ownBlock=some b->B<=b/\b < w.heap.size:=World.ownsRow.lt h
theorem zbT.read {w:World} {B:Nat} {v:Value} {l:List Nat} (h:zbT w B v l):∃ ao cap,v=.slice ao l.length cap/\l.length<=cap/\zaM w ao l:=by
 have h30:=h;rcases h.2 with ⟨rfl,hn0⟩ | ⟨g,cap,cur,rfl,hB,hg,hnc,hcm,hcs,htake⟩
 ·have:l=[]:=List.eq_nil_of_length_eq_zero hn0;subst this;exact ⟨none,0,rfl,nl,zaM.nil⟩
 ·refine ⟨some ⟨g,0,none⟩,cap,rfl,hnc,λ j y hy => ⟨g,0,rfl,?_⟩⟩;rw [Nat.zero_add];exact zaA h30 (by unfold zmh; rw [List.getElem?_map,hy]; rfl)
theorem zbT.row {w:World} {B:Nat} {v:Value} {l:List Nat} (h:zbT w B v l) (hl:0 < l.length):∃ g cap,v=.slice (some ⟨g,0,none⟩) l.length cap/\B<=g/\l.length<=cap:=by
 rcases h.2 with ⟨rfl,hn0⟩ | ⟨g,cap,cur,rfl,hB,hg,hnc,hcm,hcs,htake⟩
 ·omega
 ·exact ⟨g,cap,rfl,hB,hnc⟩
theorem zbT.cell {w:World} {B g n cap:Nat} {l:List Nat} (h:zbT w B (.slice (some ⟨g,0,none⟩) n cap) l) {k x:Nat} (hk:l[k]?=some x):w.cell? ⟨g,k,none⟩=some (.int .u16 (x:Nat)) :=
 zaA h (by unfold zmh; rw [List.getElem?_map,hk]; rfl)
theorem zbT.free {w:World} {B g n cap:Nat} {l:List Nat} (h:zbT w B (.slice (some ⟨g,0,none⟩) n cap) l) (k:Nat):w.frozen? ⟨g,k,none⟩=false:=zaQ h k
theorem zbT.set {w:World} {B g n cap:Nat} {l:List Nat} (h:zbT w B (.slice (some ⟨g,0,none⟩) n cap) l) (k x:Nat):zbT (w.setCell ⟨g,k,none⟩ (.int .u16 (x:Nat))) B (.slice (some ⟨g,0,none⟩) n cap) (l.set k x):=by
 have:=za5 (k:=k) (x:=.int .u16 (x:Nat)) h;unfold zbT zmh at *;rw [List.length_set,List.map_set];exact this
theorem zi3 {ops:Array Oper} {rest:List Oper} {o:Oper} {act:Act} {Q:Exit->Act->World->Prop} (W X:World) (B:Nat) (hgd:o.guard=none) (s x:Operand) (ho:o.op=.call { callee:=.builtin .append,args:=#[s,x],argTypes:=#[27,27] })
  {v:Value} {l:List Nat} {a:Nat} (hes:act.eval s=v) (hex:act.eval x=.slice (some ⟨W.heap.size,0,none⟩) 1 1) (hown:zbT W B v l) (hB:B<=W.heap.size) (hb:Below B X W) (hl:l.length<=1000000)
  (hK:∀ v' w',zbT w' B v' (l ++ [a])->Below B X w'->wpList Tryz.prog ops Q rest (act.put o.dst v') w') :
  wpList Tryz.prog ops Q (o :: rest) act (W.alloc (.cells #[.int .u16 (a:Nat)] 52)):=by
 obtain ⟨i0,hi,hz0,hz1,hz2⟩:=info_parts Tryz.info52;have hba:=bA W (.cells #[.int .u16 (a:Nat)] 52);have hrow:Row (W.alloc (.cells #[.int .u16 (a:Nat)] 52)) W.heap.size 52 [.int .u16 (a:Nat)]:=heap_alloc_new _ _;generalize W.alloc (.cells #[.int .u16 (a:Nat)] 52)=w at *;have hown:=hown.mono hba;have hB':=Nat.le_trans hB hba.size;have hb:=hb.trans (hba.mono hB);have hn:∀ (j:Nat) (u:Value),[Value.int .u16 (a:Nat)][j]?=some u->w.cell? ((⟨W.heap.size,0,none⟩:Addr).add j)=some u:=by
  intro j u hj
  match j,hj with
  | 0,hj => simp at hj; subst hj; simpa [Addr.add] using hrow.cell (k:=0) (by simp)
  | j + 1,hj => simp at hj
 have h1:∀ u∈[Value.int .u16 (a:Nat)],u.oneCell'=true:=by intro u hu; simp at hu; subst hu; rfl
 obtain ⟨v',w',hr,h3,h4,h5⟩:=run_append_own (P:=Tryz.prog) w B 27 o.type 52 i0 (.int .u16 0) i0.size i0.bytes Tryz.slice27 hi hz0 rfl rfl (by rw [hz1]; rfl) (by rw [hz1]; decide) v l.length (zmh l) (by rw [hz1]; exact hown) ⟨W.heap.size,0,none⟩ 1 1 [.int .u16 (a:Nat)] (by rw [hz1]; rfl) hn h1 (by unfold maxLen; omega) (by rw [hz2]; omega) hB';refine wpList_plain hgd λ K hK' => ?_
 refine zaB s x ho hes hex hr (hK' _ _ (hK v' w' ?_ (hb.grown h4 hB' λ g hg => (World.ownsRow.lt hown g hg).1)));rw [hz1] at h3;unfold zbT zmh;rw [List.length_append,List.map_append];exact h3
end Go.Proofs.YtfgffkmddanjjaaGreatDoor
