/-
  What the checks of chapter 14 say about the numbers: plain laws.
-/
import Derived.Test.YtaedmaifkfhpfaaGreatDoorD1
import Derived.Test.YtaedmaifkfhpfaaGreatDoorDuJ
import Derived.Test.YtaedmaifkfhpfaaGreatDoorOQ
import Derived.Laws.CopyRow
set_option linter.unusedVariables false
set_option linter.unusedSimpArgs false
set_option maxRecDepth 100000
set_option maxHeartbeats 25600000
namespace Go.Proofs.YtaedmaifkfhpfaaGreatDoor
open Go.RowKit
theorem cmp_le (x y:Rat):Rq.cmpQ x y≤0↔x≤y:=by
 unfold Rq.cmpQ
 by_cases h:x < y
 ·rw [if_pos h]; exact ⟨fun _ => Rat.le_of_lt h,fun _ => by decide⟩
 ·rw [if_neg h]
  by_cases h':y < x
  ·rw [if_pos h']; exact ⟨fun hh => absurd hh (by decide),fun hh => absurd hh (Rat.not_le.2 h')⟩
  ·rw [if_neg h']; exact ⟨fun _ => Rat.not_lt.1 h',fun _ => by decide⟩
theorem cmp_lt (x y:Rat):Rq.cmpQ x y < 0↔x < y:=by
 unfold Rq.cmpQ
 by_cases h:x < y
 ·rw [if_pos h]; exact ⟨fun _ => h,fun _ => by decide⟩
 ·rw [if_neg h]
  by_cases h':y < x
  ·rw [if_pos h']; exact ⟨fun hh => absurd hh (by decide),fun hh => absurd hh h⟩
  ·rw [if_neg h']; exact ⟨fun hh => absurd hh (by decide),fun hh => absurd hh h⟩
theorem cmp_ge (x y:Rat):0≤Rq.cmpQ x y↔y≤x:=by
 have:=cmp_lt x y
 constructor
 ·intro h; exact Rat.not_lt.1 fun h' => by have:=this.2 h'; omega
 ·intro h
  by_cases hh:Rq.cmpQ x y < 0
  ·exact absurd (this.1 hh) (Rat.not_lt.2 h)
  ·omega
theorem cmp_eq0 (x y:Rat):Rq.cmpQ x y=0↔x=y:=by
 have h1:=cmp_le x y;have h2:=cmp_ge x y
 constructor
 ·intro h; exact Rat.le_antisymm (h1.1 (by omega)) (h2.1 (by omega))
 ·rintro rfl;have:=h1.2 Rat.le_refl;have:=h2.2 Rat.le_refl;omega
theorem dotS_val:∀ (la lb:List Rat) (acc r:Rat),DotS acc la lb (some r)→r=acc + Du.dotR la lb
 | [],_,acc,r,h => by
  have h:some r=some acc:=h
  cases h; simp only [Du.dotR]; grind
 | _ :: _,[],acc,r,h => by
  have h:some r=some acc:=h
  cases h; simp only [Du.dotR]; grind
 | a :: l,b :: m,acc,r,h => by
  rcases h with ⟨_,_,h⟩ | ⟨_,h⟩
  ·rw [dotS_val l m _ _ h]; simp only [Du.dotR]; grind
  ·cases h
theorem dotO_val {a x:List Rat} {s:Rat} (h:dotO a x=some s):s=Du.dotR a x:=by
 have:=dotO_spec a x;rw [h] at this;rw [dotS_val _ _ _ _ this]; grind
theorem agn_ok {a x:List Rat} {b:Rat} {c:Int} (h:agn a x b=(0,c)):∃ s,dotO a x=some s∧CrS s b∧c=Rq.cmpQ s b∧s=Du.dotR a x:=by
 rcases agn_cases h with ⟨_,h,_⟩ | ⟨s,h1,h⟩
 ·cases h
 ·rcases h with ⟨h2,_,h3⟩ | ⟨_,h,_⟩
  ·exact ⟨s,h1,h2,h3,dotO_val h1⟩
  ·cases h
theorem agn_zero {a x:List Rat} {b:Rat} (h:(agn a x b).1=0):∃ s,dotO a x=some s∧CrS s b∧(agn a x b).2=Rq.cmpQ s b∧s=Du.dotR a x :=
 agn_ok (c:=(agn a x b).2) (by rw [← h])
theorem agn_le {a x:List Rat} {b:Rat} (h:(agn a x b).1=0):(agn a x b).2≤0↔Du.dotR a x≤b:=by
 obtain ⟨s,_,_,e,rfl⟩:=agn_zero h;rw [e]; exact cmp_le _ _
theorem agn_ge {a x:List Rat} {b:Rat} (h:(agn a x b).1=0):0≤(agn a x b).2↔b≤Du.dotR a x:=by
 obtain ⟨s,_,_,e,rfl⟩:=agn_zero h;rw [e]; exact cmp_ge _ _
theorem agn_eq {a x:List Rat} {b:Rat} (h:(agn a x b).1=0):(agn a x b).2=0↔Du.dotR a x=b:=by
 obtain ⟨s,_,_,e,rfl⟩:=agn_zero h;rw [e]; exact cmp_eq0 _ _
theorem getD_cons {α:Type} (a:α) (l:List α) (d:α) (i:Nat):(a :: l).getD (i + 1) d=l.getD i d:=by simp [List.getD]
theorem rows_all:∀ (A:List (List Rat)) (B:List Rat) (x:List Rat),A.length=B.length→rowsErr A B x=0 →
  ∀ i,i < B.length→(agn (A.getD i []) x (B.getD i 0)).1=0∧Du.dotR (A.getD i []) x≤B.getD i 0
 | [],[],x,_,_,i,hi => by simp at hi
 | [],_ :: _,_,h,_,_,_ => by simp at h
 | _ :: _,[],_,h,_,_,_ => by simp at h
 | r :: A,b :: B,x,hl,h,i,hi => by
  rw [rowsErr] at h
  by_cases h1:(agn r x b).1=0
  ·rw [if_neg (by simpa using h1)] at h
   by_cases h2:0 < (agn r x b).2
   ·rw [if_pos h2] at h; cases h
   ·rw [if_neg h2] at h
    match i with
    | 0 => exact ⟨h1,(agn_le h1).1 (by omega)⟩
    | i + 1 =>
     rw [getD_cons,getD_cons];exact rows_all A B x (by simpa using hl) h i (by simpa using hi)
  ·rw [if_pos h1] at h; exact absurd h h1
theorem rows_zero:∀ (A:List (List Rat)) (B:List Rat) (x:List Rat),(∀ i,i < B.length→(agn (A.getD i []) x (B.getD i 0)).1=0∧Du.dotR (A.getD i []) x≤B.getD i 0)→rowsErr A B x=0
 | [],_,_,_ => by unfold rowsErr; rfl
 | _ :: _,[],_,_ => by unfold rowsErr; rfl
 | r :: A,b :: B,x,h => by
  have h0:=h 0 (by simp);have h1:(agn r x b).1=0:=h0.1;have h2:=(agn_le h1).2 h0.2;rw [rowsErr,if_neg (by simpa using h1),if_neg (by omega)];refine rows_zero A B x fun i hi => ?_
  have:=h (i + 1) (by simp; omega);rw [getD_cons,getD_cons] at this;exact this
theorem cols_all (A:List (List Rat)) (y:List Rat):∀ (C:List Rat) (k:Nat),colsErr A y k C=0 →
  ∀ i,i < C.length→(agn (colR A (k + i)) y (C.getD i 0)).1=0∧C.getD i 0≤Du.dotR (colR A (k + i)) y
 | [],_,_,i,hi => by simp at hi
 | c :: C,k,h,i,hi => by
  rw [colsErr] at h
  by_cases h1:(agn (colR A k) y c).1=0
  ·rw [if_neg (by simpa using h1)] at h
   by_cases h2:(agn (colR A k) y c).2 < 0
   ·rw [if_pos h2] at h; cases h
   ·rw [if_neg h2] at h
    match i with
    | 0 => exact ⟨h1,(agn_ge h1).1 (by omega)⟩
    | i + 1 =>
     rw [getD_cons,show k + (i + 1)=(k + 1) + i by omega];exact cols_all A y C (k + 1) h i (by simpa using hi)
  ·rw [if_pos h1] at h; exact absurd h h1
structure Fit (A:List (List Rat)) (B C:List Rat):Prop where
 rows:A.length=B.length
 cols:∀ r∈A,r.length=C.length
def fA (A:List (List Rat)) (i k:Nat):Rat:=(A.getD i []).getD k 0
def fL (l:List Rat) (k:Nat):Rat:=l.getD k 0
theorem row_len {A:List (List Rat)} {B C:List Rat} (h:Fit A B C) {i:Nat} (hi:i < B.length):(A.getD i []).length=C.length:=by
 have hl:i < A.length:=by rw [h.rows]; exact hi
 rw [List.getD_eq_getElem?_getD,gE hl];exact h.cols _ (List.getElem_mem hl)
theorem dot_row {A:List (List Rat)} {B C x:List Rat} (h:Fit A B C) (hx:x.length=C.length) {i:Nat} (hi:i < B.length) :
  Du.dotR (A.getD i []) x=Du.sm C.length (fun k => fA A i k * fL x k):=by
 have h1:=row_len h hi;rw [Du.dot_sm _ _ (by rw [h1,hx]),h1]; rfl
theorem col_at {A:List (List Rat)} {k i:Nat} (hi:i < A.length):(colR A k).getD i 0=fA A i k:=by
 unfold colR fA;simp [List.getD_eq_getElem?_getD,List.getElem?_map,gE hi]
theorem dot_col {A:List (List Rat)} {B C y:List Rat} (h:Fit A B C) (hy:y.length=B.length) (k:Nat) :
  Du.dotR (colR A k) y=Du.sm B.length (fun i => fA A i k * fL y i):=by
 have h1:=colR_length A k;rw [Du.dot_sm _ _ (by rw [h1,hy,h.rows]),h1,h.rows];refine Du.sm_congr _ _ _ fun i hi => ?_
 rw [col_at (by rw [h.rows]; exact hi)]; rfl
theorem dot_two {a x:List Rat} (h:x.length=a.length):Du.dotR a x=Du.sm a.length (fun k => fL a k * fL x k):=Du.dot_sm _ _ h.symm
theorem none_neg {x:List Rat} (h:x.any (fun r => decide (r.num < 0))=false):∀ k,0≤fL x k:=by
 intro k;unfold fL;rw [List.getD_eq_getElem?_getD]
 cases hk:x[k]? with
 | none => exact Rat.le_refl
 | some r =>
  have:=List.any_eq_false.1 h r (List.mem_of_getElem? hk);exact Rat.num_nonneg.1 (by simpa using this)
theorem sol_of {A:List (List Rat)} {B C x:List Rat} (h:Fit A B C) (hx:x.length=C.length) (hs:solErr A B x=0):Du.Sol B.length C.length (fA A) (fL B) (fL x):=by
 unfold solErr at hs
 split at hs
 ·cases hs
 ·next hn =>
  have hn:x.any (fun r => decide (r.num < 0))=false:=by simpa using hn
  refine ⟨fun k _ => none_neg hn k,fun i hi => ?_⟩;rw [← dot_row h hx hi];exact (rows_all A B x h.rows hs i hi).2
theorem pri_of {A:List (List Rat)} {B C y:List Rat} (h:Fit A B C) (hy:y.length=B.length) (hs:priErr A C y=0):Du.Pri B.length C.length (fA A) (fL C) (fL y):=by
 unfold priErr at hs
 split at hs
 ·cases hs
 ·next hn =>
  have hn:y.any (fun r => decide (r.num < 0))=false:=by simpa using hn
  refine ⟨fun k _ => none_neg hn k,fun k hk => ?_⟩;rw [← dot_col h hy k];have:=(cols_all A y C 0 hs k hk).2;rw [Nat.zero_add] at this;exact this
def Prg.rA (p:Prg):List (List Rat):=p.A.map valsQ
def Prg.rB (p:Prg):List Rat:=valsQ p.B
def Prg.rC (p:Prg):List Rat:=valsQ p.C
theorem vals_length (l:List Qo):(valsQ l).length=l.length:=by simp [valsQ]
theorem err_zero {p:Prg} (h:p.err=0):(0 < p.B.length∧p.B.length≤14∧0 < p.C.length∧p.C.length≤400∧p.A.length=p.B.length)∧(∀ r∈p.A,r.length=p.C.length)∧numErr p.all=0∧negQ p.B=false:=by
 unfold Prg.err at h
 split at h
 ·cases h
 ·next h1 =>
  split at h
  ·cases h
  ·next h2 =>
   split at h
   ·next h3 => exact absurd h h3
   ·next h3 =>
    split at h
    ·cases h
    ·next h4 =>
     refine ⟨by omega,fun r hr => ?_,by simpa using h3,by simpa using h4⟩;have h2:p.A.any (fun r => r.length != p.C.length)=false:=by simpa using h2
     have:=List.any_eq_false.1 h2 r hr
     simpa using this
theorem err_fit {p:Prg} (h:p.err=0):Fit p.rA p.rB p.rC:=by
 obtain ⟨h1,h2,_⟩:=err_zero h;refine ⟨by simp [Prg.rA,Prg.rB,vals_length]; omega,fun r hr => ?_⟩;obtain ⟨q,hq,rfl⟩:=List.mem_map.1 hr;rw [vals_length,h2 q hq,Prg.rC,vals_length]
theorem badQ_of {l:List Qo} (h:∀ x∈l,x.isNone=false):badQ l=false:=by
 unfold badQ; rw [List.any_eq_false]; intro x hx; rw [h x hx]; simp
theorem err_some {p:Prg} (h:p.err=0):(∀ r∈p.A,badQ r=false)∧badQ p.B=false∧badQ p.C=false:=by
 obtain ⟨_,_,h3,_⟩:=err_zero h;have hn:=numErr_zero h3;refine ⟨fun r hr => badQ_of fun x hx => hn x ?_,badQ_of fun x hx => hn x ?_,badQ_of fun x hx => hn x ?_⟩
 ·exact List.mem_append_left _ (List.mem_append_left _ (List.mem_flatten.2 ⟨r,hr,hx⟩))
 ·exact List.mem_append_left _ (List.mem_append_right _ hx)
 ·exact List.mem_append_right _ hx
theorem err_eq {p:Prg} (h:p.err=0):p.A=p.rA.map (·.map some)∧p.B=p.rB.map some∧p.C=p.rC.map some:=by
 obtain ⟨h1,h2,h3⟩:=err_some h;refine ⟨?_,(vals_some h2).symm,(vals_some h3).symm⟩;unfold Prg.rA;rw [List.map_map];exact ((List.map_congr_left fun r hr => vals_some (h1 r hr)).trans (List.map_id _)).symm
theorem numErr_long0 {l:List Qo} (h:numErr l=0):∀ x∈l,longO x=false:=by
 unfold numErr at h;intro x hx
 split at h
 ·cases h
 ·split at h
  ·cases h
  ·next hb =>
   have:longQ l=false:=by simpa using hb
   unfold longQ at this;rw [List.any_eq_false] at this
   simpa using this x hx
theorem dec_pow {n k:Nat} (h:(Lib.decDigits n).length≤k):n < 10 ^ k:=by
 obtain ⟨h1,h2,_⟩:=Bi.dec_all n;have:=Bi.decVal_lt _ h1;rw [h2] at this;exact Nat.lt_of_lt_of_le this (Nat.pow_le_pow_right (by decide) h)
def Sh (r:Rat):Prop:=Rq.Bd r (10 ^ 20) (10 ^ 20)
theorem sh_of {r:Rat} (h:shortB r=true):Sh r:=by
 unfold shortB at h;simp only [Bool.and_eq_true,decide_eq_true_eq] at h;exact ⟨Nat.le_of_lt (dec_pow h.1),Nat.le_of_lt (dec_pow h.2)⟩
theorem mem_vals {l:List Qo} {r:Rat} (hr:r∈valsQ l) (hb:badQ l=false):some r∈l:=by
 have:=vals_some hb;rw [← this];exact List.mem_map.2 ⟨r,hr,rfl⟩
theorem err_sh {p:Prg} (h:p.err=0):(∀ a∈p.rA,∀ r∈a,Sh r)∧(∀ r∈p.rB,Sh r∧0≤r)∧(∀ r∈p.rC,Sh r):=by
 obtain ⟨_,_,h3,h4⟩:=err_zero h;obtain ⟨b1,b2,b3⟩:=err_some h;have hn:=numErr_long0 h3;have hh:∀ r,some r∈p.all→Sh r:=fun r hr => sh_of (by simpa [longO] using hn _ hr)
 refine ⟨fun a ha r hr => ?_,fun r hr => ⟨?_,?_⟩,fun r hr => ?_⟩
 ·obtain ⟨q,hq,rfl⟩:=List.mem_map.1 ha;exact hh r (List.mem_append_left _ (List.mem_append_left _ (List.mem_flatten.2 ⟨q,hq,mem_vals hr (b1 q hq)⟩)))
 ·exact hh r (List.mem_append_left _ (List.mem_append_right _ (mem_vals hr b2)))
 ·have hm:=mem_vals hr b2;have:=List.any_eq_false.1 h4 _ hm;exact Rat.num_nonneg.1 (by simpa [negO] using this)
 ·exact hh r (List.mem_append_right _ (mem_vals hr b3))
theorem chk_zero {p:Prg} {x y:List Qo} (h:chkErr p x y=0):p.err=0∧x.length=p.C.length∧y.length=p.B.length∧badQ x=false∧badQ y=false∧solErr p.rA p.rB (valsQ x)=0∧priErr p.rA p.rC (valsQ y)=0:=by
 unfold chkErr at h
 split at h
 ·next h1 => exact absurd h h1
 ·next h1 =>
  split at h
  ·cases h
  ·next h2 =>
   split at h
   ·cases h
   ·next h3 =>
    split at h
    ·next h4 => exact absurd h h4
    ·next h4 =>
     refine ⟨by simpa using h1,by omega,by omega,?_,?_,Classical.byContradiction fun hh => h4 hh,h⟩
     ·cases hb:badQ x with
      | false => rfl
      | true => exact absurd (.inl hb) h3
     ·cases hb:badQ y with
      | false => rfl
      | true => exact absurd (.inr hb) h3
theorem chk_of {p:Prg} {x y:List Qo} (h1:p.err=0) (h2:x.length=p.C.length) (h3:y.length=p.B.length) (h4:badQ x=false) (h5:badQ y=false) (h6:solErr p.rA p.rB (valsQ x)=0):chkErr p x y=priErr p.rA p.rC (valsQ y):=by
 unfold chkErr;rw [if_neg (by simpa using h1),if_neg (by omega),if_neg (by rw [h4,h5]; simp)];exact if_neg (fun hh => hh h6)
def fitO (r:Rat) (a x:List Rat) (b:Rat):Prop:=(agn a x b).1=0∧((agn a x b).2=0∨r.num=0)
def SlackP (p:Prg) (x y:List Qo):Prop :=
 chkErr p x y=0∧(∀ i,i < p.B.length→fitO (fL (valsQ y) i) (p.rA.getD i []) (valsQ x) (fL p.rB i))∧∀ k,k < p.C.length→fitO (fL (valsQ x) k) (colR p.rA k) (valsQ y) (fL p.rC k)
def OptP (p:Prg) (x y:List Qo) (v:Qo):Prop :=
 chkErr p x y=0∧∃ r,v=some r∧agn p.rC (valsQ x) r=(0,0)∧agn p.rB (valsQ y) r=(0,0)
def UnbP (p:Prg) (ray:List Qo):Prop :=
 p.err=0∧ray.length=p.C.length∧badQ ray=false∧(valsQ ray).any negR=false∧(∀ i,i < p.B.length→(agn (p.rA.getD i []) (valsQ ray) 0).1=0∧(agn (p.rA.getD i []) (valsQ ray) 0).2≤0) ∧
  (agn p.rC (valsQ ray) 0).1=0∧0 < (agn p.rC (valsQ ray) 0).2
open Classical in
noncomputable def gapR (p:Prg) (x y:List Qo):Nat × Rat :=
 if chkErr p x y ≠ 0 then (chkErr p x y,0) else
 match dotO p.rC (valsQ x),dotO p.rB (valsQ y) with
 | some a,some b => if SubS b a then (0,b - a) else (3,0)
 | _,_ => (3,0)
def zeros (p:Prg):List Qo:=List.replicate p.C.length (some 0)
noncomputable def bndR (p:Prg) (y:List Qo):Nat × Rat :=
 if chkErr p (zeros p) y ≠ 0 then (chkErr p (zeros p) y,0) else
 match dotO p.rB (valsQ y) with
 | some b => (0,b)
 | none => (3,0)
theorem gapR_zero {p:Prg} {x y:List Qo} (h:(gapR p x y).1=0):chkErr p x y=0∧∃ a b,dotO p.rC (valsQ x)=some a∧dotO p.rB (valsQ y)=some b∧SubS b a∧(gapR p x y).2=b - a:=by
 unfold gapR at h ⊢
 by_cases h0:chkErr p x y ≠ 0
 ·rw [if_pos h0] at h; exact absurd h h0
 ·rw [if_neg h0] at h ⊢;refine ⟨by simpa using h0,?_⟩
  cases ha:dotO p.rC (valsQ x) with
  | none => rw [ha] at h; cases h
  | some a =>
   cases hb:dotO p.rB (valsQ y) with
   | none => rw [ha,hb] at h; cases h
   | some b =>
    rw [ha,hb] at h;simp only at h ⊢
    by_cases hs:SubS b a
    ·exact ⟨a,b,rfl,rfl,hs,by rw [if_pos hs]⟩
    ·rw [if_neg hs] at h; cases h
theorem num_zero' (r:Rat):r.num=0↔r=0:=Rat.num_eq_zero
section
variable {p : Prg} {x y : List Qo}
theorem rB_len (p:Prg):p.rB.length=p.B.length:=vals_length _
theorem rC_len (p:Prg):p.rC.length=p.C.length:=vals_length _
theorem chk_sol (h:chkErr p x y=0):Du.Sol p.B.length p.C.length (fA p.rA) (fL p.rB) (fL (valsQ x)):=by
 obtain ⟨h1,h2,h3,h4,h5,h6,h7⟩:=chk_zero h;have:=sol_of (err_fit h1) (by rw [vals_length,h2,rC_len]) h6
 rwa [rB_len,rC_len] at this
theorem chk_pri (h:chkErr p x y=0):Du.Pri p.B.length p.C.length (fA p.rA) (fL p.rC) (fL (valsQ y)):=by
 obtain ⟨h1,h2,h3,h4,h5,h6,h7⟩:=chk_zero h;have:=pri_of (err_fit h1) (by rw [vals_length,h3,rB_len]) h7
 rwa [rB_len,rC_len] at this
theorem val_C (h:chkErr p x y=0):Du.dotR p.rC (valsQ x)=Du.sm p.C.length (fun k => fL p.rC k * fL (valsQ x) k):=by
 obtain ⟨_,h2,_⟩:=chk_zero h;rw [dot_two (by rw [vals_length,h2,rC_len]),rC_len]
theorem val_B (h:chkErr p x y=0):Du.dotR p.rB (valsQ y)=Du.sm p.B.length (fun i => fL p.rB i * fL (valsQ y) i):=by
 obtain ⟨_,_,h3,_⟩:=chk_zero h;rw [dot_two (by rw [vals_length,h3,rB_len]),rB_len]
theorem slack_gap (h:(gapR p x y).1=0):SlackP p x y↔(gapR p x y).2=0:=by
 obtain ⟨h0,a,b,ha,hb,_,e⟩:=gapR_zero h;rw [e,dotO_val ha,dotO_val hb,val_C h0,val_B h0,Du.gap_zero (chk_sol h0) (chk_pri h0)];obtain ⟨h1,h2,h3,h4,h5,h6,h7⟩:=chk_zero h0;have hf:=err_fit h1;have hx:(valsQ x).length=p.rC.length:=by rw [vals_length,h2,rC_len]
 have hy:(valsQ y).length=p.rB.length:=by rw [vals_length,h3,rB_len]
 have hr:∀ i,i < p.B.length→(agn (p.rA.getD i []) (valsQ x) (fL p.rB i)).1=0:=fun i hi => by
  have h6:=h6;unfold solErr at h6
  split at h6
  ·cases h6
  ·exact (rows_all _ _ _ hf.rows h6 i (by rw [rB_len]; exact hi)).1
 have hc:∀ k,k < p.C.length→(agn (colR p.rA k) (valsQ y) (fL p.rC k)).1=0:=fun k hk => by
  have h7:=h7;unfold priErr at h7
  split at h7
  ·cases h7
  ·have:=(cols_all _ _ _ 0 h7 k (by rw [rC_len]; exact hk)).1;rw [Nat.zero_add] at this; exact this
 have er:∀ i,i < p.B.length→(fitO (fL (valsQ y) i) (p.rA.getD i []) (valsQ x) (fL p.rB i)↔(Du.sm p.C.length (fun k => fA p.rA i k * fL (valsQ x) k)=fL p.rB i∨fL (valsQ y) i=0)):=fun i hi => by
  unfold fitO;rw [agn_eq (hr i hi),dot_row hf hx (by rw [rB_len]; exact hi),rC_len,num_zero'];exact ⟨fun h => h.2,fun h => ⟨hr i hi,h⟩⟩
 have ec:∀ k,k < p.C.length→(fitO (fL (valsQ x) k) (colR p.rA k) (valsQ y) (fL p.rC k)↔(Du.sm p.B.length (fun i => fA p.rA i k * fL (valsQ y) i)=fL p.rC k∨fL (valsQ x) k=0)):=fun k hk => by
  unfold fitO;rw [agn_eq (hc k hk),dot_col hf hy k,rB_len,num_zero'];exact ⟨fun h => h.2,fun h => ⟨hc k hk,h⟩⟩
 constructor
 ·rintro ⟨_,g1,g2⟩;exact ⟨fun i hi => (er i hi).1 (g1 i hi),fun k hk => (ec k hk).1 (g2 k hk)⟩
 ·rintro ⟨g1,g2⟩;exact ⟨h0,fun i hi => (er i hi).2 (g1 i hi),fun k hk => (ec k hk).2 (g2 k hk)⟩
end
def KK:Nat:=10 ^ 25
theorem pow_kk (a b c d e:Nat) (h:b * c=d + e):(a ^ b) ^ c=a ^ d * a ^ e:=by rw [← Nat.pow_mul,h,Nat.pow_add]
theorem kk_big:KK ^ 12=Bi.Big:=pow_kk 10 25 12 150 150 (by decide)
theorem kk_one:1 < KK:=by unfold KK; exact of_decide_eq_true (by kernel_rfl)
theorem kk_sh:10 ^ 20 * 2 + 10 ^ 20 * 100≤KK:=by unfold KK; exact of_decide_eq_true (by kernel_rfl)
theorem kk_lt {n:Nat} (h:n < 12):KK ^ n < Bi.Big:=by rw [← kk_big]; exact Nat.pow_lt_pow_right kk_one h
theorem kk_le {i j:Nat} (h:i≤j):KK ^ i≤KK ^ j:=Nat.pow_le_pow_right (by have:=kk_one; omega) h
theorem sm_kk {z:Int} {n:Nat} (hn:n < 12) (h:z.natAbs≤KK ^ n):Rq.Sm z:=Nat.lt_of_le_of_lt h (kk_lt hn)
theorem Bd.mono {r:Rat} {N D M E:Nat} (h:Rq.Bd r N D) (h1:N≤M) (h2:D≤E):Rq.Bd r M E:=⟨Nat.le_trans h.1 h1,Nat.le_trans h.2 h2⟩
def Sx (r:Rat):Prop:=Rq.Bd r 100 2
theorem dotS_small:∀ (la lb:List Rat) (acc:Rat) (j:Nat),(∀ r∈la,Sh r)→(∀ r∈lb,Sx r)→Rq.Bd acc (KK ^ j) (KK ^ j)→j + la.length≤5→∃ s,DotS acc la lb (some s)∧Rq.Bd s (KK ^ 5) (KK ^ 5)
 | [],lb,acc,j,_,_,hb,hj => ⟨acc,rfl,Bd.mono hb (kk_le (by simpa using hj)) (kk_le (by simpa using hj))⟩
 | _ :: _,[],acc,j,_,_,hb,hj => ⟨acc,rfl,Bd.mono hb (kk_le (by omega)) (kk_le (by omega))⟩
 | a :: la,b :: lb,acc,j,h1,h2,hb,hj => by
  have ha:Rq.Bd a (10 ^ 20) (10 ^ 20):=h1 a (by simp);have hb2:Rq.Bd b 100 2:=h2 b (by simp);have hj:j + (la.length + 1)≤5:=by simpa using hj
  have hs:=kk_sh;have hab:=Rq.bd_mul ha hb2;have hk:KK ^ (j + 1)=KK ^ j * KK:=Nat.pow_succ ..;have c1:KK ^ j * (10 ^ 20 * 2)≤KK ^ (j + 1):=by rw [hk]; exact Nat.mul_le_mul_left _ (by omega)
  have c2:KK ^ j * (10 ^ 20 * 2) + KK ^ j * (10 ^ 20 * 100)≤KK ^ (j + 1):=by rw [hk,← Nat.mul_add]; exact Nat.mul_le_mul_left _ hs
  have c3:10 ^ 20 * 100 * KK ^ j=KK ^ j * (10 ^ 20 * 100):=Nat.mul_comm ..;have hsum:=Rq.bd_add hb hab;have n1:=Rq.bd_x hb hab;have n2:=Rq.bd_x hab hb;have n3:=Rq.bd_dd hb hab;have hp:KK≤KK ^ 1:=by rw [Nat.pow_one]; exact nl
  have hM:MulS a b:=⟨sm_kk (n:=1) (by omega) (by have:=Rq.mul_bd ha.1 hb2.1; omega),sm_kk (n:=1) (by omega) (by have:=Rq.bd_dd ha hb2; omega)⟩;have hA:AddS acc (a * b):=by
   refine ⟨⟨sm_kk (n:=j + 1) (by omega) (by omega),sm_kk (n:=j + 1) (by omega) (by omega)⟩,sm_kk (n:=j + 1) (by omega) ?_,sm_kk (n:=j + 1) (by omega) (by omega)⟩;omega
  obtain ⟨s,hs1,hs2⟩:=dotS_small la lb (acc + a * b) (j + 1) (fun r hr => h1 r (by simp [hr])) (fun r hr => h2 r (by simp [hr])) (Bd.mono hsum (by rw [c3]; exact c2) c1) (by omega);exact ⟨s,.inl ⟨hM,hA,hs1⟩,hs2⟩
theorem dotS_one:∀ (la lb:List Rat) (acc:Rat) (o o':Option Rat),DotS acc la lb o→DotS acc la lb o'→o=o'
 | [],_,acc,o,o',h,h' => by
  have h:o=some acc:=h;have h':o'=some acc:=h';rw [h,h']
 | _ :: _,[],acc,o,o',h,h' => by
  have h:o=some acc:=h;have h':o'=some acc:=h';rw [h,h']
 | a :: la,b :: lb,acc,o,o',h,h' => by
  rcases h with ⟨h1,h2,h⟩ | ⟨h1,h⟩
  ·rcases h' with ⟨_,_,h'⟩ | ⟨h3,_⟩
   ·exact dotS_one la lb _ o o' h h'
   ·exact absurd ⟨h1,h2⟩ h3
  ·rcases h' with ⟨h3,h4,_⟩ | ⟨_,h'⟩
   ·exact absurd ⟨h3,h4⟩ h1
   ·rw [h,h']
theorem bd_zero:Rq.Bd 0 (KK ^ 0) (KK ^ 0):=⟨by rw [show ((0:Rat).num)=0 from rfl]; simp,by rw [show ((0:Rat).den)=1 from rfl]; simp⟩
theorem dot_small {la lb:List Rat} (h1:∀ r∈la,Sh r) (h2:∀ r∈lb,Sx r) (hl:la.length≤5):∃ s,dotO la lb=some s∧Rq.Bd s (KK ^ 5) (KK ^ 5):=by
 obtain ⟨s,hs,hb⟩:=dotS_small la lb 0 0 h1 h2 bd_zero (by omega);exact ⟨s,dotS_one _ _ _ _ _ (dotO_spec la lb) hs,hb⟩
theorem dotS_zeros:∀ (la:List Rat) (n:Nat),(∀ r∈la,Sh r)→DotS 0 la (List.replicate n 0) (some 0)
 | [],_,_ => by exact (rfl:some (0:Rat)=some 0)
 | _ :: _,0,_ => by exact (rfl:some (0:Rat)=some 0)
 | a :: la,n + 1,h => by
  have ha:=h a (by simp);rw [List.replicate_succ];have e:a * 0=0:=Rat.mul_zero a;have e2:(0:Rat) + 0=0:=Rat.add_zero 0;have hs:=kk_sh;have hp:KK≤KK ^ 1:=by rw [Nat.pow_one]; exact nl
  refine .inl ⟨⟨sm_kk (n:=0) (by omega) ?_,sm_kk (n:=1) (by omega) ?_⟩,?_,?_⟩
  ·show (a.num * 0).natAbs≤_
   rw [Int.mul_zero]; simp
  ·show ((a.den:Int) * 1).natAbs≤_
   have:=ha.2;rw [Int.mul_one,Int.natAbs_natCast]; omega
  ·rw [e];have z:Rq.Sm 0:=sm_kk (n:=0) (by omega) (by simp);have z1:Rq.Sm 1:=sm_kk (n:=0) (by omega) (by simp);exact ⟨⟨z,z⟩,z,z1⟩
  ·rw [e,e2];exact dotS_zeros la n (fun r hr => h r (by simp [hr]))
theorem vals_zeros (p:Prg):valsQ (zeros p)=List.replicate p.C.length 0:=by simp [valsQ,zeros,valO]
theorem sol_zero {p:Prg} (h:p.err=0):solErr p.rA p.rB (valsQ (zeros p))=0:=by
 rw [vals_zeros];unfold solErr;have h0:(List.replicate p.C.length (0:Rat)).any (fun r => decide (r.num < 0))=false:=by
  rw [List.any_eq_false];intro r hr;rw [List.eq_of_mem_replicate hr]; decide
 rw [h0,if_neg (by decide)];have hf:=err_fit h;obtain ⟨sA,sB,_⟩:=err_sh h;refine rows_zero _ _ _ fun i hi => ?_
 have hl:i < p.rA.length:=by rw [hf.rows]; exact hi
 have hm:p.rA.getD i []∈p.rA:=by
  rw [List.getD_eq_getElem?_getD,gE hl]; exact List.getElem_mem hl
 have hbm:p.rB.getD i 0∈p.rB:=by
  rw [List.getD_eq_getElem?_getD,gE hi]; exact List.getElem_mem hi
 have hd:dotO (p.rA.getD i []) (List.replicate p.C.length 0)=some 0:=dotS_one _ _ _ _ _ (dotO_spec _ _) (dotS_zeros _ _ (sA _ hm));obtain ⟨hsb,hb0⟩:=sB _ hbm;generalize p.rB.getD i 0=b at *;have hs:=kk_sh;have hp:KK≤KK ^ 1:=by rw [Nat.pow_one]; exact nl
 have hC:CrS 0 b:=by
  refine ⟨sm_kk (n:=0) (by omega) ?_,sm_kk (n:=1) (by omega) ?_⟩
  ·show ((0:Int) * b.den).natAbs≤_
   rw [Int.zero_mul]; simp
  ·show (b.num * 1).natAbs≤_
   have:=hsb.1;rw [Int.mul_one]; omega
 have ha:agn (p.rA.getD i []) (List.replicate p.C.length 0) b=(0,Rq.cmpQ 0 b):=by
  unfold agn;rw [hd];exact if_pos hC
 have h1:(agn (p.rA.getD i []) (List.replicate p.C.length 0) b).1=0:=by rw [ha]
 refine ⟨h1,?_⟩;rw [← agn_le h1,ha];exact (cmp_le 0 b).2 hb0
theorem bad_zeros (p:Prg):badQ (zeros p)=false:=badQ_of fun x hx => by rw [List.eq_of_mem_replicate hx]; rfl
theorem len_zeros (p:Prg):(zeros p).length=p.C.length:=by simp [zeros]
structure SmallD (p:Prg) (x y:List Qo):Prop where
 m:p.B.length≤5
 n:p.C.length≤5
 x:∀ r,some r∈x→Sx r
 y:∀ r,some r∈y→Sx r
section
variable {p : Prg} {x y : List Qo}
theorem cr_small {a b:Rat} (h1:Rq.Bd a (KK ^ 5) (KK ^ 5)) (h2:Rq.Bd b (KK ^ 5) (KK ^ 5)):CrS a b:=by
 have n1:=Rq.bd_x h1 h2;have n2:=Rq.bd_x h2 h1;have e:KK ^ 5 * KK ^ 5=KK ^ 10:=by rw [← Nat.pow_add]
 rw [e] at n1 n2;exact ⟨sm_kk (n:=10) (by omega) n1,sm_kk (n:=10) (by omega) n2⟩
theorem sub_small {a b:Rat} (h1:Rq.Bd a (KK ^ 5) (KK ^ 5)) (h2:Rq.Bd b (KK ^ 5) (KK ^ 5)):SubS a b:=by
 have n1:=Rq.bd_x h1 h2;have n2:=Rq.bd_x h2 h1;have n3:=Rq.bd_dd h1 h2;have e:KK ^ 5 * KK ^ 5=KK ^ 10:=by rw [← Nat.pow_add]
 have e2:KK ^ 11=KK ^ 10 * KK:=Nat.pow_succ ..;have e3:KK ^ 10 * 2≤KK ^ 10 * KK:=Nat.mul_le_mul_left _ kk_one;rw [e] at n1 n2 n3;exact ⟨cr_small h1 h2,sm_kk (n:=11) (by omega) (by omega),sm_kk (n:=10) (by omega) n3⟩
end
theorem sol_neg {A:List (List Rat)} {B x:List Rat} (h:x.any negR=true):solErr A B x=12:=if_pos h
theorem sol_pos {A:List (List Rat)} {B x:List Rat} (h:x.any negR=false):solErr A B x=rowsErr A B x:=if_neg (by rw [show (x.any fun r => decide (r.num < 0))=false from h]; decide)
theorem pri_neg {A:List (List Rat)} {C y:List Rat} (h:y.any negR=true):priErr A C y=12:=if_pos h
theorem pri_pos {A:List (List Rat)} {C y:List Rat} (h:y.any negR=false):priErr A C y=colsErr A y 0 C:=if_neg (by rw [show (y.any fun r => decide (r.num < 0))=false from h]; decide)
theorem any_some (x:List Rat):(x.map some).any negO=x.any negR:=by
 rw [List.any_map]; rfl
theorem rows_at {A:List (List Rat)} {B x a:List Rat} {b:Rat} {k K:Nat} {c:Int} (ha:A[k]?=some a) (hb:B[k]?=some b) (h:agn a x b=(K,c)) :
  rowsErr (A.drop k) (B.drop k) x=if K ≠ 0 then K else if 0 < c then 12 else rowsErr (A.drop (k + 1)) (B.drop (k + 1)) x:=by
 rw [drop_at ha,drop_at hb,rowsErr,h]
theorem cols_at {A:List (List Rat)} {C y:List Rat} {b:Rat} {k K:Nat} {c:Int} (hb:C[k]?=some b) (h:agn (colR A k) y b=(K,c)) :
  colsErr A y k (C.drop k)=if K ≠ 0 then K else if c < 0 then 12 else colsErr A y (k + 1) (C.drop (k + 1)):=by
 rw [drop_at hb,colsErr,h]
theorem rows_end {A:List (List Rat)} {B x:List Rat} {k:Nat} (h:k=B.length):rowsErr (A.drop k) (B.drop k) x=0:=by
 rw [h,List.drop_length]; unfold rowsErr; split <;> first | rfl | contradiction
theorem cols_end {A:List (List Rat)} {C y:List Rat} {k:Nat} (h:k=C.length):colsErr A y k (C.drop k)=0:=by
 rw [h,List.drop_length]; unfold colsErr; rfl
theorem dsolution_any (A:List (List Rat)) (B C x:List Rat) (hF:Hid (Fit A B C)) (hx:Hid (x.length=C.length)) (hm:B.length≤14) (hn:C.length≤400) (aA aB aC ax:Option Addr) (cA cB cC cx:Nat) (w:World) (uA:UM w aA (A.map (·.map some))) (uB:UQ w aB (B.map some)) (ux:UQ w ax (x.map some)) (hE:Env w) :
  Calls Tryz.prog 58 #[.agg #[.slice aA A.length cA,.slice aB B.length cB,.slice aC C.length cC],.slice ax x.length cx] w fun e w' => e=.returned (.int .i64 (solErr A B x))∧Below w.heap.size w w':=by
 have hxl:x.length≤1000000000:=by have:=hx.out; omega
 have Huxl:Hid ((x.map some).length=x.length):=hii (List.length_map _);obtain ⟨E,hE1⟩:∃ E,E=solErr A B x:=⟨_,rfl⟩;rw [← hE1];have HE1:=hii hE1;clear hE1;have eg1:∀ args w,(callFunc 43 args).run Tryz.prog w=.ok (.enter 43 args) w:=enters_of Tryz.func43 (by kernel_rfl) rfl;go_enter Tryz.func58,Tryz.ntmps58;go_upto_region 1 with fail;have hb0:=bA w (.cells #[.slice aA A.length cA,.slice aB B.length cB,.slice aC C.length cC] 42);have rA:Row (w.alloc (.cells #[.slice aA A.length cA,.slice aB B.length cB,.slice aC C.length cC] 42)) w.heap.size 42 [.slice aA A.length cA,.slice aB B.length cB,.slice aC C.length cC]:=heap_alloc_new _ _;obtain ⟨g,hg⟩:∃ g,g=w.heap.size:=⟨_,rfl⟩;rw [← hg] at rA ⊢;have Hg:=hii hg;clear hg;generalize w.alloc (.cells #[.slice aA A.length cA,.slice aB B.length cB,.slice aC C.length cC] 42)=w1 at *;have uA:=uA.mono hb0;have uB:=uB.mono hb0;have ux:=ux.mono hb0;have hE:=hE.mono hb0;have hbw:=hb0;clear hb0;have HT:Tells 43 #[] negO (x.map some) w1:=by
  intro o v W ho hv hE2 hb2;obtain ⟨r,_,rfl⟩:=List.mem_map.1 ho;exact dneg_any v r W hv hE2
 have hC:=ContainsFunc_q 43 #[] negO eg1 (x.map some) ax cx w1 (by rw [Huxl.out]; exact hxl) ux hE HT;rw [Huxl.out,any_some] at hC;have HC:=hii hC;clear hC HT eg1;obtain ⟨bn,hbn⟩:∃ b,b=x.any negR:=⟨_,rfl⟩;rw [← hbn] at HC;have Hbn:=hii hbn;clear hbn Huxl;go_wp2_with fail;(with_reducible refine (HC.out).mono ?_);rintro e w2 ⟨rfl,hb⟩;have uA:=uA.mono hb;have uB:=uB.mono hb;have ux:=ux.mono hb;have hE:=hE.mono hb;have rA:=rA.below hb;have hbw:=bu hbw hb;clear hb HC
 cases bn with
 | true =>
  go_wp2;go_ret;exact ⟨by rw [HE1.out,sol_neg Hbn.out.symm]; rfl,hbw⟩
 | false =>
  have HEE:Hid (E=rowsErr (A.drop 0) (B.drop 0) x):=hii (by rw [HE1.out,sol_pos Hbn.out.symm]; rfl);clear HE1 Hbn;obtain ⟨x0,x1,x2⟩:=rA.n3;go_wp2_with fail;clear x0 x1 x2;go_loopw [14] (fun s wr => ∃ k:Nat,k≤B.length∧s=.int .i64 k∧Hid (E=rowsErr (A.drop k) (B.drop k) x)∧Env wr∧Below w2.heap.size w2 wr) (fun s _ => B.length - (intOf s).toNat)
  case atStart => exact ⟨0,Nat.zero_le _,rfl,HEE,hE,br⟩
  case round =>
   clear hE HEE;obtain ⟨k,hk,rfl,HEE,hE,hbr⟩:=hrel;have hbw:=bu hbw hbr;have rA:=rA.below hbr
   by_cases hlt:k < B.length
   ·obtain ⟨b,hb0⟩:∃ x,B[k]?=some x:=⟨B[k],gE hlt⟩;obtain ⟨b1,off1,ng1,ao1,n1,cap1,ng2,ao2,n2,cap2,eb,FA,hv⟩:=(uB.mono hbr) k (some b) (by simp [hb0]);have hvb:RatV wr (.agg #[.bool ng1,.slice ao1 n1 cap1,.bool ng2,.slice ao2 n2 cap2]) b:=hv;subst eb;have ux:=ux.mono hbr;have hlA:k < A.length:=by have:=hF.out.rows; omega
    obtain ⟨a,ha0⟩:∃ x,A[k]?=some x:=⟨A[k],gE hlA⟩;obtain ⟨b0,off0,ar,cr,ea,hc,uR⟩:=(uA.mono hbr) k (a.map some) (by simp [ha0]);rw [List.length_map] at hc;subst ea;have hal:a.length=x.length:=by have:=hF.out.cols a (List.mem_of_getElem? ha0); have:=hx.out; omega
    have hal2:a.length≤1000000000:=by omega
    obtain ⟨ke,c,hag⟩:∃ ke c,agn a x b=(ke,c):=⟨_,_,rfl⟩;have HAT:=hii (rows_at ha0 hb0 hag);have HAG:=hii hag;have HAL:=hii hal;clear ha0 hb0 hag hv hal;obtain ⟨x0,x1,x2⟩:=rA.n3;obtain ⟨f0,f1,f2,f3,_,_,_,_⟩:=id FA;go_wp2_with fail;(with_reducible refine (dsum_any a x b ke c ar ax cr cx _ wr hal2 HAL.out uR ux hvb HAG hE).mono ?_);rintro e w3 ⟨rfl,hb⟩;have hE:=hE.mono hb;have hbr:=bu hbr hb;have hbw:=bu hbw hb;clear hb x0 x1 x2 f0 f1 f2 f3
    by_cases hz:ke=0
    ·subst hz
     by_cases hp:0 < c
     ·have HP:=hii hp;go_wp2;go_ret;refine ⟨?_,hbw⟩;rw [HEE.out,HAT.out,if_neg (by decide),if_pos (show 0 < c by have:=HP.out; omega)]; rfl
     ·have HP:=hii hp;go_wp2;go_roundw
      case rel => exact ⟨k + 1,by omega,by go_num,hii (by rw [HEE.out,HAT.out,if_neg (by decide),if_neg (show ¬ (0 < c) by have:=HP.out; omega)]),hE,hbr⟩
      case measure => simp [intOf]; omega
    ·have g1:((ke:Int) != 0)=true:=by rw [bne_iff_ne]; omega
     have Hz:=hii hz;clear hz;go_wp2;go_ret;refine ⟨?_,hbw⟩;rw [HEE.out,HAT.out,if_pos Hz.out]; rfl
   ·obtain rfl:k=B.length:=by omega
    have HE0:Hid (E=0):=hii (by rw [HEE.out]; exact rows_end rfl);rw [show A.length=B.length from hF.out.rows];obtain ⟨x0,x1,x2⟩:=rA.n3;go_wp2;go_ret;exact ⟨by rw [HE0.out]; rfl,hbw⟩
theorem dprices_any (A:List (List Rat)) (B C y:List Rat) (hF:Hid (Fit A B C)) (hx:Hid (y.length=B.length)) (hm:B.length≤14) (hn:C.length≤400) (aA aB aC ax:Option Addr) (cA cB cC cx:Nat) (w:World) (uA:UM w aA (A.map (·.map some))) (uC:UQ w aC (C.map some)) (ux:UQ w ax (y.map some)) (hE:Env w) :
  Calls Tryz.prog 59 #[.agg #[.slice aA A.length cA,.slice aB B.length cB,.slice aC C.length cC],.slice ax y.length cx] w fun e w' => e=.returned (.int .i64 (priErr A C y))∧Below w.heap.size w w':=by
 have hxl:y.length≤1000000000:=by have:=hx.out; omega
 have Huxl:Hid ((y.map some).length=y.length):=hii (List.length_map _);obtain ⟨E,hE1⟩:∃ E,E=priErr A C y:=⟨_,rfl⟩;rw [← hE1];have HE1:=hii hE1;clear hE1;have eg1:∀ args w,(callFunc 43 args).run Tryz.prog w=.ok (.enter 43 args) w:=enters_of Tryz.func43 (by kernel_rfl) rfl;go_enter Tryz.func59,Tryz.ntmps59;go_upto_region 1 with fail;have hb0:=bA w (.cells #[.slice aA A.length cA,.slice aB B.length cB,.slice aC C.length cC] 42);have rA:Row (w.alloc (.cells #[.slice aA A.length cA,.slice aB B.length cB,.slice aC C.length cC] 42)) w.heap.size 42 [.slice aA A.length cA,.slice aB B.length cB,.slice aC C.length cC]:=heap_alloc_new _ _;obtain ⟨g,hg⟩:∃ g,g=w.heap.size:=⟨_,rfl⟩;rw [← hg] at rA ⊢;have Hg:=hii hg;clear hg;generalize w.alloc (.cells #[.slice aA A.length cA,.slice aB B.length cB,.slice aC C.length cC] 42)=w1 at *;have uA:=uA.mono hb0;have uC:=uC.mono hb0;have ux:=ux.mono hb0;have hE:=hE.mono hb0;have hbw:=hb0;clear hb0;have HT:Tells 43 #[] negO (y.map some) w1:=by
  intro o v W ho hv hE2 hb2;obtain ⟨r,_,rfl⟩:=List.mem_map.1 ho;exact dneg_any v r W hv hE2
 have hC:=ContainsFunc_q 43 #[] negO eg1 (y.map some) ax cx w1 (by rw [Huxl.out]; exact hxl) ux hE HT;rw [Huxl.out,any_some] at hC;have HC:=hii hC;clear hC HT eg1;obtain ⟨bn,hbn⟩:∃ b,b=y.any negR:=⟨_,rfl⟩;rw [← hbn] at HC;have Hbn:=hii hbn;clear hbn Huxl;go_wp2_with fail;(with_reducible refine (HC.out).mono ?_);rintro e w2 ⟨rfl,hb⟩;have uA:=uA.mono hb;have uC:=uC.mono hb;have ux:=ux.mono hb;have hE:=hE.mono hb;have rA:=rA.below hb;have hbw:=bu hbw hb;clear hb HC
 cases bn with
 | true =>
  go_wp2;go_ret;exact ⟨by rw [HE1.out,pri_neg Hbn.out.symm]; rfl,hbw⟩
 | false =>
  have HEE:Hid (E=colsErr A y 0 (C.drop 0)):=hii (by rw [HE1.out,pri_pos Hbn.out.symm]; rfl);clear HE1 Hbn;obtain ⟨x0,x1,x2⟩:=rA.n3;go_wp2_with fail;clear x0 x1 x2;go_loopw [13] (fun s wr => ∃ k:Nat,k≤C.length∧s=.int .i64 k∧Hid (E=colsErr A y k (C.drop k))∧Env wr∧Below w2.heap.size w2 wr) (fun s _ => C.length - (intOf s).toNat)
  case atStart => exact ⟨0,Nat.zero_le _,rfl,HEE,hE,br⟩
  case round =>
   clear hE HEE;obtain ⟨k,hk,rfl,HEE,hE,hbr⟩:=hrel;have hbw:=bu hbw hbr;have rA:=rA.below hbr
   by_cases hlt:k < C.length
   ·obtain ⟨b,hb0⟩:∃ x,C[k]?=some x:=⟨C[k],gE hlt⟩;obtain ⟨b1,off1,ng1,ao1,n1,cap1,ng2,ao2,n2,cap2,eb,FA,hv⟩:=(uC.mono hbr) k (some b) (by simp [hb0]);have hvb:RatV wr (.agg #[.bool ng1,.slice ao1 n1 cap1,.bool ng2,.slice ao2 n2 cap2]) b:=hv;subst eb;have ux:=ux.mono hbr;obtain ⟨ke,c,hag⟩:∃ ke c,agn (colR A k) y b=(ke,c):=⟨_,_,rfl⟩;have HAT:=hii (cols_at hb0 hag);have HAG:=hii hag;have HAl:Hid (A.length=B.length):=hii hF.out.rows;have HJ:Hid (∀ r∈A,k < r.length):=hii fun r hr => by rw [hF.out.cols r hr]; exact hlt
    have HKL:Hid ((colR A k).length=y.length):=hii (by rw [colR_length,HAl.out,hx.out]);have hA6:A.length≤1000000:=by have:=HAl.out; omega
    have uA:=uA.mono hbr;clear hb0 hag hv;have hbx:=Below.refl wr.heap.size wr;obtain ⟨x0,x1,x2⟩:=rA.n3;go_upto_region 6 with fail;clear x0 x1 x2;refine wp_region_use (wx:=wr) [(fun _ v => v=.agg #[.slice aA A.length cA,.slice aB B.length cB,.slice (some ⟨b1,off1,none⟩) C.length cC]),(fun _ v => v=.int .i64 k),(fun W v => ∃ ao cap,v=.slice ao (colR A k).length cap∧UQ W ao ((colR A k).map some)),(fun _ v => v=.slice ax y.length cx),(fun _ v => v=.pointer (some ⟨g,2,none⟩)),(fun _ v => v=.slice (some ⟨b1,off1,none⟩) C.length cC),(fun _ v => v=.int .i64 k),(fun _ v => v=.pointer (some ⟨b1,off1 + k * 4,none⟩)),(fun _ v => v=.agg #[.bool ng1,.slice ao1 n1 cap1,.bool ng2,.slice ao2 n2 cap2]),(fun _ v => v=.tuple #[.int .i64 c,.int .i64 ke]),(fun _ v => v=.tuple #[.int .i64 c,.int .i64 ke]),(fun _ v => v=.int .i64 c),(fun _ v => v=.int .i64 ke),(fun _ v => v=.int .i64 c),(fun _ v => v=.int .i64 ke)] [none,none,none,none,none,none,none,none,none,none,none,none,none,none,none] [true,true,false,true,true,true,true,true,true,true,true,true,true,true,true] [some 17,some 18,some 19,some 20,some 21,some 22,some 23,some 24,some 25,some 26,some 16,some 27,some 28,some 6,some 7] [17,18,19,20,21,22,23,24,25,26,16,27,28,6,7] 0 0 (fun _ _ => True) (by decide) (by kernel_rfl) (by kernel_rfl) (by kernel_rfl) (by kernel_rfl) (of_decide_eq_true (by kernel_rfl)) (by kernel_rfl) (by kernel_rfl) (trivial) (fun _ _ _ h _ => h) br ⟨sV _,sV _,fun _ _ _ ⟨a,c,e,h⟩ hb => ⟨a,c,e,h.mono hb⟩,sV _,sV _,sV _,sV _,sV _,sV _,sV _,sV _,sV _,sV _,sV _,sV _,trivial⟩ ⟨fun _ => cV _,fun _ => cV _,(fun h => absurd h (by decide)),fun _ => cV _,fun _ => cV _,fun _ => cV _,fun _ => cV _,fun _ => cV _,fun _ => cV _,fun _ => cV _,fun _ => cV _,fun _ => cV _,fun _ => cV _,fun _ => cV _,fun _ => cV _,trivial⟩ ⟨?s0,?s1,?s2,?s3,?s4,?s5,?s6,?s7,?s8,?s9,?s10,?s11,?s12,?s13,?s14,trivial⟩ ?he
    case s0 =>
     rintro T W hb hp hA K hK;have hp:=hp rfl;obtain ⟨x0,x1,x2⟩:=(rA.below hb).n3;simp only [ovr,Act.put,List.setIfInBounds_toArray,List.set_cons_zero,List.set_cons_succ] at hK ⊢;have HK:=hii hK;clear hK hA;refine wO rfl (by rfl) ?_;go_simp;exact HK.out _ _ ⟨hb,fun _ => br⟩ rfl
    case s1 | s3 | s4 | s6 =>
     rintro T W hb - hA K hK;simp only [ovr,Act.put,List.setIfInBounds_toArray,List.set_cons_zero,List.set_cons_succ] at hK ⊢;have HK:=hii hK;clear hK hA;refine wO rfl (by rfl) ?_;go_simp;exact HK.out _ _ ⟨hb,fun _ => br⟩ rfl
    case s2 =>
     rintro T W hb - hA K hK;have e0:T 17=.agg #[.slice aA A.length cA,.slice aB B.length cB,.slice (some ⟨b1,off1,none⟩) C.length cC]:=hA.1 (by decide);have e1:T 18=.int .i64 k:=hA.2.1 (by decide);simp only [ovr,Act.put,List.setIfInBounds_toArray,List.set_cons_zero,List.set_cons_succ,e0,e1] at hK ⊢;have HK:=hii hK;clear hK hA;refine wO rfl (by rfl) ?_;go_simp;(with_reducible refine (dcolumn_any A k aA aB (some ⟨b1,off1,none⟩) cA B.length cB C.length cC W hA6 (uA.mono hb) HJ.out).mono ?_);rintro e w1 ⟨⟨ao,cap,rfl,hU⟩,hb1⟩
     try dsimp only
     exact HK.out _ _ ⟨bu hb hb1,fun _ => hb1⟩ (⟨ao,cap,rfl,hU⟩)
    case s5 =>
     rintro T W hb - hA K hK;have e4:T 21=.pointer (some ⟨g,2,none⟩):=hA.1 (by decide);obtain ⟨x0,x1,x2⟩:=(rA.below hb).n3;simp only [ovr,Act.put,List.setIfInBounds_toArray,List.set_cons_zero,List.set_cons_succ,e4] at hK ⊢;have HK:=hii hK;clear hK hA;refine wO rfl (by rfl) ?_;go_simp;exact HK.out _ _ ⟨hb,fun _ => br⟩ rfl
    case s7 =>
     rintro T W hb - hA K hK;have e5:T 22=.slice (some ⟨b1,off1,none⟩) C.length cC:=hA.1 (by decide);have e6:T 23=.int .i64 k:=hA.2.1 (by decide);simp only [ovr,Act.put,List.setIfInBounds_toArray,List.set_cons_zero,List.set_cons_succ,e5,e6] at hK ⊢;have HK:=hii hK;clear hK hA;refine wO rfl (by rfl) ?_;go_simp;exact HK.out _ _ ⟨hb,fun _ => br⟩ rfl
    case s8 =>
     rintro T W hb - hA K hK;have e7:T 24=.pointer (some ⟨b1,off1 + k * 4,none⟩):=hA.1 (by decide);obtain ⟨f0,f1,f2,f3,_,_,_,_⟩:=FA.mono hb;simp only [ovr,Act.put,List.setIfInBounds_toArray,List.set_cons_zero,List.set_cons_succ,e7] at hK ⊢;have HK:=hii hK;clear hK hA;refine wO rfl (by rfl) ?_;go_simp;exact HK.out _ _ ⟨hb,fun _ => br⟩ rfl
    case s9 =>
     rintro T W hb - hA K hK;have r2:((fun W v => ∃ ao cap,v=.slice ao (colR A k).length cap∧UQ W ao ((colR A k).map some)):World→Value→Prop) W (T 19):=hA.1 (by decide);have e3:T 20=.slice ax y.length cx:=hA.2.1 (by decide);have e8:T 25=.agg #[.bool ng1,.slice ao1 n1 cap1,.bool ng2,.slice ao2 n2 cap2]:=hA.2.2.1 (by decide);obtain ⟨aok,capk,e2,hUk⟩:=r2;simp only [ovr,Act.put,List.setIfInBounds_toArray,List.set_cons_zero,List.set_cons_succ,e3,e8,e2] at hK ⊢;have HK:=hii hK;clear hK hA;refine wO rfl (by rfl) ?_;go_simp;(with_reducible refine (dsum_any (colR A k) y b ke c aok ax capk cx _ W (by rw [HKL.out]; exact hxl) HKL.out hUk (ux.mono hb) (hvb.mono hb) HAG (hE.mono hb)).mono ?_);rintro e w1 ⟨rfl,hb1⟩
     try dsimp only
     exact HK.out _ _ ⟨bu hb hb1,fun _ => hb1⟩ rfl
    case s10 =>
     rintro T W hb - hA K hK;have e9:T 26=.tuple #[.int .i64 c,.int .i64 ke]:=hA.1 (by decide);simp only [ovr,Act.put,List.setIfInBounds_toArray,List.set_cons_zero,List.set_cons_succ,e9] at hK ⊢;have HK:=hii hK;clear hK hA;refine wO rfl (by rfl) ?_;go_simp;exact HK.out _ _ ⟨hb,fun _ => br⟩ rfl
    case s11 | s12 =>
     rintro T W hb - hA K hK;have e10:T 16=.tuple #[.int .i64 c,.int .i64 ke]:=hA.1 (by decide);simp only [ovr,Act.put,List.setIfInBounds_toArray,List.set_cons_zero,List.set_cons_succ,e10] at hK ⊢;have HK:=hii hK;clear hK hA;refine wO rfl (by rfl) ?_;go_simp;exact HK.out _ _ ⟨hb,fun _ => br⟩ rfl
    case s13 =>
     rintro T W hb - hA K hK;have e11:T 27=.int .i64 c:=hA.1 (by decide);simp only [ovr,Act.put,List.setIfInBounds_toArray,List.set_cons_zero,List.set_cons_succ,e11] at hK ⊢;have HK:=hii hK;clear hK hA;refine wO rfl (by rfl) ?_;go_simp;exact HK.out _ _ ⟨hb,fun _ => br⟩ rfl
    case s14 =>
     rintro T W hb - hA K hK;have e12:T 28=.int .i64 ke:=hA.1 (by decide);simp only [ovr,Act.put,List.setIfInBounds_toArray,List.set_cons_zero,List.set_cons_succ,e12] at hK ⊢;have HK:=hii hK;clear hK hA;refine wO rfl (by rfl) ?_;go_simp;exact HK.out _ _ ⟨hb,fun _ => br⟩ rfl
    case he =>
     rintro T W hb hA;have f1:T 6=.int .i64 c:=hA.of 13 (by decide) (by decide);have f2:T 7=.int .i64 ke:=hA.of 14 (by decide) (by decide);have hE:=hE.mono hb;have hbr:=bu hbr hb;have hbw:=bu hbw hb;simp only [ovr,List.setIfInBounds_toArray,List.set_cons_zero,List.set_cons_succ,f1,f2];clear hA f1 f2 hb;obtain ⟨w3,rfl⟩:∃ w3:World,w3=W:=⟨_,rfl⟩
     by_cases hz:ke=0
     ·subst hz
      by_cases hp:c < 0
      ·have HP:=hii hp;go_wp2;go_ret;refine ⟨?_,hbw⟩;rw [HEE.out,HAT.out,if_neg (by decide),if_pos (show c < 0 by have:=HP.out; omega)]; rfl
      ·have HP:=hii hp;go_wp2;go_roundw
       case rel => exact ⟨k + 1,by omega,by go_num,hii (by rw [HEE.out,HAT.out,if_neg (by decide),if_neg (show ¬ (c < 0) by have:=HP.out; omega)]),hE,hbr⟩
       case measure => simp [intOf]; omega
     ·have g1:((ke:Int) != 0)=true:=by rw [bne_iff_ne]; omega
      have Hz:=hii hz;clear hz;go_wp2;go_ret;refine ⟨?_,hbw⟩;rw [HEE.out,HAT.out,if_pos Hz.out]; rfl
   ·obtain rfl:k=C.length:=by omega
    have HE0:Hid (E=0):=hii (by rw [HEE.out]; exact cols_end rfl)
    obtain ⟨x0,x1,x2⟩:=rA.n3;go_wp2;go_ret;exact ⟨by rw [HE0.out]; rfl,hbw⟩
theorem chk_err {p:Prg} {x y:List Qo} (h:p.err ≠ 0):chkErr p x y=p.err:=by unfold chkErr; rw [if_pos h]
theorem chk_len {p:Prg} {x y:List Qo} (h:p.err=0) (h2:x.length ≠ p.C.length∨y.length ≠ p.B.length):chkErr p x y=6:=by unfold chkErr; rw [if_neg (by simpa using h),if_pos h2]
theorem chk_bad {p:Prg} {x y:List Qo} (h:p.err=0) (h2:x.length=p.C.length) (h3:y.length=p.B.length) (h4:badQ x=true∨badQ y=true):chkErr p x y=1:=by
 unfold chkErr; rw [if_neg (by simpa using h),if_neg (by omega),if_pos h4]
theorem chk_solE {p:Prg} {x y:List Qo} (h1:p.err=0) (h2:x.length=p.C.length) (h3:y.length=p.B.length) (h4:badQ x=false) (h5:badQ y=false) (h6:solErr p.rA p.rB (valsQ x) ≠ 0):chkErr p x y=solErr p.rA p.rB (valsQ x):=by
 unfold chkErr;rw [if_neg (by simpa using h1),if_neg (by omega),if_neg (by rw [h4,h5]; simp)];exact if_pos h6
theorem rA_len (p:Prg):p.rA.length=p.A.length:=by simp [Prg.rA]
theorem UQ.vals {w:World} {ao:Option Addr} {l:List Qo} (h:UQ w ao l) (hb:badQ l=false):UQ w ao ((valsQ l).map some):=by rw [vals_some hb]; exact h
theorem prg_num {w:World} {p:Prg} (he:p.err=0) {aA aB aC:Option Addr} (uA:UM w aA p.A) (uB:UQ w aB p.B) (uC:UQ w aC p.C):UM w aA (p.rA.map (·.map some))∧UQ w aB (p.rB.map some)∧UQ w aC (p.rC.map some):=by
 obtain ⟨e1,e2,e3⟩:=err_eq he;rw [← e1,← e2,← e3];exact ⟨uA,uB,uC⟩
section
variable {p : Prg} {x y : List Qo}
theorem dsol_at (he:Hid (p.err=0)) (hx:Hid (x.length=p.C.length)) (bx:Hid (badQ x=false)) {aA aB aC ax:Option Addr} {cA cB cC cx:Nat} {w:World} (uA:UM w aA p.A) (uB:UQ w aB p.B) (uC:UQ w aC p.C) (ux:UQ w ax x) (hE:Env w) :
  Calls Tryz.prog 58 #[.agg #[.slice aA p.A.length cA,.slice aB p.B.length cB,.slice aC p.C.length cC],.slice ax x.length cx] w fun e w' => e=.returned (.int .i64 (solErr p.rA p.rB (valsQ x)))∧Below w.heap.size w w':=by
 obtain ⟨h1,h2,_⟩:=prg_num he.out uA uB uC;obtain ⟨z,_⟩:=err_zero he.out;have:=dsolution_any p.rA p.rB p.rC (valsQ x) (hii (err_fit he.out)) (hii (by rw [vals_length,rC_len,hx.out])) (by rw [rB_len]; exact z.2.1) (by rw [rC_len]; exact z.2.2.2.1) aA aB aC ax cA cB cC cx w h1 h2 (ux.vals bx.out) hE;rw [rA_len,rB_len,rC_len,vals_length] at this;exact this
theorem dpri_at (he:Hid (p.err=0)) (hy:Hid (y.length=p.B.length)) (by':Hid (badQ y=false)) {aA aB aC ax:Option Addr} {cA cB cC cx:Nat} {w:World} (uA:UM w aA p.A) (uB:UQ w aB p.B) (uC:UQ w aC p.C) (uy:UQ w ax y) (hE:Env w) :
  Calls Tryz.prog 59 #[.agg #[.slice aA p.A.length cA,.slice aB p.B.length cB,.slice aC p.C.length cC],.slice ax y.length cx] w fun e w' => e=.returned (.int .i64 (priErr p.rA p.rC (valsQ y)))∧Below w.heap.size w w':=by
 obtain ⟨h1,_,h2⟩:=prg_num he.out uA uB uC;obtain ⟨z,_⟩:=err_zero he.out;have:=dprices_any p.rA p.rB p.rC (valsQ y) (hii (err_fit he.out)) (hii (by rw [vals_length,rB_len,hy.out])) (by rw [rB_len]; exact z.2.1) (by rw [rC_len]; exact z.2.2.2.1) aA aB aC ax cA cB cC cx w h1 h2 (uy.vals by'.out) hE;rw [rA_len,rB_len,rC_len,vals_length] at this;exact this
end
theorem wrong_list {x:List Qo} {ax:Option Addr} {cx:Nat} {w:World} (hl:x.length≤1000000000) (ux:UQ w ax x) (hE:Env w) :
  Calls Tryz.prog 42 #[.slice ax x.length cx,.func (.func 36) #[] #[]] w fun e w' => e=.returned (.bool (badQ x))∧Below w.heap.size w w':=by
 have eg1:∀ args w,(callFunc 36 args).run Tryz.prog w=.ok (.enter 36 args) w:=enters_of Tryz.func36 (by kernel_rfl) rfl;have HT:Tells 36 #[] (·.isNone) x w:=by
  intro o v W ho hv hE2 hb2;have:=dwrong_any v o.isSome W hv.vq hE2
  cases o <;> exact this
 exact ContainsFunc_q 36 #[] (·.isNone) eg1 x ax cx w hl ux hE HT
theorem neg_list {x:List Rat} {ax:Option Addr} {cx:Nat} {w:World} (hl:x.length≤1000000000) (ux:UQ w ax (x.map some)) (hE:Env w) :
  Calls Tryz.prog 42 #[.slice ax x.length cx,.func (.func 43) #[] #[]] w fun e w' => e=.returned (.bool (x.any negR))∧Below w.heap.size w w':=by
 have eg1:∀ args w,(callFunc 43 args).run Tryz.prog w=.ok (.enter 43 args) w:=enters_of Tryz.func43 (by kernel_rfl) rfl;have HT:Tells 43 #[] negO (x.map some) w:=by
  intro o v W ho hv hE2 hb2;obtain ⟨r,_,rfl⟩:=List.mem_map.1 ho;exact dneg_any v r W hv hE2
 have:=ContainsFunc_q 43 #[] negO eg1 (x.map some) ax cx w (by rw [List.length_map]; exact hl) ux hE HT;rw [List.length_map,any_some] at this;exact this
theorem dcheck_any (p:Prg) (x y:List Qo) (vp:Value) (ax ay:Option Addr) (cx cy:Nat) (w:World) (h:PrgV w vp p) (hxl:x.length≤1000000000) (hyl:y.length≤1000000000) (ux:UQ w ax x) (uy:UQ w ay y) (hE:Env w) :
  Calls Tryz.prog 31 #[vp,.slice ax x.length cx,.slice ay y.length cy] w fun e w' => e=.returned (.int .i64 (chkErr p x y))∧Below w.heap.size w w':=by
 obtain ⟨aA,cA,aB,cB,aC,cC,rfl,uA,uB,uC⟩:=h;go_enter Tryz.func31,Tryz.ntmps31;go_upto_region 1 with fail;have hb:=bA w (.cells #[.slice aA p.A.length cA,.slice aB p.B.length cB,.slice aC p.C.length cC] 42);have rA:Row (w.alloc (.cells #[.slice aA p.A.length cA,.slice aB p.B.length cB,.slice aC p.C.length cC] 42)) w.heap.size 42 [.slice aA p.A.length cA,.slice aB p.B.length cB,.slice aC p.C.length cC]:=heap_alloc_new _ _;obtain ⟨g,hg⟩:∃ g,g=w.heap.size:=⟨_,rfl⟩;rw [← hg] at rA ⊢;clear hg;generalize w.alloc (.cells #[.slice aA p.A.length cA,.slice aB p.B.length cB,.slice aC p.C.length cC] 42)=w1 at *;have uA:=uA.mono hb;have uB:=uB.mono hb;have uC:=uC.mono hb;have ux:=ux.mono hb;have uy:=uy.mono hb;have hE:=hE.mono hb;have hbw:=hb;clear hb;obtain ⟨x0,x1,x2⟩:=rA.n3;obtain ⟨E,h_E⟩:∃ E,E=p.err:=⟨_,rfl⟩;have H_E:=hii h_E;clear h_E;have HV:=hii (sValid_any p _ w1 ⟨aA,cA,aB,cB,aC,cC,rfl,uA,uB,uC⟩ hE);rw [← H_E.out] at HV;go_wp2_with fail;(with_reducible refine (HV.out).mono ?_);rintro e w2 ⟨rfl,hb⟩;have uA:=uA.mono hb;have uB:=uB.mono hb;have uC:=uC.mono hb;have ux:=ux.mono hb;have uy:=uy.mono hb;have hE:=hE.mono hb;have rA:=rA.below hb;have hbw:=bu hbw hb;clear hb;clear HV x0 x1 x2
 by_cases hz:E ≠ 0
 ·have g1:((E:Int) != 0)=true:=by rw [bne_iff_ne]; omega
  have Hz:=hii hz;clear hz;go_wp2;go_ret;exact ⟨by rw [chk_err (by rw [← H_E.out]; exact Hz.out),← H_E.out]; rfl,hbw⟩
 ·have He:Hid (p.err=0):=hii (by rw [← H_E.out]; omega);obtain rfl:E=0:=by omega
  clear hz;obtain ⟨x0,x1,x2⟩:=rA.n3
  by_cases h1:x.length ≠ p.C.length
  ·have g1:((x.length:Int) != (p.C.length:Int))=true:=by rw [bne_iff_ne]; omega
   go_wp2;go_ret;exact ⟨by rw [chk_len He.out (.inl h1)]; rfl,hbw⟩
  ·have hx:x.length=p.C.length:=by omega
   have g1:((x.length:Int) != (p.C.length:Int))=false:=by rw [bne_eq_false_iff_eq]; omega
   have Hx:=hii hx;clear hx h1
   by_cases h2:y.length ≠ p.B.length
   ·have g2:((y.length:Int) != (p.B.length:Int))=true:=by rw [bne_iff_ne]; omega
    go_wp2;go_ret;exact ⟨by rw [chk_len He.out (.inr h2)]; rfl,hbw⟩
   ·have hy:y.length=p.B.length:=by omega
    have g2:((y.length:Int) != (p.B.length:Int))=false:=by rw [bne_eq_false_iff_eq]; omega
    have Hy:=hii hy;clear hy h2;obtain ⟨bx,h_bx⟩:∃ bx,bx=badQ x:=⟨_,rfl⟩;have H_bx:=hii h_bx;clear h_bx;obtain ⟨b_y,h_b_y⟩:∃ b_y,b_y=badQ y:=⟨_,rfl⟩;have H_b_y:=hii h_b_y;clear h_b_y;have HW:=hii (wrong_list (cx:=cx) hxl ux hE);rw [← H_bx.out] at HW;go_wp2_with fail;(with_reducible refine (HW.out).mono ?_);rintro e w3 ⟨rfl,hb⟩;have uA:=uA.mono hb;have uB:=uB.mono hb;have uC:=uC.mono hb;have ux:=ux.mono hb;have uy:=uy.mono hb;have hE:=hE.mono hb;have rA:=rA.below hb;have hbw:=bu hbw hb;clear hb;clear HW x0 x1 x2 g1 g2
    cases bx with
    | true =>
     go_wp2;go_ret;exact ⟨by rw [chk_bad He.out Hx.out Hy.out (.inl H_bx.out.symm)]; rfl,hbw⟩
    | false =>
     have HW:=hii (wrong_list (cx:=cy) hyl uy hE);rw [← H_b_y.out] at HW;go_wp2_with fail;(with_reducible refine (HW.out).mono ?_);rintro e w4 ⟨rfl,hb⟩;have uA:=uA.mono hb;have uB:=uB.mono hb;have uC:=uC.mono hb;have ux:=ux.mono hb;have uy:=uy.mono hb;have hE:=hE.mono hb;have rA:=rA.below hb;have hbw:=bu hbw hb;clear hb;clear HW
     cases b_y with
     | true =>
      go_wp2;go_ret;exact ⟨by rw [chk_bad He.out Hx.out Hy.out (.inr H_b_y.out.symm)]; rfl,hbw⟩
     | false =>
      obtain ⟨x0,x1,x2⟩:=rA.n3;have Hbx:Hid (badQ x=false):=hii H_bx.out.symm;have Hby:Hid (badQ y=false):=hii H_b_y.out.symm;obtain ⟨S,h_S⟩:∃ S,S=solErr p.rA p.rB (valsQ x):=⟨_,rfl⟩;have H_S:=hii h_S;clear h_S;have HS:=hii (dsol_at (cA:=cA) (cB:=cB) (cC:=cC) (cx:=cx) He Hx Hbx uA uB uC ux hE);rw [← H_S.out] at HS;go_wp2_with fail;(with_reducible refine (HS.out).mono ?_);rintro e w5 ⟨rfl,hb⟩;have uA:=uA.mono hb;have uB:=uB.mono hb;have uC:=uC.mono hb;have uy:=uy.mono hb;have hE:=hE.mono hb;have rA:=rA.below hb;have hbw:=bu hbw hb;clear hb;clear HS x0 x1 x2
      by_cases hz:S=0
      ·subst hz;obtain ⟨x0,x1,x2⟩:=rA.n3;have HS:=hii (dpri_at (cA:=cA) (cB:=cB) (cC:=cC) (cx:=cy) He Hy Hby uA uB uC uy hE);go_wp2_with fail;(with_reducible refine (HS.out).mono ?_);rintro e w6 ⟨rfl,hb⟩;have rA:=rA.below hb;have hbw:=bu hbw hb;clear hb;clear HS x0 x1 x2;go_wp2;go_ret;exact ⟨(by rw [chk_of He.out Hx.out Hy.out Hbx.out Hby.out H_S.out.symm]:Ending.returned (.int .i64 (priErr p.rA p.rC (valsQ y)))=.returned (.int .i64 (chkErr p x y))),hbw⟩
      ·have g1:((S:Int) != 0)=true:=by rw [bne_iff_ne]; omega
       have Hz:=hii hz;clear hz;go_wp2;go_ret;exact ⟨by rw [chk_solE He.out Hx.out Hy.out Hbx.out Hby.out (by rw [← H_S.out]; exact Hz.out),← H_S.out]; rfl,hbw⟩
def OptV (w:World) (v:Value) (val:Qo) (x y:List Qo):Prop :=
 ∃ ng ao n cap nh ap m caq ax cx ay cy,v=.agg #[.bool ng,.slice ao n cap,.bool nh,.slice ap m caq,.slice ax x.length cx,.slice ay y.length cy]∧QV w (.agg #[.bool ng,.slice ao n cap,.bool nh,.slice ap m caq]) val∧UQ w ax x∧UQ w ay y
theorem OptV.mono {w w':World} {v:Value} {val:Qo} {x y:List Qo} (h:OptV w v val x y) (hb:Below w.heap.size w w'):OptV w' v val x y:=by
 obtain ⟨ng,ao,n,cap,nh,ap,m,caq,ax,cx,ay,cy,e,h1,h2,h3⟩:=h;exact ⟨ng,ao,n,cap,nh,ap,m,caq,ax,cx,ay,cy,e,h1.mono hb,h2.mono hb,h3.mono hb⟩
theorem two_rows (w:World) (E F:TypeId) (xs ys:List Value):∃ wx,wx=(w.alloc (.cells xs.toArray E)).alloc (.cells ys.toArray F)∧Row wx w.heap.size E xs∧Row wx (w.heap.size + 1) F ys∧Below w.heap.size w wx:=by
 refine ⟨_,rfl,?_,?_,?_⟩
 ·exact Row.below (heap_alloc_new w _) (bA _ _)
 ·have:=heap_alloc_new (w.alloc (.cells xs.toArray E)) (.cells ys.toArray F)
  simpa [Row] using this
 ·exact (bA w _).alloc (by simp) _
theorem Row.n6 {w:World} {g:Nat} {E:TypeId} {a b c d e f:Value} (h:Row w g E [a,b,c,d,e,f]):w.cell? ⟨g,0,none⟩=some a∧w.cell? ⟨g,1,none⟩=some b∧w.cell? ⟨g,2,none⟩=some c∧w.cell? ⟨g,3,none⟩=some d∧w.cell? ⟨g,4,none⟩=some e∧w.cell? ⟨g,5,none⟩=some f :=
 ⟨h.cell (k:=0) (by simp),h.cell (k:=1) (by simp),h.cell (k:=2) (by simp),h.cell (k:=3) (by simp),h.cell (k:=4) (by simp),h.cell (k:=5) (by simp)⟩
theorem rnum_any (n:Int) (hn1:-9223372036854775808≤n) (hn2:n≤9223372036854775807) (w:World) (hE:Env w) :
  Calls Tryz.prog 12 #[.int .i64 n] w fun e w' => GotR w' (n:Rat) e∧Below w.heap.size w w':=by
 have hbw:=Below.refl w.heap.size w;go_enter Tryz.func12,Tryz.ntmps12;go_upto_region 1 with fail;have X0:=Box4.new w (.bool false) (.slice none 0 0) (.bool false) (.slice none 0 0) 26;have hb:=bA w (.cells #[.bool false,.slice none 0 0,.bool false,.slice none 0 0] 26);generalize w.alloc (.cells #[.bool false,.slice none 0 0,.bool false,.slice none 0 0] 26)=v1 at *;have hE:=hE.mono hb;have hbw:=bu hbw hb;clear hb;have HO1:=hii (rof_any n hn1 hn2 v1 hE);have Hn1:=hii hn1;have Hn2:=hii hn2;clear hn1 hn2;go_wp2_with fail;(with_reducible refine (HO1.out).mono ?_);rintro e v2 ⟨⟨ng2,ao2,n2,cap2,rfl,HV2⟩,hb⟩;have X0:=X0.mono hb;have hE:=hE.mono hb;have hbw:=bu hbw hb;clear hb HO1;go_wp2_with fail;(with_reducible refine (rof_any 1 (by decide) (by decide) v2 hE).mono ?_);rintro e v3 ⟨⟨ng1,ao1,n1,cap1,rfl,HV1⟩,hb⟩;have X0:=X0.mono hb;have HV2:=hii (HV2.out.mono hb);have hbw:=bu hbw hb;clear hb;obtain ⟨x0a,x0b,x0c,x0d,_,_,_,_⟩:=id X0;go_wp2;refine bodyPost_ret (v:=.agg #[.bool ng2,.slice ao2 n2 cap2,.bool ng1,.slice ao1 n1 cap1]) (by simp [results,Tryz.results12,go_sem,x0a,x0b,x0c,x0d]) rfl ⟨⟨ng2,ao2,n2,cap2,ng1,ao1,n1,cap1,rfl,hii (by rw [Rat.num_intCast]; exact HV2.out.put4B X0 _ _ _ _),hii (by rw [Rat.den_intCast]; exact HV1.out.put4B X0 _ _ _ _)⟩,Below.put4 hbw (by omega) _ _ _ _⟩
theorem QAt.kept {G:Nat→Prop} {w w':World} {xs:List Value} {i:Nat} {o:Qo} (h:QAt w xs i o) (hk:Kept G w w') (hp:NoG G w):QAt w' xs i o:=by
 obtain ⟨n1,a1,l1,c1,n2,a2,l2,c2,e0,e1,e2,e3,hr⟩:=h;exact ⟨n1,a1,l1,c1,n2,a2,l2,c2,e0,e1,e2,e3,hr.kept hk hp⟩
theorem QAt.mono {w w':World} {xs:List Value} {i:Nat} {o:Qo} (h:QAt w xs i o) (hb:Below w.heap.size w w'):QAt w' xs i o:=by
 obtain ⟨n1,a1,l1,c1,n2,a2,l2,c2,e0,e1,e2,e3,hr⟩:=h;exact ⟨n1,a1,l1,c1,n2,a2,l2,c2,e0,e1,e2,e3,hr.mono hb⟩
def MQ (w:World) (g:Nat) (l:List Qo):Prop :=
 ∃ xs,Row w g 26 xs∧xs.length=l.length * 4∧(∀ u∈xs,NoInt u)∧∀ i o,l[i]?=some o→QAt w xs i o
theorem MQ.mono {w w':World} {g:Nat} {l:List Qo} (h:MQ w g l) (hb:Below w.heap.size w w'):MQ w' g l:=by
 obtain ⟨xs,h1,h2,h3,h4⟩:=h;exact ⟨xs,h1.below hb,h2,h3,fun i o hi => (h4 i o hi).mono hb⟩
theorem MQ.lt {w:World} {g:Nat} {l:List Qo} (h:MQ w g l):g < w.heap.size:=by
 obtain ⟨xs,h1,_⟩:=h; exact h1.lt
theorem MQ.noG {w:World} {g:Nat} {l:List Qo} (h:MQ w g l):NoG (fun k => k=g) w:=by
 obtain ⟨xs,h1,h2,h3,h4⟩:=h;intro k hk cur t fr hc;subst hk;have:=h1.symm.trans hc;simp only [Option.some.injEq,Obj.cells.injEq] at this;obtain ⟨rfl,_,_⟩:=this;exact h3
theorem MQ.kept {G:Nat→Prop} {w w':World} {g:Nat} {l:List Qo} (h:MQ w g l) (hk:Kept G w w') (hp:NoG G w) (hg:¬ G g):MQ w' g l:=by
 obtain ⟨xs,h1,h2,h3,h4⟩:=h;exact ⟨xs,h1.mono hk hg,h2,h3,fun i o hi => (h4 i o hi).kept hk hp⟩
theorem MQ.read {w:World} {g:Nat} {l:List Qo} (h:MQ w g l):UQ w (some ⟨g,0,none⟩) l:=by
 obtain ⟨xs,h1,h2,h3,h4⟩:=h;intro i o hi;obtain ⟨n1,a1,l1,c1,n2,a2,l2,c2,e0,e1,e2,e3,hq⟩:=h4 i o hi;have hc:∀ j u,xs[j]?=some u→w.cell? ⟨g,0 + j,none⟩=some u:=by
  intro j u hu;obtain ⟨hj,rfl⟩:=List.getElem?_eq_some_iff.1 hu;rw [Nat.zero_add]; exact h1.cell hj
 exact ⟨g,0,n1,a1,l1,c1,n2,a2,l2,c2,rfl,⟨hc _ _ e0,hc _ _ e1,hc _ _ e2,hc _ _ e3,trivial,trivial,trivial,trivial⟩,hq⟩
theorem MQ.four {w:World} {g i:Nat} {l:List Qo} (h:MQ w g l) (hi:i < l.length):∃ (n1:Bool) (a1:Option Addr) (l1 c1:Nat) (n2:Bool) (a2:Option Addr) (l2 c2:Nat),
  w.cell? ⟨g,i * 4,none⟩=some (.bool n1)∧w.cell? ⟨g,i * 4 + 1,none⟩=some (.slice a1 l1 c1)∧w.cell? ⟨g,i * 4 + 2,none⟩=some (.bool n2)∧w.cell? ⟨g,i * 4 + 3,none⟩=some (.slice a2 l2 c2) ∧
  w.frozen? ⟨g,i * 4,none⟩=false∧w.frozen? ⟨g,i * 4 + 1,none⟩=false∧w.frozen? ⟨g,i * 4 + 2,none⟩=false∧w.frozen? ⟨g,i * 4 + 3,none⟩=false ∧
  QV w (.agg #[.bool n1,.slice a1 l1 c1,.bool n2,.slice a2 l2 c2]) l[i]:=by
 obtain ⟨xs,h1,h2,h3,h4⟩:=h;obtain ⟨n1,a1,l1,c1,n2,a2,l2,c2,e0,e1,e2,e3,hq⟩:=h4 i l[i] (gE hi);have hc:∀ j u,xs[j]?=some u→w.cell? ⟨g,j,none⟩=some u:=by
  intro j u hu;obtain ⟨hj,rfl⟩:=List.getElem?_eq_some_iff.1 hu;exact h1.cell hj
 exact ⟨n1,a1,l1,c1,n2,a2,l2,c2,hc _ _ e0,hc _ _ e1,hc _ _ e2,hc _ _ e3,h1.free _,h1.free _,h1.free _,h1.free _,hq⟩
theorem MQ.put {w:World} {g i:Nat} {l:List Qo} {n1:Bool} {a1:Option Addr} {l1 c1:Nat} {n2:Bool} {a2:Option Addr} {l2 c2:Nat} {o:Qo} (h:MQ w g l) (hi:i < l.length) (hv:QV w (.agg #[.bool n1,.slice a1 l1 c1,.bool n2,.slice a2 l2 c2]) o) :
  MQ ((((w.setCell ⟨g,i * 4,none⟩ (.bool n1)).setCell ⟨g,i * 4 + 1,none⟩ (.slice a1 l1 c1)).setCell ⟨g,i * 4 + 2,none⟩ (.bool n2)).setCell ⟨g,i * 4 + 3,none⟩ (.slice a2 l2 c2)) g (l.set i o) ∧
  Kept (fun k => k=g) w ((((w.setCell ⟨g,i * 4,none⟩ (.bool n1)).setCell ⟨g,i * 4 + 1,none⟩ (.slice a1 l1 c1)).setCell ⟨g,i * 4 + 2,none⟩ (.bool n2)).setCell ⟨g,i * 4 + 3,none⟩ (.slice a2 l2 c2)):=by
 have hno:=h.noG;obtain ⟨xs,h1,h2,h3,h4⟩:=h;have hk:Kept (fun k => k=g) w ((((w.setCell ⟨g,i * 4,none⟩ (.bool n1)).setCell ⟨g,i * 4 + 1,none⟩ (.slice a1 l1 c1)).setCell ⟨g,i * 4 + 2,none⟩ (.bool n2)).setCell ⟨g,i * 4 + 3,none⟩ (.slice a2 l2 c2)) :=
  (((((Kept.refl w:Kept (fun k => k=g) w w)).setCell (p:=⟨g,i * 4,none⟩) rfl _).setCell (p:=⟨g,i * 4 + 1,none⟩) rfl _).setCell (p:=⟨g,i * 4 + 2,none⟩) rfl _).setCell (p:=⟨g,i * 4 + 3,none⟩) rfl _
 refine ⟨⟨(((xs.set (i * 4) (.bool n1)).set (i * 4 + 1) (.slice a1 l1 c1)).set (i * 4 + 2) (.bool n2)).set (i * 4 + 3) (.slice a2 l2 c2),(((h1.set _ _).set _ _).set _ _).set _ _,by simp [h2],?_,?_⟩,hk⟩
 ·intro u hu;have hm:∀ (ys:List Value) (j:Nat) (v:Value),(∀ u∈ys,NoInt u)→NoInt v→∀ u∈ys.set j v,NoInt u:=by
   intro ys j v hy hv u hu;rcases List.mem_or_eq_of_mem_set hu with hu | rfl
   ·exact hy u hu
   ·exact hv
  refine hm _ _ _ (hm _ _ _ (hm _ _ _ (hm _ _ _ h3 ?_) ?_) ?_) ?_ u hu
  ·intro k z e; cases e
  ·intro k z e; cases e
  ·intro k z e; cases e
  ·intro k z e; cases e
 ·intro j q hj;have hxl:i * 4 + 3 < xs.length:=by rw [h2]; omega
  by_cases hji:j=i
  ·subst hji;rw [List.getElem?_set_self hi] at hj
   cases hj
   refine ⟨n1,a1,l1,c1,n2,a2,l2,c2,?_,?_,?_,?_,hv.kept hk hno⟩
   ·rw [List.getElem?_set_ne (by omega),List.getElem?_set_ne (by omega),List.getElem?_set_ne (by omega),List.getElem?_set_self (by omega)]
   ·rw [List.getElem?_set_ne (by omega),List.getElem?_set_ne (by omega),List.getElem?_set_self (by simp; omega)]
   ·rw [List.getElem?_set_ne (by omega),List.getElem?_set_self (by simp; omega)]
   ·rw [List.getElem?_set_self (by simp; omega)]
  ·rw [List.getElem?_set_ne (fun e => hji e.symm)] at hj;obtain ⟨m1,b1,k1,d1,m2,b2,k2,d2,e0,e1,e2,e3,hr⟩:=h4 j q hj;have hs:∀ m,m < 4→((((xs.set (i * 4) (.bool n1)).set (i * 4 + 1) (.slice a1 l1 c1)).set (i * 4 + 2) (.bool n2)).set (i * 4 + 3) (.slice a2 l2 c2))[j * 4 + m]?=xs[j * 4 + m]?:=by
    intro m hm;rw [List.getElem?_set_ne (by omega),List.getElem?_set_ne (by omega),List.getElem?_set_ne (by omega),List.getElem?_set_ne (by omega)]
   exact ⟨m1,b1,k1,d1,m2,b2,k2,d2,(hs 0 (by omega)).trans e0,(hs 1 (by omega)).trans e1,(hs 2 (by omega)).trans e2,(hs 3 (by omega)).trans e3,hr.kept hk hno⟩
theorem vq_zero (w:World):VQ w (.agg #[.bool false,.slice none 0 0,.bool false,.slice none 0 0]) false:=by
 refine ⟨false,false,[],[],none,none,0,0,rfl,by simp,by simp,by simp,by simp,U.nil _ _,U.nil _ _,hii (Iff.intro (fun h => nomatch h) ?_)⟩;rintro ⟨r,_,_,_,_,hd,_⟩;rw [Bi.limbs_pos r.den_nz] at hd
 cases hd
end Go.Proofs.YtaedmaifkfhpfaaGreatDoor
