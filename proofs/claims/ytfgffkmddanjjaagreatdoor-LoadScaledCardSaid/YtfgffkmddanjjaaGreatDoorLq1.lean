/-
  Loads, plain: a balance's shares and prices lead to small numbers only; their positions ascend.
-/
import Derived.Test.YtfgffkmddanjjaaGreatDoorLo
import Derived.Test.YtfgffkmddanjjaaGreatDoorLm
import Derived.Test.YtfgffkmddanjjaaGreatDoorLa
set_option linter.unusedVariables false
set_option linter.unusedSimpArgs false
set_option maxRecDepth 100000
set_option maxHeartbeats 25600000
namespace Go.Proofs.YtfgffkmddanjjaaGreatDoor
open _root_.Go.Proofs.Tryz
open Go.RowKit
theorem zmC {R S:List Nat} (hR:R.Pairwise (λ a b => bef a b=true)) (hS:S.Pairwise (λ a b => bef a b=true)):(prs R S).Pairwise (λ a b => a ≠ b):=by
 unfold prs;rw [List.pairwise_flatMap];refine ⟨λ r _ => ?_,hR.imp λ {a b} hab x hx y hy e => ?_⟩
 ·rw [List.pairwise_map];exact hS.imp λ {a b} hab e => by
   have:a=b:=congrArg Prod.snd e;rw [this,zbE] at hab; cases hab
 ·obtain ⟨s,_,rfl⟩:=List.mem_map.1 hx;obtain ⟨t,_,rfl⟩:=List.mem_map.1 hy;have:a=b:=congrArg Prod.fst e;rw [this,zbE] at hab; cases hab
theorem zly {l:List (Nat × Nat)} (h:l.Pairwise (λ a b => a ≠ b)) {k:Nat} {q:Nat × Nat} (hk:l[k]?=some q):zfD (λ p => decide (p=q)) l=(k:Int):=by
 refine zcG hk (decide_eq_true rfl) λ x hx => decide_eq_false λ e => ?_
 subst e;obtain ⟨i,hi,he⟩:=List.mem_take_iff_getElem.1 hx;obtain ⟨hkl,hke⟩:=List.getElem?_eq_some_iff.1 hk;have:=List.pairwise_iff_getElem.1 h i k (by omega) hkl (by omega);exact this (he.trans hke.symm)
def ze8:List Rat->Nat->List Nat
 | [],_ => []
 | x :: P,k => if 0 < x then k :: ze8 P (k + 1) else ze8 P (k + 1)
theorem zfW:∀ (P:List Rat) (k:Nat),∀ i∈ze8 P k,k<=i
 | [],_,i,h => by simp [ze8] at h
 | x :: P,k,i,h => by
  simp only [ze8] at h
  split at h
  ·rcases List.mem_cons.1 h with rfl | h
   ·exact nl
   ·have:=zfW P (k + 1) i h; omega
  ·have:=zfW P (k + 1) i h; omega
theorem zdo:∀ (P:List Rat) (k:Nat),(ze8 P k).Pairwise (· < ·)
 | [],_ => by simp [ze8]
 | x :: P,k => by
  simp only [ze8]
  split
  ·exact List.pairwise_cons.2 ⟨λ i hi => zfW P (k + 1) i hi,zdo P (k + 1)⟩
  ·exact zdo P (k + 1)
theorem zet:∀ (l0 l:List (Nat × Nat)) (P:List Rat) (j:Nat) (s:(Nat × Nat) × Rat),(shs l P)[j]?=some s->∃ k,(ze8 P l0.length)[j]?=some k/\(l0 ++ l)[k]?=some s.1/\0 < s.2
 | l0,[],P,j,s,h => by cases P <;> simp [shs] at h
 | l0,q :: l,[],j,s,h => by simp [shs] at h
 | l0,q :: l,x :: P,j,s,h => by
  have ih:=λ j s h => zet (l0 ++ [q]) l P j s h
  simp only [List.length_append,List.length_cons,List.length_nil,Nat.zero_add,List.append_assoc,List.singleton_append] at ih;simp only [shs] at h;simp only [ze8]
  split at h
  ·next hx =>
   rw [if_pos hx]
   cases j with
   | zero =>
    simp at h;subst h;exact ⟨l0.length,rfl,by simp,hx⟩
   | succ j => exact ih j s (by simpa using h)
  ·next hx =>
   rw [if_neg hx];exact ih j s h
theorem zlc {l:List (Nat × Nat)} (h:l.Pairwise (λ a b => a ≠ b)) (P:List Rat):zn9 l (shs l P):=by
 refine ⟨λ j => (ze8 P 0).getD j 0,λ j s hs => ?_,λ j hj => ?_⟩
 ·obtain ⟨k,h1,h2,h3⟩:=zet [] l P j s hs;refine ⟨?_,h3⟩
  show zfD _ l=(((ze8 P 0).getD j 0:Nat):Int)
  rw [List.getD_eq_getElem?_getD,show (ze8 P 0)[j]?=some k from h1];exact zly h (by simpa using h2)
 ·obtain ⟨k,h1,_,_⟩:=zet [] l P j _ (gE (show j < (shs l P).length by omega));obtain ⟨k',h1',_,_⟩:=zet [] l P (j + 1) _ (gE hj)
  show (ze8 P 0).getD j 0 < (ze8 P 0).getD (j + 1) 0
  have h1:(ze8 P 0)[j]?=some k:=h1;have h1':(ze8 P 0)[j + 1]?=some k':=h1';rw [List.getD_eq_getElem?_getD,List.getD_eq_getElem?_getD,h1,h1'];obtain ⟨a1,a2⟩:=List.getElem?_eq_some_iff.1 h1;obtain ⟨b1,b2⟩:=List.getElem?_eq_some_iff.1 h1';have:=List.pairwise_iff_getElem.1 (zdo P 0) j (j + 1) a1 b1 (by omega);rw [a2,b2] at this;exact this
theorem zf1 {D:Int} {N:Nat}:∀ (l:List Rat),(∀ x∈l,Sx.Wh (x * (D:Rat)) N)->Sx.Wh (zbM l * (D:Rat)) (l.length * N)
 | [],_ => by show Sx.Wh ((0:Rat) * (D:Rat)) _; rw [Rat.zero_mul]; exact Sx.wh_zero.mono (Nat.zero_le _)
 | x :: l,h => by
  have h1:=h x (by simp);have h2:=zf1 l λ y hy => h y (by simp [hy])
  show Sx.Wh ((x + zbM l) * (D:Rat)) _
  rw [Rat.add_mul];refine (h1.add h2).mono ?_;rw [List.length_cons,Nat.add_mul]; omega
structure DN (D:Int) (M:Nat):Prop where
 ne:D ≠ 0
 le:D.natAbs * 12<=KK
 big:20 * (M * 96)<=KK
theorem DN.kb {D:Int} {M:Nat} (d:DN D M) {x:Rat} (h:Sx.Wh (x * (D:Rat)) M):Kb 1 x:=zca d.ne (by have:=d.le; omega) h (by have:=d.big; omega)
theorem DN.ne12 {D:Int} {M:Nat} (d:DN D M):D * 12 ≠ 0:=by have:=d.ne; omega
theorem DN.prod {D:Int} {M:Nat} {x t:Rat} (hx:Sx.Wh (x * (D:Rat)) M) (ht:Sx.Wh (t * ((12:Nat):Rat)) 96):Sx.Wh (x * t * ((D * 12:Int):Rat)) (M * 96):=by
 have e:x * t * ((D * 12:Int):Rat)=x * (D:Rat) * (t * ((12:Nat):Rat)):=by
  rw [Rat.intCast_mul];have:((12:Int):Rat)=((12:Nat):Rat):=rfl;rw [this]; grind
 rw [e]; exact hx.mul ht
theorem DN.sum {D:Int} {M:Nat} (d:DN D M) {l:List Rat} (hl:l.length<=20) (h:∀ x∈l,Sx.Wh (x * ((D * 12:Int):Rat)) (M * 96)):Kb 1 (zbM l):=by
 have h1:=zf1 l h;have h2:l.length * (M * 96)<=20 * (M * 96):=Nat.mul_le_mul_right _ hl;have:=d.le;refine zca d.ne12 (by rw [Int.natAbs_mul]; simpa using this) h1 (by have:=d.big; omega)
theorem DN.sum1 {D:Int} {M:Nat} (d:DN D M) {l:List Rat} (hl:l.length<=20) (h:∀ x∈l,Sx.Wh (x * (D:Rat)) M):Kb 1 (zbM l):=by
 have h1:=zf1 l h;have h2:l.length * M<=20 * M:=Nat.mul_le_mul_right _ hl;have:=d.le;have:=d.big;exact zca d.ne (by omega) h1 (by omega)
theorem kb0:Kb 1 0:=zbr (Sx.wh_zero.mono (Nat.zero_le 1)) (by decide)
structure ShD (D:Int) (M:Nat) (sh:List ((Nat × Nat) × Rat)):Prop where
 dn:DN D M
 len:sh.length<=20
 pos:∀ s∈sh,0<=s.2
 wh:∀ s∈sh,Sx.Wh (s.2 * (D:Rat)) M
section
variable {R S : List Nat} {f : Rat} {cap : List Rat} {m : Nat} {D : Int} {M : Nat} {sh : List ((Nat × Nat) × Rat)}
theorem ShD.sumO (h:ShD D M sh) (n:Nat):sumO ((sh.take n).map (·.2))=some (zbM ((sh.take n).map (·.2))):=by
 induction n with
 | zero => rfl
 | succ n ih =>
  rcases Nat.lt_or_ge n sh.length with hn | hn
  ·have hx:=gE hn;have hm:=List.getElem_mem hn;rw [zaH hx,List.map_append,List.map_cons,List.map_nil,zeV,ih,zb1];refine zhb ((h.dn.sum1 (by simp; have:=h.len; omega) λ x hx => ?_).addS (h.dn.kb (h.wh _ hm)) (by decide));obtain ⟨s,hs,rfl⟩:=List.mem_map.1 hx;exact h.wh s (List.mem_of_mem_take hs)
  ·rw [List.take_of_length_le hn] at ih;rw [List.take_of_length_le (by omega)]; exact ih
theorem ShD.parts (h:ShD D M sh):zbn ((shQ sh).map (·.2))=zin (some (zbM (sh.map (·.2)))):=by
 have e:(shQ sh).map (·.2)=sh.map λ s => (some s.2:Qo):=by unfold shQ; rw [List.map_map]; rfl
 have e2:(sh.map λ s => (some s.2:Qo)).map zjB=sh.map (·.2):=by rw [List.map_map]; rfl
 have h2:=h.sumO sh.length;rw [List.take_length] at h2;unfold zbn;rw [e,e2,if_neg,h2];rw [Bool.not_eq_true,List.any_eq_false];intro o ho;obtain ⟨s,hs,rfl⟩:=List.mem_map.1 ho;have:=h.pos s hs;simp [zmX,Rat.not_lt.2 this]
theorem zkM (f:Rat) (cap:List Rat) (sh:List ((Nat × Nat) × Rat)):∀ i,mxS f cap sh i=0\/∃ j,j < i/\mxS f cap sh i=tS f sh j / cap.getD j 0
 | 0 => .inl rfl
 | i + 1 => by
  show (if mxS f cap sh i < tS f sh i / cap.getD i 0 then tS f sh i / cap.getD i 0 else mxS f cap sh i)=0\/_
  simp only [mxS]
  split
  ·exact .inr ⟨i,by omega,rfl⟩
  ·rcases zkM f cap sh i with h | ⟨j,hj,h⟩
   ·exact .inl h
   ·exact .inr ⟨j,by omega,h⟩
theorem WkM.cap_at (W:WkM R S f cap m) {i:Nat} (hi:i < m):∃ c,cap[i]?=some c/\cap.getD i 0=c/\0 < c/\Kb 1 c/\c.num ≠ 0:=by
 have hi':i < cap.length:=by rw [W.lc]; exact hi
 refine ⟨cap[i],gE hi',by rw [List.getD_eq_getElem?_getD,gE hi']; rfl,W.pc _ (List.getElem_mem hi'),zca (D:=((12:Nat):Int)) (by decide) (by decide) (W.wc _ (List.getElem_mem hi')) (by decide),λ e => ?_⟩;have h:=W.pc _ (List.getElem_mem hi');rw [Rat.num_eq_zero.1 e] at h;exact Rat.lt_irrefl h
theorem WkM.wt (W:WkM R S f cap m) (q:Nat × Nat) (i:Nat):Sx.Wh (wt f q i * ((12:Nat):Rat)) 96:=W.wk.wwt q i
theorem WkM.wtK (W:WkM R S f cap m) (q:Nat × Nat) (i:Nat):Kb 1 (Go.Proofs.YtfgffkmddanjjaaGreatDoor.wt f q i):=zca (D:=((12:Nat):Int)) (by decide) (by decide) (W.wt q i) (by decide)
theorem ShD.tK (W:WkM R S f cap m) (h:ShD D M sh) (n i:Nat):Kb 1 (tS f (sh.take n) i):=by
 unfold tS;refine h.dn.sum (by simp; have:=h.len; omega) λ x hx => ?_
 obtain ⟨s,hs,rfl⟩:=List.mem_map.1 hx;exact DN.prod (h.wh s (List.mem_of_mem_take hs)) (W.wt _ _)
theorem ShD.tK' (W:WkM R S f cap m) (h:ShD D M sh) (i:Nat):Kb 1 (tS f sh i):=by
 have:=h.tK W sh.length i
 rwa [List.take_length] at this
theorem ShD.mxK (W:WkM R S f cap m) (h:ShD D M sh) {i:Nat} (hi:i<=m):Kb 2 (mxS f cap sh i):=by
 rcases zkM f cap sh i with e | ⟨j,hj,e⟩
 ·rw [e]; exact kb0.mono (by decide)
 ·obtain ⟨c,_,hc,_,hK,hn⟩:=W.cap_at (show j < m by omega);rw [e,hc];exact (h.tK' W j).div hK hn
theorem ShD.ofS (W:WkM R S f cap m) (h:ShD D M sh):OfS f cap sh:=by
 intro i hi;rw [W.lc] at hi;obtain ⟨c,_,hc,_,hK,hn⟩:=W.cap_at hi;rw [hc];refine ⟨λ j s hs => ⟨(h.dn.kb (h.wh s (List.mem_of_getElem? hs))).mulS (W.wtK _ _) (by decide),(h.tK W j i).addS ((h.dn.kb (h.wh s (List.mem_of_getElem? hs))).mul (W.wtK _ _)) (by decide)⟩,(h.tK' W i).divS hK (by decide),((h.tK' W i).div hK hn).crS (h.mxK W (by omega)) (by decide)⟩
theorem zom {x y:Rat} (h:x=y):x<=y:=h ▸ Rat.le_refl
theorem zdY (g:Nat->Rat):∀ n,zbM ((List.range n).map g)=Du.sm n g
 | 0 => rfl
 | n + 1 => by rw [List.range_succ,List.map_append,List.map_cons,List.map_nil,zb1,zdY g n]; rfl
theorem ziL {D:Int} {N:Nat} (hD:D ≠ 0) (hDz:D.natAbs<=KK):∀ (la lb:List Rat) (acc:Rat) (j:Nat),(∀ a∈la,Kb 1 a)->(∀ b∈lb,Kb 1 b)->(∀ a∈la,∀ b∈lb,Sx.Wh (a * b * (D:Rat)) N)->Sx.Wh (acc * (D:Rat)) (j * N)->(j + la.length) * N<=KK ->
  zhP acc la lb (some (acc + zbM (List.zipWith (· * ·) la lb)))
 | [],_,acc,j,_,_,_,_,_ => by
  show some (acc + zbM _)=some acc
  simp only [List.zipWith_nil_left,zbM]
  congr 1
  grind
 | _ :: _,[],acc,j,_,_,_,_,_ => by
  show some (acc + zbM _)=some acc
  simp only [List.zipWith_nil_right,zbM]
  congr 1
  grind
 | a :: la,b :: lb,acc,j,h1,h2,h3,h4,h5 => by
  have hab:=h3 a (by simp) b (by simp);have hacc:Kb 1 acc:=zca hD hDz h4 (Nat.le_trans (Nat.mul_le_mul_right _ (by omega)) h5);rw [List.length_cons] at h5;have hs:Sx.Wh ((acc + a * b) * (D:Rat)) ((j + 1) * N):=by rw [Rat.add_mul,Nat.add_mul,Nat.one_mul]; exact h4.add hab
  have ih:=ziL hD hDz la lb (acc + a * b) (j + 1) (λ x hx => h1 x (by simp [hx])) (λ x hx => h2 x (by simp [hx])) (λ x hx y hy => h3 x (by simp [hx]) y (by simp [hy])) hs (by rw [show j + 1 + la.length=j + (la.length + 1) by omega]; exact h5);refine .inl ⟨(h1 a (by simp)).mulS (h2 b (by simp)) (by decide),hacc.addS ((h1 a (by simp)).mul (h2 b (by simp))) (by decide),?_⟩;have e:acc + zbM (List.zipWith (· * ·) (a :: la) (b :: lb))=acc + a * b + zbM (List.zipWith (· * ·) la lb):=by
   simp only [List.zipWith_cons_cons,zbM]
   grind
  rw [e]; exact ih
theorem zmn:∀ (la lb:List Rat) (n:Nat),la.length=n->lb.length=n->zbM (List.zipWith (· * ·) la lb)=Du.sm n (λ i => lb.getD i 0 * la.getD i 0):=by
 intro la lb n h1 h2;rw [show List.zipWith (· * ·) la lb=(la.zip lb).map (λ p => p.1 * p.2) by rw [List.zip,List.map_zipWith],zbL (la.zip lb) _ (λ i => lb.getD i 0 * la.getD i 0) λ k s hs => ?_]
 ·rw [List.length_zip,h1,h2,Nat.min_self]
 ·rw [List.getElem?_zip_eq_some] at hs
  show lb.getD k 0 * la.getD k 0=s.1 * s.2
  rw [List.getD_eq_getElem?_getD,List.getD_eq_getElem?_getD,hs.1,hs.2,Rat.mul_comm]; rfl
end
section
variable {R S : List Nat} {f ld : Rat} {cap P Q : List Rat} {m : Nat}
theorem WkM.dn (W:WkM R S f cap m) {z:Int} (h0:z ≠ 0) (h:z.natAbs<=szE 96 m):DN z (szE 96 m):=by
 have hb:=W.wk.big;have:szE 96 m<=96 * szE 96 m:=Nat.le_mul_of_pos_left _ (by decide);exact ⟨h0,by omega,by omega⟩
theorem WkM.shD (W:WkM R S f cap m) (B:Bal (prs R S) f cap m (prs R S).length (szE 96 m) ld P Q):∃ z,ShD z (szE 96 m) (shs (prs R S) P)/\(∀ x∈Q,Sx.Wh (x * (z:Rat)) (szE 96 m))/\Sx.Wh (ld * (z:Rat)) (szE 96 m):=by
 obtain ⟨z,h0,h1,h2,h3,h4⟩:=B.den;refine ⟨z,⟨W.dn h0 h1,?_,λ s hs => Rat.le_of_lt (zbm hs).2.2,λ s hs => h3 _ (zbm hs).2.1⟩,h4,h2⟩;have:=zfM (prs R S) P;have h9:=W.n9;rw [zbK] at this;omega
theorem WkM.prv (W:WkM R S f cap m) (B:Bal (prs R S) f cap m (prs R S).length (szE 96 m) ld P Q):zn8 (prs R S) f cap Q m ld:=by
 obtain ⟨z,hs,hQ,hl⟩:=W.shD B;have d:=hs.dn;have hm:=W.hm;have hQK:∀ x∈Q,Kb 1 x:=λ x hx => d.kb (hQ x hx)
 have hat:∀ j,j < m->Q.getD j 0∈Q:=λ j hj => by
  have:j < Q.length:=by rw [B.lQ]; exact hj
  rw [List.getD_eq_getElem?_getD,gE this]; exact List.getElem_mem this
 have hps:∀ q j,j<=m->Kb 1 (pS f Q q j):=λ q j hj => by
  unfold pS;refine d.sum (by simp; omega) λ x hx => ?_
  obtain ⟨i,hi,rfl⟩:=List.mem_map.1 hx;exact DN.prod (hQ _ (hat i (by have:=List.mem_range.1 hi; omega))) (W.wt _ _)
 refine ⟨B.lQ,W.lc,B.pQ,?_,λ q hq j hj => ⟨(hQK _ (hat j hj)).mulS (W.wtK _ _) (by decide),(hps q j (by omega)).addS ((hQK _ (hat j hj)).mul (W.wtK _ _)) (by decide)⟩,λ q hq => ⟨?_,(hps q m nl).crS (d.kb hl) (by decide)⟩⟩
 ·have h:=ziL (D:=z * 12) (N:=szE 96 m * 96) d.ne12 (by rw [Int.natAbs_mul]; simpa using d.le) Q cap 0 0 hQK (λ c hc => zca (D:=((12:Nat):Int)) (by decide) (by decide) (W.wc c hc) (by decide)) (λ a ha b hb => DN.prod (hQ a ha) (W.wc b hb)) (by rw [Rat.zero_mul]; exact Sx.wh_zero.mono (Nat.zero_le _)) (by
   have:=d.big;have h2:(0 + Q.length) * (szE 96 m * 96)<=20 * (szE 96 m * 96):=Nat.mul_le_mul_right _ (by rw [B.lQ]; omega);omega)
  rw [zmn Q cap m B.lQ W.lc,B.one] at h;have e:(0:Rat) + 1=1:=by grind
  rw [e] at h;exact h
 ·obtain ⟨k,hk⟩:=List.getElem?_of_mem hq;have:=B.col k q hk;unfold pS;rw [zdY];refine Rat.le_trans this (zom (Du.sm_congr _ _ _ λ i _ => Rat.mul_comm _ _))
theorem WkM.miss (P:List Rat):(shQ (shs (prs R S) P)).any (zcT R S)=false:=by
 rw [List.any_eq_false];intro s hs;unfold shQ at hs;obtain ⟨t,ht,rfl⟩:=List.mem_map.1 hs;obtain ⟨h1,h2⟩:=zbJ (zbm ht).1;have a1:(R.any λ y => decide (y=t.1.1))=true:=List.any_eq_true.2 ⟨_,h1,decide_eq_true rfl⟩;have a2:(S.any λ y => decide (y=t.1.2))=true:=List.any_eq_true.2 ⟨_,h2,decide_eq_true rfl⟩;simp [zcT,a1,a2]
end
theorem zel:∀ l:List ((Nat × Nat) × Rat),(shQ l).map (λ s => (s.1,zjB s.2))=l
 | [] => rfl
 | s :: l => by
  have ih:=zel l;unfold shQ at *;simp only [List.map_cons,ih]
  rfl
theorem zkA (R S:List Nat) (f:Rat) (cap:List Rat) (m:Nat) (HW:Hid (WkM R S f cap m)) (aR aS aC:Option Addr) (cR cS cC:Nat) (vf v:Value) (ld:Rat) (Ps Qs:List Rat) (HB:Hid (Bal (prs R S) f cap m (prs R S).length (szE 96 m) ld Ps Qs)) (w:World) (hcR:R.length<=cR) (hcS:S.length<=cS) (uR:zaM w aR R) (uS:zaM w aS S) (hf:zac w vf f) (uC:UQ w aC (cap.map some)) (hV:zjx w v ld (shs (prs R S) Ps) Qs) (hE:Env w) :
  Calls Tryz.prog 28 #[.slice aR R.length cR,.slice aS S.length cS,vf,.slice aC cap.length cC,v] w λ e w' => e=.returned (.bool true)/\BH w w':=by
 have hbw:=Below.refl w.heap.size w;obtain ⟨J1,ao1,n1,Y1,K1,ap1,m1,Z1,rfl⟩:=hf.parts;have hm:=HW.out.hm;have hR4:=HW.out.fR.len;have hS4:=HW.out.fS.len;have hn9:=HW.out.n9;have h16:Hid (zaJ R/\zaJ S):=hii ⟨HW.out.fR.s16 (by omega),HW.out.fS.s16 (by omega)⟩;obtain ⟨z9,hShD,-,hldK⟩:=HW.out.shD HB.out;have HCl:Hid (CrS ld ld):=hii ((hShD.dn.kb hldK).crS (hShD.dn.kb hldK) (by decide));have HOf:=hii (hShD.ofS HW.out);have HPt:Hid (zbn ((shQ (shs (prs R S) Ps)).map (·.2))=0):=hii (by rw [hShD.parts,HB.out.total rfl]; rfl);have HMi:=hii (WkM.miss (R:=R) (S:=S) Ps);have HPv:=hii (HW.out.prv HB.out);have HOr:=hii (zlc (zmC HW.out.fR.fam.pair HW.out.fS.fam.pair) Ps);have HLd:Hid (mxS f cap (shs (prs R S) Ps) cap.length=ld):=hii (by rw [HW.out.lc]; exact HB.out.load rfl HW.out.lc HW.out.pc);have hsl:=hShD.len;obtain ⟨sh,hsh⟩:∃ sh,shs (prs R S) Ps=sh:=⟨_,rfl⟩;rw [hsh] at hV HOf HPt HMi HOr HLd hsl;have HQl:Hid (Qs.length=m):=hii HB.out.lQ;have HPc:Hid (∀ c∈cap,0 < c):=hii HW.out.pc;have HLc:Hid (cap.length=m):=hii HW.out.lc;have Hge:Hid (decide (0<=Rq.cmpQ ld ld)=true):=hii (decide_eq_true (zeK Rat.le_refl));obtain ⟨J2,ao2,n2,Y2,K2,ap2,m2,Z2,aB,cB,aQ,cQ,rfl,hvl,uB,uQ⟩:=hV;have uB:=uB.shareQ;clear hShD hldK hsh;go_enter func28,ntmps28;go_upto_region 1 with fail;obtain ⟨wx,hwx,r1,r2,hb⟩:=zaO w 32 39 [.bool J1,.slice ao1 n1 Y1,.bool K1,.slice ap1 m1 Z1] [.bool J2,.slice ao2 n2 Y2,.bool K2,.slice ap2 m2 Z2,.slice aB sh.length cB,.slice aQ Qs.length cQ];simp only [List.toArray] at hwx;rw [<- hwx];clear hwx;obtain ⟨w1,rfl⟩:=exi wx;obtain ⟨g2,hg2⟩:=exi (w.heap.size + 1);have Hg2:Hid (w.heap.size<=g2):=hii (by omega);rw [<- hg2] at r2 |-;clear hg2;obtain ⟨g1,hg1⟩:=exi (w.heap.size);have Hg1:Hid (w.heap.size<=g1):=hii (by omega);rw [<- hg1] at r1 |-;clear hg1;have hf:=hf.mono hb;have uB:=uB.mono zan hb;have hvl:=hvl.mono hb;have uQ:=uQ.mono hb;have uR:=uR.mono hb;have uS:=uS.mono hb;have uC:=uC.mono hb;have hE:=hE.mono hb;have hbw:=bu hbw hb;clear hb;obtain ⟨c0,c1,c2,c3⟩:=r1.n4;go_wp2_with fail;go_fit (zcS R S f cap m HW aR aS aC cR cS cC _ w1 hcR hcS uR uS hf uC hE);rintro e w2 ⟨⟨g,rfl,hg,hW⟩,hb⟩;have uB:=uB.mono zan hb;have hvl:=hvl.mono hb;have uQ:=uQ.mono hb;have hE:=hE.mono hb;have r2:=r2.below hb;have hbw:=bu hbw hb;clear hb;clear c0 c1 c2 c3 r1 uR uS uC hf;obtain ⟨y0,y1,y2,y3,y4,y5⟩:=r2.n6;go_wp2_with fail;go_fit (zau _ ld w2 hvl hE);rintro e w3 ⟨rfl,hb⟩;have uB:=uB.mono zan hb;have hvl:=hvl.mono hb;have uQ:=uQ.mono hb;have hE:=hE.mono hb;have hW:=hW.mono hb;have r2:=r2.below hb;have hbw:=bu hbw hb;clear hb;clear y0 y1 y2 y3 y4 y5;obtain ⟨y0,y1,y2,y3,y4,y5⟩:=r2.n6;go_wp2_with fail;go_fit (zhs g R S f cap sh aB cB w3 (by omega) (by omega) (by omega) (by omega) HOr hW uB hE);rintro e w4 ⟨rfl,hb⟩;have uB:=uB.mono zan hb;have hvl:=hvl.mono hb;have uQ:=uQ.mono hb;have hE:=hE.mono hb;have hW:=hW.mono hb;have r2:=r2.below hb;have hbw:=bu hbw hb;clear hb;clear y0 y1 y2 y3 y4 y5;have HO:=znD R S f cap g m (shQ sh) aB cB w4 (by omega) (by omega) (by simp [shQ]; omega) HLc (by omega) h16 HPc hW uB hE (hii λ _ _ => ⟨sh,rfl,HOf.out⟩);rw [show (shQ sh).length=sh.length by simp [shQ]] at HO;obtain ⟨y0,y1,y2,y3,y4,y5⟩:=r2.n6;go_wp2_with fail;(with_reducible refine HO.mono ?_);rintro e w5 ⟨hOR,hb⟩;have uB:=uB.mono zan hb;have hvl:=hvl.mono hb;have uQ:=uQ.mono hb;have hE:=hE.mono hb;have hW:=hW.mono hb;have r2:=r2.below hb;have hbw:=bu hbw hb;clear hb;clear y0 y1 y2 y3 y4 y5 HO;have hG:zcL w5 ld e:=by
  rcases hOR with ⟨h,_⟩ | ⟨_,h,_⟩ | ⟨_,_,sh',hs',hG⟩
  ·rw [HMi.out] at h; cases h
  ·exact absurd HPt.out h
  ·have:sh'=sh:=by
    have e:=congrArg (List.map λ s:(Nat × Nat) × Qo => (s.1,zjB s.2)) hs';rw [zel,zel] at e;exact e.symm
   rw [this,HLd.out] at hG;exact hG
 obtain ⟨J3,ao3,n3,Y3,K3,ap3,m3,Z3,rfl,hv3⟩:=hG.rat;clear hOR uB;go_upto_region 5 with fail;obtain ⟨w6,g13,hw9,hg9,hb,r13⟩:=bxr w5 [.bool J3,.slice ao3 n3 Y3,.bool K3,.slice ap3 m3 Z3] 32;rw [<- hw9,<- hg9];have Hg13:Hid (w.heap.size<=g13):=hii (by have:=hbw.size; omega);clear hw9 hg9;have hv3:=hv3.mono hb;have hvl:=hvl.mono hb;have uQ:=uQ.mono hb;have hE:=hE.mono hb;have hW:=hW.mono hb;have r2:=r2.below hb;have hbw:=bu hbw hb;clear hb;obtain ⟨y0,y1,y2,y3,y4,y5⟩:=r2.n6;obtain ⟨k0,k1,k2,k3⟩:=r13.n4;have HL1:=zeC _ _ ld ld w6 hv3 hvl HCl hE;rw [Hge.out] at HL1;go_wp2_with fail;(with_reducible refine HL1.mono ?_);rintro e w7 ⟨rfl,hb⟩;have hv3:=hv3.mono hb;have hvl:=hvl.mono hb;have uQ:=uQ.mono hb;have hE:=hE.mono hb;have hW:=hW.mono hb;have r2:=r2.below hb;have r13:=r13.below hb;have hbw:=bu hbw hb;clear hb;clear y0 y1 y2 y3 y4 y5 k0 k1 k2 k3 HL1;obtain ⟨y0,y1,y2,y3,y4,y5⟩:=r2.n6;obtain ⟨k0,k1,k2,k3⟩:=r13.n4;have HL1:=zeC _ _ ld ld w7 hvl hv3 HCl hE;rw [Hge.out] at HL1;go_wp2_with fail;(with_reducible refine HL1.mono ?_);rintro e w8 ⟨rfl,hb⟩;have hvl:=hvl.mono hb;have uQ:=uQ.mono hb;have hE:=hE.mono hb;have hW:=hW.mono hb;have r2:=r2.below hb;have hbw:=bu hbw hb;clear hb;clear y0 y1 y2 y3 y4 y5 k0 k1 k2 k3 HL1 r13 hv3;obtain ⟨y0,y1,y2,y3,y4,y5⟩:=r2.n6;rw [HQl.out] at y5;go_wp2_with fail;go_fit (zik g R S f cap Qs m ld _ aQ cQ w8 (by omega) (by omega) (by omega) (by omega) h16 HPv hW hvl uQ hE);rintro e w9 ⟨rfl,hb⟩;have hbw:=bu hbw hb;clear hb y0 y1 y2 y3 y4 y5;go_wp2;go_ret;exact ⟨rfl,hbw⟩
theorem FS.one {w:World} {b:Nat} {a:Option Addr} {l:List Nat} {c:Nat} {E:TypeId} (r:Row w b E [.slice a l.length c]) (hl:l.length<=c) (u:zaM w a l):FS w (some ⟨b,0,none⟩) [l]:=λ i x hi => by
 match i,hi with
 | 0,hi => cases hi; exact ⟨b,0,a,c,rfl,r.cell (k:=0) (by simp),hl,u⟩
 | i + 1,hi => simp at hi
def zj6 (l:List Nat):Bool:=l.all λ s => !l.any λ t => decide (s &&& t=0)
def zg8 (l:List Nat) (n:Int):Nat:=if setsE [l] ≠ 0 then setsE [l] else if n < 1\/12 < n\/2 ^ n.toNat<=zdJ l then 7 else if zj6 l=true then 0 else 12
def zoy (w':World) (l:List Nat) (n:Int) (e:Ending):Prop :=
 (zg8 l n ≠ 0/\e=.returned (.tuple #[.agg #[.bool false,.slice none 0 0,.bool false,.slice none 0 0],.agg #[.bool false,.slice none 0 0,.bool false,.slice none 0 0],.int .i64 (zg8 l n:Nat)])) \/
 (zg8 l n=0/\∃ J1 ao1 n1 Y1 K1 ap1 m1 Z1 J2 ao2 n2 Y2 K2 ap2 m2 Z2,e=.returned (.tuple #[.agg #[.bool J1,.slice ao1 n1 Y1,.bool K1,.slice ap1 m1 Z1],.agg #[.bool J2,.slice ao2 n2 Y2,.bool K2,.slice ap2 m2 Z2],.int .i64 0])/\zac w' (.agg #[.bool J1,.slice ao1 n1 Y1,.bool K1,.slice ap1 m1 Z1]) (Rat.divInt 1 (cnt (l.getD 0 0):Nat))/\zac w' (.agg #[.bool J2,.slice ao2 n2 Y2,.bool K2,.slice ap2 m2 Z2]) (Rat.divInt (cnt (l.getD 0 0):Nat) n))
theorem zlJ {x:Nat} (h:x < 65536) (h0:x ≠ 0):1<=cnt x:=by
 obtain ⟨i,hi,hb⟩:=zi1 (n:=16) h0 h;unfold cnt;have:0 < (List.range 16).countP (λ i => x.testBit i):=List.countP_pos_iff.2 ⟨i,List.mem_range.2 hi,hb⟩;omega
theorem zh9 {l:List Nat} (h:setsE [l]=0):zgY l=0/\∃ x r,l=x :: r/\x ≠ 0:=by
 unfold setsE zco zco at h
 by_cases h1:zgY l=0
 ·refine ⟨h1,?_⟩;simp [h1] at h
  cases l with
  | nil => simp [zbA] at h
  | cons x r => exact ⟨x,r,rfl,by simpa [zbA] using h⟩
 ·simp [h1] at h
theorem zhg {W:World} {g h:Nat} {y0 y1 y2 y3:Value}:zaf (λ b => b=g\/b=h) W ((((W.setCell ⟨g,0,none⟩ y0).setCell ⟨g,1,none⟩ y1).setCell ⟨g,2,none⟩ y2).setCell ⟨g,3,none⟩ y3) :=
 ((((zaf.refl W:zaf (λ b => b=g\/b=h) W W).setCell (p:=⟨g,0,none⟩) (.inl rfl) _).setCell (p:=⟨g,1,none⟩) (.inl rfl) _).setCell (p:=⟨g,2,none⟩) (.inl rfl) _).setCell (p:=⟨g,3,none⟩) (.inl rfl) _
theorem two_k' {W:World} {g h:Nat} {y0 y1 y2 y3:Value}:zaf (λ b => b=g\/b=h) W ((((W.setCell ⟨h,0,none⟩ y0).setCell ⟨h,1,none⟩ y1).setCell ⟨h,2,none⟩ y2).setCell ⟨h,3,none⟩ y3) :=
 ((((zaf.refl W:zaf (λ b => b=g\/b=h) W W).setCell (p:=⟨h,0,none⟩) (.inr rfl) _).setCell (p:=⟨h,1,none⟩) (.inr rfl) _).setCell (p:=⟨h,2,none⟩) (.inr rfl) _).setCell (p:=⟨h,3,none⟩) (.inr rfl) _
theorem zc6 {W:World} {g:Nat} {E:TypeId} {x0 x1 x2 x3:Value} (r:Row W g E [x0,x1,x2,x3]) (y0 y1 y2 y3:Value):Row ((((W.setCell ⟨g,0,none⟩ y0).setCell ⟨g,1,none⟩ y1).setCell ⟨g,2,none⟩ y2).setCell ⟨g,3,none⟩ y3) g E [y0,y1,y2,y3] :=
 (((r.set 0 y0).set 1 y1).set 2 y2).set 3 y3
theorem zc7 {W:World} {g h:Nat} {E:TypeId} {xs:List Value} (r:Row W h E xs) (hne:h ≠ g) (y0 y1 y2 y3:Value):Row ((((W.setCell ⟨g,0,none⟩ y0).setCell ⟨g,1,none⟩ y1).setCell ⟨g,2,none⟩ y2).setCell ⟨g,3,none⟩ y3) h E xs :=
 r.mono (zjV W g y0 y1 y2 y3) hne
theorem zmS {W:World} {g4 g5:Nat} (r4:Row W g4 32 [.bool false,.slice none 0 0,.bool false,.slice none 0 0]) (r5:Row W g5 32 [.bool false,.slice none 0 0,.bool false,.slice none 0 0]) (hne:g5 ≠ g4) :
  (W.cell? ⟨g4,0,none⟩=some (.bool false)/\W.cell? ⟨g4,1,none⟩=some (.slice none 0 0)/\W.cell? ⟨g4,2,none⟩=some (.bool false)/\W.cell? ⟨g4,3,none⟩=some (.slice none 0 0)) /\
  (∀ j,W.frozen? ⟨g4,j,none⟩=false) /\
  (((((((W.setCell ⟨g4,0,none⟩ (.bool false)).setCell ⟨g4,1,none⟩ (.slice none 0 0)).setCell ⟨g4,2,none⟩ (.bool false)).setCell ⟨g4,3,none⟩ (.slice none 0 0)).cell? ⟨g5,0,none⟩=some (.bool false)/\((((W.setCell ⟨g4,0,none⟩ (.bool false)).setCell ⟨g4,1,none⟩ (.slice none 0 0)).setCell ⟨g4,2,none⟩ (.bool false)).setCell ⟨g4,3,none⟩ (.slice none 0 0)).cell? ⟨g5,1,none⟩=some (.slice none 0 0)/\((((W.setCell ⟨g4,0,none⟩ (.bool false)).setCell ⟨g4,1,none⟩ (.slice none 0 0)).setCell ⟨g4,2,none⟩ (.bool false)).setCell ⟨g4,3,none⟩ (.slice none 0 0)).cell? ⟨g5,2,none⟩=some (.bool false)/\((((W.setCell ⟨g4,0,none⟩ (.bool false)).setCell ⟨g4,1,none⟩ (.slice none 0 0)).setCell ⟨g4,2,none⟩ (.bool false)).setCell ⟨g4,3,none⟩ (.slice none 0 0)).cell? ⟨g5,3,none⟩=some (.slice none 0 0))/\∀ j,((((W.setCell ⟨g4,0,none⟩ (.bool false)).setCell ⟨g4,1,none⟩ (.slice none 0 0)).setCell ⟨g4,2,none⟩ (.bool false)).setCell ⟨g4,3,none⟩ (.slice none 0 0)).frozen? ⟨g5,j,none⟩=false) /\
  Hid (Row ((((((((W.setCell ⟨g4,0,none⟩ (.bool false)).setCell ⟨g4,1,none⟩ (.slice none 0 0)).setCell ⟨g4,2,none⟩ (.bool false)).setCell ⟨g4,3,none⟩ (.slice none 0 0)).setCell ⟨g5,0,none⟩ (.bool false)).setCell ⟨g5,1,none⟩ (.slice none 0 0)).setCell ⟨g5,2,none⟩ (.bool false)).setCell ⟨g5,3,none⟩ (.slice none 0 0)) g4 32 [.bool false,.slice none 0 0,.bool false,.slice none 0 0])/\Hid (Row ((((((((W.setCell ⟨g4,0,none⟩ (.bool false)).setCell ⟨g4,1,none⟩ (.slice none 0 0)).setCell ⟨g4,2,none⟩ (.bool false)).setCell ⟨g4,3,none⟩ (.slice none 0 0)).setCell ⟨g5,0,none⟩ (.bool false)).setCell ⟨g5,1,none⟩ (.slice none 0 0)).setCell ⟨g5,2,none⟩ (.bool false)).setCell ⟨g5,3,none⟩ (.slice none 0 0)) g5 32 [.bool false,.slice none 0 0,.bool false,.slice none 0 0])):=by
 have X5:=zc7 r5 hne (.bool false) (.slice none 0 0) (.bool false) (.slice none 0 0);exact ⟨r4.n4,r4.free,⟨X5.n4,X5.free⟩,hii (zc7 (zc6 r4 _ _ _ _) (Ne.symm hne) _ _ _ _),hii (zc6 X5 _ _ _ _)⟩
theorem zhI (s t g:Nat) (w:World) (hs:s < 65536) (hc:w.cell? ⟨g,0,none⟩=some (.int .u16 (s:Nat))) :
  Calls Tryz.prog 39 #[.int .u16 (t:Nat),.pointer (some ⟨g,0,none⟩)] w λ e w' => e=.returned (.bool (decide (s &&& t=0)))/\BH w w':=by
 have e1:=zi6 s t hs;obtain ⟨z,hz⟩:∃ z,decide (s &&& t=0)=z:=⟨_,rfl⟩;have e2:(((s &&& t:Nat):Int) == 0)=z:=by rw [<- hz,Bool.eq_iff_iff,beq_iff_eq,decide_eq_true_iff]; omega
 rw [hz];clear hz;go_enter func39,ntmps39;go_wp2;go_ret;exact ⟨rfl,br⟩
theorem zjq (l:List Nat) (n:Int) (al:Option Addr) (cl:Nat) (w:World) (hl:l.length<=1000000) (hcl:l.length<=cl) (hn1:-9223372036854775808<=n) (hn2:n<=9223372036854775807) (ul:zaM w al l) (h16:Hid (zaJ l)) (hE:Env w) :
  Calls Tryz.prog 14 #[.slice al l.length cl,.int .i64 n] w λ e w' => zoy w' l n e/\BH w w':=by
 have hbw:=Below.refl w.heap.size w;obtain ⟨E,hE1⟩:∃ E,setsE [l]=E:=⟨_,rfl⟩;have HE1:=hii hE1;clear hE1;go_enter func14,ntmps14;go_upto_region 1 with fail;obtain ⟨wx,hwx,r4,r5,hb⟩:=zaO w 32 32 [.bool false,.slice none 0 0,.bool false,.slice none 0 0] [.bool false,.slice none 0 0,.bool false,.slice none 0 0];simp only [List.toArray] at hwx;rw [<- hwx];clear hwx;obtain ⟨wA,rfl⟩:=exi wx;obtain ⟨g5,hg5⟩:=exi (w.heap.size + 1);have Hg5:Hid (w.heap.size<=g5):=hii (by omega);rw [<- hg5] at r5 |-;have Hgx:=hii hg5;clear hg5;obtain ⟨g4,hg4⟩:=exi (w.heap.size);have Hg4:Hid (w.heap.size<=g4):=hii (by omega);rw [<- hg4] at r4 |-;have Hne:Hid (g5 ≠ g4):=hii (by have:=Hgx.out; omega);clear hg4 Hgx;have ul:=ul.mono hb;have hE:=hE.mono hb;have hbw:=bu hbw hb;clear hb;go_wp2_with fail;obtain ⟨wB,gs,hw9,hg9,hb,rs⟩:=bxr wA [.slice al l.length cl] 27;rw [<- hw9,<- hg9];have Hgs:Hid (w.heap.size<=gs):=hii (by have:=hbw.size; omega);clear hw9 hg9;have ul:=ul.mono hb;have hE:=hE.mono hb;have r4:=r4.below hb;have r5:=r5.below hb;have hbw:=bu hbw hb;clear hb;have HS:=zh8 [l] (some ⟨gs,0,none⟩) 1 wB (by simp) (FS.one rs hcl ul) (hii (by intro x hx; simp at hx; subst hx; exact ⟨by omega,h16.out⟩));rw [HE1.out,show [l].length=1 from rfl] at HS;(with_reducible refine HS.mono ?_);rintro e wC ⟨rfl,hb⟩;have ul:=ul.mono hb;have hE:=hE.mono hb;have r4:=r4.below hb;have r5:=r5.below hb;have hbw:=bu hbw hb;clear hb;clear HS rs
 by_cases hE0:E=0
 case neg =>
  have hEn:((E:Int) != 0)=true:=by simp; omega
  have HBE:Hid (zg8 l n=E):=hii (by unfold zg8; rw [HE1.out,if_pos hE0]);have HEn:Hid (E ≠ 0):=hii hE0;clear hE0;obtain ⟨⟨p0,p1,p2,p3⟩,q0,⟨⟨v0,v1,v2,v3⟩,q4⟩,R9,R5⟩:=zmS r4 r5 Hne.out;have hne1:=Hne.out;have hne2:=Ne.symm Hne.out;have HB9:=hii hbw;go_wp2;obtain ⟨e0,e1,e2,e3⟩:=Row.n4 R9.out;obtain ⟨f0,f1,f2,f3⟩:=Row.n4 R5.out;refine bodyPost_ret (v:=.tuple #[.agg #[.bool false,.slice none 0 0,.bool false,.slice none 0 0],.agg #[.bool false,.slice none 0 0,.bool false,.slice none 0 0],.int .i64 ((E:Nat))]) (by simp [results,Tryz.results14,go_sem,e0,e1,e2,e3,f0,f1,f2,f3]) rfl ⟨.inl ⟨by rw [HBE.out]; exact HEn.out,by rw [HBE.out]⟩,?_⟩;exact HB9.out.trans ((zhg.trans two_k').below (λ b e => by rcases e with rfl | rfl <;> first | exact Hg4.out | exact Hg5.out) HB9.out.size)
 subst hE0;obtain ⟨hfam,x0,r0,hlx,hx0⟩:=zh9 HE1.out;have HB:Hid (zg8 l n=if n < 1\/12 < n\/2 ^ n.toNat<=zdJ l then 7 else if zj6 l=true then 0 else 12):=hii (by unfold zg8; rw [HE1.out,if_neg (by simp)]);have Hlx:=hii hlx;have Hx0:=hii hx0;clear hlx hx0 hfam
 by_cases hn1':n < 1
 ·have HBE:Hid (zg8 l n=7):=hii (by rw [HB.out,if_pos (.inl hn1')]);have hd:decide (n < 1)=true:=decide_eq_true hn1';clear HB;obtain ⟨⟨p0,p1,p2,p3⟩,q0,⟨⟨v0,v1,v2,v3⟩,q4⟩,R9,R5⟩:=zmS r4 r5 Hne.out;have hne1:=Hne.out;have hne2:=Ne.symm Hne.out;have HB9:=hii hbw;go_wp2;obtain ⟨e0,e1,e2,e3⟩:=Row.n4 R9.out;obtain ⟨f0,f1,f2,f3⟩:=Row.n4 R5.out;refine bodyPost_ret (v:=.tuple #[.agg #[.bool false,.slice none 0 0,.bool false,.slice none 0 0],.agg #[.bool false,.slice none 0 0,.bool false,.slice none 0 0],.int .i64 (7)]) (by simp [results,Tryz.results14,go_sem,e0,e1,e2,e3,f0,f1,f2,f3]) rfl ⟨.inl ⟨by rw [HBE.out]; decide,by rw [HBE.out]; rfl⟩,?_⟩;exact HB9.out.trans ((zhg.trans two_k').below (λ b e => by rcases e with rfl | rfl <;> first | exact Hg4.out | exact Hg5.out) HB9.out.size)
 have hd1:decide (n < 1)=false:=decide_eq_false hn1'
 by_cases hn12:12 < n
 ·have HBE:Hid (zg8 l n=7):=hii (by rw [HB.out,if_pos (.inr (.inl hn12))]);have hd:decide (12 < n)=true:=decide_eq_true hn12;clear HB;obtain ⟨⟨p0,p1,p2,p3⟩,q0,⟨⟨v0,v1,v2,v3⟩,q4⟩,R9,R5⟩:=zmS r4 r5 Hne.out;have hne1:=Hne.out;have hne2:=Ne.symm Hne.out;have HB9:=hii hbw;go_wp2;obtain ⟨e0,e1,e2,e3⟩:=Row.n4 R9.out;obtain ⟨f0,f1,f2,f3⟩:=Row.n4 R5.out;refine bodyPost_ret (v:=.tuple #[.agg #[.bool false,.slice none 0 0,.bool false,.slice none 0 0],.agg #[.bool false,.slice none 0 0,.bool false,.slice none 0 0],.int .i64 (7)]) (by simp [results,Tryz.results14,go_sem,e0,e1,e2,e3,f0,f1,f2,f3]) rfl ⟨.inl ⟨by rw [HBE.out]; decide,by rw [HBE.out]; rfl⟩,?_⟩;exact HB9.out.trans ((zhg.trans two_k').below (λ b e => by rcases e with rfl | rfl <;> first | exact Hg4.out | exact Hg5.out) HB9.out.size)
 have hd2:decide (12 < n)=false:=decide_eq_false hn12;obtain ⟨k,rfl⟩:∃ k:Nat,n=(k:Int):=⟨n.toNat,by omega⟩;rw [Int.toNat_natCast] at HB;have hk1:1<=k/\k<=12:=by omega
 have hk12:k<=12:=hk1.2;have hk64:(k:Int) < 64:=by omega
 clear hn1 hn2;obtain ⟨u,hu⟩:∃ u,zdJ l=u:=⟨_,rfl⟩;have HSu:=zcW l al cl wC (by omega) ul h16;rw [hu] at HSu HB;clear hu;have ey:(u:Int) / 2 ^ k=((u / 2 ^ k:Nat):Int):=by push_cast; rfl
 go_wp2_with fail;(with_reducible refine HSu.mono ?_);rintro e wD ⟨rfl,hb⟩;have ul:=ul.mono hb;have hE:=hE.mono hb;have r4:=r4.below hb;have r5:=r5.below hb;have hbw:=bu hbw hb;clear hb;clear HSu
 by_cases hu2:2 ^ k<=u
 ·have HBE:Hid (zg8 l k=7):=hii (by rw [HB.out,if_pos (.inr (.inr hu2))]);have hy:((u / 2 ^ k:Nat):Int) ≠ 0:=by
   have:=Nat.div_pos hu2 (Nat.two_pow_pos k);omega
  obtain ⟨y,hyy⟩:∃ y:Nat,u / 2 ^ k=y:=⟨_,rfl⟩;rw [hyy] at ey hy;have hyn:((y:Int) != 0)=true:=by simp; omega
  clear HB hu2 hyy;obtain ⟨⟨p0,p1,p2,p3⟩,q0,⟨⟨v0,v1,v2,v3⟩,q4⟩,R9,R5⟩:=zmS r4 r5 Hne.out;have hne1:=Hne.out;have hne2:=Ne.symm Hne.out;have HB9:=hii hbw;go_wp2;obtain ⟨e0,e1,e2,e3⟩:=Row.n4 R9.out;obtain ⟨f0,f1,f2,f3⟩:=Row.n4 R5.out;refine bodyPost_ret (v:=.tuple #[.agg #[.bool false,.slice none 0 0,.bool false,.slice none 0 0],.agg #[.bool false,.slice none 0 0,.bool false,.slice none 0 0],.int .i64 (7)]) (by simp [results,Tryz.results14,go_sem,e0,e1,e2,e3,f0,f1,f2,f3]) rfl ⟨.inl ⟨by rw [HBE.out]; decide,by rw [HBE.out]; rfl⟩,?_⟩;exact HB9.out.trans ((zhg.trans two_k').below (λ b e => by rcases e with rfl | rfl <;> first | exact Hg4.out | exact Hg5.out) HB9.out.size)
 obtain ⟨y,hyy⟩:∃ y:Nat,u / 2 ^ k=y:=⟨_,rfl⟩;have hy0:y=0:=by rw [<- hyy]; exact Nat.div_eq_of_lt (by omega)
 rw [hyy] at ey;have hyn:((y:Int) != 0)=false:=by simp; omega
 have HB:Hid (zg8 l k=if zj6 l=true then 0 else 12):=hii (by rw [HB.out,if_neg (by omega)]);obtain ⟨N,hN⟩:∃ N,l.length=N:=⟨_,rfl⟩;have HN:=hii hN;have hNl:N<=1000000:=by rw [<- hN]; exact hl
 have eg:∀ args w,(callFunc 39 args).run Tryz.prog w=.ok (.enter 39 args) w:=enters_of func39 (by kernel_rfl) rfl;have HCF:Hid (∀ (s g:Nat) (W:World),s < 65536->zaM W al l->W.cell? ⟨g,0,none⟩=some (.int .u16 (s:Nat))->Calls Tryz.prog 38 #[.slice al l.length cl,.func (.func 39) #[] #[.pointer (some ⟨g,0,none⟩)]] W λ e w' => e=.returned (.bool (l.any λ t => decide (s &&& t=0)))/\BH W w'):=hii λ s g W hs hu hc =>
  zcM 39 #[.pointer (some ⟨g,0,none⟩)] (λ t => decide (s &&& t=0)) eg l al cl W (by omega) hu (λ t W' _ hb => zhI s t g W' hs ((hb.cell (zag hc)).trans hc))
 rw [hN] at HCF |-;clear hN eg hn1' hn12 hu2 hyy hy0;have hbr:=Below.refl wD.heap.size wD;go_wp2_with fail;clear ey hyn;go_loopw [40] (λ s wr => ∃ j:Nat,j<=N/\s=.int .i64 j/\Hid ((l.take j).all (λ s => !l.any λ t => decide (s &&& t=0))=true)/\Hid (BH wD wr)) (λ s _ => N - (intOf s).toNat)
 case atStart => exact ⟨0,Nat.zero_le _,rfl,hii (by simp),hii hbr⟩
 case round =>
  clear hbr;obtain ⟨j,hj,rfl,HA,Hbr⟩:=hrel
  by_cases hlj:j < N
  ·obtain ⟨s,hx⟩:∃ x,l[j]?=some x:=⟨l[j]'(by rw [HN.out]; exact hlj),gE _⟩;have hs16:=h16.out s (List.mem_of_getElem? hx);have ulr:=ul.mono Hbr.out;obtain ⟨b1,off1,ea,hc⟩:=ulr j s hx;have HT:Hid ((l.take (j + 1)).all (λ s => !l.any λ t => decide (s &&& t=0))=!l.any λ t => decide (s &&& t=0)):=hii (by rw [zaH hx,List.all_append,HA.out]; simp);have HM:Hid (s∈l):=hii (List.mem_of_getElem? hx);have hjN:(j:Int) < (N:Int):=by omega
   obtain ⟨b,hb9⟩:∃ b,(l.any λ t => decide (s &&& t=0))=b:=⟨_,rfl⟩;have hC:=λ g W h1 h2 => HCF.out s g W hs16 h1 h2
   rw [hb9] at HT hC;have HC:=hii hC;have Hb9:=hii hb9;have r4r:=r4.below Hbr.out;have r5r:=r5.below Hbr.out;subst ea;clear hx hb9 hC HA;go_upto_region 9 with fail;have hb:=bA wr (.cells #[.int .u16 (s:Nat)] 52);have r9:Row (wr.alloc (.cells #[.int .u16 (s:Nat)] 52)) wr.heap.size 52 [.int .u16 (s:Nat)]:=heap_alloc_new _ _;obtain ⟨g9,hgg⟩:∃ g,g=wr.heap.size:=⟨_,rfl⟩;rw [<- hgg] at r9 |-;clear hgg hc;generalize wr.alloc (.cells #[.int .u16 (s:Nat)] 52)=wc at *;have Hbr:=hii (Below.step Hbr.out hb nl);clear hb;have HC:=hii (HC.out g9 wc (ul.mono Hbr.out) (r9.cell (k:=0) (by simp)));go_wp2_with fail;(with_reducible refine HC.out.mono ?_);rintro e wd ⟨rfl,hb⟩;have Hbr:=hii (Below.step Hbr.out hb nl);clear hb HC
   cases b with
   | true =>
    have HBE:Hid (zg8 l k=12):=hii (by
     rw [HB.out,if_neg];unfold zj6;rw [Bool.not_eq_true,List.all_eq_false];exact ⟨s,HM.out,by rw [Hb9.out]; simp⟩)
    have r4:=r4.below Hbr.out;have r5:=r5.below Hbr.out;have hbw:=Below.step hbw Hbr.out nl;clear HB HT HM r4r r5r;obtain ⟨⟨p0,p1,p2,p3⟩,q0,⟨⟨v0,v1,v2,v3⟩,q4⟩,R9,R5⟩:=zmS r4 r5 Hne.out;have hne1:=Hne.out;have hne2:=Ne.symm Hne.out;have HB9:=hii hbw;go_wp2;obtain ⟨e0,e1,e2,e3⟩:=Row.n4 R9.out;obtain ⟨f0,f1,f2,f3⟩:=Row.n4 R5.out;refine bodyPost_ret (v:=.tuple #[.agg #[.bool false,.slice none 0 0,.bool false,.slice none 0 0],.agg #[.bool false,.slice none 0 0,.bool false,.slice none 0 0],.int .i64 (12)]) (by simp [results,Tryz.results14,go_sem,e0,e1,e2,e3,f0,f1,f2,f3]) rfl ⟨.inl ⟨by rw [HBE.out]; decide,by rw [HBE.out]; rfl⟩,?_⟩;exact HB9.out.trans ((zhg.trans two_k').below (λ b e => by rcases e with rfl | rfl <;> first | exact Hg4.out | exact Hg5.out) HB9.out.size)
   | false =>
    have HT:Hid ((l.take (j + 1)).all (λ s => !l.any λ t => decide (s &&& t=0))=true):=HT;go_wp2;go_roundw
    case rel => exact ⟨j + 1,by omega,by go_num,HT,Hbr⟩
    case measure => simp [intOf]; omega
  ·have hjN:j=N:=by omega
   have HBE:Hid (zg8 l k=0):=hii (by
    rw [HB.out,if_pos];have h:=HA.out;rw [hjN,List.take_of_length_le (by rw [HN.out]; exact nl)] at h;exact h)
   have hjn:¬ (j:Int) < (N:Int):=by omega
   have ulr:=ul.mono Hbr.out;have hEr:=hE.mono Hbr.out;have r4:=r4.below Hbr.out;have r5:=r5.below Hbr.out;have hbw:=Below.step hbw Hbr.out nl;obtain ⟨b1,off1,ea,hc⟩:=ulr 0 x0 (by rw [Hlx.out]; rfl);rw [Nat.add_zero] at hc;have hN1:(0:Int) < (N:Int):=by rw [<- HN.out,Hlx.out]; simp <;> omega
   have hx16:=h16.out x0 (by rw [Hlx.out]; simp);have Hgd:Hid (l.getD 0 0=x0):=hii (by rw [Hlx.out]; rfl);have hcn:=zlJ hx16 Hx0.out;have hcl16:=zd7 x0;have HOC:=zbv x0 hx16 wr;obtain ⟨c,hcc⟩:∃ c,cnt x0=c:=⟨_,rfl⟩;have Hcc:=hii hcc;rw [hcc] at HOC hcn hcl16;subst ea;clear hcc HA HB HCF hjN hlj ulr;go_wp2_with fail;(with_reducible refine HOC.mono ?_);rintro e wc ⟨rfl,hb⟩;have hE2:=hEr.mono hb;have r4:=r4.below hb;have r5:=r5.below hb;have hbw:=bu hbw hb;clear hb;clear HOC hc hjn;go_wp2_with fail;go_fit (zl4 1 (c:Nat) wc (by decide) (by decide) (by omega) (by omega) (hii (by omega)) hE2);rintro e wd ⟨hz,hb⟩;obtain ⟨J1,ao1,n1,Y1,K1,ap1,m1,Z1,rfl,hv1⟩:=hz.rat;have hE2:=hE2.mono hb;have r4:=r4.below hb;have r5:=r5.below hb;have hbw:=bu hbw hb;clear hb;clear hz;go_upto_region 14 with fail;obtain ⟨we,g11,hw9,hg9,hb,r11⟩:=bxr wd [.bool J1,.slice ao1 n1 Y1,.bool K1,.slice ap1 m1 Z1] 32;rw [<- hw9,<- hg9];have Hg11:Hid (g4 < g11/\g5 < g11):=hii (by have:=r4.lt; have:=r5.lt; omega);clear hw9 hg9;have hv1:=hv1.mono hb;have hE2:=hE2.mono hb;have r4:=r4.below hb;have r5:=r5.below hb;have hbw:=bu hbw hb;clear hb;go_wp2_with fail;go_fit (zl4 (c:Nat) (k:Nat) we (by omega) (by omega) (by omega) (by omega) (hii (by omega)) hE2);rintro e wf ⟨hz,hb⟩;obtain ⟨J2,ao2,n2,Y2,K2,ap2,m2,Z2,rfl,hv2⟩:=hz.rat;have hv1:=hv1.mono hb;have r4:=r4.below hb;have r5:=r5.below hb;have r11:=r11.below hb;have hbw:=bu hbw hb;clear hb;clear hz hE2 hEr;go_upto_region 15 with fail;obtain ⟨wh,g13,hw9,hg9,hb,r13⟩:=bxr wf [.bool J2,.slice ao2 n2 Y2,.bool K2,.slice ap2 m2 Z2] 32;rw [<- hw9,<- hg9];have Hg13:Hid (g4 < g13/\g5 < g13):=hii (by have:=r4.lt; have:=r5.lt; omega);clear hw9 hg9;have hv1:=hv1.mono hb;have hv2:=hv2.mono hb;have r4:=r4.below hb;have r5:=r5.below hb;have r11:=r11.below hb;have hbw:=bu hbw hb;clear hb;obtain ⟨wi,rfl⟩:=exi wh;have H11:Hid (¬ (λ b => b=g4\/b=g5) g11):=hii (λ h => by have:=Hg11.out; rcases h with h | h <;> omega);have H13:Hid (¬ (λ b => b=g4\/b=g5) g13):=hii (λ h => by have:=Hg13.out; rcases h with h | h <;> omega);have Hn:Hid (NoU (λ b => b=g4\/b=g5) wi):=hii (λ b hb => hb.elim (λ e => r4.noU noI4' b e) (λ e => r5.noU noI4' b e));refine zaY (G:=(λ b => b=g4\/b=g5)) (wx:=wi) [vf (.agg #[.bool J1,.slice ao1 n1 Y1,.bool K1,.slice ap1 m1 Z1]),vf (.agg #[.bool J2,.slice ao2 n2 Y2,.bool K2,.slice ap2 m2 Z2]),(λ _ _ => True),(λ _ _ => True),vf (.int .i64 0)] [some 65,some 66,none,none,some 6] [65,66,6] [2,3] [[0],[0,1],[0],[1],[2]] [none,none,none,none,none] (λ p T W => match p with | 0 => Row W g4 32 [.bool false,.slice none 0 0,.bool false,.slice none 0 0]/\Row W g5 32 [.bool false,.slice none 0 0,.bool false,.slice none 0 0] | 1 => Row W g4 32 [.bool J1,.slice ao1 n1 Y1,.bool K1,.slice ap1 m1 Z1]/\Row W g5 32 [.bool false,.slice none 0 0,.bool false,.slice none 0 0] | _ + 2 => Row W g4 32 [.bool J1,.slice ao1 n1 Y1,.bool K1,.slice ap1 m1 Z1]/\Row W g5 32 [.bool J2,.slice ao2 n2 Y2,.bool K2,.slice ap2 m2 Z2]) (by kernel_rfl) (by kernel_rfl) (by kernel_rfl) (by kernel_rfl) (of_decide_eq_true (by kernel_rfl)) (of_decide_eq_true (by kernel_rfl)) (by kernel_rfl) (by kernel_rfl) (λ T => ⟨r4.below br.drew,r5.below br.drew⟩) (λ p T W W' h hb => match p,h with | 0,h => ⟨h.1.below hb,h.2.below hb⟩ | 1,h => ⟨h.1.below hb,h.2.below hb⟩ | _ + 2,h => ⟨h.1.below hb,h.2.below hb⟩) (λ p T T' W hT h => match p,hT,h with | 0,_,h => h | 1,_,h => h | _ + 2,_,h => h) (zaf.refl _) ⟨zaa _ _,zaa _ _,(λ _ _ _ h _ => h),(λ _ _ _ h _ => h),zaa _ _,trivial⟩ ⟨?s0,?s1,?s2,?s3,?s4,trivial⟩ ?he
   case' s0 | s1 | s2 | s3 | s4 =>
    rintro T W p hb hp hS hA K hK
   case' s0 =>
    clear hS;obtain ⟨k0,k1,k2,k3⟩:=(r11.mono hb H11.out).n4;simp only [sA] at hK |-
   case' s1 =>
    clear hS;obtain ⟨k0,k1,k2,k3⟩:=(r13.mono hb H13.out).n4;simp only [sA] at hK |-
   case' s4 =>
    clear hS;simp only [sA] at hK |-
   case s0 | s1 | s4 =>
    have HK:=hii hK;clear hK hA;refine wO rfl (by rfl) ?_;go_simp;exact HK.out _ _ ⟨λ _ => br,λ h => absurd h (zap (by decide) (by decide))⟩ (rfl)
   case s2 =>
    obtain rfl:p=0:=by simpa using hp
    have hS:Row W g4 32 [.bool false,.slice none 0 0,.bool false,.slice none 0 0]/\Row W g5 32 [.bool false,.slice none 0 0,.bool false,.slice none 0 0]:=hS;have e0:T 65=_:=hA.1 rfl;obtain ⟨p0,p1,p2,p3⟩:=Row.n4 hS.1;have q0:=Row.free hS.1;simp only [sA,e0] at hK |-;have HK:=hii hK;clear hK hA;refine wO rfl (by rfl) ?_;go_simp;exact HK.out undef _ ⟨λ h => absurd rfl h,λ _ => ⟨⟨zc6 hS.1 _ _ _ _,zc7 hS.2 Hne.out _ _ _ _⟩,zhg⟩⟩ (trivial)
   case s3 =>
    obtain rfl:p=1:=by simpa using hp
    have hS:Row W g4 32 [.bool J1,.slice ao1 n1 Y1,.bool K1,.slice ap1 m1 Z1]/\Row W g5 32 [.bool false,.slice none 0 0,.bool false,.slice none 0 0]:=hS;have e1:T 66=_:=hA.1 rfl;obtain ⟨p0,p1,p2,p3⟩:=Row.n4 hS.2;have q0:=Row.free hS.2;simp only [sA,e1] at hK |-;have HK:=hii hK;clear hK hA;refine wO rfl (by rfl) ?_;go_simp;exact HK.out undef _ ⟨λ h => absurd rfl h,λ _ => ⟨⟨zc7 hS.1 (Ne.symm Hne.out) _ _ _ _,zc6 hS.2 _ _ _ _⟩,two_k'⟩⟩ (trivial)
   case he =>
    rintro T W hb hS hA;have hS:Row W g4 32 [.bool J1,.slice ao1 n1 Y1,.bool K1,.slice ap1 m1 Z1]/\Row W g5 32 [.bool J2,.slice ao2 n2 Y2,.bool K2,.slice ap2 m2 Z2]:=hS;have f4:T 6=.int .i64 0:=hA.at 4 (by decide) rfl;simp only [sA,f4];obtain ⟨R4,R5⟩:=hS;have HV1:=hii (hv1.keptU hb Hn.out);have HV2:=hii (hv2.keptU hb Hn.out);have Hbw:=hii (hbw.trans (hb.below (λ b e => by rcases e with rfl | rfl <;> first | exact Hg4.out | exact Hg5.out) hbw.size));clear hA f4 hb;obtain ⟨e0,e1,e2,e3⟩:=Row.n4 R4;obtain ⟨f0,f1,f2,f3⟩:=Row.n4 R5;go_wp2;refine bodyPost_ret (v:=.tuple #[.agg #[.bool J1,.slice ao1 n1 Y1,.bool K1,.slice ap1 m1 Z1],.agg #[.bool J2,.slice ao2 n2 Y2,.bool K2,.slice ap2 m2 Z2],.int .i64 0]) (by simp [results,Tryz.results14,go_sem,e0,e1,e2,e3,f0,f1,f2,f3]) rfl ⟨.inr ⟨HBE.out,_,_,_,_,_,_,_,_,_,_,_,_,_,_,_,_,rfl,?_,?_⟩,Hbw.out⟩
    ·rw [Hgd.out,Hcc.out]; exact HV1.out
    ·rw [Hgd.out,Hcc.out]; exact HV2.out
end Go.Proofs.YtfgffkmddanjjaaGreatDoor
