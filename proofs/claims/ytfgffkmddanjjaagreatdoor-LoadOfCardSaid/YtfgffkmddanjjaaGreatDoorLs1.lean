/-
  Loads, plain: a balance's shares and prices lead to small numbers only; their positions ascend.
-/
import Derived.Test.YtfgffkmddanjjaaGreatDoorLo
import Derived.Test.YtfgffkmddanjjaaGreatDoorLm
import Derived.Test.YtfgffkmddanjjaaGreatDoorQ5
set_option linter.unusedVariables false
set_option linter.unusedSimpArgs false
set_option maxRecDepth 100000
set_option maxHeartbeats 25600000
namespace Go.Proofs.YtfgffkmddanjjaaGreatDoor
open _root_.Go.Proofs.Tryz
open Go.RowKit
variable {D:Int} {l:List (Nat × Nat)} {M N g h i:Nat} {p:Nat->Rat} {y0 y1 y2 y3:Vl} {W:Wo}
theorem zn3{R S:LN}(hR:R.Pairwise (λa b=>bef a b=true))(hS:S.Pairwise (λa b=>bef a b=true)):(prs R S).Pairwise (λa b=>a≠b):=by
 unfold prs;rw[List.pairwise_flatMap];refine⟨λr _=>?_,hR.imp λ{a b} hab x hx y hy e=>?_⟩
 ·rw[List.pairwise_map];exact hS.imp λ{a b} hab e=>by
   have:a=b:=congrArg Prod.snd e;rw[this,zbk]at hab;cases hab
 ·obtain⟨s,_,rfl⟩:=List.mem_map.1 hx;obtain⟨t,_,rfl⟩:=List.mem_map.1 hy;have:a=b:=congrArg Prod.fst e;rw[this,zbk]at hab;cases hab
theorem zmO(h:l.Pairwise (λa b=>a≠b)){k:Nat}{q:Nat×Nat}(hk:l[k]?=some q):zeC (λp=>decide (p=q)) l=(k:Int):=by
 refine zcp hk (decide_eq_true rfl) λx hx=>decide_eq_false λe=>?_
 subst e;obtain⟨i,hi,he⟩:=List.mem_take_iff_getElem.1 hx;obtain⟨hkl,hke⟩:=List.getElem?_eq_some_iff.1 hk;have:=List.pairwise_iff_getElem.1 h i k oM hkl oM;exact this (he.trans hke.symm)
def zfX:List Rat->Nat->LN
 |[],_=>[]
 |x :: P,k=>if 0<x then k :: zfX P (k+1)else zfX P (k+1)
theorem zgP:∀(P:List Rat)(k:Nat),∀i∈zfX P k,k<=i
 |[],_,i,h=>by simp[zfX]at h
 |x :: P,k,i,h=>by
  simp only[zfX]at h
  split at h
  ·rcases List.mem_cons.1 h with rfl|h
   ·exact nl
   ·have:=zgP P (k+1) i h;omega
  ·have:=zgP P (k+1) i h;omega
theorem zdO:∀(P:List Rat)(k:Nat),(zfX P k).Pairwise (· < ·)
 |[],_=>by simp[zfX]
 |x :: P,k=>by
  simp only[zfX]
  split
  ·exact List.pairwise_cons.2 ⟨λi hi=>zgP P (k+1) i hi,zdO P (k+1)⟩
  ·exact zdO P (k+1)
theorem ze5:∀(l0 l:List (Nat×Nat))(P:List Rat)(j:Nat)(s:(Nat×Nat)×Rat),(shs l P)[j]?=some s->∃k,(zfX P l0.length)[j]?=some k/\(l0++l)[k]?=some s.1/\0<s.2
 |l0,[],P,j,s,h=>by cases P<;>simp[shs]at h
 |l0,q :: l,[],j,s,h=>by simp[shs]at h
 |l0,q :: l,x :: P,j,s,h=>by
  have ih:=λj s h=>ze5 (l0++[q]) l P j s h
  simp only[List.length_append,List.length_cons,List.length_nil,Nat.zero_add,List.append_assoc,List.singleton_append]at ih;simp only[shs]at h;simp only[zfX]
  split at h
  ·next hx=>
   rw[if_pos hx]
   cases j with
   |zero=>
    simp at h;subst h;exact⟨l0.length,rfl,sM,hx⟩
   |succ j=>exact ih j s (by simpa using h)
  ·next hx=>
   rw[if_neg hx];exact ih j s h
theorem zmn(h:l.Pairwise (λa b=>a≠b))(P:List Rat):zpB l (shs l P):=by
 refine⟨λj=>(zfX P 0).getD j 0,λj s hs=>?_,λj hj=>?_⟩
 ·obtain⟨k,h1,h2,h3⟩:=ze5 [] l P j s hs;refine⟨?_,h3⟩
  show zeC _ l=(((zfX P 0).getD j 0:Nat):Int)
  rw[List.getD_eq_getElem?_getD,show(zfX P 0)[j]?=some k from h1];exact zmO h (by simpa using h2)
 ·obtain⟨k,h1,_,_⟩:=ze5 [] l P j _ (gE (show j<(shs l P).length by omega));obtain⟨k',h1',_,_⟩:=ze5 [] l P (j+1) _ (gE hj)
  show(zfX P 0).getD j 0<(zfX P 0).getD (j+1) 0
  have h1:(zfX P 0)[j]?=some k:=h1;have h1':(zfX P 0)[j+1]?=some k':=h1';rw[List.getD_eq_getElem?_getD,List.getD_eq_getElem?_getD,h1,h1'];obtain⟨a1,a2⟩:=List.getElem?_eq_some_iff.1 h1;obtain⟨b1,b2⟩:=List.getElem?_eq_some_iff.1 h1';have:=List.pairwise_iff_getElem.1 (zdO P 0) j (j+1) a1 b1 oM;rw[a2,b2]at this;exact this
theorem zgX:∀(l:List Rat),(∀x∈l,Sx.Wh (x*(D:Rat)) N)->Sx.Wh (zbc l*(D:Rat)) (l.length*N)
 |[],_=>by show Sx.Wh ((0:Rat)*(D:Rat)) _;rw[Rat.zero_mul];exact Sx.wh_zero.mono (Nat.zero_le _)
 |x :: l,h=>by
  have h1:=h x sM;have h2:=zgX l λy hy=>h y (by simp[hy])
  show Sx.Wh ((x+zbc l)*(D:Rat)) _
  rw[Rat.add_mul];refine(h1.add h2).mono ?_;rw[List.length_cons,Nat.add_mul];omega
structure DN(D:Int)(M:Nat):Prop where
 ne:D≠0
 le:D.natAbs*12<=KK
 big:20*(M*96)<=KK
theorem DN.kb(d:DN D M){x:Rat}(h:Sx.Wh (x*(D:Rat)) M):Kb 1 x:=zcs d.ne (by have:=d.le;omega) h (by have:=d.big;omega)
theorem DN.ne12(d:DN D M):D*12≠0:=by have:=d.ne;omega
theorem DN.prod{x t:Rat}(hx:Sx.Wh (x*(D:Rat)) M)(ht:Sx.Wh (t*((12:Nat):Rat)) 96):Sx.Wh (x*t*((D*12:Int):Rat)) (M*96):=by
 have e:x*t*((D*12:Int):Rat)=x*(D:Rat)*(t*((12:Nat):Rat)):=by
  rw[Rat.intCast_mul];have:((12:Int):Rat)=((12:Nat):Rat):=rfl;rw[this];grind
 rw[e];exact hx.mul ht
theorem DN.sum(d:DN D M){l:List Rat}(hl:l.length<=20)(h:∀x∈l,Sx.Wh (x*((D*12:Int):Rat)) (M*96)):Kb 1 (zbc l):=by
 have h1:=zgX l h;have h2:l.length*(M*96)<=20*(M*96):=Nat.mul_le_mul_right _ hl;have:=d.le;refine zcs d.ne12 (by rw[Int.natAbs_mul];simpa using this) h1 (by have:=d.big;omega)
theorem DN.sum1(d:DN D M){l:List Rat}(hl:l.length<=20)(h:∀x∈l,Sx.Wh (x*(D:Rat)) M):Kb 1 (zbc l):=by
 have h1:=zgX l h;have h2:l.length*M<=20*M:=Nat.mul_le_mul_right _ hl;have:=d.le;have:=d.big;exact zcs d.ne oM h1 oM
theorem kb0:Kb 1 0:=zbQ (Sx.wh_zero.mono (Nat.zero_le 1)) dM
theorem kb1:Kb 1 1:=zbQ zei dM
structure ShD(D:Int)(M:Nat)(sh:List ((Nat×Nat)×Rat)):Prop where
 dn:DN D M
 len:sh.length<=20
 pos:∀s∈sh,0<=s.2
 wh:∀s∈sh,Sx.Wh (s.2*(D:Rat)) M
section
variable {R S : LN} {f : Rat} {cap : List Rat} {m : Nat} {D : Int} {M : Nat} {sh : List ((Nat × Nat) × Rat)}
theorem ShD.sumO(h:ShD D M sh)(n:Nat):sumO ((sh.take n).map (·.2))=some (zbc ((sh.take n).map (·.2))):=by
 induction n with
 |zero=>rfl
 |succ n ih=>
  rcases Nat.lt_or_ge n sh.length with hn|hn
  ·have hx:=gE hn;have hm:=List.getElem_mem hn;rw[zaw hx,List.map_append,List.map_cons,List.map_nil,zcO,ih,zbf];refine zdE ((h.dn.sum1 (by simp;have:=h.len;omega) λx hx=>?_).addS (h.dn.kb (h.wh _ hm)) dM);obtain⟨s,hs,rfl⟩:=List.mem_map.1 hx;exact h.wh s (List.mem_of_mem_take hs)
  ·rw[List.take_of_length_le hn]at ih;rw[List.take_of_length_le oM];exact ih
theorem ShD.parts(h:ShD D M sh):zav ((shQ sh).map (·.2))=zjB (some (zbc (sh.map (·.2)))):=by
 have e:(shQ sh).map (·.2)=sh.map λs=>(some s.2:Qo):=by unfold shQ;rw[List.map_map];rfl
 have e2:(sh.map λs=>(some s.2:Qo)).map zeb=sh.map (·.2):=by rw[List.map_map];rfl
 have h2:=h.sumO sh.length;rw[List.take_length]at h2;unfold zav;rw[e,e2,if_neg,h2];rw[Bool.not_eq_true,List.any_eq_false];intro o ho;obtain⟨s,hs,rfl⟩:=List.mem_map.1 ho;have:=h.pos s hs;simp[ziM,Rat.not_lt.2 this]
theorem zlY(f:Rat)(cap:List Rat)(sh:List ((Nat×Nat)×Rat)):∀i,mxS f cap sh i=0\/∃j,j<i/\mxS f cap sh i=tS f sh j / cap.getD j 0
 |0=>.inl rfl
 |i+1=>by
  show(if mxS f cap sh i<tS f sh i / cap.getD i 0 then tS f sh i / cap.getD i 0 else mxS f cap sh i)=0\/_
  simp only[mxS]
  split
  ·exact .inr ⟨i,oM,rfl⟩
  ·rcases zlY f cap sh i with h|⟨j,hj,h⟩
   ·exact .inl h
   ·exact .inr ⟨j,oM,h⟩
theorem WkM.cap_at(W:WkM R S f cap m){i:Nat}(hi:i<m):∃c,cap[i]?=some c/\cap.getD i 0=c/\0<c/\Kb 1 c/\c.num≠0:=by
 have hi':i<cap.length:=by rw[W.lc];exact hi
 refine⟨cap[i],gE hi',by rw[List.getD_eq_getElem?_getD,gE hi'];rfl,W.pc _ (List.getElem_mem hi'),zcs (D:=((12:Nat):Int)) dM dM (W.wc _ (List.getElem_mem hi')) dM,λe=>?_⟩;have h:=W.pc _ (List.getElem_mem hi');rw[Rat.num_eq_zero.1 e]at h;exact Rat.lt_irrefl h
theorem WkM.wt(W:WkM R S f cap m)(q:Nat×Nat)(i:Nat):Sx.Wh (wt f q i*((12:Nat):Rat)) 96:=W.wk.wwt q i
theorem WkM.wtK(W:WkM R S f cap m)(q:Nat×Nat)(i:Nat):Kb 1 (Go.Proofs.YtfgffkmddanjjaaGreatDoor.wt f q i):=zcs (D:=((12:Nat):Int)) dM dM (W.wt q i) dM
theorem ShD.tK(W:WkM R S f cap m)(h:ShD D M sh)(n i:Nat):Kb 1 (tS f (sh.take n) i):=by
 unfold tS;refine h.dn.sum (by simp;have:=h.len;omega) λx hx=>?_
 obtain⟨s,hs,rfl⟩:=List.mem_map.1 hx;exact DN.prod (h.wh s (List.mem_of_mem_take hs)) (W.wt _ _)
theorem ShD.tK'(W:WkM R S f cap m)(h:ShD D M sh)(i:Nat):Kb 1 (tS f sh i):=by
 have:=h.tK W sh.length i
 rwa [List.take_length]at this
theorem ShD.mxK(W:WkM R S f cap m)(h:ShD D M sh){i:Nat}(hi:i<=m):Kb 2 (mxS f cap sh i):=by
 rcases zlY f cap sh i with e|⟨j,hj,e⟩
 ·rw[e];exact kb0.mono dM
 ·obtain⟨c,_,hc,_,hK,hn⟩:=W.cap_at (show j<m by omega);rw[e,hc];exact(h.tK' W j).div hK hn
theorem ShD.ofS(W:WkM R S f cap m)(h:ShD D M sh):OfS f cap sh:=by
 intro i hi;rw[W.lc]at hi;obtain⟨c,_,hc,_,hK,hn⟩:=W.cap_at hi;rw[hc];refine⟨λj s hs=>⟨(h.dn.kb (h.wh s (List.mem_of_getElem? hs))).mulS (W.wtK _ _) dM,(h.tK W j i).addS ((h.dn.kb (h.wh s (List.mem_of_getElem? hs))).mul (W.wtK _ _)) dM⟩,(h.tK' W i).divS hK dM,((h.tK' W i).div hK hn).crS (h.mxK W oM) dM⟩
theorem zpP{x y:Rat}(h:x=y):x<=y:=h▸Rat.le_refl
theorem zex(g:Nat->Rat):∀n,zbc ((List.range n).map g)=Du.sm n g
 |0=>rfl
 |n+1=>by rw[List.range_succ,List.map_append,List.map_cons,List.map_nil,zbf,zex g n];rfl
theorem zjX{D:Int}{N:Nat}(hD:D≠0)(hDz:D.natAbs<=KK):∀(la lb:List Rat)(acc:Rat)(j:Nat),(∀a∈la,Kb 1 a)->(∀b∈lb,Kb 1 b)->(∀a∈la,∀b∈lb,Sx.Wh (a*b*(D:Rat)) N)->Sx.Wh (acc*(D:Rat)) (j*N)->(j+la.length)*N<=KK ->
  ziS acc la lb (some (acc+zbc (List.zipWith (·*·) la lb)))
 |[],_,acc,j,_,_,_,_,_=>by
  show some (acc+zbc _)=some acc
  simp only[List.zipWith_nil_left,zbc]
  congr 1
  grind
 |_ :: _,[],acc,j,_,_,_,_,_=>by
  show some (acc+zbc _)=some acc
  simp only[List.zipWith_nil_right,zbc]
  congr 1
  grind
 |a :: la,b :: lb,acc,j,h1,h2,h3,h4,h5=>by
  have hab:=h3 a sM b sM;have hacc:Kb 1 acc:=zcs hD hDz h4 (Nat.le_trans (Nat.mul_le_mul_right _ oM) h5);rw[List.length_cons]at h5;have hs:Sx.Wh ((acc+a*b)*(D:Rat)) ((j+1)*N):=by rw[Rat.add_mul,Nat.add_mul,Nat.one_mul];exact h4.add hab
  have ih:=zjX hD hDz la lb (acc+a*b) (j+1) (λx hx=>h1 x (by simp[hx])) (λx hx=>h2 x (by simp[hx])) (λx hx y hy=>h3 x (by simp[hx]) y (by simp[hy])) hs (by rw[show j+1+la.length=j+(la.length+1) by omega];exact h5);refine .inl ⟨(h1 a sM).mulS (h2 b sM) dM,hacc.addS ((h1 a sM).mul (h2 b sM)) dM,?_⟩;have e:acc+zbc (List.zipWith (·*·) (a :: la) (b :: lb))=acc+a*b+zbc (List.zipWith (·*·) la lb):=by
   simp only[List.zipWith_cons_cons,zbc]
   grind
  rw[e];exact ih
theorem znJ:∀(la lb:List Rat)(n:Nat),la.length=n->lb.length=n->zbc (List.zipWith (·*·) la lb)=Du.sm n (λi=>lb.getD i 0*la.getD i 0):=by
 intro la lb n h1 h2;rw[show List.zipWith (·*·) la lb=(la.zip lb).map (λp=>p.1*p.2) by rw[List.zip,List.map_zipWith],zbY (la.zip lb) _ (λi=>lb.getD i 0*la.getD i 0) λk s hs=>?_]
 ·rw[List.length_zip,h1,h2,Nat.min_self]
 ·rw[List.getElem?_zip_eq_some]at hs
  show lb.getD k 0*la.getD k 0=s.1*s.2
  rw[List.getD_eq_getElem?_getD,List.getD_eq_getElem?_getD,hs.1,hs.2,Rat.mul_comm];rfl
end
section
variable {R S : LN} {f ld : Rat} {cap P Q : List Rat} {m : Nat}
theorem WkM.dn(W:WkM R S f cap m){z:Int}(h0:z≠0)(h:z.natAbs<=szE 96 m):DN z (szE 96 m):=by
 have hb:=W.wk.big;have:szE 96 m<=96*szE 96 m:=Nat.le_mul_of_pos_left _ dM;exact⟨h0,oM,oM⟩
theorem WkM.shD(W:WkM R S f cap m)(B:Bal (prs R S) f cap m (prs R S).length (szE 96 m) ld P Q):∃z,ShD z (szE 96 m) (shs (prs R S) P)/\(∀x∈Q,Sx.Wh (x*(z:Rat)) (szE 96 m))/\Sx.Wh (ld*(z:Rat)) (szE 96 m):=by
 obtain⟨z,h0,h1,h2,h3,h4⟩:=B.den;refine⟨z,⟨W.dn h0 h1,?_,λs hs=>Rat.le_of_lt (zcC hs).2.2,λs hs=>h3 _ (zcC hs).2.1⟩,h4,h2⟩;have:=zgC (prs R S) P;have h9:=W.n9;rw[zbX]at this;omega
theorem WkM.prv(W:WkM R S f cap m)(B:Bal (prs R S) f cap m (prs R S).length (szE 96 m) ld P Q):zpA (prs R S) f cap Q m ld:=by
 obtain⟨z,hs,hQ,hl⟩:=W.shD B;have d:=hs.dn;have hm:=W.hm;have hQK:∀x∈Q,Kb 1 x:=λx hx=>d.kb (hQ x hx)
 have hat:∀j,j<m->Q.getD j 0∈Q:=λj hj=>by
  have:j<Q.length:=by rw[B.lQ];exact hj
  rw[List.getD_eq_getElem?_getD,gE this];exact List.getElem_mem this
 have hps:∀q j,j<=m->Kb 1 (pS f Q q j):=λq j hj=>by
  unfold pS;refine d.sum (by simp;omega) λx hx=>?_
  obtain⟨i,hi,rfl⟩:=List.mem_map.1 hx;exact DN.prod (hQ _ (hat i (by have:=List.mem_range.1 hi;omega))) (W.wt _ _)
 refine⟨B.lQ,W.lc,B.pQ,?_,λq hq j hj=>⟨(hQK _ (hat j hj)).mulS (W.wtK _ _) dM,(hps q j oM).addS ((hQK _ (hat j hj)).mul (W.wtK _ _)) dM⟩,λq hq=>⟨?_,(hps q m nl).crS (d.kb hl) dM⟩⟩
 ·have h:=zjX (D:=z*12) (N:=szE 96 m*96) d.ne12 (by rw[Int.natAbs_mul];simpa using d.le) Q cap 0 0 hQK (λc hc=>zcs (D:=((12:Nat):Int)) dM dM (W.wc c hc) dM) (λa ha b hb=>DN.prod (hQ a ha) (W.wc b hb)) (by rw[Rat.zero_mul];exact Sx.wh_zero.mono (Nat.zero_le _)) (by
   have:=d.big;have h2:(0+Q.length)*(szE 96 m*96)<=20*(szE 96 m*96):=Nat.mul_le_mul_right _ (by rw[B.lQ];omega);omega)
  rw[znJ Q cap m B.lQ W.lc,B.one]at h;have e:(0:Rat)+1=1:=by grind
  rw[e]at h;exact h
 ·obtain⟨k,hk⟩:=List.getElem?_of_mem hq;have:=B.col k q hk;unfold pS;rw[zex];refine Rat.le_trans this (zpP (Du.sm_congr _ _ _ λi _=>Rat.mul_comm _ _))
theorem WkM.miss(P:List Rat):(shQ (shs (prs R S) P)).any (zaX R S)=false:=by
 rw[List.any_eq_false];intro s hs;unfold shQ at hs;obtain⟨t,ht,rfl⟩:=List.mem_map.1 hs;obtain⟨h1,h2⟩:=zbW (zcC ht).1;have a1:(R.any λy=>decide (y=t.1.1))=true:=List.any_eq_true.2 ⟨_,h1,decide_eq_true rfl⟩;have a2:(S.any λy=>decide (y=t.1.2))=true:=List.any_eq_true.2 ⟨_,h2,decide_eq_true rfl⟩;simp[zaX,a1,a2]
end
theorem zcS:∀l:List ((Nat×Nat)×Rat),(shQ l).map (λs=>(s.1,zeb s.2))=l
 |[]=>rfl
 |s :: l=>by
  have ih:=zcS l;unfold shQ at*;simp only[List.map_cons,ih]
  rfl
theorem zlJ(R S:LN)(f:Rat)(cap:List Rat)(m:Nat)(HW:Hid (WkM R S f cap m))(aR aS aC:OA)(cR cS cC:Nat)(vf v:Vl)(ld:Rat)(Ps Qs:List Rat)(HB:Hid (Bal (prs R S) f cap m (prs R S).length (szE 96 m) ld Ps Qs))(w:Wo)(hcR:R.length<=cR)(hcS:S.length<=cS)(uR:zaF w aR R)(uS:zaF w aS S)(hf:zad w vf f)(uC:UQ w aC (cap.map some))(hV:zkJ w v ld (shs (prs R S) Ps) Qs)(hE:Env w) :
  CP 28 #[.slice aR R.length cR,.slice aS S.length cS,vf,.slice aC cap.length cC,v] w λe w'=>e=.returned (.bool true)/\BH w w':=by
 have hbw:=Below.refl w.heap.size w;obtain⟨J1,ao1,n1,Y1,K1,ap1,m1,Z1,rfl⟩:=hf.parts;have hm:=HW.o.hm;have hR4:=HW.o.fR.len;have hS4:=HW.o.fS.len;have hn9:=HW.o.n9;have h16:Hid (zaR R/\zaR S):=hii ⟨HW.o.fR.s16 oM,HW.o.fS.s16 oM⟩;obtain⟨z9,hShD,-,hldK⟩:=HW.o.shD HB.o;have HCl:Hid (CrS ld ld):=hii ((hShD.dn.kb hldK).crS (hShD.dn.kb hldK) dM);have HOf:=hii (hShD.ofS HW.o);have HPt:Hid (zav ((shQ (shs (prs R S) Ps)).map (·.2))=0):=hii (by rw[hShD.parts,HB.o.total rfl];rfl);have HMi:=hii (WkM.miss (R:=R) (S:=S) Ps);have HPv:=hii (HW.o.prv HB.o);have HOr:=hii (zmn (zn3 HW.o.fR.fam.pair HW.o.fS.fam.pair) Ps);have HLd:Hid (mxS f cap (shs (prs R S) Ps) cap.length=ld):=hii (by rw[HW.o.lc];exact HB.o.load rfl HW.o.lc HW.o.pc);have hsl:=hShD.len;obtain⟨sh,hsh⟩:∃sh,shs (prs R S) Ps=sh:=⟨_,rfl⟩;rw[hsh]at hV HOf HPt HMi HOr HLd hsl;have HQl:Hid (Qs.length=m):=hii HB.o.lQ;have HPc:Hid (∀c∈cap,0<c):=hii HW.o.pc;have HLc:Hid (cap.length=m):=hii HW.o.lc;have Hge:Hid (decide (0<=Rq.cmpQ ld ld)=true):=hii (decide_eq_true (zd0 Rat.le_refl));obtain⟨J2,ao2,n2,Y2,K2,ap2,m2,Z2,aB,cB,aQ,cQ,rfl,hvl,uB,uQ⟩:=hV;have uB:=uB.shareQ;clear hShD hldK hsh;go_enter func28,ntmps28;go_upto_region 1 with fail;obtain⟨wx,hwx,r1,r2,hb⟩:=zaH w 32 39 [.bool J1,.slice ao1 n1 Y1,.bool K1,.slice ap1 m1 Z1] [.bool J2,.slice ao2 n2 Y2,.bool K2,.slice ap2 m2 Z2,.slice aB sh.length cB,.slice aQ Qs.length cQ];simp only[List.toArray]at hwx;rw[<-hwx];clear hwx;obtain⟨w1,rfl⟩:=exi wx;obtain⟨g2,hg2⟩:=exi (w.heap.size+1);have Hg2:Hid (w.heap.size<=g2):=hii oM;rw[<-hg2]at r2|-;clear hg2;obtain⟨g1,hg1⟩:=exi (w.heap.size);have Hg1:Hid (w.heap.size<=g1):=hii oM;rw[<-hg1]at r1|-;clear hg1;have hf:=hf.mono hb;have uB:=uB.mono zag hb;have hvl:=hvl.mono hb;have uQ:=uQ.mono hb;have uR:=uR.mono hb;have uS:=uS.mono hb;have uC:=uC.mono hb;have hE:=hE.mono hb;have hbw:=bu hbw hb;clear hb;obtain⟨c0,c1,c2,c3⟩:=r1.n4;go_wp2_with fail;go_fit (zco R S f cap m HW aR aS aC cR cS cC _ w1 hcR hcS uR uS hf uC hE);rintro e w2⟨⟨g,rfl,hg,hW⟩,hb⟩;have uB:=uB.mono zag hb;have hvl:=hvl.mono hb;have uQ:=uQ.mono hb;have hE:=hE.mono hb;have r2:=r2.below hb;have hbw:=bu hbw hb;clear hb;clear c0 c1 c2 c3 r1 uR uS uC hf;obtain⟨y0,y1,y2,y3,y4,y5⟩:=r2.n6;go_wp2_with fail;go_fit (zay _ ld w2 hvl hE);rintro e w3⟨rfl,hb⟩;have uB:=uB.mono zag hb;have hvl:=hvl.mono hb;have uQ:=uQ.mono hb;have hE:=hE.mono hb;have hW:=hW.mono hb;have r2:=r2.below hb;have hbw:=bu hbw hb;clear hb;clear y0 y1 y2 y3 y4 y5;obtain⟨y0,y1,y2,y3,y4,y5⟩:=r2.n6;go_wp2_with fail;go_fit (zis g R S f cap sh aB cB w3 oM oM oM oM HOr hW uB hE);rintro e w4⟨rfl,hb⟩;have uB:=uB.mono zag hb;have hvl:=hvl.mono hb;have uQ:=uQ.mono hb;have hE:=hE.mono hb;have hW:=hW.mono hb;have r2:=r2.below hb;have hbw:=bu hbw hb;clear hb;clear y0 y1 y2 y3 y4 y5;have HO:=zn9 R S f cap g m (shQ sh) aB cB w4 oM oM (by simp[shQ];omega) HLc oM h16 HPc hW uB hE (hii λ_ _=>⟨sh,rfl,HOf.o⟩);rw[show(shQ sh).length=sh.length by simp[shQ]]at HO;obtain⟨y0,y1,y2,y3,y4,y5⟩:=r2.n6;go_wp2_with fail;(with_reducible refine HO.mono ?_);rintro e w5⟨hOR,hb⟩;have uB:=uB.mono zag hb;have hvl:=hvl.mono hb;have uQ:=uQ.mono hb;have hE:=hE.mono hb;have hW:=hW.mono hb;have r2:=r2.below hb;have hbw:=bu hbw hb;clear hb;clear y0 y1 y2 y3 y4 y5 HO;have hG:zb3 w5 ld e:=by
  rcases hOR with⟨h,_⟩|⟨_,h,_⟩|⟨_,_,sh',hs',hG⟩
  ·rw[HMi.o]at h;cases h
  ·exact absurd HPt.o h
  ·have:sh'=sh:=by
    have e:=congrArg (List.map λs:(Nat×Nat)×Qo=>(s.1,zeb s.2)) hs';rw[zcS,zcS]at e;exact e.symm
   rw[this,HLd.o]at hG;exact hG
 obtain⟨J3,ao3,n3,Y3,K3,ap3,m3,Z3,rfl,hv3⟩:=hG.rat;clear hOR uB;go_upto_region 5 with fail;obtain⟨w6,g13,hw9,hg9,hb,r13⟩:=bxr w5 [.bool J3,.slice ao3 n3 Y3,.bool K3,.slice ap3 m3 Z3] 32;rw[<-hw9,<-hg9];have Hg13:Hid (w.heap.size<=g13):=hii (by have:=hbw.size;omega);clear hw9 hg9;have hv3:=hv3.mono hb;have hvl:=hvl.mono hb;have uQ:=uQ.mono hb;have hE:=hE.mono hb;have hW:=hW.mono hb;have r2:=r2.below hb;have hbw:=bu hbw hb;clear hb;obtain⟨y0,y1,y2,y3,y4,y5⟩:=r2.n6;obtain⟨k0,k1,k2,k3⟩:=r13.n4;have HL1:=zfe _ _ ld ld w6 hv3 hvl HCl hE;rw[Hge.o]at HL1;go_wp2_with fail;(with_reducible refine HL1.mono ?_);rintro e w7⟨rfl,hb⟩;have hv3:=hv3.mono hb;have hvl:=hvl.mono hb;have uQ:=uQ.mono hb;have hE:=hE.mono hb;have hW:=hW.mono hb;have r2:=r2.below hb;have r13:=r13.below hb;have hbw:=bu hbw hb;clear hb;clear y0 y1 y2 y3 y4 y5 k0 k1 k2 k3 HL1;obtain⟨y0,y1,y2,y3,y4,y5⟩:=r2.n6;obtain⟨k0,k1,k2,k3⟩:=r13.n4;have HL1:=zfe _ _ ld ld w7 hvl hv3 HCl hE;rw[Hge.o]at HL1;go_wp2_with fail;(with_reducible refine HL1.mono ?_);rintro e w8⟨rfl,hb⟩;have hvl:=hvl.mono hb;have uQ:=uQ.mono hb;have hE:=hE.mono hb;have hW:=hW.mono hb;have r2:=r2.below hb;have hbw:=bu hbw hb;clear hb;clear y0 y1 y2 y3 y4 y5 k0 k1 k2 k3 HL1 r13 hv3;obtain⟨y0,y1,y2,y3,y4,y5⟩:=r2.n6;rw[HQl.o]at y5;go_wp2_with fail;go_fit (zjy g R S f cap Qs m ld _ aQ cQ w8 oM oM oM oM h16 HPv hW hvl uQ hE);rintro e w9⟨rfl,hb⟩;have hbw:=bu hbw hb;clear hb y0 y1 y2 y3 y4 y5;exact cP
theorem FS.one{w:Wo}{b:Nat}{a:OA}{l:LN}{c:Nat}{E:TypeId}(r:Row w b E [.slice a l.length c])(hl:l.length<=c)(u:zaF w a l):FS w (sD b 0) [l]:=λi x hi=>by
 match i,hi with
 |0,hi=>cases hi;exact⟨b,0,a,c,rfl,r.cell (k:=0) sM,hl,u⟩
 |i+1,hi=>simp at hi
def zlf(l:LN):Bool:=l.all λs=>!l.any λt=>decide (s &&& t=0)
def zh6(l:LN)(n:Int):Nat:=if setsE [l]≠0 then setsE [l]else if n<1\/12<n\/2 ^ n.toNat<=zec l then 7 else if zlf l=true then 0 else 12
def zp2(w':Wo)(l:LN)(n:Int)(e:Ending):Prop :=
 (zh6 l n≠0/\e=.returned (.tuple #[.agg #[bF_,nS_,bF_,nS_],.agg #[bF_,nS_,bF_,nS_],.int .i64 (zh6 l n:Nat)])) \/
 (zh6 l n=0/\∃J1 ao1 n1 Y1 K1 ap1 m1 Z1 J2 ao2 n2 Y2 K2 ap2 m2 Z2,e=.returned (.tuple #[.agg #[.bool J1,.slice ao1 n1 Y1,.bool K1,.slice ap1 m1 Z1],.agg #[.bool J2,.slice ao2 n2 Y2,.bool K2,.slice ap2 m2 Z2],.int .i64 0])/\zad w' (.agg #[.bool J1,.slice ao1 n1 Y1,.bool K1,.slice ap1 m1 Z1]) (Rat.divInt 1 (cnt (l.getD 0 0):Nat))/\zad w' (.agg #[.bool J2,.slice ao2 n2 Y2,.bool K2,.slice ap2 m2 Z2]) (Rat.divInt (cnt (l.getD 0 0):Nat) n))
theorem zmY{x:Nat}(h:x<65536)(h0:x≠0):1<=cnt x:=by
 obtain⟨i,hi,hb⟩:=zkc (n:=16) h0 h;unfold cnt;have:0<(List.range 16).countP (λi=>x.testBit i):=List.countP_pos_iff.2 ⟨i,List.mem_range.2 hi,hb⟩;omega
theorem zjh{l:LN}(h:setsE [l]=0):zgb l=0/\∃x r,l=x :: r/\x≠0:=by
 unfold setsE zcF zcF at h
 by_cases h1:zgb l=0
 ·refine⟨h1,?_⟩;simp[h1]at h
  cases l with
  |nil=>simp[zbr]at h
  |cons x r=>exact⟨x,r,rfl,by simpa [zbr]using h⟩
 ·simp[h1]at h
theorem zid:zah (λb=>b=g\/b=h) W ((((W.setCell (aD_ g 0) y0).setCell (aD_ g 1) y1).setCell (aD_ g 2) y2).setCell (aD_ g 3) y3) :=
 ((((zah.refl W:zah (λb=>b=g\/b=h) W W).setCell (p:=⟨g,0,none⟩) (.inl rfl) _).setCell (p:=⟨g,1,none⟩) (.inl rfl) _).setCell (p:=⟨g,2,none⟩) (.inl rfl) _).setCell (p:=⟨g,3,none⟩) (.inl rfl) _
theorem two_k':zah (λb=>b=g\/b=h) W ((((W.setCell (aD_ h 0) y0).setCell (aD_ h 1) y1).setCell (aD_ h 2) y2).setCell (aD_ h 3) y3) :=
 ((((zah.refl W:zah (λb=>b=g\/b=h) W W).setCell (p:=⟨h,0,none⟩) (.inr rfl) _).setCell (p:=⟨h,1,none⟩) (.inr rfl) _).setCell (p:=⟨h,2,none⟩) (.inr rfl) _).setCell (p:=⟨h,3,none⟩) (.inr rfl) _
theorem zdv{E:TypeId}{x0 x1 x2 x3:Vl}(r:Row W g E [x0,x1,x2,x3])(y0 y1 y2 y3:Vl):Row ((((W.setCell (aD_ g 0) y0).setCell (aD_ g 1) y1).setCell (aD_ g 2) y2).setCell (aD_ g 3) y3) g E [y0,y1,y2,y3] :=
 (((r.set 0 y0).set 1 y1).set 2 y2).set 3 y3
theorem zdw{E:TypeId}{xs:List Vl}(r:Row W h E xs)(hne:h≠g)(y0 y1 y2 y3:Vl):Row ((((W.setCell (aD_ g 0) y0).setCell (aD_ g 1) y1).setCell (aD_ g 2) y2).setCell (aD_ g 3) y3) h E xs :=
 r.mono (zfW W g y0 y1 y2 y3) hne
theorem zoj{g4 g5:Nat}(r4:Row W g4 32 [bF_,nS_,bF_,nS_])(r5:Row W g5 32 [bF_,nS_,bF_,nS_])(hne:g5≠g4) :
  (W.cell? (aD_ g4 0)=some bF_/\W.cell? (aD_ g4 1)=some nS_/\W.cell? (aD_ g4 2)=some bF_/\W.cell? (aD_ g4 3)=some nS_) /\
  (∀j,W.frozen? ⟨g4,j,none⟩=false) /\
  (((((((W.setCell (aD_ g4 0) bF_).setCell (aD_ g4 1) nS_).setCell (aD_ g4 2) bF_).setCell (aD_ g4 3) nS_).cell? (aD_ g5 0)=some bF_/\((((W.setCell (aD_ g4 0) bF_).setCell (aD_ g4 1) nS_).setCell (aD_ g4 2) bF_).setCell (aD_ g4 3) nS_).cell? (aD_ g5 1)=some nS_/\((((W.setCell (aD_ g4 0) bF_).setCell (aD_ g4 1) nS_).setCell (aD_ g4 2) bF_).setCell (aD_ g4 3) nS_).cell? (aD_ g5 2)=some bF_/\((((W.setCell (aD_ g4 0) bF_).setCell (aD_ g4 1) nS_).setCell (aD_ g4 2) bF_).setCell (aD_ g4 3) nS_).cell? (aD_ g5 3)=some nS_)/\∀j,((((W.setCell (aD_ g4 0) bF_).setCell (aD_ g4 1) nS_).setCell (aD_ g4 2) bF_).setCell (aD_ g4 3) nS_).frozen? ⟨g5,j,none⟩=false) /\
  Hid (Row ((((((((W.setCell (aD_ g4 0) bF_).setCell (aD_ g4 1) nS_).setCell (aD_ g4 2) bF_).setCell (aD_ g4 3) nS_).setCell (aD_ g5 0) bF_).setCell (aD_ g5 1) nS_).setCell (aD_ g5 2) bF_).setCell (aD_ g5 3) nS_) g4 32 [bF_,nS_,bF_,nS_])/\Hid (Row ((((((((W.setCell (aD_ g4 0) bF_).setCell (aD_ g4 1) nS_).setCell (aD_ g4 2) bF_).setCell (aD_ g4 3) nS_).setCell (aD_ g5 0) bF_).setCell (aD_ g5 1) nS_).setCell (aD_ g5 2) bF_).setCell (aD_ g5 3) nS_) g5 32 [bF_,nS_,bF_,nS_])):=by
 have X5:=zdw r5 hne bF_ nS_ bF_ nS_;exact⟨r4.n4,r4.free,⟨X5.n4,X5.free⟩,hii (zdw (zdv r4 _ _ _ _) (Ne.symm hne) _ _ _ _),hii (zdv X5 _ _ _ _)⟩
theorem ziL(s t g:Nat)(w:Wo)(hs:s<65536)(hc:w.cell? (aD_ g 0)=some (.int .u16 (s:Nat))) :
  CP 39 #[.int .u16 (t:Nat),pT g 0] w λe w'=>e=.returned (.bool (decide (s &&& t=0)))/\BH w w':=by
 have e1:=zkh s t hs;obtain⟨z,hz⟩:∃z,decide (s &&& t=0)=z:=⟨_,rfl⟩;have e2:(((s &&& t:Nat):Int)==0)=z:=by rw[<-hz,Bool.eq_iff_iff,beq_iff_eq,decide_eq_true_iff];omega
 rw[hz];clear hz;go_enter func39,ntmps39;exact dT
theorem zkD(l:LN)(n:Int)(al:OA)(cl:Nat)(w:Wo)(hl:l.length<=1000000)(hcl:l.length<=cl)(hn1:-9223372036854775808<=n)(hn2:n<=9223372036854775807)(ul:zaF w al l)(h16:Hid (zaR l))(hE:Env w) :
  CP 14 #[.slice al l.length cl,.int .i64 n] w λe w'=>zp2 w' l n e/\BH w w':=by
 have hbw:=Below.refl w.heap.size w;obtain⟨E,hE1⟩:∃E,setsE [l]=E:=⟨_,rfl⟩;have HE1:=hii hE1;clear hE1;go_enter func14,ntmps14;go_upto_region 1 with fail;obtain⟨wx,hwx,r4,r5,hb⟩:=zaH w 32 32 [bF_,nS_,bF_,nS_] [bF_,nS_,bF_,nS_];simp only[List.toArray]at hwx;rw[<-hwx];clear hwx;obtain⟨wA,rfl⟩:=exi wx;obtain⟨g5,hg5⟩:=exi (w.heap.size+1);have Hg5:Hid (w.heap.size<=g5):=hii oM;rw[<-hg5]at r5|-;have Hgx:=hii hg5;clear hg5;obtain⟨g4,hg4⟩:=exi (w.heap.size);have Hg4:Hid (w.heap.size<=g4):=hii oM;rw[<-hg4]at r4|-;have Hne:Hid (g5≠g4):=hii (by have:=Hgx.o;omega);clear hg4 Hgx;have ul:=ul.mono hb;have hE:=hE.mono hb;have hbw:=bu hbw hb;clear hb;go_wp2_with fail;obtain⟨wB,gs,hw9,hg9,hb,rs⟩:=bxr wA [.slice al l.length cl] 27;rw[<-hw9,<-hg9];have Hgs:Hid (w.heap.size<=gs):=hii (by have:=hbw.size;omega);clear hw9 hg9;have ul:=ul.mono hb;have hE:=hE.mono hb;have r4:=r4.below hb;have r5:=r5.below hb;have hbw:=bu hbw hb;clear hb;have HS:=zjg [l] (sD gs 0) 1 wB sM (FS.one rs hcl ul) (hii (by intro x hx;simp at hx;subst hx;exact⟨oM,h16.o⟩));rw[HE1.o,show [l].length=1 from rfl]at HS;(with_reducible refine HS.mono ?_);rintro e wC⟨rfl,hb⟩;have ul:=ul.mono hb;have hE:=hE.mono hb;have r4:=r4.below hb;have r5:=r5.below hb;have hbw:=bu hbw hb;clear hb;clear HS rs
 by_cases hE0:E=0
 case neg=>
  have hEn:((E:Int) != 0)=true:=by simp;omega
  have HBE:Hid (zh6 l n=E):=hii (by unfold zh6;rw[HE1.o,if_pos hE0]);have HEn:Hid (E≠0):=hii hE0;clear hE0;obtain⟨⟨p0,p1,p2,p3⟩,q0,⟨⟨v0,v1,v2,v3⟩,q4⟩,R9,R5⟩:=zoj r4 r5 Hne.o;have hne1:=Hne.o;have hne2:=Ne.symm Hne.o;have HB9:=hii hbw;go_wp2;obtain⟨e0,e1,e2,e3⟩:=Row.n4 R9.o;obtain⟨f0,f1,f2,f3⟩:=Row.n4 R5.o;refine bodyPost_ret (v:=.tuple #[.agg #[bF_,nS_,bF_,nS_],.agg #[bF_,nS_,bF_,nS_],.int .i64 ((E:Nat))]) (by simp[results,Tryz.results14,go_sem,e0,e1,e2,e3,f0,f1,f2,f3]) rfl ⟨.inl ⟨by rw[HBE.o];exact HEn.o,by rw[HBE.o]⟩,?_⟩;exact HB9.o.trans ((zid.trans two_k').below (λb e=>by rcases e with rfl|rfl<;>first|exact Hg4.o|exact Hg5.o) HB9.o.size)
 subst hE0;obtain⟨hfam,x0,r0,hlx,hx0⟩:=zjh HE1.o;have HB:Hid (zh6 l n=if n<1\/12<n\/2 ^ n.toNat<=zec l then 7 else if zlf l=true then 0 else 12):=hii (by unfold zh6;rw[HE1.o,if_neg sM]);have Hlx:=hii hlx;have Hx0:=hii hx0;clear hlx hx0 hfam
 by_cases hn1':n<1
 ·have HBE:Hid (zh6 l n=7):=hii (by rw[HB.o,if_pos (.inl hn1')]);have hd:decide (n<1)=true:=decide_eq_true hn1';clear HB;exact cN
 have hd1:decide (n<1)=false:=decide_eq_false hn1'
 by_cases hn12:12<n
 ·have HBE:Hid (zh6 l n=7):=hii (by rw[HB.o,if_pos (.inr (.inl hn12))]);have hd:decide (12<n)=true:=decide_eq_true hn12;clear HB;exact cN
 have hd2:decide (12<n)=false:=decide_eq_false hn12;obtain⟨k,rfl⟩:∃k:Nat,n=(k:Int):=⟨n.toNat,oM⟩;rw[Int.toNat_natCast]at HB;have hk1:1<=k/\k<=12:=oM;have hk12:k<=12:=hk1.2;have hk64:(k:Int)<64:=oM;clear hn1 hn2;obtain⟨u,hu⟩:∃u,zec l=u:=⟨_,rfl⟩;have HSu:=zdg l al cl wC oM ul h16;rw[hu]at HSu HB;clear hu;have ey:(u:Int) / 2 ^ k=((u / 2 ^ k:Nat):Int):=by push_cast;rfl
 go_wp2_with fail;(with_reducible refine HSu.mono ?_);rintro e wD⟨rfl,hb⟩;have ul:=ul.mono hb;have hE:=hE.mono hb;have r4:=r4.below hb;have r5:=r5.below hb;have hbw:=bu hbw hb;clear hb;clear HSu
 by_cases hu2:2 ^ k<=u
 ·have HBE:Hid (zh6 l k=7):=hii (by rw[HB.o,if_pos (.inr (.inr hu2))]);have hy:((u / 2 ^ k:Nat):Int)≠0:=by
   have:=Nat.div_pos hu2 (Nat.two_pow_pos k);omega
  obtain⟨y,hyy⟩:∃y:Nat,u / 2 ^ k=y:=⟨_,rfl⟩;rw[hyy]at ey hy;have hyn:((y:Int) != 0)=true:=by simp;omega
  clear HB hu2 hyy;exact cN
 obtain⟨y,hyy⟩:∃y:Nat,u / 2 ^ k=y:=⟨_,rfl⟩;have hy0:y=0:=by rw[<-hyy];exact Nat.div_eq_of_lt oM
 rw[hyy]at ey;have hyn:((y:Int) != 0)=false:=by simp;omega
 have HB:Hid (zh6 l k=if zlf l=true then 0 else 12):=hii (by rw[HB.o,if_neg oM]);obtain⟨N,hN⟩:∃N,l.length=N:=⟨_,rfl⟩;have HN:=hii hN;have hNl:N<=1000000:=by rw[<-hN];exact hl
 have eg:∀args w,(callFunc 39 args).run Tryz.prog w=.ok (.enter 39 args) w:=enters_of func39 (by kernel_rfl) rfl;have HCF:Hid (∀(s g:Nat)(W:Wo),s<65536->zaF W al l->W.cell? (aD_ g 0)=some (.int .u16 (s:Nat))->CP 38 #[.slice al l.length cl,.func (.func 39) #[] #[pT g 0]] W λe w'=>e=.returned (.bool (l.any λt=>decide (s &&& t=0)))/\BH W w'):=hii λs g W hs hu hc=>
  zc8 39 #[pT g 0] (λt=>decide (s &&& t=0)) eg l al cl W oM hu (λt W' _ hb=>ziL s t g W' hs ((hb.cell (zaf hc)).trans hc))
 rw[hN]at HCF|-;clear hN eg hn1' hn12 hu2 hyy hy0;have hbr:=Below.refl wD.heap.size wD;go_wp2_with fail;clear ey hyn;go_loopw [40] (λs wr=>∃j:Nat,j<=N/\s=.int .i64 j/\Hid ((l.take j).all (λs=>!l.any λt=>decide (s &&& t=0))=true)/\Hid (BH wD wr)) (λs _=>N-(intOf s).toNat)
 case atStart=>exact⟨0,Nat.zero_le _,rfl,hii sM,hii hbr⟩
 case round=>
  clear hbr;obtain⟨j,hj,rfl,HA,Hbr⟩:=hrel
  by_cases hlj:j<N
  ·obtain⟨s,hx⟩:∃x,l[j]?=some x:=⟨l[j]'(by rw[HN.o];exact hlj),gE _⟩;have hs16:=h16.o s (List.mem_of_getElem? hx);have ulr:=ul.mono Hbr.o;obtain⟨b1,off1,ea,hc⟩:=ulr j s hx;have HT:Hid ((l.take (j+1)).all (λs=>!l.any λt=>decide (s &&& t=0))=!l.any λt=>decide (s &&& t=0)):=hii (by rw[zaw hx,List.all_append,HA.o];simp);have HM:Hid (s∈l):=hii (List.mem_of_getElem? hx);have hjN:(j:Int)<(N:Int):=oM;obtain⟨b,hb9⟩:∃b,(l.any λt=>decide (s &&& t=0))=b:=⟨_,rfl⟩;have hC:=λg W h1 h2=>HCF.o s g W hs16 h1 h2
   rw[hb9]at HT hC;have HC:=hii hC;have Hb9:=hii hb9;have r4r:=r4.below Hbr.o;have r5r:=r5.below Hbr.o;subst ea;clear hx hb9 hC HA;go_upto_region 9 with fail;have hb:=bA wr (.cells #[.int .u16 (s:Nat)] 52);have r9:Row (wr.alloc (.cells #[.int .u16 (s:Nat)] 52)) wr.heap.size 52 [.int .u16 (s:Nat)]:=heap_alloc_new _ _;obtain⟨g9,hgg⟩:∃g,g=wr.heap.size:=⟨_,rfl⟩;rw[<-hgg]at r9|-;clear hgg hc;generalize wr.alloc (.cells #[.int .u16 (s:Nat)] 52)=wc at*;have Hbr:=hii (Below.step Hbr.o hb nl);clear hb;have HC:=hii (HC.o g9 wc (ul.mono Hbr.o) (r9.cell (k:=0) sM));go_wp2_with fail;(with_reducible refine HC.o.mono ?_);rintro e wd⟨rfl,hb⟩;have Hbr:=hii (Below.step Hbr.o hb nl);clear hb HC
   cases b with
   |true=>
    have HBE:Hid (zh6 l k=12):=hii (by
     rw[HB.o,if_neg];unfold zlf;rw[Bool.not_eq_true,List.all_eq_false];exact⟨s,HM.o,by rw[Hb9.o];simp⟩)
    have r4:=r4.below Hbr.o;have r5:=r5.below Hbr.o;have hbw:=Below.step hbw Hbr.o nl;clear HB HT HM r4r r5r;obtain⟨⟨p0,p1,p2,p3⟩,q0,⟨⟨v0,v1,v2,v3⟩,q4⟩,R9,R5⟩:=zoj r4 r5 Hne.o;have hne1:=Hne.o;have hne2:=Ne.symm Hne.o;have HB9:=hii hbw;go_wp2;obtain⟨e0,e1,e2,e3⟩:=Row.n4 R9.o;obtain⟨f0,f1,f2,f3⟩:=Row.n4 R5.o;refine bodyPost_ret (v:=.tuple #[.agg #[bF_,nS_,bF_,nS_],.agg #[bF_,nS_,bF_,nS_],.int .i64 (12)]) (by simp[results,Tryz.results14,go_sem,e0,e1,e2,e3,f0,f1,f2,f3]) rfl ⟨.inl ⟨by rw[HBE.o];decide,by rw[HBE.o];rfl⟩,?_⟩;exact HB9.o.trans ((zid.trans two_k').below (λb e=>by rcases e with rfl|rfl<;>first|exact Hg4.o|exact Hg5.o) HB9.o.size)
   |false=>
    have HT:Hid ((l.take (j+1)).all (λs=>!l.any λt=>decide (s &&& t=0))=true):=HT;go_wp2;go_roundw
    case rel=>exact⟨j+1,oM,gM,HT,Hbr⟩
    case measure=>exact mM
  ·have hjN:j=N:=oM;have HBE:Hid (zh6 l k=0):=hii (by
    rw[HB.o,if_pos];have h:=HA.o;rw[hjN,List.take_of_length_le (by rw[HN.o];exact nl)]at h;exact h)
   have hjn:¬(j:Int)<(N:Int):=oM;have ulr:=ul.mono Hbr.o;have hEr:=hE.mono Hbr.o;have r4:=r4.below Hbr.o;have r5:=r5.below Hbr.o;have hbw:=Below.step hbw Hbr.o nl;obtain⟨b1,off1,ea,hc⟩:=ulr 0 x0 (by rw[Hlx.o];rfl);rw[Nat.add_zero]at hc;have hN1:(0:Int)<(N:Int):=by rw[<-HN.o,Hlx.o];simp<;>omega
   have hx16:=h16.o x0 (by rw[Hlx.o];simp);have Hgd:Hid (l.getD 0 0=x0):=hii (by rw[Hlx.o];rfl);have hcn:=zmY hx16 Hx0.o;have hcl16:=zeJ x0;have HOC:=zbG x0 hx16 wr;obtain⟨c,hcc⟩:∃c,cnt x0=c:=⟨_,rfl⟩;have Hcc:=hii hcc;rw[hcc]at HOC hcn hcl16;subst ea;clear hcc HA HB HCF hjN hlj ulr;go_wp2_with fail;(with_reducible refine HOC.mono ?_);rintro e wc⟨rfl,hb⟩;have hE2:=hEr.mono hb;have r4:=r4.below hb;have r5:=r5.below hb;have hbw:=bu hbw hb;clear hb;clear HOC hc hjn;go_wp2_with fail;go_fit (zno 1 (c:Nat) wc dM dM oM oM (hii oM) hE2);rintro e wd⟨hz,hb⟩;obtain⟨J1,ao1,n1,Y1,K1,ap1,m1,Z1,rfl,hv1⟩:=hz.rat;have hE2:=hE2.mono hb;have r4:=r4.below hb;have r5:=r5.below hb;have hbw:=bu hbw hb;clear hb;clear hz;go_upto_region 14 with fail;obtain⟨we,g11,hw9,hg9,hb,r11⟩:=bxr wd [.bool J1,.slice ao1 n1 Y1,.bool K1,.slice ap1 m1 Z1] 32;rw[<-hw9,<-hg9];have Hg11:Hid (g4<g11/\g5<g11):=hii (by have:=r4.lt;have:=r5.lt;omega);clear hw9 hg9;have hv1:=hv1.mono hb;have hE2:=hE2.mono hb;have r4:=r4.below hb;have r5:=r5.below hb;have hbw:=bu hbw hb;clear hb;go_wp2_with fail;go_fit (zno (c:Nat) (k:Nat) we oM oM oM oM (hii oM) hE2);rintro e wf⟨hz,hb⟩;obtain⟨J2,ao2,n2,Y2,K2,ap2,m2,Z2,rfl,hv2⟩:=hz.rat;have hv1:=hv1.mono hb;have r4:=r4.below hb;have r5:=r5.below hb;have r11:=r11.below hb;have hbw:=bu hbw hb;clear hb;clear hz hE2 hEr;go_upto_region 15 with fail;obtain⟨wh,g13,hw9,hg9,hb,r13⟩:=bxr wf [.bool J2,.slice ao2 n2 Y2,.bool K2,.slice ap2 m2 Z2] 32;rw[<-hw9,<-hg9];have Hg13:Hid (g4<g13/\g5<g13):=hii (by have:=r4.lt;have:=r5.lt;omega);clear hw9 hg9;have hv1:=hv1.mono hb;have hv2:=hv2.mono hb;have r4:=r4.below hb;have r5:=r5.below hb;have r11:=r11.below hb;have hbw:=bu hbw hb;clear hb;obtain⟨wi,rfl⟩:=exi wh;have H11:Hid (¬(λb=>b=g4\/b=g5) g11):=hii (λh=>by have:=Hg11.o;rcases h with h|h<;>omega);have H13:Hid (¬(λb=>b=g4\/b=g5) g13):=hii (λh=>by have:=Hg13.o;rcases h with h|h<;>omega);have Hn:Hid (NoU (λb=>b=g4\/b=g5) wi):=hii (λb hb=>hb.elim (λe=>r4.noU noI4' b e) (λe=>r5.noU noI4' b e));refine zau (srK (G:=(λb=>b=g4\/b=g5))) (wx:=wi) [vf (.agg #[.bool J1,.slice ao1 n1 Y1,.bool K1,.slice ap1 m1 Z1]),vf (.agg #[.bool J2,.slice ao2 n2 Y2,.bool K2,.slice ap2 m2 Z2]),(λ_ _=>True),(λ_ _=>True),vf (.int .i64 0)] [some 65,some 66,none,none,some 6] [65,66,6] [2,3] [[0],[0,1],[0],[1],[2]] [none,none,none,none,none] (λp T W=>match p with|0=>Row W g4 32 [bF_,nS_,bF_,nS_]/\Row W g5 32 [bF_,nS_,bF_,nS_]|1=>Row W g4 32 [.bool J1,.slice ao1 n1 Y1,.bool K1,.slice ap1 m1 Z1]/\Row W g5 32 [bF_,nS_,bF_,nS_]|_+2=>Row W g4 32 [.bool J1,.slice ao1 n1 Y1,.bool K1,.slice ap1 m1 Z1]/\Row W g5 32 [.bool J2,.slice ao2 n2 Y2,.bool K2,.slice ap2 m2 Z2]) (λT=>⟨r4.below br.drew,r5.below br.drew⟩) (λp T W W' h hb=>match p,h with|0,h=>⟨h.1.below hb,h.2.below hb⟩|1,h=>⟨h.1.below hb,h.2.below hb⟩|_+2,h=>⟨h.1.below hb,h.2.below hb⟩) (λp T T' W hT h=>match p,hT,h with|0,_,h=>h|1,_,h=>h|_+2,_,h=>h) (zah.refl _) ⟨zab _ _,zab _ _,(λ_ _ _ h _=>h),(λ_ _ _ h _=>h),zab _ _,trivial⟩ ⟨?s0,?s1,?s2,?s3,?s4,trivial⟩ ?he
   case' s0|s1|s2|s3|s4=>
    rintro T W p hb hp hS hA K hK
   case' s0=>
    clear hS;obtain⟨k0,k1,k2,k3⟩:=(r11.mono hb H11.o).n4;simp only[sA]at hK|-
   case' s1=>
    clear hS;obtain⟨k0,k1,k2,k3⟩:=(r13.mono hb H13.o).n4;simp only[sA]at hK|-
   case' s4=>
    clear hS;simp only[sA]at hK|-
   case s0|s1|s4=>
    exact cE
   case s2=>
    obtain rfl:p=0:=by simpa using hp
    have hS:Row W g4 32 [bF_,nS_,bF_,nS_]/\Row W g5 32 [bF_,nS_,bF_,nS_]:=hS;have e0:T 65=_:=hA.1 rfl;obtain⟨p0,p1,p2,p3⟩:=Row.n4 hS.1;have q0:=Row.free hS.1;simp only[sA,e0]at hK|-;have HK:=hii hK;clear hK hA;refine wO rfl ?_;go_simp;exact HK.o undef _ ⟨λh=>absurd rfl h,λ_=>⟨⟨zdv hS.1 _ _ _ _,zdw hS.2 Hne.o _ _ _ _⟩,zid⟩⟩ (trivial)
   case s3=>
    obtain rfl:p=1:=by simpa using hp
    have hS:Row W g4 32 [.bool J1,.slice ao1 n1 Y1,.bool K1,.slice ap1 m1 Z1]/\Row W g5 32 [bF_,nS_,bF_,nS_]:=hS;have e1:T 66=_:=hA.1 rfl;obtain⟨p0,p1,p2,p3⟩:=Row.n4 hS.2;have q0:=Row.free hS.2;simp only[sA,e1]at hK|-;have HK:=hii hK;clear hK hA;refine wO rfl ?_;go_simp;exact HK.o undef _ ⟨λh=>absurd rfl h,λ_=>⟨⟨zdw hS.1 (Ne.symm Hne.o) _ _ _ _,zdv hS.2 _ _ _ _⟩,two_k'⟩⟩ (trivial)
   case he=>
    rintro T W hb hS hA;have hS:Row W g4 32 [.bool J1,.slice ao1 n1 Y1,.bool K1,.slice ap1 m1 Z1]/\Row W g5 32 [.bool J2,.slice ao2 n2 Y2,.bool K2,.slice ap2 m2 Z2]:=hS;have f4:T 6=.int .i64 0:=hA.at 4 dM rfl;simp only[sA,f4];obtain⟨R4,R5⟩:=hS;have HV1:=hii (hv1.keptU hb Hn.o);have HV2:=hii (hv2.keptU hb Hn.o);have Hbw:=hii (hbw.trans (hb.below (λb e=>by rcases e with rfl|rfl<;>first|exact Hg4.o|exact Hg5.o) hbw.size));clear hA f4 hb;obtain⟨e0,e1,e2,e3⟩:=Row.n4 R4;obtain⟨f0,f1,f2,f3⟩:=Row.n4 R5;go_wp2;refine bodyPost_ret (v:=.tuple #[.agg #[.bool J1,.slice ao1 n1 Y1,.bool K1,.slice ap1 m1 Z1],.agg #[.bool J2,.slice ao2 n2 Y2,.bool K2,.slice ap2 m2 Z2],.int .i64 0]) (by simp[results,Tryz.results14,go_sem,e0,e1,e2,e3,f0,f1,f2,f3]) rfl ⟨.inr ⟨HBE.o,_,_,_,_,_,_,_,_,_,_,_,_,_,_,_,_,rfl,?_,?_⟩,Hbw.o⟩
    ·rw[Hgd.o,Hcc.o];exact HV1.o
    ·rw[Hgd.o,Hcc.o];exact HV2.o
def zkI:Wo->List Vl->Nat->Prop:=λ_ c k=>c=[.int .i64 (k:Nat)]
theorem za7:zdh zkI:=λ_ _ _ _ _ h _ _=>h
theorem zpx{a:Int}:∀u∈[Value.int .i64 a],zaM u:=by
 intro u hu;simp at hu;subst hu;intro z e
 cases e
def zbx(b:Nat->Rat):Nat->Nat
 |0=>0
 |i+1=>if b (zbx b i)<b i then i else zbx b i
theorem zd3(b:Nat->Rat):∀i,zbx b i<=i-1
 |0=>nl
 |i+1=>by
  have:=zd3 b i;simp only[zbx]
  split<;>omega
def zd8(p:Nat->Rat)(t:Nat)(out:LN)(i:Nat):Rat:=(t:Rat)*p i-(out.count i:Rat)
def zgG(p:Nat->Rat)(N:Nat):Nat->LN
 |0=>[]
 |t+1=>zgG p N t++[zbx (λi=>zd8 p (t+1) (zgG p N t) i) N]
theorem zeZ(p:Nat->Rat)(N:Nat):∀t,(zgG p N t).length=t
 |0=>rfl
 |t+1=>by simp[zgG,zeZ p N t]
theorem zlv(p:Nat->Rat)(t:Nat)(out:LN)(i:Nat):zd8 p (t+1) out i=zd8 p t out i+p i:=by
 unfold zd8;rw[show((t+1:Nat):Rat)=(t:Rat)+1 from Rat.natCast_add t 1]
 grind
theorem zgm(p:Nat->Rat)(t:Nat)(out:LN)(b i:Nat):zd8 p t (out++[b]) i=if i=b then zd8 p t out i-1 else zd8 p t out i:=by
 unfold zd8
 by_cases h:i=b
 ·subst h;rw[if_pos rfl,List.count_append,List.count_singleton_self,show((out.count i+1:Nat):Rat)=(out.count i:Rat)+1 from Rat.natCast_add _ 1]
  grind
 ·rw[if_neg h,List.count_append,List.count_singleton,if_neg (by simpa using λe=>h e.symm),Nat.add_zero]
def zpW(w':Wo)(e:Ending)(k:Nat)(l:LN):Prop:=∃ao c,e=.returned (.tuple #[.slice ao k c,.int .i64 0])/\EU 1 zkI w' ao l
def zoS(p:Nat->Rat)(N:Nat):Prop:=(∀i,i<N->Kb 1 (p i))/\∀i,i<N->∀t u:Nat,t<=60->u<=60->Kb 1 ((t:Rat)*p i-(u:Rat))
theorem zoS.beh(h:zoS p N){t:Nat}(hi:i<N)(ht:t<=60){out:LN}(ho:out.length<=60):Kb 1 (zd8 p t out i) :=
 h.2 i hi t _ ht (Nat.le_trans List.count_le_length ho)
theorem zaI.six6{w:Wo}{B n cap:Nat}{l:List Qo}{r:Rat}(h:zaI w B (.slice (sD g 0) n cap) l)(hi:l[i]?=some (some r)):∃J1 ao1 n1 Y1 K1 ap1 m1 Z1,w.cell? ⟨g,i*4,none⟩=some (.bool J1)/\w.cell? ⟨g,i*4+1,none⟩=some (.slice ao1 n1 Y1)/\w.cell? ⟨g,i*4+2,none⟩=some (.bool K1)/\w.cell? ⟨g,i*4+3,none⟩=some (.slice ap1 m1 Z1)/\zad w (qA J1 ao1 n1 Y1 K1 ap1 m1 Z1) r/\∀j,w.frozen? ⟨g,j,none⟩=false:=by
 obtain⟨ao,c,e,hu⟩:=h.read;simp only[Value.slice.injEq]at e;obtain⟨rfl,-,-⟩:=e;obtain⟨b,off,J1,ao1,n1,Y1,K1,ap1,m1,Z1,e2,f,hv⟩:=hu i (some r) hi;simp only[Option.some.injEq,Addr.mk.injEq,and_true]at e2;obtain⟨rfl,rfl⟩:=e2;obtain⟨xs,h1,_⟩:=h;obtain⟨f0,f1,f2,f3,_,_,_,_⟩:=f;rw[Nat.zero_add]at f0 f1 f2 f3;exact⟨J1,ao1,n1,Y1,K1,ap1,m1,Z1,f0,f1,f2,f3,hv,λj=>za0 h1 j⟩
theorem zhd(sh:List ((Nat×Nat)×Rat))(p:Nat->Rat)(k:Nat)(aL:OA)(cL:Nat)(w:Wo)(hk60:k<=60)(hN1:1<=sh.length)(hN2:sh.length<=20)(Hp:Hid (∀(i:Nat)(s:(Nat×Nat)×Rat),sh[i]?=some s->s.2=p i))(HK:Hid (zoS p sh.length))(HP:Hid (zav ((shQ sh).map (·.2))=0))(uL:EU 6 zaL w aL (shQ sh))(hE:Env w) :
  CP 18 #[.slice aL sh.length cL,.int .i64 (k:Nat)] w λe w'=>zpW w' e k (zgG p sh.length k)/\BH w w':=by
 have hbw:=Below.refl w.heap.size w;have HPO:=zhI (shQ sh) aL cL w (by simp[shQ];omega) uL hE;rw[HP.o,show(shQ sh).length=sh.length by simp[shQ]]at HPO;obtain⟨sn,hN⟩:∃sn,sh.length=sn:=⟨_,rfl⟩;have HN:=hii hN;rw[hN]at hN1 hN2 HPO HK|-;have hd1:decide ((k:Int)<0)=false:=decide_eq_false oM;have hd2:decide ((1000:Int)<(k:Int))=false:=decide_eq_false oM;have hd3:((sn:Int)==0)=false:=by simp;omega
 clear hN HP;go_enter func18,ntmps18;go_wp2_with fail;(with_reducible refine HPO.mono ?_);rintro e w1⟨rfl,hb⟩;have hE1:=hE.mono hb;have hbw:=bu hbw hb;clear hb HPO hd1 hd2 hd3;have hB1:w.heap.size<=w1.heap.size:=hbw.size;go_wp2_with fail;go_loopw [7,32] (λv s wr=>∃i:Nat,i<=sn/\s=.int .i64 i/\zaI wr w.heap.size v (List.replicate i (some (0:Rat)))/\Hid (BH w wr)) (λ_ s _=>sn-(intOf s).toNat)
 case atStart=>exact⟨0,Nat.zero_le _,rfl,zaI.nil _ _,hii hbw⟩
 case round=>
  clear hbw hB1;obtain⟨i,hi,rfl,hO,Hbw⟩:=hrel
  by_cases hli:i<sn
  ·have hEr:=hE.mono Hbw.o;have HL:Hid ((List.replicate i (some (0:Rat)):List Qo).length<=100000):=hii (by simp;omega);have hiN:(i:Int)<(sn:Int):=oM;go_wp2_with fail;go_fit (zaK 0 dM dM wr hEr);rintro e wx⟨hz,hb⟩;obtain⟨J1,ao1,n1,Y1,K1,ap1,m1,Z1,rfl,hV⟩:=hz.rat;have hV:zad wx (qA J1 ao1 n1 Y1 K1 ap1 m1 Z1) 0:=hV;have hO:=hO.mono hb;have hbx:=Below.step Hbw.o hb nl;clear hz hb;go_wp2_with (at_builtin;go_loud (refine zop _ w w.heap.size rfl (.tmp 34) (.tmp 36) rfl rfl rfl hO hbx.size hbx hV HL.o ?_);intro v2 w6 hO2 hb2);rw[show(List.replicate i (some (0:Rat))++[some 0]:List Qo)=List.replicate (i+1) (some 0) by rw[List.replicate_succ']]at hO2;go_roundw
   case rel=>exact⟨i+1,oM,gM,hO2,hii hb2⟩
   case measure=>exact mM
  ·have hiN:i=sn:=oM;rw[hiN]at hO;have hi2:¬(i:Int)<(sn:Int):=oM;obtain⟨b7,c7,e7⟩:=hO.addr' (by simp;omega);rw[List.length_replicate]at e7;subst e7;have hpt:(List.replicate sn (some (0:Rat)):List Qo)=ptL (zd8 p 0 (zgG p sn 0)) sn:=by
    refine List.ext_getElem? λj=>?_
    rw[List.getElem?_replicate]
    by_cases hj:j<sn
    ·rw[if_pos hj,zbV hj];unfold zd8 zgG;rw[List.count_nil]
     congr 2
     have e1:((0:Nat):Rat)=0:=rfl;rw[e1]
     grind
    ·rw[if_neg hj,List.getElem?_eq_none (by rw[zba];omega)]
   rw[hpt]at hO;obtain⟨wL,rfl⟩:=exi wr;have H7:=hii (hO.lt b7 rfl);have hOut:za6 3 1 zkI wL wL.heap.size nS_ (zgG p sn 0):=za6.nil _ _;clear hpt hiN hli;go_wp2_with fail;clear hi2;go_loopw [8,40] (λv s wr=>∃t:Nat,t<=k/\s=.int .i64 t/\zaI wr w.heap.size (.slice (sD b7 0) sn c7) (ptL (zd8 p t (zgG p sn t)) sn)/\za6 3 1 zkI wr wL.heap.size v (zgG p sn t)/\Hid (BH w wr)/\Hid (wL.heap.size<=wr.heap.size)) (λ_ s _=>k-(intOf s).toNat)
   case atStart=>exact⟨0,Nat.zero_le _,rfl,hO,hOut,Hbw,hii nl⟩
   case round=>
    clear hO hOut Hbw;obtain⟨t,ht,rfl,hO,hOut,Hbw,HLs⟩:=hrel
    by_cases hlt:t<k
    ·obtain⟨out,hout⟩:∃o,zgG p sn t=o:=⟨_,rfl⟩;have Hout:=hii hout;have HoL:Hid (out.length<=60):=hii (by rw[<-hout,zeZ];omega);rw[hout]at hO hOut;obtain⟨gn,hG⟩:∃gn:Nat->Rat,gn=zd8 p (t+1) out:=⟨_,rfl⟩;have HG:=hii hG;have hO:zaI wr w.heap.size (.slice (sD b7 0) sn c7) (ptL (λj=>if j<0 then gn j else zd8 p t out j) sn):=by simpa using hO
     have htk:(t:Int)<(k:Int):=oM;clear hout hG;go_wp2_with fail;clear htk;go_loopw [9,44] (λbst s wr=>∃i:Nat,i<=sn/\s=.int .i64 i/\bst=.int .i64 (zbx gn i:Nat)/\zaI wr w.heap.size (.slice (sD b7 0) sn c7) (ptL (λj=>if j<i then gn j else zd8 p t out j) sn)/\za6 3 1 zkI wr wL.heap.size u8 out/\Hid (BH w wr)/\Hid (wL.heap.size<=wr.heap.size)) (λ_ s _=>sn-(intOf s).toNat)
     case atStart=>exact⟨0,Nat.zero_le _,rfl,rfl,hO,hOut,Hbw,HLs⟩
     case round=>
      clear hO hOut Hbw HLs;obtain⟨i,hi,rfl,rfl,hO,hOut,Hbw,HLs⟩:=hrel
      by_cases hli:i<sn
      ·obtain⟨⟨⟨r,s⟩,x⟩,hx⟩:∃x,sh[i]?=some x:=⟨sh[i]'(by rw[HN.o];exact hli),gE _⟩;have hxp:x=p i:=Hp.o i _ hx;have hxL:(shQ sh)[i]?=some ((r,s),some x):=by unfold shQ;rw[List.getElem?_map,hx];rfl
       obtain⟨bL,offL,J2,ao2,n2,Y2,K2,ap2,m2,Z2,ea,hvp,h0,h1,h2,h3,h4,h5⟩:=(uL.mono zag Hbw.o).six hxL;have hvp:zad wr (qA J2 ao2 n2 Y2 K2 ap2 m2 Z2) (p i):=by rw[<-hxp];exact hvp
       obtain⟨J1,ao1,n1,Y1,K1,ap1,m1,Z1,b0,b1,b2,b3,hvb,hfr⟩:=hO.six6 (i:=i) (zbV hli);have hvb:zad wr (qA J1 ao1 n1 Y1 K1 ap1 m1 Z1) (zd8 p t out i):=by simpa using hvb
       have HGi:Hid (zd8 p t out i+p i=gn i):=hii (by rw[HG.o,zlv]);have hKi:=HK.o.beh hli (t:=t) oM HoL.o;have HAd:Hid (zcI (zd8 p t out i) (p i)):=hii (hKi.addS (HK.o.1 i hli) dM);have hble:=zd3 gn i;have hbi:zbx gn i<=i:=oM;obtain⟨q,hq⟩:∃q,zbx gn i=q:=⟨_,rfl⟩;have Hq:=hii hq;rw[hq]at hbi|-;have hqN:q<sn:=oM
       have HCr:Hid (CrS (gn i) (gn q)):=hii (by
        rw[HG.o];exact(HK.o.beh hli oM HoL.o).crS (HK.o.beh hqN oM HoL.o) dM)
       have hEr:=hE.mono Hbw.o;have hiN:(i:Int)<(sn:Int):=oM;have hqI:(q:Int)<(sn:Int):=oM;subst ea;clear hx hxp hxL h0 h1 hKi hble hq;have hbr:=Below.refl wr.heap.size wr;go_upto_region 20 with fail;obtain⟨wc,rfl⟩:=exi wr;refine zan (wx:=wc) (λ_=>False) [(λ_ X _=>X 0=.slice (sD b7 0) sn c7),(λ_ X _=>X 1=.int .i64 i),(λ_ X _=>X 2=.pointer (some ⟨b7,i*4,none⟩)),(λ_ X _=>X 3=.agg #[.bool J1,.slice ao1 n1 Y1,.bool K1,.slice ap1 m1 Z1]),(λ_ X _=>X 4=.slice (sD bL offL) sn cL),(λ_ X _=>X 5=.int .i64 i),(λ_ X _=>X 6=.pointer (some ⟨bL,offL+i*6,none⟩)),(λ_ X _=>X 7=.pointer (some ⟨bL,offL+i*6+2,none⟩)),(λ_ X _=>X 8=.agg #[.bool J2,.slice ao2 n2 Y2,.bool K2,.slice ap2 m2 Z2]),(λG X W=>((λ_ W v=>∃a,v=.tuple #[a,.int .i64 0]/\zad W a (gn i)):FV) G W (X 9)),(λG X W=>((λ_ W v=>∃a,v=.tuple #[a,.int .i64 0]/\zad W a (gn i)):FV) G W (X 10)),(λG X W=>((FQ (gn i)):FV) G W (X 11)),(λ_ X _=>X 12=.int .i64 0),(λ_ _ _=>True),(λ_ _ _=>True),(λ_ X _=>X 15=.int .i64 0)] [some 48,some 49,some 50,some 51,some 52,some 53,some 54,some 55,some 56,some 57,some 47,some 58,some 59,some 11,none,some 12] [none,none,none,none,none,none,none,none,none,none,none,none,none,some ⟨14,11,32,[bF_,nS_,bF_,nS_]⟩,none,none] [48,49,50,51,52,53,54,55,56,57,47,58,59,11,12] ⟨(by intro u hu k z e;subst e;simp at hu),trivial⟩ (λb h=>h) br ⟨zaa _ _ _,zaa _ _ _,zaa _ _ _,zaa _ _ _,zaa _ _ _,zaa _ _ _,zaa _ _ _,zaa _ _ _,zaa _ _ _,(zaq (F:=λ_ W v=>∃a,v=.tuple #[a,.int .i64 0]/\zad W a (gn i)) λG G' W W' v ⟨a,e,h⟩ hk hn hG=>⟨a,e,h.kept hk hn⟩),(zaq (F:=λ_ W v=>∃a,v=.tuple #[a,.int .i64 0]/\zad W a (gn i)) λG G' W W' v ⟨a,e,h⟩ hk hn hG=>⟨a,e,h.kept hk hn⟩),zaQ _,zaa _ _ _,zaj _,zaj _,zaa _ _ _,trivial⟩ ⟨⟨λ_ _ _=>trivial,λ_ _ _=>trivial⟩,trivial⟩ ⟨tX,tX,tX,?s3,tX,tX,tX,tX,?s8,?s9,?s10,?s11,?s12,?s13,?s14,tX,trivial⟩ ⟨?b13,trivial⟩ ?he
       case' s3|s8|s9|s10|s11|s12=>
        rintro-G T W hb hHG hGW hGo hNG hA K hK;simp only[yA,yB,Region.binds]at hA;simp only[sA,hA]at hK|-
       case' s3|s8|s9=>
        have HK:=hii hK;clear hK hA
       case' s3=>
        have k0:=(hb.cell (zaf b0)).trans b0;have k1:=(hb.cell (zaf b1)).trans b1;have k2:=(hb.cell (zaf b2)).trans b2;have k3:=(hb.cell (zaf b3)).trans b3
       case' s8=>
        have k2:=(hb.cell (zaf h2)).trans h2;have k3:=(hb.cell (zaf h3)).trans h3;have k4:=(hb.cell (zaf h4)).trans h4;have k5:=(hb.cell (zaf h5)).trans h5
       case s3|s8=>
        exact cK
       case s9=>
        refine wO rfl ?_;go_simp;go_fit (zps _ _ (zd8 p t out i) (p i) W (hvb.mono hb) (hvp.mono hb) HAd (hEr.mono hb));rintro e w1⟨hz,hb1⟩;rw[HGi.o]at hz;obtain⟨J7,ao7,n7,Y7,K7,ap7,m7,Z7,rfl,hV7⟩:=hz.rat
        try dsimp only
        exact HK.o _ _ (hb1) λX hX _=>by
         show((λ_ W v=>∃a,v=.tuple #[a,.int .i64 0]/\zad W a (gn i)):FV) G _ (X 9)
         exact dQ
       case s10=>
        have r9:((λ_ W v=>∃a,v=.tuple #[a,.int .i64 0]/\zad W a (gn i)):FV) G W (T 57):=hA.1;obtain⟨a6,e9,h6⟩:=r9;simp only[e9]at hK|-;have HK:=hii hK;clear hK hA;refine wO rfl ?_;go_simp;exact HK.o _ _ br λX hX _=>by
         show((λ_ W v=>∃a,v=.tuple #[a,.int .i64 0]/\zad W a (gn i)):FV) G _ (X 10)
         exact dL
       case s11=>
        have r10:((λ_ W v=>∃a,v=.tuple #[a,.int .i64 0]/\zad W a (gn i)):FV) G W (T 47):=hA.1;obtain⟨a6,e10,h6⟩:=r10;simp only[e10]at hK|-;have HK:=hii hK;clear hK hA;refine wO rfl ?_;go_simp;exact HK.o _ _ br λX hX _=>by
         show((FQ (gn i)):FV) G _ (X 11)
         exact eM
       case s12=>
        have r10:((λ_ W v=>∃a,v=.tuple #[a,.int .i64 0]/\zad W a (gn i)):FV) G W (T 47):=hA.1;obtain⟨a6,e10,h6⟩:=r10;simp only[e10]at hK|-;exact dB
       case s13=>exact λh=>absurd h dM
       case s14=>exact λh=>absurd h dM
       case b13=>
        refine⟨?_,?_⟩
        ·exact cG
        ·rintro o ho G T W nb hA hp hrow K hK;obtain rfl:=Option.some.inj ho;have ep:T 11=.pointer (sD nb 0):=hp;have r11:((FQ (gn i)):FV) G W (T 58):=hA.2.1;have r11:zad W _ (gn i):=r11;obtain⟨J8,ao8,n8,Y8,K8,ap8,m8,Z8,e11⟩:=r11.parts;have hK:=hK [.bool J8,.slice ao8 n8 Y8,.bool K8,.slice ap8 m8 Z8] (.inl e11) rfl (by intro u hu k z e;subst e;simp at hu);simp only[sA,ep,e11]at hK|-;exact cJ
       case he=>
        rintro GG N T W hb hHG hGW hGo hbox hNG hne hA;have fv:((FQ (gn i)):FV) GG W (T 58):=hA.at 11 dM;have f15:T 12=.int .i64 0:=hA.at 15 dM;obtain⟨ep,_,hge,vs,hsto,hrow⟩:=hbox 13 _ rfl;have ep:T 11=.pointer (some ⟨N 13,0,none⟩):=ep;have fv:zad W _ (gn i):=fv;obtain⟨J3,ao3,n3,Y3,K3,ap3,m3,Z3,e5⟩:=fv.parts;obtain rfl:=hsto.four e5;rw[e5]at fv;simp only[sA,ep,f15];obtain⟨g11,hg⟩:∃g,g=N 13:=⟨_,rfl⟩;rw[<-hg]at hrow hge|-;have Hg11:=hii hge;clear hA hbox hNG hne hHG hGW hGo ep f15 hsto hge e5 hg;have r11:Row W g11 32 [.bool J3,.slice ao3 n3 Y3,.bool K3,.slice ap3 m3 Z3]:=hrow;have Hg11b:Hid (¬g11=b7):=hii (by have:=Hg11.o;have:=H7.o.2;have:=HLs.o;omega);have hO:=hO.mono hb;have hOut:=hOut.mono za7 hb;have hEr:=hEr.mono hb;have Hbw:=hii (Below.step Hbw.o hb nl |>.mono nl);have HLs:=hii (Nat.le_trans HLs.o hb.size);clear hb hrow b0 b1 b2 b3 h2 h3 h4 h5 hvb hvp hfr hbr;obtain⟨wd,rfl⟩:=exi W;obtain⟨J1,ao1,n1,Y1,K1,ap1,m1,Z1,b0,b1,b2,b3,-,hfr⟩:=hO.six6 (i:=i) (zbV hli);have f0:=hfr (i*4);have f1:=hfr (i*4+1);have f2:=hfr (i*4+2);have f3:=hfr (i*4+3);obtain⟨e0,e1,e2,e3⟩:=r11.n4;have hput:=hO.put (i:=i) (o:=some (gn i)) (by rw[zba];exact hli) fv;rw[zgO (g:=λj=>if j<i+1 then gn j else zd8 p t out j) hli sM (λc hc hne=>by
         by_cases h1:c<i
         ·simp[h1,show c<i+1 by omega]
         ·simp[h1,show ¬c<i+1 by omega])]at hput
        have Hput:=hii hput;clear hput hfr hO;go_upto_region 24 with fail;clear b0 b1 b2 b3 e0 e1 e2 e3 f0 f1 f2 f3;have hkp:zah (λb=>b=b7) wd ((((wd.setCell ⟨b7,i*4,none⟩ (.bool J3)).setCell ⟨b7,i*4+1,none⟩ (.slice ao3 n3 Y3)).setCell ⟨b7,i*4+2,none⟩ (.bool K3)).setCell ⟨b7,i*4+3,none⟩ (.slice ap3 m3 Z3)) :=
         ((((zah.refl wd:zah (λb=>b=b7) wd wd).setCell (p:=⟨b7,i*4,none⟩) rfl _).setCell (p:=⟨b7,i*4+1,none⟩) rfl _).setCell (p:=⟨b7,i*4+2,none⟩) rfl _).setCell (p:=⟨b7,i*4+3,none⟩) rfl _
        have hkn:NoU (λb=>b=b7) wd:=by
         have h:=Hput.o.2.noG.u;exact λb hb=>h b (by subst hb;rfl)
        have fv:=fv.keptU hkp hkn;have r11:=r11.mono hkp Hg11b.o;have hOut:=hOut.kept za7 hkp hkn (λb e1 e2=>by have:=(hOut.lt b e1).1;have:=H7.o.2;omega);have Hbw:=hii (Hbw.o.trans (hkp.below (λb e=>by rw[e];exact H7.o.1) Hbw.o.size));have HLs:=hii (Nat.le_trans HLs.o hkp.size);have hEr:=hE.mono Hbw.o;have hO:=Hput.o.1;clear hkp hkn;generalize (((wd.setCell ⟨b7,i*4,none⟩ (.bool J3)).setCell ⟨b7,i*4+1,none⟩ (.slice ao3 n3 Y3)).setCell ⟨b7,i*4+2,none⟩ (.bool K3)).setCell ⟨b7,i*4+3,none⟩ (.slice ap3 m3 Z3)=we at*;obtain⟨J1,ao1,n1,Y1,K1,ap1,m1,Z1,b0,b1,b2,b3,hvb,-⟩:=hO.six6 (i:=q) (zbV hqN);have hvb:zad we (qA J1 ao1 n1 Y1 K1 ap1 m1 Z1) (gn q):=by simpa [show q<i+1 by omega]using hvb
        obtain⟨cc,hcc⟩:∃x,Rq.cmpQ (gn i) (gn q)=x:=⟨_,rfl⟩;have Hcc:=hii hcc;clear hcc;refine zae (wx:=we) [vf (.agg #[.bool J3,.slice ao3 n3 Y3,.bool K3,.slice ap3 m3 Z3]),vf (.slice (sD b7 0) sn c7),vf (.int .i64 q),vf (.pointer (some ⟨b7,q*4,none⟩)),vf (.agg #[.bool J1,.slice ao1 n1 Y1,.bool K1,.slice ap1 m1 Z1]),vf (.tuple #[.int .i64 cc,.int .i64 0]),vf (.tuple #[.int .i64 cc,.int .i64 0]),vf (.int .i64 cc),vf (.int .i64 0),vf (.int .i64 cc),vf (.int .i64 0)] [68,69,70,71,72,73,67,74,75,13,12] br zS ⟨?s0,tV,tV,tV,?s4,?s5,tV,tV,tV,tV,tV,trivial⟩ ?he
        case' s0|s4|s5=>
         rintro T W hb hA K hK;simp only[yA,Region.binds]at hA;simp only[sA,hA]at hK|-;have HK:=hii hK;clear hK hA
        case' s0=>
         obtain⟨e0,e1,e2,e3⟩:=(r11.below hb).n4
        case' s4=>
         have k0:=(hb.cell (zaf b0)).trans b0;have k1:=(hb.cell (zaf b1)).trans b1;have k2:=(hb.cell (zaf b2)).trans b2;have k3:=(hb.cell (zaf b3)).trans b3
        case s0|s4=>
         exact cH
        case s5=>
         refine wO rfl ?_;go_simp;go_fit (zkB _ _ (gn i) (gn q) W (fv.mono hb) (hvb.mono hb) HCr (hEr.mono hb));rw[Hcc.o];rintro e w1⟨rfl,hb1⟩
         try dsimp only
         exact d6
        case he=>
         rintro T W hb hA;have f9:T 13=.int .i64 cc:=hA.at 9 dM;have f10:T 12=.int .i64 0:=hA.at 10 dM;simp only[sA,f9,f10];have hO:=hO.mono hb;have hOut:=hOut.mono za7 hb;have Hbw:=hii (Below.step Hbw.o hb nl |>.mono nl);have HLs:=hii (Nat.le_trans HLs.o hb.size);have hgt:=zfn (gn i) (gn q);rw[Hcc.o]at hgt;clear hA f9 f10 hb b0 b1 b2 b3 hvb hEr r11 fv
         by_cases hgx:gn q<gn i
         ·have hd:decide (0<cc)=true:=by rw[hgt];exact decide_eq_true hgx
          have hd0:(0:Int)<cc:=of_decide_eq_true hd;have HB:Hid (zbx gn (i+1)=i):=hii (by simp only[zbx];rw[Hq.o,if_pos hgx]);clear hgt hd hgx;go_wp2;go_roundw
          case rel=>exact⟨i+1,oM,gM,by rw[HB.o],hO,hOut,Hbw,HLs⟩
          case measure=>exact mM
         ·have hd:decide (0<cc)=false:=by rw[hgt];exact decide_eq_false hgx
          have hd0:¬(0:Int)<cc:=of_decide_eq_false hd;have HB:Hid (zbx gn (i+1)=q):=hii (by simp only[zbx];rw[Hq.o,if_neg hgx]);clear hgt hd hgx;go_wp2;go_roundw
          case rel=>exact⟨i+1,oM,gM,by rw[HB.o],hO,hOut,Hbw,HLs⟩
          case measure=>exact mM
      ·have hiN:i=sn:=oM;have hble:=zd3 gn sn;rw[hiN]at hO;obtain⟨q,hq⟩:∃q,zbx gn i=q:=⟨_,rfl⟩;have hqN:q<sn:=by rw[<-hq,hiN];omega
       have Hq:Hid (zbx gn sn=q):=hii (by rw[<-hq,hiN]);rw[hq];have hi2:¬(i:Int)<(sn:Int):=oM;have hqI:(q:Int)<(sn:Int):=oM;obtain⟨J1,ao1,n1,Y1,K1,ap1,m1,Z1,b0,b1,b2,b3,hvb,-⟩:=hO.six6 (i:=q) (zbV hqN);have hvb:zad wr (qA J1 ao1 n1 Y1 K1 ap1 m1 Z1) (gn q):=by simpa [hqN]using hvb
       have HSb:Hid (zku (gn q) 1):=hii (by rw[HG.o];exact(HK.o.beh hqN oM HoL.o).subS (zbQ zei dM) dM);have hEr:=hE.mono Hbw.o;clear hq hble hiN hli;go_upto_region 30 with fail;clear hi2;obtain⟨wc,rfl⟩:=exi wr;refine zan (wx:=wc) (λ_=>False) [(λ_ X _=>X 0=.slice (sD b7 0) sn c7),(λ_ X _=>X 1=.int .i64 q),(λ_ X _=>X 2=.pointer (some ⟨b7,q*4,none⟩)),(λ_ X _=>X 3=.agg #[.bool J1,.slice ao1 n1 Y1,.bool K1,.slice ap1 m1 Z1]),(λG X W=>((FQ 1):FV) G W (X 4)),(λG X W=>((λ_ W v=>∃a,v=.tuple #[a,.int .i64 0]/\zad W a (gn q-1)):FV) G W (X 5)),(λG X W=>((λ_ W v=>∃a,v=.tuple #[a,.int .i64 0]/\zad W a (gn q-1)):FV) G W (X 6)),(λG X W=>((FQ (gn q-1)):FV) G W (X 7)),(λ_ X _=>X 8=.int .i64 0),(λ_ _ _=>True),(λ_ _ _=>True),(λ_ X _=>X 11=.int .i64 0)] [some 84,some 85,some 86,some 87,some 88,some 89,some 83,some 90,some 91,some 14,none,some 15] [none,none,none,none,none,none,none,none,none,some ⟨10,7,32,[bF_,nS_,bF_,nS_]⟩,none,none] [84,85,86,87,88,89,83,90,91,14,15] ⟨(by intro u hu k z e;subst e;simp at hu),trivial⟩ (λb h=>h) br ⟨zaa _ _ _,zaa _ _ _,zaa _ _ _,zaa _ _ _,zaQ _,(zaq (F:=λ_ W v=>∃a,v=.tuple #[a,.int .i64 0]/\zad W a (gn q-1)) λG G' W W' v ⟨a,e,h⟩ hk hn hG=>⟨a,e,h.kept hk hn⟩),(zaq (F:=λ_ W v=>∃a,v=.tuple #[a,.int .i64 0]/\zad W a (gn q-1)) λG G' W W' v ⟨a,e,h⟩ hk hn hG=>⟨a,e,h.kept hk hn⟩),zaQ _,zaa _ _ _,zaj _,zaj _,zaa _ _ _,trivial⟩ ⟨⟨λ_ _ _=>trivial,λ_ _ _=>trivial⟩,trivial⟩ ⟨tX,tX,tX,?s3,?s4,?s5,?s6,?s7,?s8,?s9,?s10,tX,trivial⟩ ⟨?b9,trivial⟩ ?he
       case' s3|s4|s5|s6|s7|s8=>
        rintro-G T W hb hHG hGW hGo hNG hA K hK;simp only[yA,yB,Region.binds]at hA;simp only[sA,hA]at hK|-
       case' s3|s4=>
        have HK:=hii hK;clear hK hA
       case s3=>
        have k0:=(hb.cell (zaf b0)).trans b0;have k1:=(hb.cell (zaf b1)).trans b1;have k2:=(hb.cell (zaf b2)).trans b2;have k3:=(hb.cell (zaf b3)).trans b3;exact cK
       case s4=>
        refine wO rfl ?_;go_simp;go_fit (zaK 1 dM dM W (hEr.mono hb));rintro e w1⟨hz,hb1⟩;obtain⟨J5,ao5,n5,Y5,K5,ap5,m5,Z5,rfl,hV5⟩:=hz.rat;have hV5:zad w1 (qA J5 ao5 n5 Y5 K5 ap5 m5 Z5) 1:=hV5
        try dsimp only
        exact HK.o _ _ (hb1) λX hX _=>by
         show((FQ 1):FV) G _ (X 4)
         rw[hX];exact hV5
       case s5=>
        have r4:((FQ 1):FV) G W (T 88):=hA.2.1;have r4:zad W _ 1:=r4;obtain⟨J6,ao6,n6,Y6,K6,ap6,m6,Z6,e4⟩:=r4.parts;rw[e4]at r4;simp only[e4]at hK|-;have HK:=hii hK;clear hK hA;refine wO rfl ?_;go_simp;go_fit (zot _ _ (gn q) 1 W (hvb.mono hb) r4 HSb (hEr.mono hb));rintro e w1⟨hz,hb1⟩;obtain⟨J7,ao7,n7,Y7,K7,ap7,m7,Z7,rfl,hV7⟩:=hz.rat
        try dsimp only
        exact HK.o _ _ (hb1) λX hX _=>by
         show((λ_ W v=>∃a,v=.tuple #[a,.int .i64 0]/\zad W a (gn q-1)):FV) G _ (X 5)
         exact dQ
       case s6=>
        have r5:((λ_ W v=>∃a,v=.tuple #[a,.int .i64 0]/\zad W a (gn q-1)):FV) G W (T 89):=hA.1;obtain⟨a6,e5,h6⟩:=r5;simp only[e5]at hK|-;have HK:=hii hK;clear hK hA;refine wO rfl ?_;go_simp;exact HK.o _ _ br λX hX _=>by
         show((λ_ W v=>∃a,v=.tuple #[a,.int .i64 0]/\zad W a (gn q-1)):FV) G _ (X 6)
         exact dL
       case s7=>
        have r6:((λ_ W v=>∃a,v=.tuple #[a,.int .i64 0]/\zad W a (gn q-1)):FV) G W (T 83):=hA.1;obtain⟨a6,e6,h6⟩:=r6;simp only[e6]at hK|-;have HK:=hii hK;clear hK hA;refine wO rfl ?_;go_simp;exact HK.o _ _ br λX hX _=>by
         show((FQ (gn q-1)):FV) G _ (X 7)
         exact eM
       case s8=>
        have r6:((λ_ W v=>∃a,v=.tuple #[a,.int .i64 0]/\zad W a (gn q-1)):FV) G W (T 83):=hA.1;obtain⟨a6,e6,h6⟩:=r6;simp only[e6]at hK|-;exact dB
       case s9=>exact λh=>absurd h dM
       case s10=>exact λh=>absurd h dM
       case b9=>
        refine⟨?_,?_⟩
        ·exact cG
        ·rintro o ho G T W nb hA hp hrow K hK;obtain rfl:=Option.some.inj ho;have ep:T 14=.pointer (sD nb 0):=hp;have r7:((FQ (gn q-1)):FV) G W (T 90):=hA.2.1;have r7:zad W _ (gn q-1):=r7;exact d9
       case he=>
        rintro GG N T W hb hHG hGW hGo hbox hNG hne hA;have fv:((FQ (gn q-1)):FV) GG W (T 90):=hA.at 7 dM;have f11:T 15=.int .i64 0:=hA.at 11 dM;obtain⟨ep,_,hge,vs,hsto,hrow⟩:=hbox 9 _ rfl;have ep:T 14=.pointer (some ⟨N 9,0,none⟩):=ep;have fv:zad W _ (gn q-1):=fv;obtain⟨J3,ao3,n3,Y3,K3,ap3,m3,Z3,e5⟩:=fv.parts;obtain rfl:=hsto.four e5;rw[e5]at fv;simp only[sA,ep,f11];obtain⟨g14,hg⟩:∃g,g=N 9:=⟨_,rfl⟩;rw[<-hg]at hrow hge|-;have Hg14:=hii hge;clear hA hbox hNG hne hHG hGW hGo ep f11 hsto hge e5 hg;have r14:Row W g14 32 [.bool J3,.slice ao3 n3 Y3,.bool K3,.slice ap3 m3 Z3]:=hrow;have Hg14b:Hid (¬g14=b7):=hii (by have:=Hg14.o;have:=H7.o.2;have:=HLs.o;omega);have hO:=hO.mono hb;have hOut:=hOut.mono za7 hb;have Hbw:=hii (Below.step Hbw.o hb nl |>.mono nl);have HLs:=hii (Nat.le_trans HLs.o hb.size);clear hb hrow b0 b1 b2 b3 hvb hEr;obtain⟨wd,rfl⟩:=exi W;obtain⟨J1,ao1,n1,Y1,K1,ap1,m1,Z1,b0,b1,b2,b3,-,hfr⟩:=hO.six6 (i:=q) (zbV hqN);have f0:=hfr (q*4);have f1:=hfr (q*4+1);have f2:=hfr (q*4+2);have f3:=hfr (q*4+3);obtain⟨e0,e1,e2,e3⟩:=r14.n4;have hput:=hO.put (i:=q) (o:=some (gn q-1)) (by rw[zba];exact hqN) fv;rw[zgO (g:=zd8 p (t+1) (out++[q])) hqN (by rw[zgm,if_pos rfl,HG.o]) (λc hc hne=>by rw[zgm,if_neg hne,if_pos hc,HG.o])]at hput;have Hput:=hii hput;have HSS:Hid (zgG p sn (t+1)=out++[q]):=hii (by
         show zgG p sn t++[zbx (λi=>zd8 p (t+1) (zgG p sn t) i) sn]=_
         rw[Hout.o,<-Hq.o,HG.o])
        have HoL2:Hid (out.length<=1000000):=hii (by have:=HoL.o;omega);clear hput hfr hO;go_upto_region 34 with fail;clear b0 b1 b2 b3 e0 e1 e2 e3 f0 f1 f2 f3;have hkp:zah (λb=>b=b7) wd ((((wd.setCell ⟨b7,q*4,none⟩ (.bool J3)).setCell ⟨b7,q*4+1,none⟩ (.slice ao3 n3 Y3)).setCell ⟨b7,q*4+2,none⟩ (.bool K3)).setCell ⟨b7,q*4+3,none⟩ (.slice ap3 m3 Z3)) :=
         ((((zah.refl wd:zah (λb=>b=b7) wd wd).setCell (p:=⟨b7,q*4,none⟩) rfl _).setCell (p:=⟨b7,q*4+1,none⟩) rfl _).setCell (p:=⟨b7,q*4+2,none⟩) rfl _).setCell (p:=⟨b7,q*4+3,none⟩) rfl _
        have hkn:NoU (λb=>b=b7) wd:=by
         have h:=Hput.o.2.noG.u;exact λb hb=>h b (by subst hb;rfl)
        have hOut:=hOut.kept za7 hkp hkn (λb e1 e2=>by have:=(hOut.lt b e1).1;have:=H7.o.2;omega);have Hbw:=hii (Hbw.o.trans (hkp.below (λb e=>by rw[e];exact H7.o.1) Hbw.o.size));have HLs:=hii (Nat.le_trans HLs.o hkp.size);have hO:=Hput.o.1;clear hkp hkn fv r14;generalize (((wd.setCell ⟨b7,q*4,none⟩ (.bool J3)).setCell ⟨b7,q*4+1,none⟩ (.slice ao3 n3 Y3)).setCell ⟨b7,q*4+2,none⟩ (.bool K3)).setCell ⟨b7,q*4+3,none⟩ (.slice ap3 m3 Z3)=we at*;go_wp2_with (at_builtin;go_loud (refine zkg zkI za7 Tryz.slice55 Tryz.info3 rfl dM dM zpx we we wL.heap.size rfl (.tmp 99) (.tmp 101) rfl (a:=q) rfl rfl hOut HLs.o br rfl (λu hu=>by simp at hu;subst hu;rfl) zpx rfl HoL2.o ?_);intro v2 w6 hO2 hb2 hk2 _);have hO:=hO.keptU hk2 hOut.noU (λb e1 e2=>by
         have:=(hOut.lt b e2).1;have:=H7.o.2;simp only[Value.ownBlock,Option.some.injEq]at e1;omega)
        have Hbw:=hii (Hbw.o.trans (hb2.mono (by have:=H7.o;omega)));have HLs:=hii (Nat.le_trans HLs.o hb2.size);rw[<-HSS.o]at hO hO2;go_roundw
        case rel=>exact⟨t+1,oM,gM,hO,hO2,Hbw,HLs⟩
        case measure=>exact mM
    ·have htk:t=k:=oM;rw[htk]at hOut;have ht2:¬(t:Int)<(k:Int):=oM;obtain⟨ao,c,e8,_,hu⟩:=hOut.read;rw[zeZ]at e8;subst e8;clear htk hlt;go_wp2;go_ret2;exact⟨⟨_,_,rfl,hu⟩,Hbw.o⟩
theorem zjv{v1 v2:Vl}{r:Rat}{w:Wo}(h1:zad w v1 r)(h2:zad w v2 r)(hE:Env w):CP 13 #[v1,v2] w λe w'=>e=.returned (.bool true)/\BH w w':=by
 obtain⟨_,_,_,_,_,_,_,_,rfl,a1,a2⟩:=h1;obtain⟨_,_,_,_,_,_,_,_,rfl,b1,b2⟩:=h2;exact zfl _ _ _ _ w (hii ⟨rfl,rfl⟩) a1 a2 b1 b2 hE
def zbh:LN:=[3,5,6]
theorem zjT:zfA zbh 3:=⟨⟨dM,dM⟩,dM,dM,dM⟩
def hf:Rat:=Rat.divInt 1 2
theorem znK:WkM zbh zbh hf [1,1,1] 3 :=
 ⟨dM,zjT,zjT,dM,rfl,dM,dM,⟨6,by decide+kernel,dM⟩,λc hc=>⟨12,by simp at hc;subst hc;decide+kernel,dM⟩,λc hc=>by simp at hc;subst hc;decide⟩
theorem zcR(n:Nat)(f g:Nat->Rat):Du.sm n f+Du.sm n g=Du.sm n λk=>f k+g k:=by
 induction n with
 |zero=>show(0:Rat)+0=0;grind
 |succ n ih=>
  show Du.sm n f+f n+(Du.sm n g+g n)=Du.sm n (λk=>f k+g k)+(f n+g n)
  rw[<-ih];grind
theorem zo5{ld:Rat}{P Q:List Rat}(B:Bal (prs zbh zbh) hf [1,1,1] 3 (prs zbh zbh).length M ld P Q):ld=Rat.divInt 2 3:=by
 have h1:=B.col 0 (3,3) rfl;have h2:=B.col 4 (5,5) rfl;have h3:=B.col 8 (6,6) rfl;have h4:=B.one;have e1:∀q:Nat×Nat,Du.sm 3 (λi=>wt hf q i*Q.getD i 0)=wt hf q 0*Q.getD 0 0+wt hf q 1*Q.getD 1 0+wt hf q 2*Q.getD 2 0:=λq=>by
  show(0:Rat)+_+_+_=_
  grind
 have e2:Du.sm 3 (λi=>[(1:Rat),1,1].getD i 0*Q.getD i 0)=Q.getD 0 0+Q.getD 1 0+Q.getD 2 0:=by
  show(0:Rat)+1*_+1*_+1*_=_
  grind
 rw[e1]at h1 h2 h3;rw[e2]at h4;have a1:wt hf (3,3) 0=1/\wt hf (3,3) 1=1/\wt hf (3,3) 2=0:=by decide+kernel
 have a2:wt hf (5,5) 0=1/\wt hf (5,5) 1=0/\wt hf (5,5) 2=1:=by decide+kernel
 have a3:wt hf (6,6) 0=0/\wt hf (6,6) 1=1/\wt hf (6,6) 2=1:=by decide+kernel
 rw[a1.1,a1.2.1,a1.2.2]at h1;rw[a2.1,a2.2.1,a2.2.2]at h2;rw[a3.1,a3.2.1,a3.2.2]at h3;have r0:=B.row 0 dM;have r1:=B.row 1 dM;have r2:=B.row 2 dM;have hs:=B.sum;have key:Du.sm (prs zbh zbh).length (λk=>wt hf ((prs zbh zbh).getD k (0,0)) 0*P.getD k 0)+Du.sm (prs zbh zbh).length (λk=>wt hf ((prs zbh zbh).getD k (0,0)) 1*P.getD k 0)+Du.sm (prs zbh zbh).length (λk=>wt hf ((prs zbh zbh).getD k (0,0)) 2*P.getD k 0)=2:=by
  rw[zcR,zcR];have h:∀q∈prs zbh zbh,wt hf q 0+wt hf q 1+wt hf q 2=2:=by decide+kernel
  rw[Du.sm_congr _ _ (λk=>P.getD k 0*2) λk hk=>?_,Sx.sm_mulr,hs]
  ·grind
  ·have hm:(prs zbh zbh).getD k (0,0)∈prs zbh zbh:=by
    rw[List.getD_eq_getElem?_getD,gE hk];exact List.getElem_mem hk
   have:=h _ hm
   show wt hf ((prs zbh zbh).getD k (0,0)) 0*P.getD k 0+wt hf ((prs zbh zbh).getD k (0,0)) 1*P.getD k 0+wt hf ((prs zbh zbh).getD k (0,0)) 2*P.getD k 0=P.getD k 0*2
   rw[<-this];grind
 have c0:[(1:Rat),1,1].getD 0 0=1/\[(1:Rat),1,1].getD 1 0=1/\[(1:Rat),1,1].getD 2 0=1:=dM;rw[c0.1]at r0;rw[c0.2.1]at r1;rw[c0.2.2]at r2;have e23:Rat.divInt 2 3=(2:Rat) / 3:=by decide+kernel
 rw[e23];generalize Du.sm (prs zbh zbh).length (λk=>wt hf ((prs zbh zbh).getD k (0,0)) 0*P.getD k 0)=s0 at*;generalize Du.sm (prs zbh zbh).length (λk=>wt hf ((prs zbh zbh).getD k (0,0)) 1*P.getD k 0)=s1 at*;generalize Du.sm (prs zbh zbh).length (λk=>wt hf ((prs zbh zbh).getD k (0,0)) 2*P.getD k 0)=s2 at*;generalize Q.getD 0 0=q0 at*;generalize Q.getD 1 0=q1 at*;generalize Q.getD 2 0=q2 at*;clear e1 e2 hs;refine Rat.le_antisymm ?_ ?_<;>grind
theorem znU:zgG (λ_=>hf) 2 3=[0,1,0]:=by decide+kernel
theorem zjE(n:Nat):((n:Nat):Rat)=((n:Int):Rat):=rfl
theorem zmr(hD:D≠0)(h:∀i,i<N->Sx.Wh (p i*(D:Rat)) M)(hb:60*M+60*D.natAbs<=KK):zoS p N:=by
 have hd:D.natAbs<=KK:=oM;refine⟨λi hi=>zcs hD hd (h i hi) oM,λi hi t u ht hu=>?_⟩;have h1:=h i hi;obtain⟨z,hz,hzM⟩:=h1;have e:((t:Rat)*p i-(u:Rat))*(D:Rat)=(((t:Int)*z-(u:Int)*D:Int):Rat):=by
  rw[Rat.intCast_sub,Rat.intCast_mul,Rat.intCast_mul,<-hz,zjE,zjE];grind
 refine zcs hD hd ⟨(t:Int)*z-(u:Int)*D,e,?_⟩ hb;have a1:((t:Int)*z).natAbs<=60*M:=by rw[Int.natAbs_mul,Int.natAbs_natCast];exact Nat.mul_le_mul ht hzM
 have a2:((u:Int)*D).natAbs<=60*D.natAbs:=by rw[Int.natAbs_mul,Int.natAbs_natCast];exact Nat.mul_le_mul hu nl
 omega
def sh2:List ((Nat×Nat)×Rat):=[((0,0),hf),((0,0),hf)]
theorem zpL:ShD 2 2 sh2:=⟨⟨dM,dM,dM⟩,dM,λs hs=>by simp[sh2]at hs;subst hs;decide,λs hs=>⟨1,by simp[sh2]at hs;subst hs;decide+kernel,dM⟩⟩
theorem zn6:zav ((shQ sh2).map (·.2))=0:=by
 rw[zpL.parts];have:zbc (sh2.map (·.2))=1:=by decide+kernel
 rw[this];rfl
theorem zol:zh6 zbh 3=0:=by decide+kernel
theorem zbZ(p q:Int)(w:Wo)(hp1:-9223372036854775808<=p)(hp2:p<=9223372036854775807)(hq1:-9223372036854775808<=q)(hq2:q<=9223372036854775807)(hq:Hid (q≠0))(hE:Env w) :
  CP 12 #[.int .i64 p,.int .i64 q] w λe w'=>zd7 w' (Rat.divInt p q) e/\BH w w':=by
 have hbw:=Below.refl w.heap.size w;go_enter func12,ntmps12;go_upto_region 1 with fail;obtain⟨w1,gR,hw9,hg9,hb,rR⟩:=bxr w [bF_,nS_,bF_,nS_] 32;rw[<-hw9,<-hg9];have HgR:Hid (w.heap.size<=gR):=hii (by have:=hbw.size;omega);clear hw9 hg9;have hE:=hE.mono hb;have hbw:=bu hbw hb;clear hb;go_wp2_with fail;go_fit (zes p q w1 hp1 hp2 hq1 hq2 hq hE);rintro e w2⟨hz,hb⟩;obtain⟨J1,ao1,n1,Y1,K1,ap1,m1,Z1,rfl,hV⟩:=hz.rat;have rR:=rR.below hb;have hbw:=bu hbw hb;clear hb;clear hz;go_upto_region 2 with fail;obtain⟨w3,g3,hw9,hg9,hb,r3⟩:=bxr w2 [.bool J1,.slice ao1 n1 Y1,.bool K1,.slice ap1 m1 Z1] 32;rw[<-hw9,<-hg9];have Hg3:Hid (w.heap.size<=g3):=hii (by have:=hbw.size;omega);clear hw9 hg9;have hV:=hV.mono hb;have rR:=rR.below hb;have hbw:=bu hbw hb;clear hb;obtain⟨c0,c1,c2,c3⟩:=r3.n4;obtain⟨d0,d1,d2,d3⟩:=rR.n4;have f:=rR.free;go_wp2;obtain⟨q9,hk,hV⟩:=zfy rR zhK (.bool J1) (.slice ao1 n1 Y1) (.bool K1) (.slice ap1 m1 Z1) hV;obtain⟨e0,e1,e2,e3⟩:=q9.n4;refine bodyPost_ret (v:=.agg #[.bool J1,.slice ao1 n1 Y1,.bool K1,.slice ap1 m1 Z1]) (by simp[results,Tryz.results12,go_sem,e0,e1,e2,e3]) rfl ⟨zd7.mk hV,?_⟩;exact cT
theorem zhh(l:LN)(aa ab:OA)(ca cb:Nat)(w:Wo)(hl:l.length<=1000000)(ua:EU 1 zkI w aa l)(ub:EU 1 zkI w ab l) :
  CP 27 #[.slice aa l.length ca,.slice ab l.length cb] w λe w'=>e=.returned (.bool true)/\BH w w':=by
 go_enter func27,ntmps27;go_wp2_with fail;go_loopw [13] (λs wr=>∃k:Nat,k<=l.length/\s=.int .i64 k/\BH w wr) (λs _=>l.length-(intOf s).toNat)
 case atStart=>exact⟨0,Nat.zero_le _,rfl,br⟩
 case round=>
  obtain⟨k,hk,rfl,hbr⟩:=hrel
  by_cases hlt:k<l.length
  ·obtain⟨x,hx⟩:∃x,l[k]?=some x:=⟨l[k],gE hlt⟩;obtain⟨b1,off1,cs1,ea,-,hs1,e1⟩:=(ua.mono za7 hbr) k x hx;obtain⟨b2,off2,cs2,eb,-,hs2,e2⟩:=(ub.mono za7 hbr) k x hx;have c1:=hs1 0 (.int .i64 (x:Nat)) (by rw[e1];rfl);have c2:=hs2 0 (.int .i64 (x:Nat)) (by rw[e2];rfl);rw[Nat.mul_one,Nat.add_zero]at c1 c2;subst ea;subst eb;have hkl:(k:Int)<(l.length:Int):=oM;clear hx hs1 hs2 e1 e2 ua ub;go_upto_region 6 with fail;refine zae (wx:=wr) [vf (.slice (sD b1 off1) l.length ca),vf (.int .i64 k),vf (.pointer (some ⟨b1,off1+k,none⟩)),vf (.int .i64 (x:Nat)),vf (.slice (sD b2 off2) l.length cb),vf (.int .i64 k),vf (.pointer (some ⟨b2,off2+k,none⟩)),vf (.int .i64 (x:Nat)),vf bF_] [16,17,18,19,20,21,22,23,24] br zS ⟨tV,tV,tV,?s3,tV,tV,tV,?s7,tV,trivial⟩ ?he
   case s3=>
    rintro T W hb hA K hK;simp only[yA,Region.binds]at hA;simp only[sA,hA]at hK|-;have HK:=hii hK;clear hK hA;have h0:=(hb.cell (zaf c1)).trans c1;exact cH
   case s7=>
    rintro T W hb hA K hK;simp only[yA,Region.binds]at hA;simp only[sA,hA]at hK|-;have HK:=hii hK;clear hK hA;have h0:=(hb.cell (zaf c2)).trans c2;exact cH
   case he=>
    rintro T W hb hA;have f8:T 24=bF_:=hA.at 8 dM;simp only[sA,f8];have hbr:=bu hbr hb;clear hA f8 hb;go_wp2;go_roundw
    case rel=>exact⟨k+1,oM,gM,hbr⟩
    case measure=>exact mM
  ·obtain rfl:k=l.length:=oM;go_wp2;go_ret;exact⟨rfl,hbr⟩
end Go.Proofs.YtfgffkmddanjjaaGreatDoor
