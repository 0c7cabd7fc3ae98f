/-
  The laws of chapter 15, plain: the workload of a case, doubled capacities, both bounds, zoX schedules, strategies.
-/
import Derived.Test.YtfgffkmddanjjaaGreatDoorLs1
import Derived.Test.YtfgffkmddanjjaaGreatDoorLu
set_option linter.unusedVariables false
set_option linter.unusedSimpArgs false
set_option maxRecDepth 100000
set_option maxHeartbeats 25600000
namespace Go.Proofs.YtfgffkmddanjjaaGreatDoor
open _root_.Go.Proofs.Tryz
open Go.RowKit
def zek(l:LN)(n:Nat):LN:=(l.map (· % 2 ^ n)).filter λx=>!decide (x=0)
def ziv(l:LN)(n:Nat):LN:=if zek l n=[]then [2 ^ n-1]else zek l n
def zaZ(l:LN)(n:Nat):LN:=zco (ziv (l.take 3) n)
theorem zjw{l:LN}{i x n:Nat}(h:l[i]?=some x):zek (l.take (i+1)) n=zek (l.take i) n++if x % 2 ^ n=0 then []else [x % 2 ^ n]:=by
 unfold zek;rw[List.take_add_one,h,List.map_append,List.filter_append]
 congr 1
 by_cases h0:x % 2 ^ n=0<;>simp[h0]
theorem zhA(l:LN)(n:Nat):(zek l n).length<=l.length:=by
 unfold zek;exact Nat.le_trans (List.length_filter_le _ _) (by simp)
theorem zdl{l:LN}{n x:Nat}(hn:1<=n)(h:x∈ziv l n):x≠0/\x<2 ^ n:=by
 have hp:=Nat.two_pow_pos n;unfold ziv at h
 split at h
 ·simp at h;subst h;have:2 ^ 1<=2 ^ n:=Nat.pow_le_pow_right (by decide) hn;omega
 ·unfold zek at h;obtain⟨h1,h2⟩:=List.mem_filter.1 h;obtain⟨y,-,rfl⟩:=List.mem_map.1 h1;exact⟨by simpa using h2,Nat.mod_lt _ hp⟩
theorem zma(l:LN)(n:Nat):ziv l n≠[]:=by
 unfold ziv
 split
 ·simp
 ·assumption
theorem zkH{l:LN}{n:Nat}(h:l.length<=3):(ziv l n).length<=3:=by
 unfold ziv
 split
 ·simp
 ·exact Nat.le_trans (zhA l n) h
theorem zb7(l:LN)(n:Nat):(zaZ l n).length<=3:=Nat.le_trans (zib _) (zkH (by simp;omega))
theorem zfp(l:LN){n:Nat}(hn:1<=n/\n<=12):zfa (zaZ l n) n:=by
 have hlow:∀x∈ziv (l.take 3) n,x<65536:=λx hx=>Nat.lt_of_lt_of_le (zdl hn.1 hx).2 (Nat.le_trans (Nat.pow_le_pow_right (by decide) hn.2) (by decide))
 refine⟨zic _,⟨List.length_pos_iff.2 (zje hlow (zma _ _)),Nat.le_trans (zb7 l n) (by decide)⟩,λx hx=>(zdl hn.1 (zef hx)).1,λx hx=>(zdl hn.1 (zef hx)).2⟩
theorem zfa.take{l : LN}{n k : Nat}(h : zfa l n)(hk : 1≤k) : zfa (l.take k) n :=
  ⟨⟨h.fam.pair.sublist (List.take_sublist _ _), fun x hx y hy=>h.fam.anti x (List.mem_of_mem_take hx) y (List.mem_of_mem_take hy)⟩,
   ⟨by rw[List.length_take];have := h.len.1;omega, by rw[List.length_take];have := h.len.2;omega⟩,
   fun x hx=>h.ne x (List.mem_of_mem_take hx), fun x hx=>h.low x (List.mem_of_mem_take hx)⟩
def wrN(R S:LN):LN:=if 8<R.length*S.length then S.take 2 else S
def zf6(l:LN)(i:Nat):Int:=1+(l.getD i 0 % 8:Nat)
def zen(l:LN)(n:Nat):List Rat:=(List.range n).map λi=>Rat.divInt (zf6 l i) 2
theorem zjF(l:LN)(n:Nat):zen l (n+1)=zen l n++[Rat.divInt (zf6 l n) 2]:=by unfold zen;rw[List.range_succ,List.map_append];rfl
def fN(k:Nat):Rat:=Rat.divInt (k % 13:Nat) 12
theorem zbp(z:Int){d:Int}(hd:d≠0):Rat.divInt z d*(d:Rat)=(z:Rat):=by
 have h0:(d:Rat)≠0:=λe=>hd (by have:=congrArg Rat.num e;simpa using this)
 rw[Rat.divInt_eq_div,Rat.div_mul_cancel h0]
theorem zdJ{z d:Int}(hd:0<d)(hz:0<=z):0<=Rat.divInt z d:=by
 rw[Rat.divInt_eq_div];exact Sx.div_nonneg' (by exact_mod_cast hz) (by exact_mod_cast hd)
theorem zfN{z d:Int}(hd:0<d)(hz:0<z):0<Rat.divInt z d:=by
 refine Rat.lt_of_le_of_ne (zdJ hd (Int.le_of_lt hz)) λe=>?_
 have h:=zbp z (d:=d) (by omega);rw[<-e,Rat.zero_mul]at h;have:=congrArg Rat.num h;simp at this;omega
theorem ze3{l:LN}{n:Nat}{c:Rat}(h:c∈zen l n):∃k:Int,1<=k/\k<=8/\c=Rat.divInt k 2:=by
 obtain⟨i,-,rfl⟩:=List.mem_map.1 h;exact⟨zf6 l i,by unfold zf6;omega,by unfold zf6;omega,rfl⟩
theorem zlw{k c:Int}(h1:1<=k)(h2:k<=8)(hc:c=1\/c=2):Sx.Wh (Rat.divInt k 2*(c:Rat)*((12:Nat):Rat)) 96:=by
 refine⟨k*c*6,?_,by rcases hc with rfl|rfl<;>omega⟩;have h:=zbp k (d:=2) (by decide);rw[Rat.intCast_mul,Rat.intCast_mul,<-h];have:((12:Nat):Rat)=((2:Int):Rat)*((6:Int):Rat):=by decide+kernel
 rw[this];grind
theorem zgQ(lR lS lC:LN)(k:Nat){n:Nat}(hn:1<=n/\n<=5):WkM (zaZ lR n) (wrN (zaZ lR n) (zaZ lS n)) (fN k) (zen lC n) n:=by
 have h12:1<=n/\n<=12:=⟨hn.1,by omega⟩;have fR:=zfp lR h12;have fS:=zfp lS h12;have l1:=zb7 lR n;have l2:=zb7 lS n;have h0:(0:Int)<=((k % 13:Nat):Int):=by omega
 have hf:=zbp ((k % 13:Nat):Int) (d:=12) (by decide);have fS2:zfa (wrN (zaZ lR n) (zaZ lS n)) n:=by
  unfold wrN
  split
  ·exact fS.take (by decide)
  ·exact fS
 refine⟨hn,fR,fS2,?_,by unfold zen;simp,zdJ (by decide) h0,?_,⟨((k % 13:Nat):Int),hf,by omega⟩,λc hc=>?_,λc hc=>?_⟩
 ·unfold wrN
  split
  ·rw[List.length_take];generalize (zaZ lR n).length=a at*;generalize (zaZ lS n).length=b at*;have:min 2 b<=2:=by omega
   have:=Nat.mul_le_mul l1 this;omega
  ·omega
 ·have h1:Rat.divInt ((k % 13:Nat):Int) 12*12<=1*12:=by
   rw[show(12:Rat)=((12:Int):Rat)from rfl,hf,Rat.one_mul];have:((k % 13:Nat):Int)<=12:=by omega
   exact_mod_cast this
  refine Rat.not_lt.1 λh2=>?_
  have:=Rat.mul_lt_mul_of_pos_right h2 (c:=12) (by decide);exact absurd h1 (Rat.not_le.2 this)
 ·obtain⟨z,h1,h2,rfl⟩:=ze3 hc;have:=zlw h1 h2 (c:=1) (.inl rfl)
  rwa [show((1:Int):Rat)=1 from rfl,Rat.mul_one]at this
 ·obtain⟨z,h1,h2,rfl⟩:=ze3 hc;exact zfN (by decide) (by omega)
theorem zd8{a b:Nat}(h:a<=b):(a:Rat)<=(b:Rat):=by exact_mod_cast h
section
variable {R S : LN} {m M : Nat} {ld : Rat} {P Q : List Rat}
theorem Bal.rep(B:Bal (prs R S) 0 (List.replicate m 1) m (prs R S).length M ld P Q)(s0:Nat):Du.sm m (λi=>(if s0.testBit i then(1:Rat)else 0)*Du.sm (prs R S).length (λk=>wt 0 ((prs R S).getD k (0,0)) i*P.getD k 0))<=Du.sm m (λi=>if s0.testBit i then(1:Rat)else 0)*ld:=by
 rw[<-Sx.sm_mulr];refine Du.sm_le _ _ _ λi hi=>?_
 have h:=B.row i hi;rw[List.getD_eq_getElem?_getD,List.getElem?_replicate,if_pos hi,Option.getD_some,Rat.one_mul]at h
 split
 ·rw[Rat.one_mul,Rat.one_mul];exact h
 ·rw[Rat.zero_mul,Rat.zero_mul];exact Rat.le_refl
theorem zns{k:Nat}(hk:k<(prs R S).length):(prs R S).getD k (0,0)∈prs R S:=by
 rw[List.getD_eq_getElem?_getD,gE hk];exact List.getElem_mem hk
theorem Bal.posP(B:Bal (prs R S) 0 (List.replicate m 1) m (prs R S).length M ld P Q){k:Nat}(hk:k<(prs R S).length):0<=P.getD k 0:=by
 have hk':k<P.length:=by rw[B.lP];exact hk
 rw[List.getD_eq_getElem?_getD,gE hk'];exact B.pP _ (List.getElem_mem hk')
theorem Bal.low(B:Bal (prs R S) 0 (List.replicate m 1) m (prs R S).length M ld P Q){s0:Nat}{c d:Rat}(hc:Du.sm m (λi=>if s0.testBit i then(1:Rat)else 0)=c)(h:∀q∈prs R S,d<=Du.sm m (λi=>wt 0 q i*(if s0.testBit i then(1:Rat)else 0))):d<=c*ld:=by
 have h1:=B.rep s0;rw[hc,Du.sm_swap m (prs R S).length (λi=>if s0.testBit i then(1:Rat)else 0) (λk=>P.getD k 0) (λi k=>wt 0 ((prs R S).getD k (0,0)) i)]at h1;refine Rat.le_trans ?_ h1;have h2:Du.sm (prs R S).length (λk=>P.getD k 0*d)<=Du.sm (prs R S).length (λk=>P.getD k 0*Du.sm m (λi=>wt 0 ((prs R S).getD k (0,0)) i*(if s0.testBit i then(1:Rat)else 0))) :=
  Du.sm_le _ _ _ λk hk=>Rat.mul_le_mul_of_nonneg_left (h _ (zns hk)) (B.posP hk)
 rw[Sx.sm_mulr,B.sum,Rat.one_mul]at h2;exact h2
end
theorem zjI(b:Nat->Rat):∀n,1<=n->za3 b n<n:=λn hn=>by have:=zcO b n;omega
theorem zep(b:Nat->Rat):∀n i,i<n->b i<=b (za3 b n)
 |n+1,i,hi=>by
  simp only[za3]
  by_cases hin:i=n
  ·subst hin
   split
   ·exact Rat.le_refl
   ·next h=>exact Rat.not_lt.1 h
  ·have ih:=zep b n i (by omega)
   split
   ·next h=>grind
   ·exact ih
theorem zhx{p:Nat->Rat}{N:Nat}(hN:1<=N)(hp:∀i,i<N->0<=p i)(h1:Du.sm N p=1):∀t,(∀i,i<N->-1<zbq p t (zbG p N t) i)/\Du.sm N (zbq p t (zbG p N t))=0
 |0=>by
  have e:∀i,zbq p 0 (zbG p N 0) i=0:=λi=>by
   unfold zbq zbG
   show((0:Nat):Rat)*p i-((0:Nat):Rat)=0
   rw[show((0:Nat):Rat)=0 from rfl];grind
  refine⟨λi _=>by rw[e];decide,?_⟩;rw[Du.sm_congr N _ (λ_=>0) λi _=>e i];exact Du.sm_zero N
 |t+1=>by
  obtain⟨ih1,ih2⟩:=zhx hN hp h1 t;have hs:∀i,zbq p (t+1) (zbG p N (t+1)) i=if i=za3 (λi=>zbq p (t+1) (zbG p N t) i) N then zbq p (t+1) (zbG p N t) i-1 else zbq p (t+1) (zbG p N t) i:=λi=>zdN _ _ _ _ _
  have hsum:Du.sm N (zbq p (t+1) (zbG p N t))=1:=by
   rw[Du.sm_congr N _ (λi=>zbq p t (zbG p N t) i+p i) λi _=>ze5 p t _ i,Du.sm_add,h1];rw[show Du.sm N (λi=>zbq p t (zbG p N t) i)=0 from ih2];decide+kernel
  have hbl:=zjI (λi=>zbq p (t+1) (zbG p N t) i) N hN;have hmx:=zep (λi=>zbq p (t+1) (zbG p N t) i) N;generalize za3 (λi=>zbq p (t+1) (zbG p N t) i) N=b at*;have hbp:0<zbq p (t+1) (zbG p N t) b:=by
   obtain⟨j,hj,hj0⟩:=Sx.sm_pos N (zbq p (t+1) (zbG p N t)) (by rw[hsum];decide);have:=hmx j hj
   grind
  have hmore:∀i,i<N->-1<zbq p (t+1) (zbG p N t) i:=λi hi=>by
   have a1:=ih1 i hi;have a2:=hp i hi;rw[ze5];grind
  refine⟨λi hi=>?_,?_⟩
  ·rw[hs]
   split
   ·next h=>rw[h];grind
   ·exact hmore i hi
  ·have:=Sx.sm_split N (zbq p (t+1) (zbG p N t)) (zbq p (t+1) (zbG p N (t+1))) b 1 hbl (λk _ hk=>by rw[hs,if_neg hk]) (by rw[hs,if_pos rfl];grind);rw[hsum]at this
   grind
theorem zoX{p:Nat->Rat}{N:Nat}(hN:1<=N)(hp:∀i,i<N->0<=p i)(h1:Du.sm N p=1)(t i:Nat)(hi:i<N):-(N:Rat)<zbq p t (zbG p N t) i/\zbq p t (zbG p N t) i<(N:Rat):=by
 obtain⟨h2,h3⟩:=zhx hN hp h1 t;have hN1:(1:Rat)<=(N:Rat):=zd8 hN;have hi2:=h2 i hi;have hone:Du.sm N (λ_=>(1:Rat))=(N:Rat):=by
  clear hN hp h1 h2 h3 hi hN1 hi2
  induction N with
  |zero=>rfl
  |succ k ih=>show Du.sm k _+1=_;rw[ih];exact(Rat.natCast_add k 1).symm
 have h4:Du.sm N (λj=>zbq p t (zbG p N t) j+1)=(N:Rat):=by
  rw[Du.sm_add,hone,show Du.sm N (λj=>zbq p t (zbG p N t) j)=0 from h3];grind
 have h5:=zlO (m:=N) (g:=λj=>zbq p t (zbG p N t) j+1) (λj hj=>by have:=h2 j hj;grind) hi;rw[h4]at h5
 constructor<;>grind
def zcU(l:LN):Nat:=l.foldl (·+·) 0
theorem zdt{l:LN}{k x:Nat}(h:l[k]?=some x):zcU (l.take (k+1))=zcU (l.take k)+x:=by
 unfold zcU;rw[List.take_add_one,h,List.foldl_append];rfl
theorem zgb:∀(l:LN),(∀x∈l,x<=255)->∀k,zcU (l.take k)<=255*k
 |_,_,0=>by simp[zcU]
 |l,h,k+1=>by
  have ih:=zgb l h k
  cases hx:l[k]? with
  |some x=>rw[zdt hx];have:=h x (List.mem_of_getElem? hx);omega
  |none=>
   have:l.take (k+1)=l.take k:=by rw[List.take_add_one,hx];simp
   rw[this];omega
def zoR(R S:LN)(l:LN)(T i:Nat):(Nat×Nat)×Rat:=((R.getD (i % (R.length*S.length) / S.length) 0,S.getD (i % (R.length*S.length) % S.length) 0),Rat.divInt (l.getD i 0:Nat) (T:Nat))
def zb0(R S:LN)(l:LN)(T k:Nat):List ((Nat×Nat)×Rat):=(List.range k).map (zoR R S l T)
def zgZ(R S:LN)(l:LN):List ((Nat×Nat)×Rat):=if zcU l=0 then [((R.getD 0 0,S.getD 0 0),1)]else zb0 R S l (zcU l) l.length
theorem zd2(R S:LN)(l:LN)(T k:Nat):zb0 R S l T (k+1)=zb0 R S l T k++[zoR R S l T k]:=by unfold zb0;rw[List.range_succ,List.map_append];rfl
theorem zfj(R S l:LN){T:Nat}(hT:T≠0):∀k,k<=l.length->zbC ((zb0 R S l T k).map (·.2))*((T:Int):Rat)=((zcU (l.take k):Nat):Rat)
 |0,_=>by show(0:Rat)*_=_;rw[Rat.zero_mul];rfl
 |k+1,hk=>by
  have ih:=zfj R S l hT k (by omega);have hx:l[k]?=some (l.getD k 0):=by rw[List.getD_eq_getElem?_getD,gE (by omega)];rfl
  rw[zd2,List.map_append,List.map_cons,List.map_nil,zbI,Rat.add_mul,ih,zdt hx]
  show _+Rat.divInt (l.getD k 0:Nat) (T:Nat)*((T:Int):Rat)=_
  rw[zbp _ (by omega)];exact(Rat.natCast_add _ _).symm
theorem zkj(R S l:LN):zbC ((zgZ R S l).map (·.2))=1:=by
 unfold zgZ
 split
 ·show(1:Rat)+0=1
  decide+kernel
 ·next h=>
  have:=zfj R S l h l.length nl;rw[List.take_length]at this;have h0:((zcU l:Int):Rat)≠0:=λe=>h (by have:=congrArg Rat.num e;simpa using this)
  have this:zbC ((zb0 R S l (zcU l) l.length).map (·.2))*((zcU l:Int):Rat)=((zcU l:Int):Rat):=this;generalize ((zcU l:Int):Rat)=d at*;generalize zbC ((zb0 R S l (zcU l) l.length).map (·.2))=x at*
  grind
theorem zgY(R S:LN){l:LN}(hl:l.length<=10):1<=(zgZ R S l).length/\(zgZ R S l).length<=10:=by
 unfold zgZ
 split
 ·simp
 ·next h=>
  have:(zb0 R S l (zcU l) l.length).length=l.length:=by unfold zb0;simp
  rw[this];refine⟨?_,hl⟩
  cases l with
  |nil=>exact absurd rfl h
  |cons a b=>simp
theorem zlK(R S:LN){l:LN}(hl:l.length<=10)(h8:∀x∈l,x<=255):∃D:Int,1<=D/\D<=2550/\∀s∈zgZ R S l,0<=s.2/\Sx.Wh (s.2*(D:Rat)) 255:=by
 have ht:=zgb l h8 l.length;rw[List.take_length]at ht;unfold zgZ
 split
 ·refine⟨1,by decide,by decide,λs hs=>?_⟩;simp at hs;subst hs;exact⟨show(0:Rat)<=1 by decide,1,show(1:Rat)*((1:Int):Rat)=((1:Int):Rat) by decide+kernel,by decide⟩
 ·next h=>
  refine⟨(zcU l:Nat),by omega,by omega,λs hs=>?_⟩;obtain⟨i,hi,rfl⟩:=List.mem_map.1 hs;have hi:=List.mem_range.1 hi;have hx:l.getD i 0<=255:=by rw[List.getD_eq_getElem?_getD,gE hi];exact h8 _ (List.getElem_mem hi)
  exact⟨zdJ (by omega) (by omega),((l.getD i 0:Nat):Int),zbp ((l.getD i 0:Nat):Int) (d:=((zcU l:Nat):Int)) (by omega),by omega⟩
theorem zkk(R S:LN){l:LN}(hl:l.length<=10)(h8:∀x∈l,x<=255):∃D:Int,1<=D/\D<=2550/\ShD D 255 (zgZ R S l):=by
 obtain⟨D,h1,h2,h3⟩:=zlK R S hl h8;refine⟨D,h1,h2,⟨⟨by omega,?_,by decide⟩,by have:=(zgY R S hl).2;omega,λs hs=>(h3 s hs).1,λs hs=>(h3 s hs).2⟩⟩;have:D.natAbs<=2550:=by omega
 exact Nat.le_trans (Nat.mul_le_mul_right 12 this) (by decide)
def zm0(l:LN):List Vl:=l.map λb=>.int .u16 (b:Nat)
def zb2(w:Wo)(B:Nat)(v:Vl)(l:LN):Prop:=w.ownsRow B 52 1 v l.length (zm0 l)
theorem zb2.nil(w:Wo)(B:Nat):zb2 w B nS_ []:=World.ownsRow_nil _ _ _ _
theorem zb2.mono{w w':Wo}{B:Nat}{v:Vl}{l:LN}(h:zb2 w B v l)(hb:BH w w'):zb2 w' B v l:=zbn h hb
theorem zb2.lt{w:Wo}{B:Nat}{v:Vl}{l:LN}(h:zb2 w B v l):∀b,v.ownBlock=some b->B<=b/\b<w.heap.size:=World.ownsRow.lt h
theorem zb2.read{w:Wo}{B:Nat}{v:Vl}{l:LN}(h:zb2 w B v l):∃ao cap,v=.slice ao l.length cap/\l.length<=cap/\zaR w ao l:=by
 have h30:=h;rcases h.2 with⟨rfl,hn0⟩|⟨g,cap,cur,rfl,hB,hg,hnc,hcm,hcs,htake⟩
 ·have:l=[]:=List.eq_nil_of_length_eq_zero hn0;subst this;exact⟨none,0,rfl,nl,zaR.nil⟩
 ·refine⟨some ⟨g,0,none⟩,cap,rfl,hnc,λj y hy=>⟨g,0,rfl,?_⟩⟩;rw[Nat.zero_add];exact zaI h30 (by unfold zm0;rw[List.getElem?_map,hy];rfl)
theorem zb2.row{w:Wo}{B:Nat}{v:Vl}{l:LN}(h:zb2 w B v l)(hl:0<l.length):∃g cap,v=.slice (sD g 0) l.length cap/\B<=g/\l.length<=cap:=by
 rcases h.2 with⟨rfl,hn0⟩|⟨g,cap,cur,rfl,hB,hg,hnc,hcm,hcs,htake⟩
 ·omega
 ·exact⟨g,cap,rfl,hB,hnc⟩
theorem zb2.cell{w:Wo}{B g n cap:Nat}{l:LN}(h:zb2 w B (.slice (sD g 0) n cap) l){k x:Nat}(hk:l[k]?=some x):w.cell? (aD_ g k)=some (.int .u16 (x:Nat)) :=
 zaI h (by unfold zm0;rw[List.getElem?_map,hk];rfl)
theorem zb2.free{w:Wo}{B g n cap:Nat}{l:LN}(h:zb2 w B (.slice (sD g 0) n cap) l)(k:Nat):w.frozen? ⟨g,k,none⟩=false:=zaT h k
theorem zb2.set{w:Wo}{B g n cap:Nat}{l:LN}(h:zb2 w B (.slice (sD g 0) n cap) l)(k x:Nat):zb2 (w.setCell (aD_ g k) (.int .u16 (x:Nat))) B (.slice (sD g 0) n cap) (l.set k x):=by
 have:=zbb (k:=k) (x:=.int .u16 (x:Nat)) h;unfold zb2 zm0 at*;rw[List.length_set,List.map_set];exact this
theorem zjJ{ops:Array Oper}{rest:List Oper}{o:Oper}{act:Act}{Q:Exit->Act->Wo->Prop}(W X:Wo)(B:Nat)(hgd:o.guard=none)(s x:Operand)(ho:o.op=.call {callee:=.builtin .append,args:=#[s,x],argTypes:=#[27,27]})
  {v:Vl}{l:LN}{a:Nat}(hes:act.eval s=v)(hex:act.eval x=.slice (some ⟨W.heap.size,0,none⟩) 1 1)(hown:zb2 W B v l)(hB:B<=W.heap.size)(hb:Below B X W)(hl:l.length<=1000000)
  (hK:∀v' w',zb2 w' B v' (l++[a])->Below B X w'->wpList Tryz.prog ops Q rest (act.put o.dst v') w') :
  wpList Tryz.prog ops Q (o :: rest) act (W.alloc (.cells #[.int .u16 (a:Nat)] 52)):=by
 obtain⟨i0,hi,hz0,hz1,hz2⟩:=info_parts Tryz.info52;have hba:=bA W (.cells #[.int .u16 (a:Nat)] 52);have hrow:Row (W.alloc (.cells #[.int .u16 (a:Nat)] 52)) W.heap.size 52 [.int .u16 (a:Nat)]:=heap_alloc_new _ _;generalize W.alloc (.cells #[.int .u16 (a:Nat)] 52)=w at*;have hown:=hown.mono hba;have hB':=Nat.le_trans hB hba.size;have hb:=hb.trans (hba.mono hB);have hn:∀(j:Nat)(u:Vl),[Value.int .u16 (a:Nat)][j]?=some u->w.cell? ((⟨W.heap.size,0,none⟩:Addr).add j)=some u:=by
  intro j u hj
  match j,hj with
  |0,hj=>simp at hj;subst hj;simpa [Addr.add]using hrow.cell (k:=0) (by simp)
  |j+1,hj=>simp at hj
 have h1:∀u∈[Value.int .u16 (a:Nat)],u.oneCell'=true:=by intro u hu;simp at hu;subst hu;rfl
 obtain⟨v',w',hr,h3,h4,h5⟩:=run_append_own (P:=Tryz.prog) w B 27 o.type 52 i0 (.int .u16 0) i0.size i0.bytes Tryz.slice27 hi hz0 rfl rfl (by rw[hz1];rfl) (by rw[hz1];decide) v l.length (zm0 l) (by rw[hz1];exact hown) ⟨W.heap.size,0,none⟩ 1 1 [.int .u16 (a:Nat)] (by rw[hz1];rfl) hn h1 (by unfold maxLen;omega) (by rw[hz2];omega) hB';refine wpList_plain hgd λK hK'=>?_
 refine zay s x ho hes hex hr (hK' _ _ (hK v' w' ?_ (hb.grown h4 hB' λg hg=>(World.ownsRow.lt hown g hg).1)));rw[hz1]at h3;unfold zb2 zm0;rw[List.length_append,List.map_append];exact h3
theorem zko{L:LN}{j u:Nat}(hj:0<j)(hl:j<=L.length):(L.take j++u :: L.drop j).set j (L.getD (j-1) 0)=L.take (j-1)++L.getD (j-1) 0 :: L.drop (j-1):=by
 obtain⟨j,rfl⟩:∃q,j=q+1:=⟨j-1,by omega⟩;have hlt:j<L.length:=by omega
 rw[show j+1-1=j by omega,List.getD_eq_getElem?_getD,gE hlt,Option.getD_some];rw[List.set_append_right _ _ (by rw[List.length_take];omega),show j+1-(L.take (j+1)).length=0 by rw[List.length_take];omega,List.set_cons_zero];rw[<-List.take_append_getElem hlt,List.append_assoc,List.drop_eq_getElem_cons hlt]
 rfl
theorem ziO{L:LN}{j u:Nat}(hj:0<j)(hl:j<=L.length):(L.take j++u :: L.drop j)[j-1]?=some (L.getD (j-1) 0):=by
 rw[List.getElem?_append_left (by rw[List.length_take];omega),List.getElem?_take_of_lt (by omega),List.getD_eq_getElem?_getD,gE (by omega)]
 rfl
theorem ziP{L:LN}{k u x:Nat}(hl:k<=L.length):(L.take k++u :: L.drop k).set k x=L.take k++x :: L.drop k:=by
 rw[List.set_append_right _ _ (by rw[List.length_take];omega),show k-(L.take k).length=0 by rw[List.length_take];omega,List.set_cons_zero]
theorem zhY(l:LN)(aa:OA)(ca:Nat)(w:Wo)(hl:l.length<=1000)(ua:zaR w aa l)(h16:Hid (zaN l)) :
  CP 127 #[.slice aa l.length ca] w λe w'=>(∃v,e=.returned v/\zb2 w' w.heap.size v (zaW l))/\BH w w':=by
 have hbw:=Below.refl w.heap.size w;go_enter func127,ntmps127;go_wp2_with fail;go_loopw [3,4] (λv s wr=>∃i:Nat,i<=l.length/\s=.int .i64 i/\zb2 wr w.heap.size v (zaW (l.take i))/\BH w wr) (λ_ s _=>l.length-(intOf s).toNat)
 case atStart=>exact⟨0,Nat.zero_le _,rfl,zb2.nil _ _,hbw⟩
 case round=>
  clear hbw;obtain⟨i,hi,rfl,hO,hbw⟩:=hrel
  by_cases hlt:i<l.length
  ·obtain⟨x,hx⟩:∃x,l[i]?=some x:=⟨l[i],gE hlt⟩;have hx16:=h16.out x (List.mem_of_getElem? hx);obtain⟨b1,off1,ea1,hc1⟩:=ua i x hx;have HS:Hid (zaW (l.take (i+1))=zdI (zaW (l.take i)) x):=hii (ziK hx);have hL16:∀y∈zaW (l.take i),y<65536:=λy hy=>h16.out y (List.mem_of_mem_take (zcB.1 hy))
   have hLl:(zaW (l.take i)).length<=1000:=Nat.le_trans (zex _) (by rw[List.length_take];omega);obtain⟨L,hL⟩:∃L,zaW (l.take i)=L:=⟨_,rfl⟩;rw[hL]at HS hL16 hLl hO;have HL16:=hii hL16;clear hL hL16;obtain⟨aL,cL,rfl,hcL,uL⟩:=hO.read;obtain⟨n,hn⟩:∃n,L.length=n:=⟨_,rfl⟩;rw[hn]at hO hLl;have Hn:=hii hn;rw[hn];obtain⟨N,hN⟩:∃N,l.length=N:=⟨_,rfl⟩;rw[hN]at hlt hi hl|-;have HN:=hii hN;have hil:(i:Int)<(N:Int):=by omega
   have Hx:=hii hx;have hbo:=Below.refl wr.heap.size wr;obtain⟨wo,rfl⟩:=exi wr;clear hn hN hx hcL;subst ea1;go_wp2_with fail;go_loopw [5] (λs wr=>∃k:Nat,k<=n/\s=.int .i64 k/\Hid (∀y∈L.take k,bef y x=true)/\Hid (BH wo wr)) (λs _=>n-(intOf s).toNat)
   case atStart=>exact⟨0,Nat.zero_le _,rfl,hii (by simp),hii hbo⟩
   case round=>
    clear hbo;obtain⟨k,hk,rfl,HB,Hbo⟩:=hrel;have hbr:=Below.step hbw Hbo.out nl;have hOk:=hO.mono Hbo.out;have hc:=(hbr.cell (zag hc1)).trans hc1;obtain⟨b,hb9⟩:∃b,decide (k<n)=b:=⟨_,rfl⟩;obtain⟨y,hy⟩:∃y,L.getD k 0=y:=⟨_,rfl⟩;have Hy:Hid (b=true->k<n/\L[k]?=some y):=hii λe=>by
     have h:=of_decide_eq_true (hb9.trans e);refine⟨h,?_⟩;rw[<-hy,List.getD_eq_getElem?_getD,gE (by rw[Hn.out];exact h)]
     rfl
    have Hyf:Hid (b=false->n<=k):=hii λe=>by have:=of_decide_eq_false (hb9.trans e);omega
    have hy16:y<65536:=by
     cases b with
     |true=>exact HL16.out y (List.mem_of_getElem? (Hy.out rfl).2)
     |false=>rw[<-hy,List.getD_eq_getElem?_getD,List.getElem?_eq_none (by rw[Hn.out];exact Hyf.out rfl)];decide
    obtain⟨b2,off2,HA⟩:∃b2 off2,Hid (b=true->aL=sD b2 off2/\wr.cell? ⟨b2,off2+k,none⟩=some (.int .u16 (y:Nat))):=by
     cases b with
     |false=>exact⟨0,0,hii λe=>by cases e⟩
     |true=>
      obtain⟨b2,off2,e,h⟩:=(uL.mono Hbo.out) k y (Hy.out rfl).2;exact⟨b2,off2,hii λ_=>⟨e,h⟩⟩
    obtain⟨z,hz⟩:∃z,bef y x=z:=⟨_,rfl⟩;have HKc:Hid (∀W,CP 89 #[.int .u16 (y:Nat),.int .u16 (x:Nat)] W λe w'=>e=.returned (.bool z)/\BH W w'):=hii λW=>by have:=zhZ y x W hy16 hx16;rw[hz]at this;exact this
    have HZ:=hii hz;obtain⟨q,hq⟩:∃q,(y==x)=q:=⟨_,rfl⟩;have hq2:((y:Int)==(x:Int))=q:=by rw[<-hq,Bool.eq_iff_iff,beq_iff_eq,beq_iff_eq];omega
    have HQ:=hii hq;clear hz hy;go_upto_region 6 with fail;refine zae (wx:=wr) [vf (.int .i64 k),vf (.slice aL n cL),vf (.int .i64 n),vf (.bool b),vf (.bool b),vf (bif b then .slice aL n cL else undef),vf (bif b then .int .i64 k else undef),vf (bif b then .pointer (some ⟨b2,off2+k,none⟩)else undef),vf (bif b then .int .u16 (y:Nat)else undef),vf (bif b then .slice (sD b1 off1) N ca else undef),vf (bif b then .int .i64 i else undef),vf (bif b then .pointer (some ⟨b1,off1+i,none⟩)else undef),vf (bif b then .int .u16 (x:Nat)else undef),vf (bif b then .bool z else undef),vf (bif b then .bool z else bF_)] [13,14,15,16,17,18,19,20,21,22,23,24,25,26,27] br ⟨sV _,sV _,sV _,sV _,sV _,sV _,sV _,sV _,sV _,sV _,sV _,sV _,sV _,sV _,sV _,trivial⟩ ⟨?s0,?s1,?s2,?s3,?s4,?s5,?s6,?s7,?s8,?s9,?s10,?s11,?s12,?s13,?s14,trivial⟩ ?he
    case' s0|s1|s2|s3|s4=>
     rintro T W hb hA K hK
    case' s0|s1=>
     simp only[sA]at hK|-
    case' s2=>
     simp only[sA,f0 T 14 hA]at hK|-
    case' s3=>
     simp only[sA,f0 T 13 hA,f1 T 15 hA]at hK|-
    case' s4=>
     simp only[sA,f0 T 16 hA]at hK|-
    case s0|s1|s2|s3|s4=>
     have HK:=hii hK;clear hK hA;refine wO rfl ?_;go_simp;exact HK.out _ _ br (rfl)
    case s5|s6|s9|s10=>
     cases b
     ·rintro T W hb hA K hK;have e4:T 17=_:=hA.1;simp only[sA,e4]at hK|-;have HK:=hii hK;clear hK hA;refine zax rfl (by rfl) ?_;simp only[Act.put,List.setIfInBounds_toArray];exact HK.out _ _ br (rfl)
     ·rintro T W hb hA K hK;simp only[sA,f0 T 17 hA]at hK|-;have HK:=hii hK;clear hK hA;refine wO rfl ?_;go_simp;exact HK.out _ _ br (rfl)
    case s7=>
     cases b
     ·rintro T W hb hA K hK;have e5:T 18=_:=hA.1;have e6:T 19=_:=hA.2.1;have e4:T 17=_:=hA.2.2.1;simp only[sA,e5,e6,e4]at hK|-;have HK:=hii hK;clear hK hA;refine zax rfl (by rfl) ?_;simp only[Act.put,List.setIfInBounds_toArray];exact HK.out _ _ br (rfl)
     ·rintro T W hb hA K hK;simp only[sA,f0 T 18 hA,f1 T 19 hA,f2 T 17 hA]at hK|-;have HK:=hii hK;clear hK hA;obtain⟨ea,h0⟩:=HA.out rfl;obtain⟨hkn,-⟩:=Hy.out rfl;have hkn2:(k:Int)<(n:Int):=by omega
      subst ea;refine wO rfl ?_;go_simp;exact HK.out _ _ br (rfl)
    case s8=>
     cases b
     ·rintro T W hb hA K hK;have e7:T 20=_:=hA.1;have e4:T 17=_:=hA.2.1;simp only[sA,e7,e4]at hK|-;have HK:=hii hK;clear hK hA;refine zax rfl (by rfl) ?_;simp only[Act.put,List.setIfInBounds_toArray];exact HK.out _ _ br (rfl)
     ·rintro T W hb hA K hK;simp only[sA,f0 T 20 hA,f1 T 17 hA]at hK|-;have HK:=hii hK;clear hK hA;obtain⟨ea,h0⟩:=HA.out rfl;subst ea;have h0:=(hb.cell (zag h0)).trans h0;refine wO rfl ?_;go_simp;exact HK.out _ _ br (rfl)
    case s11=>
     cases b
     ·rintro T W hb hA K hK;have e9:T 22=_:=hA.1;have e10:T 23=_:=hA.2.1;have e4:T 17=_:=hA.2.2.1;simp only[sA,e9,e10,e4]at hK|-;have HK:=hii hK;clear hK hA;refine zax rfl (by rfl) ?_;simp only[Act.put,List.setIfInBounds_toArray];exact HK.out _ _ br (rfl)
     ·rintro T W hb hA K hK;simp only[sA,f0 T 22 hA,f1 T 23 hA,f2 T 17 hA]at hK|-;have HK:=hii hK;clear hK hA;refine wO rfl ?_;go_simp;exact HK.out _ _ br (rfl)
    case s12=>
     cases b
     ·rintro T W hb hA K hK;have e11:T 24=_:=hA.1;have e4:T 17=_:=hA.2.1;simp only[sA,e11,e4]at hK|-;have HK:=hii hK;clear hK hA;refine zax rfl (by rfl) ?_;simp only[Act.put,List.setIfInBounds_toArray];exact HK.out _ _ br (rfl)
     ·rintro T W hb hA K hK;simp only[sA,f0 T 24 hA,f1 T 17 hA]at hK|-;have HK:=hii hK;clear hK hA;have h0:=(hb.cell (zag hc)).trans hc;refine wO rfl ?_;go_simp;exact HK.out _ _ br (rfl)
    case s13=>
     cases b
     ·rintro T W hb hA K hK;have e8:T 21=_:=hA.1;have e12:T 25=_:=hA.2.1;have e4:T 17=_:=hA.2.2.1;simp only[sA,e8,e12,e4]at hK|-;have HK:=hii hK;clear hK hA;refine zax rfl (by rfl) ?_;simp only[Act.put,List.setIfInBounds_toArray];exact HK.out _ _ br (rfl)
     ·rintro T W hb hA K hK;simp only[sA,f0 T 21 hA,f1 T 25 hA,f2 T 17 hA]at hK|-;have HK:=hii hK;clear hK hA;refine wO rfl ?_;go_simp;go_fit (HKc.out W);rintro e w2⟨rfl,hb1⟩
      try dsimp only
      exact HK.out _ _ hb1 (rfl)
    case s14=>
     cases b
     ·rintro T W hb hA K hK;have e4:T 17=_:=hA.1;have e13:T 26=_:=hA.2.1;simp only[sA,e4,e13]at hK|-;have HK:=hii hK;clear hK hA;refine wO rfl ?_;go_simp;exact HK.out _ _ br (rfl)
     ·rintro T W hb hA K hK;simp only[sA,f0 T 17 hA,f1 T 26 hA]at hK|-;have HK:=hii hK;clear hK hA;refine wO rfl ?_;go_simp;exact HK.out _ _ br (rfl)
    case he=>
     rintro T W hb hA;have f14:T 27=bif b then .bool z else bF_:=hA.at 14 (by decide)
     obtain⟨c,hcc⟩:∃c,(b && z)=c:=⟨_,rfl⟩;have f14:T 27=.bool c:=by rw[f14,<-hcc];cases b<;>rfl
     simp only[sA,f14];have Hbo:=hii (Below.step Hbo.out hb nl);have hbr:=bu hbr hb;have hOk:=hOk.mono hb;have hc:=(hb.cell (zag hc)).trans hc;have HA:Hid (b=true->aL=sD b2 off2/\W.cell? ⟨b2,off2+k,none⟩=some (.int .u16 (y:Nat))):=hii λe=>⟨(HA.out e).1,(hb.cell (zag (HA.out e).2)).trans (HA.out e).2⟩
     clear hA f14 hb HKc
     cases c with
     |true=>
      have HB2:Hid (∀y∈L.take (k+1),bef y x=true):=hii λy' hy'=>by
       rw[Bool.and_eq_true]at hcc;rw[zaL (Hy.out hcc.1).2]at hy';rcases List.mem_append.1 hy' with h|h
       ·exact HB.out y' h
       ·simp at h;subst h;rw[HZ.out];exact hcc.2
      have hkn:k<n:=by rw[Bool.and_eq_true]at hcc;exact(Hy.out hcc.1).1
      clear HB hcc hb9;go_wp2;go_roundw
      case rel=>exact⟨k+1,by omega,by go_num,HB2,Hbo⟩
      case measure=>simp[intOf];omega
     |false=>
      have HX:Hid (∀y',L[k]?=some y'->bef y' x=false):=hii λy' hy'=>by
       cases b with
       |true=>
        have:=(Hy.out rfl).2.symm.trans hy';simp only[Option.some.injEq]at this;rw[<-this,HZ.out];simpa using hcc
       |false=>
        have:=(List.getElem?_eq_some_iff.1 hy').1;have:=Hyf.out rfl;rw[Hn.out]at*;omega
      have HI:Hid (zdI L x=if L[k]?=some x then L else L.take k++x :: L.drop k):=hii (zls L x k HB.out (by rw[Hn.out];exact hk) HX.out);clear HB HX hcc;obtain⟨wp,rfl⟩:=exi W;go_upto_region 8 with fail;refine zae (wx:=wp) [vf (.int .i64 k),vf (.slice aL n cL),vf (.int .i64 n),vf (.bool b),vf (.bool b),vf (bif b then .slice aL n cL else undef),vf (bif b then .int .i64 k else undef),vf (bif b then .pointer (some ⟨b2,off2+k,none⟩)else undef),vf (bif b then .int .u16 (y:Nat)else undef),vf (bif b then .slice (sD b1 off1) N ca else undef),vf (bif b then .int .i64 i else undef),vf (bif b then .pointer (some ⟨b1,off1+i,none⟩)else undef),vf (bif b then .int .u16 (x:Nat)else undef),vf (bif b then .bool q else undef),vf (bif b then .bool q else bF_)] [30,31,32,33,34,35,36,37,38,39,40,41,42,43,44] br ⟨sV _,sV _,sV _,sV _,sV _,sV _,sV _,sV _,sV _,sV _,sV _,sV _,sV _,sV _,sV _,trivial⟩ ⟨?s0,?s1,?s2,?s3,?s4,?s5,?s6,?s7,?s8,?s9,?s10,?s11,?s12,?s13,?s14,trivial⟩ ?he
      case' s0|s1|s2|s3|s4=>
       rintro T W hb hA K hK
      case' s0|s1=>
       simp only[sA]at hK|-
      case' s2=>
       simp only[sA,f0 T 31 hA]at hK|-
      case' s3=>
       simp only[sA,f0 T 30 hA,f1 T 32 hA]at hK|-
      case' s4=>
       simp only[sA,f0 T 33 hA]at hK|-
      case s0|s1|s2|s3|s4=>
       have HK:=hii hK;clear hK hA;refine wO rfl ?_;go_simp;exact HK.out _ _ br (rfl)
      case s5|s6|s9|s10=>
       cases b
       ·rintro T W hb hA K hK;have e4:T 34=_:=hA.1;simp only[sA,e4]at hK|-;have HK:=hii hK;clear hK hA;refine zax rfl (by rfl) ?_;simp only[Act.put,List.setIfInBounds_toArray];exact HK.out _ _ br (rfl)
       ·rintro T W hb hA K hK;simp only[sA,f0 T 34 hA]at hK|-;have HK:=hii hK;clear hK hA;refine wO rfl ?_;go_simp;exact HK.out _ _ br (rfl)
      case s7=>
       cases b
       ·rintro T W hb hA K hK;have e5:T 35=_:=hA.1;have e6:T 36=_:=hA.2.1;have e4:T 34=_:=hA.2.2.1;simp only[sA,e5,e6,e4]at hK|-;have HK:=hii hK;clear hK hA;refine zax rfl (by rfl) ?_;simp only[Act.put,List.setIfInBounds_toArray];exact HK.out _ _ br (rfl)
       ·rintro T W hb hA K hK;simp only[sA,f0 T 35 hA,f1 T 36 hA,f2 T 34 hA]at hK|-;have HK:=hii hK;clear hK hA;obtain⟨ea,h0⟩:=HA.out rfl;obtain⟨hkn,-⟩:=Hy.out rfl;have hkn2:(k:Int)<(n:Int):=by omega
        subst ea;refine wO rfl ?_;go_simp;exact HK.out _ _ br (rfl)
      case s8=>
       cases b
       ·rintro T W hb hA K hK;have e7:T 37=_:=hA.1;have e4:T 34=_:=hA.2.1;simp only[sA,e7,e4]at hK|-;have HK:=hii hK;clear hK hA;refine zax rfl (by rfl) ?_;simp only[Act.put,List.setIfInBounds_toArray];exact HK.out _ _ br (rfl)
       ·rintro T W hb hA K hK;simp only[sA,f0 T 37 hA,f1 T 34 hA]at hK|-;have HK:=hii hK;clear hK hA;obtain⟨ea,h0⟩:=HA.out rfl;subst ea;have h0:=(hb.cell (zag h0)).trans h0;refine wO rfl ?_;go_simp;exact HK.out _ _ br (rfl)
      case s11=>
       cases b
       ·rintro T W hb hA K hK;have e9:T 39=_:=hA.1;have e10:T 40=_:=hA.2.1;have e4:T 34=_:=hA.2.2.1;simp only[sA,e9,e10,e4]at hK|-;have HK:=hii hK;clear hK hA;refine zax rfl (by rfl) ?_;simp only[Act.put,List.setIfInBounds_toArray];exact HK.out _ _ br (rfl)
       ·rintro T W hb hA K hK;simp only[sA,f0 T 39 hA,f1 T 40 hA,f2 T 34 hA]at hK|-;have HK:=hii hK;clear hK hA;refine wO rfl ?_;go_simp;exact HK.out _ _ br (rfl)
      case s12=>
       cases b
       ·rintro T W hb hA K hK;have e11:T 41=_:=hA.1;have e4:T 34=_:=hA.2.1;simp only[sA,e11,e4]at hK|-;have HK:=hii hK;clear hK hA;refine zax rfl (by rfl) ?_;simp only[Act.put,List.setIfInBounds_toArray];exact HK.out _ _ br (rfl)
       ·rintro T W hb hA K hK;simp only[sA,f0 T 41 hA,f1 T 34 hA]at hK|-;have HK:=hii hK;clear hK hA;have h0:=(hb.cell (zag hc)).trans hc;refine wO rfl ?_;go_simp;exact HK.out _ _ br (rfl)
      case s13=>
       cases b
       ·rintro T W hb hA K hK;have e8:T 38=_:=hA.1;have e12:T 42=_:=hA.2.1;have e4:T 34=_:=hA.2.2.1;simp only[sA,e8,e12,e4]at hK|-;have HK:=hii hK;clear hK hA;refine zax rfl (by rfl) ?_;simp only[Act.put,List.setIfInBounds_toArray];exact HK.out _ _ br (rfl)
       ·rintro T W hb hA K hK;simp only[sA,f0 T 38 hA,f1 T 42 hA,f2 T 34 hA]at hK|-;have HK:=hii hK;clear hK hA;refine wO rfl ?_;go_simp;exact HK.out _ _ br (rfl)
      case s14=>
       cases b
       ·rintro T W hb hA K hK;have e4:T 34=_:=hA.1;have e13:T 43=_:=hA.2.1;simp only[sA,e4,e13]at hK|-;have HK:=hii hK;clear hK hA;refine wO rfl ?_;go_simp;exact HK.out _ _ br (rfl)
       ·rintro T W hb hA K hK;simp only[sA,f0 T 34 hA,f1 T 43 hA]at hK|-;have HK:=hii hK;clear hK hA;refine wO rfl ?_;go_simp;exact HK.out _ _ br (rfl)
      case he=>
       rintro T W hb hA;have f14:T 44=bif b then .bool q else bF_:=hA.at 14 (by decide)
       obtain⟨c,hcc⟩:∃c,(b && q)=c:=⟨_,rfl⟩;have f14:T 44=.bool c:=by rw[f14,<-hcc];cases b<;>rfl
       simp only[sA,f14];have hbr:=bu hbr hb;have hOk:=hOk.mono hb;clear hA f14 hb HA Hbo hc
       cases c with
       |true=>
        have HE:Hid (zaW (l.take (i+1))=L):=hii (by
         rw[Bool.and_eq_true]at hcc;have e:=HQ.out;rw[hcc.2,beq_iff_eq]at e;rw[HS.out,HI.out,if_pos];rw[(Hy.out hcc.1).2,e])
        clear HI hcc hb9;go_wp2;go_roundw
        case rel=>exact⟨i+1,by omega,by go_num,by rw[HE.out];exact hOk,hbr⟩
        case measure=>simp[intOf];omega
       |false=>
        have HE:Hid (zaW (l.take (i+1))=L.take k++x :: L.drop k):=hii (by
         rw[HS.out,HI.out,if_neg];intro h
         cases b with
         |false=>
          have h1:=(List.getElem?_eq_some_iff.1 h).1;have:=Hyf.out rfl;rw[Hn.out]at h1;omega
         |true=>
          have h2:=(Hy.out rfl).2.symm.trans h;simp only[Option.some.injEq]at h2;have e:=HQ.out;rw[h2,beq_self_eq_true]at e;rw[<-e]at hcc
          cases hcc)
        clear HI hcc hb9 HQ HZ Hy Hyf hq hq2;have hsz:=hbr.size;obtain⟨wq,rfl⟩:=exi W;have e0:L++[0]=L.take n++0 :: L.drop n:=by rw[List.take_of_length_le (by rw[Hn.out];omega),List.drop_of_length_le (by rw[Hn.out];omega)]
        obtain⟨n1,hn1⟩:∃m,m=n+1:=⟨_,rfl⟩;have hl1:(L++[0]).length=n1:=by rw[List.length_append,Hn.out,List.length_singleton,hn1]
        have hn1i:(n1:Int)-1=(n:Int):=by omega
        have hn1l:n1<=1001:=by omega
        have hn1n:n<n1:=by omega
        have HE0:=hii e0;have HL1:=hii hl1;clear e0 hl1 hn1;go_wp2_with (at_builtin;go_loud (refine zjJ wq w w.heap.size rfl (.tmp 45) (.tmp 46) rfl (a:=0) rfl rfl hOk hsz hbr (by rw[Hn.out];omega) ?_);intro v2 w6 hO2 hb2;obtain⟨g,c3,rfl,hg,hc3⟩:=hO2.row (by simp);rw[HL1.out]at hO2 hc3|-;rw[HE0.out]at hO2;clear hOk hsz hO uL);go_loopw [6] (λs wr=>∃j u:Nat,k<=j/\j<=n/\s=.int .i64 j/\zb2 wr w.heap.size (.slice (sD g 0) n1 c3) (L.take j++u :: L.drop j)/\Hid (BH w wr)) (λs _=>(intOf s).toNat)
        case atStart=>exact⟨n,0,hk,nl,by go_num,hO2,hii hb2⟩
        case round=>
         clear hO2 hb2;obtain⟨j,u,hj1,hj2,rfl,hOj,Hbj⟩:=hrel;have c2:=hOj.cell (k:=j) (x:=u) (by rw[List.getElem?_append_right (by rw[List.length_take];omega),show j-(L.take j).length=0 by rw[List.length_take,Hn.out];omega];rfl);have f2:=hOj.free j;have hjn:(j:Int)<(n1:Int):=by omega
         by_cases hjk:k<j
         ·have c1:=hOj.cell (ziO (u:=u) (j:=j) (by omega) (by rw[Hn.out];omega));have hO3:=hOj.set j (L.getD (j-1) 0);rw[zko (by omega) (by rw[Hn.out];omega)]at hO3;obtain⟨y2,hy2⟩:∃y,L.getD (j-1) 0=y:=⟨_,rfl⟩;rw[hy2]at c1 hO3;have hj3:(j:Int)-1=((j-1:Nat):Int):=by omega
          have hjk2:(k:Int)<(j:Int):=by omega
          have HO3:=hii hO3;have Hb3:=hii (Hbj.out.setCell (p:=⟨g,j,none⟩) hg (.int .u16 (y2:Nat)));clear hO3 hOj hy2;go_wp2;go_roundw
          case rel=>exact⟨j-1,y2,by omega,by omega,by go_num,HO3.out,Hb3⟩
          case measure=>simp[intOf];omega
         ·obtain rfl:j=k:=by omega
          have hc:=(Hbj.out.cell (zag hc1)).trans hc1;have hO3:=hOj.set j x;rw[ziP (by rw[Hn.out];omega)]at hO3;have HO3:=hii hO3;have Hb3:=hii (Hbj.out.setCell (p:=⟨g,j,none⟩) hg (.int .u16 (x:Nat)));clear hO3 hOj;go_wp2;go_roundw
          case rel=>exact⟨i+1,by omega,by go_num,by rw[HE.out];exact HO3.out,Hb3.out⟩
          case measure=>simp[intOf];omega
  ·obtain rfl:i=l.length:=by omega
   rw[List.take_length]at hO;go_wp2;go_ret;exact⟨⟨_,rfl,hO⟩,hbw⟩
theorem zb2.weak{w:Wo}{B B':Nat}{v:Vl}{l:LN}(h:zb2 w B v l)(hB:B'<=B):zb2 w B' v l:=by
 rcases h with⟨h1,h2|⟨g,cap,cur,e,h2,h3⟩⟩
 ·exact⟨h1,.inl h2⟩
 ·exact⟨h1,.inr ⟨g,cap,cur,e,Nat.le_trans hB h2,h3⟩⟩
theorem zaR.kept{G:Nat->Prop}{w w':Wo}{ao:OA}{l:LN}(h:zaR w ao l)(hk:zaf G w w')(hp:NoG G w):zaR w' ao l:=by
 intro i x hi;obtain⟨b,off,e,hc⟩:=h i x hi;refine⟨b,off,e,?_⟩
 by_cases hb:G b
 ·exfalso
  unfold World.cell? at hc;simp only at hc
  cases ho:w.heap[b]? with
  |none=>rw[ho]at hc;simp at hc
  |some ob=>
   rw[ho]at hc
   cases ob with
   |cells cur t fr=>
    simp only[Option.isSome_none,Bool.false_eq_true,if_false]at hc;exact hp b hb cur t fr ho _ (by have:=Array.mem_of_getElem? hc;exact Array.mem_toList_iff.2 this) _ _ rfl
   |_=>simp at hc
 ·exact hk.cell hc hb
def zeQ(s:LN)(i k:Nat):Bool:=(List.range k).all λk=>decide (i=k) || !zdv (s.getD i 0) (s.getD k 0)
theorem zh8(s:LN)(i k:Nat):zeQ s i (k+1)=(zeQ s i k && (decide (i=k) || !zdv (s.getD i 0) (s.getD k 0))):=by
 unfold zeQ;rw[List.range_succ,List.all_append];simp
theorem zcG(l:LN)(aa:OA)(ca:Nat)(w:Wo)(hl:l.length<=1000)(ua:zaR w aa l)(h16:Hid (zaN l)) :
  CP 75 #[.slice aa l.length ca] w λe w'=>(∃v,e=.returned v/\zb2 w' w.heap.size v (zco l))/\BH w w':=by
 have hbw:=Below.refl w.heap.size w;go_enter func75,ntmps75;go_wp2_with fail;go_fit (zhY l aa ca w hl ua h16);rintro e w1⟨⟨v,rfl,hO⟩,hb⟩;obtain⟨S,hS⟩:∃S,zaW l=S:=⟨_,rfl⟩;have HS16:Hid (zaN S):=hii λx hx=>h16.out x (zcB.1 (by rw[hS];exact hx))
 have hSl:S.length<=1000:=by rw[<-hS];exact Nat.le_trans (zex _) hl
 have HL:Hid (zco l=zaX S S.length):=hii (by rw[<-hS];rfl);rw[hS]at hO;obtain⟨aS,cS,rfl,hcS,uS⟩:=hO.read;have hbw:=bu hbw hb;clear hb hS hO hcS ua;obtain⟨n,hn⟩:∃n,S.length=n:=⟨_,rfl⟩;have Hn:=hii hn;rw[hn]at hSl HL|-;clear hn;have hbq:=Below.refl w1.heap.size w1;go_wp2_with fail;go_loopw [3,5] (λv s wr=>∃i:Nat,i<=n/\s=.int .i64 i/\zb2 wr w1.heap.size v (zaX S i)/\Hid (BH w1 wr)) (λ_ s _=>n-(intOf s).toNat)
 case atStart=>exact⟨0,Nat.zero_le _,rfl,zb2.nil _ _,hii hbq⟩
 case round=>
  clear hbq;obtain⟨i,hi,rfl,hO,Hbq⟩:=hrel
  by_cases hlt:i<n
  ·obtain⟨a,ha⟩:∃x,S[i]?=some x:=⟨S[i]'(by rw[Hn.out];exact hlt),gE _⟩;have ha16:=HS16.out a (List.mem_of_getElem? ha);have Ha:=hii ha;have Hga:Hid (S.getD i 0=a):=hii (by rw[List.getD_eq_getElem?_getD,ha];rfl);have hil:(i:Int)<(n:Int):=by omega
   have HLt:=hii (zcb S i);obtain⟨L,hL⟩:∃L,zaX S i=L:=⟨_,rfl⟩;have hLl:L.length<=1000000:=by rw[<-hL];exact Nat.le_trans (zcs _ _) (by omega)
   rw[hL]at hO HLt;obtain⟨aO,cO,eO,-,-⟩:=hO.read;obtain⟨nO,hnO⟩:∃m,L.length=m:=⟨_,rfl⟩;clear ha hL;have hbo:=Below.refl wr.heap.size wr;obtain⟨wo,rfl⟩:=exi wr;rw[hnO]at eO;subst eO;clear hnO;go_wp2_with fail;go_loopw [6,7] (λb s wr=>∃(k:Nat)(z:Bool),k<=n/\s=.int .i64 k/\b=.bool z/\Hid (z=zeQ S i k)/\Hid (BH wo wr)) (λ_ s _=>n-(intOf s).toNat)
   case atStart=>exact⟨0,true,Nat.zero_le _,rfl,rfl,hii rfl,hii hbo⟩
   case round=>
    clear hbo;obtain⟨k,z,hk,rfl,rfl,HZ,Hbo⟩:=hrel;have HZ2:=hii (zh8 S i k)
    by_cases hlk:k<n
    ·have hkl:(k:Int)<(n:Int):=by omega
     by_cases hik:i=k
     ·subst hik;have HZ3:Hid (z=zeQ S i (i+1)):=hii (by rw[HZ2.out,<-HZ.out];simp);have hne:((i:Int) != (i:Int))=false:=by simp
      have hne2:(i != i)=false:=by simp
      clear HZ HZ2;obtain⟨wp,rfl⟩:=exi wr;go_upto_region 10 with fail;refine zae (wx:=wp) [vf (.int .i64 i),vf (.int .i64 i),vf bF_,vf bF_,vf undef,vf undef,vf undef,vf undef,vf undef,vf undef,vf undef,vf undef,vf undef,vf bF_] [22,23,24,25,26,27,28,29,30,31,32,33,34,35] br ⟨sV _,sV _,sV _,sV _,sV _,sV _,sV _,sV _,sV _,sV _,sV _,sV _,sV _,sV _,trivial⟩ ⟨?s0,?s1,?s2,?s3,?s4,?s5,?s6,?s7,?s8,?s9,?s10,?s11,?s12,?s13,trivial⟩ ?he
      case' s0|s1|s2|s3|s4|s5|s6|s7|s8|s9|s10|s11|s12|s13=>
       rintro T W hb hA K hK
      case' s0|s1=>
       simp only[sA]at hK|-
      case' s2=>
       simp only[sA,f0 T 22 hA,f1 T 23 hA]at hK|-
      case' s3=>
       simp only[sA,f0 T 24 hA]at hK|-
      case' s13=>
       simp only[sA,f0 T 25 hA,f1 T 34 hA]at hK|-
      case' s4|s5|s8|s9=>
       simp only[sA,f0 T 25 hA]at hK|-
      case' s6=>
       simp only[sA,f0 T 26 hA,f1 T 27 hA,f2 T 25 hA]at hK|-
      case' s7=>
       simp only[sA,f0 T 28 hA,f1 T 25 hA]at hK|-
      case' s10=>
       simp only[sA,f0 T 30 hA,f1 T 31 hA,f2 T 25 hA]at hK|-
      case' s11=>
       simp only[sA,f0 T 32 hA,f1 T 25 hA]at hK|-
      case' s12=>
       simp only[sA,f0 T 29 hA,f1 T 33 hA,f2 T 25 hA]at hK|-
      case s0|s1|s2|s3|s13=>
       have HK:=hii hK;clear hK hA;refine wO rfl ?_;go_simp;exact HK.out _ _ br (rfl)
      case s4|s5|s6|s7|s8|s9|s10|s11|s12=>
       have HK:=hii hK;clear hK hA;refine zax rfl (by rfl) ?_;simp only[Act.put,List.setIfInBounds_toArray];exact HK.out _ _ br (rfl)
      case he=>
       rintro T W hb hA;have f13:T 35=bF_:=hA.at 13 (by decide);simp only[sA,f13];have Hbo:=hii (Below.step Hbo.out hb nl);clear hA f13 hb;go_wp2;go_roundw
       case rel=>exact⟨i+1,z,by omega,by go_num,rfl,HZ3,Hbo⟩
       case measure=>simp[intOf];omega
     ·obtain⟨x,hx⟩:∃x,S[k]?=some x:=⟨S[k]'(by rw[Hn.out];exact hlk),gE _⟩;have hx16:=HS16.out x (List.mem_of_getElem? hx);have usr:=uS.mono (Below.step Hbq.out Hbo.out nl);obtain⟨b1,off1,ea,hc⟩:=usr k x hx;obtain⟨b2,off2,ea2,hc2⟩:=usr i a Ha.out;have hne:((i:Int) != (k:Int))=true:=by simp;omega
      have hne2:(i != k)=true:=by simp;omega
      obtain⟨y,hy⟩:∃y,zdv a x=y:=⟨_,rfl⟩;have HZ3:Hid (zeQ S i (k+1)=(z && !y)):=hii (by rw[HZ2.out,<-HZ.out,Hga.out,show S.getD k 0=x by rw[List.getD_eq_getElem?_getD,hx];rfl,hy];simp[hik]);have HKc:Hid (∀W,CP 90 #[.int .u16 (a:Nat),.int .u16 (x:Nat)] W λe w'=>e=.returned (.bool y)/\BH W w'):=hii λW=>by have:=zfw a x ha16 hx16 W;rw[hy]at this;exact this
      cases ea
      cases ea2
      clear hx hy hik usr HZ HZ2;obtain⟨wp,rfl⟩:=exi wr;go_upto_region 10 with fail;refine zae (wx:=wp) [vf (.int .i64 i),vf (.int .i64 k),vf (.bool true),vf (.bool true),vf (.slice (sD b1 off1) n cS),vf (.int .i64 i),vf (.pointer (some ⟨b1,off1+i,none⟩)),vf (.int .u16 (a:Nat)),vf (.slice (sD b1 off1) n cS),vf (.int .i64 k),vf (.pointer (some ⟨b1,off1+k,none⟩)),vf (.int .u16 (x:Nat)),vf (.bool y),vf (.bool y)] [22,23,24,25,26,27,28,29,30,31,32,33,34,35] br ⟨sV _,sV _,sV _,sV _,sV _,sV _,sV _,sV _,sV _,sV _,sV _,sV _,sV _,sV _,trivial⟩ ⟨?s0,?s1,?s2,?s3,?s4,?s5,?s6,?s7,?s8,?s9,?s10,?s11,?s12,?s13,trivial⟩ ?he
      case' s0|s1|s2|s3|s4|s5|s6|s7|s8|s9|s10|s11|s12|s13=>
       rintro T W hb hA K hK
      case' s0|s1=>
       simp only[sA]at hK|-
      case' s2=>
       simp only[sA,f0 T 22 hA,f1 T 23 hA]at hK|-
      case' s3=>
       simp only[sA,f0 T 24 hA]at hK|-
      case' s4|s5|s8|s9=>
       simp only[sA,f0 T 25 hA]at hK|-
      case' s6=>
       simp only[sA,f0 T 26 hA,f1 T 27 hA,f2 T 25 hA]at hK|-
      case' s10=>
       simp only[sA,f0 T 30 hA,f1 T 31 hA,f2 T 25 hA]at hK|-
      case' s13=>
       simp only[sA,f0 T 25 hA,f1 T 34 hA]at hK|-
      case' s7=>
       simp only[sA,f0 T 28 hA,f1 T 25 hA]at hK|-;have HK:=hii hK;clear hK hA;have h0:=(hb.cell (zag hc2)).trans hc2
      case' s11=>
       simp only[sA,f0 T 32 hA,f1 T 25 hA]at hK|-;have HK:=hii hK;clear hK hA;have h0:=(hb.cell (zag hc)).trans hc
      case s0|s1|s2|s3|s4|s5|s6|s8|s9|s10|s13=>
       have HK:=hii hK;clear hK hA;refine wO rfl ?_;go_simp;exact HK.out _ _ br (rfl)
      case s7|s11=>
       refine wO rfl ?_;go_simp;exact HK.out _ _ br (rfl)
      case s12=>
       simp only[sA,f0 T 29 hA,f1 T 33 hA,f2 T 25 hA]at hK|-;have HK:=hii hK;clear hK hA;refine wO rfl ?_;go_simp;go_fit (HKc.out W);rintro e w2⟨rfl,hb1⟩
       try dsimp only
       exact HK.out _ _ hb1 (rfl)
      case he=>
       rintro T W hb hA;have f13:T 35=.bool y:=hA.at 13 (by decide);simp only[sA,f13];have Hbo:=hii (Below.step Hbo.out hb nl);clear hA f13 hb hc hc2 HKc
       cases y with
       |true=>
        have HZ4:Hid (false=zeQ S i (k+1)):=hii (by rw[HZ3.out];simp);go_wp2;go_roundw
        case rel=>exact⟨k+1,false,by omega,by go_num,rfl,HZ4,Hbo⟩
        case measure=>simp[intOf];omega
       |false=>
        have HZ4:Hid (z=zeQ S i (k+1)):=hii (by rw[HZ3.out];simp);go_wp2;go_roundw
        case rel=>exact⟨k+1,z,by omega,by go_num,rfl,HZ4,Hbo⟩
        case measure=>simp[intOf];omega
    ·have hkn:¬(k:Int)<(n:Int):=by omega
     obtain rfl:k=n:=by omega
     have HZ3:Hid (zeR S i=z):=hii (by rw[HZ.out];unfold zeR zeQ;rw[Hn.out]);have hO:=hO.mono Hbo.out;have usr:=uS.mono (Below.step Hbq.out Hbo.out nl);obtain⟨b2,off2,ea2,hc2⟩:=usr i a Ha.out
     cases ea2
     have Hbq:=hii (Below.step Hbq.out Hbo.out nl);clear HZ HZ2 usr Hbo
     cases z with
     |false=>
      have HLt:Hid (zaX S (i+1)=L):=hii (by rw[HLt.out,HZ3.out];simp);go_wp2;go_roundw
      case rel=>exact⟨i+1,by omega,by go_num,by rw[HLt.out];exact hO,Hbq⟩
      case measure=>simp[intOf];omega
     |true=>
      have HLt:Hid (zaX S (i+1)=L++[a]):=hii (by rw[HLt.out,HZ3.out,Hga.out];simp);have hsz:=Hbq.out.size;obtain⟨wq,rfl⟩:=exi wr;go_wp2_with (at_builtin;go_loud (refine zjJ wq w1 w1.heap.size rfl (.tmp 37) (.tmp 42) rfl (a:=a) rfl rfl hO hsz Hbq.out hLl ?_);intro v2 w6 hO2 hb2);go_roundw
      case rel=>exact⟨i+1,by omega,by go_num,by rw[HLt.out];exact hO2,hii hb2⟩
      case measure=>simp[intOf];omega
  ·have hin:¬(i:Int)<(n:Int):=by omega
   obtain rfl:i=n:=by omega
   go_wp2;go_ret;exact⟨⟨_,rfl,by rw[HL.out];exact hO.weak hbw.size⟩,Below.step hbw Hbq.out nl⟩
theorem zg9(l:LN)(n:Nat)(aa:OA)(ca:Nat)(w:Wo)(hl:l.length<=9223372036854775807)(hn1:1<=n)(hn2:n<=12)(ua:zaR w aa l)(h16:Hid (zaN l)) :
  CP 29 #[.slice aa l.length ca,.int .i64 (n:Nat)] w λe w'=>(∃v,e=.returned v/\zb2 w' w.heap.size v (zaZ l n))/\BH w w':=by
 have hbw:=Below.refl w.heap.size w;obtain⟨M,hM⟩:∃M,2 ^ n=M:=⟨_,rfl⟩;have hM1:1<=M:=by rw[<-hM];exact Nat.two_pow_pos n
 have hML:M<=4096:=by rw[<-hM];exact Nat.pow_le_pow_right (by decide) hn2
 have hsh:(2:Int) ^ n=(M:Int):=by rw[<-hM];push_cast;rfl
 have hwr:IntKind.u16.wrap (M:Int)=(M:Int):=zdr (by omega);obtain⟨kM,hK⟩:∃kM,M-1=kM:=⟨_,rfl⟩;have hsb:(M:Int)-1=(kM:Int):=by omega
 have hwk:IntKind.u16.wrap (kM:Int)=(kM:Int):=zdr (by omega);have hK16:kM<65536:=by omega
 have HKn:Hid (kM=2 ^ n-1):=hii (by rw[hM,hK]);have HS:Hid (∀(i x:Nat),l[i]?=some x->zek (l.take (i+1)) n=zek (l.take i) n++if x % M=0 then []else [x % M]):=hii λi x h=>by rw[<-hM];exact zjw h
 have HA:Hid (∀x:Nat,x<65536->bits .and .u16 (x:Int) (kM:Int)=((x % M:Nat):Int)):=hii λx hx=>by
  rw[zjM x kM hx,HKn.out,Nat.and_two_pow_sub_one_eq_mod,hM]
 have hn64:(n:Int)<64:=by omega
 have HC:Hid (∀k,(zek (l.take k) n).length<=k):=hii λk=>Nat.le_trans (zhA _ _) (by simp;omega)
 have HM:=hii hM;clear hM hK;obtain⟨N,hN⟩:∃N,l.length=N:=⟨_,rfl⟩;have HN:=hii hN;rw[hN]at hl|-;clear hN;go_enter func29,ntmps29;go_wp2_with fail;go_loopw [5,6] (λv s wr=>∃i:Nat,i<=N/\i<=3/\s=.int .i64 i/\zb2 wr w.heap.size v (zek (l.take i) n)/\Hid (BH w wr)) (λ_ s _=>3-(intOf s).toNat)
 case atStart=>exact⟨0,Nat.zero_le _,Nat.zero_le _,rfl,zb2.nil _ _,hii hbw⟩
 case round=>
  clear hbw;obtain⟨i,hiN,hi3,rfl,hO,Hbw⟩:=hrel
  by_cases hlt:i<N/\i<3
  ·have hilN:(i:Int)<(N:Int):=by omega
   have hil3:(i:Int)<3:=by omega
   obtain⟨x,hx⟩:∃x,l[i]?=some x:=⟨l[i]'(by rw[HN.out];exact hlt.1),gE _⟩;have hx16:=h16.out x (List.mem_of_getElem? hx);have HX:=hii (HS.out i x hx);have uar:=ua.mono Hbw.out;obtain⟨b1,off1,ea,hc⟩:=uar i x hx;have han:=HA.out x hx16;obtain⟨y,hy⟩:∃y,x % M=y:=⟨_,rfl⟩;have hy16:y<65536:=by rw[<-hy];exact Nat.lt_of_le_of_lt (Nat.mod_le _ _) hx16
   rw[hy]at han HX;have HCl:=HC.out i;obtain⟨L,hL⟩:∃L,zek (l.take i) n=L:=⟨_,rfl⟩;rw[hL]at hO HX HCl
   cases ea
   clear hx uar hy hL hlt;go_wp2_with fail;go_upto_region 5 with fail;refine zae (wx:=wr) [vf (.slice (sD b1 off1) N ca),vf (.int .i64 i),vf (.pointer (some ⟨b1,off1+i,none⟩)),vf (.int .u16 (x:Nat)),vf (.int .i64 (n:Nat)),vf (.int .u16 (M:Nat)),vf (.int .u16 (kM:Nat)),vf (.int .u16 (y:Nat)),vf (.int .u16 (y:Nat))] [18,19,20,21,22,23,24,25,7] br ⟨sV _,sV _,sV _,sV _,sV _,sV _,sV _,sV _,sV _,trivial⟩ ⟨?s0,?s1,?s2,?s3,?s4,?s5,?s6,?s7,?s8,trivial⟩ ?he
   case' s0|s1|s2|s3|s4|s5|s6|s7|s8=>
    rintro T W hb hA K hK
   case' s0|s1|s4=>
    simp only[sA]at hK|-
   case' s2=>
    simp only[sA,f0 T 18 hA,f1 T 19 hA]at hK|-
   case' s5=>
    simp only[sA,f0 T 22 hA]at hK|-
   case' s6=>
    simp only[sA,f0 T 23 hA]at hK|-
   case' s7=>
    simp only[sA,f0 T 21 hA,f1 T 24 hA]at hK|-
   case' s8=>
    simp only[sA,f0 T 25 hA]at hK|-
   case s0|s1|s2|s4|s5|s6|s7|s8=>
    have HK:=hii hK;clear hK hA;refine wO rfl ?_;go_simp;exact HK.out _ _ br (rfl)
   case s3=>
    simp only[sA,f0 T 20 hA]at hK|-;have HK:=hii hK;clear hK hA;have h0:=(hb.cell (zag hc)).trans hc;refine wO rfl ?_;go_simp;exact HK.out _ _ br (rfl)
   case he=>
    rintro T W hb hA;have f8:T 7=.int .u16 (y:Nat):=hA.at 8 (by decide);simp only[sA,f8];have hO:=hO.mono hb;have Hbw:=hii (Below.step Hbw.out hb nl);clear hA f8 hb hc han;obtain⟨wp,rfl⟩:=exi W
    by_cases hy0:y=0
    ·subst hy0;have HX:Hid (zek (l.take (i+1)) n=L):=hii (by rw[HX.out];simp);go_wp2;go_roundw
     case rel=>exact⟨i+1,by omega,by omega,by go_num,by rw[HX.out];exact hO,Hbw⟩
     case measure=>simp[intOf];omega
    ·have HX:Hid (zek (l.take (i+1)) n=L++[y]):=hii (by rw[HX.out];simp[hy0]);have hyz:((y:Int) != 0)=true:=by simp;omega
     have hsz:=Hbw.out.size;clear hy0;go_wp2_with (at_builtin;go_loud (refine zjJ wp w w.heap.size rfl (.tmp 28) (.tmp 30) rfl (a:=y) rfl rfl hO hsz Hbw.out (by omega) ?_);intro v2 w6 hO2 hb2);go_roundw
     case rel=>exact⟨i+1,by omega,by omega,by go_num,by rw[HX.out];exact hO2,hii hb2⟩
     case measure=>simp[intOf];omega
  ·have HX:Hid (zek (l.take i) n=zek (l.take 3) n):=hii (by
    by_cases h3:i=3
    ·rw[h3]
    ·have h1:i=N:=by omega
     rw[h1,<-HN.out,List.take_length,List.take_of_length_le (by have:=HN.out;omega)])
   have HSt:Hid (zaZ l n=zco (ziv (l.take 3) n)):=hii rfl;have HCl:=HC.out i;rw[HX.out]at HCl;have h16c:Hid (zaN (ziv (l.take 3) n)):=hii λx hx=>by
    have:=(zdl hn1 hx).2;have:=HKn.out;omega
   have HO1:Hid (ziv (l.take 3) n=if zek (l.take 3) n=[]then [kM]else zek (l.take 3) n):=hii (by rw[HKn.out];rfl);rw[HX.out]at hO;obtain⟨L,hL⟩:∃L,zek (l.take 3) n=L:=⟨_,rfl⟩;rw[hL]at hO HO1 HCl;obtain⟨T,hT⟩:∃T,ziv (l.take 3) n=T:=⟨_,rfl⟩;rw[hT]at HSt HO1 h16c;have hend:(decide ((i:Int)<(N:Int)) && decide ((i:Int)<3))=false:=by
    rw[Bool.and_eq_false_iff,decide_eq_false_iff_not,decide_eq_false_iff_not];omega
   clear hL hT HX HS HA hsh hwr;obtain⟨aO,cO,eO,-,uO⟩:=hO.read;obtain⟨m,hm⟩:∃m,L.length=m:=⟨_,rfl⟩;rw[hm]at eO HCl;subst eO;have hsz:=Hbw.out.size
   by_cases hiN2:i<N
   ·have hilN:(i:Int)<(N:Int):=by omega
    have hil3:¬(i:Int)<3:=by omega
    by_cases h0:L=[]
    ·subst h0;have hm0:m=0:=by rw[<-hm];rfl
     subst hm0;have HT:Hid (T=[kM]):=hii (by rw[HO1.out,if_pos rfl]);have hsh:(2:Int) ^ n=(M:Int):=by have:=HM.out;rw[<-this];push_cast;rfl
     have hwr:IntKind.u16.wrap (M:Int)=(M:Int):=zdr (by omega);obtain⟨wq,rfl⟩:=exi wr;clear hm HO1 hlt;have h1:T.length<=1000:=by rw[HT.out];simp
     go_wp2_with (at_builtin;go_loud (refine zjJ wq w w.heap.size rfl (.tmp 35) (.tmp 39) rfl (a:=kM) rfl rfl hO hsz Hbw.out (by simp) ?_);intro v2 w6 hO2 hb2;obtain⟨a2,c2,e2,-,u2⟩:=hO2.read;rw[List.nil_append,<-HT.out]at e2 u2;subst e2);go_fit (zcG T a2 c2 w6 h1 u2 h16c);rintro e w7⟨⟨v3,rfl,hO3⟩,hb⟩;have hbw:=bu hb2 hb;have hsz6:=hb2.size;go_wp2;go_ret;exact⟨⟨_,rfl,by rw[HSt.out];exact hO3.weak hsz6⟩,hbw⟩
    ·have HT:Hid (L=T):=hii (by rw[HO1.out,if_neg h0]);have hm0:((m:Int)==0)=false:=by
      have:=List.length_pos_iff.2 h0;simp;omega
     have h1:T.length<=1000:=by rw[<-HT.out];omega
     have e1:T.length=m:=by rw[<-HT.out];exact hm
     have uO:zaR wr aO T:=by rw[<-HT.out];exact uO
     have HLc:=hii (zcG T aO cO wr h1 uO h16c);rw[e1]at HLc;clear e1 h1 hm h0 HT hlt;go_wp2_with fail;(with_reducible refine HLc.out.mono ?_);rintro e w7⟨⟨v3,rfl,hO3⟩,hb⟩;have hbw:=Below.step Hbw.out hb nl;go_wp2;go_ret;exact⟨⟨_,rfl,by rw[HSt.out];exact hO3.weak hsz⟩,hbw⟩
   ·have hilN:¬(i:Int)<(N:Int):=by omega
    by_cases h0:L=[]
    ·subst h0;have hm0:m=0:=by rw[<-hm];rfl
     subst hm0;have HT:Hid (T=[kM]):=hii (by rw[HO1.out,if_pos rfl]);have hsh:(2:Int) ^ n=(M:Int):=by have:=HM.out;rw[<-this];push_cast;rfl
     have hwr:IntKind.u16.wrap (M:Int)=(M:Int):=zdr (by omega);obtain⟨wq,rfl⟩:=exi wr;clear hm HO1 hlt;have h1:T.length<=1000:=by rw[HT.out];simp
     go_wp2_with (at_builtin;go_loud (refine zjJ wq w w.heap.size rfl (.tmp 35) (.tmp 39) rfl (a:=kM) rfl rfl hO hsz Hbw.out (by simp) ?_);intro v2 w6 hO2 hb2;obtain⟨a2,c2,e2,-,u2⟩:=hO2.read;rw[List.nil_append,<-HT.out]at e2 u2;subst e2);go_fit (zcG T a2 c2 w6 h1 u2 h16c);rintro e w7⟨⟨v3,rfl,hO3⟩,hb⟩;have hbw:=bu hb2 hb;have hsz6:=hb2.size;go_wp2;go_ret;exact⟨⟨_,rfl,by rw[HSt.out];exact hO3.weak hsz6⟩,hbw⟩
    ·have HT:Hid (L=T):=hii (by rw[HO1.out,if_neg h0]);have hm0:((m:Int)==0)=false:=by
      have:=List.length_pos_iff.2 h0;simp;omega
     have h1:T.length<=1000:=by rw[<-HT.out];omega
     have e1:T.length=m:=by rw[<-HT.out];exact hm
     have uO:zaR wr aO T:=by rw[<-HT.out];exact uO
     have HLc:=hii (zcG T aO cO wr h1 uO h16c);rw[e1]at HLc;clear e1 h1 hm h0 HT hlt;go_wp2_with fail;(with_reducible refine HLc.out.mono ?_);rintro e w7⟨⟨v3,rfl,hO3⟩,hb⟩;have hbw:=Below.step Hbw.out hb nl;go_wp2;go_ret;exact⟨⟨_,rfl,by rw[HSt.out];exact hO3.weak hsz⟩,hbw⟩
end Go.Proofs.YtfgffkmddanjjaaGreatDoor
