/-
  The laws of chapter 15, plain: the workload of a case, doubled capacities, both bounds, fair schedules, strategies.
-/
import Derived.Test.YtfgffkmddanjjaaGreatDoorLs1
import Derived.Test.YtfgffkmddanjjaaGreatDoorLu
set_option linter.unusedVariables false
set_option linter.unusedSimpArgs false
set_option maxRecDepth 100000
set_option maxHeartbeats 25600000
namespace Go.Proofs.YtfgffkmddanjjaaGreatDoor
open _root_.Go.Proofs.Tryz
open Go.RowKit
variable {d:Int} {L l:LN} {g j k:Nat} {v:Vl} {w':Wo}
def zeH(l:LN)(n:Nat):LN:=(l.map (· % 2 ^ n)).filter λx=>!decide (x=0)
def ziV(l:LN)(n:Nat):LN:=if zeH l n=[]then [2 ^ n-1]else zeH l n
def zb5(l:LN)(n:Nat):LN:=zcz (ziV (l.take 3) n)
theorem zj3{i x n:Nat}(h:l[i]?=some x):zeH (l.take (i+1)) n=zeH (l.take i) n++if x % 2 ^ n=0 then []else [x % 2 ^ n]:=by
 unfold zeH;rw[List.take_add_one,h,List.map_append,List.filter_append]
 congr 1
 by_cases h0:x % 2 ^ n=0<;>simp[h0]
theorem zhZ(l:LN)(n:Nat):(zeH l n).length<=l.length:=by
 unfold zeH;exact Nat.le_trans (List.length_filter_le _ _) sM
theorem zdz{n x:Nat}(hn:1<=n)(h:x∈ziV l n):x≠0/\x<2 ^ n:=by
 have hp:=Nat.two_pow_pos n;unfold ziV at h
 split at h
 ·simp at h;subst h;have:2 ^ 1<=2 ^ n:=Nat.pow_le_pow_right dM hn;omega
 ·unfold zeH at h;obtain⟨h1,h2⟩:=List.mem_filter.1 h;obtain⟨y,-,rfl⟩:=List.mem_map.1 h1;exact⟨by simpa using h2,Nat.mod_lt _ hp⟩
theorem zmH(l:LN)(n:Nat):ziV l n≠[]:=by
 unfold ziV
 split
 ·simp
 ·assumption
theorem zlb{n:Nat}(h:l.length<=3):(ziV l n).length<=3:=by
 unfold ziV
 split
 ·simp
 ·exact Nat.le_trans (zhZ l n) h
theorem zcd(l:LN)(n:Nat):(zb5 l n).length<=3:=Nat.le_trans (ziA _) (zlb (by simp;omega))
theorem zfM(l:LN){n:Nat}(hn:1<=n/\n<=12):zfA (zb5 l n) n:=by
 have hlow:∀x∈ziV (l.take 3) n,x<65536:=λx hx=>Nat.lt_of_lt_of_le (zdz hn.1 hx).2 (Nat.le_trans (Nat.pow_le_pow_right dM hn.2) dM)
 refine⟨ziB _,⟨List.length_pos_iff.2 (zjG hlow (zmH _ _)),Nat.le_trans (zcd l n) dM⟩,λx hx=>(zdz hn.1 (zez hx)).1,λx hx=>(zdz hn.1 (zez hx)).2⟩
theorem zfA.take{n:Nat}(h : zfA l n)(hk : 1≤k) : zfA (l.take k) n :=
  ⟨⟨h.fam.pair.sublist (List.take_sublist _ _), fun x hx y hy=>h.fam.anti x (List.mem_of_mem_take hx) y (List.mem_of_mem_take hy)⟩,
   ⟨by rw[List.length_take];have := h.len.1;omega, by rw[List.length_take];have := h.len.2;omega⟩,
   fun x hx=>h.ne x (List.mem_of_mem_take hx), fun x hx=>h.low x (List.mem_of_mem_take hx)⟩
def wrN(R S:LN):LN:=if 8<R.length*S.length then S.take 2 else S
def zgv(l:LN)(i:Nat):Int:=1+(l.getD i 0 % 8:Nat)
def zfz(l:LN)(n:Nat):List Rat:=(List.range n).map λi=>Rat.divInt (zgv l i) 2
theorem zka(l:LN)(n:Nat):zfz l (n+1)=zfz l n++[Rat.divInt (zgv l n) 2]:=by unfold zfz;rw[List.range_succ,List.map_append];rfl
def fN(k:Nat):Rat:=Rat.divInt (k % 13:Nat) 12
theorem zbM(z:Int)(hd:d≠0):Rat.divInt z d*(d:Rat)=(z:Rat):=by
 have h0:(d:Rat)≠0:=λe=>hd (by have:=congrArg Rat.num e;simpa using this)
 rw[Rat.divInt_eq_div,Rat.div_mul_cancel h0]
theorem zdY{z:Int}(hd:0<d)(hz:0<=z):0<=Rat.divInt z d:=by
 rw[Rat.divInt_eq_div];exact Sx.div_nonneg' (by exact_mod_cast hz) (by exact_mod_cast hd)
theorem zgd{z:Int}(hd:0<d)(hz:0<z):0<Rat.divInt z d:=by
 refine Rat.lt_of_le_of_ne (zdY hd (Int.le_of_lt hz)) λe=>?_
 have h:=zbM z (d:=d) oM;rw[<-e,Rat.zero_mul]at h;have:=congrArg Rat.num h;simp at this;omega
theorem zfp{n:Nat}{c:Rat}(h:c∈zfz l n):∃k:Int,1<=k/\k<=8/\c=Rat.divInt k 2:=by
 obtain⟨i,-,rfl⟩:=List.mem_map.1 h;exact⟨zgv l i,by unfold zgv;omega,by unfold zgv;omega,rfl⟩
theorem zl5{k c:Int}(h1:1<=k)(h2:k<=8)(hc:c=1\/c=2):Sx.Wh (Rat.divInt k 2*(c:Rat)*((12:Nat):Rat)) 96:=by
 refine⟨k*c*6,?_,by rcases hc with rfl|rfl<;>omega⟩;have h:=zbM k (d:=2) dM;rw[Rat.intCast_mul,Rat.intCast_mul,<-h];have:((12:Nat):Rat)=((2:Int):Rat)*((6:Int):Rat):=by decide+kernel
 rw[this];grind
theorem zkL(lR lS lC:LN)(k:Nat){n:Nat}(hn:1<=n/\n<=5):WkM (zb5 lR n) (wrN (zb5 lR n) (zb5 lS n)) (fN k) (zfz lC n) n:=by
 have h12:1<=n/\n<=12:=⟨hn.1,oM⟩;have fR:=zfM lR h12;have fS:=zfM lS h12;have l1:=zcd lR n;have l2:=zcd lS n;have h0:(0:Int)<=((k % 13:Nat):Int):=oM;have hf:=zbM ((k % 13:Nat):Int) (d:=12) dM;have fS2:zfA (wrN (zb5 lR n) (zb5 lS n)) n:=by
  unfold wrN
  split
  ·exact fS.take dM
  ·exact fS
 refine⟨hn,fR,fS2,?_,by unfold zfz;simp,zdY dM h0,?_,⟨((k % 13:Nat):Int),hf,oM⟩,λc hc=>?_,λc hc=>?_⟩
 ·unfold wrN
  split
  ·rw[List.length_take];generalize (zb5 lR n).length=a at*;generalize (zb5 lS n).length=b at*;have:min 2 b<=2:=oM;have:=Nat.mul_le_mul l1 this;omega
  ·omega
 ·have h1:Rat.divInt ((k % 13:Nat):Int) 12*12<=1*12:=by
   rw[show(12:Rat)=((12:Int):Rat)from rfl,hf,Rat.one_mul];have:((k % 13:Nat):Int)<=12:=oM
   exact_mod_cast this
  refine Rat.not_lt.1 λh2=>?_
  have:=Rat.mul_lt_mul_of_pos_right h2 (c:=12) dM;exact absurd h1 (Rat.not_le.2 this)
 ·obtain⟨z,h1,h2,rfl⟩:=zfp hc;have:=zl5 h1 h2 (c:=1) (.inl rfl)
  rwa [show((1:Int):Rat)=1 from rfl,Rat.mul_one]at this
 ·obtain⟨z,h1,h2,rfl⟩:=zfp hc;exact zgd dM oM
section
variable {R S : LN} {m M : Nat} {ld : Rat} {P Q : List Rat}
theorem Bal.rep(B:Bal (prs R S) 0 (List.replicate m 1) m (prs R S).length M ld P Q)(s0:Nat):Du.sm m (λi=>(if s0.testBit i then(1:Rat)else 0)*Du.sm (prs R S).length (λk=>wt 0 ((prs R S).getD k (0,0)) i*P.getD k 0))<=Du.sm m (λi=>if s0.testBit i then(1:Rat)else 0)*ld:=by
 rw[<-Sx.sm_mulr];refine Du.sm_le _ _ _ λi hi=>?_
 have h:=B.row i hi;rw[List.getD_eq_getElem?_getD,List.getElem?_replicate,if_pos hi,Option.getD_some,Rat.one_mul]at h
 split
 ·rw[Rat.one_mul,Rat.one_mul];exact h
 ·rw[Rat.zero_mul,Rat.zero_mul];exact Rat.le_refl
theorem zn4{k:Nat}(hk:k<(prs R S).length):(prs R S).getD k (0,0)∈prs R S:=by
 rw[List.getD_eq_getElem?_getD,gE hk];exact List.getElem_mem hk
theorem Bal.posP(B:Bal (prs R S) 0 (List.replicate m 1) m (prs R S).length M ld P Q){k:Nat}(hk:k<(prs R S).length):0<=P.getD k 0:=by
 have hk':k<P.length:=by rw[B.lP];exact hk
 rw[List.getD_eq_getElem?_getD,gE hk'];exact B.pP _ (List.getElem_mem hk')
theorem Bal.low(B:Bal (prs R S) 0 (List.replicate m 1) m (prs R S).length M ld P Q){s0:Nat}{c d:Rat}(hc:Du.sm m (λi=>if s0.testBit i then(1:Rat)else 0)=c)(h:∀q∈prs R S,d<=Du.sm m (λi=>wt 0 q i*(if s0.testBit i then(1:Rat)else 0))):d<=c*ld:=by
 have h1:=B.rep s0;rw[hc,Du.sm_swap m (prs R S).length (λi=>if s0.testBit i then(1:Rat)else 0) (λk=>P.getD k 0) (λi k=>wt 0 ((prs R S).getD k (0,0)) i)]at h1;refine Rat.le_trans ?_ h1;have h2:Du.sm (prs R S).length (λk=>P.getD k 0*d)<=Du.sm (prs R S).length (λk=>P.getD k 0*Du.sm m (λi=>wt 0 ((prs R S).getD k (0,0)) i*(if s0.testBit i then(1:Rat)else 0))) :=
  Du.sm_le _ _ _ λk hk=>Rat.mul_le_mul_of_nonneg_left (h _ (zn4 hk)) (B.posP hk)
 rw[Sx.sm_mulr,B.sum,Rat.one_mul]at h2;exact h2
end
def zdb(l:LN):Nat:=l.foldl (·+·) 0
theorem zdH{x:Nat}(h:l[k]?=some x):zdb (l.take (k+1))=zdb (l.take k)+x:=by
 unfold zdb;rw[List.take_add_one,h,List.foldl_append];rfl
theorem zgy:∀(l:LN),(∀x∈l,x<=255)->∀k,zdb (l.take k)<=255*k
 |_,_,0=>by simp[zdb]
 |l,h,k+1=>by
  have ih:=zgy l h k
  cases hx:l[k]? with
  |some x=>rw[zdH hx];have:=h x (List.mem_of_getElem? hx);omega
  |none=>
   have:l.take (k+1)=l.take k:=by rw[List.take_add_one,hx];simp
   rw[this];omega
def zpt(R S:LN)(l:LN)(T i:Nat):(Nat×Nat)×Rat:=((R.getD (i % (R.length*S.length) / S.length) 0,S.getD (i % (R.length*S.length) % S.length) 0),Rat.divInt (l.getD i 0:Nat) (T:Nat))
def zb4(R S:LN)(l:LN)(T k:Nat):List ((Nat×Nat)×Rat):=(List.range k).map (zpt R S l T)
def zfx(R S:LN)(l:LN):List ((Nat×Nat)×Rat):=if zdb l=0 then [((R.getD 0 0,S.getD 0 0),1)]else zb4 R S l (zdb l) l.length
theorem zek(R S:LN)(l:LN)(T k:Nat):zb4 R S l T (k+1)=zb4 R S l T k++[zpt R S l T k]:=by unfold zb4;rw[List.range_succ,List.map_append];rfl
theorem zfG(R S l:LN){T:Nat}(hT:T≠0):∀k,k<=l.length->zbc ((zb4 R S l T k).map (·.2))*((T:Int):Rat)=((zdb (l.take k):Nat):Rat)
 |0,_=>by show(0:Rat)*_=_;rw[Rat.zero_mul];rfl
 |k+1,hk=>by
  have ih:=zfG R S l hT k oM;have hx:l[k]?=some (l.getD k 0):=by rw[List.getD_eq_getElem?_getD,gE oM];rfl
  rw[zek,List.map_append,List.map_cons,List.map_nil,zbf,Rat.add_mul,ih,zdH hx]
  show _+Rat.divInt (l.getD k 0:Nat) (T:Nat)*((T:Int):Rat)=_
  rw[zbM _ oM];exact(Rat.natCast_add _ _).symm
theorem zhp(R S l:LN):zbc ((zfx R S l).map (·.2))=1:=by
 unfold zfx
 split
 ·show(1:Rat)+0=1
  decide+kernel
 ·next h=>
  have:=zfG R S l h l.length nl;rw[List.take_length]at this;have h0:((zdb l:Int):Rat)≠0:=λe=>h (by have:=congrArg Rat.num e;simpa using this)
  have this:zbc ((zb4 R S l (zdb l) l.length).map (·.2))*((zdb l:Int):Rat)=((zdb l:Int):Rat):=this;generalize ((zdb l:Int):Rat)=d at*;generalize zbc ((zb4 R S l (zdb l) l.length).map (·.2))=x at*
  grind
theorem zeT(R S:LN)(hl:l.length<=10):1<=(zfx R S l).length/\(zfx R S l).length<=10:=by
 unfold zfx
 split
 ·simp
 ·next h=>
  have:(zb4 R S l (zdb l) l.length).length=l.length:=by unfold zb4;simp
  rw[this];refine⟨?_,hl⟩
  cases l with
  |nil=>exact absurd rfl h
  |cons a b=>simp
theorem zmj(R S:LN)(hl:l.length<=10)(h8:∀x∈l,x<=255):∃D:Int,1<=D/\D<=2550/\∀s∈zfx R S l,0<=s.2/\Sx.Wh (s.2*(D:Rat)) 255:=by
 have ht:=zgy l h8 l.length;rw[List.take_length]at ht;unfold zfx
 split
 ·refine⟨1,dM,dM,λs hs=>?_⟩;simp at hs;subst hs;exact⟨show(0:Rat)<=1 by decide,1,show(1:Rat)*((1:Int):Rat)=((1:Int):Rat) by decide+kernel,dM⟩
 ·next h=>
  refine⟨(zdb l:Nat),oM,oM,λs hs=>?_⟩;obtain⟨i,hi,rfl⟩:=List.mem_map.1 hs;have hi:=List.mem_range.1 hi;have hx:l.getD i 0<=255:=by rw[List.getD_eq_getElem?_getD,gE hi];exact h8 _ (List.getElem_mem hi)
  exact⟨zdY oM oM,((l.getD i 0:Nat):Int),zbM ((l.getD i 0:Nat):Int) (d:=((zdb l:Nat):Int)) oM,oM⟩
theorem zhq(R S:LN)(hl:l.length<=10)(h8:∀x∈l,x<=255):∃D:Int,1<=D/\D<=2550/\ShD D 255 (zfx R S l):=by
 obtain⟨D,h1,h2,h3⟩:=zmj R S hl h8;refine⟨D,h1,h2,⟨⟨oM,?_,dM⟩,by have:=(zeT R S hl).2;omega,λs hs=>(h3 s hs).1,λs hs=>(h3 s hs).2⟩⟩;have:D.natAbs<=2550:=oM;exact Nat.le_trans (Nat.mul_le_mul_right 12 this) dM
def znD(l:LN):List Vl:=l.map λb=>.int .u16 (b:Nat)
def zb6(w:Wo)(B:Nat)(v:Vl)(l:LN):Prop:=w.ownsRow B 52 1 v l.length (znD l)
theorem zb6.nil(w:Wo)(B:Nat):zb6 w B nS_ []:=World.ownsRow_nil _ _ _ _
theorem zb6.mono{w:Wo}{B:Nat}(h:zb6 w B v l)(hb:BH w w'):zb6 w' B v l:=zbu h hb
theorem zb6.lt{w:Wo}{B:Nat}(h:zb6 w B v l):∀b,v.ownBlock=some b->B<=b/\b<w.heap.size:=World.ownsRow.lt h
theorem zb6.read{w:Wo}{B:Nat}(h:zb6 w B v l):∃ao cap,v=.slice ao l.length cap/\l.length<=cap/\zaF w ao l:=by
 have h30:=h;rcases h.2 with⟨rfl,hn0⟩|⟨g,cap,cur,rfl,hB,hg,hnc,hcm,hcs,htake⟩
 ·have:l=[]:=List.eq_nil_of_length_eq_zero hn0;subst this;exact⟨none,0,rfl,nl,zaF.nil⟩
 ·refine⟨some ⟨g,0,none⟩,cap,rfl,hnc,λj y hy=>⟨g,0,rfl,?_⟩⟩;rw[Nat.zero_add];exact zaE h30 (by unfold znD;rw[List.getElem?_map,hy];rfl)
theorem zb6.row{w:Wo}{B:Nat}(h:zb6 w B v l)(hl:0<l.length):∃g cap,v=.slice (sD g 0) l.length cap/\B<=g/\l.length<=cap:=by
 rcases h.2 with⟨rfl,hn0⟩|⟨g,cap,cur,rfl,hB,hg,hnc,hcm,hcs,htake⟩
 ·omega
 ·exact⟨g,cap,rfl,hB,hnc⟩
theorem zb6.cell{w:Wo}{B n cap:Nat}(h:zb6 w B (.slice (sD g 0) n cap) l){x:Nat}(hk:l[k]?=some x):w.cell? (aD_ g k)=some (.int .u16 (x:Nat)) :=
 zaE h (by unfold znD;rw[List.getElem?_map,hk];rfl)
theorem zb6.free{w:Wo}{B n cap:Nat}(h:zb6 w B (.slice (sD g 0) n cap) l)(k:Nat):w.frozen? ⟨g,k,none⟩=false:=za0 h k
theorem zb6.set{w:Wo}{B n cap:Nat}(h:zb6 w B (.slice (sD g 0) n cap) l)(k x:Nat):zb6 (w.setCell (aD_ g k) (.int .u16 (x:Nat))) B (.slice (sD g 0) n cap) (l.set k x):=by
 have:=zbi (k:=k) (x:=.int .u16 (x:Nat)) h;unfold zb6 znD at*;rw[List.length_set,List.map_set];exact this
theorem zke{ops:Array Oper}{rest:List Oper}{o:Oper}{act:Act}{Q:Exit->Act->Wo->Prop}(W X:Wo)(B:Nat)(hgd:o.guard=none)(s x:Operand)(ho:o.op=.call {callee:=.builtin .append,args:=#[s,x],argTypes:=#[27,27]})
 {a:Nat}(hes:act.eval s=v)(hex:act.eval x=.slice (some ⟨W.heap.size,0,none⟩) 1 1)(hown:zb6 W B v l)(hB:B<=W.heap.size)(hb:Below B X W)(hl:l.length<=1000000)
  (hK:∀v' w',zb6 w' B v' (l++[a])->Below B X w'->wpList Tryz.prog ops Q rest (act.put o.dst v') w') :
  wpList Tryz.prog ops Q (o :: rest) act (W.alloc (.cells #[.int .u16 (a:Nat)] 52)):=by
 obtain⟨i0,hi,hz0,hz1,hz2⟩:=info_parts Tryz.info52;have hba:=bA W (.cells #[.int .u16 (a:Nat)] 52);have hrow:Row (W.alloc (.cells #[.int .u16 (a:Nat)] 52)) W.heap.size 52 [.int .u16 (a:Nat)]:=heap_alloc_new _ _;generalize W.alloc (.cells #[.int .u16 (a:Nat)] 52)=w at*;have hown:=hown.mono hba;have hB':=Nat.le_trans hB hba.size;have hb:=hb.trans (hba.mono hB);have hn:∀(j:Nat)(u:Vl),[Value.int .u16 (a:Nat)][j]?=some u->w.cell? ((⟨W.heap.size,0,none⟩:Addr).add j)=some u:=by
  intro j u hj
  match j,hj with
  |0,hj=>simp at hj;subst hj;simpa [Addr.add]using hrow.cell (k:=0) sM
  |j+1,hj=>simp at hj
 have h1:∀u∈[Value.int .u16 (a:Nat)],u.oneCell'=true:=by intro u hu;simp at hu;subst hu;rfl
 obtain⟨v',w',hr,h3,h4,h5⟩:=run_append_own (P:=Tryz.prog) w B 27 o.type 52 i0 (.int .u16 0) i0.size i0.bytes Tryz.slice27 hi hz0 rfl rfl (by rw[hz1];rfl) (by rw[hz1];decide) v l.length (znD l) (by rw[hz1];exact hown) ⟨W.heap.size,0,none⟩ 1 1 [.int .u16 (a:Nat)] (by rw[hz1];rfl) hn h1 (by unfold maxLen;omega) (by rw[hz2];omega) hB';refine wpList_plain hgd λK hK'=>?_
 refine zat s x ho hes hex hr (hK' _ _ (hK v' w' ?_ (hb.grown h4 hB' λg hg=>(World.ownsRow.lt hown g hg).1)));rw[hz1]at h3;unfold zb6 znD;rw[List.length_append,List.map_append];exact h3
theorem zkS{u:Nat}(hj:0<j)(hl:j<=L.length):(L.take j++u :: L.drop j).set j (L.getD (j-1) 0)=L.take (j-1)++L.getD (j-1) 0 :: L.drop (j-1):=by
 obtain⟨j,rfl⟩:∃q,j=q+1:=⟨j-1,oM⟩;have hlt:j<L.length:=oM;rw[show j+1-1=j by omega,List.getD_eq_getElem?_getD,gE hlt,Option.getD_some];rw[List.set_append_right _ _ (by rw[List.length_take];omega),show j+1-(L.take (j+1)).length=0 by rw[List.length_take];omega,List.set_cons_zero];rw[<-List.take_append_getElem hlt,List.append_assoc,List.drop_eq_getElem_cons hlt]
 rfl
theorem zjc{u:Nat}(hj:0<j)(hl:j<=L.length):(L.take j++u :: L.drop j)[j-1]?=some (L.getD (j-1) 0):=by
 rw[List.getElem?_append_left (by rw[List.length_take];omega),List.getElem?_take_of_lt oM,List.getD_eq_getElem?_getD,gE oM]
 rfl
theorem zjd{u x:Nat}(hl:k<=L.length):(L.take k++u :: L.drop k).set k x=L.take k++x :: L.drop k:=by
 rw[List.set_append_right _ _ (by rw[List.length_take];omega),show k-(L.take k).length=0 by rw[List.length_take];omega,List.set_cons_zero]
theorem zio(l:LN)(aa:OA)(ca:Nat)(w:Wo)(hl:l.length<=1000)(ua:zaF w aa l)(h16:Hid (zaR l)) :
  CP 127 #[.slice aa l.length ca] w λe w'=>(∃v,e=.returned v/\zb6 w' w.heap.size v (za4 l))/\BH w w':=by
 have hbw:=Below.refl w.heap.size w;go_enter func127,ntmps127;go_wp2_with fail;go_loopw [3,4] (λv s wr=>∃i:Nat,i<=l.length/\s=.int .i64 i/\zb6 wr w.heap.size v (za4 (l.take i))/\BH w wr) (λ_ s _=>l.length-(intOf s).toNat)
 case atStart=>exact⟨0,Nat.zero_le _,rfl,zb6.nil _ _,hbw⟩
 case round=>
  clear hbw;obtain⟨i,hi,rfl,hO,hbw⟩:=hrel
  by_cases hlt:i<l.length
  ·obtain⟨x,hx⟩:∃x,l[i]?=some x:=⟨l[i],gE hlt⟩;have hx16:=h16.o x (List.mem_of_getElem? hx);obtain⟨b1,off1,ea1,hc1⟩:=ua i x hx;have HS:Hid (za4 (l.take (i+1))=zdV (za4 (l.take i)) x):=hii (zi8 hx);have hL16:∀y∈za4 (l.take i),y<65536:=λy hy=>h16.o y (List.mem_of_mem_take (zcP.1 hy))
   have hLl:(za4 (l.take i)).length<=1000:=Nat.le_trans (zeU _) (by rw[List.length_take];omega);obtain⟨L,hL⟩:∃L,za4 (l.take i)=L:=⟨_,rfl⟩;rw[hL]at HS hL16 hLl hO;have HL16:=hii hL16;clear hL hL16;obtain⟨aL,cL,rfl,hcL,uL⟩:=hO.read;obtain⟨n,hn⟩:∃n,L.length=n:=⟨_,rfl⟩;rw[hn]at hO hLl;have Hn:=hii hn;rw[hn];obtain⟨N,hN⟩:∃N,l.length=N:=⟨_,rfl⟩;rw[hN]at hlt hi hl|-;have HN:=hii hN;have hil:(i:Int)<(N:Int):=oM
   have Hx:=hii hx;have hbo:=Below.refl wr.heap.size wr;obtain⟨wo,rfl⟩:=exi wr;clear hn hN hx hcL;subst ea1;go_wp2_with fail;go_loopw [5] (λs wr=>∃k:Nat,k<=n/\s=.int .i64 k/\Hid (∀y∈L.take k,bef y x=true)/\Hid (BH wo wr)) (λs _=>n-(intOf s).toNat)
   case atStart=>exact⟨0,Nat.zero_le _,rfl,hii sM,hii hbo⟩
   case round=>
    clear hbo;obtain⟨k,hk,rfl,HB,Hbo⟩:=hrel;have hbr:=Below.step hbw Hbo.o nl;have hOk:=hO.mono Hbo.o;have hc:=(hbr.cell (zaf hc1)).trans hc1;obtain⟨b,hb9⟩:∃b,decide (k<n)=b:=⟨_,rfl⟩;obtain⟨y,hy⟩:∃y,L.getD k 0=y:=⟨_,rfl⟩;have Hy:Hid (b=true->k<n/\L[k]?=some y):=hii λe=>by
     have h:=of_decide_eq_true (hb9.trans e);refine⟨h,?_⟩;rw[<-hy,List.getD_eq_getElem?_getD,gE (by rw[Hn.o];exact h)]
     rfl
    have Hyf:Hid (b=false->n<=k):=hii λe=>by have:=of_decide_eq_false (hb9.trans e);omega
    have hy16:y<65536:=by
     cases b with
     |true=>exact HL16.o y (List.mem_of_getElem? (Hy.o rfl).2)
     |false=>rw[<-hy,List.getD_eq_getElem?_getD,List.getElem?_eq_none (by rw[Hn.o];exact Hyf.o rfl)];decide
    obtain⟨b2,off2,HA⟩:∃b2 off2,Hid (b=true->aL=sD b2 off2/\wr.cell? ⟨b2,off2+k,none⟩=some (.int .u16 (y:Nat))):=by
     cases b with
     |false=>exact⟨0,0,hii λe=>by cases e⟩
     |true=>
      obtain⟨b2,off2,e,h⟩:=(uL.mono Hbo.o) k y (Hy.o rfl).2;exact⟨b2,off2,hii λ_=>⟨e,h⟩⟩
    obtain⟨z,hz⟩:∃z,bef y x=z:=⟨_,rfl⟩;have HKc:Hid (∀W,CP 89 #[.int .u16 (y:Nat),.int .u16 (x:Nat)] W λe w'=>e=.returned (.bool z)/\BH W w'):=hii λW=>by have:=zet y x W hy16 hx16;rw[hz]at this;exact this
    have HZ:=hii hz;obtain⟨q,hq⟩:∃q,(y==x)=q:=⟨_,rfl⟩;have hq2:((y:Int)==(x:Int))=q:=by rw[<-hq,Bool.eq_iff_iff,beq_iff_eq,beq_iff_eq];omega
    have HQ:=hii hq;clear hz hy;go_upto_region 6 with fail;refine zae (wx:=wr) [vf (.int .i64 k),vf (.slice aL n cL),vf (.int .i64 n),vf (.bool b),vf (.bool b),vf (bif b then .slice aL n cL else undef),vf (bif b then .int .i64 k else undef),vf (bif b then .pointer (some ⟨b2,off2+k,none⟩)else undef),vf (bif b then .int .u16 (y:Nat)else undef),vf (bif b then .slice (sD b1 off1) N ca else undef),vf (bif b then .int .i64 i else undef),vf (bif b then .pointer (some ⟨b1,off1+i,none⟩)else undef),vf (bif b then .int .u16 (x:Nat)else undef),vf (bif b then .bool z else undef),vf (bif b then .bool z else bF_)] [13,14,15,16,17,18,19,20,21,22,23,24,25,26,27] br zS ⟨tV,tV,tV,tV,tV,?s5,?s6,?s7,?s8,?s9,?s10,?s11,?s12,?s13,?s14,trivial⟩ ?he
    case s5|s6|s9|s10=>
     cases b
     ·rintro T W hb hA K hK;have e4:T 17=_:=hA.1;simp only[sA,e4]at hK|-;exact cM
     ·rintro T W hb hA K hK;simp only[sA,f0 T 17 hA]at hK|-;exact dK
    case s7=>
     cases b
     ·rintro T W hb hA K hK;have e5:T 18=_:=hA.1;have e6:T 19=_:=hA.2.1;have e4:T 17=_:=hA.2.2.1;simp only[sA,e5,e6,e4]at hK|-;exact cM
     ·rintro T W hb hA K hK;simp only[sA,f0 T 18 hA,f1 T 19 hA,f2 T 17 hA]at hK|-;have HK:=hii hK;clear hK hA;obtain⟨ea,h0⟩:=HA.o rfl;obtain⟨hkn,-⟩:=Hy.o rfl;have hkn2:(k:Int)<(n:Int):=oM
      subst ea;exact cH
    case s8=>
     cases b
     ·rintro T W hb hA K hK;have e7:T 20=_:=hA.1;have e4:T 17=_:=hA.2.1;simp only[sA,e7,e4]at hK|-;exact cM
     ·rintro T W hb hA K hK;simp only[sA,f0 T 20 hA,f1 T 17 hA]at hK|-;have HK:=hii hK;clear hK hA;obtain⟨ea,h0⟩:=HA.o rfl;subst ea;have h0:=(hb.cell (zaf h0)).trans h0;exact cH
    case s11=>
     cases b
     ·rintro T W hb hA K hK;have e9:T 22=_:=hA.1;have e10:T 23=_:=hA.2.1;have e4:T 17=_:=hA.2.2.1;simp only[sA,e9,e10,e4]at hK|-;exact cM
     ·rintro T W hb hA K hK;simp only[sA,f0 T 22 hA,f1 T 23 hA,f2 T 17 hA]at hK|-;exact dK
    case s12=>
     cases b
     ·rintro T W hb hA K hK;have e11:T 24=_:=hA.1;have e4:T 17=_:=hA.2.1;simp only[sA,e11,e4]at hK|-;exact cM
     ·rintro T W hb hA K hK;simp only[sA,f0 T 24 hA,f1 T 17 hA]at hK|-;exact dO
    case s13=>
     cases b
     ·rintro T W hb hA K hK;have e8:T 21=_:=hA.1;have e12:T 25=_:=hA.2.1;have e4:T 17=_:=hA.2.2.1;simp only[sA,e8,e12,e4]at hK|-;exact cM
     ·rintro T W hb hA K hK;simp only[sA,f0 T 21 hA,f1 T 25 hA,f2 T 17 hA]at hK|-;have HK:=hii hK;clear hK hA;refine wO rfl ?_;go_simp;go_fit (HKc.o W);rintro e w2⟨rfl,hb1⟩
      try dsimp only
      exact d6
    case s14=>
     cases b
     ·rintro T W hb hA K hK;have e4:T 17=_:=hA.1;have e13:T 26=_:=hA.2.1;simp only[sA,e4,e13]at hK|-;exact dK
     ·rintro T W hb hA K hK;simp only[sA,f0 T 17 hA,f1 T 26 hA]at hK|-;exact dK
    case he=>
     rintro T W hb hA;have f14:T 27=bif b then .bool z else bF_:=hA.at 14 dM
     obtain⟨c,hcc⟩:∃c,(b && z)=c:=⟨_,rfl⟩;have f14:T 27=.bool c:=by rw[f14,<-hcc];cases b<;>rfl
     simp only[sA,f14];have Hbo:=hii (Below.step Hbo.o hb nl);have hbr:=bu hbr hb;have hOk:=hOk.mono hb;have hc:=(hb.cell (zaf hc)).trans hc;have HA:Hid (b=true->aL=sD b2 off2/\W.cell? ⟨b2,off2+k,none⟩=some (.int .u16 (y:Nat))):=hii λe=>⟨(HA.o e).1,(hb.cell (zaf (HA.o e).2)).trans (HA.o e).2⟩
     clear hA f14 hb HKc
     cases c with
     |true=>
      have HB2:Hid (∀y∈L.take (k+1),bef y x=true):=hii λy' hy'=>by
       rw[Bool.and_eq_true]at hcc;rw[zaw (Hy.o hcc.1).2]at hy';rcases List.mem_append.1 hy' with h|h
       ·exact HB.o y' h
       ·simp at h;subst h;rw[HZ.o];exact hcc.2
      have hkn:k<n:=by rw[Bool.and_eq_true]at hcc;exact(Hy.o hcc.1).1
      clear HB hcc hb9;go_wp2;go_roundw
      case rel=>exact⟨k+1,oM,gM,HB2,Hbo⟩
      case measure=>exact mM
     |false=>
      have HX:Hid (∀y',L[k]?=some y'->bef y' x=false):=hii λy' hy'=>by
       cases b with
       |true=>
        have:=(Hy.o rfl).2.symm.trans hy';simp only[Option.some.injEq]at this;rw[<-this,HZ.o];simpa using hcc
       |false=>
        have:=(List.getElem?_eq_some_iff.1 hy').1;have:=Hyf.o rfl;rw[Hn.o]at*;omega
      have HI:Hid (zdV L x=if L[k]?=some x then L else L.take k++x :: L.drop k):=hii (zl3 L x k HB.o (by rw[Hn.o];exact hk) HX.o);clear HB HX hcc;obtain⟨wp,rfl⟩:=exi W;go_upto_region 8 with fail;refine zae (wx:=wp) [vf (.int .i64 k),vf (.slice aL n cL),vf (.int .i64 n),vf (.bool b),vf (.bool b),vf (bif b then .slice aL n cL else undef),vf (bif b then .int .i64 k else undef),vf (bif b then .pointer (some ⟨b2,off2+k,none⟩)else undef),vf (bif b then .int .u16 (y:Nat)else undef),vf (bif b then .slice (sD b1 off1) N ca else undef),vf (bif b then .int .i64 i else undef),vf (bif b then .pointer (some ⟨b1,off1+i,none⟩)else undef),vf (bif b then .int .u16 (x:Nat)else undef),vf (bif b then .bool q else undef),vf (bif b then .bool q else bF_)] [30,31,32,33,34,35,36,37,38,39,40,41,42,43,44] br zS ⟨tV,tV,tV,tV,tV,?s5,?s6,?s7,?s8,?s9,?s10,?s11,?s12,?s13,?s14,trivial⟩ ?he
      case s5|s6|s9|s10=>
       cases b
       ·rintro T W hb hA K hK;have e4:T 34=_:=hA.1;simp only[sA,e4]at hK|-;exact cM
       ·rintro T W hb hA K hK;simp only[sA,f0 T 34 hA]at hK|-;exact dK
      case s7=>
       cases b
       ·rintro T W hb hA K hK;have e5:T 35=_:=hA.1;have e6:T 36=_:=hA.2.1;have e4:T 34=_:=hA.2.2.1;simp only[sA,e5,e6,e4]at hK|-;exact cM
       ·rintro T W hb hA K hK;simp only[sA,f0 T 35 hA,f1 T 36 hA,f2 T 34 hA]at hK|-;have HK:=hii hK;clear hK hA;obtain⟨ea,h0⟩:=HA.o rfl;obtain⟨hkn,-⟩:=Hy.o rfl;have hkn2:(k:Int)<(n:Int):=oM
        subst ea;exact cH
      case s8=>
       cases b
       ·rintro T W hb hA K hK;have e7:T 37=_:=hA.1;have e4:T 34=_:=hA.2.1;simp only[sA,e7,e4]at hK|-;exact cM
       ·rintro T W hb hA K hK;simp only[sA,f0 T 37 hA,f1 T 34 hA]at hK|-;have HK:=hii hK;clear hK hA;obtain⟨ea,h0⟩:=HA.o rfl;subst ea;have h0:=(hb.cell (zaf h0)).trans h0;exact cH
      case s11=>
       cases b
       ·rintro T W hb hA K hK;have e9:T 39=_:=hA.1;have e10:T 40=_:=hA.2.1;have e4:T 34=_:=hA.2.2.1;simp only[sA,e9,e10,e4]at hK|-;exact cM
       ·rintro T W hb hA K hK;simp only[sA,f0 T 39 hA,f1 T 40 hA,f2 T 34 hA]at hK|-;exact dK
      case s12=>
       cases b
       ·rintro T W hb hA K hK;have e11:T 41=_:=hA.1;have e4:T 34=_:=hA.2.1;simp only[sA,e11,e4]at hK|-;exact cM
       ·rintro T W hb hA K hK;simp only[sA,f0 T 41 hA,f1 T 34 hA]at hK|-;exact dO
      case s13=>
       cases b
       ·rintro T W hb hA K hK;have e8:T 38=_:=hA.1;have e12:T 42=_:=hA.2.1;have e4:T 34=_:=hA.2.2.1;simp only[sA,e8,e12,e4]at hK|-;exact cM
       ·rintro T W hb hA K hK;simp only[sA,f0 T 38 hA,f1 T 42 hA,f2 T 34 hA]at hK|-;exact dK
      case s14=>
       cases b
       ·rintro T W hb hA K hK;have e4:T 34=_:=hA.1;have e13:T 43=_:=hA.2.1;simp only[sA,e4,e13]at hK|-;exact dK
       ·rintro T W hb hA K hK;simp only[sA,f0 T 34 hA,f1 T 43 hA]at hK|-;exact dK
      case he=>
       rintro T W hb hA;have f14:T 44=bif b then .bool q else bF_:=hA.at 14 dM
       obtain⟨c,hcc⟩:∃c,(b && q)=c:=⟨_,rfl⟩;have f14:T 44=.bool c:=by rw[f14,<-hcc];cases b<;>rfl
       simp only[sA,f14];have hbr:=bu hbr hb;have hOk:=hOk.mono hb;clear hA f14 hb HA Hbo hc
       cases c with
       |true=>
        have HE:Hid (za4 (l.take (i+1))=L):=hii (by
         rw[Bool.and_eq_true]at hcc;have e:=HQ.o;rw[hcc.2,beq_iff_eq]at e;rw[HS.o,HI.o,if_pos];rw[(Hy.o hcc.1).2,e])
        clear HI hcc hb9;go_wp2;go_roundw
        case rel=>exact⟨i+1,oM,gM,by rw[HE.o];exact hOk,hbr⟩
        case measure=>exact mM
       |false=>
        have HE:Hid (za4 (l.take (i+1))=L.take k++x :: L.drop k):=hii (by
         rw[HS.o,HI.o,if_neg];intro h
         cases b with
         |false=>
          have h1:=(List.getElem?_eq_some_iff.1 h).1;have:=Hyf.o rfl;rw[Hn.o]at h1;omega
         |true=>
          have h2:=(Hy.o rfl).2.symm.trans h;simp only[Option.some.injEq]at h2;have e:=HQ.o;rw[h2,beq_self_eq_true]at e;rw[<-e]at hcc
          cases hcc)
        clear HI hcc hb9 HQ HZ Hy Hyf hq hq2;have hsz:=hbr.size;obtain⟨wq,rfl⟩:=exi W;have e0:L++[0]=L.take n++0 :: L.drop n:=by rw[List.take_of_length_le (by rw[Hn.o];omega),List.drop_of_length_le (by rw[Hn.o];omega)]
        obtain⟨n1,hn1⟩:∃m,m=n+1:=⟨_,rfl⟩;have hl1:(L++[0]).length=n1:=by rw[List.length_append,Hn.o,List.length_singleton,hn1]
        have hn1i:(n1:Int)-1=(n:Int):=oM;have hn1l:n1<=1001:=oM;have hn1n:n<n1:=oM;have HE0:=hii e0;have HL1:=hii hl1;clear e0 hl1 hn1;go_wp2_with (at_builtin;go_loud (refine zke wq w w.heap.size rfl (.tmp 45) (.tmp 46) rfl (a:=0) rfl rfl hOk hsz hbr (by rw[Hn.o];omega) ?_);intro v2 w6 hO2 hb2;obtain⟨g,c3,rfl,hg,hc3⟩:=hO2.row sM;rw[HL1.o]at hO2 hc3|-;rw[HE0.o]at hO2;clear hOk hsz hO uL);go_loopw [6] (λs wr=>∃j u:Nat,k<=j/\j<=n/\s=.int .i64 j/\zb6 wr w.heap.size (.slice (sD g 0) n1 c3) (L.take j++u :: L.drop j)/\Hid (BH w wr)) (λs _=>(intOf s).toNat)
        case atStart=>exact⟨n,0,hk,nl,gM,hO2,hii hb2⟩
        case round=>
         clear hO2 hb2;obtain⟨j,u,hj1,hj2,rfl,hOj,Hbj⟩:=hrel;have c2:=hOj.cell (k:=j) (x:=u) (by rw[List.getElem?_append_right (by rw[List.length_take];omega),show j-(L.take j).length=0 by rw[List.length_take,Hn.o];omega];rfl);have f2:=hOj.free j;have hjn:(j:Int)<(n1:Int):=oM
         by_cases hjk:k<j
         ·have c1:=hOj.cell (zjc (u:=u) (j:=j) oM (by rw[Hn.o];omega));have hO3:=hOj.set j (L.getD (j-1) 0);rw[zkS oM (by rw[Hn.o];omega)]at hO3;obtain⟨y2,hy2⟩:∃y,L.getD (j-1) 0=y:=⟨_,rfl⟩;rw[hy2]at c1 hO3;have hj3:(j:Int)-1=((j-1:Nat):Int):=oM;have hjk2:(k:Int)<(j:Int):=oM;have HO3:=hii hO3;have Hb3:=hii (Hbj.o.setCell (p:=⟨g,j,none⟩) hg (.int .u16 (y2:Nat)));clear hO3 hOj hy2;go_wp2;go_roundw
          case rel=>exact⟨j-1,y2,oM,oM,gM,HO3.o,Hb3⟩
          case measure=>exact mM
         ·obtain rfl:j=k:=oM;have hc:=(Hbj.o.cell (zaf hc1)).trans hc1;have hO3:=hOj.set j x;rw[zjd (by rw[Hn.o];omega)]at hO3;have HO3:=hii hO3;have Hb3:=hii (Hbj.o.setCell (p:=⟨g,j,none⟩) hg (.int .u16 (x:Nat)));clear hO3 hOj;go_wp2;go_roundw
          case rel=>exact⟨i+1,oM,gM,by rw[HE.o];exact HO3.o,Hb3.o⟩
          case measure=>exact mM
  ·obtain rfl:i=l.length:=oM;rw[List.take_length]at hO;go_wp2;go_ret;exact⟨⟨_,rfl,hO⟩,hbw⟩
theorem zb6.weak{w:Wo}{B B':Nat}(h:zb6 w B v l)(hB:B'<=B):zb6 w B' v l:=by
 rcases h with⟨h1,h2|⟨g,cap,cur,e,h2,h3⟩⟩
 ·exact⟨h1,.inl h2⟩
 ·exact⟨h1,.inr ⟨g,cap,cur,e,Nat.le_trans hB h2,h3⟩⟩
theorem zaF.kept{G:Nat->Prop}{w:Wo}{ao:OA}(h:zaF w ao l)(hk:zah G w w')(hp:NoG G w):zaF w' ao l:=by
 intro i x hi;obtain⟨b,off,e,hc⟩:=h i x hi;refine⟨b,off,e,?_⟩
 by_cases hb:G b
 ·exfalso
  unfold World.cell? at hc;simp only at hc
  cases ho:w.heap[b]? with
  |none=>rw[ho]at hc;simp at hc
  |some ob=>
   rw[ho]at hc
   cases ob with
   |cells cur t fr=>
    exact d7
   |_=>simp at hc
 ·exact hk.cell hc hb
def zfc(s:LN)(i k:Nat):Bool:=(List.range k).all λk=>decide (i=k) || !zct (s.getD i 0) (s.getD k 0)
theorem zix(s:LN)(i k:Nat):zfc s i (k+1)=(zfc s i k && (decide (i=k) || !zct (s.getD i 0) (s.getD k 0))):=by
 unfold zfc;rw[List.range_succ,List.all_append];simp
theorem zcY(l:LN)(aa:OA)(ca:Nat)(w:Wo)(hl:l.length<=1000)(ua:zaF w aa l)(h16:Hid (zaR l)) :
  CP 75 #[.slice aa l.length ca] w λe w'=>(∃v,e=.returned v/\zb6 w' w.heap.size v (zcz l))/\BH w w':=by
 have hbw:=Below.refl w.heap.size w;go_enter func75,ntmps75;go_wp2_with fail;go_fit (zio l aa ca w hl ua h16);rintro e w1⟨⟨v,rfl,hO⟩,hb⟩;obtain⟨S,hS⟩:∃S,za4 l=S:=⟨_,rfl⟩;have HS16:Hid (zaR S):=hii λx hx=>h16.o x (zcP.1 (by rw[hS];exact hx))
 have hSl:S.length<=1000:=by rw[<-hS];exact Nat.le_trans (zeU _) hl
 have HL:Hid (zcz l=za5 S S.length):=hii (by rw[<-hS];rfl);rw[hS]at hO;obtain⟨aS,cS,rfl,hcS,uS⟩:=hO.read;have hbw:=bu hbw hb;clear hb hS hO hcS ua;obtain⟨n,hn⟩:∃n,S.length=n:=⟨_,rfl⟩;have Hn:=hii hn;rw[hn]at hSl HL|-;clear hn;have hbq:=Below.refl w1.heap.size w1;go_wp2_with fail;go_loopw [3,5] (λv s wr=>∃i:Nat,i<=n/\s=.int .i64 i/\zb6 wr w1.heap.size v (za5 S i)/\Hid (BH w1 wr)) (λ_ s _=>n-(intOf s).toNat)
 case atStart=>exact⟨0,Nat.zero_le _,rfl,zb6.nil _ _,hii hbq⟩
 case round=>
  clear hbq;obtain⟨i,hi,rfl,hO,Hbq⟩:=hrel
  by_cases hlt:i<n
  ·obtain⟨a,ha⟩:∃x,S[i]?=some x:=⟨S[i]'(by rw[Hn.o];exact hlt),gE _⟩;have ha16:=HS16.o a (List.mem_of_getElem? ha);have Ha:=hii ha;have Hga:Hid (S.getD i 0=a):=hii (by rw[List.getD_eq_getElem?_getD,ha];rfl);have hil:(i:Int)<(n:Int):=oM;have HLt:=hii (zch S i);obtain⟨L,hL⟩:∃L,za5 S i=L:=⟨_,rfl⟩;have hLl:L.length<=1000000:=by rw[<-hL];exact Nat.le_trans (zcE _ _) oM
   rw[hL]at hO HLt;obtain⟨aO,cO,eO,-,-⟩:=hO.read;obtain⟨nO,hnO⟩:∃m,L.length=m:=⟨_,rfl⟩;clear ha hL;have hbo:=Below.refl wr.heap.size wr;obtain⟨wo,rfl⟩:=exi wr;rw[hnO]at eO;subst eO;clear hnO;go_wp2_with fail;go_loopw [6,7] (λb s wr=>∃(k:Nat)(z:Bool),k<=n/\s=.int .i64 k/\b=.bool z/\Hid (z=zfc S i k)/\Hid (BH wo wr)) (λ_ s _=>n-(intOf s).toNat)
   case atStart=>exact⟨0,true,Nat.zero_le _,rfl,rfl,hii rfl,hii hbo⟩
   case round=>
    clear hbo;obtain⟨k,z,hk,rfl,rfl,HZ,Hbo⟩:=hrel;have HZ2:=hii (zix S i k)
    by_cases hlk:k<n
    ·have hkl:(k:Int)<(n:Int):=oM
     by_cases hik:i=k
     ·subst hik;have HZ3:Hid (z=zfc S i (i+1)):=hii (by rw[HZ2.o,<-HZ.o];simp);have hne:((i:Int) != (i:Int))=false:=sM;have hne2:(i != i)=false:=sM;clear HZ HZ2;obtain⟨wp,rfl⟩:=exi wr;go_upto_region 10 with fail;refine zae (wx:=wp) [vf (.int .i64 i),vf (.int .i64 i),vf bF_,vf bF_,vf undef,vf undef,vf undef,vf undef,vf undef,vf undef,vf undef,vf undef,vf undef,vf bF_] [22,23,24,25,26,27,28,29,30,31,32,33,34,35] br zS ⟨tV,tV,tV,tV,tU,tU,tU,tU,tU,tU,tU,tU,tU,tV,trivial⟩ ?he
      case he=>
       rintro T W hb hA;have f13:T 35=bF_:=hA.at 13 dM;simp only[sA,f13];have Hbo:=hii (Below.step Hbo.o hb nl);clear hA f13 hb;go_wp2;go_roundw
       case rel=>exact⟨i+1,z,oM,gM,rfl,HZ3,Hbo⟩
       case measure=>exact mM
     ·obtain⟨x,hx⟩:∃x,S[k]?=some x:=⟨S[k]'(by rw[Hn.o];exact hlk),gE _⟩;have hx16:=HS16.o x (List.mem_of_getElem? hx);have usr:=uS.mono (Below.step Hbq.o Hbo.o nl);obtain⟨b1,off1,ea,hc⟩:=usr k x hx;obtain⟨b2,off2,ea2,hc2⟩:=usr i a Ha.o;have hne:((i:Int) != (k:Int))=true:=by simp;omega
      have hne2:(i != k)=true:=by simp;omega
      obtain⟨y,hy⟩:∃y,zct a x=y:=⟨_,rfl⟩;have HZ3:Hid (zfc S i (k+1)=(z && !y)):=hii (by rw[HZ2.o,<-HZ.o,Hga.o,show S.getD k 0=x by rw[List.getD_eq_getElem?_getD,hx];rfl,hy];simp[hik]);have HKc:Hid (∀W,CP 90 #[.int .u16 (a:Nat),.int .u16 (x:Nat)] W λe w'=>e=.returned (.bool y)/\BH W w'):=hii λW=>by have:=zdl a x ha16 hx16 W;rw[hy]at this;exact this
      cases ea
      cases ea2
      clear hx hy hik usr HZ HZ2;obtain⟨wp,rfl⟩:=exi wr;go_upto_region 10 with fail;refine zae (wx:=wp) [vf (.int .i64 i),vf (.int .i64 k),vf (.bool true),vf (.bool true),vf (.slice (sD b1 off1) n cS),vf (.int .i64 i),vf (.pointer (some ⟨b1,off1+i,none⟩)),vf (.int .u16 (a:Nat)),vf (.slice (sD b1 off1) n cS),vf (.int .i64 k),vf (.pointer (some ⟨b1,off1+k,none⟩)),vf (.int .u16 (x:Nat)),vf (.bool y),vf (.bool y)] [22,23,24,25,26,27,28,29,30,31,32,33,34,35] br zS ⟨tV,tV,tV,tV,tV,tV,tV,?s7,tV,tV,tV,?s11,?s12,tV,trivial⟩ ?he
      case' s7|s11|s12=>
       rintro T W hb hA K hK;simp only[yA,Region.binds]at hA;simp only[sA,hA]at hK|-;have HK:=hii hK;clear hK hA
      case' s7=>
       have h0:=(hb.cell (zaf hc2)).trans hc2
      case' s11=>
       have h0:=(hb.cell (zaf hc)).trans hc
      case s7|s11=>
       exact cH
      case s12=>
       refine wO rfl ?_;go_simp;go_fit (HKc.o W);rintro e w2⟨rfl,hb1⟩
       try dsimp only
       exact d6
      case he=>
       rintro T W hb hA;have f13:T 35=.bool y:=hA.at 13 dM;simp only[sA,f13];have Hbo:=hii (Below.step Hbo.o hb nl);clear hA f13 hb hc hc2 HKc
       cases y with
       |true=>
        have HZ4:Hid (false=zfc S i (k+1)):=hii (by rw[HZ3.o];simp);go_wp2;go_roundw
        case rel=>exact⟨k+1,false,oM,gM,rfl,HZ4,Hbo⟩
        case measure=>exact mM
       |false=>
        have HZ4:Hid (z=zfc S i (k+1)):=hii (by rw[HZ3.o];simp);go_wp2;go_roundw
        case rel=>exact⟨k+1,z,oM,gM,rfl,HZ4,Hbo⟩
        case measure=>exact mM
    ·have hkn:¬(k:Int)<(n:Int):=oM;obtain rfl:k=n:=oM;have HZ3:Hid (zfd S i=z):=hii (by rw[HZ.o];unfold zfd zfc;rw[Hn.o]);have hO:=hO.mono Hbo.o;have usr:=uS.mono (Below.step Hbq.o Hbo.o nl);obtain⟨b2,off2,ea2,hc2⟩:=usr i a Ha.o
     cases ea2
     have Hbq:=hii (Below.step Hbq.o Hbo.o nl);clear HZ HZ2 usr Hbo
     cases z with
     |false=>
      have HLt:Hid (za5 S (i+1)=L):=hii (by rw[HLt.o,HZ3.o];simp);go_wp2;go_roundw
      case rel=>exact⟨i+1,oM,gM,by rw[HLt.o];exact hO,Hbq⟩
      case measure=>exact mM
     |true=>
      have HLt:Hid (za5 S (i+1)=L++[a]):=hii (by rw[HLt.o,HZ3.o,Hga.o];simp);have hsz:=Hbq.o.size;obtain⟨wq,rfl⟩:=exi wr;go_wp2_with (at_builtin;go_loud (refine zke wq w1 w1.heap.size rfl (.tmp 37) (.tmp 42) rfl (a:=a) rfl rfl hO hsz Hbq.o hLl ?_);intro v2 w6 hO2 hb2);go_roundw
      case rel=>exact⟨i+1,oM,gM,by rw[HLt.o];exact hO2,hii hb2⟩
      case measure=>exact mM
  ·have hin:¬(i:Int)<(n:Int):=oM;obtain rfl:i=n:=oM;go_wp2;go_ret;exact⟨⟨_,rfl,by rw[HL.o];exact hO.weak hbw.size⟩,Below.step hbw Hbq.o nl⟩
theorem zhB(l:LN)(n:Nat)(aa:OA)(ca:Nat)(w:Wo)(hl:l.length<=9223372036854775807)(hn1:1<=n)(hn2:n<=12)(ua:zaF w aa l)(h16:Hid (zaR l)) :
  CP 29 #[.slice aa l.length ca,.int .i64 (n:Nat)] w λe w'=>(∃v,e=.returned v/\zb6 w' w.heap.size v (zb5 l n))/\BH w w':=by
 have hbw:=Below.refl w.heap.size w;obtain⟨M,hM⟩:∃M,2 ^ n=M:=⟨_,rfl⟩;have hM1:1<=M:=by rw[<-hM];exact Nat.two_pow_pos n
 have hML:M<=4096:=by rw[<-hM];exact Nat.pow_le_pow_right dM hn2
 have hsh:(2:Int) ^ n=(M:Int):=by rw[<-hM];push_cast;rfl
 have hwr:IntKind.u16.wrap (M:Int)=(M:Int):=zdi oM;obtain⟨kM,hK⟩:∃kM,M-1=kM:=⟨_,rfl⟩;have hsb:(M:Int)-1=(kM:Int):=oM;have hwk:IntKind.u16.wrap (kM:Int)=(kM:Int):=zdi oM;have hK16:kM<65536:=oM;have HKn:Hid (kM=2 ^ n-1):=hii (by rw[hM,hK]);have HS:Hid (∀(i x:Nat),l[i]?=some x->zeH (l.take (i+1)) n=zeH (l.take i) n++if x % M=0 then []else [x % M]):=hii λi x h=>by rw[<-hM];exact zj3 h
 have HA:Hid (∀x:Nat,x<65536->bits .and .u16 (x:Int) (kM:Int)=((x % M:Nat):Int)):=hii λx hx=>by
  rw[zkh x kM hx,HKn.o,Nat.and_two_pow_sub_one_eq_mod,hM]
 have hn64:(n:Int)<64:=oM;have HC:Hid (∀k,(zeH (l.take k) n).length<=k):=hii λk=>Nat.le_trans (zhZ _ _) (by simp;omega)
 have HM:=hii hM;clear hM hK;obtain⟨N,hN⟩:∃N,l.length=N:=⟨_,rfl⟩;have HN:=hii hN;rw[hN]at hl|-;clear hN;go_enter func29,ntmps29;go_wp2_with fail;go_loopw [5,6] (λv s wr=>∃i:Nat,i<=N/\i<=3/\s=.int .i64 i/\zb6 wr w.heap.size v (zeH (l.take i) n)/\Hid (BH w wr)) (λ_ s _=>3-(intOf s).toNat)
 case atStart=>exact⟨0,Nat.zero_le _,Nat.zero_le _,rfl,zb6.nil _ _,hii hbw⟩
 case round=>
  clear hbw;obtain⟨i,hiN,hi3,rfl,hO,Hbw⟩:=hrel
  by_cases hlt:i<N/\i<3
  ·have hilN:(i:Int)<(N:Int):=oM;have hil3:(i:Int)<3:=oM;obtain⟨x,hx⟩:∃x,l[i]?=some x:=⟨l[i]'(by rw[HN.o];exact hlt.1),gE _⟩;have hx16:=h16.o x (List.mem_of_getElem? hx);have HX:=hii (HS.o i x hx);have uar:=ua.mono Hbw.o;obtain⟨b1,off1,ea,hc⟩:=uar i x hx;have han:=HA.o x hx16;obtain⟨y,hy⟩:∃y,x % M=y:=⟨_,rfl⟩;have hy16:y<65536:=by rw[<-hy];exact Nat.lt_of_le_of_lt (Nat.mod_le _ _) hx16
   rw[hy]at han HX;have HCl:=HC.o i;obtain⟨L,hL⟩:∃L,zeH (l.take i) n=L:=⟨_,rfl⟩;rw[hL]at hO HX HCl
   cases ea
   clear hx uar hy hL hlt;go_wp2_with fail;go_upto_region 5 with fail;refine zae (wx:=wr) [vf (.slice (sD b1 off1) N ca),vf (.int .i64 i),vf (.pointer (some ⟨b1,off1+i,none⟩)),vf (.int .u16 (x:Nat)),vf (.int .i64 (n:Nat)),vf (.int .u16 (M:Nat)),vf (.int .u16 (kM:Nat)),vf (.int .u16 (y:Nat)),vf (.int .u16 (y:Nat))] [18,19,20,21,22,23,24,25,7] br zS ⟨tV,tV,tV,?s3,tV,tV,tV,tV,tV,trivial⟩ ?he
   case s3=>
    rintro T W hb hA K hK;simp only[yA,Region.binds]at hA;simp only[sA,hA]at hK|-;exact dO
   case he=>
    rintro T W hb hA;have f8:T 7=.int .u16 (y:Nat):=hA.at 8 dM;simp only[sA,f8];have hO:=hO.mono hb;have Hbw:=hii (Below.step Hbw.o hb nl);clear hA f8 hb hc han;obtain⟨wp,rfl⟩:=exi W
    by_cases hy0:y=0
    ·subst hy0;have HX:Hid (zeH (l.take (i+1)) n=L):=hii (by rw[HX.o];simp);go_wp2;go_roundw
     case rel=>exact⟨i+1,oM,oM,gM,by rw[HX.o];exact hO,Hbw⟩
     case measure=>exact mM
    ·have HX:Hid (zeH (l.take (i+1)) n=L++[y]):=hii (by rw[HX.o];simp[hy0]);have hyz:((y:Int) != 0)=true:=by simp;omega
     have hsz:=Hbw.o.size;clear hy0;go_wp2_with (at_builtin;go_loud (refine zke wp w w.heap.size rfl (.tmp 28) (.tmp 30) rfl (a:=y) rfl rfl hO hsz Hbw.o oM ?_);intro v2 w6 hO2 hb2);go_roundw
     case rel=>exact⟨i+1,oM,oM,gM,by rw[HX.o];exact hO2,hii hb2⟩
     case measure=>exact mM
  ·have HX:Hid (zeH (l.take i) n=zeH (l.take 3) n):=hii (by
    by_cases h3:i=3
    ·rw[h3]
    ·have h1:i=N:=oM;rw[h1,<-HN.o,List.take_length,List.take_of_length_le (by have:=HN.o;omega)])
   have HSt:Hid (zb5 l n=zcz (ziV (l.take 3) n)):=hii rfl;have HCl:=HC.o i;rw[HX.o]at HCl;have h16c:Hid (zaR (ziV (l.take 3) n)):=hii λx hx=>by
    have:=(zdz hn1 hx).2;have:=HKn.o;omega
   have HO1:Hid (ziV (l.take 3) n=if zeH (l.take 3) n=[]then [kM]else zeH (l.take 3) n):=hii (by rw[HKn.o];rfl);rw[HX.o]at hO;obtain⟨L,hL⟩:∃L,zeH (l.take 3) n=L:=⟨_,rfl⟩;rw[hL]at hO HO1 HCl;obtain⟨T,hT⟩:∃T,ziV (l.take 3) n=T:=⟨_,rfl⟩;rw[hT]at HSt HO1 h16c;have hend:(decide ((i:Int)<(N:Int)) && decide ((i:Int)<3))=false:=by
    rw[Bool.and_eq_false_iff,decide_eq_false_iff_not,decide_eq_false_iff_not];omega
   clear hL hT HX HS HA hsh hwr;obtain⟨aO,cO,eO,-,uO⟩:=hO.read;obtain⟨m,hm⟩:∃m,L.length=m:=⟨_,rfl⟩;rw[hm]at eO HCl;subst eO;have hsz:=Hbw.o.size
   by_cases hiN2:i<N
   ·have hilN:(i:Int)<(N:Int):=oM;have hil3:¬(i:Int)<3:=oM
    by_cases h0:L=[]
    ·subst h0;have hm0:m=0:=by rw[<-hm];rfl
     subst hm0;have HT:Hid (T=[kM]):=hii (by rw[HO1.o,if_pos rfl]);have hsh:(2:Int) ^ n=(M:Int):=by have:=HM.o;rw[<-this];push_cast;rfl
     have hwr:IntKind.u16.wrap (M:Int)=(M:Int):=zdi oM;obtain⟨wq,rfl⟩:=exi wr;clear hm HO1 hlt;have h1:T.length<=1000:=by rw[HT.o];simp
     go_wp2_with (at_builtin;go_loud (refine zke wq w w.heap.size rfl (.tmp 35) (.tmp 39) rfl (a:=kM) rfl rfl hO hsz Hbw.o sM ?_);intro v2 w6 hO2 hb2;obtain⟨a2,c2,e2,-,u2⟩:=hO2.read;rw[List.nil_append,<-HT.o]at e2 u2;subst e2);go_fit (zcY T a2 c2 w6 h1 u2 h16c);rintro e w7⟨⟨v3,rfl,hO3⟩,hb⟩;have hbw:=bu hb2 hb;have hsz6:=hb2.size;go_wp2;go_ret;exact⟨⟨_,rfl,by rw[HSt.o];exact hO3.weak hsz6⟩,hbw⟩
    ·have HT:Hid (L=T):=hii (by rw[HO1.o,if_neg h0]);have hm0:((m:Int)==0)=false:=by
      have:=List.length_pos_iff.2 h0;simp;omega
     have h1:T.length<=1000:=by rw[<-HT.o];omega
     have e1:T.length=m:=by rw[<-HT.o];exact hm
     have uO:zaF wr aO T:=by rw[<-HT.o];exact uO
     have HLc:=hii (zcY T aO cO wr h1 uO h16c);rw[e1]at HLc;clear e1 h1 hm h0 HT hlt;go_wp2_with fail;(with_reducible refine HLc.o.mono ?_);rintro e w7⟨⟨v3,rfl,hO3⟩,hb⟩;have hbw:=Below.step Hbw.o hb nl;go_wp2;go_ret;exact⟨⟨_,rfl,by rw[HSt.o];exact hO3.weak hsz⟩,hbw⟩
   ·have hilN:¬(i:Int)<(N:Int):=oM
    by_cases h0:L=[]
    ·subst h0;have hm0:m=0:=by rw[<-hm];rfl
     subst hm0;have HT:Hid (T=[kM]):=hii (by rw[HO1.o,if_pos rfl]);have hsh:(2:Int) ^ n=(M:Int):=by have:=HM.o;rw[<-this];push_cast;rfl
     have hwr:IntKind.u16.wrap (M:Int)=(M:Int):=zdi oM;obtain⟨wq,rfl⟩:=exi wr;clear hm HO1 hlt;have h1:T.length<=1000:=by rw[HT.o];simp
     go_wp2_with (at_builtin;go_loud (refine zke wq w w.heap.size rfl (.tmp 35) (.tmp 39) rfl (a:=kM) rfl rfl hO hsz Hbw.o sM ?_);intro v2 w6 hO2 hb2;obtain⟨a2,c2,e2,-,u2⟩:=hO2.read;rw[List.nil_append,<-HT.o]at e2 u2;subst e2);go_fit (zcY T a2 c2 w6 h1 u2 h16c);rintro e w7⟨⟨v3,rfl,hO3⟩,hb⟩;have hbw:=bu hb2 hb;have hsz6:=hb2.size;go_wp2;go_ret;exact⟨⟨_,rfl,by rw[HSt.o];exact hO3.weak hsz6⟩,hbw⟩
    ·have HT:Hid (L=T):=hii (by rw[HO1.o,if_neg h0]);have hm0:((m:Int)==0)=false:=by
      have:=List.length_pos_iff.2 h0;simp;omega
     have h1:T.length<=1000:=by rw[<-HT.o];omega
     have e1:T.length=m:=by rw[<-HT.o];exact hm
     have uO:zaF wr aO T:=by rw[<-HT.o];exact uO
     have HLc:=hii (zcY T aO cO wr h1 uO h16c);rw[e1]at HLc;clear e1 h1 hm h0 HT hlt;go_wp2_with fail;(with_reducible refine HLc.o.mono ?_);rintro e w7⟨⟨v3,rfl,hO3⟩,hb⟩;have hbw:=Below.step Hbw.o hb nl;go_wp2;go_ret;exact⟨⟨_,rfl,by rw[HSt.o];exact hO3.weak hsz⟩,hbw⟩
end Go.Proofs.YtfgffkmddanjjaaGreatDoor
