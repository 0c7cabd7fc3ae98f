/-
  The law LoadBound.
-/
import Derived.Test.YtfgffkmddanjjaaGreatDoorShelfE
import Derived.Test.YtfgffkmddanjjaaGreatDoorMh
set_option linter.unusedVariables false
set_option linter.unusedSimpArgs false
set_option maxRecDepth 100000
set_option maxHeartbeats 25600000
namespace Go.Proofs.YtfgffkmddanjjaaGreatDoor
open _root_.Go.Proofs.Tryz
open Go.RowKit
section
variable {G : Nat → Prop}
theorem zaf.setRow{a w:Wo}(h:zaf G a w){g:Nat}(hp:G g)(cs:Array Vl):zaf G a (w.setRow g cs) :=
 h.trans ⟨rfl,rfl,rfl,by simp[World.setRow],λk _ hg=>setRow_other w g k cs (λe=>hg (e▸hp))⟩
end
section
variable {P : Program} {ops : Array Oper} {Q : Exit → Act → Wo → Prop}
theorem cV(u:Vl):zj6 (vf u):=λ_ _ _ h=>h
theorem ziw.mem{Fs:List (Wo->Vl->Prop)}{us:List (Option Nat)}{i:Nat}{ds:List (Option Nat)}{T:Nat->Vl}{W:Wo}:∀{l:LN},(∀k∈l,(us.getD k none=none\/us.getD k none=some i)->(Fs.getD k λ_ _=>True) W (dv ds T k))->ziw Fs us i ds T W l
 |[],_=>trivial
 |k :: r,h=>⟨h k (by simp),ziw.mem λx hx=>h x (by simp[hx])⟩
theorem zm6.get:∀{cs:List Bool} {l:List (Wo->Vl->Prop)} (k:Nat),zm6 cs l->cs.getD k false=true->zj6 (l.getD k λ_ _=>True)
 |_,[],_,_,_=>λ_ _ _ _=>trivial
 |[],_ :: _,_,_,h=>by simp at h
 |_ :: _,_ :: _,0,h,hc=>h.1 hc
 |_ :: cs,_ :: r,k+1,h,hc=>zm6.get (cs:=cs) (l:=r) k h.2 (by simpa using hc)
def zk1(us:List (Option Nat))(i:Nat):Bool:=us.any (·==some i)
def znx(ops:Array Oper)(us:List (Option Nat))(cs:List Bool):Bool :=
 (List.range ops.size).all λi=>!zk1 us i || (List.range ops.size).all λk=>
  k==i || us.getD k none==some i || cs.getD k false || (zaq ops k).contains i || (match us.getD k none with|some u=>(zaq ops i).contains u|none=>false)
def zny(ops:Array Oper)(us:List (Option Nat))(ds:List (Option Nat))(pi d0:Nat):Bool :=
 (List.range ops.size).all λi=>(!zk1 us i && !(ds.getD i none==some d0)) || i==pi || (zaq ops i).any λj=>decide (j<ops.size) && (j==pi || (zaq ops j).contains pi)
def znX(us:List (Option Nat))(i:Nat)(wx W W':Wo):Prop:=BH wx W'/\(zk1 us i=false->BH W W')
end
def zix:List (Nat×Vl)->(Nat->Vl)->Prop
 |[],_=>True
 |(d,v) :: r,T=>T d=v/\zix r T
theorem zix.mem:∀{sl:List (Nat×Vl)} {T:Nat->Vl},zix sl T->∀{d v},(d,v)∈sl->T d=v
 |[],_,_,_,_,h=>by simp at h
 |(d',v') :: r,T,hA,d,v,h=>by
  rcases List.mem_cons.1 h with h|h
  ·cases h;exact hA.1
  ·exact zix.mem hA.2 h
theorem zix.of:∀{sl:List (Nat×Vl)} {T:Nat->Vl},(∀d v,(d,v)∈sl->T d=v)->zix sl T
 |[],_,_=>trivial
 |(d,v) :: r,T,h=>⟨h d v (by simp),zix.of λd' v' hm=>h d' v' (by simp[hm])⟩
def zoq(ops:Array Oper)(ds:List (Option Nat))(sl:List (Nat×Vl)):Bool :=
 (List.range ops.size).all λi=>match ds.getD i none with
  |some d=>!(sl.any λp=>p.1==d) || (List.range ops.size).all λk=>k==i || (zaq ops i).contains k
  |none=>true
theorem zmb{ops:Array Oper}{ds:List (Option Nat)}{sl:List (Nat×Vl)}(h:zoq ops ds sl=true){d:Nat}{v:Vl}(hm:(d,v)∈sl){i k:Nat}(hi:i<ops.size)(hd:ds.getD i none=some d)(hk:k<ops.size)(hne:k≠i):k∈zaq ops i:=by
 unfold zoq at h;rw[List.all_eq_true]at h;have h1:=h i (by simpa using hi);rw[hd]at h1;simp only[Bool.or_eq_true,Bool.not_eq_true',List.any_eq_false]at h1;rcases h1 with h1|h1
 ·have:=h1 (d,v) hm;simp at this
 ·rw[List.all_eq_true]at h1;have h2:=h1 k (by simpa using hk);simp only[Bool.or_eq_true,beq_iff_eq,List.contains_iff_mem]at h2;exact h2.resolve_left hne
section
variable {P : Program} {ops : Array Oper} {Q : Exit → Act → Wo → Prop}
theorem zdT{id:Nat}{a:Act}{w wx:Wo}(Fs:List (Wo->Vl->Prop))(us:List (Option Nat))(cs:List Bool)(ds:List (Option Nat))(dl:LN)(pi d0:Nat)(P0:Wo->Vl->Prop)(sl:List (Nat×Vl))(hpi:pi<ops.size)
 (hP0:P0 w.drew (a.tmps.getD d0 undef))(hPS:zik P0)(hsl:zoq ops ds sl=true)(hI0:zix sl (λk=>a.tmps.getD k undef))
  (hw:BH wx w)(hS:zmW Fs)(hC:zm6 cs Fs)
  (hs:zaC (λi o=>∀(T:Nat->Vl)(W:Wo),BH wx W->(i=pi->P0 W (T d0))->zix sl T->ziw Fs us i ds T W (zaM .any o) ->
   ∀K:Act->Wo->Prop,(∀v W',znX us i wx W W'->(Fs.getD i λ_ _=>True) W' ((o.dst.map λ_=>v).getD undef)->K (({a with tmps:=ovr a.tmps T dl}:Act).put o.dst v) W') ->
    wpOp P ops Q i K {a with tmps:=ovr a.tmps T dl} W) 0 ops.toList)
  (he:∀T W,BH wx W->ziw Fs us ops.size ds T W (List.range ops.size)->Q .normal {a with tmps:=ovr a.tmps T dl} W)
  (hm:P.follows .mixedOrders=true:=by kernel_rfl) (ht:ziG .any ops=true:=by kernel_rfl) (hd:ops.toList.map (·.dst)=ds:=by kernel_rfl) (hdl:ds.filterMap (λx=>x)=dl:=by kernel_rfl) (hnd:dl.Nodup:=by exact of_decide_eq_true (by kernel_rfl)) (hok:znx ops us cs=true:=by kernel_rfl) (hop:zny ops us ds pi d0=true:=by kernel_rfl):(Code.region id ops true).wp P Q a w:=by
 have hnd':(ds.filterMap _root_.id).Nodup:=by
  have:ds.filterMap _root_.id=dl:=hdl;rw[this];exact hnd
 have hdst:∀(i:Nat)(o:Oper),ops[i]?=some o->i<ops.size/\o.dst=ds.getD i none:=by
  intro i o ho;have hi:i<ops.size:=(Array.getElem?_eq_some_iff.1 ho).1;refine⟨hi,?_⟩;have h1:(ops.toList.map (·.dst))[i]?=some o.dst:=by simp[ho]
  rw[hd]at h1;rw[List.getD_eq_getElem?_getD,h1];rfl
 have hus:∀k,ops.size<=k->True:=λ_ _=>trivial
 have huse:∀i k,i<ops.size->k<ops.size->zk1 us i=true->k≠i->us.getD k none≠some i->cs.getD k false=true\/i∈zaq ops k\/∃u,us.getD k none=some u/\u∈zaq ops i:=by
  intro i k hi hk hb hne hnu;unfold znx at hok;rw[List.all_eq_true]at hok;have h1:=hok i (by simpa using hi);rw[hb,Bool.not_true,Bool.false_or,List.all_eq_true]at h1;have h2:=h1 k (by simpa using hk);simp only[Bool.or_eq_true,beq_iff_eq,List.contains_iff_mem]at h2;rcases h2 with(((h|h)|h)|h)|h
  ·exact absurd h hne
  ·exact absurd h hnu
  ·exact .inl h
  ·exact .inr (.inl h)
  ·refine .inr (.inr ?_)
   cases hu:us.getD k none with
   |none=>rw[hu]at h;simp at h
   |some u=>rw[hu]at h;exact⟨u,rfl,by simpa using h⟩
 have hwt:∀k o,ops[k]?=some o->zaq ops k=zaM .any o:=by
  intro k o ho;unfold zaq;rw[ho];rfl
 have hpre:∀i,i<ops.size->(zk1 us i=true\/ds.getD i none=some d0)->i≠pi->∃j,j<ops.size/\j∈zaq ops i/\(j=pi\/pi∈zaq ops j):=by
  intro i hi hb hne;unfold zny at hop;rw[List.all_eq_true]at hop;have h1:=hop i (by simpa using hi);simp only[Bool.or_eq_true,beq_iff_eq,List.any_eq_true,Bool.and_eq_true,decide_eq_true_eq,List.contains_iff_mem,Bool.not_eq_true',beq_eq_false_iff_ne]at h1;rcases h1 with(h|h)|⟨j,hj,hjl,h⟩
  ·exfalso
   rcases hb with hb|hb
   ·rw[h.1]at hb;cases hb
   ·exact h.2 hb
  ·exact absurd h hne
  ·exact⟨j,hjl,hj,h⟩
 refine zbr (λL T W=>BH wx W/\(¬L pi->P0 W (T d0))/\(∀d v,(d,v)∈sl->(∀i,i<ops.size->ds.getD i none=some d->¬L i)->T d=v)/\(∀k,k<ops.size->L k->∀d∈zaq ops k,L d)/\∀k,k<ops.size->L k->(∀u,us.getD k none=some u->u<ops.size->¬L u)->(Fs.getD k λ_ _=>True) W (dv ds T k)) dl hm ht ?_ ⟨hw.drew,λ_=>hP0,λd v hm _=>zix.mem hI0 hm,λk _ h=>h.elim,λk _ h=>h.elim⟩ ?_ ?_ ?_
 ·unfold zmn;rw[<-hdl,<-hd];simp[List.filterMap_map]
  rfl
 ·have key:∀(l:List Oper)(k:Nat),(∀j o,l[j]?=some o->ops[k+j]?=some o) ->
    zaC (λi o=>∀(T:Nat->Vl)(W:Wo),BH wx W->(i=pi->P0 W (T d0))->zix sl T->ziw Fs us i ds T W (zaM .any o) ->
     ∀K:Act->Wo->Prop,(∀v W',znX us i wx W W'->(Fs.getD i λ_ _=>True) W' ((o.dst.map λ_=>v).getD undef)->K (({a with tmps:=ovr a.tmps T dl}:Act).put o.dst v) W') ->
      wpOp P ops Q i K {a with tmps:=ovr a.tmps T dl} W) k l ->
    zaC (λi o=>∀(L:Nat->Prop)(T:Nat->Vl)(w:Wo),zdp L (zaM .any o)->¬L i->(BH wx w/\(¬L pi->P0 w (T d0))/\(∀d v,(d,v)∈sl->(∀i,i<ops.size->ds.getD i none=some d->¬L i)->T d=v)/\(∀k,k<ops.size->L k->∀d∈zaq ops k,L d)/\∀k,k<ops.size->L k->(∀u,us.getD k none=some u->u<ops.size->¬L u)->(Fs.getD k λ_ _=>True) w (dv ds T k)) ->
     ∀K:Act->Wo->Prop,(∀v w',(BH wx w'/\(¬(pi=i\/L pi)->P0 w' (zbB T o.dst v d0))/\(∀d u,(d,u)∈sl->(∀j,j<ops.size->ds.getD j none=some d->¬(j=i\/L j))->zbB T o.dst v d=u)/\(∀k,k<ops.size->(k=i\/L k)->∀d∈zaq ops k,(d=i\/L d))/\∀k,k<ops.size->(k=i\/L k)->(∀u,us.getD k none=some u->u<ops.size->¬(u=i\/L u))->(Fs.getD k λ_ _=>True) w' (dv ds (zbB T o.dst v) k))->K (({a with tmps:=ovr a.tmps T dl}:Act).put o.dst v) w') ->
      wpOp P ops Q i K {a with tmps:=ovr a.tmps T dl} w) k l:=by
   intro l
   induction l with
   |nil=>intro k _ _;trivial
   |cons o r ih=>
    intro k hin h;refine⟨?_,ih (k+1) (λj o' ho=>by have:=hin (j+1) o' (by simpa using ho);rw[show k+1+j=k+(j+1) by omega];exact this) h.2⟩;rintro L T W hL hn⟨hb,hp,hI,hcl,hJ⟩K hK;have hko:ops[k]?=some o:=by simpa using hin 0 o rfl
    obtain⟨hkl,hkd⟩:=hdst k o hko;have hks:k<ops.size:=hkl;have hall:=zdp.all hL;refine h.1 T W hb (λe=>hp (e▸hn)) (zix.of λd v hm=>hI d v hm λi hi hdi hLi=>?_) (ziw.mem λd hdw hu=>hJ d (Nat.lt_trans (zbt ht hko hdw) hks) (hall d hdw) λu hu' _ hLu=>?_) K λv W' hst hv=>hK v W' ⟨hst.1,?_,?_,?_,?_⟩
    ·by_cases hik:i=k
     ·subst hik;exact hn hLi
     ·exact hn (hcl i hi hLi k (zmb hsl hm hi hdi hks (λe=>hik e.symm)))
    ·rcases hu with hu|hu
     ·rw[hu]at hu';cases hu'
     ·rw[hu]at hu';cases hu';exact hn hLu
    ·intro hnp;have hP:=hp λh=>hnp (.inr h)
     by_cases hbg:zk1 us k=true\/ds.getD k none=some d0
     ·exfalso
      obtain⟨j,hjl,hj,hjp⟩:=hpre k hks hbg λe=>hnp (.inl e.symm)
      rw[hwt _ _ hko]at hj;have hLj:=hall j hj;rcases hjp with rfl|hjp
      ·exact hnp (.inr hLj)
      ·exact hnp (.inr (hcl j hjl hLj pi hjp))
     ·have h1:zk1 us k=false:=by
       cases hbb:zk1 us k with
       |false=>rfl
       |true=>exact absurd (.inl hbb) hbg
      have hval:zbB T o.dst v d0=T d0:=by
       cases hdo:o.dst with
       |none=>rfl
       |some d'=>
        have hne:d0≠d':=λe=>hbg (.inr (by rw[<-hkd,hdo,e]))
        simp[zbB,upd,hne]
      rw[hval];exact hPS _ _ _ hP (hst.2 h1)
    ·intro d u hm hno;have hne:o.dst≠some d:=λe=>hno k hks (by rw[<-hkd,e]) (.inl rfl)
     have hval:zbB T o.dst v d=T d:=by
      cases hdo:o.dst with
      |none=>rfl
      |some d'=>
       have:d≠d':=λe=>hne (by rw[hdo,e])
       simp[zbB,upd,this]
     rw[hval];exact hI d u hm λj hj hdj hLj=>hno j hj hdj (.inr hLj)
    ·rintro j hj (rfl|hLj) d hd
     ·rw[hwt _ _ hko]at hd;exact .inr (hall d hd)
     ·exact .inr (hcl j hj hLj d hd)
    ·rintro j hj hLj halive
     by_cases hjk:j=k
     ·subst hjk;have:dv ds (zbB T o.dst v) j=(o.dst.map λ_=>v).getD undef:=by
       unfold dv;rw[<-hkd]
       cases hdo:o.dst with
       |none=>rfl
       |some d=>simp[zbB,upd]
      rw[this];exact hv
     ·have hLj:L j:=hLj.resolve_left hjk;have hval:dv ds (zbB T o.dst v) j=dv ds T j:=by
       unfold dv
       cases hdj:ds.getD j none with
       |none=>rfl
       |some d=>
        cases hdo:o.dst with
        |none=>rfl
        |some d'=>
         have hne:d≠d':=λe=>by
          rw[hdo]at hkd;exact hjk (zbo hnd' hdj (by rw[<-hkd,e]))
         simp[zbB,upd,hne]
      rw[hval];have hF:=hJ j hj hLj λu hu hul hLu=>halive u hu hul (.inr hLu)
      cases hbig:zk1 us k with
      |false=>exact zmW.get j hS _ _ _ hF (hst.2 hbig)
      |true=>
       have hnu:us.getD j none≠some k:=λe=>halive k e hks (.inl rfl)
       rcases huse k j hks hj hbig hjk hnu with hc|hc|⟨u,hu,hc⟩
       ·exact zm6.get j hC hc _ _ _ hF
       ·exact absurd (hcl j hj hLj k hc) hn
       ·rw[hwt _ _ hko]at hc;exact absurd (.inr (hall u hc)) (halive u hu (Nat.lt_trans (zbt ht hko hc) hks))
  exact key ops.toList 0 (λj o ho=>by simpa using ho) hs
 ·rintro T W⟨hb,_,_,_,hJ⟩;refine he T W hb (ziw.mem λk hk hu=>hJ k (by simpa using hk) (by simpa using hk) λu hu' hul _=>?_);rcases hu with hu|hu
  ·rw[hu]at hu';cases hu'
  ·rw[hu]at hu';cases hu';omega
 ·rintro L T W hL⟨hb,hp,hI,hcl,hJ⟩;refine⟨hb,λh=>?_,λd v hm hno=>hI d v hm λi hi hdi _=>hno i hi hdi hi,λk hk _ d hd=>?_,λk hk _ hal=>hJ k hk (hL k hk) λu hu hul _=>hal u hu hul hul⟩
  ·exact absurd hpi h
  obtain⟨o,ho⟩:∃o,ops[k]?=some o:=⟨ops[k],Array.getElem?_eq_getElem hk⟩;rw[hwt k o ho]at hd;exact Nat.lt_trans (zbt ht ho hd) hk
end
theorem zdG(z:Array Vl)(n j:Nat)(h:j<n):(madeCells z n).toList[j]?=some (z[j % z.size]!):=by
 unfold madeCells;simp[h]
theorem zot(w:Wo)(n:Nat):MQ (w.alloc (.cells (madeCells #[bF_,nS_,bF_,nS_] (n*4)) 32)) w.heap.size (List.replicate n none):=by
 refine⟨(madeCells #[bF_,nS_,bF_,nS_] (n*4)).toList,?_,?_,?_,?_⟩
 ·have:=heap_alloc_new w (.cells (madeCells #[bF_,nS_,bF_,nS_] (n*4)) 32)
  simpa [Row]using this
 ·simp[size_madeCells]
 ·intro u hu k z e;obtain⟨j,hj⟩:=List.getElem?_of_mem hu;have hlt:j<n*4:=by
   have:=(List.getElem?_eq_some_iff.1 hj).1
   simpa [size_madeCells]using this
  rw[zdG _ _ _ hlt]at hj;have h4:j % 4<4:=Nat.mod_lt _ (by decide);simp only[Option.some.injEq]at hj;subst e;simp only[List.size_toArray,List.length_cons,List.length_nil,Nat.zero_add,Nat.reduceAdd]at hj
  match hm:j % 4,h4 with
  |0,_=>rw[hm]at hj;simp at hj
  |1,_=>rw[hm]at hj;simp at hj
  |2,_=>rw[hm]at hj;simp at hj
  |3,_=>rw[hm]at hj;simp at hj
 ·intro i o hi;rw[List.getElem?_replicate]at hi
  split at hi
  ·next hlt=>
   cases hi
   have e:∀m,m<4->(i*4+m) % 4=m:=λm hm=>by omega
   refine⟨false,none,0,0,false,none,0,0,?_,?_,?_,?_,ziz _⟩
   ·rw[zdG _ _ _ (by omega)];simp
   ·rw[zdG _ _ _ (by omega)];simp[e 1 (by omega)]
   ·rw[zdG _ _ _ (by omega)];simp[e 2 (by omega)]
   ·rw[zdG _ _ _ (by omega)];simp[e 3 (by omega)]
  ·cases hi
section
variable {ops : Array Oper} {rest : List Oper} {o : Oper} {a : Act} {Q : Exit → Act → Wo → Prop}
theorem znE(w:Wo)(hg:o.guard=none)(l c:Operand)(hop:o.op=Op.makeSlice 33 l c)(n:Nat)
  (hl:a.eval l=.int .i64 n)(hc:a.eval c=.int .i64 n)(hn:n<=1000000)
  (hK:∀w',MQ w' w.heap.size (List.replicate n none)->BH w w'->wpList Tryz.prog ops Q rest (a.put o.dst (.slice (some ⟨w.heap.size,0,none⟩) n n)) w') :
  wpList Tryz.prog ops Q (o :: rest) a w:=by
 obtain⟨i0,hi,hz0,hz1,hz2⟩:=info_parts Tryz.info32;have hr:=run_makeSlice (P:=Tryz.prog) w 33 32 i0 (.agg #[bF_,nS_,bF_,nS_]) Tryz.underlying33 hi hz0 .i64 .i64 n n (by omega) (by omega)
  (by rw[hz1];omega) (by rw[hz2];omega) (by omega)
 simp only[Int.toNat_natCast]at hr;refine wpList_plain hg λK hK'=>?_
 unfold Oper.wp;simp[execOp,hop,hl,hc,hr,Result.andThen];refine hK' _ _ (hK _ ?_ (bA _ _));rw[hz1];exact zot w n
end
theorem zjP(g o j:Nat):(⟨g,o,none⟩:Addr).add j=⟨g,o+j,none⟩:=by
 unfold Addr.add;split
 ·subst j;rfl
 ·rfl
theorem zfr(w:Wo)(g n k m:Nat)(v4:List Vl)(hR:zgK w g n k v4)(hv:v4.length=4)(h1:∀u∈v4,u.oneCell'=true)(a:Addr)(sLen sCap dCap:Nat)(hm:m=Nat.min sLen (n-k))(hkn:k<=n)
  (hsrc:∀j u,j<m*4->v4[j % 4]?=some u->w.cell? (a.add j)=some u) :
  ∃w',(∀ty,(Builtin.copy_ #[33,33] ty #[.slice (some ⟨g,k*4,none⟩) (n-k) dCap,.slice (some a) sLen sCap]).run Tryz.prog w=.ok (.int .i64 m) w')/\zgK w' g n (k+m) v4/\zaf (λb=>b=g) w w':=by
 obtain⟨i0,hi,hz0,hz1,hz2⟩:=info_parts Tryz.info32;obtain⟨xs,hr,hx,hk⟩:=hR
 let cs:List Vl:=(List.range (m*4)).map λj=>v4.getD (j % 4) undef
 have hcl:cs.length=m*4:=by simp[cs]
 have hat:∀j,j<m*4->cs[j]?=v4[j % 4]?:=by
  intro j hj;have h4:j % 4<v4.length:=by rw[hv];exact Nat.mod_lt _ (by decide)
  simp only[cs,List.getElem?_map,List.getElem?_range hj,Option.map_some,List.getD_eq_getElem?_getD,gE h4,Option.getD_some]
 have hmn:m<=n-k:=by rw[hm];exact Nat.min_le_right _ _
 have hl:=run_loadCells_list (P:=Tryz.prog) (w:=w) a cs (λj u hj=>by
  have hlt:j<m*4:=by have:=(List.getElem?_eq_some_iff.1 hj).1;omega
  exact hsrc j u hlt (by rw[<-hat j hlt];exact hj))
 have hmem:∀u∈cs,u.oneCell'=true:=by
  intro u hu;obtain⟨j,hj⟩:=List.getElem?_of_mem hu;have hlt:j<m*4:=by have:=(List.getElem?_eq_some_iff.1 hj).1;omega
  rw[hat j hlt]at hj;exact h1 u (List.mem_of_getElem? hj)
 have hst:=run_storeCells_at (P:=Tryz.prog) g (k*4) 32 cs 0 xs.toArray w hr (by simp[hcl,hx];omega) hmem;simp only[Nat.add_zero]at hst;have hrun:∀ty,(Builtin.copy_ #[33,33] ty #[.slice (some ⟨g,k*4,none⟩) (n-k) dCap,.slice (some a) sLen sCap]).run Tryz.prog w=.ok (.int .i64 m) (w.setRow g (xs.take (k*4)++cs++xs.drop (k*4+cs.length)).toArray):=by
  intro ty;have hl2:(loadCells a (m*4)).run Tryz.prog w=.ok cs.toArray w:=by rw[<-hcl];exact hl
  simp[Builtin.copy_,run_underlying Tryz.underlying33,Builtin.lenOf,Builtin.firstCells,sizeOf,typeInfo,hi,hz1,hl2,hst,<-hm,goInt]
 refine⟨_,hrun,⟨xs.take (k*4)++cs++xs.drop (k*4+cs.length),setRow_heap w g _ _ _ _ hr,?_,?_⟩,(zaf.refl (G:=λb=>b=g) w).setRow rfl _⟩
 ·simp[hcl,hx];omega
 ·intro j hj
  by_cases h2:j<k*4
  ·rw[List.append_assoc,List.getElem?_append_left (by simp;omega),List.getElem?_take,if_pos h2];exact hk j h2
  ·have hlt:j-k*4<m*4:=by omega
   have hlen:(xs.take (k*4)).length=k*4:=by simp;omega
   rw[List.append_assoc,List.getElem?_append_right (by omega),hlen,List.getElem?_append_left (by omega),hat _ hlt];rw[show(j-k*4) % 4=j % 4 by omega]
theorem zja{P:Program}{o:Oper}{a:Act}{Q:Exit->Act->Wo->Prop}{next:Act->Wo->Prop}{T:TypeId}{v u v':Vl}{w w':Wo}(s x:Operand)(ho:o.op=.call {callee:=.builtin .copy,args:=#[s,x],argTypes:=#[T,T]})(hs:a.eval s=v)(hx:a.eval x=u)
  (hr:(Builtin.copy_ #[T,T] o.type #[v,u]).run P w=.ok v' w')(hK:next (a.put o.dst v') w'):o.wp P a w next Q:=by
 unfold Oper.wp;simp[execOp,ho,resolve,invoke,builtin,hs,hx,hr,Result.andThen];exact hK
theorem zgK.all{w:Wo}{g n:Nat}{n1:Bool}{a1:OA}{l1 c1:Nat}{n2:Bool}{a2:OA}{l2 c2:Nat}{o:Qo}(h:zgK w g n n [.bool n1,.slice a1 l1 c1,.bool n2,.slice a2 l2 c2])(hv:QV w (.agg #[.bool n1,.slice a1 l1 c1,.bool n2,.slice a2 l2 c2]) o):UQ w (sD g 0) (List.replicate n o):=by
 obtain⟨xs,h1,h2,h3⟩:=h;intro i q hi;rw[List.getElem?_replicate]at hi
 split at hi
 ·next hlt=>
  cases hi
  have hc:∀j u,xs[j]?=some u->w.cell? ⟨g,0+j,none⟩=some u:=by
   intro j u hu;obtain⟨hj,rfl⟩:=List.getElem?_eq_some_iff.1 hu;rw[Nat.zero_add];exact h1.cell hj
  have e:∀m,m<4->(i*4+m) % 4=m:=λm hm=>by omega
  refine⟨g,0,n1,a1,l1,c1,n2,a2,l2,c2,rfl,⟨hc (i*4) _ ?_,hc (i*4+1) _ ?_,hc (i*4+2) _ ?_,hc (i*4+3) _ ?_,trivial,trivial,trivial,trivial⟩,hv⟩
  ·rw[h3 _ (by omega)];simp
  ·rw[h3 _ (by omega),e 1 (by omega)];simp
  ·rw[h3 _ (by omega),e 2 (by omega)];simp
  ·rw[h3 _ (by omega),e 3 (by omega)];simp
 ·cases hi
theorem znc(z:Nat)(h:z<18446744073709551616):IntKind.u64.wrap (z:Int)=(z:Int):=by
 simp[IntKind.wrap,IntKind.bits,IntKind.signed];omega
theorem zlu(z:Nat)(h:z<9223372036854775808):IntKind.i64.wrap (z:Int)=(z:Int):=by
 simp[IntKind.wrap,IntKind.bits,IntKind.signed];omega
theorem zil(n b:Nat)(n1:Bool)(a1:OA)(l1 c1:Nat)(n2:Bool)(a2:OA)(l2 c2:Nat)(w:Wo)(hn:n<=1000000)(hB:zaQ w b (.bool n1) (.slice a1 l1 c1) (.bool n2) (.slice a2 l2 c2)) :
  CP 25 #[.slice (sD b 0) 1 1,.int .i64 n] w λe w'=>(∃g,e=.returned (.slice (sD g 0) n n)/\zgK w' g n n [.bool n1,.slice a1 l1 c1,.bool n2,.slice a2 l2 c2])/\BH w w':=by
 have Hn:=hii hn;have hw1:IntKind.u64.wrap (n:Int)=(n:Int):=znc n (by omega);have hw2:IntKind.i64.wrap (n:Int)=(n:Int):=zlu n (by omega);have hd:n / 18446744073709551616=0:=Nat.div_eq_of_lt (by omega);have hm:n % 18446744073709551616=n:=Nat.mod_eq_of_lt (by omega);have g1:¬(9223372036854775807:Int)<(n:Int):=by omega
 go_enter func25,ntmps25;go_wp2_with fail;have hM:=Tryz.bits_Mul 1 n (by decide) (by omega) w;rw[Nat.one_mul,hd,hm]at hM;simp only[Int.natCast_one,Int.natCast_zero]at hM;(with_reducible refine hM.mono ?_);rintro e w1⟨rfl,rfl⟩;obtain⟨v4,hv4⟩:∃v4:List Vl,v4=[.bool n1,.slice a1 l1 c1,.bool n2,.slice a2 l2 c2]:=⟨_,rfl⟩;have hvl:Hid (v4.length=4):=hii (by rw[hv4];rfl);have hv1:Hid (∀u∈v4,u.oneCell'=true):=hii (by rw[hv4];intro u hu;simp at hu;rcases hu with rfl|rfl|rfl|rfl<;>rfl);have hsrc:Hid (∀(W:Wo),BH w1 W->∀j u,j<4->v4[j % 4]?=some u->W.cell? ((⟨b,0,none⟩:Addr).add j)=some u):=hii (by
  intro W hb j u hj hu;have hB:=hB.mono hb;rw[hv4,Nat.mod_eq_of_lt hj]at hu;rw[zjP,Nat.zero_add]
  match j,hj with
  |0,_=>simp at hu;subst hu;exact hB.c0
  |1,_=>simp at hu;subst hu;exact hB.c1
  |2,_=>simp at hu;subst hu;exact hB.c2
  |3,_=>simp at hu;subst hu;exact hB.c3)
 have Hv4:=hii hv4;clear hv4 hM hB;go_wp2_with (at_make;refine znE w1 rfl _ _ rfl n rfl rfl hn ?_;intro w2 hQ hb);have hR:zgK w2 w1.heap.size n 0 v4:=by
  obtain⟨xs,h1,h2,_⟩:=hQ;exact⟨xs,h1,by simpa using h2,λj hj=>by omega⟩
 obtain⟨g,hg⟩:=exi (w1.heap.size);have Hg:Hid (w1.heap.size<=g):=hii (by omega);simp only[<-hg]at hR|-;obtain⟨w3,hr,hR3,hk3⟩:=zfr w2 g n 0 (Nat.min 1 n) v4 hR hvl.out hv1.out ⟨b,0,none⟩ 1 1 n (by rw[Nat.sub_zero]) (Nat.zero_le _) (λj u hj hu=>hsrc.out w2 hb j u (by have:Nat.min 1 n<=1:=Nat.min_le_left 1 n;omega) hu);simp only[Nat.zero_mul,Nat.sub_zero,Nat.zero_add]at hr hR3;have hbw:BH w1 w3:=hb.trans (hk3.below (λb hb=>by rw[hb];exact Hg.out) hb.size);clear hg hR hQ hb hk3 hsrc;go_wp2_with fail;rw[hr];clear hr;go_wp2_with fail;go_loopw [8] (λs wr=>∃k:Nat,k<=n/\s=.int .i64 k/\(n≠0->0<k)/\zgK wr g n k v4/\BH w1 wr) (λs _=>n-(intOf s).toNat)
 case atStart=>exact⟨Nat.min 1 n,Nat.min_le_right _ _,rfl,λh=>by have:=Nat.le_min.2 ⟨Nat.le_refl 1,(by omega:1<=n)⟩;exact this,hR3,hbw⟩
 case round=>
  clear hR3 hbw;obtain⟨k,hk,rfl,hk0,hR,hbw⟩:=hrel
  by_cases hlt:k<n
  ·have hk1:=hk0 (by omega);clear hk0;obtain⟨m,hmin⟩:∃m,m=Nat.min k (n-k):=⟨_,rfl⟩;have hml:m<=k:=by rw[hmin];exact Nat.min_le_left _ _
   have hmr:m<=n-k:=by rw[hmin];exact Nat.min_le_right _ _
   have hm1:0<m:=by rw[hmin];exact Nat.lt_min.2 ⟨hk1,by omega⟩
   have hmn:k+m<=n:=by omega
   have hnk:¬n=k:=by omega
   have Hml:=hii hml;have Hwr:Hid (IntKind.i64.wrap ((k:Int)+(m:Int))=(k:Int)+(m:Int)):=hii (by have:=zlu (k+m) (by omega);simpa using this);have Hmin:=hii hmin;clear hmin;go_upto_region 9 with fail;refine zdT (wx:=w1) [vf (.int .i64 k),(λW v=>v=.slice (sD g 0) n n/\zgK W g n k v4),vf (.int .i64 k),(λW v=>v=.slice (some ⟨g,k*4,none⟩) (n-k) (n-k)/\zgK W g n k v4),vf (.slice (sD g 0) n n),vf (.int .i64 k),vf (.slice (sD g 0) k n),(λW v=>v=.int .i64 m/\zgK W g n (k+m) v4),vf (.int .i64 ((k:Int)+(m:Int))),vf (.int .i64 ((k:Int)+(m:Int)))] [none,some 3,none,some 7,none,none,none,none,none,none] [true,false,true,false,true,true,true,false,true,true] [some 38,some 39,some 40,some 41,some 42,some 43,some 44,some 45,some 46,some 8] [38,39,40,41,42,43,44,45,46,8] 1 7 (λW _=>zgK W g n k v4) [(8,.int .i64 k)] (by decide) (hR.mono br.drew) (λ_ _ _ h hb=>h.mono hb) (by kernel_rfl) ⟨rfl,trivial⟩ (hbw) ⟨sV _,λ_ _ _ ⟨e,h⟩ hb=>⟨e,h.mono hb⟩,sV _,λ_ _ _ ⟨e,h⟩ hb=>⟨e,h.mono hb⟩,sV _,sV _,sV _,λ_ _ _ ⟨e,h⟩ hb=>⟨e,h.mono hb⟩,sV _,sV _,trivial⟩ ⟨λ_=>cV _,(λh=>absurd h (by decide)),λ_=>cV _,(λh=>absurd h (by decide)),λ_=>cV _,λ_=>cV _,λ_=>cV _,(λh=>absurd h (by decide)),λ_=>cV _,λ_=>cV _,trivial⟩ ⟨?s0,?s1,?s2,?s3,?s4,?s5,?s6,?s7,?s8,?s9,trivial⟩ ?he
   case' s0|s1|s2|s3|s4|s5|s6|s7|s8|s9=>
    rintro T W hb hp hI hA K hK
   case' s0|s2|s4|s5=>
    have i8:T 8=.int .i64 k:=hI.1;simp only[sA,i8]at hK|-
   case' s6=>
    have i8:T 8=.int .i64 k:=hI.1;have e4:T 42=_:=hA.1 (by decide);have e5:T 43=_:=hA.2.1 (by decide);simp only[sA,i8,e4,e5]at hK|-
   case' s9=>
    have i8:T 8=.int .i64 k:=hI.1;have e8:T 46=_:=hA.1 (by decide);have r7:(_:Wo->Vl->Prop) W (T 45):=hA.2.1 (by decide);have e0:T 38=_:=hA.2.2.1 (by decide);have e2:T 40=_:=hA.2.2.2.2.1 (by decide);have e4:T 42=_:=hA.2.2.2.2.2.2.1 (by decide);have e5:T 43=_:=hA.2.2.2.2.2.2.2.1 (by decide);have e6:T 44=_:=hA.2.2.2.2.2.2.2.2.1 (by decide);obtain⟨e7,_⟩:=r7;simp only[sA,i8,e8,e0,e2,e4,e5,e6,e7]at hK|-
   case s0|s2|s4|s5|s6|s9=>
    have HK:=hii hK;clear hK hA;refine wO rfl ?_;go_simp;exact HK.out _ _ ⟨hb,λ_=>br⟩ (rfl)
   case s1=>
    have i8:T 8=.int .i64 k:=hI.1;have hp:=hp rfl;simp only[sA,i8]at hK|-;have HK:=hii hK;clear hK hA;refine wO rfl ?_;go_simp;exact HK.out _ _ ⟨hb,λ_=>br⟩ (⟨rfl,hp⟩)
   case s3=>
    have i8:T 8=.int .i64 k:=hI.1;have r1:(_:Wo->Vl->Prop) W (T 39):=hA.1 (by decide);have e2:T 40=_:=hA.2.1 (by decide);obtain⟨e1,hR1⟩:=r1;simp only[sA,i8,e2,e1]at hK|-;have HK:=hii hK;clear hK hA;refine wO rfl ?_;go_simp;exact HK.out _ _ ⟨hb,λ_=>br⟩ (⟨rfl,hR1⟩)
   case s7=>
    have i8:T 8=.int .i64 k:=hI.1;have r3:(_:Wo->Vl->Prop) W (T 41):=hA.1 (by decide);have e6:T 44=_:=hA.2.1 (by decide);obtain⟨e3,hR3⟩:=r3;simp only[sA,i8,e6,e3]at hK|-;have HK:=hii hK;clear hK hA;obtain⟨w1',hr0,hR4,hk4⟩:=zfr W g n k m v4 hR3 hvl.out hv1.out ⟨g,0,none⟩ k n (n-k) Hmin.out hk (λj u hj hu=>by
     obtain⟨xs,q1,q2,q3⟩:=hR3;rw[zjP,Nat.zero_add];have hjk:j<k*4:=by have:=Hml.out;omega
     have hx:=q3 j hjk;rw[hu]at hx;obtain⟨hj2,rfl⟩:=List.getElem?_eq_some_iff.1 hx;exact q1.cell hj2)
    have hr:=hr0 3;have hbw1:BH w1 w1':=hb.trans (hk4.below (λb hb=>by rw[hb];exact Hg.out) hb.size);refine wO rfl ?_;refine zja _ _ rfl rfl rfl hr ?_;simp only[Act.put,List.setIfInBounds_toArray,List.set_cons_zero,List.set_cons_succ];exact HK.out _ _ ⟨hbw1,λh=>absurd h (by decide)⟩ (⟨rfl,hR4⟩)
   case s8=>
    have i8:T 8=.int .i64 k:=hI.1;have e0:T 38=_:=hA.1 (by decide);have r7:(_:Wo->Vl->Prop) W (T 45):=hA.2.1 (by decide);obtain⟨e7,_⟩:=r7;simp only[sA,i8,e0,e7]at hK|-;have HK:=hii hK;clear hK hA;refine wO rfl ?_;go_simp;exact HK.out _ _ ⟨hb,λ_=>br⟩ (congrArg (Value.int .i64) Hwr.out)
   case he=>
    rintro T W hb hA;have f7:((λW v=>v=.int .i64 m/\zgK W g n (k+m) v4):Wo->Vl->Prop) W (T 45):=hA.of 7 (by decide) (by decide);have f9:T 8=.int .i64 ((k:Int)+(m:Int)):=hA.of 9 (by decide) (by decide);obtain⟨-,hR5⟩:=f7;simp only[sA,f9];clear hA f9;obtain⟨wz,rfl⟩:=exi W;go_wp2;go_roundw
    case rel=>exact⟨k+m,hmn,by simp,λ_=>by omega,hR5,hb⟩
    case measure=>simp[intOf];omega
  ·obtain rfl:k=n:=by omega
   go_wp2;go_ret;exact⟨⟨g,rfl,by rw[<-Hv4.out];exact hR⟩,hbw⟩
theorem WkM.twice{R S lC:LN}{f:Rat}{n:Nat}(W:WkM R S f (zen lC n) n):WkM R S f ((zen lC n).map (·*2)) n:=by
 refine⟨W.hm,W.fR,W.fS,W.n9,by rw[List.length_map];exact W.lc,W.f0,W.f1,W.wf,λc hc=>?_,λc hc=>?_⟩
 ·obtain⟨d,hd,rfl⟩:=List.mem_map.1 hc;obtain⟨z,h1,h2,rfl⟩:=ze3 hd;exact zlw h1 h2 (c:=2) (.inr rfl)
 ·obtain⟨d,hd,rfl⟩:=List.mem_map.1 hc;obtain⟨z,h1,h2,rfl⟩:=ze3 hd;exact Rat.mul_pos (zfN (by decide) (by omega)) (by decide)
theorem WkM.ones{R S:LN}{f:Rat}{cap:List Rat}{n:Nat}(W:WkM R S f cap n):WkM R S 0 (List.replicate n 1) n:=by
 refine⟨W.hm,W.fR,W.fS,W.n9,by simp,Rat.le_refl,by decide,⟨0,by decide+kernel,by decide⟩,λc hc=>?_,λc hc=>?_⟩
 ·obtain rfl:=List.eq_of_mem_replicate hc;exact⟨12,by decide+kernel,by decide⟩
 ·obtain rfl:=List.eq_of_mem_replicate hc
  decide
theorem zjz(s m:Nat)(h:s<2 ^ m):∀k,(List.range (m+k)).countP (λi=>s.testBit i)=(List.range m).countP (λi=>s.testBit i)
 |0=>rfl
 |k+1=>by
  rw[show m+(k+1)=m+k+1 by omega,List.range_succ,List.countP_append,zjz s m h k,List.countP_singleton];have:s.testBit (m+k)=false:=Nat.testBit_lt_two_pow (Nat.lt_of_lt_of_le h (Nat.pow_le_pow_right (by decide) (by omega)));simp[this]
theorem zlv{s m:Nat}(h:s<2 ^ m)(hm:m<=16):Du.sm m (λi=>if s.testBit i then(1:Rat)else 0)=(cnt s:Rat):=by
 have e:cnt s=(List.range m).countP (λi=>s.testBit i):=by
  unfold cnt;have:=zjz s m h (16-m)
  rwa [show m+(16-m)=16 by omega]at this
 rw[e];clear e h hm
 induction m with
 |zero=>rfl
 |succ k ih=>
  rw[List.range_succ,List.countP_append,List.countP_singleton]
  show Du.sm k _+_=_
  rw[ih,show((List.countP (λi=>s.testBit i) (List.range k)+(if s.testBit k=true then 1 else 0):Nat):Rat)=((List.countP (λi=>s.testBit i) (List.range k):Nat):Rat)+((if s.testBit k=true then 1 else 0:Nat):Rat)from Rat.natCast_add _ _]
  congr 1
  show(if s.testBit k=true then(1:Rat)else 0)=_
  cases s.testBit k<;>rfl
theorem wt0(q:Nat×Nat)(i:Nat):wt 0 q i=if q.2.testBit i then(1:Rat)else 0:=by
 unfold wt
 cases q.1.testBit i<;>cases q.2.testBit i<;>decide+kernel
theorem zfH{c:Int}{a ld:Rat}(hc:0<c)(h:a<=(c:Rat)*ld):a / (c:Rat)<=ld:=(div_le_iff' (by exact_mod_cast hc)).2 h
theorem Bal.bound{R S:LN}{m M:Nat}{ld:Rat}{P Q:List Rat}(B:Bal (prs R S) 0 (List.replicate m 1) m (prs R S).length M ld P Q)(hm:1<=m/\m<=12)(fS:zfa S m){x0:Nat}{r0:LN}(hS:S=x0 :: r0)(hc:∀x∈S,cnt x0<=cnt x)(hmt:zfD S=true) :
  Rat.divInt 1 (cnt x0:Nat)<=ld/\Rat.divInt (cnt x0:Nat) (m:Nat)<=ld:=by
 have hx0:x0∈S:=by rw[hS];simp
 have hl0:=fS.low x0 hx0;have hm16:m<=16:=by omega
 have hcp:1<=cnt x0:=zgE (fS.s16 (by omega) x0 hx0) (fS.ne x0 hx0);have hmeet:∀s∈S,x0 &&& s≠0:=λs hs e=>by
  unfold zfD at hmt;have h1:=List.all_eq_true.1 hmt x0 hx0;rw[Bool.not_eq_true',List.any_eq_false]at h1;exact h1 s hs (by simpa using e)
 constructor
 ·rw[Rat.divInt_eq_div];refine zfH (by omega) (B.low (s0:=x0) (zlv hl0 hm16) λq hq=>?_);have hq2:=(zbv hq).2;obtain⟨i,hi,hb⟩:=zhH (hmeet q.2 hq2) (Nat.lt_of_le_of_lt Nat.and_le_left hl0);rw[Nat.testBit_and,Bool.and_eq_true]at hb;have hg:∀i,i<m->(0:Rat)<=wt 0 q i*(if x0.testBit i then(1:Rat)else 0):=λi _=>by
   rw[wt0];split<;>split<;>decide+kernel
  refine Rat.le_trans ?_ (zlO hg hi);rw[wt0,hb.1,hb.2];decide+kernel
 ·rw[Rat.divInt_eq_div];have hfull:Du.sm m (λi=>if (2 ^ m-1).testBit i then(1:Rat)else 0)=((m:Int):Rat):=by
   rw[Du.sm_congr m _ (λ_=>(1:Rat)) λi hi=>by rw[Nat.testBit_two_pow_sub_one];simp[hi]];clear hm hm16 B fS hl0
   induction m with
   |zero=>rfl
   |succ k ih=>
    show Du.sm k _+1=_
    rw[ih]
    show((k:Int):Rat)+1=(((k:Int)+1:Int):Rat)
    rw[Rat.intCast_add];rfl
  refine zfH (by omega) (B.low (s0:=2 ^ m-1) hfull λq hq=>?_);have hq2:=(zbv hq).2;rw[Du.sm_congr m _ (λi=>if q.2.testBit i then(1:Rat)else 0) λi hi=>by rw[wt0,Nat.testBit_two_pow_sub_one];simp[hi,Rat.mul_one],zlv (fS.low _ hq2) hm16];have:=zd8 (hc _ hq2);exact this
theorem zfa.bnd{S:LN}{n:Nat}(h:zfa S n)(h1:1<=n)(h12:n<=12):zf7 S (n:Int)=if zfD S=true then 0 else 12:=by
 have hs:setsE [S]=0:=by unfold setsE zcd zcd;simp[h.err h12,h.notE]
 have hu:=h.uni;unfold zf7;rw[if_neg (by rw[hs];simp),if_neg];intro hh;rcases hh with hh|hh|hh
 ·omega
 ·omega
 ·rw[Int.toNat_natCast]at hh;omega
theorem zm5.min{S:LN}(h:zm5 S){x0:Nat}{r0:LN}(hS:S=x0 :: r0):∀x∈S,cnt x0<=cnt x:=by
 intro x hx;rw[hS]at hx;rcases List.mem_cons.1 hx with rfl|hx
 ·exact nl
 ·have hp:=h.pair;rw[hS]at hp;have hb:=(List.pairwise_cons.1 hp).1 x hx;unfold bef at hb;rw[Bool.or_eq_true,Bool.and_eq_true,decide_eq_true_iff,decide_eq_true_iff]at hb;omega
theorem zkb.six{v a b c d e f:Vl}{vs:List Vl}(h:zkb v 6 vs)(h1:v=.agg #[a,b,c,d,e,f]):vs=[a,b,c,d,e,f]:=by
 rcases h.1 with h2|h2
 ·rw[h1]at h2;simp only[Value.agg.injEq]at h2;have:=congrArg Array.toList h2
  simpa using this.symm
 ·have:=h.2;rw[h2]at this;simp at this
theorem zlq{z:Int}{d:Nat}(hd:d≠0)(hdl:d<=100000)(hz:z.natAbs<=100000):Kb 1 (Rat.divInt z (d:Nat)):=by
 have hK:100000<=KK:=by decide
 exact zci (D:=(d:Int)) (N:=100000) (by omega) (by omega) ⟨z,zbp z (by omega),hz⟩ hK
theorem zeS(xN xF:Nat)(lR lW lC:LN)(aR aW aC:OA)(cR cW cC:Nat)(w:Wo)(hxN:xN<256)(hxF:xF<256)(hlR:lR.length<=9223372036854775807)(hlW:lW.length<=9223372036854775807)(hlC:lC.length<=9223372036854775807)(uR:zaR w aR lR)(uW:zaR w aW lW)(uC:ByU w aC lC)(HR:Hid (zaN lR))(HW:Hid (zaN lW))(HC:Hid (∀x∈lC,x<256))(hE:Env w) :
  CP 7 #[.agg #[.int .u8 (xN:Nat),.slice aR lR.length cR,.slice aW lW.length cW,.int .u8 (xF:Nat),.slice aC lC.length cC]] w λe w'=>e=.returned (.bool true)/\BH w w':=by
 have hbw:=Below.refl w.heap.size w;obtain⟨n,hn⟩:∃n,2+xN % 4=n:=⟨_,rfl⟩;have hn5:2<=n/\n<=5:=by omega
 have HM:=hii (λw uR uW uC hE=>zhb xN xF lR lW lC n (hii hn.symm) aR aW aC cR cW cC w hxN hxF hlR hlW hlC uR uW uC HR HW HC hE);have HWk:=hii (zgQ lR lW lC xF (n:=n) ⟨by omega,hn5.2⟩);have HW2:=hii HWk.out.twice;obtain⟨R,hR⟩:∃R,zaZ lR n=R:=⟨_,rfl⟩;obtain⟨S,hS⟩:∃S,wrN R (zaZ lW n)=S:=⟨_,rfl⟩;obtain⟨f,hf⟩:∃f,fN xF=f:=⟨_,rfl⟩;obtain⟨cap,hcap⟩:∃c,zen lC n=c:=⟨_,rfl⟩;rw[hR,hS,hf,hcap]at HM HWk HW2;have HLc:Hid (cap.length=n):=hii HWk.out.lc;obtain⟨nlR,hnlR⟩:∃m,lR.length=m:=⟨_,rfl⟩;obtain⟨nlW,hnlW⟩:∃m,lW.length=m:=⟨_,rfl⟩;obtain⟨nlC,hnlC⟩:∃m,lC.length=m:=⟨_,rfl⟩;rw[hnlR,hnlW,hnlC]at HM|-;clear hn hR hS hf hcap hnlR hnlW hnlC hlR hlW hlC HR HW HC hxN hxF;have HW1:=hii HWk.out.ones;clear HW2;have HSf:=hii HWk.out.fS;go_enter func7,ntmps7;go_upto_region 1 with fail;obtain⟨w1,g1,hw9,hg9,hb,r1⟩:=bxr w [.int .u8 (xN:Nat),.slice aR nlR cR,.slice aW nlW cW,.int .u8 (xF:Nat),.slice aC nlC cC] 25;rw[<-hw9,<-hg9];have Hg1:Hid (w.heap.size<=g1):=hii (by have:=hbw.size;omega);clear hw9 hg9;have uR:=uR.mono hb;have uW:=uW.mono hb;have uC:=uC.mono hb;have hE:=hE.mono hb;have hbw:=bu hbw hb;clear hb;go_wp2_with fail;go_fit (zc3 w1 hE);rintro e w2⟨rfl,hb⟩;have uR:=uR.mono hb;have uW:=uW.mono hb;have uC:=uC.mono hb;have hE:=hE.mono hb;have r1:=r1.below hb;have hbw:=bu hbw hb;clear hb;obtain⟨c0,c1,c2,c3,c4⟩:=r1.n5;go_wp2_with fail;go_fit (HM.out w2 uR uW uC hE);rintro e w3⟨⟨aR1,cR1,aS1,cS1,J1,ao1,n1,Y1,K1,ap1,m1,Z1,aC1,cC1,rfl,hcR1,hcS1,uR1,uS1,hf,hO⟩,hb⟩;have hO:=hO.base hbw.size;have hE:=hE.mono hb;have hbw:=bu hbw hb;clear hb;rw[HLc.out]at hO|-;obtain⟨nR,hnR⟩:∃m,R.length=m:=⟨_,rfl⟩;obtain⟨nS,hnS⟩:∃m,S.length=m:=⟨_,rfl⟩;have HnR:=hii hnR;have HnS:=hii hnS;rw[hnR]at hcR1|-;rw[hnS]at hcS1|-;clear hnR hnS uR uW uC HM;clear c0 c1 c2 c3 c4 r1 hO hf;go_upto_region 4 with fail;obtain⟨w4,g3,hw9,hg9,hb,r3⟩:=bxr w3 [.slice aR1 nR cR1,.slice aS1 nS cS1,.bool J1,.slice ao1 n1 Y1,.bool K1,.slice ap1 m1 Z1,.slice aC1 n cC1] 35;rw[<-hw9,<-hg9];have Hg3:Hid (w.heap.size<=g3):=hii (by have:=hbw.size;omega);clear hw9 hg9;have uR1:=uR1.mono hb;have uS1:=uS1.mono hb;have hE:=hE.mono hb;have hbw:=bu hbw hb;clear hb;have HBn:=hii (HSf.out.bnd (by omega) (by omega));have HBo:=hii (zf4 S (n:Int) aS1 cS1 w4 (by rw[HnS.out];have:=HSf.out.len.2;have:=HnS.out;omega) (by rw[HnS.out];exact hcS1) (by omega) (by omega) uS1 (hii (HSf.out.s16 (by omega))) hE);rw[HnS.out]at HBo;obtain⟨k0,k1,k2,k3,k4,k5,k6⟩:=r3.n7;go_wp2_with fail;(with_reducible refine HBo.out.mono ?_);rintro e w5⟨hBP,hb⟩;have uR1:=uR1.mono hb;have uS1:=uS1.mono hb;have hE:=hE.mono hb;have r3:=r3.below hb;have hbw:=bu hbw hb;clear hb;clear HBo k0 k1 k2 k3 k4 k5 k6;unfold zo6 at hBP;rw[HBn.out]at hBP;obtain⟨mt,hmt⟩:∃b,zfD S=b:=⟨_,rfl⟩;have Hmt:=hii hmt;rw[hmt]at hBP;clear hmt HBn
 cases mt with
 |false=>
  have hBP2:e=.returned (.tuple #[.agg #[bF_,nS_,bF_,nS_],.agg #[bF_,nS_,bF_,nS_],.int .i64 12]):=by
   rcases hBP with⟨-,h⟩|⟨h,-⟩
   ·exact h
   ·exact absurd h (by decide)
  subst hBP2;clear hBP;go_upto_region 6 with fail;obtain⟨wx,hwx,r5,r6,hb⟩:=zaO w5 32 32 [bF_,nS_,bF_,nS_] [bF_,nS_,bF_,nS_];simp only[List.toArray]at hwx;rw[<-hwx];clear hwx;obtain⟨wA,rfl⟩:=exi wx;obtain⟨g6,hgb⟩:∃g,g=w5.heap.size+1:=⟨_,rfl⟩;rw[<-hgb]at r6|-;clear hgb;obtain⟨g5,hga⟩:∃g,g=w5.heap.size:=⟨_,rfl⟩;rw[<-hga]at r5|-;clear hga;have hbw:=bu hbw hb;clear hb;go_wp2;go_ret;exact⟨rfl,hbw⟩
 |true=>
  rcases hBP with⟨h,-⟩|⟨-,J1,ao1,n1,Y1,K1,ap1,m1,Z1,J2,ao2,n2,Y2,K2,ap2,m2,Z2,rfl,hx,hy⟩
  ·exact absurd rfl h
  have hS1:=HSf.out.len.1;obtain⟨x0,r0,hSx⟩:∃x r,S=x :: r:=List.exists_cons_of_length_pos hS1;have Hbd:=hii (λ(ld:Rat) (P Q:List Rat) (B:Bal (prs R S) 0 (List.replicate n 1) n (prs R S).length (szE 96 n) ld P Q)=>B.bound ⟨by omega,by omega⟩ HSf.out hSx (HSf.out.fam.min hSx) Hmt.out);have hc1:1<=cnt x0:=zgE (HSf.out.s16 (by omega) x0 (by rw[hSx];simp)) (HSf.out.ne x0 (by rw[hSx];simp));have hc16:=zdL x0;rw[show S.getD 0 0=x0 by rw[hSx];rfl]at hx hy;clear hSx hS1;have HKx:Hid (Kb 1 (Rat.divInt 1 (cnt x0:Nat))):=hii (zlq (by omega) (by omega) (by decide));have HKy:Hid (Kb 1 (Rat.divInt (cnt x0:Nat) (n:Nat))):=hii (zlq (by omega) (by omega) (by omega));obtain⟨bx,hbx⟩:∃x,Rat.divInt 1 (cnt x0:Nat)=x:=⟨_,rfl⟩;obtain⟨bY,hbY⟩:∃x,Rat.divInt (cnt x0:Nat) (n:Nat)=x:=⟨_,rfl⟩;rw[hbx]at hx Hbd HKx;rw[hbY]at hy Hbd HKy;clear hbx hbY hc1 hc16;go_upto_region 6 with fail;obtain⟨wx,hwx,r5,r6,hb⟩:=zaO w5 32 32 [.bool J1,.slice ao1 n1 Y1,.bool K1,.slice ap1 m1 Z1] [.bool J2,.slice ao2 n2 Y2,.bool K2,.slice ap2 m2 Z2];simp only[List.toArray]at hwx;rw[<-hwx];clear hwx;obtain⟨wA,rfl⟩:=exi wx;obtain⟨g6,hgb⟩:∃g,g=w5.heap.size+1:=⟨_,rfl⟩;rw[<-hgb]at r6|-;clear hgb;obtain⟨g5,hga⟩:∃g,g=w5.heap.size:=⟨_,rfl⟩;rw[<-hga]at r5|-;clear hga;have uR1:=uR1.mono hb;have uS1:=uS1.mono hb;have hx:=hx.mono hb;have hy:=hy.mono hb;have hE:=hE.mono hb;have r3:=r3.below hb;have hbw:=bu hbw hb;clear hb;go_wp2_with fail;go_fit (za0 1 1 wA (by decide) (by decide) (by decide) (by decide) (hii (by decide)) hE);rintro e wB⟨hz,hb⟩;obtain⟨J3,ao3,n3,Y3,K3,ap3,m3,Z3,rfl,hv3⟩:=hz.rat;have hv3:zad wB (qA J3 ao3 n3 Y3 K3 ap3 m3 Z3) 1:=hv3;have uR1:=uR1.mono hb;have uS1:=uS1.mono hb;have hx:=hx.mono hb;have hy:=hy.mono hb;have hE:=hE.mono hb;have r3:=r3.below hb;have r5:=r5.below hb;have r6:=r6.below hb;have hbw:=bu hbw hb;clear hb;clear hz;have hB4:=zaQ.new wB (.bool J3) (.slice ao3 n3 Y3) (.bool K3) (.slice ap3 m3 Z3) 32;have hba:=bA wB (.cells #[.bool J3,.slice ao3 n3 Y3,.bool K3,.slice ap3 m3 Z3] 32);have HRp:=hii (zil n wB.heap.size J3 ao3 n3 Y3 K3 ap3 m3 Z3 _ (by omega) hB4);clear hB4;go_wp2_with fail;(with_reducible refine HRp.out.mono ?_);rintro e wC⟨⟨g8,rfl,hRp⟩,hb⟩;have hb:=bu hba hb;have hv3:=hv3.mono hb;have uO:UQ wC (sD g8 0) ((List.replicate n 1).map some):=by rw[List.map_replicate];exact hRp.all hv3
  have uR1:=uR1.mono hb;have uS1:=uS1.mono hb;have hx:=hx.mono hb;have hy:=hy.mono hb;have hE:=hE.mono hb;have r3:=r3.below hb;have r5:=r5.below hb;have r6:=r6.below hb;have hbw:=bu hbw hb;clear hb;clear HRp hba hRp hv3;have HOp:=hii (λvf w u1 u2 u3 u4 u5=>zeq R S 0 (List.replicate n 1) n HW1 aR1 aS1 (sD g8 0) cR1 cS1 n vf w (by rw[HnR.out];exact hcR1) (by rw[HnS.out];exact hcS1) u1 u2 u3 u4 u5);rw[HnR.out,HnS.out,List.length_replicate]at HOp;obtain⟨wc,rfl⟩:=exi wC;go_upto_region 9 with fail;refine zap (wx:=wc) (λ_=>False) [(λ_ X _=>X 0=pT g3 0),(λ_ X _=>X 1=.slice aR1 nR cR1),(λ_ X _=>X 2=pT g3 1),(λ_ X _=>X 3=.slice aS1 nS cS1),(λG X W=>((FQ 0):(Nat->Prop)->Wo->Vl->Prop) G W (X 4)),(λ_ X _=>X 5=.slice (sD g8 0) n n),(λG X W=>((λ_ W v=>∃J2 ao2 n2 Y2 K2 ap2 m2 Z2 aS nS cS aQ nQ cQ ld Ps Qs,v=.tuple #[.agg #[.bool J2,.slice ao2 n2 Y2,.bool K2,.slice ap2 m2 Z2,.slice aS nS cS,.slice aQ nQ cQ],.int .i64 0]/\zad W (qA J2 ao2 n2 Y2 K2 ap2 m2 Z2) ld/\Bal (prs R S) 0 (List.replicate n 1) n (prs R S).length (szE 96 n) ld Ps Qs):(Nat->Prop)->Wo->Vl->Prop) G W (X 6)),(λG X W=>((λ_ W v=>∃J2 ao2 n2 Y2 K2 ap2 m2 Z2 aS nS cS aQ nQ cQ ld Ps Qs,v=.tuple #[.agg #[.bool J2,.slice ao2 n2 Y2,.bool K2,.slice ap2 m2 Z2,.slice aS nS cS,.slice aQ nQ cQ],.int .i64 0]/\zad W (qA J2 ao2 n2 Y2 K2 ap2 m2 Z2) ld/\Bal (prs R S) 0 (List.replicate n 1) n (prs R S).length (szE 96 n) ld Ps Qs):(Nat->Prop)->Wo->Vl->Prop) G W (X 7)),(λG X W=>((λ_ W v=>∃J2 ao2 n2 Y2 K2 ap2 m2 Z2 aS nS cS aQ nQ cQ ld Ps Qs,v=.agg #[.bool J2,.slice ao2 n2 Y2,.bool K2,.slice ap2 m2 Z2,.slice aS nS cS,.slice aQ nQ cQ]/\zad W (qA J2 ao2 n2 Y2 K2 ap2 m2 Z2) ld/\Bal (prs R S) 0 (List.replicate n 1) n (prs R S).length (szE 96 n) ld Ps Qs):(Nat->Prop)->Wo->Vl->Prop) G W (X 8)),(λ_ X _=>X 9=.int .i64 0),(λ_ _ _=>True),(λ_ _ _=>True),(λ_ X _=>X 12=.int .i64 0)] [some 37,some 38,some 39,some 40,some 41,some 42,some 43,some 36,some 44,some 45,some 9,none,some 10] [none,none,none,none,none,none,none,none,none,none,some ⟨11,8,39,[bF_,nS_,bF_,nS_,nS_,nS_]⟩,none,none] [37,38,39,40,41,42,43,36,44,45,9,10] ⟨(by intro u hu k z e;subst e;simp at hu),trivial⟩ (λb h=>h) br ⟨zab _ _ _,zab _ _ _,zab _ _ _,zab _ _ _,zaY _,zab _ _ _,(zat (F:=λ_ W v=>∃J2 ao2 n2 Y2 K2 ap2 m2 Z2 aS nS cS aQ nQ cQ ld Ps Qs,v=.tuple #[.agg #[.bool J2,.slice ao2 n2 Y2,.bool K2,.slice ap2 m2 Z2,.slice aS nS cS,.slice aQ nQ cQ],.int .i64 0]/\zad W (qA J2 ao2 n2 Y2 K2 ap2 m2 Z2) ld/\Bal (prs R S) 0 (List.replicate n 1) n (prs R S).length (szE 96 n) ld Ps Qs) λG G' W W' v ⟨a,b,c,d,e,f,g,h,i,j,k,l,m,n,o,p,q,h1,h2,h3⟩ hk hn hG=>⟨a,b,c,d,e,f,g,h,i,j,k,l,m,n,o,p,q,h1,h2.kept hk hn,h3⟩),(zat (F:=λ_ W v=>∃J2 ao2 n2 Y2 K2 ap2 m2 Z2 aS nS cS aQ nQ cQ ld Ps Qs,v=.tuple #[.agg #[.bool J2,.slice ao2 n2 Y2,.bool K2,.slice ap2 m2 Z2,.slice aS nS cS,.slice aQ nQ cQ],.int .i64 0]/\zad W (qA J2 ao2 n2 Y2 K2 ap2 m2 Z2) ld/\Bal (prs R S) 0 (List.replicate n 1) n (prs R S).length (szE 96 n) ld Ps Qs) λG G' W W' v ⟨a,b,c,d,e,f,g,h,i,j,k,l,m,n,o,p,q,h1,h2,h3⟩ hk hn hG=>⟨a,b,c,d,e,f,g,h,i,j,k,l,m,n,o,p,q,h1,h2.kept hk hn,h3⟩),(zat (F:=λ_ W v=>∃J2 ao2 n2 Y2 K2 ap2 m2 Z2 aS nS cS aQ nQ cQ ld Ps Qs,v=.agg #[.bool J2,.slice ao2 n2 Y2,.bool K2,.slice ap2 m2 Z2,.slice aS nS cS,.slice aQ nQ cQ]/\zad W (qA J2 ao2 n2 Y2 K2 ap2 m2 Z2) ld/\Bal (prs R S) 0 (List.replicate n 1) n (prs R S).length (szE 96 n) ld Ps Qs) λG G' W W' v ⟨a,b,c,d,e,f,g,h,i,j,k,l,m,n,o,p,q,h1,h2,h3⟩ hk hn hG=>⟨a,b,c,d,e,f,g,h,i,j,k,l,m,n,o,p,q,h1,h2.kept hk hn,h3⟩),zab _ _ _,zan _,zan _,zab _ _ _,trivial⟩ ⟨⟨λ_ _ _=>trivial,λ_ _ _=>trivial⟩,trivial⟩ ⟨?s0,?s1,?s2,?s3,?s4,?s5,?s6,?s7,?s8,?s9,?s10,?s11,?s12,trivial⟩ ⟨?b10,trivial⟩ ?he
  case' s0|s1|s2|s3|s4|s5|s6|s7|s8|s9=>
   rintro-G T W hb hHG hGW hGo hNG hA K hK
  case' s0|s2|s5=>
   simp only[sA]at hK|-
  case' s1=>
   have e0:T 37=_:=hA.1;obtain⟨k0,k1,k2,k3,k4,k5,k6⟩:=(r3.below hb).n7;simp only[sA,e0]at hK|-
  case' s3=>
   have e2:T 39=_:=hA.1;obtain⟨k0,k1,k2,k3,k4,k5,k6⟩:=(r3.below hb).n7;simp only[sA,e2]at hK|-
  case' s9=>
   have r7:((λ_ W v=>∃J2 ao2 n2 Y2 K2 ap2 m2 Z2 aS nS cS aQ nQ cQ ld Ps Qs,v=.tuple #[.agg #[.bool J2,.slice ao2 n2 Y2,.bool K2,.slice ap2 m2 Z2,.slice aS nS cS,.slice aQ nQ cQ],.int .i64 0]/\zad W (qA J2 ao2 n2 Y2 K2 ap2 m2 Z2) ld/\Bal (prs R S) 0 (List.replicate n 1) n (prs R S).length (szE 96 n) ld Ps Qs):(Nat->Prop)->Wo->Vl->Prop) G W (T 36):=hA.1;obtain⟨J9,ao9,n9,Y9,K9,ap9,m9,Z9,aS9,nS9,cS9,aQ9,nQ9,cQ9,ld,Ps,Qs,e7,h9,hBl⟩:=r7;simp only[sA,e7]at hK|-
  case s0|s1|s2|s3|s5|s9=>
   have HK:=hii hK;clear hK hA;refine wO rfl ?_;go_simp;exact HK.out _ _ br λX hX _=>hX
  case s4=>
   simp only[sA]at hK|-;have HK:=hii hK;clear hK hA;refine wO rfl ?_;go_simp;go_fit (za0 0 1 W (by decide) (by decide) (by decide) (by decide) (hii (by decide)) (hE.mono hb));rintro e w1⟨hz,hb1⟩;obtain⟨J7,ao7,n7,Y7,K7,ap7,m7,Z7,rfl,hV7⟩:=hz.rat;have hV7:zad w1 (qA J7 ao7 n7 Y7 K7 ap7 m7 Z7) 0:=hV7
   try dsimp only
   exact HK.out _ _ (hb1) λX hX _=>by
    show((FQ 0):(Nat->Prop)->Wo->Vl->Prop) G _ (X 4)
    rw[hX];exact hV7
  case s6=>
   have e1:T 38=_:=hA.1;have e3:T 40=_:=hA.2.1;have r4:((FQ 0):(Nat->Prop)->Wo->Vl->Prop) G W (T 41):=hA.2.2.1;have e5:T 42=_:=hA.2.2.2.1;have r4:zad W _ 0:=r4;obtain⟨J6,ao6,n6,Y6,K6,ap6,m6,Z6,e4⟩:=r4.parts;rw[e4]at r4;simp only[sA,e1,e3,e5,e4]at hK|-;have HK:=hii hK;clear hK hA;refine wO rfl ?_;go_simp;go_fit (HOp.out _ W (uR1.mono hb) (uS1.mono hb) r4 (uO.mono hb) (hE.mono hb));rintro e w1⟨⟨v9,ld,Ps,Qs,rfl,hBV,hBl⟩,hb1⟩;obtain⟨J9,ao9,n9,Y9,K9,ap9,m9,Z9,aS9,cS9,aQ9,cQ9,rfl,h9,-⟩:=hBV
   try dsimp only
   exact HK.out _ _ (hb1) λX hX _=>by
    show((λ_ W v=>∃J2 ao2 n2 Y2 K2 ap2 m2 Z2 aS nS cS aQ nQ cQ ld Ps Qs,v=.tuple #[.agg #[.bool J2,.slice ao2 n2 Y2,.bool K2,.slice ap2 m2 Z2,.slice aS nS cS,.slice aQ nQ cQ],.int .i64 0]/\zad W (qA J2 ao2 n2 Y2 K2 ap2 m2 Z2) ld/\Bal (prs R S) 0 (List.replicate n 1) n (prs R S).length (szE 96 n) ld Ps Qs):(Nat->Prop)->Wo->Vl->Prop) G _ (X 6)
    rw[hX];exact⟨_,_,_,_,_,_,_,_,_,_,_,_,_,_,_,_,_,rfl,h9,hBl⟩
  case s7=>
   have r6:((λ_ W v=>∃J2 ao2 n2 Y2 K2 ap2 m2 Z2 aS nS cS aQ nQ cQ ld Ps Qs,v=.tuple #[.agg #[.bool J2,.slice ao2 n2 Y2,.bool K2,.slice ap2 m2 Z2,.slice aS nS cS,.slice aQ nQ cQ],.int .i64 0]/\zad W (qA J2 ao2 n2 Y2 K2 ap2 m2 Z2) ld/\Bal (prs R S) 0 (List.replicate n 1) n (prs R S).length (szE 96 n) ld Ps Qs):(Nat->Prop)->Wo->Vl->Prop) G W (T 43):=hA.1;obtain⟨J9,ao9,n9,Y9,K9,ap9,m9,Z9,aS9,nS9,cS9,aQ9,nQ9,cQ9,ld,Ps,Qs,e6,h9,hBl⟩:=r6;simp only[sA,e6]at hK|-;have HK:=hii hK;clear hK hA;refine wO rfl ?_;go_simp;exact HK.out _ _ br λX hX _=>by
    show((λ_ W v=>∃J2 ao2 n2 Y2 K2 ap2 m2 Z2 aS nS cS aQ nQ cQ ld Ps Qs,v=.tuple #[.agg #[.bool J2,.slice ao2 n2 Y2,.bool K2,.slice ap2 m2 Z2,.slice aS nS cS,.slice aQ nQ cQ],.int .i64 0]/\zad W (qA J2 ao2 n2 Y2 K2 ap2 m2 Z2) ld/\Bal (prs R S) 0 (List.replicate n 1) n (prs R S).length (szE 96 n) ld Ps Qs):(Nat->Prop)->Wo->Vl->Prop) G _ (X 7)
    rw[hX];exact⟨_,_,_,_,_,_,_,_,_,_,_,_,_,_,_,_,_,rfl,h9,hBl⟩
  case s8=>
   have r7:((λ_ W v=>∃J2 ao2 n2 Y2 K2 ap2 m2 Z2 aS nS cS aQ nQ cQ ld Ps Qs,v=.tuple #[.agg #[.bool J2,.slice ao2 n2 Y2,.bool K2,.slice ap2 m2 Z2,.slice aS nS cS,.slice aQ nQ cQ],.int .i64 0]/\zad W (qA J2 ao2 n2 Y2 K2 ap2 m2 Z2) ld/\Bal (prs R S) 0 (List.replicate n 1) n (prs R S).length (szE 96 n) ld Ps Qs):(Nat->Prop)->Wo->Vl->Prop) G W (T 36):=hA.1;obtain⟨J9,ao9,n9,Y9,K9,ap9,m9,Z9,aS9,nS9,cS9,aQ9,nQ9,cQ9,ld,Ps,Qs,e7,h9,hBl⟩:=r7;simp only[sA,e7]at hK|-;have HK:=hii hK;clear hK hA;refine wO rfl ?_;go_simp;exact HK.out _ _ br λX hX _=>by
    show((λ_ W v=>∃J2 ao2 n2 Y2 K2 ap2 m2 Z2 aS nS cS aQ nQ cQ ld Ps Qs,v=.agg #[.bool J2,.slice ao2 n2 Y2,.bool K2,.slice ap2 m2 Z2,.slice aS nS cS,.slice aQ nQ cQ]/\zad W (qA J2 ao2 n2 Y2 K2 ap2 m2 Z2) ld/\Bal (prs R S) 0 (List.replicate n 1) n (prs R S).length (szE 96 n) ld Ps Qs):(Nat->Prop)->Wo->Vl->Prop) G _ (X 8)
    rw[hX];exact⟨_,_,_,_,_,_,_,_,_,_,_,_,_,_,_,_,_,rfl,h9,hBl⟩
  case s10=>exact λh=>absurd h (by decide)
  case s11=>exact λh=>absurd h (by decide)
  case s12=>
   rintro-G T W hb hHG hGW hGo hNG hA K hK;simp only[sA,f0 T 45 hA]at hK|-;have HK:=hii hK;clear hK hA;refine wO rfl ?_;go_simp;exact HK.out _ _ br λX hX _=>hX
  case b10=>
   refine⟨?_,?_⟩
   ·rintro o ho T W K hK;obtain rfl:=Option.some.inj ho;simp only[sA]at hK|-;have HK:=hii hK;clear hK ho;refine wO rfl ?_;go_simp;exact HK.out
   ·rintro o ho G T W nb hA hp hrow K hK;obtain rfl:=Option.some.inj ho;have ep:T 9=.pointer (sD nb 0):=hp;have r8:((λ_ W v=>∃J2 ao2 n2 Y2 K2 ap2 m2 Z2 aS nS cS aQ nQ cQ ld Ps Qs,v=.agg #[.bool J2,.slice ao2 n2 Y2,.bool K2,.slice ap2 m2 Z2,.slice aS nS cS,.slice aQ nQ cQ]/\zad W (qA J2 ao2 n2 Y2 K2 ap2 m2 Z2) ld/\Bal (prs R S) 0 (List.replicate n 1) n (prs R S).length (szE 96 n) ld Ps Qs):(Nat->Prop)->Wo->Vl->Prop) G W (T 44):=hA.2.1;obtain⟨J9,ao9,n9,Y9,K9,ap9,m9,Z9,aS9,nS9,cS9,aQ9,nQ9,cQ9,ld,Ps,Qs,e8,-⟩:=r8;have hK:=hK [.bool J9,.slice ao9 n9 Y9,.bool K9,.slice ap9 m9 Z9,.slice aS9 nS9 cS9,.slice aQ9 nQ9 cQ9] (.inl e8) rfl (by intro u hu k z e;subst e;simp at hu);simp only[sA,ep,e8]at hK|-;have HK:=hii hK;clear hK hA ho;have q0:=hrow.cell (k:=0) (by simp);have f0:=hrow.free 0;have q1:=hrow.cell (k:=1) (by simp);have f1:=hrow.free 1;have q2:=hrow.cell (k:=2) (by simp);have f2:=hrow.free 2;have q3:=hrow.cell (k:=3) (by simp);have f3:=hrow.free 3;have q4:=hrow.cell (k:=4) (by simp);have f4:=hrow.free 4;have q5:=hrow.cell (k:=5) (by simp);have f5:=hrow.free 5;simp only[List.getElem_cons_zero,List.getElem_cons_succ]at q0 q1 q2 q3 q4 q5;refine wO rfl ?_;go_simp;exact HK.out
  case he=>
   rintro GG N T W hb hHG hGW hGo hbox hNG hne hA;have f8:((λ_ W v=>∃J2 ao2 n2 Y2 K2 ap2 m2 Z2 aS nS cS aQ nQ cQ ld Ps Qs,v=.agg #[.bool J2,.slice ao2 n2 Y2,.bool K2,.slice ap2 m2 Z2,.slice aS nS cS,.slice aQ nQ cQ]/\zad W (qA J2 ao2 n2 Y2 K2 ap2 m2 Z2) ld/\Bal (prs R S) 0 (List.replicate n 1) n (prs R S).length (szE 96 n) ld Ps Qs):(Nat->Prop)->Wo->Vl->Prop) GG W (T 44):=hA.at 8 (by decide);have f12:T 10=.int .i64 0:=hA.at 12 (by decide);obtain⟨ep,_,hge,vs,hsto,hrow⟩:=hbox 10 _ rfl;have ep:T 9=.pointer (some ⟨N 10,0,none⟩):=ep;obtain⟨J9,ao9,n9,Y9,K9,ap9,m9,Z9,aS9,nS9,cS9,aQ9,nQ9,cQ9,ld,Ps,Qs,e8,h9,hBl⟩:=f8;obtain rfl:=hsto.six e8;simp only[sA,ep,f12];obtain⟨g9,hg⟩:∃g,g=N 10:=⟨_,rfl⟩;rw[<-hg]at hrow hge|-;have hx:=hx.mono hb;have hy:=hy.mono hb;have hE:=hE.mono hb;have r5:=r5.below hb;have r6:=r6.below hb;have hbw:=bu hbw hb;clear hb;clear hA hbox hNG hne hHG hGW hGo ep hsto hge hg e8 f12 HOp uO uR1 uS1 r3;obtain⟨wd,rfl⟩:=exi W;have r9:Row wd g9 39 [.bool J9,.slice ao9 n9 Y9,.bool K9,.slice ap9 m9 Z9,.slice aS9 nS9 cS9,.slice aQ9 nQ9 cQ9]:=hrow;clear hrow;have HBd2:=hii (Hbd.out ld Ps Qs hBl);have HKl:Hid (Kb 1 ld):=hii (by
    obtain⟨z,hz,hzM,hw,-,-⟩:=hBl.den;exact(HW1.out.dn hz hzM).kb hw)
   clear hBl Hbd;have h1:=zc2 HBd2.out.1;have h2:=zc2 HBd2.out.2;obtain⟨z1,hz1⟩:∃z,Rq.cmpQ ld bx=z:=⟨_,rfl⟩;obtain⟨z2,hz2⟩:∃z,Rq.cmpQ ld bY=z:=⟨_,rfl⟩;have HC1:=hii (zhc _ _ ld bx wd h9 hx (hii (HKl.out.crS HKx.out (by decide))) hE);rw[hz1]at h1 HC1;have HC2:=hii (λw (a:zad w (qA J9 ao9 n9 Y9 K9 ap9 m9 Z9) ld) (b:zad w (qA J2 ao2 n2 Y2 K2 ap2 m2 Z2) bY) c=>zhc _ _ ld bY w a b (hii (HKl.out.crS HKy.out (by decide))) c);rw[hz2]at h2 HC2;clear hz1 hz2;obtain⟨y0,y1,y2,y3,y4,y5⟩:=r9.n6;obtain⟨k0,k1,k2,k3⟩:=r5.n4;go_wp2_with fail;(with_reducible refine HC1.out.mono ?_);rintro e we⟨rfl,hb⟩;have h9:=h9.mono hb;have hy:=hy.mono hb;have hE:=hE.mono hb;have r9:=r9.below hb;have r6:=r6.below hb;have hbw:=bu hbw hb;clear hb;clear HC1 y0 y1 y2 y3 y4 y5 k0 k1 k2 k3;obtain⟨y0,y1,y2,y3,y4,y5⟩:=r9.n6;obtain⟨k0,k1,k2,k3⟩:=r6.n4;have HC3:=hii (HC2.out we h9 hy hE);go_wp2_with fail;(with_reducible refine HC3.out.mono ?_);rintro e wf⟨rfl,hb⟩;have hbw:=bu hbw hb;clear hb HC2 HC3 y0 y1 y2 y3 y4 y5 k0 k1 k2 k3;go_wp2;go_ret;exact⟨rfl,hbw⟩
end Go.Proofs.YtfgffkmddanjjaaGreatDoor
