import Derived.Test.YtfgffkmddanjjaaGreatDoorI1
import Derived.Lib.ItoaNum
import Derived.Test.YtfgffkmddanjjaaGreatDoorShelf
import Derived.WalkSmall
import Derived.Lib.AppendIntMem
import Derived.Deep.RegionHeld3
import Derived.Deep.RegionHeldLaw
set_option linter.unusedVariables false
set_option linter.unusedSimpArgs false
set_option maxRecDepth 100000
set_option maxHeartbeats 25600000
namespace Bi
open Go.Lib (nDigits decDigits)
def Big:Nat:=10 ^ 150*10 ^ 150
theorem big_lt_limbs:Big<=1000000000 ^ 34:=by
 unfold Big;decide+kernel
theorem nd_le{n k:Nat}(hn:n≠0):nDigits n<=k↔n<10 ^ k:=by
 have h1:=Go.Lib.lt_pow_nDigits n;have h0:=Go.Lib.nDigits_pos n
 constructor
 ·intro h;exact Nat.lt_of_lt_of_le h1 (Nat.pow_le_pow_right dM h)
 ·intro h
  apply Nat.le_of_not_lt
  intro hk;have h2:10 ^ (nDigits n-1)<=n:=by
   clear h h1 h0 hk
   induction n using Nat.strongRecOn with
   |_ n ih=>
    by_cases h:n<10
    ·rw[Go.Lib.nDigits_small h];simp;omega
    ·rw[Go.Lib.nDigits_big h];have:=ih (n / 10) oM oM;have hp:=Go.Lib.nDigits_pos (n / 10);obtain⟨j,hj⟩:∃j,nDigits (n / 10)=j+1:=⟨nDigits (n / 10)-1,oM⟩;rw[hj]at this|-;simp only[Nat.add_sub_cancel]at this|-;rw[Nat.pow_succ];omega
  have h3:10 ^ k<=10 ^ (nDigits n-1):=Nat.pow_le_pow_right dM oM;omega
theorem zpu(m:Nat):(1000000000:Nat) ^ m=10 ^ (9*m):=by
 rw[show(1000000000:Nat)=10 ^ 9 from rfl,<-Nat.pow_mul]
theorem zld{l:LN}{x:Nat}(ho:Ok l)(hx:x≠0):nDigits (val (l++[x]))=9*l.length+nDigits x:=by
 have h1:1<=nDigits x:=Go.Lib.nDigits_pos x;have h2:=Go.Lib.lt_pow_nDigits x;have h3:10 ^ (nDigits x-1)<=x:=by
  apply Nat.le_of_not_lt
  intro h;have:=(nd_le hx).2 h;omega
 rw[val_snoc,zpu];have hv:=val_lt ho;rw[zpu]at hv;obtain⟨j,hj⟩:∃j,nDigits x=j+1:=⟨nDigits x-1,oM⟩;rw[hj]at h2 h3|-;simp only[Nat.add_sub_cancel]at h3;rw[show 9*l.length+(j+1)=(9*l.length+j)+1 by omega]
 apply Go.Lib.nDigits_unique
 ·rw[Nat.pow_add];have:=Nat.mul_le_mul_left (10 ^ (9*l.length)) h3;omega
 ·rw[Nat.add_assoc,Nat.pow_add];have:10 ^ (9*l.length)*(x+1)<=10 ^ (9*l.length)*10 ^ (j+1):=Nat.mul_le_mul_left _ h2;rw[Nat.mul_add,Nat.mul_one]at this;omega
def dlen(n:Nat):Nat:=if n=0 then 0 else nDigits n
theorem dlen_le{n:Nat}:dlen n<=300↔n<Big:=by
 unfold dlen
 by_cases h:n=0
 ·subst h;simp[Big]
 ·rw[if_neg h];have key:∀a b:Nat,nDigits n<=a+b↔n<10 ^ a*10 ^ b:=by intro a b;rw[nd_le h,Nat.pow_add]
  exact key 150 150
theorem dlen_limbs{n:Nat}{l:LN}{x:Nat}(h:l++[x]=limbs n):dlen n=9*l.length+nDigits x/\x≠0/\x<1000000000:=by
 have hn:n≠0:=by rintro rfl;rw[limbs_zero]at h;simp at h
 have ho:Ok (l++[x]):=by rw[h];exact limbs_ok n
 have hc:Canon (l++[x]):=by rw[h];exact limbs_canon n
 have hx:x≠0:=by have:=hc sM;simpa using this
 refine⟨?_,hx,ho x sM⟩;unfold dlen;rw[if_neg hn,<-zld ho.left hx,h,val_limbs]
theorem nd_small{x:Nat}(h:x<1000000000):nDigits x<=9:=by
 by_cases h0:x=0
 ·subst h0;rw[Go.Lib.nDigits_small dM];decide
 ·rw[nd_le h0];exact h
theorem dlen_step{y:Nat}(h:0<y):dlen y=dlen (y / 10)+1:=by
 unfold dlen;rw[if_neg oM]
 by_cases h2:y<10
 ·rw[Go.Lib.nDigits_small h2,if_pos oM]
 ·rw[Go.Lib.nDigits_big h2,if_neg oM]
/-! ### division -/
theorem short_step{u q:LN}{i v rest x:Nat}(_hv:0<v)(hi:i<u.length)(hql:q.length=u.length)(hx:u.getD i 0=x)(hinv:val (q.drop (i+1))*v+rest=val (u.drop (i+1))) :
  val ((q.set i ((rest*1000000000+x) / v)).drop i)*v+(rest*1000000000+x) % v=val (u.drop i):=by
 have h1:(q.set i ((rest*1000000000+x) / v)).drop i=((rest*1000000000+x) / v) :: q.drop (i+1):=by
  rw[List.drop_eq_getElem_cons (by simp;omega)];simp only[List.getElem_set_self,List.cons.injEq,true_and]
  apply List.ext_getElem?
  intro j;rw[List.getElem?_drop,List.getElem?_drop,List.getElem?_set_ne oM]
 have h2:u.drop i=x :: u.drop (i+1):=by
  rw[List.drop_eq_getElem_cons hi];rw[List.getD_eq_getElem?_getD,gE hi]at hx;simp only[Option.getD_some]at hx;rw[hx]
 rw[h1,h2];simp only[val];rw[<-hinv,Nat.add_mul];have h3:=Nat.div_add_mod (rest*1000000000+x) v;have h4:(rest*1000000000+x) / v*v=v*((rest*1000000000+x) / v):=Nat.mul_comm _ _;have h5:1000000000*val (q.drop (i+1))*v=1000000000*(val (q.drop (i+1))*v):=Nat.mul_assoc _ _ _;rw[h4,h5];omega
theorem short_digit{rest v x:Nat}(hr:rest<v)(hv:v<1000000000)(hx:x<1000000000):(rest*1000000000+x) / v<1000000000:=by
 rw[Nat.div_lt_iff_lt_mul oM];have:(rest+1)*1000000000<=v*1000000000:=Nat.mul_le_mul_right _ hr;rw[Nat.mul_comm 1000000000 v];omega
theorem short_end{n v q r:Nat}(hr:r<v)(h:q*v+r=n):q=n / v/\r=n % v:=by
 have hv:0<v:=oM;subst h
 constructor
 ·rw[Nat.add_comm,Nat.add_mul_div_right _ _ hv,Nat.div_eq_of_lt hr];omega
 ·rw[Nat.add_comm,Nat.add_mul_mod_self_right,Nat.mod_eq_of_lt hr]
theorem scaled_step{o u:LN}{k c d s:Nat}(hk:k<o.length)(hs:s=c+u.getD k 0*d)(hinv:val (o.take k)+1000000000 ^ k*c=val (u.take k)*d) :
  val ((o.set k (s % 1000000000)).take (k+1))+1000000000 ^ (k+1)*(s / 1000000000)=val (u.take (k+1))*d:=by
 have h1:(o.set k (s % 1000000000)).take (k+1)=o.take k++[s % 1000000000]:=by
  rw[List.take_succ_eq_append_getElem (by simpa using hk)];simp only[List.getElem_set_self]
  congr 1
  apply List.ext_getElem?
  intro j
  by_cases hj:j<k
  ·rw[List.getElem?_take_of_lt hj,List.getElem?_take_of_lt hj,List.getElem?_set_ne oM]
  ·rw[List.getElem?_eq_none (by simp;omega),List.getElem?_eq_none (by simp;omega)]
 rw[h1,val_snoc,zak,Nat.pow_succ,Nat.add_mul,List.length_take,Nat.min_eq_left (Nat.le_of_lt hk)];have h2:1000000000 ^ k*s=1000000000 ^ k*(s % 1000000000)+1000000000 ^ k*1000000000*(s / 1000000000):=by
  rw[Nat.mul_assoc,<-Nat.mul_add,Nat.mod_add_div]
 have h3:1000000000 ^ k*s=1000000000 ^ k*c+1000000000 ^ k*u.getD k 0*d:=by rw[hs,Nat.mul_add,Nat.mul_assoc]
 omega
end Bi
namespace Go.Proofs.YtfgffkmddanjjaaGreatDoor
open _root_.Go.Proofs.Tryz
open Go.RowKit
variable {p:Addr} {k:Int} {l:LN} {d g:Nat} {ao:OA} {v:Vl} {a w':Wo}
structure Env(w:Wo):Prop where
 tab : Lib.TabIs Tryz.prog w "internal/strconv.uint64pow10" .u64 Lib.pow10Tab
theorem zkM{w:Wo}(hb:BH w w'){n:String}{cs:Array Vl}(h:w.var? Tryz.prog n=some cs):w'.var? Tryz.prog n=some cs:=by
 unfold World.var? at h
 cases hg:Tryz.prog.globalNamed n with
 |none=>simp[hg]at h
 |some g=>
  have hlt:g<w.heap.size:=by
   simp only[hg,Option.bind_some]at h
   by_cases hb:g<w.heap.size
   ·exact hb
   ·rw[Array.getElem?_eq_none oM]at h;simp at h
  exact var?_below hb hg hlt (by unfold World.var?;exact h)
theorem Env.mono{w:Wo}(h:Env w)(hb:BH w w'):Env w':=⟨zkM hb h.tab⟩
theorem zhP(n:Int)(h0:-9223372036854775808<=n)(h1:n<=9223372036854775807)(w:Wo)(hE:Env w) :
  CP 180 #[.int .i64 n] w λe w'=>e=.returned (.string ⟨(Lib.itoa n).toArray⟩)/\BH w w' :=
 (Tryz.strconv_Itoa n h0 h1 w hE.tab).mono λe w' ⟨h,k,os,h2⟩=>⟨h,by rw[h2];exact Lib.below_grow _ _ nl _ _⟩
theorem zlh(x:Nat):(Lib.itoa (x:Int)).length=Lib.nDigits x:=by
 unfold Lib.itoa;rw[if_neg oM,Int.toNat_natCast,Lib.decDigits_length]
theorem zeG(n:Nat)(l:LN)(HL:Hid (l=Bi.limbs n))(ao:OA)(cap:Nat)(w:Wo)(hm:l.length<=1000000000000)(hU:U w ao l)(hE:Env w) :
  CP 160 #[.slice ao l.length cap] w λe w'=>(∃d:Nat,Hid (d=Bi.dlen n)/\d<=10000000000000/\e=.returned (.int .i64 d))/\BH w w':=by
 obtain rfl|⟨r,x,rfl⟩:l=[]\/∃r x,l=r++[x]:=by
  rcases List.eq_nil_or_concat l with h|⟨r,x,h⟩
  ·exact .inl h
  ·exact .inr ⟨r,x,by rw[h,List.concat_eq_append]⟩
 ·have h0:Hid (Bi.dlen n=0):=hii (by rw[Bi.limbs_eq_nil.1 HL.o.symm];rfl);clear hU;go_enter func160,ntmps160;go_wp2;go_ret;exact⟨⟨0,hii h0.o.symm,oM,rfl⟩,br⟩
 ·obtain⟨h1,h2,h3⟩:=Bi.dlen_limbs HL.o;have H1:=hii h1;clear h1;obtain⟨b,off,rfl,hc⟩:=hU.at' (k:=r.length) (x:=x) sM;clear hU;have hl:(r++[x]).length=r.length+1:=sM;rw[hl]at hm|-;clear hl;go_enter func160,ntmps160;go_wp2_with fail;refine(zhP (x:Int) oM oM _ hE).mono ?_;rintro e w1⟨rfl,hb1⟩;have hl9:=Bi.nd_small h3;have hli:=zlh x;generalize hL:Lib.itoa (x:Int)=L at hli|-;clear hL;have HLI:=hii hli;have hll:L.length<=9:=oM
  clear hli hl9;go_wp2;go_ret;refine⟨⟨9*r.length+L.length,hii ?_,oM,?_⟩,hb1⟩
  ·rw[H1.o,HLI.o]
  ·exact zaG oM
theorem zdM(n:Nat)(l:LN)(HL:Hid (l=Bi.limbs n))(ao:OA)(cap:Nat)(w:Wo)(hm:l.length<=1000000000000)(hU:U w ao l) :
  CP 128 #[.slice ao l.length cap] w λe w'=>(∃d:Nat,Hid (d=Bi.dlen n)/\d<=10000000000000/\e=.returned (.int .i64 d))/\w=w':=by
 obtain rfl|⟨r,x,rfl⟩:l=[]\/∃r x,l=r++[x]:=by
  rcases List.eq_nil_or_concat l with h|⟨r,x,h⟩
  ·exact .inl h
  ·exact .inr ⟨r,x,by rw[h,List.concat_eq_append]⟩
 ·have h0:Hid (Bi.dlen n=0):=hii (by rw[Bi.limbs_eq_nil.1 HL.o.symm];rfl);clear hU;go_enter func128,ntmps128;go_wp2;go_ret;exact⟨⟨0,hii h0.o.symm,oM,rfl⟩,rfl⟩
 ·obtain⟨h1,h2,h3⟩:=Bi.dlen_limbs HL.o;have H1:=hii h1;clear h1;have h4:=Bi.nd_small h3;have H4:Hid (Bi.dlen x<=9/\Bi.dlen x=Lib.nDigits x):=hii (by unfold Bi.dlen;rw[if_neg h2];exact⟨h4,rfl⟩);clear h4 h2;obtain⟨b,off,rfl,hc⟩:=hU.at' (k:=r.length) (x:=x) sM;clear hU;have hl:(r++[x]).length=r.length+1:=sM;rw[hl]at hm|-;clear hl;go_enter func128,ntmps128;go_wp2;go_loop [3,4] (λs3 s4=>∃y d:Nat,s4=.int .u32 y/\s3=.int .i64 ((9*r.length+d:Nat):Int)/\y<1000000000/\d<=9/\Hid (d+Bi.dlen y=Bi.dlen x)) (λ_ s4=>(intOf s4).toNat)
  case atStart=>exact⟨x,0,rfl,gM,h3,oM,hii sM⟩
  case round=>
   obtain⟨y,d,rfl,rfl,hy,hd,HI⟩:=hrel;clear hc
   by_cases hy0:(0:Int)<(y:Int)
   ·have h5:=Bi.dlen_step (y:=y) oM;have h6:=HI.o;have h7:=H4.o.1;have hd2:d+1<=9:=oM;have HI2:Hid (d+1+Bi.dlen (y / 10)=Bi.dlen x):=hii oM;clear h5 h6 h7;go_wp2;go_round
    case rel=>exact⟨y / 10,d+1,gM,gM,oM,hd2,HI2⟩
    case measure=>exact mM
   ·obtain rfl:y=0:=oM;go_wp2;go_ret;refine⟨⟨9*r.length+d,hii ?_,oM,rfl⟩,rfl⟩;have h6:=HI.o;have h7:=H4.o.2;rw[H1.o,<-h7,<-h6]
    rfl
def zai(w:Wo)(v:Vl)(z:Int):Prop :=
 ∃(neg:Bool)(ao:OA)(L:LN)(cap:Nat),v=.agg #[.bool neg,.slice ao L.length cap]/\Hid (neg=decide (z<0))/\Hid (L=Bi.limbs z.natAbs)/\Hid (z.natAbs<Bi.Big) /\
  L.length<=cap/\L.length<=34/\U w ao L
theorem zai.mono{w:Wo}{z:Int}(h:zai w v z)(hb:BH w w'):zai w' v z:=by
 obtain⟨neg,ao,L,cap,e,h1,h2,h3,h4,h5,h6⟩:=h;exact⟨neg,ao,L,cap,e,h1,h2,h3,h4,h5,h6.mono hb⟩
def sgn(neg:Bool)(n:Nat):Int:=if neg then -(n:Int)else n
theorem zar(neg:Bool)(n:Nat):(sgn neg n).natAbs=n:=by
 unfold sgn;split<;>omega
def zkx(w':Wo)(z:Int)(v:Vl)(k:Int):Prop :=
 (z.natAbs<Bi.Big/\k=0/\zai w' v z)\/(¬z.natAbs<Bi.Big/\k=3/\v=.agg #[bF_,nS_])
def zfs(w':Wo)(z:Int)(e:Ending):Prop :=
 ∃(neg:Bool)(ao:OA)(n cap:Nat)(k:Int),e=.returned (.tuple #[.agg #[.bool neg,.slice ao n cap],.int .i64 k])/\Hid (zkx w' z (.agg #[.bool neg,.slice ao n cap]) k)
theorem zkx.mono{w:Wo}{z:Int}(h:zkx w z v k)(hb:BH w w'):zkx w' z v k :=
 h.imp (λ⟨a,b,c⟩=>⟨a,b,c.mono hb⟩) id
theorem zai.zero(w:Wo):zai w (.agg #[bF_,nS_]) 0 :=
 ⟨false,none,[],0,rfl,hii rfl,hii rfl,hii (by unfold Bi.Big;decide),nl,sM,U.nil _ _⟩
theorem zax{n:Nat}(h:n<Bi.Big):(Bi.limbs n).length<=34:=Bi.limbs_length_le (Nat.lt_of_lt_of_le h Bi.big_lt_limbs)
theorem za9(neg:Bool)(l:LN)(ao:OA)(cap:Nat)(w:Wo)(hm:l.length<=1000000000)(hcap:l.length<=cap)(hU:U w ao l)(ho:Hid (Bi.Ok l))(hE:Env w) :
  CP 136 #[.bool neg,.slice ao l.length cap] w λe w'=>zfs w' (sgn neg (Bi.val l)) e/\BH w w':=by
 go_enter func136,ntmps136;go_wp2_with fail;refine(zbR l ao cap _ oM hcap (hU.mono (br.alloc nl _))).mono ?_;rintro e w1⟨L,hL,hLl,rfl,hUL,rfl⟩;have HL:Hid (L=Bi.limbs (Bi.val l)):=hii (by rw[hL,Bi.trim_eq_limbs ho.o]);have hUw:Hid (U w ao L):=hii (by obtain⟨k,hk⟩:=Bi.trim_prefix l;rw[hL,hk];exact hU.take k);clear hL;go_wp2_with fail;refine(zeG _ L HL ao cap _ oM hUL (hE.mono (br.alloc nl _))).mono ?_;rintro e w2⟨⟨d,HD,hd,rfl⟩,hb2⟩;obtain⟨c0,c1,f0,f1,hsz,hbl⟩:=zpy hb2;have hU2:=hUL.mono hb2;clear hUL hU hb2 hE
 by_cases hd3:(300:Int)<(d:Int)
 ·have hbig:¬Bi.val l<Bi.Big:=by rw[<-Bi.dlen_le,<-HD.o];omega
  have HB:=hii hbig;clear hbig;go_wp2;refine bodyPost_ret (v:=.tuple #[.agg #[bF_,nS_],.int .i64 3]) (by simp[results,Tryz.results136,go_sem,c0,c1]) rfl ⟨⟨false,none,0,0,3,rfl,hii (.inr ⟨by rw[zar];exact HB.o,rfl,rfl⟩)⟩,?_⟩;exact dX
 ·have hbig:Bi.val l<Bi.Big:=by rw[<-Bi.dlen_le,<-HD.o];omega
  have HB:=hii hbig;have h34:L.length<=34:=by rw[HL.o];exact zax hbig
  clear hbig
  by_cases hL0:L=[]
  ·subst hL0;have hv0:Bi.val l=0:=Bi.limbs_eq_nil.1 HL.o.symm;have hz:=hii hv0;clear hv0 hcap hU2 hLl;go_wp2;refine bodyPost_ret (v:=.tuple #[.agg #[bF_,nS_],.int .i64 0]) (by simp[results,Tryz.results136,go_sem,c0,c1]) rfl ⟨⟨false,none,0,0,0,rfl,hii (.inl ⟨by rw[zar];exact HB.o,rfl,?_⟩)⟩,?_⟩
   ·rw[hz.o,show sgn neg 0=0 by unfold sgn;split<;>rfl];exact zai.zero _
   ·exact dX
  ·have hL1:0<L.length:=List.length_pos_iff.2 hL0;have hv0:Bi.val l≠0:=λh=>hL0 (by rw[HL.o,h];rfl)
   have hz:=hii hv0;have hLz:((L.length:Int)==0)=false:=by rw[beq_eq_false_iff_ne];omega
   clear hv0;go_wp2;refine bodyPost_ret (v:=.tuple #[.agg #[.bool neg,.slice ao L.length cap],.int .i64 0]) (by simp[results,Tryz.results136,go_sem,c0,c1]) rfl ⟨⟨neg,ao,L.length,cap,0,rfl,hii (.inl ⟨by rw[zar];exact HB.o,rfl,?_⟩)⟩,?_⟩
   ·refine⟨neg,ao,L,cap,rfl,hii ?_,hii ?_,hii ?_,oM,h34,?_⟩
    ·have:=hz.o;unfold sgn
     cases neg
     ·simp
     ·simp;omega
    ·rw[zar];exact HL.o
    ·rw[zar];exact HB.o
    ·exact hUw.o.mono ((hbl.setCell nl _).setCell nl _)
   ·exact dX
theorem hup{w:Wo}{z:Int}(h:Hid (zai w v z))(hb:BH w w'):Hid (zai w' v z):=hii (h.o.mono hb)
abbrev vf(x:Vl):FW:=λ_ v=>v=x
theorem za8.lit0(w:Wo)(B:Nat)(hB:B<=w.heap.size):za8 (w.alloc (.cells #[] 128)) B (.slice (some ⟨w.heap.size,0,none⟩) 0 0) [] :=
 World.ownsRow_lit (base:=B) (e:=128) (size:=1) w #[] 0 hB (by simp[maxLen]) sM
theorem U.setCell{w:Wo}(hU:U w ao l)(hne:∀b off,ao=sD b off->b≠p.block):U (w.setCell p v) ao l:=by
 intro i h;obtain⟨b,off,e,hc⟩:=hU i h;refine⟨b,off,e,?_⟩;rw[World.cell?_of_block (w:=w) (w':=w.setCell p v) (Below.heap_setCell w p v b (hne b off e))];exact hc
theorem za8.above{w:Wo}{B n cap:Nat}(h:za8 w B (.slice ao n cap) l):∀b off,ao=sD b off->B<=b:=by
 rintro b off rfl;exact(World.ownsRow.lt h b rfl).1
theorem zbe(neg:Bool)(l:LN)(ao:OA)(cap:Nat)(w:Wo)(hm:l.length<=1000000000)(hU:U w ao l)(ho:Hid (Bi.Ok l)) :
  CP 80 #[.bool neg,.slice ao l.length cap] w λe w'=>zfs w' (sgn neg (Bi.val l)) e/\BH w w':=by
 go_enter func80,ntmps80;have hU1:∀o1 o2,U ((w.alloc o1).alloc o2) ao l:=λo1 o2=>hU.mono ((br.alloc nl _).alloc sM _)
 have hown:za8 ((w.alloc (.cells #[bF_,nS_] 30)).alloc (.cells #[] 128)) (w.heap.size+1) (.slice (some ⟨w.heap.size+1,0,none⟩) 0 0) []:=by
  have:=za8.lit0 (w.alloc (.cells #[bF_,nS_] 30)) (w.heap.size+1) sM
  simpa using this
 go_wp2_with (at_builtin;(refine zcH _ rfl _ _ rfl (w.alloc (.cells #[bF_,nS_] 30)) (w.heap.size+1) _ [] rfl hown sM (br.alloc sM _) ao cap l rfl (hU1 _ _) (by simp;omega) ?_;intro v' w1 hown1 hb1));have hb1':Below (w.alloc (.cells #[bF_,nS_] 30)).heap.size (w.alloc (.cells #[bF_,nS_] 30)) w1:=by simpa using hb1
 obtain⟨c0,c1,f0,f1,hsz,hbl⟩:=zpy hb1';obtain⟨ao1,cap1,rfl,hcap1,hU1'⟩:=hown1.read;have hab:=hown1.above;simp only[List.nil_append]at hcap1 hU1'|-;clear hown1 hb1 hb1' hown hU1;refine(zbI l ao1 cap1 _ oM hcap1 hU1').mono ?_;rintro e w2⟨L,hL,hLl,rfl,hUL,rfl⟩;have HL:Hid (L=Bi.limbs (Bi.val l)):=hii (by rw[hL,Bi.trim_eq_limbs ho.o]);clear hL hU1';go_wp2_with fail;refine(zdM _ L HL ao1 cap1 _ oM hUL).mono ?_;rintro e w2⟨⟨d,HD,hd,rfl⟩,rfl⟩;clear hU;have hUf:∀x y,U ((w1.setCell ⟨w.heap.size,0,none⟩ x).setCell ⟨w.heap.size,1,none⟩ y) ao1 L:=λx y=>
  (hUL.setCell (λb off e=>by have:=hab b off e;simp only;omega)).setCell (λb off e=>by have:=hab b off e;simp only;omega)
 have HUf:=hii hUf;clear hUf hUL hab
 by_cases hd3:(300:Int)<(d:Int)
 ·have hbig:¬Bi.val l<Bi.Big:=by rw[<-Bi.dlen_le,<-HD.o];omega
  have HB:=hii hbig;clear hbig;go_wp2;refine bodyPost_ret (v:=.tuple #[.agg #[bF_,nS_],.int .i64 3]) (by simp[results,Tryz.results80,go_sem,c0,c1]) rfl ⟨⟨false,none,0,0,3,rfl,hii (.inr ⟨by rw[zar];exact HB.o,rfl,rfl⟩)⟩,?_⟩;exact dX
 ·have hbig:Bi.val l<Bi.Big:=by rw[<-Bi.dlen_le,<-HD.o];omega
  have HB:=hii hbig;have h34:L.length<=34:=by rw[HL.o];exact zax hbig
  clear hbig
  by_cases hL0:L=[]
  ·subst hL0;have hv0:Bi.val l=0:=Bi.limbs_eq_nil.1 HL.o.symm;have hz:=hii hv0;clear hv0 hcap1 hLl;go_wp2;refine bodyPost_ret (v:=.tuple #[.agg #[bF_,nS_],.int .i64 0]) (by simp[results,Tryz.results80,go_sem,c0,c1]) rfl ⟨⟨false,none,0,0,0,rfl,hii (.inl ⟨by rw[zar];exact HB.o,rfl,?_⟩)⟩,?_⟩
   ·rw[hz.o,show sgn neg 0=0 by unfold sgn;split<;>rfl];exact zai.zero _
   ·exact dX
  ·have hL1:0<L.length:=List.length_pos_iff.2 hL0;have hv0:Bi.val l≠0:=λh=>hL0 (by rw[HL.o,h];rfl)
   have hz:=hii hv0;have hLz:((L.length:Int)==0)=false:=by rw[beq_eq_false_iff_ne];omega
   clear hv0;go_wp2;refine bodyPost_ret (v:=.tuple #[.agg #[.bool neg,.slice ao1 L.length cap1],.int .i64 0]) (by simp[results,Tryz.results80,go_sem,c0,c1]) rfl ⟨⟨neg,ao1,L.length,cap1,0,rfl,hii (.inl ⟨by rw[zar];exact HB.o,rfl,?_⟩)⟩,?_⟩
   ·refine⟨neg,ao1,L,cap1,rfl,hii ?_,hii ?_,hii ?_,oM,h34,HUf.o _ _⟩
    ·have:=hz.o;unfold sgn
     cases neg
     ·simp
     ·simp;omega
    ·rw[zar];exact HL.o
    ·rw[zar];exact HB.o
   ·exact dX
structure Box(w:Wo)(n:Nat)(x y:Vl):Prop where
 c0:w.cell? (aD_ n 0)=some x
 c1:w.cell? (aD_ n 1)=some y
 f0:w.frozen? ⟨n,0,none⟩=false
 f1:w.frozen? ⟨n,1,none⟩=false
theorem Box.lt{w:Wo}{n:Nat}{x y:Vl}(h:Box w n x y):n<w.heap.size:=zaf h.c0
theorem Box.mono{w:Wo}{n:Nat}{x y:Vl}(h:Box w n x y)(hb:BH w w'):Box w' n x y :=
 ⟨(hb.cell (p:=⟨n,0,none⟩) h.lt).trans h.c0,(hb.cell (p:=⟨n,1,none⟩) h.lt).trans h.c1,(hb.frozen (p:=⟨n,0,none⟩) h.lt).trans h.f0,(hb.frozen (p:=⟨n,1,none⟩) h.lt).trans h.f1⟩
theorem Box.new(w:Wo)(x y:Vl)(t:TypeId):Box (w.alloc (.cells #[x,y] t)) w.heap.size x y:=⟨by simp[go_sem],by simp[go_sem],by simp[go_sem],by simp[go_sem]⟩
theorem bA(w:Wo)(o:Obj):Below w.heap.size w (w.alloc o):=br.alloc nl o
theorem zbP(w:Wo)(a b c d x y:Vl)(t:TypeId):∃wx,wx=((w.alloc (.cells #[a,b] t)).alloc (.cells #[c,d] t)).alloc (.cells #[x,y] t)/\wx.heap.size=w.heap.size+1+1+1 /\
  Box wx w.heap.size a b/\Box wx (w.heap.size+1) c d/\Box wx (w.heap.size+1+1) x y/\BH w wx:=by
 refine⟨_,rfl,sM,?_,?_,?_,?_⟩
 ·exact((Box.new w a b t).mono (bA _ _)).mono (bA _ _)
 ·have:=(Box.new (w.alloc (.cells #[a,b] t)) c d t).mono (bA _ (.cells #[x,y] t))
  simpa using this
 ·have:=Box.new ((w.alloc (.cells #[a,b] t)).alloc (.cells #[c,d] t)) x y t
  simpa using this
 ·exact((br.alloc nl _).alloc sM _).alloc (by simp;omega) _
theorem U.put{w:Wo}{x:Vl}(hp:w.cell? p=some x)(hx:∀n,x≠.int .u32 n)(hU:U w ao l):U (w.setCell p v) ao l:=by
 intro i h;obtain⟨b,off,e,hc⟩:=hU i h;refine⟨b,off,e,?_⟩;rw[World.cell?_setCell_other w p ⟨b,off+i,none⟩ v (λh=>by rw[h,hc]at hp;exact hx _ (Option.some.inj hp).symm)];exact hc
theorem zai.put{w:Wo}{x u:Vl}{z:Int}(hp:w.cell? p=some x)(hx:∀n,x≠.int .u32 n)(h:zai w u z):zai (w.setCell p v) u z:=by
 obtain⟨neg,ao,L,cap,e,h1,h2,h3,h4,h5,h6⟩:=h;exact⟨neg,ao,L,cap,e,h1,h2,h3,h4,h5,h6.put hp hx⟩
theorem zai.put2{w:Wo}{n c:Nat}{b:Bool}{s:OA}{u:Vl}{z:Int}(p0:w.cell? (aD_ n 0)=some (.bool b))(p1:w.cell? (aD_ n 1)=some (.slice s c d))(h:zai w u z)(x y:Vl) :
  zai ((w.setCell (aD_ n 0) x).setCell (aD_ n 1) y) u z :=
 zai.put (x:=.slice s c d) (by rw[World.cell?_setCell_other _ _ _ _ sM];exact p1) sM (zai.put p0 sM h)
theorem zkx.put2{w:Wo}{n c:Nat}{b:Bool}{s:OA}{u:Vl}{z:Int}(p0:w.cell? (aD_ n 0)=some (.bool b))(p1:w.cell? (aD_ n 1)=some (.slice s c d))(h:zkx w z u k)(x y:Vl) :
  zkx ((w.setCell (aD_ n 0) x).setCell (aD_ n 1) y) z u k :=
 h.imp (λ⟨a,b,c⟩=>⟨a,b,c.put2 p0 p1 x y⟩) id
theorem Below.put2{B:Nat}{w:Wo}{n:Nat}(h:Below B w w')(hn:B<=n)(x y:Vl):Below B w ((w'.setCell (aD_ n 0) x).setCell (aD_ n 1) y) :=
 (h.setCell hn _).setCell hn _
theorem zlC(n:Bool)(ao1 ao2:OA)(L1 L2:LN)(c1 c2:Nat)(w:Wo)(Ho1:Hid (Bi.Ok L1))(Ho2:Hid (Bi.Ok L2))(hl1:L1.length<=34)(hl2:L2.length<=34)
  (hU1:U w ao1 L1)(hU2:U w ao2 L2)(hE:Env w) :
  CP 140 #[.agg #[.bool n,.slice ao1 L1.length c1],.agg #[.bool n,.slice ao2 L2.length c2]] w λe w'=>zfs w' (sgn n (Bi.val L1+Bi.val L2)) e/\BH w w':=by
 have hnn:(n==n)=true:=sM;go_enter func140,ntmps140;go_wp2_with fail;obtain⟨wx,hwx,hsz,B1,B2,B3,hbx⟩:=zbP w (.bool n) (.slice ao1 L1.length c1) (.bool n) (.slice ao2 L2.length c2) bF_ nS_ 30;rw[<-hwx];clear hwx;have hbd:Below w.heap.size w wx.drew:=hbx.drew;have hX1:=hU1.mono hbd;have hX2:=hU2.mono hbd;have hEx:=hE.mono hbd;have B3:=B3.mono ((Below.refl wx.heap.size wx).drew);clear hU1 hU2 hE;have B1:=B1.mono ((Below.refl wx.heap.size wx).drew);have B2:=B2.mono ((Below.refl wx.heap.size wx).drew);go_region_held3 (λw'=>w'.cell? ⟨w.heap.size,0,none⟩=some (.bool n)/\w'.cell? ⟨w.heap.size,1,none⟩=some (.slice ao1 L1.length c1)/\w'.cell? ⟨w.heap.size+1,1,none⟩=some (.slice ao2 L2.length c2)) (first|(with_reducible exact⟨B1.c0,B1.c1,B2.c1⟩)|(with_reducible exact⟨A1.c0,A1.c1,A2.c1⟩)|(with_reducible exact⟨C1.c0,C1.c1,C2.c1⟩)|(simp[C1.c0,C1.c1,C2.c1,go_sem];done))
  (first
   |(go_at_call 173;((with_reducible refine(zk8 L1 L2 _ _ _ _ _ ?_ ?_ Ho1.o Ho2.o hX1 hX2).mono ?_);(omega);(omega));rintro e w1⟨ao,L,cap,rfl,hcap,hoL,hvL,hlL,hUL,hb1⟩;have HV:=hii hvL;clear hvL;have A1:=B1.mono hb1;have A2:=B2.mono hb1;have A3:=B3.mono hb1)
   |(go_at_call 136;refine(za9 n _ _ _ _ oM hcap hUL (hii hoL) (hEx.mono hb1)).mono ?_;rintro e w2⟨⟨ng,ao3,n3,cap3,k3,rfl,HR⟩,hb2⟩;have C1:=A1.mono hb2;have C2:=A2.mono hb2;obtain⟨p0,p1,q0,q1⟩:=A3.mono hb2))
 go_wp2;refine bodyPost_ret (v:=.tuple #[.agg #[.bool ng,.slice ao3 n3 cap3],.int .i64 k3]) (by simp[results,Tryz.results140,go_sem,p0,p1]) rfl ⟨⟨ng,ao3,n3,cap3,k3,rfl,hii ?_⟩,?_⟩
 ·have:=HR.o.put2 p0 p1 (.bool ng) (.slice ao3 n3 cap3);rw[HV.o]at this;exact this
 ·exact dN
theorem zcZ(n1 n2:Bool)(v1 v2:Nat)(h:n1≠n2)(hle:v2<=v1):sgn n1 (v1-v2)=sgn n1 v1+sgn n2 v2:=by
 unfold sgn
 cases n1<;>cases n2<;>simp_all<;>omega
theorem zos(n1 n2:Bool)(hnn:(n1==n2)=false)(m1 m2:Nat)(hle:Hid (m2<=m1))(ao1 ao2:OA)(L1 L2:LN)(c1 c2:Nat)(w:Wo)(HL1:Hid (L1=Bi.limbs m1))(HL2:Hid (L2=Bi.limbs m2))(hl1:L1.length<=34)(hl2:L2.length<=34)
  (hU1:U w ao1 L1)(hU2:U w ao2 L2)(hE:Env w) :
  CP 140 #[.agg #[.bool n1,.slice ao1 L1.length c1],.agg #[.bool n2,.slice ao2 L2.length c2]] w λe w'=>zfs w' (sgn n1 m1+sgn n2 m2) e/\BH w w':=by
 go_enter func140,ntmps140;go_wp2_with fail;obtain⟨wx,hwx,hsz,B1,B2,B3,hbx⟩:=zbP w (.bool n1) (.slice ao1 L1.length c1) (.bool n2) (.slice ao2 L2.length c2) bF_ nS_ 30;rw[<-hwx];clear hwx;(with_reducible refine(zbj m1 m2 L1 L2 HL1 HL2 ao1 ao2 c1 c2 wx ?_ ?_ (hU1.mono hbx) (hU2.mono hbx)).mono ?_)
 ·omega
 ·omega
 rintro e w0⟨rfl,hb0⟩;have hcmp:0<=zbm m1 m2:=by have:=hle.o;unfold zbm;rw[if_neg oM];split<;>omega
 have hb0':=bu hbx hb0;have hbd:Below w.heap.size w w0.drew:=hb0'.drew;have hX1:=hU1.mono hbd;have hX2:=hU2.mono hbd;have hEx:=hE.mono hbd;have B1:=(B1.mono hb0).mono ((Below.refl w0.heap.size w0).drew);have B2:=(B2.mono hb0).mono ((Below.refl w0.heap.size w0).drew);have B3:=(B3.mono hb0).mono ((Below.refl w0.heap.size w0).drew);obtain⟨z0,z1,_,_⟩:=B1;obtain⟨y0,y1,_,_⟩:=B2;have B1:Box w0.drew w.heap.size (.bool n1) (.slice ao1 L1.length c1):=⟨z0,z1,‹_›,‹_›⟩;have B2:Box w0.drew (w.heap.size+1) (.bool n2) (.slice ao2 L2.length c2):=⟨y0,y1,‹_›,‹_›⟩;have Ho1:Hid (Bi.Ok L1):=hii (by rw[HL1.o];exact Bi.limbs_ok _);have Ho2:Hid (Bi.Ok L2):=hii (by rw[HL2.o];exact Bi.limbs_ok _);have hvl:Hid (Bi.val L1=m1/\Bi.val L2=m2):=hii (by rw[HL1.o,HL2.o,Bi.val_limbs,Bi.val_limbs];exact⟨rfl,rfl⟩);have hll:L2.length<=L1.length:=by
  apply Nat.le_of_not_lt;intro h
  rw[HL1.o,HL2.o]at h;have:=Bi.val_lt_of_length h;have:=hle.o;omega
 clear hU1 hU2 hE;go_wp2_with fail;go_region_held3 (λw'=>w'.cell? ⟨w.heap.size,0,none⟩=some (.bool n1)/\w'.cell? ⟨w.heap.size,1,none⟩=some (.slice ao1 L1.length c1)/\w'.cell? ⟨w.heap.size+1,1,none⟩=some (.slice ao2 L2.length c2)) (first|(with_reducible exact⟨B1.c0,B1.c1,B2.c1⟩)|(with_reducible exact⟨AB1.c0,AB1.c1,AB2.c1⟩)|(with_reducible exact⟨CB1.c0,CB1.c1,CB2.c1⟩)|(simp[CB1.c0,CB1.c1,CB2.c1,go_sem];done))
  (first
   |(go_at_call 174;((with_reducible refine(zf2 L1 L2 _ _ _ _ _ ?_ hll (hii ?_) Ho1.o Ho2.o hX1 hX2).mono ?_);(omega);(rw[hvl.o.1,hvl.o.2];have:=hle.o;omega));rintro e w1⟨ao,L,cap,hL,rfl,hcap,hlL,hUL,hb1⟩;have HL:=hii hL;clear hL;have AB1:=B1.mono hb1;have AB2:=B2.mono hb1;have A3:=B3.mono hb1)
   |(go_at_call 136;((with_reducible refine(za9 n1 _ _ _ _ ?_ hcap hUL (hii ?_) (hEx.mono hb1)).mono ?_);(omega);(rw[HL.o];exact Bi.limbs_ok _));rintro e w2⟨⟨ng,ao3,n3,cap3,k3,rfl,HR⟩,hb2⟩;have CB1:=AB1.mono hb2;have CB2:=AB2.mono hb2;obtain⟨p0,p1,q0,q1⟩:=A3.mono hb2))
 go_wp2;refine bodyPost_ret (v:=.tuple #[.agg #[.bool ng,.slice ao3 n3 cap3],.int .i64 k3]) (by simp[results,Tryz.results140,go_sem,p0,p1]) rfl ⟨⟨ng,ao3,n3,cap3,k3,rfl,hii ?_⟩,?_⟩
 ·have:=HR.o.put2 p0 p1 (.bool ng) (.slice ao3 n3 cap3);rw[HL.o,Bi.val_limbs,hvl.o.1,hvl.o.2]at this;have h3:=hle.o;have h4:sgn n1 (m1-m2)=sgn n1 m1+sgn n2 m2:=by
   exact zcZ n1 n2 m1 m2 (by rintro rfl;simp at hnn) h3
  rw[h4]at this;exact this
 ·exact dN
theorem zor(n1 n2:Bool)(hnn:(n1==n2)=false)(m1 m2:Nat)(hle:Hid (m1<m2))(ao1 ao2:OA)(L1 L2:LN)(c1 c2:Nat)(w:Wo)(HL1:Hid (L1=Bi.limbs m1))(HL2:Hid (L2=Bi.limbs m2))(hl1:L1.length<=34)(hl2:L2.length<=34)
  (hU1:U w ao1 L1)(hU2:U w ao2 L2)(hE:Env w) :
  CP 140 #[.agg #[.bool n1,.slice ao1 L1.length c1],.agg #[.bool n2,.slice ao2 L2.length c2]] w λe w'=>zfs w' (sgn n1 m1+sgn n2 m2) e/\BH w w':=by
 go_enter func140,ntmps140;go_wp2_with fail;obtain⟨wx,hwx,hsz,B1,B2,B3,hbx⟩:=zbP w (.bool n1) (.slice ao1 L1.length c1) (.bool n2) (.slice ao2 L2.length c2) bF_ nS_ 30;rw[<-hwx];clear hwx;(with_reducible refine(zbj m1 m2 L1 L2 HL1 HL2 ao1 ao2 c1 c2 wx ?_ ?_ (hU1.mono hbx) (hU2.mono hbx)).mono ?_)
 ·omega
 ·omega
 rintro e w0⟨rfl,hb0⟩;have hcmp:zbm m1 m2<0:=by have:=hle.o;unfold zbm;rw[if_pos this];decide
 have hb0':=bu hbx hb0;have hbd:Below w.heap.size w w0.drew:=hb0'.drew;have hX1:=hU1.mono hbd;have hX2:=hU2.mono hbd;have hEx:=hE.mono hbd;have B1:=(B1.mono hb0).mono ((Below.refl w0.heap.size w0).drew);have B2:=(B2.mono hb0).mono ((Below.refl w0.heap.size w0).drew);have B3:=(B3.mono hb0).mono ((Below.refl w0.heap.size w0).drew);obtain⟨z0,z1,_,_⟩:=B1;obtain⟨y0,y1,_,_⟩:=B2;have B1:Box w0.drew w.heap.size (.bool n1) (.slice ao1 L1.length c1):=⟨z0,z1,‹_›,‹_›⟩;have B2:Box w0.drew (w.heap.size+1) (.bool n2) (.slice ao2 L2.length c2):=⟨y0,y1,‹_›,‹_›⟩;have Ho1:Hid (Bi.Ok L1):=hii (by rw[HL1.o];exact Bi.limbs_ok _);have Ho2:Hid (Bi.Ok L2):=hii (by rw[HL2.o];exact Bi.limbs_ok _);have hvl:Hid (Bi.val L1=m1/\Bi.val L2=m2):=hii (by rw[HL1.o,HL2.o,Bi.val_limbs,Bi.val_limbs];exact⟨rfl,rfl⟩);have hll:L1.length<=L2.length:=by
  apply Nat.le_of_not_lt;intro h
  rw[HL1.o,HL2.o]at h;have:=Bi.val_lt_of_length h;have:=hle.o;omega
 clear hU1 hU2 hE;go_wp2_with fail;go_region_held3 (λw'=>w'.cell? ⟨w.heap.size+1,0,none⟩=some (.bool n2)/\w'.cell? ⟨w.heap.size+1,1,none⟩=some (.slice ao2 L2.length c2)/\w'.cell? ⟨w.heap.size,1,none⟩=some (.slice ao1 L1.length c1)) (first|(with_reducible exact⟨B2.c0,B2.c1,B1.c1⟩)|(with_reducible exact⟨AB2.c0,AB2.c1,AB1.c1⟩)|(with_reducible exact⟨CB2.c0,CB2.c1,CB1.c1⟩)|(simp[CB2.c0,CB2.c1,CB1.c1,go_sem];done))
  (first
   |(go_at_call 174;((with_reducible refine(zf2 L2 L1 _ _ _ _ _ ?_ hll (hii ?_) Ho2.o Ho1.o hX2 hX1).mono ?_);(omega);(rw[hvl.o.1,hvl.o.2];have:=hle.o;omega));rintro e w1⟨ao,L,cap,hL,rfl,hcap,hlL,hUL,hb1⟩;have HL:=hii hL;clear hL;have AB1:=B1.mono hb1;have AB2:=B2.mono hb1;have A3:=B3.mono hb1)
   |(go_at_call 136;((with_reducible refine(za9 n2 _ _ _ _ ?_ hcap hUL (hii ?_) (hEx.mono hb1)).mono ?_);(omega);(rw[HL.o];exact Bi.limbs_ok _));rintro e w2⟨⟨ng,ao3,n3,cap3,k3,rfl,HR⟩,hb2⟩;have CB1:=AB1.mono hb2;have CB2:=AB2.mono hb2;obtain⟨p0,p1,q0,q1⟩:=A3.mono hb2))
 go_wp2;refine bodyPost_ret (v:=.tuple #[.agg #[.bool ng,.slice ao3 n3 cap3],.int .i64 k3]) (by simp[results,Tryz.results140,go_sem,p0,p1]) rfl ⟨⟨ng,ao3,n3,cap3,k3,rfl,hii ?_⟩,?_⟩
 ·have:=HR.o.put2 p0 p1 (.bool ng) (.slice ao3 n3 cap3);rw[HL.o,Bi.val_limbs,hvl.o.1,hvl.o.2]at this;have h3:=hle.o;have h4:sgn n2 (m2-m1)=sgn n1 m1+sgn n2 m2:=by
   rw[Int.add_comm];exact zcZ n2 n1 m2 m1 (by rintro rfl;simp at hnn) oM
  rw[h4]at this;exact this
 ·exact dN
theorem zbz(z:Int)(n:Bool)(h:n=decide (z<0)):sgn n z.natAbs=z:=by
 subst h;unfold sgn
 by_cases h:z<0
 ·simp[h];omega
 ·simp[h];omega
theorem zjf(n:Bool)(a b:Nat):sgn n (a+b)=sgn n a+sgn n b:=by unfold sgn;cases n<;>simp<;>omega
theorem zhb(a b:Vl)(x y:Int)(w:Wo)(ha:zai w a x)(hb:zai w b y)(hE:Env w) :
  CP 140 #[a,b] w λe w'=>zfs w' (x+y) e/\BH w w':=by
 obtain⟨n1,ao1,L1,c1,rfl,Hn1,HL1,HB1,hc1,hl1,hU1⟩:=ha;obtain⟨n2,ao2,L2,c2,rfl,Hn2,HL2,HB2,hc2,hl2,hU2⟩:=hb;have e1:=zbz x n1 Hn1.o;have e2:=zbz y n2 Hn2.o;have hv1:Bi.val L1=x.natAbs:=by rw[HL1.o,Bi.val_limbs]
 have hv2:Bi.val L2=y.natAbs:=by rw[HL2.o,Bi.val_limbs]
 by_cases hn:n1=n2
 ·subst hn;have:=zlC n1 ao1 ao2 L1 L2 c1 c2 w (hii (by rw[HL1.o];exact Bi.limbs_ok _)) (hii (by rw[HL2.o];exact Bi.limbs_ok _)) hl1 hl2 hU1 hU2 hE
  rwa [hv1,hv2,zjf,e1,e2]at this
 ·have hnn:(n1==n2)=false:=by simpa using hn
  rcases Nat.lt_or_ge x.natAbs y.natAbs with h|h
  ·have:=zor n1 n2 hnn x.natAbs y.natAbs (hii h) ao1 ao2 L1 L2 c1 c2 w HL1 HL2 hl1 hl2 hU1 hU2 hE
   rwa [e1,e2]at this
  ·have:=zos n1 n2 hnn x.natAbs y.natAbs (hii h) ao1 ao2 L1 L2 c1 c2 w HL1 HL2 hl1 hl2 hU1 hU2 hE
   rwa [e1,e2]at this
theorem zfh(l:LN)(ao:OA)(cap:Nat)(w:Wo)(hm:l.length<=1000000000)(hU:U w ao l) :
  CP 179 #[.slice ao l.length cap,.func (.func 159) #[] #[]] w λe w'=>(∃r:Int,Hid (0<=r↔¬Bi.Ok l)/\-1<=r/\r<=l.length/\e=.returned (.int .i64 r))/\w=w':=by
 go_enter func179,ntmps179;go_wp2;go_loop [8] (λs=>∃k:Nat,k<=l.length/\s=.int .i64 k/\Hid (Bi.Ok (l.take k))) (λs=>l.length-(intOf s).toNat)
 case atStart=>exact⟨0,Nat.zero_le _,rfl,hii (by simp[Bi.Ok])⟩
 case round=>
  obtain⟨k,hk,rfl,HK⟩:=hrel
  by_cases hlt:k<l.length
  ·obtain⟨x,hx⟩:=zal hlt;obtain⟨b,off,rfl,hc⟩:=hU.at' hx;have HX:=hii hx;clear hx hU
   by_cases hs:(1000000000:Int)<=(x:Int)
   ·go_wp2;go_ret;refine⟨⟨k,hii ⟨λ_ h=>?_,λ_=>by omega⟩,oM,oM,rfl⟩,rfl⟩;have:=h.at' HX.o;omega
   ·go_wp2;go_round
    case rel=>
     refine⟨k+1,oM,gM,hii ?_⟩;have h1:l[k]'hlt=x:=(List.getElem?_eq_some_iff.1 HX.o).2;rw[List.take_succ_eq_append_getElem hlt,h1];exact HK.o.snoc oM
    case measure=>exact mM
  ·obtain rfl:k=l.length:=oM;clear hU;go_wp2;go_ret;refine⟨⟨-1,hii ⟨λh=>by omega,λh=>absurd ?_ h⟩,oM,oM,rfl⟩,rfl⟩;have:=HK.o
   rwa [List.take_length]at this
theorem zdq(l:LN)(ao:OA)(cap:Nat)(w:Wo)(hm:l.length<=1000000000)(hU:U w ao l) :
  CP 158 #[.slice ao l.length cap,.func (.func 159) #[] #[]] w λe w'=>(∃r:Bool,Hid (r=true↔¬Bi.Ok l)/\e=.returned (.bool r))/\w=w':=by
 go_enter func158,ntmps158;go_wp2_with fail;go_fit (zfh l _ _ _ hm hU);rintro e w1⟨⟨r,HR,h1,h2,rfl⟩,rfl⟩;go_wp2;go_ret;exact⟨⟨_,hii (by rw[decide_eq_true_iff];exact HR.o),rfl⟩,rfl⟩
def zaz(neg:Bool)(l:LN):Prop:=if l=[]then neg=false else Bi.Ok l/\Bi.Canon l/\Bi.val l<Bi.Big
theorem zej{r:LN}{x:Nat}{neg:Bool}:zaz neg (r++[x])↔Bi.Ok (r++[x])/\x≠0/\Bi.val (r++[x])<Bi.Big:=by
 unfold zaz;rw[if_neg sM];unfold Bi.Canon;simp
theorem zm5{r:LN}{x:Nat}(hx:x≠0)(hl:34<=r.length):Bi.Big<=Bi.val (r++[x]):=by
 rw[Bi.val_snoc];have h1:1000000000 ^ 34<=1000000000 ^ r.length:=Nat.pow_le_pow_right dM hl;have h2:1000000000 ^ r.length*1<=1000000000 ^ r.length*x:=Nat.mul_le_mul_left _ oM;have:=Bi.big_lt_limbs;omega
theorem zeL{r:LN}{x:Nat}(ho:Bi.Ok (r++[x]))(hx:x≠0):r++[x]=Bi.limbs (Bi.val (r++[x])) :=
 (Bi.canon_limbs ho (by intro _;simpa using hx)).symm
theorem zb8(neg:Bool)(l:LN)(ao:OA)(cap:Nat)(w:Wo)(hm:l.length<=1000000000)(hU:U w ao l)(hE:Env w) :
  CP 121 #[.agg #[.bool neg,.slice ao l.length cap]] w λe w'=>(∃r:Bool,Hid (r=true↔zaz neg l)/\e=.returned (.bool r))/\BH w w':=by
 have hb0:∀o,Below w.heap.size w (w.alloc o):=λo=>bA w o
 obtain rfl|⟨r,x,rfl⟩:l=[]\/∃r x,l=r++[x]:=by
  rcases List.eq_nil_or_concat l with h|⟨r,x,h⟩
  ·exact .inl h
  ·exact .inr ⟨r,x,by rw[h,List.concat_eq_append]⟩
 ·clear hU;go_enter func121,ntmps121;go_wp2;go_ret;exact⟨⟨_,hii (by simp[zaz]),rfl⟩,hb0 _⟩
 ·obtain⟨b,off,rfl,hc⟩:=hU.at' (k:=r.length) (x:=x) sM;have HV:Hid (zaz neg (r++[x])↔Bi.Ok (r++[x])/\x≠0/\Bi.val (r++[x])<Bi.Big):=hii zej;have hl:(r++[x]).length=r.length+1:=sM;have hc':∀o,(w.alloc o).cell? ⟨b,off+r.length,none⟩=some (.int .u32 (x:Int)):=λo=>((hb0 o).cell (p:=⟨b,off+r.length,none⟩) (zaf hc)).trans hc
  have hU':∀o,Hid (U (w.alloc o) (sD b off) (r++[x])):=λo=>hii (hU.mono (hb0 o))
  have HE:∀o,Hid (Env (w.alloc o)):=λo=>hii (hE.mono (hb0 o))
  rw[hl]at hm|-;have HLen:=hii hl;clear hl hU hE hb0
  by_cases hx0:x=0
  ·subst hx0;go_enter func121,ntmps121;go_wp2;go_ret;exact⟨⟨false,hii (by rw[HV.o];simp),rfl⟩,bA _ _⟩
  ·have hxb:((x:Int)==0)=false:=by rw[beq_eq_false_iff_ne];omega
   by_cases hlen:(34:Int)<(r.length:Int)+1
   ·have hbig:¬Bi.val (r++[x])<Bi.Big:=by have:=zm5 (r:=r) hx0 oM;omega
    have HBig:=hii hbig;clear hbig;go_enter func121,ntmps121;go_wp2;go_ret;exact⟨⟨false,hii (by rw[HV.o];simp[HBig.o]),rfl⟩,bA _ _⟩
   ·go_enter func121,ntmps121;go_wp2_with fail;rw[<-HLen.o];(with_reducible refine(zdq (r++[x]) _ _ _ ?_ (hU' _).o).mono ?_)
    ·rw[HLen.o];exact hm
    rintro e w1⟨⟨q,HQ,rfl⟩,rfl⟩
    cases q
    ·have ho:Hid (Bi.Ok (r++[x])):=hii (by have:=HQ.o;simp at this;exact this);go_wp2_with fail;rw[<-HLen.o];(with_reducible refine(zeG _ (r++[x]) (hii (zeL ho.o hx0)) _ _ _ ?_ (hU' _).o (HE _).o).mono ?_)
     ·rw[HLen.o];omega
     rintro e w2⟨⟨d,HD,hd,rfl⟩,hb2⟩;go_wp2;go_ret;refine⟨⟨_,hii ?_,rfl⟩,(bA _ _).trans (hb2.mono sM)⟩;rw[HV.o,<-Bi.dlen_le,<-HD.o];simp[ho.o,hx0];omega
    ·have ho:Hid (¬Bi.Ok (r++[x])):=hii (HQ.o.1 rfl);go_wp2;go_ret;exact⟨⟨false,hii (by rw[HV.o];simp[ho.o]),rfl⟩,bA _ _⟩
def zkH(w:Wo)(ao:OA)(ls:List (Bool×LN)):Prop :=
 ∀i x,ls[i]?=some x->∃b off ai ci,ao=sD b off/\w.cell? ⟨b,off+i*2,none⟩=some (.bool x.1)/\w.cell? ⟨b,off+i*2+1,none⟩=some (.slice ai x.2.length ci) /\
  U w ai x.2/\x.2.length<=1000000000
theorem zkH.mono{w:Wo}{ls:List (Bool×LN)}(h:zkH w ao ls)(hb:BH w w'):zkH w' ao ls:=by
 intro i x hx;obtain⟨b,off,ai,ci,e,h1,h2,h3,h4⟩:=h i x hx;exact⟨b,off,ai,ci,e,(hb.cell (p:=⟨b,off+i*2,none⟩) (zaf h1)).trans h1,(hb.cell (p:=⟨b,off+i*2+1,none⟩) (zaf h2)).trans h2,h3.mono hb,h4⟩
theorem zgl(ls:List (Bool×LN))(ao:OA)(cap:Nat)(w:Wo)(hm:ls.length<=1000000)(hR:zkH w ao ls)(hE:Env w) :
  CP 139 #[.slice ao ls.length cap] w λe w'=>(∃r:Int,Hid (r=0↔∀x∈ls,zaz x.1 x.2)/\Hid (r=0\/r=1)/\e=.returned (.int .i64 r))/\BH w w':=by
 go_enter func139,ntmps139;go_wp2;go_loopw [7] (λs wr=>∃k:Nat,k<=ls.length/\s=.int .i64 k/\Hid (∀i x,i<k->ls[i]?=some x->zaz x.1 x.2)/\BH w wr) (λs _=>ls.length-(intOf s).toNat)
 case atStart=>exact⟨0,Nat.zero_le _,rfl,hii (by intro i x h;omega),br⟩
 case round=>
  obtain⟨k,hk,rfl,HK,hbr⟩:=hrel
  by_cases hlt:k<ls.length
  ·obtain⟨x,hx⟩:∃x,ls[k]?=some x:=⟨ls[k],gE hlt⟩;obtain⟨b,off,ai,ci,rfl,h1,h2,h3,h4⟩:=hR.mono hbr k x hx;have HX:=hii hx;have hE':=hE.mono hbr;clear hx hR hE;go_wp2_with fail;go_fit (zb8 x.1 x.2 ai ci _ h4 (h3.mono (bA _ _)) (hE'.mono (bA _ _)));rintro e w1⟨⟨q,HQ,rfl⟩,hb1⟩;have hbw:BH w w1:=(hbr.trans ((bA wr _).mono hbr.size)).trans (hb1.mono (Nat.le_trans hbr.size (bA wr _).size))
   cases q
   ·have HQ':Hid (¬zaz x.1 x.2):=hii (λh=>by have:=HQ.o.2 h;simp at this);clear HQ;go_wp2;go_ret;refine⟨⟨1,hii ⟨λh=>by omega,λh=>?_⟩,hii (.inr rfl),rfl⟩,hbw⟩;exact absurd (h x (List.mem_of_getElem? HX.o)) HQ'.o
   ·have HQ':Hid (zaz x.1 x.2):=hii (HQ.o.1 rfl);clear HQ;go_wp2;go_roundw
    case rel=>
     refine⟨k+1,oM,gM,hii λi y hi hy=>?_,hbw⟩
     by_cases hik:i=k
     ·subst hik;obtain rfl:=Option.some.inj (HX.o.symm.trans hy);exact HQ'.o
     ·exact HK.o i y oM hy
    case measure=>exact mM
  ·obtain rfl:k=ls.length:=oM;clear hR hE;go_wp2;go_ret;refine⟨⟨0,hii ⟨λ_ x hx=>?_,λ_=>rfl⟩,hii (.inl rfl),rfl⟩,hbr⟩;obtain⟨i,hi,rfl⟩:=List.getElem_of_mem hx;exact HK.o i _ hi (gE hi)
theorem zkH.two(w:Wo)(n1 n2:Bool)(a1 a2:OA)(l1 l2:LN)(c1 c2:Nat)(t:TypeId)(h1:U w a1 l1)(h2:U w a2 l2)(m1:l1.length<=1000000000)(m2:l2.length<=1000000000) :
  zkH (w.alloc (.cells #[.bool n1,.slice a1 l1.length c1,.bool n2,.slice a2 l2.length c2] t)) (some ⟨w.heap.size,0,none⟩) [(n1,l1),(n2,l2)]:=by
 intro i x hx
 match i,hx with
 |0,hx=>
  simp at hx;subst hx;exact⟨w.heap.size,0,a1,c1,rfl,by simp[go_sem],by simp[go_sem],h1.mono (bA _ _),m1⟩
 |1,hx=>
  simp at hx;subst hx;exact⟨w.heap.size,0,a2,c2,rfl,by simp[go_sem],by simp[go_sem],h2.mono (bA _ _),m2⟩
 |i+2,hx=>simp at hx
theorem zkH.one(w:Wo)(n1:Bool)(a1:OA)(l1:LN)(c1:Nat)(t:TypeId)(h1:U w a1 l1)(m1:l1.length<=1000000000) :
  zkH (w.alloc (.cells #[.bool n1,.slice a1 l1.length c1] t)) (some ⟨w.heap.size,0,none⟩) [(n1,l1)]:=by
 intro i x hx
 match i,hx with
 |0,hx=>
  simp at hx;subst hx;exact⟨w.heap.size,0,a1,c1,rfl,by simp[go_sem],by simp[go_sem],h1.mono (bA _ _),m1⟩
 |i+1,hx=>simp at hx
theorem zaC(z:Int)(n:Bool)(L:LN)(hn:n=decide (z<0))(hL:L=Bi.limbs z.natAbs)(hB:z.natAbs<Bi.Big):zaz n L:=by
 unfold zaz
 split
 ·rename_i h
  rw[h]at hL;have:=Bi.limbs_eq_nil.1 hL.symm;rw[hn];simp;omega
 ·rw[hL];exact⟨Bi.limbs_ok _,Bi.limbs_canon _,by rw[Bi.val_limbs];exact hB⟩
def zph(w:Wo)(v:Vl)(x:Bool×LN):Prop:=∃ao cap,v=.agg #[.bool x.1,.slice ao x.2.length cap]/\U w ao x.2/\x.2.length<=1000000000
theorem zph.mono{w:Wo}{x:Bool×LN}(h:zph w v x)(hb:BH w w'):zph w' v x:=by
 obtain⟨ao,cap,e,h1,h2⟩:=h;exact⟨ao,cap,e,h1.mono hb,h2⟩
theorem zeK(w:Wo)(g:Nat)(hg:w.heap.size=g)(n1 n2:Bool)(a1 a2:OA)(l1 l2:LN)(c1 c2:Nat)(h1:U w a1 l1)(h2:U w a2 l2)(m1:l1.length<=1000000000)(m2:l2.length<=1000000000)(hE:Env w) :
  CP 139 #[.slice (sD g 0) 2 2] (w.alloc (.cells #[.bool n1,.slice a1 l1.length c1,.bool n2,.slice a2 l2.length c2] 30)) λe w'=>
   (∃r:Int,Hid (r=0↔zaz n1 l1/\zaz n2 l2)/\Hid (r=0\/r=1)/\e=.returned (.int .i64 r))/\BH w w':=by
 subst hg;refine(zgl [(n1,l1),(n2,l2)] _ 2 _ sM (zkH.two w n1 n2 a1 a2 l1 l2 c1 c2 30 h1 h2 m1 m2) (hE.mono (bA _ _))).mono ?_;rintro e w1⟨⟨r,HR,HR2,he⟩,hb1⟩;refine⟨⟨r,hii ?_,HR2,he⟩,(bA w _).trans (hb1.mono (bA w _).size)⟩;rw[HR.o];simp
theorem zok(w:Wo)(g:Nat)(hg:w.heap.size=g)(n1:Bool)(a1:OA)(l1:LN)(c1:Nat)(h1:U w a1 l1)(m1:l1.length<=1000000000)(hE:Env w) :
  CP 139 #[.slice (sD g 0) 1 1] (w.alloc (.cells #[.bool n1,.slice a1 l1.length c1] 30)) λe w'=>
   (∃r:Int,Hid (r=0↔zaz n1 l1)/\Hid (r=0\/r=1)/\e=.returned (.int .i64 r))/\BH w w':=by
 subst hg;refine(zgl [(n1,l1)] _ 1 _ sM (zkH.one w n1 a1 l1 c1 30 h1 m1) (hE.mono (bA _ _))).mono ?_;rintro e w1⟨⟨r,HR,HR2,he⟩,hb1⟩;refine⟨⟨r,hii ?_,HR2,he⟩,(bA w _).trans (hb1.mono (bA w _).size)⟩;rw[HR.o];simp
theorem zkE(a b:Vl)(x y:Int)(w:Wo)(ha:zai w a x)(hb:zai w b y)(hE:Env w) :
  CP 95 #[a,b] w λe w'=>zfs w' (x+y) e/\BH w w':=by
 obtain⟨n1,ao1,L1,c1,rfl,Hn1,HL1,HB1,hc1,hl1,hU1⟩:=ha;obtain⟨n2,ao2,L2,c2,rfl,Hn2,HL2,HB2,hc2,hl2,hU2⟩:=hb;go_enter func95,ntmps95;go_wp2_with fail;obtain⟨wx,hwx,hsz,B1,B2,B3,hbx⟩:=zbP w (.bool n1) (.slice ao1 L1.length c1) (.bool n2) (.slice ao2 L2.length c2) bF_ nS_ 30;rw[<-hwx];clear hwx;(with_reducible refine(zeK wx _ hsz n1 n2 ao1 ao2 L1 L2 c1 c2 (hU1.mono hbx) (hU2.mono hbx) ?_ ?_ (hE.mono hbx)).mono ?_)
 ·omega
 ·omega
 rintro e w1⟨⟨r,HR,HR2,rfl⟩,hb1'⟩;obtain rfl:r=0:=HR.o.2 ⟨zaC x n1 L1 Hn1.o HL1.o HB1.o,zaC y n2 L2 Hn2.o HL2.o HB2.o⟩;clear HR HR2;have B1:=B1.mono hb1';have B2:=B2.mono hb1';have B3:=B3.mono hb1';have hbw:=Below.step hbx hb1' nl;have hV1:zai w1 (.agg #[.bool n1,.slice ao1 L1.length c1]) x:=⟨n1,ao1,L1,c1,rfl,Hn1,HL1,HB1,hc1,hl1,hU1.mono hbw⟩;have hV2:zai w1 (.agg #[.bool n2,.slice ao2 L2.length c2]) y:=⟨n2,ao2,L2,c2,rfl,Hn2,HL2,HB2,hc2,hl2,hU2.mono hbw⟩;have hE1:=hE.mono hbw;clear hU1 hU2 hE hsz;obtain⟨a0,a1,_,_⟩:=B1;obtain⟨b0,b1,_,_⟩:=B2;go_wp2_with fail;go_fit (zhb _ _ x y w1 hV1 hV2 hE1);rintro e w2⟨⟨ng,ao3,n3,cap3,k3,rfl,HR⟩,hb2⟩;obtain⟨p0,p1,q0,q1⟩:=B3.mono hb2;go_wp2;refine bodyPost_ret (v:=.tuple #[.agg #[.bool ng,.slice ao3 n3 cap3],.int .i64 k3]) (by simp[results,Tryz.results95,go_sem,p0,p1]) rfl ⟨⟨ng,ao3,n3,cap3,k3,rfl,hii (HR.o.put2 p0 p1 _ _)⟩,?_⟩;exact Below.put2 (bu hbw hb2) oM _ _
theorem zkt(a b:Vl)(x y:Int)(w:Wo)(ha:zai w a x)(hb:zai w b y)(hE:Env w) :
  CP 98 #[a,b] w λe w'=>zfs w' (x-y) e/\BH w w':=by
 obtain⟨n1,ao1,L1,c1,rfl,Hn1,HL1,HB1,hc1,hl1,hU1⟩:=ha;obtain⟨n2,ao2,L2,c2,rfl,Hn2,HL2,HB2,hc2,hl2,hU2⟩:=hb;have hneg:∃n3:Bool,Hid (n3=decide (-y<0))/\((L2=[]/\n3=false/\n2=false)\/(L2≠[]/\n3=!n2)):=by
  refine⟨decide (-y<0),hii rfl,?_⟩;have h1:=Hn2.o;have h2:=HL2.o
  by_cases h0:L2=[]
  ·have:y=0:=by rw[h0]at h2;have:=Bi.limbs_eq_nil.1 h2.symm;omega
   exact .inl ⟨h0,by simp[this],by rw[h1,this];rfl⟩
  ·have:y≠0:=by rintro rfl;exact h0 (by rw[h2];rfl)
   refine .inr ⟨h0,?_⟩;rw[h1]
   by_cases h3:y<0
   ·have:¬(-y<0):=oM;simp[h3];omega
   ·have:-y<0:=oM;simp[h3];omega
 obtain⟨n3,Hn3,hcase⟩:=hneg;have HC:=hii hcase;clear hcase;go_enter func98,ntmps98;go_wp2_with fail;obtain⟨wx,hwx,hsz,B1,B2,B3,hbx⟩:=zbP w (.bool n1) (.slice ao1 L1.length c1) (.bool n2) (.slice ao2 L2.length c2) bF_ nS_ 30;rw[<-hwx];clear hwx;(with_reducible refine(zeK wx _ hsz n1 n2 ao1 ao2 L1 L2 c1 c2 (hU1.mono hbx) (hU2.mono hbx) ?_ ?_ (hE.mono hbx)).mono ?_)
 ·omega
 ·omega
 rintro e w1⟨⟨r,HR,HR2,rfl⟩,hb1'⟩;obtain rfl:r=0:=HR.o.2 ⟨zaC x n1 L1 Hn1.o HL1.o HB1.o,zaC y n2 L2 Hn2.o HL2.o HB2.o⟩;clear HR HR2;have B1:=B1.mono hb1';have B2:=B2.mono hb1';have B3:=B3.mono hb1';have hbw:=Below.step hbx hb1' nl;have hV1:zai w1 (.agg #[.bool n1,.slice ao1 L1.length c1]) x:=⟨n1,ao1,L1,c1,rfl,Hn1,HL1,HB1,hc1,hl1,hU1.mono hbw⟩;have hV2:zai w1 (.agg #[.bool n2,.slice ao2 L2.length c2]) y:=⟨n2,ao2,L2,c2,rfl,Hn2,HL2,HB2,hc2,hl2,hU2.mono hbw⟩;have hE1:=hE.mono hbw;have hV3:zai w1 (.agg #[.bool n3,.slice ao2 L2.length c2]) (-y):=⟨n3,ao2,L2,c2,rfl,Hn3,hii (by rw[Int.natAbs_neg];exact HL2.o),hii (by rw[Int.natAbs_neg];exact HB2.o),hc2,hl2,hU2.mono hbw⟩;clear hU1 hU2 hE hsz;obtain⟨a0,a1,_,_⟩:=B1;obtain⟨b0,b1,_,_⟩:=B2;rcases HC.o with⟨h0,rfl,rfl⟩|⟨h0,rfl⟩
 ·subst h0;simp only[List.length_nil]at hV3;go_wp2_with fail;go_fit (zhb _ _ x (-y) w1 hV1 hV3 hE1);rintro e w2⟨⟨ng,ao3,n3,cap3,k3,rfl,HR⟩,hb2⟩;rw[<-Int.sub_eq_add_neg]at HR;obtain⟨p0,p1,q0,q1⟩:=B3.mono hb2;go_wp2;refine bodyPost_ret (v:=.tuple #[.agg #[.bool ng,.slice ao3 n3 cap3],.int .i64 k3]) (by simp[results,Tryz.results98,go_sem,p0,p1]) rfl ⟨⟨ng,ao3,n3,cap3,k3,rfl,hii (HR.o.put2 p0 p1 _ _)⟩,?_⟩;exact Below.put2 (bu hbw hb2) oM _ _
 ·have hL:0<L2.length:=List.length_pos_iff.2 h0
  cases n2
  all_goals
   simp only[Bool.not_false,Bool.not_true]at hV3;go_wp2_with fail;go_fit (zhb _ _ x (-y) w1 hV1 hV3 hE1);rintro e w2⟨⟨ng,ao3,n3,cap3,k3,rfl,HR⟩,hb2⟩;rw[<-Int.sub_eq_add_neg]at HR;obtain⟨p0,p1,q0,q1⟩:=B3.mono hb2;go_wp2;refine bodyPost_ret (v:=.tuple #[.agg #[.bool ng,.slice ao3 n3 cap3],.int .i64 k3]) (by simp[results,Tryz.results98,go_sem,p0,p1]) rfl ⟨⟨ng,ao3,n3,cap3,k3,rfl,hii (HR.o.put2 p0 p1 _ _)⟩,?_⟩;exact Below.put2 (bu hbw hb2) oM _ _
theorem zkz(a b:Vl)(x y:Int)(w:Wo)(ha:zai w a x)(hb:zai w b y)(hE:Env w) :
  CP 138 #[a,b] w λe w'=>zfs w' (x*y) e/\BH w w':=by
 obtain⟨n1,ao1,L1,c1,rfl,Hn1,HL1,HB1,hc1,hl1,hU1⟩:=ha;obtain⟨n2,ao2,L2,c2,rfl,Hn2,HL2,HB2,hc2,hl2,hU2⟩:=hb;go_enter func138,ntmps138;go_wp2_with fail;obtain⟨wx,hwx,hsz,B1,B2,B3,hbx⟩:=zbP w (.bool n1) (.slice ao1 L1.length c1) (.bool n2) (.slice ao2 L2.length c2) bF_ nS_ 30;rw[<-hwx];clear hwx;(with_reducible refine(zeK wx _ hsz n1 n2 ao1 ao2 L1 L2 c1 c2 (hU1.mono hbx) (hU2.mono hbx) ?_ ?_ (hE.mono hbx)).mono ?_)
 ·omega
 ·omega
 rintro e w1⟨⟨r,HR,HR2,rfl⟩,hb1'⟩;obtain rfl:r=0:=HR.o.2 ⟨zaC x n1 L1 Hn1.o HL1.o HB1.o,zaC y n2 L2 Hn2.o HL2.o HB2.o⟩;clear HR HR2;have B1:=B1.mono hb1';have B2:=B2.mono hb1';have B3:=B3.mono hb1';have hbw:=Below.step hbx hb1' nl;have hE1:=hE.mono hbw;have hbd:=hbw.drew;have hX1:=hU1.mono hbd;have hX2:=hU2.mono hbd;have hEx:=hE.mono hbd;have Ho1:Hid (Bi.Ok L1):=hii (by rw[HL1.o];exact Bi.limbs_ok _);have Ho2:Hid (Bi.Ok L2):=hii (by rw[HL2.o];exact Bi.limbs_ok _);have D1:=B1.mono ((Below.refl w1.heap.size w1).drew);have D2:=B2.mono ((Below.refl w1.heap.size w1).drew);have D3:=B3.mono ((Below.refl w1.heap.size w1).drew);clear hU1 hU2 hE hsz hE1;obtain⟨a0,a1,_,_⟩:=B1;obtain⟨b0,b1,_,_⟩:=B2;go_wp2_with fail;go_region_held3 (λw'=>w'.cell? ⟨w.heap.size,0,none⟩=some (.bool n1)/\w'.cell? ⟨w.heap.size+1,0,none⟩=some (.bool n2)/\w'.cell? ⟨w.heap.size,1,none⟩=some (.slice ao1 L1.length c1)/\w'.cell? ⟨w.heap.size+1,1,none⟩=some (.slice ao2 L2.length c2))
  (first|(with_reducible exact⟨a0,b0,a1,b1⟩)|(with_reducible exact⟨D1.c0,D2.c0,D1.c1,D2.c1⟩)|(with_reducible exact⟨E1.c0,E2.c0,E1.c1,E2.c1⟩)|(with_reducible exact⟨F1.c0,F2.c0,F1.c1,F2.c1⟩)|(simp[F1.c0,F2.c0,F1.c1,F2.c1,go_sem];done))
  (first
   |(go_at_call 172;((with_reducible refine(zi2 L1 L2 _ _ _ _ _ ?_ ?_ Ho1.o Ho2.o hX1 hX2).mono ?_);(omega);(omega));rintro e w2⟨ao,L,cap,hL,rfl,hcap,hUL,hb2⟩;have HL:=hii hL;clear hL;have E1:=D1.mono hb2;have E2:=D2.mono hb2;have E3:=D3.mono hb2)
   |(go_at_call 136;((with_reducible refine(za9 (!(n1==n2)) _ _ _ _ ?_ hcap hUL (hii ?_) (hEx.mono hb2)).mono ?_);(rw[HL.o];exact Nat.le_trans (Bi.limbs_length_le (Bi.val_mul_lt Ho1.o Ho2.o)) oM);(rw[HL.o];exact Bi.limbs_ok _));rintro e w3⟨⟨ng,ao3,n3,cap3,k3,rfl,HR⟩,hb3⟩;have F1:=E1.mono hb3;have F2:=E2.mono hb3;obtain⟨p0,p1,q0,q1⟩:=E3.mono hb3))
 go_wp2;refine bodyPost_ret (v:=.tuple #[.agg #[.bool ng,.slice ao3 n3 cap3],.int .i64 k3]) (by simp[results,Tryz.results138,go_sem,p0,p1]) rfl ⟨⟨ng,ao3,n3,cap3,k3,rfl,hii ?_⟩,?_⟩
 ·have:=HR.o.put2 p0 p1 (.bool ng) (.slice ao3 n3 cap3);rw[HL.o,Bi.val_limbs,HL1.o,HL2.o,Bi.val_limbs,Bi.val_limbs]at this;have h4:sgn (!(n1==n2)) (x.natAbs*y.natAbs)=x*y:=by
   have e1:=zbz x n1 Hn1.o;have e2:=zbz y n2 Hn2.o;rw[<-e1,<-e2,zar,zar];unfold sgn
   cases n1<;>cases n2<;>simp[Int.mul_neg,Int.neg_mul]
  rw[h4]at this;exact this
 ·exact Below.put2 (Below.step (bu hbd hb2) hb3 nl) oM _ _
theorem zh5(w:Wo)(a b c d:Vl)(t:TypeId):∃wx,wx=(w.alloc (.cells #[a,b] t)).alloc (.cells #[c,d] t)/\wx.heap.size=w.heap.size+1+1 /\
  Box wx w.heap.size a b/\Box wx (w.heap.size+1) c d/\BH w wx:=by
 refine⟨_,rfl,sM,?_,?_,?_⟩
 ·exact(Box.new w a b t).mono (bA _ _)
 ·have:=Box.new (w.alloc (.cells #[a,b] t)) c d t
  simpa using this
 ·exact(br.alloc nl _).alloc sM _
def zaB(z:Int):Int:=if z=0 then 0 else if z<0 then -1 else 1
theorem zeX(a:Vl)(x:Int)(w:Wo)(ha:zai w a x) :
  CP 141 #[a] w λe w'=>e=.returned (.int .i64 (zaB x))/\BH w w':=by
 obtain⟨n1,ao1,L1,c1,rfl,Hn1,HL1,HB1,hc1,hl1,hU1⟩:=ha;clear hU1
 by_cases h0:L1=[]
 ·have hx:Hid (zaB x=0):=hii (by
   have h:=HL1.o;rw[h0]at h;have:=Bi.limbs_eq_nil.1 h.symm;unfold zaB;rw[if_pos oM])
  subst h0;clear hc1;go_enter func141,ntmps141;exact dJ
 ·have hL:0<L1.length:=List.length_pos_iff.2 h0;have hx0:x≠0:=by rintro rfl;exact h0 (by rw[HL1.o];rfl)
  have hLz:((L1.length:Int)==0)=false:=by rw[beq_eq_false_iff_ne];omega
  have hx:Hid (zaB x=if n1 then -1 else 1):=hii (by unfold zaB;rw[if_neg hx0,Hn1.o];by_cases h:x<0<;>simp[h])
  cases n1
  all_goals
   go_enter func141,ntmps141;exact dJ
theorem zcg(a:Vl)(x:Int)(w:Wo)(ha:zai w a x) :
  CP 78 #[a] w λe w'=>e=.returned (.int .i64 (zaB x))/\BH w w':=by
 obtain⟨n1,ao1,L1,c1,rfl,Hn1,HL1,HB1,hc1,hl1,hU1⟩:=ha;clear hU1
 by_cases h0:L1=[]
 ·have hx:Hid (zaB x=0):=hii (by
   have h:=HL1.o;rw[h0]at h;have:=Bi.limbs_eq_nil.1 h.symm;unfold zaB;rw[if_pos oM])
  subst h0;clear hc1;go_enter func78,ntmps78;exact dJ
 ·have hL:0<L1.length:=List.length_pos_iff.2 h0;have hx0:x≠0:=by rintro rfl;exact h0 (by rw[HL1.o];rfl)
  have hLz:((L1.length:Int)==0)=false:=by rw[beq_eq_false_iff_ne];omega
  have hx:Hid (zaB x=if n1 then -1 else 1):=hii (by unfold zaB;rw[if_neg hx0,Hn1.o];by_cases h:x<0<;>simp[h])
  cases n1
  all_goals
   go_enter func78,ntmps78;exact dJ
theorem zjR(neg:Bool)(l:LN)(n:Int)(ao:OA)(cap:Nat)(w:Wo) :
  CP 55 #[.agg #[.bool neg,.slice ao l.length cap],.int .i64 n] w λe w'=>e=.returned (.bool (decide ((l.length:Int)<=n)))/\BH w w':=by
 go_enter func55,ntmps55;go_wp2;go_ret;exact⟨rfl,br.alloc nl _⟩
theorem zjU(n1 n2:Bool)(l1 l2:LN)(a1 a2:OA)(c1 c2:Nat)(w:Wo)(_m1:l1.length<=1000000000)(m2:l2.length<=1000000000)(h1:U w a1 l1)(h2:U w a2 l2) :
  CP 35 #[.agg #[.bool n1,.slice a1 l1.length c1],.agg #[.bool n2,.slice a2 l2.length c2]] w λe w'=>(∃r:Bool,Hid (r=true↔n1=n2/\l1=l2)/\e=.returned (.bool r))/\BH w w':=by
 by_cases hn:n1=n2
 ·subst hn;have hnn:(n1==n1)=true:=sM
  by_cases hl:l1.length=l2.length
  ·have hll:((l1.length:Int) != l2.length)=false:=by rw[bne_eq_false_iff_eq];omega
   have HL:=hii hl;have hle:l1.length<=l2.length:=Nat.le_of_eq hl;clear hl;go_enter func35,ntmps35;go_wp2;obtain⟨wx,hwx,_,B1,B2,hbx⟩:=zh5 w (.bool n1) (.slice a1 l1.length c1) (.bool n1) (.slice a2 l2.length c2) 30;rw[<-hwx];have hU1:=h1.mono hbx;have hU2:=h2.mono hbx;clear hwx h1 h2;go_loopw [5] (λs wr=>∃k:Nat,k<=l1.length/\s=.int .i64 k/\Hid (∀j,j<k->l1[j]?=l2[j]?)/\BH wx wr) (λs _=>l1.length-(intOf s).toNat)
   case atStart=>exact⟨0,Nat.zero_le _,rfl,hii (by intro j h;omega),br⟩
   case round=>
    obtain⟨k,hk,rfl,HK,hbr⟩:=hrel;obtain⟨p0,p1,_,_⟩:=B1.mono hbr;obtain⟨q0,q1,_,_⟩:=B2.mono hbr
    by_cases hlt:k<l1.length
    ·obtain⟨x,hx⟩:=zal hlt;obtain⟨y,hy⟩:=zal (l:=l2) (k:=k) oM;obtain⟨b1,o1,rfl,hcx⟩:=(hU1.mono hbr).at' hx;obtain⟨b2,o2,rfl,hcy⟩:=(hU2.mono hbr).at' hy;have HX:=hii hx;have HY:=hii hy;clear hx hy hU1 hU2
     by_cases hxy:x=y
     ·subst hxy;have hb:((x:Int) != (x:Int))=false:=sM;have hlt2:k<l2.length:=oM;go_wp2;go_quiet (fail);go_wp2;go_roundw
      case rel=>
       refine⟨k+1,oM,gM,hii λj hj=>?_,below_drewN hbr _⟩
       by_cases hjk:j=k
       ·subst hjk;rw[HX.o,HY.o]
       ·exact HK.o j oM
      case measure=>exact mM
     ·have hb:((x:Int) != (y:Int))=true:=by rw[bne_iff_ne];omega
      have hlt2:k<l2.length:=oM;have HXY:=hii hxy;clear hxy;go_wp2;go_quiet (fail);go_wp2;go_ret;refine⟨⟨false,hii ?_,rfl⟩,hbx.trans ((below_drewN hbr _).mono hbx.size)⟩;simp only[Bool.false_eq_true,false_iff];rintro⟨_,rfl⟩;exact HXY.o (Option.some.inj (HX.o.symm.trans HY.o))
    ·obtain rfl:k=l1.length:=oM;clear hU1 hU2;go_wp2;go_ret;refine⟨⟨true,hii ?_,rfl⟩,hbx.trans (hbr.mono hbx.size)⟩;simp only[true_iff,true_and];refine List.ext_getElem? λj=>?_
     by_cases hj:j<l1.length
     ·exact HK.o j hj
     ·rw[List.getElem?_eq_none oM,List.getElem?_eq_none (by have:=HL.o;omega)]
  ·have hll:((l1.length:Int) != l2.length)=true:=by rw[bne_iff_ne];omega
   have HL:=hii hl;clear h1 h2 hl;go_enter func35,ntmps35;go_wp2;go_ret;exact⟨⟨false,hii (by simp;rintro rfl;exact HL.o rfl),rfl⟩,(br.alloc nl _).alloc sM _⟩
 ·have hnn:(n1==n2)=false:=by simpa using hn
  have HN:=hii hn;clear h1 h2 hn;go_enter func35,ntmps35;go_wp2;go_ret;exact⟨⟨false,hii (by simp[HN.o]),rfl⟩,(br.alloc nl _).alloc sM _⟩
theorem U.lit3(w:Wo)(Y0 Y1 Y2:Int)(y0 y1 y2:Nat)(t:TypeId)(h0:Y0=(y0:Int))(h1:Y1=(y1:Int))(h2:Y2=(y2:Int)) :
  U (w.alloc (.cells #[.int .u32 Y0,.int .u32 Y1,.int .u32 Y2] t)) (some ⟨w.heap.size,0,none⟩) [y0,y1,y2]:=by
 subst h0;subst h1;subst h2;intro i h
 match i,h with
 |0,_=>exact⟨w.heap.size,0,rfl,by simp[go_sem]⟩
 |1,_=>exact⟨w.heap.size,0,rfl,by simp[go_sem]⟩
 |2,_=>exact⟨w.heap.size,0,rfl,by simp[go_sem]⟩
 |i+3,h=>simp at h;omega
theorem zoM(k:Nat):Bi.val [k % 1000000000,k / 1000000000 % 1000000000,k / 1000000000 / 1000000000]=k:=by
 simp only[Bi.val];omega
theorem ok3{k:Nat}(h:k / 1000000000 / 1000000000<1000000000):Bi.Ok [k % 1000000000,k / 1000000000 % 1000000000,k / 1000000000 / 1000000000]:=by
 intro x hx;simp at hx;rcases hx with rfl|rfl|rfl<;>omega
theorem zdJ{k:Nat}(h:k<=9223372036854775808):k<Bi.Big:=by
 have:9223372036854775808<Bi.Big:=by unfold Bi.Big;decide+kernel
 omega
theorem zjm(g:Nat)(neg:Bool)(Y0 Y1 Y2:Int)(k:Nat)(w:Wo)(hg:w.heap.size=g)(h0:Y0=((k % 1000000000:Nat):Int))(h1:Y1=((k / 1000000000 % 1000000000:Nat):Int))(h2:Y2=((k / 1000000000 / 1000000000:Nat):Int))
  (hk:k<=9223372036854775808)(hE:Env w) :
  CP 136 #[.bool neg,.slice (sD g 0) 3 3] (w.alloc (.cells #[.int .u32 Y0,.int .u32 Y1,.int .u32 Y2] 128)) λe w'=>
   (∃(ng:Bool)(ao:OA)(n cap:Nat),e=.returned (.tuple #[.agg #[.bool ng,.slice ao n cap],.int .i64 0])/\Hid (zai w' (.agg #[.bool ng,.slice ao n cap]) (sgn neg k)))/\BH w w':=by
 subst hg;have hU:=U.lit3 w Y0 Y1 Y2 _ _ _ 128 h0 h1 h2;refine(za9 neg [k % 1000000000,k / 1000000000 % 1000000000,k / 1000000000 / 1000000000] _ 3 _ sM sM hU (hii (ok3 oM)) (hE.mono (bA _ _))).mono ?_;rintro e w1⟨⟨ng,ao,n,cap,k3,rfl,HR⟩,hb⟩;rcases HR.o with⟨_,rfl,hV⟩|⟨h,_⟩
 ·rw[zoM]at hV;exact⟨⟨ng,ao,n,cap,rfl,hii hV⟩,(bA w _).trans (hb.mono (bA w _).size)⟩
 ·rw[zar,zoM]at h;exact absurd (zdJ hk) h
theorem zlP(g:Nat)(neg:Bool)(Y0 Y1 Y2:Int)(k:Nat)(w:Wo)(hg:w.heap.size=g)(h0:Y0=((k % 1000000000:Nat):Int))(h1:Y1=((k / 1000000000 % 1000000000:Nat):Int))(h2:Y2=((k / 1000000000 / 1000000000:Nat):Int))
  (hk:k<=9223372036854775808)(_hE:Env w) :
  CP 80 #[.bool neg,.slice (sD g 0) 3 3] (w.alloc (.cells #[.int .u32 Y0,.int .u32 Y1,.int .u32 Y2] 128)) λe w'=>
   (∃(ng:Bool)(ao:OA)(n cap:Nat),e=.returned (.tuple #[.agg #[.bool ng,.slice ao n cap],.int .i64 0])/\Hid (zai w' (.agg #[.bool ng,.slice ao n cap]) (sgn neg k)))/\BH w w':=by
 subst hg;have hU:=U.lit3 w Y0 Y1 Y2 _ _ _ 128 h0 h1 h2;refine(zbe neg [k % 1000000000,k / 1000000000 % 1000000000,k / 1000000000 / 1000000000] _ 3 _ sM hU (hii (ok3 oM))).mono ?_;rintro e w1⟨⟨ng,ao,n,cap,k3,rfl,HR⟩,hb⟩;rcases HR.o with⟨_,rfl,hV⟩|⟨h,_⟩
 ·rw[zoM]at hV;exact⟨⟨ng,ao,n,cap,rfl,hii hV⟩,(bA w _).trans (hb.mono (bA w _).size)⟩
 ·rw[zar,zoM]at h;exact absurd (zdJ hk) h
theorem zhi(k:Nat)(h1:1<=k)(h2:k<=9223372036854775808):∃m:Nat,IntKind.u64.wrap (-(k:Int))=(m:Int)/\IntKind.u64.wrap (-(m:Int))=(k:Int):=by
 refine⟨18446744073709551616-k,?_,?_⟩<;>(simp only[IntKind.wrap,IntKind.bits,IntKind.signed];simp;omega)
theorem zit(k:Nat)(hk:k<=9223372036854775807)(w:Wo)(hE:Env w) :
  CP 87 #[.int .i64 (k:Int)] w λe w'=>(∃(ng:Bool)(ao:OA)(n cap:Nat),e=.returned (.agg #[.bool ng,.slice ao n cap])/\Hid (zai w' (.agg #[.bool ng,.slice ao n cap]) (k:Int)))/\BH w w':=by
 have hd:decide ((k:Int)<0)=false:=sM;go_enter func87,ntmps87;go_wp2_with fail;(with_reducible refine(zjm _ false _ _ _ k (w.alloc _) ?_ ?_ ?_ ?_ ?_ (hE.mono (bA _ _))).mono ?_)
 ·simp
 ·omega
 ·omega
 ·omega
 ·omega
 rintro e w1⟨⟨ng,ao,n,cap,rfl,HV⟩,hb1⟩;have hB:=(Box.new w bF_ nS_ 30).mono hb1;have hsz:=hB.lt;obtain⟨p0,p1,q0,q1⟩:=hB;go_wp2;refine bodyPost_ret (v:=.agg #[.bool ng,.slice ao n cap]) (by simp[results,Tryz.results87,go_sem,p0,p1,hsz]) rfl ⟨⟨ng,ao,n,cap,rfl,hii ((HV.o.put2 p0 p1 _ _).mono (bA _ _))⟩,?_⟩;exact dD
theorem ziu(k:Nat)(hk1:1<=k)(hk:k<=9223372036854775808)(w:Wo)(hE:Env w) :
  CP 87 #[.int .i64 (-(k:Int))] w λe w'=>(∃(ng:Bool)(ao:OA)(n cap:Nat),e=.returned (.agg #[.bool ng,.slice ao n cap])/\Hid (zai w' (.agg #[.bool ng,.slice ao n cap]) (-(k:Int))))/\BH w w':=by
 obtain⟨m,hm1,hm2⟩:=zhi k hk1 hk;have hd:decide (-(k:Int)<0)=true:=by simp;omega
 have hk2:(k:Int) / 1000000000<=9223372037:=oM;have hK:=hii hk;clear hk;go_enter func87,ntmps87;go_wp2_with fail;(with_reducible refine(zjm _ true _ _ _ k (w.alloc _) ?_ ?_ ?_ ?_ ?_ (hE.mono (bA _ _))).mono ?_)
 ·simp
 ·omega
 ·omega
 ·omega
 ·exact hK.o
 rintro e w1⟨⟨ng,ao,n,cap,rfl,HV⟩,hb1⟩;have hB:=(Box.new w bF_ nS_ 30).mono hb1;have hsz:=hB.lt;obtain⟨p0,p1,q0,q1⟩:=hB;go_wp2;refine bodyPost_ret (v:=.agg #[.bool ng,.slice ao n cap]) (by simp[results,Tryz.results87,go_sem,p0,p1,hsz]) rfl ⟨⟨ng,ao,n,cap,rfl,hii ((HV.o.put2 p0 p1 _ _).mono (bA _ _))⟩,?_⟩;exact dD
theorem zdQ(z:Int)(h0:-9223372036854775808<=z)(h1:z<=9223372036854775807)(w:Wo)(hE:Env w) :
  CP 87 #[.int .i64 z] w λe w'=>(∃(ng:Bool)(ao:OA)(n cap:Nat),e=.returned (.agg #[.bool ng,.slice ao n cap])/\Hid (zai w' (.agg #[.bool ng,.slice ao n cap]) z))/\BH w w':=by
 by_cases hz:z<0
 ·obtain⟨k,rfl⟩:∃k:Nat,z=-(k:Int):=⟨z.natAbs,oM⟩;exact ziu k oM oM w hE
 ·obtain⟨k,rfl⟩:∃k:Nat,z=(k:Int):=⟨z.natAbs,oM⟩;exact zit k oM w hE
theorem zgI(k:Nat)(hk:k<=9223372036854775807)(w:Wo)(hE:Env w) :
  CP 76 #[.int .i64 (k:Int)] w λe w'=>(∃(ng:Bool)(ao:OA)(n cap:Nat),e=.returned (.agg #[.bool ng,.slice ao n cap])/\Hid (zai w' (.agg #[.bool ng,.slice ao n cap]) (k:Int)))/\BH w w':=by
 have hd:decide ((k:Int)<0)=false:=sM;go_enter func76,ntmps76;go_wp2_with fail;(with_reducible refine(zlP _ false _ _ _ k (w.alloc _) ?_ ?_ ?_ ?_ ?_ (hE.mono (bA _ _))).mono ?_)
 ·simp
 ·omega
 ·omega
 ·omega
 ·omega
 rintro e w1⟨⟨ng,ao,n,cap,rfl,HV⟩,hb1⟩;have hB:=(Box.new w bF_ nS_ 30).mono hb1;have hsz:=hB.lt;obtain⟨p0,p1,q0,q1⟩:=hB;go_wp2;refine bodyPost_ret (v:=.agg #[.bool ng,.slice ao n cap]) (by simp[results,Tryz.results76,go_sem,p0,p1,hsz]) rfl ⟨⟨ng,ao,n,cap,rfl,hii ((HV.o.put2 p0 p1 _ _).mono (bA _ _))⟩,?_⟩;exact dD
theorem zgJ(k:Nat)(hk1:1<=k)(hk:k<=9223372036854775808)(w:Wo)(hE:Env w) :
  CP 76 #[.int .i64 (-(k:Int))] w λe w'=>(∃(ng:Bool)(ao:OA)(n cap:Nat),e=.returned (.agg #[.bool ng,.slice ao n cap])/\Hid (zai w' (.agg #[.bool ng,.slice ao n cap]) (-(k:Int))))/\BH w w':=by
 obtain⟨m,hm1,hm2⟩:=zhi k hk1 hk;have hd:decide (-(k:Int)<0)=true:=by simp;omega
 have hk2:(k:Int) / 1000000000<=9223372037:=oM;have hK:=hii hk;clear hk;go_enter func76,ntmps76;go_wp2_with fail;(with_reducible refine(zlP _ true _ _ _ k (w.alloc _) ?_ ?_ ?_ ?_ ?_ (hE.mono (bA _ _))).mono ?_)
 ·simp
 ·omega
 ·omega
 ·omega
 ·exact hK.o
 rintro e w1⟨⟨ng,ao,n,cap,rfl,HV⟩,hb1⟩;have hB:=(Box.new w bF_ nS_ 30).mono hb1;have hsz:=hB.lt;obtain⟨p0,p1,q0,q1⟩:=hB;go_wp2;refine bodyPost_ret (v:=.agg #[.bool ng,.slice ao n cap]) (by simp[results,Tryz.results76,go_sem,p0,p1,hsz]) rfl ⟨⟨ng,ao,n,cap,rfl,hii ((HV.o.put2 p0 p1 _ _).mono (bA _ _))⟩,?_⟩;exact dD
theorem ze1(z:Int)(h0:-9223372036854775808<=z)(h1:z<=9223372036854775807)(w:Wo)(hE:Env w) :
  CP 76 #[.int .i64 z] w λe w'=>(∃(ng:Bool)(ao:OA)(n cap:Nat),e=.returned (.agg #[.bool ng,.slice ao n cap])/\Hid (zai w' (.agg #[.bool ng,.slice ao n cap]) z))/\BH w w':=by
 by_cases hz:z<0
 ·obtain⟨k,rfl⟩:∃k:Nat,z=-(k:Int):=⟨z.natAbs,oM⟩;exact zgJ k oM oM w hE
 ·obtain⟨k,rfl⟩:∃k:Nat,z=(k:Int):=⟨z.natAbs,oM⟩;exact zgI k oM w hE
theorem zgV(a:Vl)(x:Int)(w:Wo)(ha:zai w a x) :
  CP 82 #[a] w λe w'=>(∃(ng:Bool)(ao:OA)(n cap:Nat),e=.returned (.agg #[.bool ng,.slice ao n cap])/\Hid (zai w' (.agg #[.bool ng,.slice ao n cap]) (-x)))/\BH w w':=by
 obtain⟨n1,ao1,L1,c1,rfl,Hn1,HL1,HB1,hc1,hl1,hU1⟩:=ha;go_enter func82,ntmps82;go_wp2_with fail;obtain⟨wx,hwx,hsz,B1,B2,hbx⟩:=zh5 w (.bool n1) (.slice ao1 L1.length c1) bF_ nS_ 30;rw[<-hwx];clear hwx;(with_reducible refine(zbe (!n1) L1 ao1 c1 wx ?_ (hU1.mono hbx) (hii ?_)).mono ?_)
 ·omega
 ·rw[HL1.o];exact eJ
 rintro e w3⟨⟨ng,a3,n3,c3,k3,rfl,HR⟩,hb3⟩;have hB:=B2.mono hb3;have hlt:=hB.lt;obtain⟨p0,p1,q0,q1⟩:=hB;clear hU1;go_wp2;have hV:Hid (zai w3 (.agg #[.bool ng,.slice a3 n3 c3]) (-x)):=hii (by
  have e1:=zbz x n1 Hn1.o;have e2:sgn (!n1) (Bi.val L1)=-x:=by
   rw[HL1.o,Bi.val_limbs,<-e1];rw[zar];unfold sgn;cases n1<;>simp
  rw[e2]at HR;rcases HR.o with⟨_,_,h⟩|⟨h,_⟩
  ·exact h
  ·rw[Int.natAbs_neg]at h;exact absurd HB1.o h)
 refine bodyPost_ret (v:=.agg #[.bool ng,.slice a3 n3 c3]) (by simp[results,Tryz.results82,go_sem,p0,p1,hlt]) rfl ⟨⟨ng,a3,n3,c3,rfl,hii ((hV.o.put2 p0 p1 _ _).mono (bA _ _))⟩,?_⟩;refine(Below.put2 (bu hbx hb3) oM _ _).alloc ?_ _;have:=hb3.size;have:=hbx.size;simp[World.setCell];omega
theorem zfL(u:LN)(v:Nat)(ao:OA)(cap:Nat)(w:Wo)(hm:u.length<=1000000000)(hv0:0<v)(hv:v<1000000000)(ho:Bi.Ok u)(hU:U w ao u) :
  CP 181 #[.slice ao u.length cap,.int .u32 v] w λe w'=>(∃(ao':OA)(L:LN)(cap' r:Nat),Hid (L=Bi.limbs (Bi.val u / v))/\Hid (r=Bi.val u % v)/\r<1000000000/\L.length<=u.length/\L.length<=cap' /\
   e=.returned (.tuple #[.slice ao' L.length cap',.int .u32 r])/\Hid (U w' ao' L))/\BH w w':=by
 go_enter func181,ntmps181;go_wp2_with (at_make;refine za2 _ rfl _ _ rfl w w.heap.size _ _ u.length rfl rfl rfl rfl oM nl br ?_;intro w0 hown0 hb0);go_loopw [7,8] (λs7 s8 wr=>∃(i:Int)(rest:Nat)(q:LN),-1<=i/\i<u.length/\s8=.int .i64 i/\s7=.int .u64 rest/\rest<v/\za8 wr w.heap.size (.slice (some ⟨w.heap.size,0,none⟩) u.length u.length) q/\Bi.Ok q /\
   Hid (Bi.val (q.drop (i+1).toNat)*v+rest=Bi.val (u.drop (i+1).toNat))/\BH w wr) (λ_ s8 _=>(intOf s8+1).toNat)
 case atStart=>
  refine⟨_,0,_,oM,oM,rfl,rfl,hv0,hown0,Bi.Ok.replicate _,hii ?_,hb0⟩;rw[List.drop_eq_nil_of_le sM,List.drop_eq_nil_of_le oM];simp[Bi.val]
 case round=>
  obtain⟨i,rest,q,hi1,hi2,rfl,rfl,hrest,hown,hoq,HI,hbr⟩:=hrel;have HQ:=hii hown.len.1.symm
  by_cases hi:i<0
  ·obtain rfl:i=-1:=oM;clear hU;obtain⟨ao',cap',e1,hcap,hUq⟩:=hown.read;rw[HQ.o]at e1 hcap;simp only[Value.slice.injEq,true_and]at e1;obtain⟨rfl,rfl⟩:=e1;have hql:q.length<=u.length:=Nat.le_of_eq HQ.o;go_wp2_with fail;rw[<-HQ.o];(with_reducible refine(zbR q _ _ _ ?_ ?_ hUq).mono ?_)
   ·omega
   ·exact nl
   rintro e w1⟨L,hL,hLl,rfl,hU',rfl⟩;have HL:=hii hL;clear hL;go_wp2;go_ret2;have h1:=HI.o;simp only[Int.reduceNeg,Int.reduceAdd,Int.toNat_zero,List.drop_zero]at h1;have h2:=Bi.short_end hrest h1;refine⟨⟨_,L,_,rest,hii ?_,hii h2.2,oM,oM,hLl,rfl,hii hU'⟩,hbr⟩;rw[HL.o,Bi.trim_eq_limbs hoq,h2.1]
  ·obtain⟨j,rfl⟩:∃j:Nat,i=(j:Int):=⟨i.toNat,oM⟩;have hj:j<u.length:=oM;obtain⟨x,hx⟩:=zal hj;have bx:=ho.at' hx;obtain⟨b1,o1,rfl,hcx⟩:=(hU.mono hbr).at' hx;have HX:=hii (Bi.getD_of hx);obtain⟨z,hz⟩:=zal (l:=q) (k:=j) (by rw[HQ.o];exact hj);have hcz:=hown.at' hz;have hfz:=hown.free j;clear hx hU hz;have hd:=Bi.short_digit hrest hv bx;have hmod:(rest*1000000000+x) % v<v:=Nat.mod_lt _ hv0;have hR:(((rest:Int)*1000000000+x) / v)=(((rest*1000000000+x) / v:Nat):Int):=sM;have hM:(((rest:Int)*1000000000+x) % v)=(((rest*1000000000+x) % v:Nat):Int):=sM;have HS:=hii (Bi.short_step hv0 hj HQ.o HX.o (by have:=HI.o;rwa [show((j:Int)+1).toNat=j+1 by omega]at this));generalize (rest*1000000000+x) / v=d at hd hR HS;generalize (rest*1000000000+x) % v=m at hmod hM HS;go_wp2;have hown':=hown.set j (d:Int) d rfl;have hb':=hbr.setCell (p:=⟨w.heap.size,j,none⟩) nl (.int .u32 (d:Int));go_roundw
   case rel=>exact⟨(j:Int)-1,m,q.set j d,oM,oM,rfl,by first|rfl|exact congrArg _ hM,hmod,hown',hoq.set _ hd,hii (by rw[show((j:Int)-1+1).toNat=j by omega];exact HS.o),hb'⟩
   case measure=>(simp[intOf];try omega)
theorem zem(u:LN)(d n:Nat)(ao:OA)(cap:Nat)(w:Wo)(_hm:u.length<=1000000000)(hn:n<=1000000000)(hd:d<=1000000000)(ho:Bi.Ok u)(hU:U w ao u)(hfit:Hid (Bi.val u*d<1000000000 ^ n))(hun:u.length<=n) :
  CP 182 #[.slice ao u.length cap,.int .u64 d,.int .i64 n] w λe w'=>(∃(L:LN),L.length=n/\Hid (Bi.val L=Bi.val u*d)/\Bi.Ok L /\
   e=.returned (.slice (some ⟨w.heap.size,0,none⟩) n n)/\za8 w' w.heap.size (.slice (some ⟨w.heap.size,0,none⟩) n n) L)/\BH w w':=by
 go_enter func182,ntmps182;go_wp2_with (at_make;refine za2 _ rfl _ _ rfl w w.heap.size _ _ n rfl rfl rfl rfl oM nl br ?_;intro w0 hown0 hb0);go_loopw [8,14] (λs8 s14 wr=>∃(k c:Nat)(q:LN),k<=n/\s14=.int .i64 k/\s8=.int .u64 c/\c<=1000000000/\za8 wr w.heap.size (.slice (some ⟨w.heap.size,0,none⟩) n n) q/\Bi.Ok q /\
   Hid (Bi.val (q.take k)+1000000000 ^ k*c=Bi.val (u.take k)*d)/\BH w wr) (λ_ s14 _=>n-(intOf s14).toNat)
 case atStart=>exact⟨0,0,_,Nat.zero_le _,rfl,rfl,oM,hown0,Bi.Ok.replicate _,hii (by simp[Bi.val]),hb0⟩
 case round=>
  obtain⟨k,c,q,hk,rfl,rfl,hc,hown,hoq,HI,hbr⟩:=hrel;have HQ:=hii hown.len.1.symm
  by_cases hlt:k<n
  ·obtain⟨z,hz⟩:=zal (l:=q) (k:=k) (by rw[HQ.o];exact hlt);have hcz:=hown.at' hz;have hfz:=hown.free k;clear hz
   by_cases hku:k<u.length
   ·obtain⟨x,hx⟩:=zal hku;have bx:=ho.at' hx;obtain⟨b1,o1,rfl,hcx⟩:=(hU.mono hbr).at' hx;have HX:=hii (Bi.getD_of hx);clear hx hU;obtain⟨m,hm'⟩:∃m:Nat,m=x*d:=⟨_,rfl⟩;have hm2:m<=999999999000000000:=by rw[hm'];exact Nat.le_trans (Nat.mul_le_mul (show x<=999999999 by omega) hd) dM
    have hm3:(x:Int)*(d:Int)=(m:Int):=by rw[hm'];simp
    have HM:=hii hm';clear hm';go_wp2;have hown':=hown.set k (((c:Int)+m) % 1000000000) ((c+m) % 1000000000) oM;have hb':=hbr.setCell (p:=⟨w.heap.size,k,none⟩) nl (.int .u32 (((c:Int)+m) % 1000000000));go_roundw
    case rel=>exact⟨k+1,(c+m) / 1000000000,q.set k ((c+m) % 1000000000),oM,gM,gM,oM,hown',hoq.set _ oM,hii (Bi.scaled_step (by rw[HQ.o];exact hlt) (by rw[HX.o,HM.o]) HI.o),hb'⟩
    case measure=>exact mM
   ·have HX:=hii (Bi.getD_out (l:=u) (k:=k) oM);clear hU;go_wp2;have hown':=hown.set k ((c:Int) % 1000000000) (c % 1000000000) oM;have hb':=hbr.setCell (p:=⟨w.heap.size,k,none⟩) nl (.int .u32 ((c:Int) % 1000000000));go_roundw
    case rel=>exact⟨k+1,c / 1000000000,q.set k (c % 1000000000),oM,gM,gM,oM,hown',hoq.set _ oM,hii (Bi.scaled_step (by rw[HQ.o];exact hlt) (by rw[HX.o];simp) HI.o),hb'⟩
    case measure=>exact mM
  ·obtain rfl:k=n:=oM;clear hU;go_wp2;go_ret;refine⟨⟨q,HQ.o,hii ?_,hoq,rfl,hown⟩,hbr⟩;have h1:=HI.o;rw[List.take_of_length_le (by rw[HQ.o];exact nl),Bi.val_take_all hun]at h1;have h2:=hfit.o;rcases Nat.eq_zero_or_pos c with h0|h0
   ·subst h0;simpa using h1
   ·have:1000000000 ^ k*1<=1000000000 ^ k*c:=Nat.mul_le_mul_left _ h0;omega
end Go.Proofs.YtfgffkmddanjjaaGreatDoor
namespace Bi
theorem ziE{q X Y P top head x2 xl T H yl second:Nat}(hq:q*Y<=X)(hY:Y=T*P+yl)(hT:T=top*1000000000+second)
  (hX:X=H*P+xl)(hxl:xl<P)(hH:H=head*1000000000+x2)(hx2:x2<1000000000):q*top<=head:=by
 have h1:q*(T*P)<=q*Y:=Nat.mul_le_mul_left _ oM;have h2:X<(H+1)*P:=by rw[hX,Nat.add_mul];omega
 have h3:(q*T)*P<(H+1)*P:=by rw[Nat.mul_assoc];omega
 have h4:q*T<H+1:=Nat.lt_of_mul_lt_mul_right h3;have h5:q*(top*1000000000)<=q*T:=Nat.mul_le_mul_left _ oM;have h6:(q*top)*1000000000<(head+1)*1000000000:=by rw[Nat.mul_assoc];omega
 have:=Nat.lt_of_mul_lt_mul_right h6;omega
theorem ziD{q g rest X Y P top head x2 xl T H yl second:Nat}(hq:q*Y<=X)(hXY:X<Y*1000000000)(hY:Y=T*P+yl)(hT:T=top*1000000000+second)
  (hX:X=H*P+xl)(hxl:xl<P)(hH:H=head*1000000000+x2)(hg:g*top+rest=head)
  (hc:1000000000<=g\/rest*1000000000+x2<g*second):q<g:=by
 rcases hc with hc|hc
 ·have h1:q*Y<1000000000*Y:=by rw[Nat.mul_comm 1000000000];omega
  have:=Nat.lt_of_mul_lt_mul_right h1;omega
 ·apply Nat.lt_of_not_le
  intro hle;have h0:g*Y<=X:=Nat.le_trans (Nat.mul_le_mul_right _ hle) hq;have h1:g*(T*P)<=g*Y:=Nat.mul_le_mul_left _ oM;have h2:X<(H+1)*P:=by rw[hX,Nat.add_mul];omega
  have h3:(g*T)*P<(H+1)*P:=by rw[Nat.mul_assoc];omega
  have h4:g*T<H+1:=Nat.lt_of_mul_lt_mul_right h3;have h5:g*T=g*top*1000000000+g*second:=by rw[hT,Nat.mul_add,Nat.mul_assoc]
  have h6:head*1000000000=g*top*1000000000+rest*1000000000:=by rw[<-hg,Nat.add_mul]
  omega
theorem zjL{g rest X Y P top head x2 xl T H yl second:Nat}(hY:Y=T*P+yl)(hyl:yl<P)(hT:T=top*1000000000+second)(hs:second<1000000000)(ht:1<=top)
  (hX:X=H*P+xl)(hH:H=head*1000000000+x2)(hg:g*top+rest=head)(hgB:g<=1000000000)
  (hc:g*second<=rest*1000000000+x2\/1000000000<=rest):(g-1)*Y<=X:=by
 have h5:g*T=g*top*1000000000+g*second:=by rw[hT,Nat.mul_add,Nat.mul_assoc]
 have h6:head*1000000000=g*top*1000000000+rest*1000000000:=by rw[<-hg,Nat.add_mul]
 have h7:g*T<=H:=by
  rcases hc with hc|hc
  ·omega
  ·have:g*second<=1000000000*second:=Nat.mul_le_mul_right _ hgB;have:1000000000*1000000000<=rest*1000000000:=Nat.mul_le_mul_right _ hc;omega
 have h8:Y<=(T+1)*P:=by rw[hY,Nat.add_mul];omega
 have h9:(g-1)*Y<=(g-1)*((T+1)*P):=Nat.mul_le_mul_left _ h8;have h10:(g-1)*(T+1)<=H:=by
  rcases Nat.eq_zero_or_pos g with h0|h0
  ·subst h0;simp
  ·obtain⟨k,rfl⟩:∃k,g=k+1:=⟨g-1,oM⟩;simp only[Nat.add_sub_cancel,Nat.mul_add,Nat.mul_one,Nat.add_mul,Nat.one_mul]at h7|-;omega
 have h11:(g-1)*((T+1)*P)<=H*P:=by rw[<-Nat.mul_assoc];exact Nat.mul_le_mul_right _ h10
 omega
theorem guess_first_le{x0 x1 top:Nat}(hx0:x0<=top)(hx1:x1<1000000000)(ht:500000000<=top):(x0*1000000000+x1) / top<=1000000001:=by
 apply Nat.le_of_lt_succ
 rw[Nat.div_lt_iff_lt_mul oM];omega
theorem zcN{zs:LN}{off k d:Nat}:((zs.set (off+k) d).drop off).take k=(zs.drop off).take k:=by
 apply List.ext_getElem?
 intro j
 by_cases hj:j<k
 ·rw[List.getElem?_take_of_lt hj,List.getElem?_take_of_lt hj,List.getElem?_drop,List.getElem?_drop,List.getElem?_set_ne oM]
 ·rw[List.getElem?_take_eq_none oM,List.getElem?_take_eq_none oM]
theorem zc2{zs:LN}{off k z:Nat}(h:zs[off+k]?=some z):(zs.drop off).getD k 0=z:=by
 rw[List.getD_eq_getElem?_getD,List.getElem?_drop,h];rfl
theorem sub_step{xs zs ys:LN}{off k z d f ca bo ca' bo':Nat}(hz:zs[off+k]?=some z)(hxz:xs[off+k]?=some z)
  (hinv:val ((zs.drop off).take k)+f*val (ys.take k)=val ((xs.drop off).take k)+1000000000 ^ k*(ca+bo))
  (hd:d+f*ys.getD k 0+(ca+bo)=z+1000000000*(ca'+bo')) :
  val (((zs.set (off+k) d).drop off).take (k+1))+f*val (ys.take (k+1))=val ((xs.drop off).take (k+1))+1000000000 ^ (k+1)*(ca'+bo'):=by
 have hlt:off+k<zs.length:=(List.getElem?_eq_some_iff.1 hz).1;rw[zak,zak,zak,zcN,zc2 hxz,zc2 (z:=d) (by rw[List.getElem?_set_self hlt]),Nat.pow_succ,Nat.mul_add f];have h1:1000000000 ^ k*d+1000000000 ^ k*(f*ys.getD k 0)+1000000000 ^ k*(ca+bo)=1000000000 ^ k*z+1000000000 ^ k*1000000000*(ca'+bo'):=by
  rw[Nat.mul_assoc,<-Nat.mul_add,<-Nat.mul_add,<-Nat.mul_add,hd]
 have h2:f*(1000000000 ^ k*ys.getD k 0)=1000000000 ^ k*(f*ys.getD k 0):=by rw[<-Nat.mul_assoc,Nat.mul_comm f,Nat.mul_assoc]
 rw[h2];omega
theorem restore_step{xs zs ys:LN}{off k z d ca ca':Nat}(hz:zs[off+k]?=some z)(hxz:xs[off+k]?=some z)
  (hinv:val ((zs.drop off).take k)+1000000000 ^ k*ca=val ((xs.drop off).take k)+val (ys.take k))
  (hd:d+1000000000*ca'=z+ys.getD k 0+ca) :
  val (((zs.set (off+k) d).drop off).take (k+1))+1000000000 ^ (k+1)*ca'=val ((xs.drop off).take (k+1))+val (ys.take (k+1)):=by
 have hlt:off+k<zs.length:=(List.getElem?_eq_some_iff.1 hz).1;rw[zak,zak,zak,zcN,zc2 hxz,zc2 (z:=d) (by rw[List.getElem?_set_self hlt]),Nat.pow_succ];have h1:1000000000 ^ k*d+1000000000 ^ k*1000000000*ca'=1000000000 ^ k*z+1000000000 ^ k*ys.getD k 0+1000000000 ^ k*ca:=by
  rw[Nat.mul_assoc,<-Nat.mul_add,hd,Nat.mul_add,Nat.mul_add]
 omega
end Bi
namespace Go.Proofs.YtfgffkmddanjjaaGreatDoor
open _root_.Go.Proofs.Tryz
open Go.RowKit
variable {p:Addr} {k:Int} {l:LN} {d g:Nat} {ao:OA} {v:Vl} {a w':Wo}
structure zbl(g:Nat)(w w':Wo):Prop where
 os:w'.os=w.os
 tape:w'.tape=w.tape
 output:w'.output=w.output
 size:w'.heap.size=w.heap.size
 block:∀k,k≠g->w'.heap[k]?=w.heap[k]?
theorem zbl.refl(g:Nat)(w:Wo):zbl g w w:=⟨rfl,rfl,rfl,rfl,λ_ _=>rfl⟩
theorem zbl.trans{b c:Wo}(h:zbl g a b)(k:zbl g b c):zbl g a c :=
 ⟨k.os.trans h.os,k.tape.trans h.tape,k.output.trans h.output,k.size.trans h.size,λi hi=>(k.block i hi).trans (h.block i hi)⟩
theorem zbl.setCell{w:Wo}(h:zbl g a w)(hp:p.block=g)(u:Vl):zbl g a (w.setCell p u) :=
 h.trans ⟨rfl,rfl,rfl,by simp[World.setCell],λk hk=>Below.heap_setCell _ _ _ _ oM⟩
theorem zbl.below{B:Nat}{w:Wo}(h:zbl g w w')(hB:B<=g):Below B w w' :=
 ⟨h.os,h.tape,h.output,Nat.le_of_eq h.size.symm,λk hk=>h.block k oM⟩
theorem zbl.cell{w:Wo}(h:zbl g w w')(hp:p.block≠g):w'.cell? p=w.cell? p:=World.cell?_of_block (w:=w) (h.block p.block hp)
theorem U.touch{w:Wo}(hU:U w ao l)(h:zbl g w w')(hne:∀b off,ao=sD b off->b≠g):U w' ao l:=by
 intro i hi;obtain⟨b,off,e,hc⟩:=hU i hi;exact⟨b,off,e,(h.cell (p:=⟨b,off+i,none⟩) (hne b off e)).trans hc⟩
def zpT(g B N cap off m:Nat)(xs ys:LN)(f:Nat)(e:Ending)(w':Wo):Prop :=
 (∃(zs:LN)(bo:Nat)(q:Bool),zs.length=xs.length/\Bi.Ok zs/\bo<=1/\e=.returned (.bool q)/\Hid (q=true↔bo=1) /\
   Hid (Bi.val ((zs.drop off).take m)+f*Bi.val ys=Bi.val ((xs.drop off).take m)+1000000000 ^ m*bo)/\Hid (∀j,(j<off\/off+m<=j)->zs[j]?=xs[j]?) /\
   za8 w' B (.slice (sD g 0) N cap) zs)
theorem zfF(g B N cap off m c:Nat)(xs ys:LN)(aoy:OA)(cy f:Nat)(w:Wo)(hm:xs.length<=1000000000)(hoff:off+m<=xs.length)(hym:ys.length<m)(hf:f<=1000000000)
  (hox:Bi.Ok xs)(hoy:Bi.Ok ys)(hown:za8 w B (.slice (sD g 0) N cap) xs)(hy:U w aoy ys)(hne:∀b o,aoy=sD b o->b≠g) :
  CP 183 #[.slice (sD g off) m c,.slice aoy ys.length cy,.int .u64 f] w λe w'=>zpT g B N cap off m xs ys f e w'/\zbl g w w':=by
 have HN:=hii hne;clear hne;go_enter func183,ntmps183;go_wp2;go_loopw [7,8,13] (λs7 s8 s13 wr=>∃(k ca bo:Nat)(zs:LN),k<=m/\s13=.int .i64 k/\s7=.int .u64 ca/\s8=.int .i64 bo/\bo<=1/\ca<=f-1/\(ys.length<k->ca=0)/\zs.length=xs.length/\Bi.Ok zs /\
   Hid (Bi.val ((zs.drop off).take k)+f*Bi.val (ys.take k)=Bi.val ((xs.drop off).take k)+1000000000 ^ k*(ca+bo))/\Hid (∀j,(j<off\/off+k<=j)->zs[j]?=xs[j]?) /\
   za8 wr B (.slice (sD g 0) N cap) zs/\zbl g w wr) (λ_ _ s13 _=>m-(intOf s13).toNat)
 case atStart=>exact⟨0,0,0,xs,Nat.zero_le _,rfl,rfl,rfl,oM,oM,λ_=>rfl,rfl,hox,hii (by simp[Bi.val]),hii (λ_ _=>rfl),hown,zbl.refl _ _⟩
 case round=>
  clear hown;obtain⟨k,ca,bo,zs,hk,rfl,rfl,rfl,hbo,hca,hc0,hzl,hoz,HI,HF,hown,htr⟩:=hrel;have HZL:=hii hzl;have hzl2:xs.length<=zs.length:=Nat.le_of_eq hzl.symm;clear hzl
  by_cases hlt:k<m
  ·obtain⟨z,hz⟩:=zal (l:=zs) (k:=off+k) oM;have bz:=hoz.at' hz;have hcz:=hown.at' hz;have hfz:=hown.free (off+k);have HZ:=hii hz;clear hz
   by_cases hky:k<ys.length
   ·obtain⟨y,hyk⟩:=zal hky;have by':=hoy.at' hyk;obtain⟨b2,o2,rfl,hcy⟩:=(hy.touch htr HN.o).at' hyk;have HY:=hii (Bi.getD_of hyk);clear hyk hy;obtain⟨p,hp⟩:∃p:Nat,p=y*f:=⟨_,rfl⟩;have hp2:p<=999999999000000000:=by rw[hp];exact Nat.le_trans (Nat.mul_le_mul (show y<=999999999 by omega) hf) dM
    have hp3:(y:Int)*(f:Int)=(p:Int):=by rw[hp];simp
    have hca2:(ca+p) / 1000000000<=f-1:=by
     rcases Nat.eq_zero_or_pos f with h0|h0
     ·subst h0;simp at hp;omega
     ·apply Nat.le_sub_one_of_lt
      rw[Nat.div_lt_iff_lt_mul dM];have:y*f<=999999999*f:=Nat.mul_le_mul_right _ oM;omega
    have HP:=hii hp;clear hp;have HC:=hii hc0;clear hc0
    by_cases hs:(z:Int)-((ca:Int)+p) % 1000000000-bo<0
    ·go_wp2;have hown':=hown.set (off+k) ((z:Int)-((ca:Int)+p) % 1000000000-bo+1000000000) (z+1000000000-(ca+p) % 1000000000-bo) oM;have htr':=htr.setCell (p:=⟨g,off+k,none⟩) rfl (.int .u32 ((z:Int)-((ca:Int)+p) % 1000000000-bo+1000000000));go_roundw
     case rel=>
      refine⟨k+1,(ca+p) / 1000000000,1,zs.set (off+k) (z+1000000000-(ca+p) % 1000000000-bo),oM,gM,gM,gM,oM,oM,λh=>by omega,by rw[List.length_set];exact HZL.o,hoz.set _ oM,hii (Bi.sub_step HZ.o ((HF.o _ (.inr nl)).symm.trans HZ.o) HI.o ?_),hii λj hj=>?_,hown',htr'⟩
      ·rw[HY.o,Nat.mul_comm f,<-HP.o];omega
      ·exact dG
     case measure=>(simp[intOf];try omega)
    ·go_wp2;have hown':=hown.set (off+k) ((z:Int)-((ca:Int)+p) % 1000000000-bo) (z-(ca+p) % 1000000000-bo) oM;have htr':=htr.setCell (p:=⟨g,off+k,none⟩) rfl (.int .u32 ((z:Int)-((ca:Int)+p) % 1000000000-bo));go_roundw
     case rel=>
      refine⟨k+1,(ca+p) / 1000000000,0,zs.set (off+k) (z-(ca+p) % 1000000000-bo),oM,gM,gM,gM,oM,oM,λh=>by omega,by rw[List.length_set];exact HZL.o,hoz.set _ oM,hii (Bi.sub_step HZ.o ((HF.o _ (.inr nl)).symm.trans HZ.o) HI.o ?_),hii λj hj=>?_,hown',htr'⟩
      ·rw[HY.o,Nat.mul_comm f,<-HP.o];omega
      ·exact dG
     case measure=>(simp[intOf];try omega)
   ·have HY:=hii (Bi.getD_out (l:=ys) (k:=k) oM);have hca9:ca<1000000000:=oM;have HC:=hii hc0;clear hc0 hy
    by_cases hs:(z:Int)-(ca:Int) % 1000000000-bo<0
    ·go_wp2;have hown':=hown.set (off+k) ((z:Int)-(ca:Int) % 1000000000-bo+1000000000) (z+1000000000-ca-bo) oM;have htr':=htr.setCell (p:=⟨g,off+k,none⟩) rfl (.int .u32 ((z:Int)-(ca:Int) % 1000000000-bo+1000000000));go_roundw
     case rel=>
      refine⟨k+1,0,1,zs.set (off+k) (z+1000000000-ca-bo),oM,gM,gM,gM,oM,oM,λ_=>rfl,by rw[List.length_set];exact HZL.o,hoz.set _ oM,hii (Bi.sub_step HZ.o ((HF.o _ (.inr nl)).symm.trans HZ.o) HI.o ?_),hii λj hj=>?_,hown',htr'⟩
      ·rw[HY.o];omega
      ·exact dG
     case measure=>(simp[intOf];try omega)
    ·go_wp2;have hown':=hown.set (off+k) ((z:Int)-(ca:Int) % 1000000000-bo) (z-ca-bo) oM;have htr':=htr.setCell (p:=⟨g,off+k,none⟩) rfl (.int .u32 ((z:Int)-(ca:Int) % 1000000000-bo));go_roundw
     case rel=>
      refine⟨k+1,0,0,zs.set (off+k) (z-ca-bo),oM,gM,gM,gM,oM,oM,λ_=>rfl,by rw[List.length_set];exact HZL.o,hoz.set _ oM,hii (Bi.sub_step HZ.o ((HF.o _ (.inr nl)).symm.trans HZ.o) HI.o ?_),hii λj hj=>?_,hown',htr'⟩
      ·rw[HY.o];omega
      ·exact dG
     case measure=>(simp[intOf];try omega)
  ·obtain rfl:k=m:=oM;obtain rfl:ca=0:=hc0 hym;clear hy;rcases (show bo=0\/bo=1 by omega)with rfl|rfl
   all_goals
    go_wp2;go_ret;refine⟨⟨zs,_,_,HZL.o,hoz,hbo,rfl,hii sM,hii ?_,HF,hown⟩,htr⟩;have h1:=HI.o;rw[Bi.val_take_all (l:=ys) oM]at h1
    simpa using h1
def zpe(g B N cap off m:Nat)(xs ys:LN)(e:Ending)(w':Wo):Prop :=
 ∃(zs:LN)(ca:Nat),zs.length=xs.length/\Bi.Ok zs/\ca<=1/\e=.returned (.tuple #[]) /\
  Hid (Bi.val ((zs.drop off).take m)+1000000000 ^ m*ca=Bi.val ((xs.drop off).take m)+Bi.val ys)/\Hid (∀j,(j<off\/off+m<=j)->zs[j]?=xs[j]?) /\
  za8 w' B (.slice (sD g 0) N cap) zs
theorem zgK(g B N cap off m c:Nat)(xs ys:LN)(aoy:OA)(cy:Nat)(w:Wo)(hm:xs.length<=1000000000)(hoff:off+m<=xs.length)(hym:ys.length<=m)
  (hox:Bi.Ok xs)(hoy:Bi.Ok ys)(hown:za8 w B (.slice (sD g 0) N cap) xs)(hy:U w aoy ys)(hne:∀b o,aoy=sD b o->b≠g) :
  CP 184 #[.slice (sD g off) m c,.slice aoy ys.length cy] w λe w'=>zpe g B N cap off m xs ys e w'/\zbl g w w':=by
 have HN:=hii hne;clear hne;go_enter func184,ntmps184;go_wp2;go_loopw [4,9] (λs4 s9 wr=>∃(k ca:Nat)(zs:LN),k<=m/\s9=.int .i64 k/\s4=.int .u32 ca/\ca<=1/\zs.length=xs.length/\Bi.Ok zs /\
   Hid (Bi.val ((zs.drop off).take k)+1000000000 ^ k*ca=Bi.val ((xs.drop off).take k)+Bi.val (ys.take k))/\Hid (∀j,(j<off\/off+k<=j)->zs[j]?=xs[j]?) /\
   za8 wr B (.slice (sD g 0) N cap) zs/\zbl g w wr) (λ_ s9 _=>m-(intOf s9).toNat)
 case atStart=>exact⟨0,0,xs,Nat.zero_le _,rfl,rfl,oM,rfl,hox,hii (by simp[Bi.val]),hii (λ_ _=>rfl),hown,zbl.refl _ _⟩
 case round=>
  clear hown;obtain⟨k,ca,zs,hk,rfl,rfl,hca,hzl,hoz,HI,HF,hown,htr⟩:=hrel;have HZL:=hii hzl;have hzl2:xs.length<=zs.length:=Nat.le_of_eq hzl.symm;clear hzl
  by_cases hlt:k<m
  ·obtain⟨z,hz⟩:=zal (l:=zs) (k:=off+k) oM;have bz:=hoz.at' hz;have hcz:=hown.at' hz;have hfz:=hown.free (off+k);have HZ:=hii hz;clear hz
   by_cases hky:k<ys.length
   ·obtain⟨y,hyk⟩:=zal hky;have by':=hoy.at' hyk;obtain⟨b2,o2,rfl,hcy⟩:=(hy.touch htr HN.o).at' hyk;have HY:=hii (Bi.getD_of hyk);clear hyk hy
    by_cases hs:(1000000000:Int)<=(z:Int)+ca+y
    ·go_wp2;have hown':=hown.set (off+k) ((z:Int)+ca+y-1000000000) (z+ca+y-1000000000) oM;have htr':=htr.setCell (p:=⟨g,off+k,none⟩) rfl (.int .u32 ((z:Int)+ca+y-1000000000));go_roundw
     case rel=>
      refine⟨k+1,1,zs.set (off+k) (z+ca+y-1000000000),oM,gM,gM,oM,by rw[List.length_set];exact HZL.o,hoz.set _ oM,hii (Bi.restore_step HZ.o ((HF.o _ (.inr nl)).symm.trans HZ.o) HI.o ?_),hii λj hj=>?_,hown',htr'⟩
      ·rw[HY.o];omega
      ·exact dG
     case measure=>(simp[intOf];try omega)
    ·go_wp2;have hown':=hown.set (off+k) ((z:Int)+ca+y) (z+ca+y) oM;have htr':=htr.setCell (p:=⟨g,off+k,none⟩) rfl (.int .u32 ((z:Int)+ca+y));go_roundw
     case rel=>
      refine⟨k+1,0,zs.set (off+k) (z+ca+y),oM,gM,gM,oM,by rw[List.length_set];exact HZL.o,hoz.set _ oM,hii (Bi.restore_step HZ.o ((HF.o _ (.inr nl)).symm.trans HZ.o) HI.o ?_),hii λj hj=>?_,hown',htr'⟩
      ·rw[HY.o];omega
      ·exact dG
     case measure=>(simp[intOf];try omega)
   ·have HY:=hii (Bi.getD_out (l:=ys) (k:=k) oM);clear hy
    by_cases hs:(1000000000:Int)<=(z:Int)+ca
    ·go_wp2;have hown':=hown.set (off+k) ((z:Int)+ca-1000000000) (z+ca-1000000000) oM;have htr':=htr.setCell (p:=⟨g,off+k,none⟩) rfl (.int .u32 ((z:Int)+ca-1000000000));go_roundw
     case rel=>
      refine⟨k+1,1,zs.set (off+k) (z+ca-1000000000),oM,gM,gM,oM,by rw[List.length_set];exact HZL.o,hoz.set _ oM,hii (Bi.restore_step HZ.o ((HF.o _ (.inr nl)).symm.trans HZ.o) HI.o ?_),hii λj hj=>?_,hown',htr'⟩
      ·rw[HY.o];omega
      ·exact dG
     case measure=>(simp[intOf];try omega)
    ·go_wp2;have hown':=hown.set (off+k) ((z:Int)+ca) (z+ca) oM;have htr':=htr.setCell (p:=⟨g,off+k,none⟩) rfl (.int .u32 ((z:Int)+ca));go_roundw
     case rel=>
      refine⟨k+1,0,zs.set (off+k) (z+ca),oM,gM,gM,oM,by rw[List.length_set];exact HZL.o,hoz.set _ oM,hii (Bi.restore_step HZ.o ((HF.o _ (.inr nl)).symm.trans HZ.o) HI.o ?_),hii λj hj=>?_,hown',htr'⟩
      ·rw[HY.o];omega
      ·exact dG
     case measure=>(simp[intOf];try omega)
  ·obtain rfl:k=m:=oM;clear hy;go_wp2;go_end0;refine⟨⟨zs,ca,HZL.o,hoz,hca,rfl,hii ?_,HF,hown⟩,htr⟩;have h1:=HI.o;rw[Bi.val_take_all (l:=ys) hym]at h1;exact h1
theorem zd1(l:LN)(ao:OA)(cap:Nat)(w:Wo)(hm:l.length<=1000000000)(hU:U w ao l) :
  CP 161 #[.slice ao l.length cap] w λe w'=>(∃(a2:OA)(c2:Nat),e=.returned (.slice a2 l.length c2)/\l.length<=c2/\Hid (U w' a2 l))/\BH w w':=by
 cases ao with
 |none=>
  have hl:l=[]:=by
   cases l with
   |nil=>rfl
   |cons x r=>obtain⟨b,off,e,_⟩:=hU 0 sM;cases e
  subst hl;have hn:=λw:Wo=>Lib.run_eql_slice_nil (P:=Tryz.prog) w 28 128 none 0 cap 0 0 Tryz.underlying28
  simp only[Option.isNone_none]at hn;go_enter func161,ntmps161;go_wp2;go_ret;exact⟨⟨none,0,rfl,nl,hii (U.nil _ _)⟩,br⟩
 |some a=>
  have hn:=λw:Wo=>Lib.run_eql_slice_nil (P:=Tryz.prog) w 28 128 (some a) l.length cap 0 0 Tryz.underlying28
  simp only[Option.isNone_some]at hn;have hown:=za8.lit0 w w.heap.size nl;have hUx:=hU.mono (bA w (.cells #[] 128));go_enter func161,ntmps161;go_wp2_with (at_builtin;refine zcH _ rfl _ _ rfl w w.heap.size _ [] rfl hown sM (bA w _) (some a) cap l rfl hUx (by simp;omega) ?_;intro v' w1 hown1 hb1);obtain⟨a2,c2,rfl,hc2,hU2⟩:=hown1.read;simp only[List.nil_append]at hc2 hU2;go_ret;exact⟨⟨a2,c2,rfl,hc2,hii hU2⟩,hb1⟩
def zoG(w':Wo)(m n:Nat)(e:Ending):Prop :=
 ∃(a1 a2:OA)(Q R:LN)(c1 c2:Nat),Hid (Q=Bi.limbs (m / n))/\Hid (R=Bi.limbs (m % n))/\Q.length<=c1/\R.length<=c2 /\
  e=.returned (.tuple #[.slice a1 Q.length c1,.slice a2 R.length c2])/\Hid (U w' a1 Q)/\Hid (U w' a2 R)
theorem zjY(m n:Nat)(u v:LN)(Hu:Hid (u=Bi.limbs m))(Hv:Hid (v=Bi.limbs n))(au av:OA)(cu cv:Nat)(w:Wo)(hmu:u.length<=1000000000)(hmv:v.length<=1000000000)(hlt:Hid (m<n))
  (hu:U w au u)(hv:U w av v) :
  CP 162 #[.slice au u.length cu,.slice av v.length cv] w λe w'=>zoG w' m n e/\BH w w':=by
 go_enter func162,ntmps162;go_wp2_with fail;(with_reducible refine(zbj m n u v Hu Hv au av cu cv w ?_ ?_ hu hv).mono ?_)
 ·omega
 ·omega
 rintro e w1⟨rfl,hb1⟩;have hcmp:zbm m n<0:=by have:=hlt.o;unfold zbm;rw[if_pos this];decide
 have hu1:=hu.mono hb1;clear hu hv;go_wp2_with fail;(with_reducible refine(zd1 u au cu w1 ?_ hu1).mono ?_)
 ·omega
 rintro e w2⟨⟨a2,c2,rfl,hc2,HU2⟩,hb2⟩;go_wp2;go_ret2;exact⟨⟨none,a2,[],u,0,c2,hii (by rw[Nat.div_eq_of_lt hlt.o];rfl),hii (by rw[Nat.mod_eq_of_lt hlt.o];exact Hu.o),nl,hc2,rfl,hii (U.nil _ _),HU2⟩,bu hb1 hb2⟩
theorem U.lit1(w:Wo)(Y:Int)(y:Nat)(t:TypeId)(h0:Y=(y:Int)):U (w.alloc (.cells #[.int .u32 Y] t)) (some ⟨w.heap.size,0,none⟩) [y]:=by
 subst h0;intro i h
 match i,h with
 |0,_=>exact⟨w.heap.size,0,rfl,by simp[go_sem]⟩
 |i+1,h=>simp at h
theorem zoX(w:Wo)(g:Nat)(hg:w.heap.size=g)(r:Nat)(hr:r<1000000000) :
  CP 171 #[.slice (sD g 0) 1 1] (w.alloc (.cells #[.int .u32 (r:Int)] 128)) λe w'=>(∃(a2:OA)(c2:Nat)(L:LN),Hid (L=Bi.limbs r)/\e=.returned (.slice a2 L.length c2)/\L.length<=c2/\L.length<=1/\Hid (U w' a2 L))/\BH w w':=by
 subst hg;refine(zbR [r] (some ⟨w.heap.size,0,none⟩) 1 _ sM sM (U.lit1 w r r 128 rfl)).mono ?_;rintro e w'⟨L,hL,hl,rfl,hU,rfl⟩;have hok:Bi.Ok [r]:=Bi.Ok.cons hr Bi.Ok.nil;refine⟨⟨_,1,L,hii ?_,rfl,by simpa using hl,by simpa using hl,hii hU⟩,bA _ _⟩;rw[hL,Bi.trim_eq_limbs hok];simp[Bi.val]
theorem ziH(m n:Nat)(u:LN)(Hu:Hid (u=Bi.limbs m))(au av:OA)(cu cv:Nat)(w:Wo)(hmu:u.length<=1000000000)(hn0:0<n)(hn:n<1000000000)(hle:Hid (n<=m))
  (hu:U w au u)(hv:U w av [n]) :
  CP 162 #[.slice au u.length cu,.slice av 1 cv] w λe w'=>zoG w' m n e/\BH w w':=by
 have Hv:Hid ([n]=Bi.limbs n):=hii (by have:=Bi.limbs_cons (x:=n) (n:=0) hn oM;simpa [Bi.limbs_zero]using this.symm);have Ho:Hid (Bi.Ok u):=hii (by rw[Hu.o];exact Bi.limbs_ok _);have Hval:Hid (Bi.val u=m):=hii (by rw[Hu.o,Bi.val_limbs]);go_enter func162,ntmps162;go_wp2_with fail;have hc:=zbj m n u [n] Hu Hv au av cu cv w oM sM hu hv;rw[List.length_singleton]at hc;(with_reducible refine hc.mono ?_);clear hc;rintro e w1⟨rfl,hb1⟩;have hcmp:¬zbm m n<0:=by have:=hle.o;unfold zbm;rw[if_neg oM];split<;>omega
 have hu1:=hu.mono hb1;obtain⟨b1,o1,rfl,hcv⟩:=(hv.mono hb1).at' (k:=0) (x:=n) rfl;rw[Nat.add_zero]at hcv;clear hu hv;go_wp2_with fail;(with_reducible refine(zfL u n au cu w1 ?_ hn0 hn Ho.o hu1).mono ?_)
 ·omega
 rintro e w2⟨⟨a2,L,c2,r,HL,HR,hr,hl,hc2,rfl,HU2⟩,hb2⟩;go_wp2_with fail;go_fit (zoX w2 _ rfl r hr);rintro e w3⟨⟨a3,c3,R,HR3,rfl,hc3,hl3,HU3⟩,hb3⟩;go_wp2;go_ret2;refine⟨⟨a2,a3,L,R,c2,c3,hii ?_,hii ?_,hc2,hc3,rfl,hii (HU2.o.mono hb3),HU3⟩,Below.step (bu hb1 hb2) hb3 nl⟩
 ·rw[HL.o,Hval.o]
 ·rw[HR3.o,HR.o,Hval.o]
end Go.Proofs.YtfgffkmddanjjaaGreatDoor
namespace Bi
theorem zlc{t:Nat}(h1:1<=t)(h2:t<1000000000):500000000<=t*(1000000000 / (t+1)):=by
 have hd:1<=1000000000 / (t+1):=by
  rw[Nat.le_div_iff_mul_le oM];omega
 generalize hD:1000000000 / (t+1)=d at*;have h3:1000000000<(d+1)*(t+1):=by
  have:=Nat.lt_mul_div_succ 1000000000 (show 0<t+1 by omega);rw[hD]at this;rw[Nat.mul_comm];exact this
 rw[Nat.add_mul,Nat.one_mul,Nat.mul_add,Nat.mul_one]at h3;have h4:d+t<=d*t+1:=by
  obtain⟨a,rfl⟩:∃a,d=a+1:=⟨d-1,oM⟩;obtain⟨b,rfl⟩:∃b,t=b+1:=⟨t-1,oM⟩;rw[Nat.add_mul,Nat.mul_add];have:0<=a*b:=Nat.zero_le _;omega
 have h5:t*d=d*t:=Nat.mul_comm _ _;omega
theorem zcK(l:LN)(k:Nat)(h:k<=l.length):val l=val (l.take k)+1000000000 ^ k*val (l.drop k):=by
 have:=zcl (l.take k) (l.drop k);rw[List.take_append_drop,List.length_take,Nat.min_eq_left h]at this;exact this
theorem zeO{l:LN}{n x:Nat}(hl:l.length=n+1)(hx:l[n]?=some x):val l=val (l.take n)+1000000000 ^ n*x:=by
 rw[zcK l n oM];have:l.drop n=[x]:=by
  obtain⟨h,e⟩:=List.getElem?_eq_some_iff.1 hx;rw[List.drop_eq_getElem_cons h,e,List.drop_eq_nil_of_le oM]
 rw[this];simp[val]
theorem zbv{l:LN}(ho:Ok l){k:Nat}(h:k<=l.length):val (l.take k)<1000000000 ^ k:=by
 have:=val_lt (ho.take k)
 rwa [List.length_take,Nat.min_eq_left h]at this
theorem norm_fit{v:LN}{n t:Nat}(ho:Ok v)(hl:v.length=n+1)(ht:v[n]?=some t):val v*(1000000000 / (t+1))<1000000000 ^ (n+1):=by
 have h1:=zbv ho (k:=n) oM;rw[zeO hl ht,Nat.pow_succ];have h2:(1000000000 / (t+1))*(t+1)<=1000000000:=Nat.div_mul_le_self _ _;have hd:1<=1000000000 / (t+1):=by
  have:=ho.at' ht;rw[Nat.le_div_iff_mul_le oM];omega
 generalize 1000000000 / (t+1)=d at*;have h3:(val (v.take n)+1000000000 ^ n*t)*d<(1000000000 ^ n*(t+1))*d:=by
  apply Nat.mul_lt_mul_of_pos_right _ hd
  rw[Nat.mul_add];omega
 have h4:(1000000000 ^ n*(t+1))*d<=1000000000 ^ n*1000000000:=by
  rw[Nat.mul_assoc,Nat.mul_comm (t+1)];exact Nat.mul_le_mul_left _ h2
 omega
theorem norm_half{v ys:LN}{n t y:Nat}(ho:Ok v)(hoy:Ok ys)(hl:v.length=n+1)(hly:ys.length=n+1)(ht:v[n]?=some t)(ht0:t≠0)(hy:ys[n]?=some y)(hv:val ys=val v*(1000000000 / (t+1))):500000000<=y:=by
 have h1:=zlc (t:=t) oM (ho.at' ht);have h2:=zbv hoy (k:=n) oM;rw[zeO hly hy,zeO hl ht,Nat.add_mul]at hv;generalize 1000000000 / (t+1)=d at*;have h3:1000000000 ^ n*(t*d)<1000000000 ^ n*(y+1):=by
  rw[Nat.mul_add,<-Nat.mul_assoc];omega
 have:=Nat.lt_of_mul_lt_mul_left h3;omega
theorem zeP{l:LN}{j m:Nat}(h:j+m<=l.length):val l=val (l.take j)+1000000000 ^ j*val ((l.drop j).take m)+1000000000 ^ (j+m)*val (l.drop (j+m)):=by
 rw[zcK l j oM,zcK (l.drop j) m (by simp;omega),List.drop_drop,Nat.mul_add,<-Nat.mul_assoc,<-Nat.pow_add];omega
theorem zkV{l:LN}{j m P:Nat}(h:j+m<=l.length)(hlt:val l<P)(hP:P<=1000000000 ^ (j+m)):val (l.drop (j+m))=0:=by
 have h1:=zeP h;rcases Nat.eq_zero_or_pos (val (l.drop (j+m)))with h0|h0
 ·exact h0
 ·have:1000000000 ^ (j+m)*1<=1000000000 ^ (j+m)*val (l.drop (j+m)):=Nat.mul_le_mul_left _ h0;omega
theorem zfN{a b:LN}{k:Nat}(h:∀j,k<=j->a[j]?=b[j]?):a.drop k=b.drop k:=by
 apply List.ext_getElem?
 intro j;rw[List.getElem?_drop,List.getElem?_drop];exact h _ oM
theorem zji{a b:LN}{k:Nat}(h:∀j,j<k->a[j]?=b[j]?):a.take k=b.take k:=by
 apply List.ext_getElem?
 intro j
 by_cases hj:j<k
 ·rw[List.getElem?_take_of_lt hj,List.getElem?_take_of_lt hj];exact h j hj
 ·rw[List.getElem?_take_eq_none oM,List.getElem?_take_eq_none oM]
theorem ziY{l:LN}{n x0 x1 x2:Nat}(hl:l.length=n+3)(h0:l[n+2]?=some x0)(h1:l[n+1]?=some x1)(h2:l[n]?=some x2) :
  val l=((x0*1000000000+x1)*1000000000+x2)*1000000000 ^ n+val (l.take n):=by
 have e:=zak l n;have e1:=zak l (n+1);have e2:=zak l (n+2);rw[getD_of h2]at e;rw[getD_of h1,Nat.pow_succ]at e1;rw[getD_of h0,Nat.pow_succ,Nat.pow_succ]at e2;rw[List.take_of_length_le oM]at e2;rw[e2,e1,e,Nat.add_mul,Nat.add_mul,Nat.add_mul];have a1:x0*1000000000*1000000000*1000000000 ^ n=1000000000 ^ n*1000000000*1000000000*x0:=by
  rw[Nat.mul_comm,Nat.mul_comm x0,Nat.mul_comm (1000000000*x0),<-Nat.mul_assoc,<-Nat.mul_assoc]
 have a2:x1*1000000000*1000000000 ^ n=1000000000 ^ n*1000000000*x1:=by
  rw[Nat.mul_comm,Nat.mul_comm x1,<-Nat.mul_assoc]
 have a3:x2*1000000000 ^ n=1000000000 ^ n*x2:=Nat.mul_comm _ _;omega
theorem zmh{l:LN}{n x0 x1:Nat}(hl:l.length=n+2)(h0:l[n+1]?=some x0)(h1:l[n]?=some x1) :
  val l=(x0*1000000000+x1)*1000000000 ^ n+val (l.take n):=by
 have e:=zak l n;have e1:=zak l (n+1);rw[getD_of h1]at e;rw[getD_of h0,Nat.pow_succ]at e1;rw[List.take_of_length_le oM]at e1;rw[e1,e,Nat.add_mul];have a2:x0*1000000000*1000000000 ^ n=1000000000 ^ n*1000000000*x0:=by
  rw[Nat.mul_comm,Nat.mul_comm x0,<-Nat.mul_assoc]
 have a3:x1*1000000000 ^ n=1000000000 ^ n*x1:=Nat.mul_comm _ _;omega
theorem zjZ{u v:LN}{k M t d:Nat}(hou:Ok u)(hul:u.length=M+(k+2))(hvl:v.length=k+2)(ht:v[k+1]?=some t)(ht0:t≠0)(hd:1<=d):val u*d<val v*d*1000000000 ^ (M+1):=by
 rw[Nat.mul_assoc,Nat.mul_comm d,<-Nat.mul_assoc]
 apply Nat.mul_lt_mul_of_pos_right _ hd
 have h1:=val_lt hou;rw[hul,show M+(k+2)=(k+1)+(M+1) by omega,Nat.pow_add]at h1;have h2:1000000000 ^ (k+1)*1<=val v:=by
  rw[zeO (n:=k+1) hvl ht];have:1000000000 ^ (k+1)*1<=1000000000 ^ (k+1)*t:=Nat.mul_le_mul_left _ oM;omega
 have h3:=Nat.mul_le_mul_right (1000000000 ^ (M+1)) h2;rw[Nat.mul_one]at h3;omega
theorem div_begin{xs ys:LN}{J L V:Nat}(hJ:L<=J)(hx:val xs=V):val xs+val ys*(1000000000 ^ J*val ((List.replicate L 0).drop J))=V:=by
 rw[List.drop_eq_nil_of_le (by simpa using hJ)];simp[val,hx]
theorem div_start'{u v xs ys:LN}{k M t d J:Nat}(hou:Ok u)(hul:u.length=M+(k+2))(hvl:v.length=k+2)(ht:v[k+1]?=some t)(ht0:t≠0)(hd:1<=d)(hx:val xs=val u*d)(hy:val ys=val v*d)(hJ:J=M+1) :
  val xs<val ys*1000000000 ^ J:=by
 rw[hx,hy,hJ];exact zjZ hou hul hvl ht ht0 hd
theorem div_end{Z Q m n d:Nat}(hd:1<=d)(h1:Z+n*d*Q=m*d)(h2:Z<n*d):Q=m / n/\Z / d=m % n:=by
 have hn:0<n:=by
  rcases Nat.eq_zero_or_pos n with h|h
  ·subst h;simp at h2
  ·exact h
 have e1:n*d*Q=(n*Q)*d:=by rw[Nat.mul_assoc,Nat.mul_comm d,<-Nat.mul_assoc]
 rw[e1]at h1;have h3:n*Q<=m:=by
  apply Nat.le_of_mul_le_mul_right _ (show 0<d by omega)
  omega
 obtain⟨r,rfl⟩:∃r,m=n*Q+r:=⟨m-n*Q,oM⟩;rw[Nat.add_mul]at h1;have hZ:Z=r*d:=oM;have hr:r<n:=by
  rw[hZ]at h2;exact Nat.lt_of_mul_lt_mul_right h2
 subst hZ;rw[Nat.mul_add_div hn,Nat.div_eq_of_lt hr,Nat.mul_add_mod,Nat.mod_eq_of_lt hr,Nat.mul_div_cancel _ oM];exact⟨oM,rfl⟩
theorem val_take_small{l:LN}{k:Nat}(hk:k<=l.length)(h:val l<1000000000 ^ k):val (l.take k)=val l:=by
 have h1:=zcK l k hk;rcases Nat.eq_zero_or_pos (val (l.drop k))with h0|h0
 ·rw[h0]at h1;omega
 ·have:1000000000 ^ k*1<=1000000000 ^ k*val (l.drop k):=Nat.mul_le_mul_left _ h0;omega
end Bi
