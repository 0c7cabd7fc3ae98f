/-
  Fractions in lowest terms, plain: the ways of the program and of the reference to them are those of Rat.
-/
import Derived.Test.YtfgffkmddanjjaaGreatDoorI2
import Derived.Test.YtfgffkmddanjjaaGreatDoorI8
import Derived.RegionTactic
import Derived.BigRegion
import Derived.Deep.RegionHeld3
import Derived.Deep.RegionWith
import Derived.Shelf.Abstract
set_option linter.unusedVariables false
set_option linter.unusedSimpArgs false
set_option maxRecDepth 100000
set_option maxHeartbeats 25600000
namespace Rq
def Sm (z:Int):Prop:=z.natAbs < Bi.Big
theorem sm_neg {z:Int} (h:z.natAbs < Bi.Big):Sm (0 - z):=by unfold Sm; rw [Int.zero_sub,Int.natAbs_neg]; exact h
def gS (p q:Int):Int:=if q < 0 then 0 - (Int.gcd p q:Int) else Int.gcd p q
theorem gcd_pos {p q:Int} (hq:q ≠ 0):0 < (Int.gcd p q:Int):=by
 have:=Int.gcd_pos_of_ne_zero_right p hq;omega
theorem num_of {p q:Int} (hq:q ≠ 0):p.tdiv (gS p q)=(Rat.divInt p q).num:=by
 have hd:(Int.gcd p q:Int) ∣ p:=Int.gcd_dvd_left p q;have hg:=gcd_pos (p:=p) hq;rw [Rat.num_divInt,Int.gcd_comm q p];unfold gS
 split
 ·rename_i h
  rw [Int.sign_eq_neg_one_of_neg h,Int.zero_sub,Int.tdiv_neg,Int.tdiv_eq_ediv_of_dvd hd,Int.neg_mul,Int.one_mul,Int.neg_ediv_of_dvd hd]
 ·rename_i h
  rw [Int.sign_eq_one_of_pos (by omega),Int.one_mul,Int.tdiv_eq_ediv_of_dvd hd]
theorem den_of {p q:Int} (hq:q ≠ 0):q.tdiv (gS p q)=((Rat.divInt p q).den:Int):=by
 have hd:(Int.gcd p q:Int) ∣ q:=Int.gcd_dvd_right p q;rw [Rat.den_divInt,if_neg hq,Int.gcd_comm q p];unfold gS;rw [Int.natCast_ediv]
 split
 ·rename_i h
  rw [Int.zero_sub,Int.tdiv_neg,Int.tdiv_eq_ediv_of_dvd hd,show ((q.natAbs:Nat):Int)=-q by omega,Int.neg_ediv_of_dvd hd]
 ·rename_i h
  rw [Int.tdiv_eq_ediv_of_dvd hd,show ((q.natAbs:Nat):Int)=q by omega]
theorem rnum_of {p q:Int} (hq:q < 0):(-p).tdiv (Int.gcd (-p) (-q):Int)=(Rat.divInt p q).num:=by
 rw [<- Rat.neg_divInt_neg,<- num_of (by omega)];unfold gS;rw [if_neg (by omega)]
theorem rden_of {p q:Int} (hq:q < 0):(-q).tdiv (Int.gcd (-p) (-q):Int)=((Rat.divInt p q).den:Int):=by
 rw [<- Rat.neg_divInt_neg,<- den_of (by omega)];unfold gS;rw [if_neg (by omega)]
theorem num_pos {p q:Int} (hq:0 < q):p.tdiv (Int.gcd p q:Int)=(Rat.divInt p q).num:=by
 rw [<- num_of (by omega)]; unfold gS; rw [if_neg (by omega)]
theorem den_pos {p q:Int} (hq:0 < q):q.tdiv (Int.gcd p q:Int)=((Rat.divInt p q).den:Int):=by
 rw [<- den_of (by omega)]; unfold gS; rw [if_neg (by omega)]
def VP (p d:Int):Prop:=0 < d/\Int.gcd p d=1
theorem VP.rat {p d:Int} (h:VP p d):∃ r:Rat,r.num=p/\(r.den:Int)=d:=by
 obtain ⟨h1,h2⟩:=h;refine ⟨⟨p,d.natAbs,by omega,?_⟩,rfl,by simp only; omega⟩;unfold Nat.Coprime;exact h2
theorem vp_rat (r:Rat):VP r.num (r.den:Int):=by
 refine ⟨by have:=r.den_pos; omega,?_⟩;have:=r.reduced;unfold Nat.Coprime at this
 simpa [Int.gcd] using this
theorem den_ne (r:Rat):((r.den:Nat):Int) ≠ 0:=by have:=r.den_pos; omega
theorem den_gt (r:Rat):0 < ((r.den:Nat):Int):=by have:=r.den_pos; omega
theorem add_eq (a b:Rat):Rat.divInt (a.num * b.den + b.num * a.den) (a.den * b.den)=a + b:=by
 rw [Rat.add_def',<- Rat.divInt_ofNat,Int.natCast_mul]
theorem sub_eq (a b:Rat):Rat.divInt (a.num * b.den - b.num * a.den) (a.den * b.den)=a - b:=by
 rw [Rat.sub_def',<- Rat.divInt_ofNat,Int.natCast_mul]
theorem mul_eq (a b:Rat):Rat.divInt (a.num * b.num) (a.den * b.den)=a * b:=by
 rw [Rat.mul_def',<- Rat.divInt_ofNat,Int.natCast_mul]
theorem div_eq (a b:Rat):Rat.divInt (a.num * b.den) (a.den * b.num)=a / b:=by
 rw [Rat.div_def,Rat.inv_def,<- Rat.divInt_mul_divInt,Rat.num_divInt_den]
def cmpQ (a b:Rat):Int:=if a < b then -1 else if b < a then 1 else 0
theorem cmp_eq (a b:Rat):(if a.num * b.den < b.num * a.den then (-1:Int) else if b.num * a.den < a.num * b.den then 1 else 0)=cmpQ a b:=by
 unfold cmpQ;simp only [Rat.lt_iff]
end Rq
namespace Go.Proofs.YtfgffkmddanjjaaGreatDoor
open _root_.Go.Proofs.Tryz
open Go.RowKit
theorem zf9 {neg:Bool} {l:LN} (hv:zaE neg l):∃ z:Int,neg=decide (z < 0)/\l=Bi.limbs z.natAbs/\z.natAbs < Bi.Big/\l.length<=34:=by
 unfold zaE at hv
 by_cases h0:l=[]
 ·rw [if_pos h0] at hv;subst h0 hv;exact ⟨0,rfl,rfl,zjH (by decide),by simp⟩
 ·rw [if_neg h0] at hv;obtain ⟨h1,h2,h3⟩:=hv;have hL:l=Bi.limbs (Bi.val l):=(Bi.canon_limbs h1 h2).symm;have hne:Bi.val l ≠ 0:=by
   intro h; rw [h] at hL; exact h0 hL
  refine ⟨sgn neg (Bi.val l),?_,by rw [zao]; exact hL,by rw [zao]; exact h3,?_⟩
  ·unfold sgn; cases neg
   ·simp
   ·simp; omega
  ·rw [hL]; exact zau h3
theorem ziA (neg:Bool) (l:LN) (ao:OA) (cap:Nat) (w:Wo) (hm:l.length<=1000000000) (hv:Hid (zaE neg l)) (hU:U w ao l) (hE:Env w) :
  CP 121 #[.agg #[.bool neg,.slice ao l.length cap]] w λ e w' => e=.returned (.bool true)/\BH w w':=by
 refine (zb3 neg l ao cap w hm hU hE).mono ?_;rintro e w' ⟨⟨r,HR,rfl⟩,hb⟩;refine ⟨zdj ?_,hb⟩;have h:=HR.out;have hv:=hv.out
 cases r <;> simp_all
theorem zhU (neg:Bool) (l:LN) (ao:OA) (cap:Nat) (w:Wo) (hm:l.length<=1000000000) (hv:Hid (zaE neg l)) (hU:U w ao l) :
  CP 77 #[.agg #[.bool neg,.slice ao l.length cap]] w λ e w' => e=.returned (.bool true)/\BH w w':=by
 refine (zhX neg l ao cap w hm hU).mono ?_;rintro e w' ⟨⟨r,HR,rfl⟩,hb⟩;refine ⟨zdj ?_,hb⟩;have h:=HR.out;have hv:=hv.out
 cases r <;> simp_all
theorem zgT (neg:Bool) (l:LN) (ao:OA) (cap:Nat) (w:Wo) (hm:l.length<=1000000000) (hv:Hid (¬ zaE neg l)) (hU:U w ao l) (hE:Env w) :
  CP 121 #[.agg #[.bool neg,.slice ao l.length cap]] w λ e w' => e=.returned bF_/\BH w w':=by
 refine (zb3 neg l ao cap w hm hU hE).mono ?_;rintro e w' ⟨⟨r,HR,rfl⟩,hb⟩;refine ⟨zdj ?_,hb⟩;have h:=HR.out;have hv:=hv.out
 cases r <;> simp_all
theorem zah.mk' {w:Wo} {neg:Bool} {ao:OA} {L:LN} {cap:Nat} {z:Int} (h1:Hid (neg=decide (z < 0))) (h2:Hid (L=Bi.limbs z.natAbs)) (h3:Hid (z.natAbs < Bi.Big)) (hc:L.length<=cap) (hl:L.length<=34) (hU:U w ao L) :
  zah w (.agg #[.bool neg,.slice ao L.length cap]) z:=⟨neg,ao,L,cap,rfl,h1,h2,h3,hc,hl,hU⟩
theorem zi0 (neg:Bool) (l:LN) (ao:OA) (cap:Nat) (x:Int) (w:Wo) (Hn1:Hid (neg=decide (x < 0))) (HL1:Hid (l=Bi.limbs x.natAbs)) :
  CP 78 #[.agg #[.bool neg,.slice ao l.length cap]] w λ e w' => e=.returned (.int .i64 (zaH x))/\BH w w':=by
 by_cases h0:l=[]
 ·have hx:Hid (zaH x=0):=hii (by
   have h:=HL1.out; rw [h0] at h; have:=Bi.limbs_eq_nil.1 h.symm; unfold zaH; rw [if_pos (by omega)])
  subst h0;go_enter func78,ntmps78;go_wp2;go_ret;exact ⟨zaA hx.out.symm,br.alloc nl _⟩
 ·have hL:0 < l.length:=List.length_pos_iff.2 h0;have hx0:x ≠ 0:=by rintro rfl; exact h0 (by rw [HL1.out]; rfl)
  have hLz:((l.length:Int) == 0)=false:=by rw [beq_eq_false_iff_ne]; omega
  have hx:Hid (zaH x=if neg then -1 else 1):=hii (by unfold zaH; rw [if_neg hx0,Hn1.out]; by_cases h:x < 0 <;> simp [h])
  cases neg
  all_goals
   go_enter func78,ntmps78;go_wp2;go_ret;exact ⟨zaA hx.out.symm,br.alloc nl _⟩
structure zaQ (w:Wo) (n:Nat) (x0 x1 x2 x3:Vl):Prop where
 c0:w.cell? (aD_ n 0)=some x0
 c1:w.cell? (aD_ n 1)=some x1
 c2:w.cell? (aD_ n 2)=some x2
 c3:w.cell? (aD_ n 3)=some x3
 f0:w.frozen? ⟨n,0,none⟩=false
 f1:w.frozen? ⟨n,1,none⟩=false
 f2:w.frozen? ⟨n,2,none⟩=false
 f3:w.frozen? ⟨n,3,none⟩=false
theorem zaQ.lt {w:Wo} {n:Nat} {x0 x1 x2 x3:Vl} (h:zaQ w n x0 x1 x2 x3):n < w.heap.size:=zag h.c0
theorem zaQ.mono {w w':Wo} {n:Nat} {x0 x1 x2 x3:Vl} (h:zaQ w n x0 x1 x2 x3) (hb:BH w w'):zaQ w' n x0 x1 x2 x3 :=
 ⟨(hb.cell (p:=⟨n,0,none⟩) h.lt).trans h.c0,(hb.cell (p:=⟨n,1,none⟩) h.lt).trans h.c1,(hb.cell (p:=⟨n,2,none⟩) h.lt).trans h.c2,(hb.cell (p:=⟨n,3,none⟩) h.lt).trans h.c3,
  (hb.frozen (p:=⟨n,0,none⟩) h.lt).trans h.f0,(hb.frozen (p:=⟨n,1,none⟩) h.lt).trans h.f1,(hb.frozen (p:=⟨n,2,none⟩) h.lt).trans h.f2,(hb.frozen (p:=⟨n,3,none⟩) h.lt).trans h.f3⟩
theorem zaQ.new (w:Wo) (x0 x1 x2 x3:Vl) (t:TypeId):zaQ (w.alloc (.cells #[x0,x1,x2,x3] t)) w.heap.size x0 x1 x2 x3 :=
 ⟨by simp [go_sem],by simp [go_sem],by simp [go_sem],by simp [go_sem],by simp [go_sem],by simp [go_sem],by simp [go_sem],by simp [go_sem]⟩
theorem zbf (w:Wo) (a0 b0:Vl) (t0:TypeId) (c0 d0:Vl) (t1:TypeId):∃ wx,wx=((w.alloc (.cells #[a0,b0] t0)).alloc (.cells #[c0,d0] t1))/\wx.heap.size=w.heap.size + 1 + 1/\Box wx w.heap.size a0 b0/\Box wx (w.heap.size + 1) c0 d0/\BH w wx:=by
 refine ⟨_,rfl,by simp,?_,?_,?_⟩
 ·exact (Box.new w a0 b0 t0).mono (bA _ (.cells #[c0,d0] t1))
 ·have:=Box.new (w.alloc (.cells #[a0,b0] t0)) c0 d0 t1
  simpa using this
 ·exact ((br.alloc (by simp) _).alloc (by simp) _)
theorem ze4 (w:Wo) (a0 b0 c0 d0:Vl) (t0:TypeId) (e0 f0 g0 h0:Vl) (t1:TypeId):∃ wx,wx=((w.alloc (.cells #[a0,b0,c0,d0] t0)).alloc (.cells #[e0,f0,g0,h0] t1))/\wx.heap.size=w.heap.size + 1 + 1/\zaQ wx w.heap.size a0 b0 c0 d0/\zaQ wx (w.heap.size + 1) e0 f0 g0 h0/\BH w wx:=by
 refine ⟨_,rfl,by simp,?_,?_,?_⟩
 ·exact (zaQ.new w a0 b0 c0 d0 t0).mono (bA _ (.cells #[e0,f0,g0,h0] t1))
 ·have:=zaQ.new (w.alloc (.cells #[a0,b0,c0,d0] t0)) e0 f0 g0 h0 t1
  simpa using this
 ·exact ((br.alloc (by simp) _).alloc (by simp) _)
theorem zbh (w:Wo) (a0 b0 c0 d0:Vl) (t0:TypeId) (e0 f0 g0 h0:Vl) (t1:TypeId) (i0 j0 k0 l0:Vl) (t2:TypeId):∃ wx,wx=(((w.alloc (.cells #[a0,b0,c0,d0] t0)).alloc (.cells #[e0,f0,g0,h0] t1)).alloc (.cells #[i0,j0,k0,l0] t2))/\wx.heap.size=w.heap.size + 1 + 1 + 1/\zaQ wx w.heap.size a0 b0 c0 d0/\zaQ wx (w.heap.size + 1) e0 f0 g0 h0/\zaQ wx (w.heap.size + 1 + 1) i0 j0 k0 l0/\BH w wx:=by
 refine ⟨_,rfl,by simp,?_,?_,?_,?_⟩
 ·exact ((zaQ.new w a0 b0 c0 d0 t0).mono (bA _ (.cells #[e0,f0,g0,h0] t1))).mono (bA _ (.cells #[i0,j0,k0,l0] t2))
 ·have:=(zaQ.new (w.alloc (.cells #[a0,b0,c0,d0] t0)) e0 f0 g0 h0 t1).mono (bA _ (.cells #[i0,j0,k0,l0] t2))
  simpa using this
 ·have:=zaQ.new ((w.alloc (.cells #[a0,b0,c0,d0] t0)).alloc (.cells #[e0,f0,g0,h0] t1)) i0 j0 k0 l0 t2
  simpa using this
 ·exact (((br.alloc (by simp) _).alloc (by simp) _).alloc (by simp; omega) _)
theorem zbM (w:Wo) (a0 b0:Vl) (t0:TypeId) (c0 d0:Vl) (t1:TypeId) (e0 f0 g0 h0:Vl) (t2:TypeId):∃ wx,wx=(((w.alloc (.cells #[a0,b0] t0)).alloc (.cells #[c0,d0] t1)).alloc (.cells #[e0,f0,g0,h0] t2))/\wx.heap.size=w.heap.size + 1 + 1 + 1/\Box wx w.heap.size a0 b0/\Box wx (w.heap.size + 1) c0 d0/\zaQ wx (w.heap.size + 1 + 1) e0 f0 g0 h0/\BH w wx:=by
 refine ⟨_,rfl,by simp,?_,?_,?_,?_⟩
 ·exact ((Box.new w a0 b0 t0).mono (bA _ (.cells #[c0,d0] t1))).mono (bA _ (.cells #[e0,f0,g0,h0] t2))
 ·have:=(Box.new (w.alloc (.cells #[a0,b0] t0)) c0 d0 t1).mono (bA _ (.cells #[e0,f0,g0,h0] t2))
  simpa using this
 ·have:=zaQ.new ((w.alloc (.cells #[a0,b0] t0)).alloc (.cells #[c0,d0] t1)) e0 f0 g0 h0 t2
  simpa using this
 ·exact (((br.alloc (by simp) _).alloc (by simp) _).alloc (by simp; omega) _)
theorem zgH (w:Wo) (a0 b0:Vl) (t0:TypeId) (c0 d0:Vl) (t1:TypeId) (e0 f0:Vl) (t2:TypeId) (g0 h0:Vl) (t3:TypeId) (i0 j0 k0 l0:Vl) (t4:TypeId):∃ wx,wx=(((((w.alloc (.cells #[a0,b0] t0)).alloc (.cells #[c0,d0] t1)).alloc (.cells #[e0,f0] t2)).alloc (.cells #[g0,h0] t3)).alloc (.cells #[i0,j0,k0,l0] t4))/\wx.heap.size=w.heap.size + 1 + 1 + 1 + 1 + 1/\Box wx w.heap.size a0 b0/\Box wx (w.heap.size + 1) c0 d0/\Box wx (w.heap.size + 1 + 1) e0 f0/\Box wx (w.heap.size + 1 + 1 + 1) g0 h0/\zaQ wx (w.heap.size + 1 + 1 + 1 + 1) i0 j0 k0 l0/\BH w wx:=by
 refine ⟨_,rfl,by simp,?_,?_,?_,?_,?_,?_⟩
 ·exact ((((Box.new w a0 b0 t0).mono (bA _ (.cells #[c0,d0] t1))).mono (bA _ (.cells #[e0,f0] t2))).mono (bA _ (.cells #[g0,h0] t3))).mono (bA _ (.cells #[i0,j0,k0,l0] t4))
 ·have:=(((Box.new (w.alloc (.cells #[a0,b0] t0)) c0 d0 t1).mono (bA _ (.cells #[e0,f0] t2))).mono (bA _ (.cells #[g0,h0] t3))).mono (bA _ (.cells #[i0,j0,k0,l0] t4))
  simpa using this
 ·have:=((Box.new ((w.alloc (.cells #[a0,b0] t0)).alloc (.cells #[c0,d0] t1)) e0 f0 t2).mono (bA _ (.cells #[g0,h0] t3))).mono (bA _ (.cells #[i0,j0,k0,l0] t4))
  simpa using this
 ·have:=(Box.new (((w.alloc (.cells #[a0,b0] t0)).alloc (.cells #[c0,d0] t1)).alloc (.cells #[e0,f0] t2)) g0 h0 t3).mono (bA _ (.cells #[i0,j0,k0,l0] t4))
  simpa using this
 ·have:=zaQ.new ((((w.alloc (.cells #[a0,b0] t0)).alloc (.cells #[c0,d0] t1)).alloc (.cells #[e0,f0] t2)).alloc (.cells #[g0,h0] t3)) i0 j0 k0 l0 t4
  simpa using this
 ·exact (((((br.alloc (by simp) _).alloc (by simp) _).alloc (by simp; omega) _).alloc (by simp; omega) _).alloc (by simp; omega) _)
theorem zii (w:Wo) (a0 b0 c0 d0:Vl) (t0:TypeId) (e0 f0 g0 h0:Vl) (t1:TypeId) (i0 j0:Vl) (t2:TypeId) (k0 l0:Vl) (t3:TypeId):∃ wx,wx=((((w.alloc (.cells #[a0,b0,c0,d0] t0)).alloc (.cells #[e0,f0,g0,h0] t1)).alloc (.cells #[i0,j0] t2)).alloc (.cells #[k0,l0] t3))/\wx.heap.size=w.heap.size + 1 + 1 + 1 + 1/\zaQ wx w.heap.size a0 b0 c0 d0/\zaQ wx (w.heap.size + 1) e0 f0 g0 h0/\Box wx (w.heap.size + 1 + 1) i0 j0/\Box wx (w.heap.size + 1 + 1 + 1) k0 l0/\BH w wx:=by
 refine ⟨_,rfl,by simp,?_,?_,?_,?_,?_⟩
 ·exact (((zaQ.new w a0 b0 c0 d0 t0).mono (bA _ (.cells #[e0,f0,g0,h0] t1))).mono (bA _ (.cells #[i0,j0] t2))).mono (bA _ (.cells #[k0,l0] t3))
 ·have:=((zaQ.new (w.alloc (.cells #[a0,b0,c0,d0] t0)) e0 f0 g0 h0 t1).mono (bA _ (.cells #[i0,j0] t2))).mono (bA _ (.cells #[k0,l0] t3))
  simpa using this
 ·have:=(Box.new ((w.alloc (.cells #[a0,b0,c0,d0] t0)).alloc (.cells #[e0,f0,g0,h0] t1)) i0 j0 t2).mono (bA _ (.cells #[k0,l0] t3))
  simpa using this
 ·have:=Box.new (((w.alloc (.cells #[a0,b0,c0,d0] t0)).alloc (.cells #[e0,f0,g0,h0] t1)).alloc (.cells #[i0,j0] t2)) k0 l0 t3
  simpa using this
 ·exact ((((br.alloc (by simp) _).alloc (by simp) _).alloc (by simp; omega) _).alloc (by simp; omega) _)
theorem zgG (w:Wo) (a0 b0 c0 d0:Vl) (t0:TypeId) (e0 f0 g0 h0:Vl) (t1:TypeId) (i0 j0:Vl) (t2:TypeId) (k0 l0:Vl) (t3:TypeId) (m0 n0:Vl) (t4:TypeId):∃ wx,wx=(((((w.alloc (.cells #[a0,b0,c0,d0] t0)).alloc (.cells #[e0,f0,g0,h0] t1)).alloc (.cells #[i0,j0] t2)).alloc (.cells #[k0,l0] t3)).alloc (.cells #[m0,n0] t4))/\wx.heap.size=w.heap.size + 1 + 1 + 1 + 1 + 1/\zaQ wx w.heap.size a0 b0 c0 d0/\zaQ wx (w.heap.size + 1) e0 f0 g0 h0/\Box wx (w.heap.size + 1 + 1) i0 j0/\Box wx (w.heap.size + 1 + 1 + 1) k0 l0/\Box wx (w.heap.size + 1 + 1 + 1 + 1) m0 n0/\BH w wx:=by
 refine ⟨_,rfl,by simp,?_,?_,?_,?_,?_,?_⟩
 ·exact ((((zaQ.new w a0 b0 c0 d0 t0).mono (bA _ (.cells #[e0,f0,g0,h0] t1))).mono (bA _ (.cells #[i0,j0] t2))).mono (bA _ (.cells #[k0,l0] t3))).mono (bA _ (.cells #[m0,n0] t4))
 ·have:=(((zaQ.new (w.alloc (.cells #[a0,b0,c0,d0] t0)) e0 f0 g0 h0 t1).mono (bA _ (.cells #[i0,j0] t2))).mono (bA _ (.cells #[k0,l0] t3))).mono (bA _ (.cells #[m0,n0] t4))
  simpa using this
 ·have:=((Box.new ((w.alloc (.cells #[a0,b0,c0,d0] t0)).alloc (.cells #[e0,f0,g0,h0] t1)) i0 j0 t2).mono (bA _ (.cells #[k0,l0] t3))).mono (bA _ (.cells #[m0,n0] t4))
  simpa using this
 ·have:=(Box.new (((w.alloc (.cells #[a0,b0,c0,d0] t0)).alloc (.cells #[e0,f0,g0,h0] t1)).alloc (.cells #[i0,j0] t2)) k0 l0 t3).mono (bA _ (.cells #[m0,n0] t4))
  simpa using this
 ·have:=Box.new ((((w.alloc (.cells #[a0,b0,c0,d0] t0)).alloc (.cells #[e0,f0,g0,h0] t1)).alloc (.cells #[i0,j0] t2)).alloc (.cells #[k0,l0] t3)) m0 n0 t4
  simpa using this
 ·exact (((((br.alloc (by simp) _).alloc (by simp) _).alloc (by simp; omega) _).alloc (by simp; omega) _).alloc (by simp; omega) _)
theorem zfV (w:Wo) (a0 b0:Vl) (t0:TypeId) (c0 d0:Vl) (t1:TypeId) (e0 f0:Vl) (t2:TypeId):∃ wx,wx=(((w.alloc (.cells #[a0,b0] t0)).alloc (.cells #[c0,d0] t1)).alloc (.cells #[e0,f0] t2))/\wx.heap.size=w.heap.size + 1 + 1 + 1/\Box wx w.heap.size a0 b0/\Box wx (w.heap.size + 1) c0 d0/\Box wx (w.heap.size + 1 + 1) e0 f0/\BH w wx:=by
 refine ⟨_,rfl,by simp,?_,?_,?_,?_⟩
 ·exact ((Box.new w a0 b0 t0).mono (bA _ (.cells #[c0,d0] t1))).mono (bA _ (.cells #[e0,f0] t2))
 ·have:=(Box.new (w.alloc (.cells #[a0,b0] t0)) c0 d0 t1).mono (bA _ (.cells #[e0,f0] t2))
  simpa using this
 ·have:=Box.new ((w.alloc (.cells #[a0,b0] t0)).alloc (.cells #[c0,d0] t1)) e0 f0 t2
  simpa using this
 ·exact (((br.alloc (by simp) _).alloc (by simp) _).alloc (by simp; omega) _)
theorem zak {w:Wo} {n m i j:Nat} (v:Vl) (h:n ≠ m):(w.setCell (aD_ m j) v).cell? (aD_ n i)=w.cell? (aD_ n i) :=
 World.cell?_setCell_other _ _ _ _ (λ e => h (congrArg Addr.block e).symm)
theorem zcf {w:Wo} {n i j:Nat} (v:Vl) (h:i ≠ j):(w.setCell (aD_ n j) v).cell? (aD_ n i)=w.cell? (aD_ n i) :=
 World.cell?_setCell_other _ _ _ _ (λ e => h (by simpa using e.symm))
theorem Box.other2 {w:Wo} {n m:Nat} {x y u v:Vl} (h:Box w n x y) (hne:n ≠ m):Box ((w.setCell (aD_ m 0) u).setCell (aD_ m 1) v) n x y:=by
 obtain ⟨h1,h2,h3,h4⟩:=h;exact ⟨by rw [zak _ hne,zak _ hne]; exact h1,by rw [zak _ hne,zak _ hne]; exact h2,by simp [go_sem,h3],by simp [go_sem,h4]⟩
theorem zaQ.other2 {w:Wo} {n m:Nat} {x0 x1 x2 x3 u v:Vl} (h:zaQ w n x0 x1 x2 x3) (hne:n ≠ m):zaQ ((w.setCell (aD_ m 0) u).setCell (aD_ m 1) v) n x0 x1 x2 x3:=by
 obtain ⟨h0,h1,h2,h3,f0,f1,f2,f3⟩:=h;exact ⟨by rw [zak _ hne,zak _ hne]; exact h0,by rw [zak _ hne,zak _ hne]; exact h1,by rw [zak _ hne,zak _ hne]; exact h2,by rw [zak _ hne,zak _ hne]; exact h3,
  by simp [go_sem,f0],by simp [go_sem,f1],by simp [go_sem,f2],by simp [go_sem,f3]⟩
theorem Box.set2I {w:Wo} {n:Nat} {x y:Vl} (h:Box w n x y) (u v:Vl):Box ((w.setCell (aD_ n 0) u).setCell (aD_ n 1) v) n u v:=h.set2 u v
theorem zah.put2B {w:Wo} {n c d:Nat} {b:Bool} {s:OA} {u:Vl} {z:Int} (hB:Box w n (.bool b) (.slice s c d)) (h:zah w u z) (x y:Vl) :
  zah ((w.setCell (aD_ n 0) x).setCell (aD_ n 1) y) u z:=h.put2 hB.c0 hB.c1 x y
theorem zah.put4B {w:Wo} {n c1 d1 c2 d2:Nat} {b1 b2:Bool} {s1 s2:OA} {u:Vl} {z:Int} (hB:zaQ w n (.bool b1) (.slice s1 c1 d1) (.bool b2) (.slice s2 c2 d2)) (h:zah w u z) (x0 x1 x2 x3:Vl) :
  zah ((((w.setCell (aD_ n 0) x0).setCell (aD_ n 1) x1).setCell (aD_ n 2) x2).setCell (aD_ n 3) x3) u z:=by
 have h1:=h.put2 hB.c0 hB.c1 x0 x1;have e2:((w.setCell (aD_ n 0) x0).setCell (aD_ n 1) x1).cell? (aD_ n 2)=some (.bool b2):=by rw [zcf _ (by decide),zcf _ (by decide)]; exact hB.c2
 have h2:=zah.put (v:=x2) e2 (by simp) h1;have e3:(((w.setCell (aD_ n 0) x0).setCell (aD_ n 1) x1).setCell (aD_ n 2) x2).cell? (aD_ n 3)=some (.slice s2 c2 d2):=by rw [zcf _ (by decide),zcf _ (by decide),zcf _ (by decide)]; exact hB.c3
 exact zah.put (v:=x3) e3 (by simp) h2
theorem Below.put4 {B:Nat} {w w':Wo} {n:Nat} (h:Below B w w') (hn:B<=n) (x0 x1 x2 x3:Vl):Below B w ((((w'.setCell (aD_ n 0) x0).setCell (aD_ n 1) x1).setCell (aD_ n 2) x2).setCell (aD_ n 3) x3) :=
 (((h.setCell hn _).setCell hn _).setCell hn _).setCell hn _
def zad (w:Wo) (v:Vl) (r:Rat):Prop :=
 ∃ (n1:Bool) (a1:OA) (l1 c1:Nat) (n2:Bool) (a2:OA) (l2 c2:Nat),v=.agg #[.bool n1,.slice a1 l1 c1,.bool n2,.slice a2 l2 c2]/\zah w (.agg #[.bool n1,.slice a1 l1 c1]) r.num/\zah w (.agg #[.bool n2,.slice a2 l2 c2]) (r.den:Int)
theorem zad.mono {w w':Wo} {v:Vl} {r:Rat} (h:zad w v r) (hb:BH w w'):zad w' v r:=by
 obtain ⟨n1,a1,l1,c1,n2,a2,l2,c2,e,h1,h2⟩:=h;exact ⟨n1,a1,l1,c1,n2,a2,l2,c2,e,h1.mono hb,h2.mono hb⟩
def zcw (w':Wo) (r:Rat) (e:Ending):Prop :=
 ∃ (n1:Bool) (a1:OA) (l1 c1:Nat) (n2:Bool) (a2:OA) (l2 c2:Nat),e=.returned (.tuple #[.agg #[.bool n1,.slice a1 l1 c1,.bool n2,.slice a2 l2 c2],.int .i64 0]) /\
  Hid (zah w' (.agg #[.bool n1,.slice a1 l1 c1]) r.num)/\Hid (zah w' (.agg #[.bool n2,.slice a2 l2 c2]) (r.den:Int))
def NoQ (k:Int) (e:Ending):Prop:=e=.returned (.tuple #[.agg #[bF_,nS_,bF_,nS_],.int .i64 k])
def zmQ (w':Wo) (z:Int) (e:Ending):Prop :=
 ∃ (ng:Bool) (ao:OA) (n cap:Nat),e=.returned (.tuple #[.agg #[.bool ng,.slice ao n cap],.int .i64 0])/\Hid (zah w' (.agg #[.bool ng,.slice ao n cap]) z)
theorem ze8.got {w':Wo} {z:Int} {e:Ending} (h:ze8 w' z e) (hz:Rq.Sm z):zmQ w' z e:=by
 obtain ⟨ng,ao,n,cap,k,he,HK⟩:=h;obtain ⟨rfl,hV⟩:=HK.out.fits hz;exact ⟨ng,ao,n,cap,he,hii hV⟩
theorem ze8.big {w':Wo} {z:Int} {e:Ending} (h:ze8 w' z e) (hz:¬ Rq.Sm z):e=.returned (.tuple #[.agg #[bF_,nS_],.int .i64 3]):=by
 obtain ⟨ng,ao,n,cap,k,he,HK⟩:=h;rcases HK.out with ⟨h1,_⟩ | ⟨_,rfl,h3⟩
 ·exact absurd h1 hz
 ·rw [he,h3]
theorem zob (a b:Vl) (x y:Int) (w:Wo) (ha:zah w a x) (hb:zah w b y) (hs:Hid (Rq.Sm (x + y))) (hE:Env w) :
  CP 95 #[a,b] w λ e w' => zmQ w' (x + y) e/\BH w w':=(zj9 a b x y w ha hb hE).mono λ _ _ ⟨h,hb⟩ => ⟨h.got hs.out,hb⟩
theorem zmZ (a b:Vl) (x y:Int) (w:Wo) (ha:zah w a x) (hb:zah w b y) (hs:Hid (¬ Rq.Sm (x + y))) (hE:Env w) :
  CP 95 #[a,b] w λ e w' => e=.returned (.tuple #[.agg #[bF_,nS_],.int .i64 3])/\BH w w':=(zj9 a b x y w ha hb hE).mono λ _ _ ⟨h,hb⟩ => ⟨h.big hs.out,hb⟩
theorem zlA (a b:Vl) (x y:Int) (w:Wo) (ha:zah w a x) (hb:zah w b y) (hs:Hid (Rq.Sm (x - y))) (hE:Env w) :
  CP 98 #[a,b] w λ e w' => zmQ w' (x - y) e/\BH w w':=(zjZ a b x y w ha hb hE).mono λ _ _ ⟨h,hb⟩ => ⟨h.got hs.out,hb⟩
theorem zmH (a b:Vl) (x y:Int) (w:Wo) (ha:zah w a x) (hb:zah w b y) (hs:Hid (¬ Rq.Sm (x - y))) (hE:Env w) :
  CP 98 #[a,b] w λ e w' => e=.returned (.tuple #[.agg #[bF_,nS_],.int .i64 3])/\BH w w':=(zjZ a b x y w ha hb hE).mono λ _ _ ⟨h,hb⟩ => ⟨h.big hs.out,hb⟩
theorem zn6 (a b:Vl) (x y:Int) (w:Wo) (ha:zah w a x) (hb:zah w b y) (hs:Hid (Rq.Sm (x * y))) (hE:Env w) :
  CP 138 #[a,b] w λ e w' => zmQ w' (x * y) e/\BH w w':=(zj4 a b x y w ha hb hE).mono λ _ _ ⟨h,hb⟩ => ⟨h.got hs.out,hb⟩
theorem zmN (a b:Vl) (x y:Int) (w:Wo) (ha:zah w a x) (hb:zah w b y) (hs:Hid (¬ Rq.Sm (x * y))) (hE:Env w) :
  CP 138 #[a,b] w λ e w' => e=.returned (.tuple #[.agg #[bF_,nS_],.int .i64 3])/\BH w w':=(zj4 a b x y w ha hb hE).mono λ _ _ ⟨h,hb⟩ => ⟨h.big hs.out,hb⟩
theorem zlZ (a b:Vl) (x y:Int) (w:Wo) (ha:zah w a x) (hb:zah w b y) (hs:Hid (Rq.Sm (x * y))) :
  CP 33 #[a,b] w λ e w' => zmQ w' (x * y) e/\BH w w':=(zha a b x y w ha hb).mono λ _ _ ⟨h,hb⟩ => ⟨h.got hs.out,hb⟩
theorem zkw (a b:Vl) (x y:Int) (w:Wo) (ha:zah w a x) (hb:zah w b y) (hs:Hid (¬ Rq.Sm (x * y))) :
  CP 33 #[a,b] w λ e w' => e=.returned (.tuple #[.agg #[bF_,nS_],.int .i64 3])/\BH w w':=(zha a b x y w ha hb).mono λ _ _ ⟨h,hb⟩ => ⟨h.big hs.out,hb⟩
theorem zl1 (a b:Vl) (x y:Int) (w:Wo) (ha:zah w a x) (hb:zah w b y) (hs:Hid (Rq.Sm (x + y))) :
  CP 99 #[a,b] w λ e w' => zmQ w' (x + y) e/\BH w w':=(zhd a b x y w ha hb).mono λ _ _ ⟨h,hb⟩ => ⟨h.got hs.out,hb⟩
theorem zkz (a b:Vl) (x y:Int) (w:Wo) (ha:zah w a x) (hb:zah w b y) (hs:Hid (¬ Rq.Sm (x + y))) :
  CP 99 #[a,b] w λ e w' => e=.returned (.tuple #[.agg #[bF_,nS_],.int .i64 3])/\BH w w':=(zhd a b x y w ha hb).mono λ _ _ ⟨h,hb⟩ => ⟨h.big hs.out,hb⟩
def zpj (wy wc:Wo) (n:Nat) (s7:Vl) (z:Int):Prop :=
 ∃ (w0:Wo) (ng:Bool) (ao:OA) (m cap:Nat),s7=.int .i64 0/\Hid (zah w0 (.agg #[.bool ng,.slice ao m cap]) z)/\BH wy w0/\wc=(w0.setCell (aD_ n 0) (.bool ng)).setCell (aD_ n 1) (.slice ao m cap)
def zo4 (w':Wo) (z1:Int) (e:Ending):Prop :=
 ∃ (ng:Bool) (ao:OA) (n cap:Nat) (J2:Bool) (ao2:OA) (n2 Y2:Nat),e=.returned (.tuple #[.agg #[.bool ng,.slice ao n cap],.agg #[.bool J2,.slice ao2 n2 Y2],.int .i64 0])/\Hid (zah w' (.agg #[.bool ng,.slice ao n cap]) z1)
theorem zhN (a b:Vl) (x y:Int) (w:Wo) (ha:zah w a x) (hb:zah w b y) (hy0:Hid (y ≠ 0)) (hE:Env w) :
  CP 170 #[a,b] w λ e w' => zo4 w' (x.tdiv y) e/\BH w w' :=
 (zmT a b x y w ha hb hy0 hE).mono λ _ _ ⟨⟨ng,ao,n,cap,J2,ao2,n2,Y2,he,h1,_⟩,h2⟩ => ⟨⟨ng,ao,n,cap,J2,ao2,n2,Y2,he,h1⟩,h2⟩
theorem zeI (a b:Vl) (x y:Int) (w:Wo) (ha:zah w a x) (hb:zah w b y) (hy0:Hid (y ≠ 0)) :
  CP 83 #[a,b] w λ e w' => zo4 w' (x.tdiv y) e/\BH w w' :=
 (zkx a b x y w ha hb hy0).mono λ _ _ ⟨⟨ng,ao,n,cap,J2,ao2,n2,Y2,he,h1,_⟩,h2⟩ => ⟨⟨ng,ao,n,cap,J2,ao2,n2,Y2,he,h1⟩,h2⟩
def zpn (wy wc:Wo) (n m:Nat) (x y:Int):Prop :=
 ∃ (w0:Wo) (ng:Bool) (ao:OA) (l cap:Nat) (J2:Bool) (ao2:OA) (l2 Y2:Nat),Hid (zah w0 (.agg #[.bool ng,.slice ao l cap]) x)/\Hid (zah w0 (.agg #[.bool J2,.slice ao2 l2 Y2]) y)/\BH wy w0 /\
  wc=(((w0.setCell (aD_ n 0) (.bool ng)).setCell (aD_ n 1) (.slice ao l cap)).setCell (aD_ m 0) (.bool J2)).setCell (aD_ m 1) (.slice ao2 l2 Y2)
theorem zhL (a b:Vl) (x y:Int) (w:Wo) (ha:zah w a x) (hb:zah w b y) (hE:Env w) :
  CP 122 #[a,b] w λ e w' => zmQ w' (Int.gcd x y:Nat) e/\BH w w' :=
 (zmR a b x y w ha hb hE).mono λ _ _ ⟨h,h2⟩ => ⟨h.got (zjj ha.small hb.small),h2⟩
theorem zbD (a:Vl) (x s:Int) (w:Wo) (hs:Hid (zaH x=s)) (ha:zah w a x) (hE:Env w) :
  CP 119 #[a] w λ e w' => e=.returned (.int .i64 s)/\BH w w':=by
 rw [<- hs.out]; exact zk8 a x w ha hE
theorem zgm (a b : Vl) (p q : Int) (w : Wo) (ha : zah w a p) (hb : zah w b q) (hq : Hid (q < 0)) (hE : Env w) :
    CP 135 #[a, b] w fun e w' => zcw w' (Rat.divInt p q) e ∧ BH w w' := by
  obtain ⟨J1, ao1, n1, Y1, rfl⟩ := ha.parts
  obtain ⟨J2, ao2, n2, Y2, rfl⟩ := hb.parts
  have HV1 := hii ha
  have HV2 := hii hb
  have hE0 := hE
  clear ha hb
  have hbw := Below.refl w.heap.size w
  have HS : Hid (zaH q = -1) := hii (by have := hq.out; unfold zaH; split <;> (try split) <;> omega)
  have HQ : Hid (q ≠ 0) := hii (by have := hq.out; omega)
  go_enter func135, ntmps135
  go_upto_region 1 with fail
  obtain ⟨wx, hwx, hszx, X1, X2, X3, hb⟩ := zbM w (.bool J1) (.slice ao1 n1 Y1) 30 (.bool J2) (.slice ao2 n2 Y2) 30 bF_ nS_ bF_ nS_ 32
  rw [← hwx]
  clear hwx
  obtain ⟨v1, rfl⟩ := exi wx
  have HV1 := hup HV1 hb
  have HV2 := hup HV2 hb
  have hE := hE.mono hb
  have hbw := bu hbw hb
  clear hb
  obtain ⟨x1a, x1b, _, _⟩ := id X1
  obtain ⟨x2a, x2b, _, _⟩ := id X2
  go_wp2_with fail
  go_fit (zhL _ _ p q v1 HV1.out HV2.out hE)
  rintro e v2 ⟨⟨J3, ao3, n3, Y3, rfl, HV3⟩, hb⟩
  have HV1 := hup HV1 hb
  have HV2 := hup HV2 hb
  have X1 := X1.mono hb
  have X2 := X2.mono hb
  have X3 := X3.mono hb
  have hE := hE.mono hb
  have hbw := bu hbw hb
  clear hb
  clear x1a x1b x2a x2b
  go_upto_region 2 with fail
  have lX4X1 := X1.lt
  have lX4X2 := X2.lt
  have lX4X3 := X3.lt
  have X4 := Box.new v2 (.bool J3) (.slice ao3 n3 Y3) 30
  have hb := bA v2 (.cells #[.bool J3, .slice ao3 n3 Y3] 30)
  generalize v2.alloc (.cells #[.bool J3, .slice ao3 n3 Y3] 30) = v3 at *
  have HV1 := hup HV1 hb
  have HV2 := hup HV2 hb
  have X1 := X1.mono hb
  have X2 := X2.mono hb
  have X3 := X3.mono hb
  have HV3 := hup HV3 hb
  have hE := hE.mono hb
  have hbw := bu hbw hb
  clear hb
  obtain ⟨x2a, x2b, _, _⟩ := id X2
  go_wp2_with fail
  go_fit (zbD _ q (-1) v3 HS HV2.out hE)
  rintro e v4 ⟨rfl, hb⟩
  have HV1 := hup HV1 hb
  have HV2 := hup HV2 hb
  have X1 := X1.mono hb
  have X2 := X2.mono hb
  have X3 := X3.mono hb
  have HV3 := hup HV3 hb
  have X4 := X4.mono hb
  have hE := hE.mono hb
  have hbw := bu hbw hb
  clear hb
  clear x2a x2b
  go_upto_region 5 with fail
  have HG : Hid (Rq.Sm (0 - ((Int.gcd p q : Nat) : Int))) := hii (Rq.sm_neg HV3.out.small)
  obtain ⟨wy, rfl⟩ := exi v4
  go_cut [7] (fun s7 wc => zpj wy wc v2.heap.size s7 (0 - ((Int.gcd p q : Nat) : Int)))
  case first =>
    obtain ⟨_, _, _, _⟩ := id X4
    go_region_with (first
       | (go_at_call 87; ((with_reducible refine (zdC 0 (by decide) (by decide) _ (hE.mono ?_)).mono ?_); ((repeat' (first | with_reducible assumption | with_reducible exact br | with_reducible refine Below.drew ?_ | with_reducible refine Below.alloc ?_ ?_ _ | with_reducible refine Below.setCell ?_ ?_ _ | with_reducible refine Below.step ?_ he2 ?_ | with_reducible refine Below.step ?_ he1 ?_ | (first | exact nl | omega | (simp; done) | (simp; omega) | (unfold World.setCell; simp; done) | (unfold World.setCell; simp; omega)))))); rintro e t1 ⟨⟨J5, ao5, n5, Y5, rfl, HV5⟩, he1⟩; have HT1 : BH wy t1 := (by (repeat' (first | with_reducible assumption | with_reducible exact br | with_reducible refine Below.drew ?_ | with_reducible refine Below.alloc ?_ ?_ _ | with_reducible refine Below.setCell ?_ ?_ _ | with_reducible refine Below.step ?_ he2 ?_ | with_reducible refine Below.step ?_ he1 ?_ | (first | exact nl | omega | (simp; done) | (simp; omega) | (unfold World.setCell; simp; done) | (unfold World.setCell; simp; omega))))); have ht1 := HT1.size; have hX4 := X4.mono HT1; obtain ⟨_, _, _, _⟩ := id hX4)
       | (go_at_call 98; ((with_reducible refine (zlA _ _ 0 ((Int.gcd p q : Nat) : Int) _ (HV5.out.mono ?_) (HV3.out.mono ?_) HG (hE.mono ?_)).mono ?_); ((repeat' (first | with_reducible assumption | with_reducible exact br | with_reducible refine Below.drew ?_ | with_reducible refine Below.alloc ?_ ?_ _ | with_reducible refine Below.setCell ?_ ?_ _ | with_reducible refine Below.step ?_ he2 ?_ | with_reducible refine Below.step ?_ he1 ?_ | (first | exact nl | omega | (simp; done) | (simp; omega) | (unfold World.setCell; simp; done) | (unfold World.setCell; simp; omega))))); ((repeat' (first | with_reducible assumption | with_reducible exact br | with_reducible refine Below.drew ?_ | with_reducible refine Below.alloc ?_ ?_ _ | with_reducible refine Below.setCell ?_ ?_ _ | with_reducible refine Below.step ?_ he2 ?_ | with_reducible refine Below.step ?_ he1 ?_ | (first | exact nl | omega | (simp; done) | (simp; omega) | (unfold World.setCell; simp; done) | (unfold World.setCell; simp; omega))))); ((repeat' (first | with_reducible assumption | with_reducible exact br | with_reducible refine Below.drew ?_ | with_reducible refine Below.alloc ?_ ?_ _ | with_reducible refine Below.setCell ?_ ?_ _ | with_reducible refine Below.step ?_ he2 ?_ | with_reducible refine Below.step ?_ he1 ?_ | (first | exact nl | omega | (simp; done) | (simp; omega) | (unfold World.setCell; simp; done) | (unfold World.setCell; simp; omega)))))); rintro e t2 ⟨⟨J6, ao6, n6, Y6, rfl, HV6⟩, he2⟩; have HT2 : BH wy t2 := (by (repeat' (first | with_reducible assumption | with_reducible exact br | with_reducible refine Below.drew ?_ | with_reducible refine Below.alloc ?_ ?_ _ | with_reducible refine Below.setCell ?_ ?_ _ | with_reducible refine Below.step ?_ he2 ?_ | with_reducible refine Below.step ?_ he1 ?_ | (first | exact nl | omega | (simp; done) | (simp; omega) | (unfold World.setCell; simp; done) | (unfold World.setCell; simp; omega))))); have ht2 := HT2.size; have hX4' := X4.mono HT2; obtain ⟨_, _, _, _⟩ := id hX4'))
    all_goals (go_wp2_with fail; go_meet; exact ⟨t2, J6, ao6, n6, Y6, rfl, HV6, HT2, rfl⟩)
  case rest =>
    obtain ⟨v9, J6, ao6, n6, Y6, rfl, HV6, hb, rfl⟩ := hcut
    have HV1 := hup HV1 hb
    have HV2 := hup HV2 hb
    have X1 := X1.mono hb
    have X2 := X2.mono hb
    have X3 := X3.mono hb
    have HV3 := hup HV3 hb
    have X4 := X4.mono hb
    have hE := hE.mono hb
    have hbw := bu hbw hb
    clear hb
    have HV1 := hii (HV1.out.put2B X4 (.bool J6) (.slice ao6 n6 Y6))
    have HV2 := hii (HV2.out.put2B X4 (.bool J6) (.slice ao6 n6 Y6))
    have X1 := X1.other2 (u := .bool J6) (v := .slice ao6 n6 Y6) (show w.heap.size ≠ v2.heap.size by omega)
    have X2 := X2.other2 (u := .bool J6) (v := .slice ao6 n6 Y6) (show w.heap.size + 1 ≠ v2.heap.size by omega)
    have X3 := X3.other2 (u := .bool J6) (v := .slice ao6 n6 Y6) (show w.heap.size + 1 + 1 ≠ v2.heap.size by omega)
    have HV3 := hii (HV3.out.put2B X4 (.bool J6) (.slice ao6 n6 Y6))
    have HV6 := hii (HV6.out.put2B X4 (.bool J6) (.slice ao6 n6 Y6))
    have X4 := X4.set2I (.bool J6) (.slice ao6 n6 Y6)
    have hbw := Below.put2 hbw (n := v2.heap.size) (by omega) (.bool J6) (.slice ao6 n6 Y6)
    have hE := hE0.mono hbw
    generalize ((v9.setCell ⟨v2.heap.size, 0, none⟩ (.bool J6)).setCell ⟨v2.heap.size, 1, none⟩ (.slice ao6 n6 Y6)) = v10 at *
    clear HV3
    have HG0 : Hid ((0 - ((Int.gcd p q : Nat) : Int)) ≠ 0) := hii (by have := Rq.gcd_pos (p := p) HQ.out; omega)
    obtain ⟨x1a, x1b, _, _⟩ := id X1
    obtain ⟨x4a, x4b, _, _⟩ := id X4
    go_wp2_with fail
    go_fit (zhN _ _ p (0 - ((Int.gcd p q : Nat) : Int)) v10 HV1.out HV6.out HG0 hE)
    rintro e v11 ⟨⟨J7, ao7, n7, Y7, J8, ao8, n8, Y8, rfl, HV7⟩, hb⟩
    have HV2 := hup HV2 hb
    have X1 := X1.mono hb
    have X2 := X2.mono hb
    have X3 := X3.mono hb
    have X4 := X4.mono hb
    have HV6 := hup HV6 hb
    have hE := hE.mono hb
    have hbw := bu hbw hb
    clear hb
    clear x1a x1b x4a x4b
    go_upto_region 9 with fail
    have lX7X1 := X1.lt
    have lX7X2 := X2.lt
    have lX7X3 := X3.lt
    have lX7X4 := X4.lt
    obtain ⟨wx, hwx, hszx, X7, X8, hb⟩ := zbf v11 (.bool J7) (.slice ao7 n7 Y7) 30 (.bool J8) (.slice ao8 n8 Y8) 30
    rw [← hwx]
    clear hwx
    obtain ⟨v12, rfl⟩ := exi wx
    have HV2 := hup HV2 hb
    have X1 := X1.mono hb
    have X2 := X2.mono hb
    have X3 := X3.mono hb
    have X4 := X4.mono hb
    have HV6 := hup HV6 hb
    have HV7 := hup HV7 hb
    have hE := hE.mono hb
    have hbw := bu hbw hb
    clear hb
    obtain ⟨x2a, x2b, _, _⟩ := id X2
    obtain ⟨x4a, x4b, _, _⟩ := id X4
    go_wp2_with fail
    go_fit (zhN _ _ q (0 - ((Int.gcd p q : Nat) : Int)) v12 HV2.out HV6.out HG0 hE)
    rintro e v13 ⟨⟨ngA, aoA, nA, capA, ngB, aoB, nB, capB, rfl, HV9⟩, hb⟩
    have X1 := X1.mono hb
    have X2 := X2.mono hb
    have X3 := X3.mono hb
    have X4 := X4.mono hb
    have HV7 := hup HV7 hb
    have X7 := X7.mono hb
    have X8 := X8.mono hb
    have hbw := bu hbw hb
    clear hb
    clear x2a x2b x4a x4b
    go_upto_region 12 with fail
    have lXAX1 := X1.lt
    have lXAX2 := X2.lt
    have lXAX3 := X3.lt
    have lXAX4 := X4.lt
    have lXAX7 := X7.lt
    have lXAX8 := X8.lt
    obtain ⟨wx, hwx, hszx, XA, XB, hb⟩ := zbf v13 (.bool ngA) (.slice aoA nA capA) 30 (.bool ngB) (.slice aoB nB capB) 30
    rw [← hwx]
    clear hwx
    obtain ⟨v14, rfl⟩ := exi wx
    have X3 := X3.mono hb
    have HV7 := hup HV7 hb
    have X7 := X7.mono hb
    have HV9 := hup HV9 hb
    have hbw := bu hbw hb
    clear hb
    have HN : Hid (p.tdiv (0 - ((Int.gcd p q : Nat) : Int)) = (Rat.divInt p q).num ∧ q.tdiv (0 - ((Int.gcd p q : Nat) : Int)) = ((Rat.divInt p q).den : Int)) := hii ⟨by rw [← Rq.num_of HQ.out]; unfold Rq.gS; rw [if_pos hq.out] , by rw [← Rq.den_of HQ.out]; unfold Rq.gS; rw [if_pos hq.out]⟩
    rw [HN.out.1] at HV7
    rw [HN.out.2] at HV9
    obtain ⟨x7a, x7b, _, _⟩ := id X7
    obtain ⟨cXA_0, cXA_1, _, _⟩ := id XA
    obtain ⟨x3a, x3b, x3c, x3d, _, _, _, _⟩ := id X3
    go_wp2
    refine bodyPost_ret (v := .tuple #[.agg #[.bool J7, .slice ao7 n7 Y7, .bool ngA, .slice aoA nA capA], .int .i64 0]) (by simp [results, Tryz.results135, go_sem, x3a, x3b, x3c, x3d]) rfl ⟨⟨J7, ao7, n7, Y7, ngA, aoA, nA, capA, rfl, hii (HV7.out.put4B X3 (.bool J7) (.slice ao7 n7 Y7) (.bool ngA) (.slice aoA nA capA)), hii (HV9.out.put4B X3 (.bool J7) (.slice ao7 n7 Y7) (.bool ngA) (.slice aoA nA capA))⟩, Below.put4 hbw (by omega) (.bool J7) (.slice ao7 n7 Y7) (.bool ngA) (.slice aoA nA capA)⟩
theorem zgl (a b:Vl) (p q:Int) (w:Wo) (ha:zah w a p) (hb:zah w b q) (hq:Hid (0 < q)) (hE:Env w) :
  CP 135 #[a,b] w λ e w' => zcw w' (Rat.divInt p q) e/\BH w w':=by
 obtain ⟨J1,ao1,n1,Y1,rfl⟩:=ha.parts;obtain ⟨J2,ao2,n2,Y2,rfl⟩:=hb.parts;have HV1:=hii ha;have HV2:=hii hb;clear ha hb;have hbw:=Below.refl w.heap.size w;have HS:Hid (zaH q=1):=hii (by have:=hq.out; unfold zaH; split <;> (try split) <;> omega);have HQ:Hid (q ≠ 0):=hii (by have:=hq.out; omega);go_enter func135,ntmps135;go_upto_region 1 with fail;obtain ⟨wx,hwx,hszx,X1,X2,X3,hb⟩:=zbM w (.bool J1) (.slice ao1 n1 Y1) 30 (.bool J2) (.slice ao2 n2 Y2) 30 bF_ nS_ bF_ nS_ 32;rw [<- hwx];clear hwx;obtain ⟨v1,rfl⟩:=exi wx;have HV1:=hup HV1 hb;have HV2:=hup HV2 hb;have hE:=hE.mono hb;have hbw:=bu hbw hb;clear hb;obtain ⟨x1a,x1b,_,_⟩:=id X1;obtain ⟨x2a,x2b,_,_⟩:=id X2;go_wp2_with fail;go_fit (zhL _ _ p q v1 HV1.out HV2.out hE);rintro e v2 ⟨⟨J3,ao3,n3,Y3,rfl,HV3⟩,hb⟩;have HV1:=hup HV1 hb;have HV2:=hup HV2 hb;have X1:=X1.mono hb;have X2:=X2.mono hb;have X3:=X3.mono hb;have hE:=hE.mono hb;have hbw:=bu hbw hb;clear hb;clear x1a x1b x2a x2b;go_upto_region 2 with fail;have lX4X1:=X1.lt;have lX4X2:=X2.lt;have lX4X3:=X3.lt;have X4:=Box.new v2 (.bool J3) (.slice ao3 n3 Y3) 30;have hb:=bA v2 (.cells #[.bool J3,.slice ao3 n3 Y3] 30);generalize v2.alloc (.cells #[.bool J3,.slice ao3 n3 Y3] 30)=v3 at *;have HV1:=hup HV1 hb;have HV2:=hup HV2 hb;have X1:=X1.mono hb;have X2:=X2.mono hb;have X3:=X3.mono hb;have HV3:=hup HV3 hb;have hE:=hE.mono hb;have hbw:=bu hbw hb;clear hb;obtain ⟨x2a,x2b,_,_⟩:=id X2;go_wp2_with fail;go_fit (zbD _ q (1) v3 HS HV2.out hE);rintro e v4 ⟨rfl,hb⟩;have HV1:=hup HV1 hb;have HV2:=hup HV2 hb;have X1:=X1.mono hb;have X2:=X2.mono hb;have X3:=X3.mono hb;have HV3:=hup HV3 hb;have X4:=X4.mono hb;have hE:=hE.mono hb;have hbw:=bu hbw hb;clear hb;clear x2a x2b;have HV6:=HV3;clear HV3;have HG0:Hid (((Int.gcd p q:Nat):Int) ≠ 0):=hii (by have:=Rq.gcd_pos (p:=p) HQ.out; omega);obtain ⟨x1a,x1b,_,_⟩:=id X1;obtain ⟨x4a,x4b,_,_⟩:=id X4;go_wp2_with fail;go_fit (zhN _ _ p ((Int.gcd p q:Nat):Int) v4 HV1.out HV6.out HG0 hE);rintro e v5 ⟨⟨J7,ao7,n7,Y7,J8,ao8,n8,Y8,rfl,HV7⟩,hb⟩;have HV2:=hup HV2 hb;have X1:=X1.mono hb;have X2:=X2.mono hb;have X3:=X3.mono hb;have X4:=X4.mono hb;have HV6:=hup HV6 hb;have hE:=hE.mono hb;have hbw:=bu hbw hb;clear hb;clear x1a x1b x4a x4b;go_upto_region 9 with fail;have lX7X1:=X1.lt;have lX7X2:=X2.lt;have lX7X3:=X3.lt;have lX7X4:=X4.lt;obtain ⟨wx,hwx,hszx,X7,X8,hb⟩:=zbf v5 (.bool J7) (.slice ao7 n7 Y7) 30 (.bool J8) (.slice ao8 n8 Y8) 30;rw [<- hwx];clear hwx;obtain ⟨v6,rfl⟩:=exi wx;have HV2:=hup HV2 hb;have X1:=X1.mono hb;have X2:=X2.mono hb;have X3:=X3.mono hb;have X4:=X4.mono hb;have HV6:=hup HV6 hb;have HV7:=hup HV7 hb;have hE:=hE.mono hb;have hbw:=bu hbw hb;clear hb;obtain ⟨x2a,x2b,_,_⟩:=id X2;obtain ⟨x4a,x4b,_,_⟩:=id X4;go_wp2_with fail;go_fit (zhN _ _ q ((Int.gcd p q:Nat):Int) v6 HV2.out HV6.out HG0 hE);rintro e v7 ⟨⟨ngA,aoA,nA,capA,ngB,aoB,nB,capB,rfl,HV9⟩,hb⟩;have X1:=X1.mono hb;have X2:=X2.mono hb;have X3:=X3.mono hb;have X4:=X4.mono hb;have HV7:=hup HV7 hb;have X7:=X7.mono hb;have X8:=X8.mono hb;have hbw:=bu hbw hb;clear hb;clear x2a x2b x4a x4b;go_upto_region 12 with fail;have lXAX1:=X1.lt;have lXAX2:=X2.lt;have lXAX3:=X3.lt;have lXAX4:=X4.lt;have lXAX7:=X7.lt;have lXAX8:=X8.lt;obtain ⟨wx,hwx,hszx,XA,XB,hb⟩:=zbf v7 (.bool ngA) (.slice aoA nA capA) 30 (.bool ngB) (.slice aoB nB capB) 30;rw [<- hwx];clear hwx;obtain ⟨v8,rfl⟩:=exi wx;have X3:=X3.mono hb;have HV7:=hup HV7 hb;have X7:=X7.mono hb;have HV9:=hup HV9 hb;have hbw:=bu hbw hb;clear hb;have HN:Hid (p.tdiv ((Int.gcd p q:Nat):Int)=(Rat.divInt p q).num/\q.tdiv ((Int.gcd p q:Nat):Int)=((Rat.divInt p q).den:Int)):=hii ⟨Rq.num_pos hq.out ,Rq.den_pos hq.out⟩;rw [HN.out.1] at HV7;rw [HN.out.2] at HV9;obtain ⟨x7a,x7b,_,_⟩:=id X7;obtain ⟨cXA_0,cXA_1,_,_⟩:=id XA;obtain ⟨x3a,x3b,x3c,x3d,_,_,_,_⟩:=id X3;go_wp2;refine bodyPost_ret (v:=.tuple #[.agg #[.bool J7,.slice ao7 n7 Y7,.bool ngA,.slice aoA nA capA],.int .i64 0]) (by simp [results,Tryz.results135,go_sem,x3a,x3b,x3c,x3d]) rfl ⟨⟨J7,ao7,n7,Y7,ngA,aoA,nA,capA,rfl,hii (HV7.out.put4B X3 (.bool J7) (.slice ao7 n7 Y7) (.bool ngA) (.slice aoA nA capA)),hii (HV9.out.put4B X3 (.bool J7) (.slice ao7 n7 Y7) (.bool ngA) (.slice aoA nA capA))⟩,Below.put4 hbw (by omega) (.bool J7) (.slice ao7 n7 Y7) (.bool ngA) (.slice aoA nA capA)⟩
def zpq (w':Wo) (z:Int) (e:Ending):Prop :=
 ∃ (ng:Bool) (ao:OA) (n cap:Nat),e=.returned (.agg #[.bool ng,.slice ao n cap])/\Hid (zah w' (.agg #[.bool ng,.slice ao n cap]) z)
theorem zgq (w:Wo) (hE:Env w):CP 123 #[] w λ e w' => zpq w' 1 e/\BH w w':=by
 have hbw:=Below.refl w.heap.size w;go_enter func123,ntmps123;go_upto_region 1 with fail;have X0:=Box.new w bF_ nS_ 30;have hb:=bA w (.cells #[bF_,nS_] 30);generalize w.alloc (.cells #[bF_,nS_] 30)=v1 at *;have hE:=hE.mono hb;have hbw:=bu hbw hb;clear hb;go_wp2_with fail;go_fit (zdC 1 (by decide) (by decide) v1 hE);rintro e v2 ⟨⟨J1,ao1,n1,Y1,rfl,HV1⟩,hb⟩;have X0:=X0.mono hb;have hbw:=bu hbw hb;clear hb;obtain ⟨x0a,x0b,_,_⟩:=id X0;go_wp2;refine bodyPost_ret (v:=.agg #[.bool J1,.slice ao1 n1 Y1]) (by simp [results,Tryz.results123,go_sem,x0a,x0b]) rfl ⟨⟨J1,ao1,n1,Y1,rfl,hii (HV1.out.put2B X0 (.bool J1) (.slice ao1 n1 Y1))⟩,Below.put2 hbw (by omega) (.bool J1) (.slice ao1 n1 Y1)⟩
theorem zjT {J1:Bool} {ao1:OA} {n1 Y1:Nat} {J2:Bool} {ao2:OA} {n2 Y2:Nat} (p d:Int) (w:Wo) (hq:Hid (d < 0)) (h1:zah w (.agg #[.bool J1,.slice ao1 n1 Y1]) p) (h2:zah w (.agg #[.bool J2,.slice ao2 n2 Y2]) d) (hE:Env w) :
  CP 71 #[.agg #[.bool J1,.slice ao1 n1 Y1,.bool J2,.slice ao2 n2 Y2]] w λ e w' => e=.returned bF_/\BH w w':=by
 have HV1:=hii h1;have HV2:=hii h2;clear h1 h2;have hbw:=Below.refl w.heap.size w;have HS:Hid (zaH d=-1):=hii (by have:=hq.out; unfold zaH; split <;> (try split) <;> omega);go_enter func71,ntmps71;go_upto_region 1 with fail;have X0:=zaQ.new w (.bool J1) (.slice ao1 n1 Y1) (.bool J2) (.slice ao2 n2 Y2) 32;have hb:=bA w (.cells #[.bool J1,.slice ao1 n1 Y1,.bool J2,.slice ao2 n2 Y2] 32);generalize w.alloc (.cells #[.bool J1,.slice ao1 n1 Y1,.bool J2,.slice ao2 n2 Y2] 32)=v1 at *;have HV1:=hup HV1 hb;have HV2:=hup HV2 hb;have hE:=hE.mono hb;have hbw:=bu hbw hb;clear hb;obtain ⟨x0a,x0b,x0c,x0d,_,_,_,_⟩:=id X0;go_wp2_with fail;go_fit (zbX _ p v1 HV1.out hE);rintro e v2 ⟨rfl,hb⟩;have HV2:=hup HV2 hb;have X0:=X0.mono hb;have hE:=hE.mono hb;have hbw:=bu hbw hb;clear hb;clear x0a x0b x0c x0d;obtain ⟨x0a,x0b,x0c,x0d,_,_,_,_⟩:=id X0;go_wp2_with fail;go_fit (zbX _ d v2 HV2.out hE);rintro e v3 ⟨rfl,hb⟩;have HV2:=hup HV2 hb;have X0:=X0.mono hb;have hE:=hE.mono hb;have hbw:=bu hbw hb;clear hb;clear x0a x0b x0c x0d;obtain ⟨x0a,x0b,x0c,x0d,_,_,_,_⟩:=id X0;go_wp2_with fail;go_fit (zbD _ d (-1) v3 HS HV2.out hE);rintro e v4 ⟨rfl,hb⟩;have hbw:=bu hbw hb;clear hb;clear x0a x0b x0c x0d;go_wp2;go_ret;exact ⟨rfl,hbw⟩
theorem zjS {J1:Bool} {ao1:OA} {n1 Y1:Nat} {J2:Bool} {ao2:OA} {n2 Y2:Nat} (p d:Int) (w:Wo) (hq:Hid (d=0)) (h1:zah w (.agg #[.bool J1,.slice ao1 n1 Y1]) p) (h2:zah w (.agg #[.bool J2,.slice ao2 n2 Y2]) d) (hE:Env w) :
  CP 71 #[.agg #[.bool J1,.slice ao1 n1 Y1,.bool J2,.slice ao2 n2 Y2]] w λ e w' => e=.returned bF_/\BH w w':=by
 have HV1:=hii h1;have HV2:=hii h2;clear h1 h2;have hbw:=Below.refl w.heap.size w;have HS:Hid (zaH d=0):=hii (by have:=hq.out; unfold zaH; split <;> (try split) <;> omega);go_enter func71,ntmps71;go_upto_region 1 with fail;have X0:=zaQ.new w (.bool J1) (.slice ao1 n1 Y1) (.bool J2) (.slice ao2 n2 Y2) 32;have hb:=bA w (.cells #[.bool J1,.slice ao1 n1 Y1,.bool J2,.slice ao2 n2 Y2] 32);generalize w.alloc (.cells #[.bool J1,.slice ao1 n1 Y1,.bool J2,.slice ao2 n2 Y2] 32)=v1 at *;have HV1:=hup HV1 hb;have HV2:=hup HV2 hb;have hE:=hE.mono hb;have hbw:=bu hbw hb;clear hb;obtain ⟨x0a,x0b,x0c,x0d,_,_,_,_⟩:=id X0;go_wp2_with fail;go_fit (zbX _ p v1 HV1.out hE);rintro e v2 ⟨rfl,hb⟩;have HV2:=hup HV2 hb;have X0:=X0.mono hb;have hE:=hE.mono hb;have hbw:=bu hbw hb;clear hb;clear x0a x0b x0c x0d;obtain ⟨x0a,x0b,x0c,x0d,_,_,_,_⟩:=id X0;go_wp2_with fail;go_fit (zbX _ d v2 HV2.out hE);rintro e v3 ⟨rfl,hb⟩;have HV2:=hup HV2 hb;have X0:=X0.mono hb;have hE:=hE.mono hb;have hbw:=bu hbw hb;clear hb;clear x0a x0b x0c x0d;obtain ⟨x0a,x0b,x0c,x0d,_,_,_,_⟩:=id X0;go_wp2_with fail;go_fit (zbD _ d (0) v3 HS HV2.out hE);rintro e v4 ⟨rfl,hb⟩;have hbw:=bu hbw hb;clear hb;clear x0a x0b x0c x0d;go_wp2;go_ret;exact ⟨rfl,hbw⟩
theorem zjQ {J1:Bool} {ao1:OA} {n1 Y1:Nat} {J2:Bool} {ao2:OA} {n2 Y2:Nat} (p d:Int) (w:Wo) (hq:Hid (0 < d/\Int.gcd p d=1)) (h1:zah w (.agg #[.bool J1,.slice ao1 n1 Y1]) p) (h2:zah w (.agg #[.bool J2,.slice ao2 n2 Y2]) d) (hE:Env w) :
  CP 71 #[.agg #[.bool J1,.slice ao1 n1 Y1,.bool J2,.slice ao2 n2 Y2]] w λ e w' => e=.returned (.bool true)/\BH w w':=by
 have HV1:=hii h1;have HV2:=hii h2;clear h1 h2;have hbw:=Below.refl w.heap.size w;have HS:Hid (zaH d=1):=hii (by have:=hq.out; unfold zaH; split <;> (try split) <;> omega);go_enter func71,ntmps71;go_upto_region 1 with fail;have X0:=zaQ.new w (.bool J1) (.slice ao1 n1 Y1) (.bool J2) (.slice ao2 n2 Y2) 32;have hb:=bA w (.cells #[.bool J1,.slice ao1 n1 Y1,.bool J2,.slice ao2 n2 Y2] 32);generalize w.alloc (.cells #[.bool J1,.slice ao1 n1 Y1,.bool J2,.slice ao2 n2 Y2] 32)=v1 at *;have HV1:=hup HV1 hb;have HV2:=hup HV2 hb;have hE:=hE.mono hb;have hbw:=bu hbw hb;clear hb;obtain ⟨x0a,x0b,x0c,x0d,_,_,_,_⟩:=id X0;go_wp2_with fail;go_fit (zbX _ p v1 HV1.out hE);rintro e v2 ⟨rfl,hb⟩;have HV1:=hup HV1 hb;have HV2:=hup HV2 hb;have X0:=X0.mono hb;have hE:=hE.mono hb;have hbw:=bu hbw hb;clear hb;clear x0a x0b x0c x0d;obtain ⟨x0a,x0b,x0c,x0d,_,_,_,_⟩:=id X0;go_wp2_with fail;go_fit (zbX _ d v2 HV2.out hE);rintro e v3 ⟨rfl,hb⟩;have HV1:=hup HV1 hb;have HV2:=hup HV2 hb;have X0:=X0.mono hb;have hE:=hE.mono hb;have hbw:=bu hbw hb;clear hb;clear x0a x0b x0c x0d;obtain ⟨x0a,x0b,x0c,x0d,_,_,_,_⟩:=id X0;go_wp2_with fail;go_fit (zbD _ d (1) v3 HS HV2.out hE);rintro e v4 ⟨rfl,hb⟩;have HV1:=hup HV1 hb;have HV2:=hup HV2 hb;have X0:=X0.mono hb;have hE:=hE.mono hb;have hbw:=bu hbw hb;clear hb;clear x0a x0b x0c x0d;obtain ⟨x0a,x0b,x0c,x0d,_,_,_,_⟩:=id X0;go_wp2_with fail;go_fit (zhL _ _ p d v4 HV1.out HV2.out hE);rintro e v5 ⟨⟨J3,ao3,n3,Y3,rfl,HV3⟩,hb⟩;have X0:=X0.mono hb;have hE:=hE.mono hb;have hbw:=bu hbw hb;clear hb;clear x0a x0b x0c x0d;go_upto_region 4 with fail;have lX3X0:=X0.lt;have X3:=Box.new v5 (.bool J3) (.slice ao3 n3 Y3) 30;have hb:=bA v5 (.cells #[.bool J3,.slice ao3 n3 Y3] 30);generalize v5.alloc (.cells #[.bool J3,.slice ao3 n3 Y3] 30)=v6 at *;have HV3:=hup HV3 hb;have hE:=hE.mono hb;have hbw:=bu hbw hb;clear hb;obtain ⟨cv,hcv,hc0⟩:∃ cv:Int,zdb ((Int.gcd p d:Nat):Int) 1=cv/\(cv == 0)=true:=⟨_,rfl,by have:=hq.out; unfold zdb; split <;> (try split) <;> simp <;> omega⟩;have HC:=hii hcv;clear hcv;obtain ⟨wy,rfl⟩:=exi v6;go_cut [2] (λ s2 wc => s2=.bool true/\BH wy wc)
 case first =>
  obtain ⟨_,_,_,_⟩:=id X3;go_region_with (first
   | (go_at_call 123; ((with_reducible refine (zgq _ (hE.mono ?_)).mono ?_); ((repeat' (first | with_reducible assumption | with_reducible exact br | with_reducible refine Below.drew ?_ | with_reducible refine Below.alloc ?_ ?_ _ | with_reducible refine Below.setCell ?_ ?_ _ | with_reducible refine Below.step ?_ he2 ?_ | with_reducible refine Below.step ?_ he1 ?_ | (first | exact nl | omega | (simp; done) | (simp; omega) | (unfold World.setCell; simp; done) | (unfold World.setCell; simp; omega)))))); rintro e t1 ⟨⟨J5,ao5,n5,Y5,rfl,HV5⟩,he1⟩; have HT1:BH wy t1:=(by (repeat' (first | with_reducible assumption | with_reducible exact br | with_reducible refine Below.drew ?_ | with_reducible refine Below.alloc ?_ ?_ _ | with_reducible refine Below.setCell ?_ ?_ _ | with_reducible refine Below.step ?_ he2 ?_ | with_reducible refine Below.step ?_ he1 ?_ | (first | exact nl | omega | (simp; done) | (simp; omega) | (unfold World.setCell; simp; done) | (unfold World.setCell; simp; omega))))); have ht1:=HT1.size; have hX3:=X3.mono HT1; obtain ⟨_,_,_,_⟩:=id hX3)
   | (go_at_call 97; ((with_reducible refine (zj8 _ _ ((Int.gcd p d:Nat):Int) 1 cv _ HC (HV3.out.mono ?_) (HV5.out.mono ?_) (hE.mono ?_)).mono ?_); ((repeat' (first | with_reducible assumption | with_reducible exact br | with_reducible refine Below.drew ?_ | with_reducible refine Below.alloc ?_ ?_ _ | with_reducible refine Below.setCell ?_ ?_ _ | with_reducible refine Below.step ?_ he2 ?_ | with_reducible refine Below.step ?_ he1 ?_ | (first | exact nl | omega | (simp; done) | (simp; omega) | (unfold World.setCell; simp; done) | (unfold World.setCell; simp; omega))))); ((repeat' (first | with_reducible assumption | with_reducible exact br | with_reducible refine Below.drew ?_ | with_reducible refine Below.alloc ?_ ?_ _ | with_reducible refine Below.setCell ?_ ?_ _ | with_reducible refine Below.step ?_ he2 ?_ | with_reducible refine Below.step ?_ he1 ?_ | (first | exact nl | omega | (simp; done) | (simp; omega) | (unfold World.setCell; simp; done) | (unfold World.setCell; simp; omega))))); ((repeat' (first | with_reducible assumption | with_reducible exact br | with_reducible refine Below.drew ?_ | with_reducible refine Below.alloc ?_ ?_ _ | with_reducible refine Below.setCell ?_ ?_ _ | with_reducible refine Below.step ?_ he2 ?_ | with_reducible refine Below.step ?_ he1 ?_ | (first | exact nl | omega | (simp; done) | (simp; omega) | (unfold World.setCell; simp; done) | (unfold World.setCell; simp; omega)))))); rintro e t2 ⟨rfl,he2⟩; have HT2:BH wy t2:=(by (repeat' (first | with_reducible assumption | with_reducible exact br | with_reducible refine Below.drew ?_ | with_reducible refine Below.alloc ?_ ?_ _ | with_reducible refine Below.setCell ?_ ?_ _ | with_reducible refine Below.step ?_ he2 ?_ | with_reducible refine Below.step ?_ he1 ?_ | (first | exact nl | omega | (simp; done) | (simp; omega) | (unfold World.setCell; simp; done) | (unfold World.setCell; simp; omega))))); have ht2:=HT2.size))
  all_goals (go_wp2_with fail; go_meet; exact ⟨rfl,HT2⟩)
 case rest =>
  obtain ⟨rfl,hb⟩:=hcut;have hbw:=bu hbw hb;go_wp2;go_ret;exact ⟨rfl,hbw⟩
theorem zjU {J1:Bool} {ao1:OA} {n1 Y1:Nat} {J2:Bool} {ao2:OA} {n2 Y2:Nat} (p d:Int) (w:Wo) (hq:Hid (0 < d/\Int.gcd p d ≠ 1)) (h1:zah w (.agg #[.bool J1,.slice ao1 n1 Y1]) p) (h2:zah w (.agg #[.bool J2,.slice ao2 n2 Y2]) d) (hE:Env w) :
  CP 71 #[.agg #[.bool J1,.slice ao1 n1 Y1,.bool J2,.slice ao2 n2 Y2]] w λ e w' => e=.returned bF_/\BH w w':=by
 have HV1:=hii h1;have HV2:=hii h2;clear h1 h2;have hbw:=Below.refl w.heap.size w;have HS:Hid (zaH d=1):=hii (by have:=hq.out; unfold zaH; split <;> (try split) <;> omega);go_enter func71,ntmps71;go_upto_region 1 with fail;have X0:=zaQ.new w (.bool J1) (.slice ao1 n1 Y1) (.bool J2) (.slice ao2 n2 Y2) 32;have hb:=bA w (.cells #[.bool J1,.slice ao1 n1 Y1,.bool J2,.slice ao2 n2 Y2] 32);generalize w.alloc (.cells #[.bool J1,.slice ao1 n1 Y1,.bool J2,.slice ao2 n2 Y2] 32)=v1 at *;have HV1:=hup HV1 hb;have HV2:=hup HV2 hb;have hE:=hE.mono hb;have hbw:=bu hbw hb;clear hb;obtain ⟨x0a,x0b,x0c,x0d,_,_,_,_⟩:=id X0;go_wp2_with fail;go_fit (zbX _ p v1 HV1.out hE);rintro e v2 ⟨rfl,hb⟩;have HV1:=hup HV1 hb;have HV2:=hup HV2 hb;have X0:=X0.mono hb;have hE:=hE.mono hb;have hbw:=bu hbw hb;clear hb;clear x0a x0b x0c x0d;obtain ⟨x0a,x0b,x0c,x0d,_,_,_,_⟩:=id X0;go_wp2_with fail;go_fit (zbX _ d v2 HV2.out hE);rintro e v3 ⟨rfl,hb⟩;have HV1:=hup HV1 hb;have HV2:=hup HV2 hb;have X0:=X0.mono hb;have hE:=hE.mono hb;have hbw:=bu hbw hb;clear hb;clear x0a x0b x0c x0d;obtain ⟨x0a,x0b,x0c,x0d,_,_,_,_⟩:=id X0;go_wp2_with fail;go_fit (zbD _ d (1) v3 HS HV2.out hE);rintro e v4 ⟨rfl,hb⟩;have HV1:=hup HV1 hb;have HV2:=hup HV2 hb;have X0:=X0.mono hb;have hE:=hE.mono hb;have hbw:=bu hbw hb;clear hb;clear x0a x0b x0c x0d;obtain ⟨x0a,x0b,x0c,x0d,_,_,_,_⟩:=id X0;go_wp2_with fail;go_fit (zhL _ _ p d v4 HV1.out HV2.out hE);rintro e v5 ⟨⟨J3,ao3,n3,Y3,rfl,HV3⟩,hb⟩;have X0:=X0.mono hb;have hE:=hE.mono hb;have hbw:=bu hbw hb;clear hb;clear x0a x0b x0c x0d;go_upto_region 4 with fail;have lX3X0:=X0.lt;have X3:=Box.new v5 (.bool J3) (.slice ao3 n3 Y3) 30;have hb:=bA v5 (.cells #[.bool J3,.slice ao3 n3 Y3] 30);generalize v5.alloc (.cells #[.bool J3,.slice ao3 n3 Y3] 30)=v6 at *;have HV3:=hup HV3 hb;have hE:=hE.mono hb;have hbw:=bu hbw hb;clear hb;obtain ⟨cv,hcv,hc0⟩:∃ cv:Int,zdb ((Int.gcd p d:Nat):Int) 1=cv/\(cv == 0)=false:=⟨_,rfl,by have:=hq.out; unfold zdb; split <;> (try split) <;> simp <;> omega⟩;have HC:=hii hcv;clear hcv;obtain ⟨wy,rfl⟩:=exi v6;go_cut [2] (λ s2 wc => s2=bF_/\BH wy wc)
 case first =>
  obtain ⟨_,_,_,_⟩:=id X3;go_region_with (first
   | (go_at_call 123; ((with_reducible refine (zgq _ (hE.mono ?_)).mono ?_); ((repeat' (first | with_reducible assumption | with_reducible exact br | with_reducible refine Below.drew ?_ | with_reducible refine Below.alloc ?_ ?_ _ | with_reducible refine Below.setCell ?_ ?_ _ | with_reducible refine Below.step ?_ he2 ?_ | with_reducible refine Below.step ?_ he1 ?_ | (first | exact nl | omega | (simp; done) | (simp; omega) | (unfold World.setCell; simp; done) | (unfold World.setCell; simp; omega)))))); rintro e t1 ⟨⟨J5,ao5,n5,Y5,rfl,HV5⟩,he1⟩; have HT1:BH wy t1:=(by (repeat' (first | with_reducible assumption | with_reducible exact br | with_reducible refine Below.drew ?_ | with_reducible refine Below.alloc ?_ ?_ _ | with_reducible refine Below.setCell ?_ ?_ _ | with_reducible refine Below.step ?_ he2 ?_ | with_reducible refine Below.step ?_ he1 ?_ | (first | exact nl | omega | (simp; done) | (simp; omega) | (unfold World.setCell; simp; done) | (unfold World.setCell; simp; omega))))); have ht1:=HT1.size; have hX3:=X3.mono HT1; obtain ⟨_,_,_,_⟩:=id hX3)
   | (go_at_call 97; ((with_reducible refine (zj8 _ _ ((Int.gcd p d:Nat):Int) 1 cv _ HC (HV3.out.mono ?_) (HV5.out.mono ?_) (hE.mono ?_)).mono ?_); ((repeat' (first | with_reducible assumption | with_reducible exact br | with_reducible refine Below.drew ?_ | with_reducible refine Below.alloc ?_ ?_ _ | with_reducible refine Below.setCell ?_ ?_ _ | with_reducible refine Below.step ?_ he2 ?_ | with_reducible refine Below.step ?_ he1 ?_ | (first | exact nl | omega | (simp; done) | (simp; omega) | (unfold World.setCell; simp; done) | (unfold World.setCell; simp; omega))))); ((repeat' (first | with_reducible assumption | with_reducible exact br | with_reducible refine Below.drew ?_ | with_reducible refine Below.alloc ?_ ?_ _ | with_reducible refine Below.setCell ?_ ?_ _ | with_reducible refine Below.step ?_ he2 ?_ | with_reducible refine Below.step ?_ he1 ?_ | (first | exact nl | omega | (simp; done) | (simp; omega) | (unfold World.setCell; simp; done) | (unfold World.setCell; simp; omega))))); ((repeat' (first | with_reducible assumption | with_reducible exact br | with_reducible refine Below.drew ?_ | with_reducible refine Below.alloc ?_ ?_ _ | with_reducible refine Below.setCell ?_ ?_ _ | with_reducible refine Below.step ?_ he2 ?_ | with_reducible refine Below.step ?_ he1 ?_ | (first | exact nl | omega | (simp; done) | (simp; omega) | (unfold World.setCell; simp; done) | (unfold World.setCell; simp; omega)))))); rintro e t2 ⟨rfl,he2⟩; have HT2:BH wy t2:=(by (repeat' (first | with_reducible assumption | with_reducible exact br | with_reducible refine Below.drew ?_ | with_reducible refine Below.alloc ?_ ?_ _ | with_reducible refine Below.setCell ?_ ?_ _ | with_reducible refine Below.step ?_ he2 ?_ | with_reducible refine Below.step ?_ he1 ?_ | (first | exact nl | omega | (simp; done) | (simp; omega) | (unfold World.setCell; simp; done) | (unfold World.setCell; simp; omega))))); have ht2:=HT2.size))
  all_goals (go_wp2_with fail; go_meet; exact ⟨rfl,HT2⟩)
 case rest =>
  obtain ⟨rfl,hb⟩:=hcut;have hbw:=bu hbw hb;go_wp2;go_ret;exact ⟨rfl,hbw⟩
theorem zjR (x1 x2:Bool) (l1 l2:LN) (a1 a2:OA) (c1 c2:Nat) (w:Wo) (m1:l1.length<=1000000000) (_m2:l2.length<=1000000000) (u1:U w a1 l1) (u2:U w a2 l2) (hv:Hid (¬ zaE x1 l1)) (hE:Env w) :
  CP 71 #[.agg #[.bool x1,.slice a1 l1.length c1,.bool x2,.slice a2 l2.length c2]] w λ e w' => e=.returned bF_/\BH w w':=by
 have hbw:=Below.refl w.heap.size w;go_enter func71,ntmps71;go_upto_region 1 with fail;have X0:=zaQ.new w (.bool x1) (.slice a1 l1.length c1) (.bool x2) (.slice a2 l2.length c2) 32;have hb:=bA w (.cells #[.bool x1,.slice a1 l1.length c1,.bool x2,.slice a2 l2.length c2] 32);generalize w.alloc (.cells #[.bool x1,.slice a1 l1.length c1,.bool x2,.slice a2 l2.length c2] 32)=v1 at *;have u1:=u1.mono hb;have hE:=hE.mono hb;have hbw:=bu hbw hb;clear hb;obtain ⟨x0a,x0b,x0c,x0d,_,_,_,_⟩:=id X0;go_wp2_with fail;go_fit (zgT x1 l1 a1 c1 v1 m1 hv u1 hE);rintro e v2 ⟨rfl,hb⟩;have hbw:=bu hbw hb;clear hb;clear x0a x0b x0c x0d;go_wp2;go_ret;exact ⟨rfl,hbw⟩
theorem zjV (x1 x2:Bool) (l1 l2:LN) (a1 a2:OA) (c1 c2:Nat) (w:Wo) (m1:l1.length<=1000000000) (m2:l2.length<=1000000000) (u1:U w a1 l1) (u2:U w a2 l2) (hv:Hid (Hid (zaE x1 l1)/\Hid (¬ zaE x2 l2))) (hE:Env w) :
  CP 71 #[.agg #[.bool x1,.slice a1 l1.length c1,.bool x2,.slice a2 l2.length c2]] w λ e w' => e=.returned bF_/\BH w w':=by
 have hbw:=Below.refl w.heap.size w;go_enter func71,ntmps71;go_upto_region 1 with fail;have X0:=zaQ.new w (.bool x1) (.slice a1 l1.length c1) (.bool x2) (.slice a2 l2.length c2) 32;have hb:=bA w (.cells #[.bool x1,.slice a1 l1.length c1,.bool x2,.slice a2 l2.length c2] 32);generalize w.alloc (.cells #[.bool x1,.slice a1 l1.length c1,.bool x2,.slice a2 l2.length c2] 32)=v1 at *;have u1:=u1.mono hb;have u2:=u2.mono hb;have hE:=hE.mono hb;have hbw:=bu hbw hb;clear hb;obtain ⟨x0a,x0b,x0c,x0d,_,_,_,_⟩:=id X0;go_wp2_with fail;go_fit (ziA x1 l1 a1 c1 v1 m1 hv.out.1 u1 hE);rintro e v2 ⟨rfl,hb⟩;have u2:=u2.mono hb;have X0:=X0.mono hb;have hE:=hE.mono hb;have hbw:=bu hbw hb;clear hb;clear x0a x0b x0c x0d;obtain ⟨x0a,x0b,x0c,x0d,_,_,_,_⟩:=id X0;go_wp2_with fail;go_fit (zgT x2 l2 a2 c2 v2 m2 hv.out.2 u2 hE);rintro e v3 ⟨rfl,hb⟩;have hbw:=bu hbw hb;clear hb;clear x0a x0b x0c x0d;go_wp2;go_ret;exact ⟨rfl,hbw⟩
def zjW (x1:Bool) (l1:LN) (x2:Bool) (l2:LN):Prop :=
 ∃ r:Rat,x1=decide (r.num < 0)/\l1=Bi.limbs r.num.natAbs/\Rq.Sm r.num/\x2=false/\l2=Bi.limbs r.den/\Rq.Sm (r.den:Int)
def VQ (w:Wo) (v:Vl) (b:Bool):Prop :=
 ∃ (x1 x2:Bool) (l1 l2:LN) (a1 a2:OA) (c1 c2:Nat),v=.agg #[.bool x1,.slice a1 l1.length c1,.bool x2,.slice a2 l2.length c2]/\l1.length<=1000000000/\l2.length<=1000000000/\l1.length<=c1/\l2.length<=c2/\U w a1 l1/\U w a2 l2/\Hid (b=true↔zjW x1 l1 x2 l2)
theorem VQ.mono {w w':Wo} {v:Vl} {b:Bool} (h:VQ w v b) (hb:BH w w'):VQ w' v b:=by
 obtain ⟨x1,x2,l1,l2,a1,a2,c1,c2,e,h1,h2,k1,k2,h3,h4,h5⟩:=h;exact ⟨x1,x2,l1,l2,a1,a2,c1,c2,e,h1,h2,k1,k2,h3.mono hb,h4.mono hb,h5⟩
theorem zad.parts {w:Wo} {v:Vl} {r:Rat} (h:zad w v r):∃ (ng:Bool) (ao:OA) (n cap:Nat) (J2:Bool) (ao2:OA) (n2 Y2:Nat),v=.agg #[.bool ng,.slice ao n cap,.bool J2,.slice ao2 n2 Y2]:=by
 obtain ⟨n1,a1,l1,c1,n2,a2,l2,c2,e,_⟩:=h;exact ⟨_,_,_,_,_,_,_,_,e⟩
theorem zad.vq {w:Wo} {v:Vl} {r:Rat} (h:zad w v r):VQ w v true:=by
 obtain ⟨n1,a1,l1,c1,n2,a2,l2,c2,e,h1,h2⟩:=h;obtain ⟨m1,b1,L1,d1,e1,Hn1,HL1,HB1,hk1,hl1,hU1⟩:=h1;obtain ⟨m2,b2,L2,d2,e2,Hn2,HL2,HB2,hk2,hl2,hU2⟩:=h2;simp only [Value.agg.injEq,Array.mk.injEq,List.cons.injEq,Value.bool.injEq,Value.slice.injEq,and_true] at e1 e2;obtain ⟨rfl,rfl,rfl,rfl⟩:=e1;obtain ⟨rfl,rfl,rfl,rfl⟩:=e2;refine ⟨n1,n2,L1,L2,a1,a2,c1,c2,e,by omega,by omega,hk1,hk2,hU1,hU2,hii ⟨λ _ => ⟨r,Hn1.out,HL1.out,HB1.out,?_,?_,HB2.out⟩,λ _ => rfl⟩⟩
 ·rw [Hn2.out]; simp
 ·rw [HL2.out,Int.natAbs_natCast]
theorem VQ.rat {w:Wo} {v:Vl} (h:VQ w v true):∃ r,zad w v r:=by
 obtain ⟨x1,x2,l1,l2,a1,a2,c1,c2,e,h1,h2,k1,k2,h3,h4,h5⟩:=h;obtain ⟨r,e1,e2,e3,e4,e5,e6⟩:=h5.out.1 rfl;refine ⟨r,x1,a1,_,c1,x2,a2,_,c2,e,⟨x1,a1,l1,c1,rfl,hii e1,hii e2,hii e3,k1,by rw [e2]; exact zau e3,h3⟩,⟨x2,a2,l2,c2,rfl,hii ?_,hii ?_,hii e6,k2,?_,h4⟩⟩
 ·rw [e4]; simp
 ·rw [e5,Int.natAbs_natCast]
 ·rw [e5]; exact zau (by have:=e6; unfold Rq.Sm at this; rwa [Int.natAbs_natCast] at this)
theorem zlr {w:Wo} {x:Bool} {l:LN} {a:OA} {c:Nat} (hv:zaE x l) (hc:l.length<=c) (hU:U w a l):∃ z:Int,zah w (.agg #[.bool x,.slice a l.length c]) z/\x=decide (z < 0)/\l=Bi.limbs z.natAbs/\Rq.Sm z:=by
 obtain ⟨z,h1,h2,h3,h4⟩:=zf9 hv;exact ⟨z,zah.mk' (hii h1) (hii h2) (hii h3) hc h4 hU,h1,h2,h3⟩
theorem ziB {x1 x2:Bool} {l1 l2:LN} {p d:Int} (h1:x1=decide (p < 0)) (h2:l1=Bi.limbs p.natAbs) (h3:Rq.Sm p) (h4:x2=decide (d < 0)) (h5:l2=Bi.limbs d.natAbs) (h6:Rq.Sm d) (hv:Rq.VP p d):zjW x1 l1 x2 l2:=by
 obtain ⟨r,e1,e2⟩:=hv.rat;have hd:=hv.1;refine ⟨r,by rw [e1]; exact h1,by rw [e1]; exact h2,by rw [e1]; exact h3,?_,?_,by rw [e2]; exact h6⟩
 ·rw [h4]; simp; omega
 ·rw [h5]; congr 1; omega
theorem zdP (v:Vl) (w:Wo) (h:VQ w v false) (hE:Env w) :
  CP 71 #[v] w λ e w' => e=.returned bF_/\BH w w':=by
 obtain ⟨x1,x2,l1,l2,a1,a2,c1,c2,rfl,h1,h2,k1,k2,h3,h4,h5⟩:=h;have hn:¬ zjW x1 l1 x2 l2:=λ h => by simpa using h5.out.2 h
 by_cases v1:zaE x1 l1
 ·by_cases v2:zaE x2 l2
  ·obtain ⟨p,hp,p1,p2,p3⟩:=zlr v1 k1 h3;obtain ⟨d,hd,d1,d2,d3⟩:=zlr v2 k2 h4;rcases Int.lt_trichotomy d 0 with hd0 | hd0 | hd0
   ·exact zjT p d w (hii hd0) hp hd hE
   ·exact zjS p d w (hii hd0) hp hd hE
   ·exact zjU p d w (hii ⟨hd0,λ hg => hn (ziB p1 p2 p3 d1 d2 d3 ⟨hd0,hg⟩)⟩) hp hd hE
  ·exact zjV x1 x2 l1 l2 a1 a2 c1 c2 w h1 h2 h3 h4 (hii ⟨hii v1,hii v2⟩) hE
 ·exact zjR x1 x2 l1 l2 a1 a2 c1 c2 w h1 h2 h3 h4 (hii v1) hE
theorem zav (v:Vl) (r:Rat) (w:Wo) (h:zad w v r) (hE:Env w) :
  CP 71 #[v] w λ e w' => e=.returned (.bool true)/\BH w w':=by
 obtain ⟨n1,a1,l1,c1,n2,a2,l2,c2,rfl,h1,h2⟩:=h;exact zjQ r.num (r.den:Int) w (hii (Rq.vp_rat r)) h1 h2 hE
theorem ze7 (v:Vl) (b:Bool) (w:Wo) (h:VQ w v b) (hE:Env w) :
  CP 71 #[v] w λ e w' => e=.returned (.bool b)/\BH w w':=by
 cases b
 ·exact zdP v w h hE
 ·obtain ⟨r,hr⟩:=h.rat;exact zav v r w hr hE
theorem zbR (a b:Vl) (p q:Int) (w:Wo) (ha:zah w a p) (hb:zah w b q) (hq:Hid (q ≠ 0)) (hE:Env w) :
  CP 135 #[a,b] w λ e w' => zcw w' (Rat.divInt p q) e/\BH w w':=by
 rcases Int.lt_trichotomy q 0 with h | h | h
 ·exact zgm a b p q w ha hb (hii h) hE
 ·exact absurd h hq.out
 ·exact zgl a b p q w ha hb (hii h) hE
def KQ (k:Int) (P:Prop):Prop:=(k=0/\P)\/(k=3/\¬ P)
theorem KQ.ex (P:Prop):∃ k,KQ k P:=by
 by_cases h:P
 ·exact ⟨0,.inl ⟨rfl,h⟩⟩
 ·exact ⟨3,.inr ⟨rfl,h⟩⟩
theorem KQ.yes {k:Int} {P:Prop} (h:KQ k P) (hp:P):k=0:=by
 rcases h with h | h
 ·exact h.1
 ·exact absurd hp h.2
theorem KQ.no {k:Int} {P:Prop} (h:KQ k P) (hp:¬ P):k=3:=by
 rcases h with h | h
 ·exact absurd h.2 hp
 ·exact h.1
def zk (k z:Int):Int:=if k=0 then z else 0
theorem zbZ (z:Int):zk 0 z=z:=rfl
theorem zfd (z:Int):zk 3 z=0:=rfl
def IK (k z:Int) (w':Wo) (e:Ending):Prop :=
 ∃ (ng:Bool) (ao:OA) (n cap:Nat),e=.returned (.tuple #[.agg #[.bool ng,.slice ao n cap],.int .i64 k])/\Hid (zah w' (.agg #[.bool ng,.slice ao n cap]) (zk k z))
abbrev OpI (fn:Nat) (op:Int->Int->Int):Prop:=∀ (u v:Vl) (x y k:Int) (W:Wo),zah W u x->zah W v y->Hid (KQ k (Rq.Sm (op x y)))->Env W->CP fn #[u,v] W λ e w' => IK k (op x y) w' e/\BH W w'
theorem zf1:OpI 138 (· * ·):=by
 intro u v x y k W hu hv hk hE;rcases hk.out with ⟨rfl,h⟩ | ⟨rfl,h⟩
 ·exact (zn6 u v x y W hu hv (hii h) hE).mono λ e w' ⟨⟨ng,ao,n,cap,e1,h1⟩,hb⟩ => ⟨⟨ng,ao,n,cap,e1,by rw [zbZ]; exact h1⟩,hb⟩
 ·exact (zmN u v x y W hu hv (hii h) hE).mono λ e w' ⟨e1,hb⟩ => ⟨⟨false,none,0,0,e1,by rw [zfd]; exact hii (zah.zero _)⟩,hb⟩
theorem zoc:OpI 95 (· + ·):=by
 intro u v x y k W hu hv hk hE;rcases hk.out with ⟨rfl,h⟩ | ⟨rfl,h⟩
 ·exact (zob u v x y W hu hv (hii h) hE).mono λ e w' ⟨⟨ng,ao,n,cap,e1,h1⟩,hb⟩ => ⟨⟨ng,ao,n,cap,e1,by rw [zbZ]; exact h1⟩,hb⟩
 ·exact (zmZ u v x y W hu hv (hii h) hE).mono λ e w' ⟨e1,hb⟩ => ⟨⟨false,none,0,0,e1,by rw [zfd]; exact hii (zah.zero _)⟩,hb⟩
theorem znV:OpI 98 (· - ·):=by
 intro u v x y k W hu hv hk hE;rcases hk.out with ⟨rfl,h⟩ | ⟨rfl,h⟩
 ·exact (zlA u v x y W hu hv (hii h) hE).mono λ e w' ⟨⟨ng,ao,n,cap,e1,h1⟩,hb⟩ => ⟨⟨ng,ao,n,cap,e1,by rw [zbZ]; exact h1⟩,hb⟩
 ·exact (zmH u v x y W hu hv (hii h) hE).mono λ e w' ⟨e1,hb⟩ => ⟨⟨false,none,0,0,e1,by rw [zfd]; exact hii (zah.zero _)⟩,hb⟩
theorem zdz:OpI 33 (· * ·):=by
 intro u v x y k W hu hv hk hE;rcases hk.out with ⟨rfl,h⟩ | ⟨rfl,h⟩
 ·exact (zlZ u v x y W hu hv (hii h)).mono λ e w' ⟨⟨ng,ao,n,cap,e1,h1⟩,hb⟩ => ⟨⟨ng,ao,n,cap,e1,by rw [zbZ]; exact h1⟩,hb⟩
 ·exact (zkw u v x y W hu hv (hii h)).mono λ e w' ⟨e1,hb⟩ => ⟨⟨false,none,0,0,e1,by rw [zfd]; exact hii (zah.zero _)⟩,hb⟩
theorem zl3:OpI 99 (· + ·):=by
 intro u v x y k W hu hv hk hE;rcases hk.out with ⟨rfl,h⟩ | ⟨rfl,h⟩
 ·exact (zl1 u v x y W hu hv (hii h)).mono λ e w' ⟨⟨ng,ao,n,cap,e1,h1⟩,hb⟩ => ⟨⟨ng,ao,n,cap,e1,by rw [zbZ]; exact h1⟩,hb⟩
 ·exact (zkz u v x y W hu hv (hii h)).mono λ e w' ⟨e1,hb⟩ => ⟨⟨false,none,0,0,e1,by rw [zfd]; exact hii (zah.zero _)⟩,hb⟩
def CrS (a b:Rat):Prop:=Rq.Sm (a.num * b.den)/\Rq.Sm (b.num * a.den)
theorem zad.mk' {w:Wo} {J1:Bool} {ao1:OA} {n1 Y1:Nat} {J2:Bool} {ao2:OA} {n2 Y2:Nat} {r:Rat} (h1:Hid (zah w (.agg #[.bool J1,.slice ao1 n1 Y1]) r.num)) (h2:Hid (zah w (.agg #[.bool J2,.slice ao2 n2 Y2]) (r.den:Int))) :
  zad w (qA J1 ao1 n1 Y1 J2 ao2 n2 Y2) r:=⟨_,_,_,_,_,_,_,_,rfl,h1.out,h2.out⟩
def zpp (k x y:Int) (w':Wo) (e:Ending):Prop :=
 ∃ (n1:Bool) (a1:OA) (l1 c1:Nat) (n2:Bool) (a2:OA) (l2 c2:Nat),e=.returned (.tuple #[.agg #[.bool n1,.slice a1 l1 c1],.agg #[.bool n2,.slice a2 l2 c2],.int .i64 k]) /\
  Hid (zah w' (.agg #[.bool n1,.slice a1 l1 c1]) (zk k x))/\Hid (zah w' (.agg #[.bool n2,.slice a2 l2 c2]) (zk k y))
theorem zfQ (va vb:Vl) (a b:Rat) (k:Int) (w:Wo) (ha:zad w va a) (hb:zad w vb b) (hs:Hid (KQ k (CrS a b))) (hE:Env w) :
  CP 96 #[va,vb] w λ e w' => zpp k (a.num * b.den) (b.num * a.den) w' e/\BH w w':=by
 obtain ⟨k1,h_k1⟩:=KQ.ex (Rq.Sm (a.num * (b.den:Int)));have H_k1:=hii h_k1;clear h_k1;obtain ⟨k2,h_k2⟩:=KQ.ex (Rq.Sm (b.num * (a.den:Int)));have H_k2:=hii h_k2;clear h_k2;have hbw:=Below.refl w.heap.size w;obtain ⟨J1,ao1,n1,Y1,J2,ao2,n2,Y2,rfl,h1,h2⟩:=ha;have HV1:=hii h1;have HV2:=hii h2;clear h1 h2;obtain ⟨J3,ao3,n3,Y3,J4,ao4,n4,Y4,rfl,h1,h2⟩:=hb;have HV3:=hii h1;have HV4:=hii h2;clear h1 h2;go_enter func96,ntmps96;go_upto_region 1 with fail;obtain ⟨wx,hwx,hszx,X1,X2,X3,X4,hb⟩:=zii w (.bool J1) (.slice ao1 n1 Y1) (.bool J2) (.slice ao2 n2 Y2) 32 (.bool J3) (.slice ao3 n3 Y3) (.bool J4) (.slice ao4 n4 Y4) 32 bF_ nS_ 30 bF_ nS_ 30;rw [<- hwx];clear hwx;obtain ⟨v1,rfl⟩:=exi wx;have HV1:=hup HV1 hb;have HV2:=hup HV2 hb;have HV3:=hup HV3 hb;have HV4:=hup HV4 hb;have hE:=hE.mono hb;have hbw:=bu hbw hb;clear hb;obtain ⟨x1a,x1b,x1c,x1d,_,_,_,_⟩:=id X1;obtain ⟨x2a,x2b,x2c,x2d,_,_,_,_⟩:=id X2;go_wp2_with fail;go_fit (zf1 _ _ a.num (b.den:Int) k1 v1 HV1.out HV4.out H_k1 hE);rintro e v2 ⟨⟨J5,ao5,n5,Y5,rfl,HV5⟩,hb⟩;have HV2:=hup HV2 hb;have HV3:=hup HV3 hb;have X1:=X1.mono hb;have X2:=X2.mono hb;have X3:=X3.mono hb;have X4:=X4.mono hb;have hE:=hE.mono hb;have hbw:=bu hbw hb;clear hb;clear x1a x1b x1c x1d x2a x2b x2c x2d;go_upto_region 2 with fail;have lX5X1:=X1.lt;have lX5X2:=X2.lt;have lX5X3:=X3.lt;have lX5X4:=X4.lt;have X5:=Box.new v2 (.bool J5) (.slice ao5 n5 Y5) 30;have hb:=bA v2 (.cells #[.bool J5,.slice ao5 n5 Y5] 30);generalize v2.alloc (.cells #[.bool J5,.slice ao5 n5 Y5] 30)=v3 at *;have HV2:=hup HV2 hb;have HV3:=hup HV3 hb;have X1:=X1.mono hb;have X2:=X2.mono hb;have X3:=X3.mono hb;have X4:=X4.mono hb;have HV5:=hup HV5 hb;have hE:=hE.mono hb;have hbw:=bu hbw hb;clear hb;rcases H_k1.out with ⟨rfl,h_k1⟩ | ⟨rfl,h_k1⟩
 ·have G_k1:=hii h_k1;clear h_k1;rw [zbZ] at HV5;obtain ⟨x1a,x1b,x1c,x1d,_,_,_,_⟩:=id X1;obtain ⟨x2a,x2b,x2c,x2d,_,_,_,_⟩:=id X2;go_wp2_with fail;go_fit (zf1 _ _ b.num (a.den:Int) k2 v3 HV3.out HV2.out H_k2 hE);rintro e v4 ⟨⟨J6,ao6,n6,Y6,rfl,HV6⟩,hb⟩;have X1:=X1.mono hb;have X2:=X2.mono hb;have X3:=X3.mono hb;have X4:=X4.mono hb;have HV5:=hup HV5 hb;have X5:=X5.mono hb;have hbw:=bu hbw hb;clear hb;clear x1a x1b x1c x1d x2a x2b x2c x2d;go_upto_region 5 with fail;have lX6X1:=X1.lt;have lX6X2:=X2.lt;have lX6X3:=X3.lt;have lX6X4:=X4.lt;have lX6X5:=X5.lt;have X6:=Box.new v4 (.bool J6) (.slice ao6 n6 Y6) 30;have hb:=bA v4 (.cells #[.bool J6,.slice ao6 n6 Y6] 30);generalize v4.alloc (.cells #[.bool J6,.slice ao6 n6 Y6] 30)=v5 at *;have X3:=X3.mono hb;have X4:=X4.mono hb;have HV5:=hup HV5 hb;have X5:=X5.mono hb;have HV6:=hup HV6 hb;have hbw:=bu hbw hb;clear hb;rcases H_k2.out with ⟨rfl,h_k2⟩ | ⟨rfl,h_k2⟩
  ·have G_k2:=hii h_k2;clear h_k2;rw [zbZ] at HV6;obtain rfl:k=0:=hs.out.yes ⟨G_k1.out,G_k2.out⟩;go_upto_region 7 with fail;obtain ⟨wy,rfl⟩:=exi v5;obtain ⟨x5a,x5b,_,_⟩:=id X5;obtain ⟨x6a,x6b,_,_⟩:=id X6;obtain ⟨x3a,x3b,_,_⟩:=id X3;obtain ⟨x4a,x4b,_,_⟩:=id X4;go_region_with fail
   all_goals
    go_wp2;exact bodyPost_ret (v:=.tuple #[.agg #[.bool J5,.slice ao5 n5 Y5],.agg #[.bool J6,.slice ao6 n6 Y6],.int .i64 0]) (by simp [results,Tryz.results96,go_sem,x3a,x3b,x4a,x4b]) rfl ⟨⟨J5,ao5,n5,Y5,J6,ao6,n6,Y6,rfl,by rw [zbZ]; exact hii (((HV5.out.put2B X3 (.bool J5) (.slice ao5 n5 Y5)).put2B (X4.other2 (by omega)) (.bool J6) (.slice ao6 n6 Y6)).mono (Below.drew br)),by rw [zbZ]; exact hii (((HV6.out.put2B X3 (.bool J5) (.slice ao5 n5 Y5)).put2B (X4.other2 (by omega)) (.bool J6) (.slice ao6 n6 Y6)).mono (Below.drew br))⟩,(Below.put2 (Below.put2 hbw (by omega) (.bool J5) (.slice ao5 n5 Y5)) (by omega) (.bool J6) (.slice ao6 n6 Y6)).drew⟩
  ·have G_k2:=hii h_k2;clear h_k2;obtain rfl:k=3:=hs.out.no (λ h => G_k2.out h.2);obtain ⟨x3a,x3b,_,_⟩:=id X3;obtain ⟨x4a,x4b,_,_⟩:=id X4;go_wp2;refine bodyPost_ret (v:=.tuple #[.agg #[bF_,nS_],.agg #[bF_,nS_],.int .i64 3]) (by simp [results,Tryz.results96,go_sem,x3a,x3b,x4a,x4b]) rfl ⟨⟨false,none,0,0,false,none,0,0,rfl,by rw [zfd]; exact hii (zah.zero _),by rw [zfd]; exact hii (zah.zero _)⟩,Below.put2 (Below.put2 hbw (by omega) bF_ nS_) (by omega) bF_ nS_⟩
 ·have G_k1:=hii h_k1;clear h_k1;obtain rfl:k=3:=hs.out.no (λ h => G_k1.out h.1);obtain ⟨x3a,x3b,_,_⟩:=id X3;obtain ⟨x4a,x4b,_,_⟩:=id X4;go_wp2;refine bodyPost_ret (v:=.tuple #[.agg #[bF_,nS_],.agg #[bF_,nS_],.int .i64 3]) (by simp [results,Tryz.results96,go_sem,x3a,x3b,x4a,x4b]) rfl ⟨⟨false,none,0,0,false,none,0,0,rfl,by rw [zfd]; exact hii (zah.zero _),by rw [zfd]; exact hii (zah.zero _)⟩,Below.put2 (Below.put2 hbw (by omega) bF_ nS_) (by omega) bF_ nS_⟩
theorem zoM (va vb:Vl) (a b:Rat) (k:Int) (w:Wo) (ha:zad w va a) (hb:zad w vb b) (hs:Hid (KQ k (CrS a b))) (hE:Env w) :
  CP 50 #[va,vb] w λ e w' => e=.returned (.tuple #[.int .i64 (zk k (Rq.cmpQ a b)),.int .i64 k])/\BH w w':=by
 have hbw:=Below.refl w.heap.size w;obtain ⟨J1,ao1,n1,Y1,J2,ao2,n2,Y2,rfl,h1,h2⟩:=ha;have HV1:=hii h1;have HV2:=hii h2;clear h1 h2;obtain ⟨J3,ao3,n3,Y3,J4,ao4,n4,Y4,rfl,h1,h2⟩:=hb;have HV3:=hii h1;have HV4:=hii h2;clear h1 h2;go_enter func50,ntmps50;go_upto_region 1 with fail;obtain ⟨wx,hwx,hszx,X1,X2,hb⟩:=ze4 w (.bool J1) (.slice ao1 n1 Y1) (.bool J2) (.slice ao2 n2 Y2) 32 (.bool J3) (.slice ao3 n3 Y3) (.bool J4) (.slice ao4 n4 Y4) 32;rw [<- hwx];clear hwx;obtain ⟨v1,rfl⟩:=exi wx;have HV1:=hup HV1 hb;have HV2:=hup HV2 hb;have HV3:=hup HV3 hb;have HV4:=hup HV4 hb;have hE:=hE.mono hb;have hbw:=bu hbw hb;clear hb;obtain ⟨x1a,x1b,x1c,x1d,_,_,_,_⟩:=id X1;go_wp2_with fail;go_fit (zav _ a v1 (zad.mk' HV1 HV2) hE);rintro e v2 ⟨rfl,hb⟩;have HV1:=hup HV1 hb;have HV2:=hup HV2 hb;have HV3:=hup HV3 hb;have HV4:=hup HV4 hb;have X1:=X1.mono hb;have X2:=X2.mono hb;have hE:=hE.mono hb;have hbw:=bu hbw hb;clear hb;clear x1a x1b x1c x1d;obtain ⟨x2a,x2b,x2c,x2d,_,_,_,_⟩:=id X2;go_wp2_with fail;go_fit (zav _ b v2 (zad.mk' HV3 HV4) hE);rintro e v3 ⟨rfl,hb⟩;have HV1:=hup HV1 hb;have HV2:=hup HV2 hb;have HV3:=hup HV3 hb;have HV4:=hup HV4 hb;have X1:=X1.mono hb;have X2:=X2.mono hb;have hE:=hE.mono hb;have hbw:=bu hbw hb;clear hb;clear x2a x2b x2c x2d;obtain ⟨x1a,x1b,x1c,x1d,_,_,_,_⟩:=id X1;obtain ⟨x2a,x2b,x2c,x2d,_,_,_,_⟩:=id X2;go_wp2_with fail;go_fit (zfQ _ _ a b k v3 (zad.mk' HV1 HV2) (zad.mk' HV3 HV4) hs hE);rintro e v4 ⟨⟨J5,ao5,n5,Y5,J6,ao6,n6,Y6,rfl,HV5,HV6⟩,hb⟩;have X1:=X1.mono hb;have X2:=X2.mono hb;have hE:=hE.mono hb;have hbw:=bu hbw hb;clear hb;clear x1a x1b x1c x1d x2a x2b x2c x2d;go_upto_region 4 with fail;have lX5X1:=X1.lt;have lX5X2:=X2.lt;obtain ⟨wx,hwx,hszx,X5,X6,hb⟩:=zbf v4 (.bool J5) (.slice ao5 n5 Y5) 30 (.bool J6) (.slice ao6 n6 Y6) 30;rw [<- hwx];clear hwx;obtain ⟨v5,rfl⟩:=exi wx;have HV5:=hup HV5 hb;have HV6:=hup HV6 hb;have hE:=hE.mono hb;have hbw:=bu hbw hb;clear hb;have H_k:=hs;rcases H_k.out with ⟨rfl,h_k⟩ | ⟨rfl,h_k⟩
 ·have G_k:=hii h_k;clear h_k;rw [zbZ] at HV5;rw [zbZ] at HV6;obtain ⟨x5a,x5b,_,_⟩:=id X5;obtain ⟨x6a,x6b,_,_⟩:=id X6;go_wp2_with fail;go_fit (zj8 _ _ (a.num * (b.den:Int)) (b.num * (a.den:Int)) (Rq.cmpQ a b) v5 (hii (by unfold zdb; exact Rq.cmp_eq a b)) HV5.out HV6.out hE);rintro e v6 ⟨rfl,hb⟩;have hbw:=bu hbw hb;clear hb;clear x5a x5b x6a x6b;go_wp2;go_ret2;exact ⟨rfl,hbw⟩
 ·have G_k:=hii h_k;clear h_k;go_wp2;go_ret2;exact ⟨rfl,hbw⟩
theorem zj7 (va vb:Vl) (a b:Rat) (w:Wo) (ha:zad w va a) (hb:zad w vb b) (hs:Hid (CrS a b)) (hE:Env w) :
  CP 50 #[va,vb] w λ e w' => e=.returned (.tuple #[.int .i64 (Rq.cmpQ a b),.int .i64 0])/\BH w w':=zoM va vb a b 0 w ha hb (hii (.inl ⟨rfl,hs.out⟩)) hE
theorem zla (a b:Vl) (p q:Int) (w:Wo) (ha:zah w a p) (hb:zah w b q) (hq:Hid (q < 0)) (hE:Env w) :
  CP 86 #[a,b] w λ e w' => zcw w' (Rat.divInt p q) e/\BH w w':=by
 have HS:Hid (zaH q=-1):=hii (by have:=hq.out; unfold zaH; split <;> (try split) <;> omega);have hbw:=Below.refl w.heap.size w;obtain ⟨J1,ao1,n1,Y1,rfl⟩:=ha.parts;have HV1:=hii ha;clear ha;obtain ⟨J2,ao2,n2,Y2,rfl⟩:=hb.parts;have HV2:=hii hb;clear hb;go_enter func86,ntmps86;go_upto_region 1 with fail;obtain ⟨wx,hwx,hszx,X1,X2,X3,hb⟩:=zbM w (.bool J1) (.slice ao1 n1 Y1) 30 (.bool J2) (.slice ao2 n2 Y2) 30 bF_ nS_ bF_ nS_ 32;rw [<- hwx];clear hwx;obtain ⟨v1,rfl⟩:=exi wx;have HV1:=hup HV1 hb;have HV2:=hup HV2 hb;have hE:=hE.mono hb;have hbw:=bu hbw hb;clear hb;obtain ⟨x1a,x1b,_,_⟩:=id X1;go_wp2_with fail;go_fit (zbX _ p v1 HV1.out hE);rintro e v2 ⟨rfl,hb⟩;have HV1:=hup HV1 hb;have HV2:=hup HV2 hb;have X1:=X1.mono hb;have X2:=X2.mono hb;have X3:=X3.mono hb;have hE:=hE.mono hb;have hbw:=bu hbw hb;clear hb;clear x1a x1b;obtain ⟨x2a,x2b,_,_⟩:=id X2;go_wp2_with fail;go_fit (zbX _ q v2 HV2.out hE);rintro e v3 ⟨rfl,hb⟩;have HV1:=hup HV1 hb;have HV2:=hup HV2 hb;have X1:=X1.mono hb;have X2:=X2.mono hb;have X3:=X3.mono hb;have hE:=hE.mono hb;have hbw:=bu hbw hb;clear hb;clear x2a x2b;obtain ⟨x2a,x2b,_,_⟩:=id X2;go_wp2_with fail;go_fit (zbD _ q (-1) v3 HS HV2.out hE);rintro e v4 ⟨rfl,hb⟩;have HV1:=hup HV1 hb;have HV2:=hup HV2 hb;have X1:=X1.mono hb;have X2:=X2.mono hb;have X3:=X3.mono hb;have hE:=hE.mono hb;have hbw:=bu hbw hb;clear hb;clear x2a x2b;obtain ⟨x1a,x1b,_,_⟩:=id X1;obtain ⟨x2a,x2b,_,_⟩:=id X2;go_wp2_with fail;go_fit (zbR _ _ p q v4 HV1.out HV2.out (hii (by have:=hq.out; omega)) hE);rintro e v5 ⟨⟨J3,ao3,n3,Y3,J4,ao4,n4,Y4,rfl,HV3,HV4⟩,hb⟩;have X3:=X3.mono hb;have hbw:=bu hbw hb;clear hb;clear x1a x1b x2a x2b;obtain ⟨x3a,x3b,x3c,x3d,_,_,_,_⟩:=id X3;go_wp2;refine bodyPost_ret (v:=.tuple #[.agg #[.bool J3,.slice ao3 n3 Y3,.bool J4,.slice ao4 n4 Y4],.int .i64 0]) (by simp [results,Tryz.results86,go_sem,x3a,x3b,x3c,x3d]) rfl ⟨⟨J3,ao3,n3,Y3,J4,ao4,n4,Y4,rfl,hii (HV3.out.put4B X3 (.bool J3) (.slice ao3 n3 Y3) (.bool J4) (.slice ao4 n4 Y4)),hii (HV4.out.put4B X3 (.bool J3) (.slice ao3 n3 Y3) (.bool J4) (.slice ao4 n4 Y4))⟩,Below.put4 hbw (by omega) (.bool J3) (.slice ao3 n3 Y3) (.bool J4) (.slice ao4 n4 Y4)⟩
theorem zk9 (a b:Vl) (p q:Int) (w:Wo) (ha:zah w a p) (hb:zah w b q) (hq:Hid (0 < q)) (hE:Env w) :
  CP 86 #[a,b] w λ e w' => zcw w' (Rat.divInt p q) e/\BH w w':=by
 have HS:Hid (zaH q=1):=hii (by have:=hq.out; unfold zaH; split <;> (try split) <;> omega);have hbw:=Below.refl w.heap.size w;obtain ⟨J1,ao1,n1,Y1,rfl⟩:=ha.parts;have HV1:=hii ha;clear ha;obtain ⟨J2,ao2,n2,Y2,rfl⟩:=hb.parts;have HV2:=hii hb;clear hb;go_enter func86,ntmps86;go_upto_region 1 with fail;obtain ⟨wx,hwx,hszx,X1,X2,X3,hb⟩:=zbM w (.bool J1) (.slice ao1 n1 Y1) 30 (.bool J2) (.slice ao2 n2 Y2) 30 bF_ nS_ bF_ nS_ 32;rw [<- hwx];clear hwx;obtain ⟨v1,rfl⟩:=exi wx;have HV1:=hup HV1 hb;have HV2:=hup HV2 hb;have hE:=hE.mono hb;have hbw:=bu hbw hb;clear hb;obtain ⟨x1a,x1b,_,_⟩:=id X1;go_wp2_with fail;go_fit (zbX _ p v1 HV1.out hE);rintro e v2 ⟨rfl,hb⟩;have HV1:=hup HV1 hb;have HV2:=hup HV2 hb;have X1:=X1.mono hb;have X2:=X2.mono hb;have X3:=X3.mono hb;have hE:=hE.mono hb;have hbw:=bu hbw hb;clear hb;clear x1a x1b;obtain ⟨x2a,x2b,_,_⟩:=id X2;go_wp2_with fail;go_fit (zbX _ q v2 HV2.out hE);rintro e v3 ⟨rfl,hb⟩;have HV1:=hup HV1 hb;have HV2:=hup HV2 hb;have X1:=X1.mono hb;have X2:=X2.mono hb;have X3:=X3.mono hb;have hE:=hE.mono hb;have hbw:=bu hbw hb;clear hb;clear x2a x2b;obtain ⟨x2a,x2b,_,_⟩:=id X2;go_wp2_with fail;go_fit (zbD _ q (1) v3 HS HV2.out hE);rintro e v4 ⟨rfl,hb⟩;have HV1:=hup HV1 hb;have HV2:=hup HV2 hb;have X1:=X1.mono hb;have X2:=X2.mono hb;have X3:=X3.mono hb;have hE:=hE.mono hb;have hbw:=bu hbw hb;clear hb;clear x2a x2b;obtain ⟨x1a,x1b,_,_⟩:=id X1;obtain ⟨x2a,x2b,_,_⟩:=id X2;go_wp2_with fail;go_fit (zbR _ _ p q v4 HV1.out HV2.out (hii (by have:=hq.out; omega)) hE);rintro e v5 ⟨⟨J3,ao3,n3,Y3,J4,ao4,n4,Y4,rfl,HV3,HV4⟩,hb⟩;have X3:=X3.mono hb;have hbw:=bu hbw hb;clear hb;clear x1a x1b x2a x2b;obtain ⟨x3a,x3b,x3c,x3d,_,_,_,_⟩:=id X3;go_wp2;refine bodyPost_ret (v:=.tuple #[.agg #[.bool J3,.slice ao3 n3 Y3,.bool J4,.slice ao4 n4 Y4],.int .i64 0]) (by simp [results,Tryz.results86,go_sem,x3a,x3b,x3c,x3d]) rfl ⟨⟨J3,ao3,n3,Y3,J4,ao4,n4,Y4,rfl,hii (HV3.out.put4B X3 (.bool J3) (.slice ao3 n3 Y3) (.bool J4) (.slice ao4 n4 Y4)),hii (HV4.out.put4B X3 (.bool J3) (.slice ao3 n3 Y3) (.bool J4) (.slice ao4 n4 Y4))⟩,Below.put4 hbw (by omega) (.bool J3) (.slice ao3 n3 Y3) (.bool J4) (.slice ao4 n4 Y4)⟩
theorem zmO (a b:Vl) (p q:Int) (w:Wo) (ha:zah w a p) (hb:zah w b q) (hq:Hid (q ≠ 0)) (hE:Env w) :
  CP 86 #[a,b] w λ e w' => zcw w' (Rat.divInt p q) e/\BH w w':=by
 rcases Int.lt_trichotomy q 0 with h | h | h
 ·exact zla a b p q w ha hb (hii h) hE
 ·exact absurd h hq.out
 ·exact zk9 a b p q w ha hb (hii h) hE
theorem zmK (n d:Int) (w:Wo) (hn1:-9223372036854775808<=n) (hn2:n<=9223372036854775807) (hd1:-9223372036854775808<=d) (hd2:d<=9223372036854775807) (hd:Hid (d ≠ 0)) (hE:Env w) :
  CP 41 #[.int .i64 n,.int .i64 d] w λ e w' => zcw w' (Rat.divInt n d) e/\BH w w':=by
 have hbw:=Below.refl w.heap.size w;go_enter func41,ntmps41;go_upto_region 1 with fail;have X3:=zaQ.new w bF_ nS_ bF_ nS_ 32;have hb:=bA w (.cells #[bF_,nS_,bF_,nS_] 32);generalize w.alloc (.cells #[bF_,nS_,bF_,nS_] 32)=v1 at *;have hE:=hE.mono hb;have hbw:=bu hbw hb;clear hb;go_wp2_with fail;go_fit (zdC n hn1 hn2 v1 hE);rintro e v2 ⟨⟨J1,ao1,n1,Y1,rfl,HV1⟩,hb⟩;have X3:=X3.mono hb;have hE:=hE.mono hb;have hbw:=bu hbw hb;clear hb;go_wp2_with fail;go_fit (zdC d hd1 hd2 v2 hE);rintro e v3 ⟨⟨J2,ao2,n2,Y2,rfl,HV2⟩,hb⟩;have X3:=X3.mono hb;have HV1:=hup HV1 hb;have hE:=hE.mono hb;have hbw:=bu hbw hb;clear hb;go_wp2_with fail;go_fit (zmO _ _ n d v3 HV1.out HV2.out hd hE);rintro e v4 ⟨⟨J3,ao3,n3,Y3,J4,ao4,n4,Y4,rfl,HV3,HV4⟩,hb⟩;have X3:=X3.mono hb;have hbw:=bu hbw hb;clear hb;obtain ⟨x3a,x3b,x3c,x3d,_,_,_,_⟩:=id X3;go_wp2;refine bodyPost_ret (v:=.tuple #[.agg #[.bool J3,.slice ao3 n3 Y3,.bool J4,.slice ao4 n4 Y4],.int .i64 0]) (by simp [results,Tryz.results41,go_sem,x3a,x3b,x3c,x3d]) rfl ⟨⟨J3,ao3,n3,Y3,J4,ao4,n4,Y4,rfl,hii (HV3.out.put4B X3 (.bool J3) (.slice ao3 n3 Y3) (.bool J4) (.slice ao4 n4 Y4)),hii (HV4.out.put4B X3 (.bool J3) (.slice ao3 n3 Y3) (.bool J4) (.slice ao4 n4 Y4))⟩,Below.put4 hbw (by omega) (.bool J3) (.slice ao3 n3 Y3) (.bool J4) (.slice ao4 n4 Y4)⟩
def zer (a b:Rat):Prop:=CrS a b/\Rq.Sm (a.num * b.den + b.num * a.den)/\Rq.Sm ((a.den:Int) * b.den)
def zj0 (a b:Rat):Prop:=CrS a b/\Rq.Sm (a.num * b.den - b.num * a.den)/\Rq.Sm ((a.den:Int) * b.den)
def zdX (a b:Rat):Prop:=Rq.Sm (a.num * b.num)/\Rq.Sm ((a.den:Int) * b.den)
def zlC (a b:Rat):Prop:=Rq.Sm (a.num * b.den)/\Rq.Sm ((a.den:Int) * b.num)
theorem zkX (a b:Rat):(a.den:Int) * (b.den:Int) ≠ 0:=Int.mul_ne_zero (Rq.den_ne a) (Rq.den_ne b)
def PK (k:Int) (r:Rat) (w':Wo) (e:Ending):Prop :=
 ∃ (n1:Bool) (a1:OA) (l1 c1:Nat) (n2:Bool) (a2:OA) (l2 c2:Nat),e=.returned (.tuple #[.agg #[.bool n1,.slice a1 l1 c1,.bool n2,.slice a2 l2 c2],.int .i64 k]) /\
  Hid (zah w' (.agg #[.bool n1,.slice a1 l1 c1]) (zk k r.num))/\Hid (zah w' (.agg #[.bool n2,.slice a2 l2 c2]) (zk k (r.den:Int)))/\Hid (k=0\/(n1=false/\a1=none/\l1=0/\c1=0/\n2=false/\a2=none/\l2=0/\c2=0))
theorem PK.got {r:Rat} {w':Wo} {e:Ending} (h:PK 0 r w' e):zcw w' r e:=by
 obtain ⟨n1,a1,l1,c1,n2,a2,l2,c2,e1,h1,h2,_⟩:=h;rw [zbZ] at h1 h2;exact ⟨n1,a1,l1,c1,n2,a2,l2,c2,e1,h1,h2⟩
theorem PK.of {r:Rat} {w':Wo} {e:Ending} (h:zcw w' r e):PK 0 r w' e:=by
 obtain ⟨n1,a1,l1,c1,n2,a2,l2,c2,e1,h1,h2⟩:=h;exact ⟨n1,a1,l1,c1,n2,a2,l2,c2,e1,by rw [zbZ]; exact h1,by rw [zbZ]; exact h2,hii (.inl rfl)⟩
theorem PK.err (w':Wo) (r:Rat):PK 3 r w' (.returned (.tuple #[.agg #[bF_,nS_,bF_,nS_],.int .i64 3])) :=
 ⟨false,none,0,0,false,none,0,0,rfl,by rw [zfd]; exact hii (zah.zero _),by rw [zfd]; exact hii (zah.zero _),hii (.inr ⟨rfl,rfl,rfl,rfl,rfl,rfl,rfl,rfl⟩)⟩
theorem zfS (fn:Nat) (op:Int->Int->Int) (hent:∀ args w,(callFunc fn args).run Tryz.prog w=.ok (.enter fn args) w) (ho:OpI fn op) (va vb:Vl) (a b:Rat) (k:Int) (w:Wo) (ha:zad w va a) (hb:zad w vb b) (hs:Hid (KQ k (CrS a b/\Rq.Sm (op (a.num * (b.den:Int)) (b.num * (a.den:Int)))/\Rq.Sm ((a.den:Int) * (b.den:Int))))) (hE:Env w) :
  CP 94 #[va,vb,.func (Fn.func fn) #[] #[]] w λ e w' => PK k (Rat.divInt (op (a.num * (b.den:Int)) (b.num * (a.den:Int))) ((a.den:Int) * (b.den:Int))) w' e/\BH w w':=by
 obtain ⟨k1,h_k1⟩:=KQ.ex (CrS a b);have H_k1:=hii h_k1;clear h_k1;obtain ⟨k2,h_k2⟩:=KQ.ex (Rq.Sm (op (a.num * (b.den:Int)) (b.num * (a.den:Int))));have H_k2:=hii h_k2;clear h_k2;obtain ⟨k3,h_k3⟩:=KQ.ex (Rq.Sm ((a.den:Int) * (b.den:Int)));have H_k3:=hii h_k3;clear h_k3;have hop:=hii ho;clear ho;have hbw:=Below.refl w.heap.size w;obtain ⟨J1,ao1,n1,Y1,J2,ao2,n2,Y2,rfl,h1,h2⟩:=ha;have HV1:=hii h1;have HV2:=hii h2;clear h1 h2;obtain ⟨J3,ao3,n3,Y3,J4,ao4,n4,Y4,rfl,h1,h2⟩:=hb;have HV3:=hii h1;have HV4:=hii h2;clear h1 h2;go_enter func94,ntmps94;go_upto_region 1 with fail;obtain ⟨wx,hwx,hszx,X1,X2,X3,hb⟩:=zbh w (.bool J1) (.slice ao1 n1 Y1) (.bool J2) (.slice ao2 n2 Y2) 32 (.bool J3) (.slice ao3 n3 Y3) (.bool J4) (.slice ao4 n4 Y4) 32 bF_ nS_ bF_ nS_ 32;rw [<- hwx];clear hwx;obtain ⟨v1,rfl⟩:=exi wx;have HV1:=hup HV1 hb;have HV2:=hup HV2 hb;have HV3:=hup HV3 hb;have HV4:=hup HV4 hb;have hE:=hE.mono hb;have hbw:=bu hbw hb;clear hb;obtain ⟨x1a,x1b,x1c,x1d,_,_,_,_⟩:=id X1;go_wp2_with fail;go_fit (zav _ a v1 (zad.mk' HV1 HV2) hE);rintro e v2 ⟨rfl,hb⟩;have HV1:=hup HV1 hb;have HV2:=hup HV2 hb;have HV3:=hup HV3 hb;have HV4:=hup HV4 hb;have X1:=X1.mono hb;have X2:=X2.mono hb;have X3:=X3.mono hb;have hE:=hE.mono hb;have hbw:=bu hbw hb;clear hb;clear x1a x1b x1c x1d;obtain ⟨x2a,x2b,x2c,x2d,_,_,_,_⟩:=id X2;go_wp2_with fail;go_fit (zav _ b v2 (zad.mk' HV3 HV4) hE);rintro e v3 ⟨rfl,hb⟩;have HV1:=hup HV1 hb;have HV2:=hup HV2 hb;have HV3:=hup HV3 hb;have HV4:=hup HV4 hb;have X1:=X1.mono hb;have X2:=X2.mono hb;have X3:=X3.mono hb;have hE:=hE.mono hb;have hbw:=bu hbw hb;clear hb;clear x2a x2b x2c x2d;obtain ⟨x1a,x1b,x1c,x1d,_,_,_,_⟩:=id X1;obtain ⟨x2a,x2b,x2c,x2d,_,_,_,_⟩:=id X2;go_wp2_with fail;go_fit (zfQ _ _ a b k1 v3 (zad.mk' HV1 HV2) (zad.mk' HV3 HV4) H_k1 hE);rintro e v4 ⟨⟨J5,ao5,n5,Y5,J6,ao6,n6,Y6,rfl,HV5,HV6⟩,hb⟩;have HV2:=hup HV2 hb;have HV4:=hup HV4 hb;have X1:=X1.mono hb;have X2:=X2.mono hb;have X3:=X3.mono hb;have hE:=hE.mono hb;have hbw:=bu hbw hb;clear hb;clear x1a x1b x1c x1d x2a x2b x2c x2d;go_upto_region 4 with fail;have lX5X1:=X1.lt;have lX5X2:=X2.lt;have lX5X3:=X3.lt;obtain ⟨wx,hwx,hszx,X5,X6,hb⟩:=zbf v4 (.bool J5) (.slice ao5 n5 Y5) 30 (.bool J6) (.slice ao6 n6 Y6) 30;rw [<- hwx];clear hwx;obtain ⟨v5,rfl⟩:=exi wx;have HV2:=hup HV2 hb;have HV4:=hup HV4 hb;have X1:=X1.mono hb;have X2:=X2.mono hb;have X3:=X3.mono hb;have HV5:=hup HV5 hb;have HV6:=hup HV6 hb;have hE:=hE.mono hb;have hbw:=bu hbw hb;clear hb;rcases H_k1.out with ⟨rfl,h_k1⟩ | ⟨rfl,h_k1⟩
 ·have G_k1:=hii h_k1;clear h_k1;rw [zbZ] at HV5;rw [zbZ] at HV6;obtain ⟨x5a,x5b,_,_⟩:=id X5;obtain ⟨x6a,x6b,_,_⟩:=id X6;have hc9:=hop.out _ _ (a.num * (b.den:Int)) (b.num * (a.den:Int)) k2 v5 HV5.out HV6.out H_k2 hE;go_wp2_with fail;refine hc9.mono ?_;rintro e v6 ⟨⟨J7,ao7,n7,Y7,rfl,HV7⟩,hb⟩;clear hc9;have HV2:=hup HV2 hb;have HV4:=hup HV4 hb;have X1:=X1.mono hb;have X2:=X2.mono hb;have X3:=X3.mono hb;have X5:=X5.mono hb;have X6:=X6.mono hb;have hE:=hE.mono hb;have hbw:=bu hbw hb;clear hb;clear x5a x5b x6a x6b;go_upto_region 7 with fail;have lX7X1:=X1.lt;have lX7X2:=X2.lt;have lX7X3:=X3.lt;have lX7X5:=X5.lt;have lX7X6:=X6.lt;have X7:=Box.new v6 (.bool J7) (.slice ao7 n7 Y7) 30;have hb:=bA v6 (.cells #[.bool J7,.slice ao7 n7 Y7] 30);generalize v6.alloc (.cells #[.bool J7,.slice ao7 n7 Y7] 30)=v7 at *;have HV2:=hup HV2 hb;have HV4:=hup HV4 hb;have X1:=X1.mono hb;have X2:=X2.mono hb;have X3:=X3.mono hb;have X5:=X5.mono hb;have X6:=X6.mono hb;have HV7:=hup HV7 hb;have hE:=hE.mono hb;have hbw:=bu hbw hb;clear hb;rcases H_k2.out with ⟨rfl,h_k2⟩ | ⟨rfl,h_k2⟩
  ·have G_k2:=hii h_k2;clear h_k2;rw [zbZ] at HV7;obtain ⟨x1a,x1b,x1c,x1d,_,_,_,_⟩:=id X1;obtain ⟨x2a,x2b,x2c,x2d,_,_,_,_⟩:=id X2;go_wp2_with fail;go_fit (zf1 _ _ (a.den:Int) (b.den:Int) k3 v7 HV2.out HV4.out H_k3 hE);rintro e v8 ⟨⟨J8,ao8,n8,Y8,rfl,HV8⟩,hb⟩;have X1:=X1.mono hb;have X2:=X2.mono hb;have X3:=X3.mono hb;have X5:=X5.mono hb;have X6:=X6.mono hb;have HV7:=hup HV7 hb;have X7:=X7.mono hb;have hE:=hE.mono hb;have hbw:=bu hbw hb;clear hb;clear x1a x1b x1c x1d x2a x2b x2c x2d;go_upto_region 10 with fail;have lX8X1:=X1.lt;have lX8X2:=X2.lt;have lX8X3:=X3.lt;have lX8X5:=X5.lt;have lX8X6:=X6.lt;have lX8X7:=X7.lt;have X8:=Box.new v8 (.bool J8) (.slice ao8 n8 Y8) 30;have hb:=bA v8 (.cells #[.bool J8,.slice ao8 n8 Y8] 30);generalize v8.alloc (.cells #[.bool J8,.slice ao8 n8 Y8] 30)=v9 at *;have X3:=X3.mono hb;have HV7:=hup HV7 hb;have X7:=X7.mono hb;have HV8:=hup HV8 hb;have hE:=hE.mono hb;have hbw:=bu hbw hb;clear hb;rcases H_k3.out with ⟨rfl,h_k3⟩ | ⟨rfl,h_k3⟩
   ·have G_k3:=hii h_k3;clear h_k3;rw [zbZ] at HV8;obtain rfl:k=0:=hs.out.yes ⟨G_k1.out,G_k2.out,G_k3.out⟩;obtain ⟨x7a,x7b,_,_⟩:=id X7;obtain ⟨x8a,x8b,_,_⟩:=id X8;go_wp2_with fail;go_fit (zbR _ _ (op (a.num * (b.den:Int)) (b.num * (a.den:Int))) ((a.den:Int) * (b.den:Int)) v9 HV7.out HV8.out (hii (zkX a b)) hE);rintro e v10 ⟨⟨J9,ao9,n9,Y9,ngA,aoA,nA,capA,rfl,HV9,HVA⟩,hb⟩;have X3:=X3.mono hb;have hbw:=bu hbw hb;clear hb;clear x7a x7b x8a x8b;obtain ⟨x3a,x3b,x3c,x3d,_,_,_,_⟩:=id X3;go_wp2;refine bodyPost_ret (v:=.tuple #[.agg #[.bool J9,.slice ao9 n9 Y9,.bool ngA,.slice aoA nA capA],.int .i64 0]) (by simp [results,Tryz.results94,go_sem,x3a,x3b,x3c,x3d]) rfl ⟨PK.of ⟨J9,ao9,n9,Y9,ngA,aoA,nA,capA,rfl,hii (HV9.out.put4B X3 (.bool J9) (.slice ao9 n9 Y9) (.bool ngA) (.slice aoA nA capA)),hii (HVA.out.put4B X3 (.bool J9) (.slice ao9 n9 Y9) (.bool ngA) (.slice aoA nA capA))⟩,Below.put4 hbw (by omega) (.bool J9) (.slice ao9 n9 Y9) (.bool ngA) (.slice aoA nA capA)⟩
   ·have G_k3:=hii h_k3;clear h_k3;obtain rfl:k=3:=hs.out.no (λ h => G_k3.out h.2.2);obtain ⟨x3a,x3b,x3c,x3d,_,_,_,_⟩:=id X3;go_wp2;refine bodyPost_ret (v:=.tuple #[.agg #[bF_,nS_,bF_,nS_],.int .i64 3]) (by simp [results,Tryz.results94,go_sem,x3a,x3b,x3c,x3d]) rfl ⟨PK.err _ _,Below.put4 hbw (by omega) bF_ nS_ bF_ nS_⟩
  ·have G_k2:=hii h_k2;clear h_k2;obtain rfl:k=3:=hs.out.no (λ h => G_k2.out h.2.1);obtain ⟨x3a,x3b,x3c,x3d,_,_,_,_⟩:=id X3;go_wp2;refine bodyPost_ret (v:=.tuple #[.agg #[bF_,nS_,bF_,nS_],.int .i64 3]) (by simp [results,Tryz.results94,go_sem,x3a,x3b,x3c,x3d]) rfl ⟨PK.err _ _,Below.put4 hbw (by omega) bF_ nS_ bF_ nS_⟩
 ·have G_k1:=hii h_k1;clear h_k1;obtain rfl:k=3:=hs.out.no (λ h => G_k1.out h.1);obtain ⟨x3a,x3b,x3c,x3d,_,_,_,_⟩:=id X3;go_wp2;refine bodyPost_ret (v:=.tuple #[.agg #[bF_,nS_,bF_,nS_],.int .i64 3]) (by simp [results,Tryz.results94,go_sem,x3a,x3b,x3c,x3d]) rfl ⟨PK.err _ _,Below.put4 hbw (by omega) bF_ nS_ bF_ nS_⟩
theorem zmm:∀ args w,(callFunc 95 args).run Tryz.prog w=.ok (.enter 95 args) w:=enters_of func95 (by kernel_rfl) rfl
theorem zmY (va vb:Vl) (a b:Rat) (k:Int) (w:Wo) (ha:zad w va a) (hb:zad w vb b) (hs:Hid (KQ k (zer a b))) (hE:Env w) :
  CP 49 #[va,vb] w λ e w' => PK k (a + b) w' e/\BH w w':=by
 have HS:Hid (KQ k (CrS a b/\Rq.Sm ((a.num * (b.den:Int)) + (b.num * (a.den:Int)))/\Rq.Sm ((a.den:Int) * (b.den:Int)))):=hii hs.out;have hbw:=Below.refl w.heap.size w;obtain ⟨J1,ao1,n1,Y1,J2,ao2,n2,Y2,rfl,h1,h2⟩:=ha;have HV1:=hii h1;have HV2:=hii h2;clear h1 h2;obtain ⟨J3,ao3,n3,Y3,J4,ao4,n4,Y4,rfl,h1,h2⟩:=hb;have HV3:=hii h1;have HV4:=hii h2;clear h1 h2;go_enter func49,ntmps49;go_upto_region 1 with fail;obtain ⟨wx,hwx,hszx,X1,X2,X3,hb⟩:=zbh w (.bool J1) (.slice ao1 n1 Y1) (.bool J2) (.slice ao2 n2 Y2) 32 (.bool J3) (.slice ao3 n3 Y3) (.bool J4) (.slice ao4 n4 Y4) 32 bF_ nS_ bF_ nS_ 32;rw [<- hwx];clear hwx;obtain ⟨v1,rfl⟩:=exi wx;have HV1:=hup HV1 hb;have HV2:=hup HV2 hb;have HV3:=hup HV3 hb;have HV4:=hup HV4 hb;have hE:=hE.mono hb;have hbw:=bu hbw hb;clear hb;obtain ⟨x1a,x1b,x1c,x1d,_,_,_,_⟩:=id X1;obtain ⟨x2a,x2b,x2c,x2d,_,_,_,_⟩:=id X2;go_wp2_with fail;go_fit (zfS 95 _ zmm zoc _ _ a b k v1 (zad.mk' HV1 HV2) (zad.mk' HV3 HV4) HS hE);rintro e v2 ⟨⟨J5,ao5,n5,Y5,J6,ao6,n6,Y6,rfl,HV5,HV6,Hz⟩,hb⟩;have X3:=X3.mono hb;have hbw:=bu hbw hb;clear hb;clear x1a x1b x1c x1d x2a x2b x2c x2d;rw [Rq.add_eq] at HV5 HV6;obtain ⟨x3a,x3b,x3c,x3d,_,_,_,_⟩:=id X3;go_wp2;refine bodyPost_ret (v:=.tuple #[.agg #[.bool J5,.slice ao5 n5 Y5,.bool J6,.slice ao6 n6 Y6],.int .i64 k]) (by simp [results,Tryz.results49,go_sem,x3a,x3b,x3c,x3d]) rfl ⟨⟨J5,ao5,n5,Y5,J6,ao6,n6,Y6,rfl,hii (HV5.out.put4B X3 (.bool J5) (.slice ao5 n5 Y5) (.bool J6) (.slice ao6 n6 Y6)),hii (HV6.out.put4B X3 (.bool J5) (.slice ao5 n5 Y5) (.bool J6) (.slice ao6 n6 Y6)),Hz⟩,Below.put4 hbw (by omega) (.bool J5) (.slice ao5 n5 Y5) (.bool J6) (.slice ao6 n6 Y6)⟩
theorem zoQ (va vb:Vl) (a b:Rat) (w:Wo) (ha:zad w va a) (hb:zad w vb b) (hs:Hid (zer a b)) (hE:Env w) :
  CP 49 #[va,vb] w λ e w' => zcw w' (a + b) e/\BH w w':=(zmY va vb a b 0 w ha hb (hii (.inl ⟨rfl,hs.out⟩)) hE).mono λ _ _ ⟨h,hb⟩ => ⟨h.got,hb⟩
theorem zml:∀ args w,(callFunc 98 args).run Tryz.prog w=.ok (.enter 98 args) w:=enters_of func98 (by kernel_rfl) rfl
theorem znW (va vb:Vl) (a b:Rat) (k:Int) (w:Wo) (ha:zad w va a) (hb:zad w vb b) (hs:Hid (KQ k (zj0 a b))) (hE:Env w) :
  CP 51 #[va,vb] w λ e w' => PK k (a - b) w' e/\BH w w':=by
 have HS:Hid (KQ k (CrS a b/\Rq.Sm ((a.num * (b.den:Int)) - (b.num * (a.den:Int)))/\Rq.Sm ((a.den:Int) * (b.den:Int)))):=hii hs.out;have hbw:=Below.refl w.heap.size w;obtain ⟨J1,ao1,n1,Y1,J2,ao2,n2,Y2,rfl,h1,h2⟩:=ha;have HV1:=hii h1;have HV2:=hii h2;clear h1 h2;obtain ⟨J3,ao3,n3,Y3,J4,ao4,n4,Y4,rfl,h1,h2⟩:=hb;have HV3:=hii h1;have HV4:=hii h2;clear h1 h2;go_enter func51,ntmps51;go_upto_region 1 with fail;obtain ⟨wx,hwx,hszx,X1,X2,X3,hb⟩:=zbh w (.bool J1) (.slice ao1 n1 Y1) (.bool J2) (.slice ao2 n2 Y2) 32 (.bool J3) (.slice ao3 n3 Y3) (.bool J4) (.slice ao4 n4 Y4) 32 bF_ nS_ bF_ nS_ 32;rw [<- hwx];clear hwx;obtain ⟨v1,rfl⟩:=exi wx;have HV1:=hup HV1 hb;have HV2:=hup HV2 hb;have HV3:=hup HV3 hb;have HV4:=hup HV4 hb;have hE:=hE.mono hb;have hbw:=bu hbw hb;clear hb;obtain ⟨x1a,x1b,x1c,x1d,_,_,_,_⟩:=id X1;obtain ⟨x2a,x2b,x2c,x2d,_,_,_,_⟩:=id X2;go_wp2_with fail;go_fit (zfS 98 _ zml znV _ _ a b k v1 (zad.mk' HV1 HV2) (zad.mk' HV3 HV4) HS hE);rintro e v2 ⟨⟨J5,ao5,n5,Y5,J6,ao6,n6,Y6,rfl,HV5,HV6,Hz⟩,hb⟩;have X3:=X3.mono hb;have hbw:=bu hbw hb;clear hb;clear x1a x1b x1c x1d x2a x2b x2c x2d;rw [Rq.sub_eq] at HV5 HV6;obtain ⟨x3a,x3b,x3c,x3d,_,_,_,_⟩:=id X3;go_wp2;refine bodyPost_ret (v:=.tuple #[.agg #[.bool J5,.slice ao5 n5 Y5,.bool J6,.slice ao6 n6 Y6],.int .i64 k]) (by simp [results,Tryz.results51,go_sem,x3a,x3b,x3c,x3d]) rfl ⟨⟨J5,ao5,n5,Y5,J6,ao6,n6,Y6,rfl,hii (HV5.out.put4B X3 (.bool J5) (.slice ao5 n5 Y5) (.bool J6) (.slice ao6 n6 Y6)),hii (HV6.out.put4B X3 (.bool J5) (.slice ao5 n5 Y5) (.bool J6) (.slice ao6 n6 Y6)),Hz⟩,Below.put4 hbw (by omega) (.bool J5) (.slice ao5 n5 Y5) (.bool J6) (.slice ao6 n6 Y6)⟩
theorem znU (va vb:Vl) (a b:Rat) (w:Wo) (ha:zad w va a) (hb:zad w vb b) (hs:Hid (zj0 a b)) (hE:Env w) :
  CP 51 #[va,vb] w λ e w' => zcw w' (a - b) e/\BH w w':=(znW va vb a b 0 w ha hb (hii (.inl ⟨rfl,hs.out⟩)) hE).mono λ _ _ ⟨h,hb⟩ => ⟨h.got,hb⟩
theorem zea (vx vy vu vv:Vl) (x y u v k:Int) (w:Wo) (hx:zah w vx x) (hy:zah w vy y) (hu:zah w vu u) (hv:zah w vv v) (hs:Hid (KQ k (Rq.Sm (x * y)/\Rq.Sm (u * v)))) (hne:Hid (u * v ≠ 0)) (hE:Env w) :
  CP 120 #[vx,vy,vu,vv] w λ e w' => PK k (Rat.divInt (x * y) (u * v)) w' e/\BH w w':=by
 obtain ⟨k1,h_k1⟩:=KQ.ex (Rq.Sm (x * y));have H_k1:=hii h_k1;clear h_k1;obtain ⟨k2,h_k2⟩:=KQ.ex (Rq.Sm (u * v));have H_k2:=hii h_k2;clear h_k2;have hbw:=Below.refl w.heap.size w;obtain ⟨J1,ao1,n1,Y1,rfl⟩:=hx.parts;have HV1:=hii hx;clear hx;obtain ⟨J2,ao2,n2,Y2,rfl⟩:=hy.parts;have HV2:=hii hy;clear hy;obtain ⟨J3,ao3,n3,Y3,rfl⟩:=hu.parts;have HV3:=hii hu;clear hu;obtain ⟨J4,ao4,n4,Y4,rfl⟩:=hv.parts;have HV4:=hii hv;clear hv;go_enter func120,ntmps120;go_upto_region 1 with fail;obtain ⟨wx,hwx,hszx,X1,X2,X3,X4,X5,hb⟩:=zgH w (.bool J1) (.slice ao1 n1 Y1) 30 (.bool J2) (.slice ao2 n2 Y2) 30 (.bool J3) (.slice ao3 n3 Y3) 30 (.bool J4) (.slice ao4 n4 Y4) 30 bF_ nS_ bF_ nS_ 32;rw [<- hwx];clear hwx;obtain ⟨v1,rfl⟩:=exi wx;have HV1:=hup HV1 hb;have HV2:=hup HV2 hb;have HV3:=hup HV3 hb;have HV4:=hup HV4 hb;have hE:=hE.mono hb;have hbw:=bu hbw hb;clear hb;obtain ⟨x1a,x1b,_,_⟩:=id X1;obtain ⟨x2a,x2b,_,_⟩:=id X2;go_wp2_with fail;go_fit (zf1 _ _ x y k1 v1 HV1.out HV2.out H_k1 hE);rintro e v2 ⟨⟨J6,ao6,n6,Y6,rfl,HV6⟩,hb⟩;have HV3:=hup HV3 hb;have HV4:=hup HV4 hb;have X1:=X1.mono hb;have X2:=X2.mono hb;have X3:=X3.mono hb;have X4:=X4.mono hb;have X5:=X5.mono hb;have hE:=hE.mono hb;have hbw:=bu hbw hb;clear hb;clear x1a x1b x2a x2b;go_upto_region 2 with fail;have lX6X1:=X1.lt;have lX6X2:=X2.lt;have lX6X3:=X3.lt;have lX6X4:=X4.lt;have lX6X5:=X5.lt;have X6:=Box.new v2 (.bool J6) (.slice ao6 n6 Y6) 30;have hb:=bA v2 (.cells #[.bool J6,.slice ao6 n6 Y6] 30);generalize v2.alloc (.cells #[.bool J6,.slice ao6 n6 Y6] 30)=v3 at *;have HV3:=hup HV3 hb;have HV4:=hup HV4 hb;have X1:=X1.mono hb;have X2:=X2.mono hb;have X3:=X3.mono hb;have X4:=X4.mono hb;have X5:=X5.mono hb;have HV6:=hup HV6 hb;have hE:=hE.mono hb;have hbw:=bu hbw hb;clear hb;rcases H_k1.out with ⟨rfl,h_k1⟩ | ⟨rfl,h_k1⟩
 ·have G_k1:=hii h_k1;clear h_k1;rw [zbZ] at HV6;obtain ⟨x3a,x3b,_,_⟩:=id X3;obtain ⟨x4a,x4b,_,_⟩:=id X4;go_wp2_with fail;go_fit (zf1 _ _ u v k2 v3 HV3.out HV4.out H_k2 hE);rintro e v4 ⟨⟨J7,ao7,n7,Y7,rfl,HV7⟩,hb⟩;have X1:=X1.mono hb;have X2:=X2.mono hb;have X3:=X3.mono hb;have X4:=X4.mono hb;have X5:=X5.mono hb;have HV6:=hup HV6 hb;have X6:=X6.mono hb;have hE:=hE.mono hb;have hbw:=bu hbw hb;clear hb;clear x3a x3b x4a x4b;go_upto_region 5 with fail;have lX7X1:=X1.lt;have lX7X2:=X2.lt;have lX7X3:=X3.lt;have lX7X4:=X4.lt;have lX7X5:=X5.lt;have lX7X6:=X6.lt;have X7:=Box.new v4 (.bool J7) (.slice ao7 n7 Y7) 30;have hb:=bA v4 (.cells #[.bool J7,.slice ao7 n7 Y7] 30);generalize v4.alloc (.cells #[.bool J7,.slice ao7 n7 Y7] 30)=v5 at *;have X5:=X5.mono hb;have HV6:=hup HV6 hb;have X6:=X6.mono hb;have HV7:=hup HV7 hb;have hE:=hE.mono hb;have hbw:=bu hbw hb;clear hb;rcases H_k2.out with ⟨rfl,h_k2⟩ | ⟨rfl,h_k2⟩
  ·have G_k2:=hii h_k2;clear h_k2;rw [zbZ] at HV7;obtain rfl:k=0:=hs.out.yes ⟨G_k1.out,G_k2.out⟩;obtain ⟨x6a,x6b,_,_⟩:=id X6;obtain ⟨x7a,x7b,_,_⟩:=id X7;go_wp2_with fail;go_fit (zbR _ _ (x * y) (u * v) v5 HV6.out HV7.out hne hE);rintro e v6 ⟨⟨J8,ao8,n8,Y8,J9,ao9,n9,Y9,rfl,HV8,HV9⟩,hb⟩;have X5:=X5.mono hb;have hbw:=bu hbw hb;clear hb;clear x6a x6b x7a x7b;obtain ⟨x5a,x5b,x5c,x5d,_,_,_,_⟩:=id X5;go_wp2;refine bodyPost_ret (v:=.tuple #[.agg #[.bool J8,.slice ao8 n8 Y8,.bool J9,.slice ao9 n9 Y9],.int .i64 0]) (by simp [results,Tryz.results120,go_sem,x5a,x5b,x5c,x5d]) rfl ⟨PK.of ⟨J8,ao8,n8,Y8,J9,ao9,n9,Y9,rfl,hii (HV8.out.put4B X5 (.bool J8) (.slice ao8 n8 Y8) (.bool J9) (.slice ao9 n9 Y9)),hii (HV9.out.put4B X5 (.bool J8) (.slice ao8 n8 Y8) (.bool J9) (.slice ao9 n9 Y9))⟩,Below.put4 hbw (by omega) (.bool J8) (.slice ao8 n8 Y8) (.bool J9) (.slice ao9 n9 Y9)⟩
  ·have G_k2:=hii h_k2;clear h_k2;obtain rfl:k=3:=hs.out.no (λ h => G_k2.out h.2);obtain ⟨x5a,x5b,x5c,x5d,_,_,_,_⟩:=id X5;go_wp2;refine bodyPost_ret (v:=.tuple #[.agg #[bF_,nS_,bF_,nS_],.int .i64 3]) (by simp [results,Tryz.results120,go_sem,x5a,x5b,x5c,x5d]) rfl ⟨PK.err _ _,Below.put4 hbw (by omega) bF_ nS_ bF_ nS_⟩
 ·have G_k1:=hii h_k1;clear h_k1;obtain rfl:k=3:=hs.out.no (λ h => G_k1.out h.1);obtain ⟨x5a,x5b,x5c,x5d,_,_,_,_⟩:=id X5;go_wp2;refine bodyPost_ret (v:=.tuple #[.agg #[bF_,nS_,bF_,nS_],.int .i64 3]) (by simp [results,Tryz.results120,go_sem,x5a,x5b,x5c,x5d]) rfl ⟨PK.err _ _,Below.put4 hbw (by omega) bF_ nS_ bF_ nS_⟩
theorem zmM (va vb:Vl) (a b:Rat) (k:Int) (w:Wo) (ha:zad w va a) (hb:zad w vb b) (hs:Hid (KQ k (zdX a b))) (hE:Env w) :
  CP 69 #[va,vb] w λ e w' => PK k (a * b) w' e/\BH w w':=by
 have HNE:Hid (((a.den:Int) * (b.den:Int)) ≠ 0):=hii (zkX a b);have HS:Hid (KQ k (Rq.Sm (a.num * b.num)/\Rq.Sm ((a.den:Int) * (b.den:Int)))):=hii hs.out;have hbw:=Below.refl w.heap.size w;obtain ⟨J1,ao1,n1,Y1,J2,ao2,n2,Y2,rfl,h1,h2⟩:=ha;have HV1:=hii h1;have HV2:=hii h2;clear h1 h2;obtain ⟨J3,ao3,n3,Y3,J4,ao4,n4,Y4,rfl,h1,h2⟩:=hb;have HV3:=hii h1;have HV4:=hii h2;clear h1 h2;go_enter func69,ntmps69;go_upto_region 1 with fail;obtain ⟨wx,hwx,hszx,X1,X2,X3,hb⟩:=zbh w (.bool J1) (.slice ao1 n1 Y1) (.bool J2) (.slice ao2 n2 Y2) 32 (.bool J3) (.slice ao3 n3 Y3) (.bool J4) (.slice ao4 n4 Y4) 32 bF_ nS_ bF_ nS_ 32;rw [<- hwx];clear hwx;obtain ⟨v1,rfl⟩:=exi wx;have HV1:=hup HV1 hb;have HV2:=hup HV2 hb;have HV3:=hup HV3 hb;have HV4:=hup HV4 hb;have hE:=hE.mono hb;have hbw:=bu hbw hb;clear hb;obtain ⟨x1a,x1b,x1c,x1d,_,_,_,_⟩:=id X1;go_wp2_with fail;go_fit (zav _ a v1 (zad.mk' HV1 HV2) hE);rintro e v2 ⟨rfl,hb⟩;have HV1:=hup HV1 hb;have HV2:=hup HV2 hb;have HV3:=hup HV3 hb;have HV4:=hup HV4 hb;have X1:=X1.mono hb;have X2:=X2.mono hb;have X3:=X3.mono hb;have hE:=hE.mono hb;have hbw:=bu hbw hb;clear hb;clear x1a x1b x1c x1d;obtain ⟨x2a,x2b,x2c,x2d,_,_,_,_⟩:=id X2;go_wp2_with fail;go_fit (zav _ b v2 (zad.mk' HV3 HV4) hE);rintro e v3 ⟨rfl,hb⟩;have HV1:=hup HV1 hb;have HV2:=hup HV2 hb;have HV3:=hup HV3 hb;have HV4:=hup HV4 hb;have X1:=X1.mono hb;have X2:=X2.mono hb;have X3:=X3.mono hb;have hE:=hE.mono hb;have hbw:=bu hbw hb;clear hb;clear x2a x2b x2c x2d;obtain ⟨x1a,x1b,x1c,x1d,_,_,_,_⟩:=id X1;obtain ⟨x2a,x2b,x2c,x2d,_,_,_,_⟩:=id X2;go_wp2_with fail;go_fit (zea _ _ _ _ a.num b.num (a.den:Int) (b.den:Int) k v3 HV1.out HV3.out HV2.out HV4.out HS HNE hE);rintro e v4 ⟨⟨J5,ao5,n5,Y5,J6,ao6,n6,Y6,rfl,HV5,HV6,Hz⟩,hb⟩;have X3:=X3.mono hb;have hbw:=bu hbw hb;clear hb;clear x1a x1b x1c x1d x2a x2b x2c x2d;rw [Rq.mul_eq] at HV5 HV6;obtain ⟨x3a,x3b,x3c,x3d,_,_,_,_⟩:=id X3;go_wp2;refine bodyPost_ret (v:=.tuple #[.agg #[.bool J5,.slice ao5 n5 Y5,.bool J6,.slice ao6 n6 Y6],.int .i64 k]) (by simp [results,Tryz.results69,go_sem,x3a,x3b,x3c,x3d]) rfl ⟨⟨J5,ao5,n5,Y5,J6,ao6,n6,Y6,rfl,hii (HV5.out.put4B X3 (.bool J5) (.slice ao5 n5 Y5) (.bool J6) (.slice ao6 n6 Y6)),hii (HV6.out.put4B X3 (.bool J5) (.slice ao5 n5 Y5) (.bool J6) (.slice ao6 n6 Y6)),Hz⟩,Below.put4 hbw (by omega) (.bool J5) (.slice ao5 n5 Y5) (.bool J6) (.slice ao6 n6 Y6)⟩
theorem zmL (va vb:Vl) (a b:Rat) (w:Wo) (ha:zad w va a) (hb:zad w vb b) (hs:Hid (zdX a b)) (hE:Env w) :
  CP 69 #[va,vb] w λ e w' => zcw w' (a * b) e/\BH w w':=(zmM va vb a b 0 w ha hb (hii (.inl ⟨rfl,hs.out⟩)) hE).mono λ _ _ ⟨h,hb⟩ => ⟨h.got,hb⟩
theorem zcX (v:Vl) (z:Int) (w:Wo) (h:zah w v z) :
  CP 77 #[v] w λ e w' => e=.returned (.bool true)/\BH w w':=by
 obtain ⟨n1,ao1,L1,c1,rfl,Hn1,HL1,HB1,hc1,hl1,hU1⟩:=h;exact zhU n1 L1 ao1 c1 w (by omega) (hii (zaz z n1 L1 Hn1.out HL1.out HB1.out)) hU1
theorem zbT (a:Vl) (x s:Int) (w:Wo) (hs:Hid (zaH x=s)) (ha:zah w a x) :
  CP 78 #[a] w λ e w' => e=.returned (.int .i64 s)/\BH w w':=by
 obtain ⟨n1,ao1,L1,c1,rfl,Hn1,HL1,HB1,hc1,hl1,hU1⟩:=ha;rw [<- hs.out]; exact zi0 n1 L1 ao1 c1 x w Hn1 HL1
theorem zjo (a b:Vl) (x y:Int) (r:Bool) (w:Wo) (hr:Hid (decide (x=y)=r)) (ha:zah w a x) (hb:zah w b y) :
  CP 35 #[a,b] w λ e w' => e=.returned (.bool r)/\BH w w':=by
 rw [<- hr.out]; exact zmk a b x y w ha hb
theorem zhW {J1:Bool} {ao1:OA} {n1 Y1:Nat} {J2:Bool} {ao2:OA} {n2 Y2:Nat} (p d:Int) (w:Wo) (hq:Hid (0 < d/\Int.gcd p d=1)) (h1:zah w (.agg #[.bool J1,.slice ao1 n1 Y1]) p) (h2:zah w (.agg #[.bool J2,.slice ao2 n2 Y2]) d) (hE:Env w) :
  CP 32 #[.agg #[.bool J1,.slice ao1 n1 Y1,.bool J2,.slice ao2 n2 Y2]] w λ e w' => e=.returned (.bool true)/\BH w w':=by
 have HV1:=hii h1;have HV2:=hii h2;clear h1 h2;have HS:Hid (zaH d=1):=hii (by have:=hq.out; unfold zaH; split <;> (try split) <;> omega);have hbw:=Below.refl w.heap.size w;go_enter func32,ntmps32;go_upto_region 1 with fail;have X0:=zaQ.new w (.bool J1) (.slice ao1 n1 Y1) (.bool J2) (.slice ao2 n2 Y2) 32;have hb:=bA w (.cells #[.bool J1,.slice ao1 n1 Y1,.bool J2,.slice ao2 n2 Y2] 32);generalize w.alloc (.cells #[.bool J1,.slice ao1 n1 Y1,.bool J2,.slice ao2 n2 Y2] 32)=v1 at *;have HV1:=hup HV1 hb;have HV2:=hup HV2 hb;have hE:=hE.mono hb;have hbw:=bu hbw hb;clear hb;obtain ⟨x0a,x0b,x0c,x0d,_,_,_,_⟩:=id X0;go_wp2_with fail;go_fit (zcX _ p v1 HV1.out);rintro e v2 ⟨rfl,hb⟩;have HV1:=hup HV1 hb;have HV2:=hup HV2 hb;have X0:=X0.mono hb;have hE:=hE.mono hb;have hbw:=bu hbw hb;clear hb;clear x0a x0b x0c x0d;obtain ⟨x0a,x0b,x0c,x0d,_,_,_,_⟩:=id X0;go_wp2_with fail;go_fit (zcX _ d v2 HV2.out);rintro e v3 ⟨rfl,hb⟩;have HV1:=hup HV1 hb;have HV2:=hup HV2 hb;have X0:=X0.mono hb;have hE:=hE.mono hb;have hbw:=bu hbw hb;clear hb;clear x0a x0b x0c x0d;obtain ⟨x0a,x0b,x0c,x0d,_,_,_,_⟩:=id X0;go_wp2_with fail;go_fit (zbT _ d (1) v3 HS HV2.out);rintro e v4 ⟨rfl,hb⟩;have HV1:=hup HV1 hb;have HV2:=hup HV2 hb;have X0:=X0.mono hb;have hE:=hE.mono hb;have hbw:=bu hbw hb;clear hb;clear x0a x0b x0c x0d;obtain ⟨x0a,x0b,x0c,x0d,_,_,_,_⟩:=id X0;go_wp2_with fail;go_fit (zeH _ _ p d v4 HV1.out HV2.out);rintro e v5 ⟨⟨J3,ao3,n3,Y3,rfl,HV3⟩,hb⟩;have X0:=X0.mono hb;have hE:=hE.mono hb;have hbw:=bu hbw hb;clear hb;clear x0a x0b x0c x0d;obtain ⟨x0a,x0b,x0c,x0d,_,_,_,_⟩:=id X0;go_wp2_with fail;go_fit (zgi 1 (by decide) (by decide) v5 hE);rintro e v6 ⟨⟨J4,ao4,n4,Y4,rfl,HV4⟩,hb⟩;have X0:=X0.mono hb;have HV3:=hup HV3 hb;have hbw:=bu hbw hb;clear hb;clear x0a x0b x0c x0d;obtain ⟨x0a,x0b,x0c,x0d,_,_,_,_⟩:=id X0;go_wp2_with fail;go_fit (zjo _ _ ((Int.gcd p d:Nat):Int) 1 true v6 (hii (by have:=hq.out; simp; omega)) HV3.out HV4.out);rintro e v7 ⟨rfl,hb⟩;have hbw:=bu hbw hb;clear hb;clear x0a x0b x0c x0d;go_wp2;go_ret;exact ⟨rfl,hbw⟩
theorem zbS (v:Vl) (r:Rat) (w:Wo) (h:zad w v r) (hE:Env w) :
  CP 32 #[v] w λ e w' => e=.returned (.bool true)/\BH w w':=by
 obtain ⟨n1,a1,l1,c1,n2,a2,l2,c2,rfl,h1,h2⟩:=h;exact zhW r.num (r.den:Int) w (hii (Rq.vp_rat r)) h1 h2 hE
theorem zi2 (a b:Vl) (p q:Int) (w:Wo) (ha:zah w a p) (hb:zah w b q) (hq:Hid (q < 0)) (hE:Env w) :
  CP 34 #[a,b] w λ e w' => zcw w' (Rat.divInt p q) e/\BH w w':=by
 have HS:Hid (zaH q=-1):=hii (by have:=hq.out; unfold zaH; split <;> (try split) <;> omega);have hE0:=hE;have hbw:=Below.refl w.heap.size w;obtain ⟨J1,ao1,n1,Y1,rfl⟩:=ha.parts;have HV1:=hii ha;clear ha;obtain ⟨J2,ao2,n2,Y2,rfl⟩:=hb.parts;have HV2:=hii hb;clear hb;go_enter func34,ntmps34;go_upto_region 1 with fail;obtain ⟨wx,hwx,hszx,X1,X2,X3,hb⟩:=zbM w (.bool J1) (.slice ao1 n1 Y1) 30 (.bool J2) (.slice ao2 n2 Y2) 30 bF_ nS_ bF_ nS_ 32;rw [<- hwx];clear hwx;obtain ⟨v1,rfl⟩:=exi wx;have HV1:=hup HV1 hb;have HV2:=hup HV2 hb;have hE:=hE.mono hb;have hbw:=bu hbw hb;clear hb;obtain ⟨x1a,x1b,_,_⟩:=id X1;go_wp2_with fail;go_fit (zcX _ p v1 HV1.out);rintro e v2 ⟨rfl,hb⟩;have HV1:=hup HV1 hb;have HV2:=hup HV2 hb;have X1:=X1.mono hb;have X2:=X2.mono hb;have X3:=X3.mono hb;have hE:=hE.mono hb;have hbw:=bu hbw hb;clear hb;clear x1a x1b;obtain ⟨x2a,x2b,_,_⟩:=id X2;go_wp2_with fail;go_fit (zcX _ q v2 HV2.out);rintro e v3 ⟨rfl,hb⟩;have HV1:=hup HV1 hb;have HV2:=hup HV2 hb;have X1:=X1.mono hb;have X2:=X2.mono hb;have X3:=X3.mono hb;have hE:=hE.mono hb;have hbw:=bu hbw hb;clear hb;clear x2a x2b;obtain ⟨x2a,x2b,_,_⟩:=id X2;go_wp2_with fail;go_fit (zbT _ q (-1) v3 HS HV2.out);rintro e v4 ⟨rfl,hb⟩;have HV1:=hup HV1 hb;have HV2:=hup HV2 hb;have X1:=X1.mono hb;have X2:=X2.mono hb;have X3:=X3.mono hb;have hE:=hE.mono hb;have hbw:=bu hbw hb;clear hb;clear x2a x2b;obtain ⟨x2a,x2b,_,_⟩:=id X2;go_wp2_with fail;go_fit (zbT _ q (-1) v4 HS HV2.out);rintro e v5 ⟨rfl,hb⟩;have HV1:=hup HV1 hb;have HV2:=hup HV2 hb;have X1:=X1.mono hb;have X2:=X2.mono hb;have X3:=X3.mono hb;have hE:=hE.mono hb;have hbw:=bu hbw hb;clear hb;clear x2a x2b;go_upto_region 6 with fail;obtain ⟨x1a,x1b,_,_⟩:=id X1;obtain ⟨x2a,x2b,_,_⟩:=id X2;obtain ⟨wy,rfl⟩:=exi v5;go_cut [] (λ wc => zpn wy wc w.heap.size (w.heap.size + 1) (-p) (-q))
 case first =>
  go_region_with (first
   | (go_at_call 82; ((with_reducible refine (zgu (.agg #[.bool J1,.slice ao1 n1 Y1]) p _ (HV1.out.mono ?_)).mono ?_); ((repeat' (first | with_reducible assumption | with_reducible exact br | with_reducible refine Below.drew ?_ | with_reducible refine Below.alloc ?_ ?_ _ | with_reducible refine Below.setCell ?_ ?_ _ | with_reducible refine Below.step ?_ he2 ?_ | with_reducible refine Below.step ?_ he1 ?_ | (first | exact nl | omega | (simp; done) | (simp; omega) | (unfold World.setCell; simp; done) | (unfold World.setCell; simp; omega)))))); rintro e t1 ⟨⟨J5,ao5,n5,Y5,rfl,HV5⟩,he1⟩; have HT1:BH wy t1:=(by (repeat' (first | with_reducible assumption | with_reducible exact br | with_reducible refine Below.drew ?_ | with_reducible refine Below.alloc ?_ ?_ _ | with_reducible refine Below.setCell ?_ ?_ _ | with_reducible refine Below.step ?_ he2 ?_ | with_reducible refine Below.step ?_ he1 ?_ | (first | exact nl | omega | (simp; done) | (simp; omega) | (unfold World.setCell; simp; done) | (unfold World.setCell; simp; omega))))); have ht1:=HT1.size; have hX1:=X1.mono HT1; have hX2:=X2.mono HT1; obtain ⟨_,_,_,_⟩:=id hX1; obtain ⟨_,_,_,_⟩:=id hX2)
   | (go_at_call 82; ((with_reducible refine (zgu (.agg #[.bool J2,.slice ao2 n2 Y2]) q _ (HV2.out.mono ?_)).mono ?_); ((repeat' (first | with_reducible assumption | with_reducible exact br | with_reducible refine Below.drew ?_ | with_reducible refine Below.alloc ?_ ?_ _ | with_reducible refine Below.setCell ?_ ?_ _ | with_reducible refine Below.step ?_ he2 ?_ | with_reducible refine Below.step ?_ he1 ?_ | (first | exact nl | omega | (simp; done) | (simp; omega) | (unfold World.setCell; simp; done) | (unfold World.setCell; simp; omega)))))); rintro e t2 ⟨⟨J6,ao6,n6,Y6,rfl,HV6⟩,he2⟩; have HT2:BH wy t2:=(by (repeat' (first | with_reducible assumption | with_reducible exact br | with_reducible refine Below.drew ?_ | with_reducible refine Below.alloc ?_ ?_ _ | with_reducible refine Below.setCell ?_ ?_ _ | with_reducible refine Below.step ?_ he2 ?_ | with_reducible refine Below.step ?_ he1 ?_ | (first | exact nl | omega | (simp; done) | (simp; omega) | (unfold World.setCell; simp; done) | (unfold World.setCell; simp; omega))))); have ht2:=HT2.size; have hX1':=X1.mono HT2; have hX2':=X2.mono HT2; obtain ⟨_,_,_,_⟩:=id hX1'; obtain ⟨_,_,_,_⟩:=id hX2'))
  all_goals (go_wp2_with fail; go_meet; exact ⟨t2,J5,ao5,n5,Y5,J6,ao6,n6,Y6,hii (HV5.out.mono he2),HV6,HT2,rfl⟩)
 case rest =>
  obtain ⟨v20,J5,ao5,n5,Y5,J6,ao6,n6,Y6,HV5,HV6,hb,rfl⟩:=hcut;have HV1:=hup HV1 hb;have HV2:=hup HV2 hb;have X1:=X1.mono hb;have X2:=X2.mono hb;have X3:=X3.mono hb;have hE:=hE.mono hb;have hbw:=bu hbw hb;clear hb;have HV1:=hii (HV1.out.put2B X1 (.bool J5) (.slice ao5 n5 Y5));have HV2:=hii (HV2.out.put2B X1 (.bool J5) (.slice ao5 n5 Y5));have X2:=X2.other2 (u:=.bool J5) (v:=.slice ao5 n5 Y5) (show w.heap.size + 1 ≠ w.heap.size by omega);have X3:=X3.other2 (u:=.bool J5) (v:=.slice ao5 n5 Y5) (show w.heap.size + 1 + 1 ≠ w.heap.size by omega);have HV5:=hii (HV5.out.put2B X1 (.bool J5) (.slice ao5 n5 Y5));have HV6:=hii (HV6.out.put2B X1 (.bool J5) (.slice ao5 n5 Y5));have X1:=X1.set2I (.bool J5) (.slice ao5 n5 Y5);have hbw:=Below.put2 hbw (n:=w.heap.size) (by omega) (.bool J5) (.slice ao5 n5 Y5);have hE:=hE0.mono hbw;generalize ((v20.setCell ⟨w.heap.size,0,none⟩ (.bool J5)).setCell ⟨w.heap.size,1,none⟩ (.slice ao5 n5 Y5))=v21 at *;have HV1:=hii (HV1.out.put2B X2 (.bool J6) (.slice ao6 n6 Y6));have HV2:=hii (HV2.out.put2B X2 (.bool J6) (.slice ao6 n6 Y6));have X1:=X1.other2 (u:=.bool J6) (v:=.slice ao6 n6 Y6) (show w.heap.size ≠ w.heap.size + 1 by omega);have X3:=X3.other2 (u:=.bool J6) (v:=.slice ao6 n6 Y6) (show w.heap.size + 1 + 1 ≠ w.heap.size + 1 by omega);have HV5:=hii (HV5.out.put2B X2 (.bool J6) (.slice ao6 n6 Y6));have HV6:=hii (HV6.out.put2B X2 (.bool J6) (.slice ao6 n6 Y6));have X2:=X2.set2I (.bool J6) (.slice ao6 n6 Y6);have hbw:=Below.put2 hbw (n:=w.heap.size + 1) (by omega) (.bool J6) (.slice ao6 n6 Y6);have hE:=hE0.mono hbw;generalize ((v21.setCell ⟨w.heap.size + 1,0,none⟩ (.bool J6)).setCell ⟨w.heap.size + 1,1,none⟩ (.slice ao6 n6 Y6))=v22 at *;obtain ⟨x1a,x1b,_,_⟩:=id X1;obtain ⟨x2a,x2b,_,_⟩:=id X2;go_wp2_with fail;go_fit (zeH _ _ (-p) (-q) v22 HV5.out HV6.out);rintro e v23 ⟨⟨J7,ao7,n7,Y7,rfl,HV7⟩,hb⟩;have X1:=X1.mono hb;have X2:=X2.mono hb;have X3:=X3.mono hb;have HV5:=hup HV5 hb;have HV6:=hup HV6 hb;have hbw:=bu hbw hb;clear hb;clear x1a x1b x2a x2b;go_upto_region 8 with fail;have lX7X1:=X1.lt;have lX7X2:=X2.lt;have lX7X3:=X3.lt;have X7:=Box.new v23 (.bool J7) (.slice ao7 n7 Y7) 30;have hb:=bA v23 (.cells #[.bool J7,.slice ao7 n7 Y7] 30);generalize v23.alloc (.cells #[.bool J7,.slice ao7 n7 Y7] 30)=v24 at *;have X1:=X1.mono hb;have X2:=X2.mono hb;have X3:=X3.mono hb;have HV5:=hup HV5 hb;have HV6:=hup HV6 hb;have HV7:=hup HV7 hb;have hbw:=bu hbw hb;clear hb;have HG0:Hid (((Int.gcd (-p) (-q):Nat):Int) ≠ 0):=hii (by have:=Rq.gcd_pos (p:=(-p)) (q:=(-q)) (by have:=hq.out; omega); omega);obtain ⟨x1a,x1b,_,_⟩:=id X1;obtain ⟨x7a,x7b,_,_⟩:=id X7;go_wp2_with fail;go_fit (zeI _ _ (-p) ((Int.gcd (-p) (-q):Nat):Int) v24 HV5.out HV7.out HG0);rintro e v25 ⟨⟨J8,ao8,n8,Y8,J9,ao9,n9,Y9,rfl,HV8⟩,hb⟩;have X1:=X1.mono hb;have X2:=X2.mono hb;have X3:=X3.mono hb;have HV6:=hup HV6 hb;have HV7:=hup HV7 hb;have X7:=X7.mono hb;have hbw:=bu hbw hb;clear hb;clear x1a x1b x7a x7b;go_upto_region 9 with fail;have lX8X1:=X1.lt;have lX8X2:=X2.lt;have lX8X3:=X3.lt;have lX8X7:=X7.lt;obtain ⟨wx,hwx,hszx,X8,X9,hb⟩:=zbf v25 (.bool J8) (.slice ao8 n8 Y8) 30 (.bool J9) (.slice ao9 n9 Y9) 30;rw [<- hwx];clear hwx;obtain ⟨v26,rfl⟩:=exi wx;have X1:=X1.mono hb;have X2:=X2.mono hb;have X3:=X3.mono hb;have HV6:=hup HV6 hb;have HV7:=hup HV7 hb;have X7:=X7.mono hb;have HV8:=hup HV8 hb;have hbw:=bu hbw hb;clear hb;obtain ⟨x2a,x2b,_,_⟩:=id X2;obtain ⟨x7a,x7b,_,_⟩:=id X7;go_wp2_with fail;go_fit (zeI _ _ (-q) ((Int.gcd (-p) (-q):Nat):Int) v26 HV6.out HV7.out HG0);rintro e v27 ⟨⟨ngA,aoA,nA,capA,ngB,aoB,nB,capB,rfl,HVA⟩,hb⟩;have X1:=X1.mono hb;have X2:=X2.mono hb;have X3:=X3.mono hb;have X7:=X7.mono hb;have HV8:=hup HV8 hb;have X8:=X8.mono hb;have X9:=X9.mono hb;have hbw:=bu hbw hb;clear hb;clear x2a x2b x7a x7b;go_upto_region 10 with fail;have lXAX1:=X1.lt;have lXAX2:=X2.lt;have lXAX3:=X3.lt;have lXAX7:=X7.lt;have lXAX8:=X8.lt;have lXAX9:=X9.lt;obtain ⟨wx,hwx,hszx,XA,XB,hb⟩:=zbf v27 (.bool ngA) (.slice aoA nA capA) 30 (.bool ngB) (.slice aoB nB capB) 30;rw [<- hwx];clear hwx;obtain ⟨v28,rfl⟩:=exi wx;have X3:=X3.mono hb;have HV8:=hup HV8 hb;have X8:=X8.mono hb;have HVA:=hii (HVA.out.mono hb);have hbw:=bu hbw hb;clear hb;have HN:Hid ((-p).tdiv ((Int.gcd (-p) (-q):Nat):Int)=(Rat.divInt p q).num/\(-q).tdiv ((Int.gcd (-p) (-q):Nat):Int)=((Rat.divInt p q).den:Int)):=hii ⟨Rq.rnum_of hq.out,Rq.rden_of hq.out⟩;rw [HN.out.1] at HV8;rw [HN.out.2] at HVA;obtain ⟨x8a,x8b,_,_⟩:=id X8;obtain ⟨cXA_0,cXA_1,_,_⟩:=id XA;obtain ⟨x3a,x3b,x3c,x3d,_,_,_,_⟩:=id X3;go_wp2;refine bodyPost_ret (v:=.tuple #[.agg #[.bool J8,.slice ao8 n8 Y8,.bool ngA,.slice aoA nA capA],.int .i64 0]) (by simp [results,Tryz.results34,go_sem,x3a,x3b,x3c,x3d]) rfl ⟨⟨J8,ao8,n8,Y8,ngA,aoA,nA,capA,rfl,hii (HV8.out.put4B X3 (.bool J8) (.slice ao8 n8 Y8) (.bool ngA) (.slice aoA nA capA)),hii (HVA.out.put4B X3 (.bool J8) (.slice ao8 n8 Y8) (.bool ngA) (.slice aoA nA capA))⟩,Below.put4 hbw (by omega) (.bool J8) (.slice ao8 n8 Y8) (.bool ngA) (.slice aoA nA capA)⟩
theorem zi1 (a b:Vl) (p q:Int) (w:Wo) (ha:zah w a p) (hb:zah w b q) (hq:Hid (0 < q)) (hE:Env w) :
  CP 34 #[a,b] w λ e w' => zcw w' (Rat.divInt p q) e/\BH w w':=by
 have HS:Hid (zaH q=1):=hii (by have:=hq.out; unfold zaH; split <;> (try split) <;> omega);have hbw:=Below.refl w.heap.size w;obtain ⟨J1,ao1,n1,Y1,rfl⟩:=ha.parts;have HV1:=hii ha;clear ha;obtain ⟨J2,ao2,n2,Y2,rfl⟩:=hb.parts;have HV2:=hii hb;clear hb;go_enter func34,ntmps34;go_upto_region 1 with fail;obtain ⟨wx,hwx,hszx,X1,X2,X3,hb⟩:=zbM w (.bool J1) (.slice ao1 n1 Y1) 30 (.bool J2) (.slice ao2 n2 Y2) 30 bF_ nS_ bF_ nS_ 32;rw [<- hwx];clear hwx;obtain ⟨v1,rfl⟩:=exi wx;have HV1:=hup HV1 hb;have HV2:=hup HV2 hb;have hbw:=bu hbw hb;clear hb;obtain ⟨x1a,x1b,_,_⟩:=id X1;go_wp2_with fail;go_fit (zcX _ p v1 HV1.out);rintro e v2 ⟨rfl,hb⟩;have HV1:=hup HV1 hb;have HV2:=hup HV2 hb;have X1:=X1.mono hb;have X2:=X2.mono hb;have X3:=X3.mono hb;have hbw:=bu hbw hb;clear hb;clear x1a x1b;obtain ⟨x2a,x2b,_,_⟩:=id X2;go_wp2_with fail;go_fit (zcX _ q v2 HV2.out);rintro e v3 ⟨rfl,hb⟩;have HV1:=hup HV1 hb;have HV2:=hup HV2 hb;have X1:=X1.mono hb;have X2:=X2.mono hb;have X3:=X3.mono hb;have hbw:=bu hbw hb;clear hb;clear x2a x2b;obtain ⟨x2a,x2b,_,_⟩:=id X2;go_wp2_with fail;go_fit (zbT _ q (1) v3 HS HV2.out);rintro e v4 ⟨rfl,hb⟩;have HV1:=hup HV1 hb;have HV2:=hup HV2 hb;have X1:=X1.mono hb;have X2:=X2.mono hb;have X3:=X3.mono hb;have hbw:=bu hbw hb;clear hb;clear x2a x2b;obtain ⟨x2a,x2b,_,_⟩:=id X2;go_wp2_with fail;go_fit (zbT _ q (1) v4 HS HV2.out);rintro e v5 ⟨rfl,hb⟩;have HV1:=hup HV1 hb;have HV2:=hup HV2 hb;have X1:=X1.mono hb;have X2:=X2.mono hb;have X3:=X3.mono hb;have hbw:=bu hbw hb;clear hb;clear x2a x2b;obtain ⟨x1a,x1b,_,_⟩:=id X1;obtain ⟨x2a,x2b,_,_⟩:=id X2;go_wp2_with fail;go_fit (zeH _ _ p q v5 HV1.out HV2.out);rintro e v6 ⟨⟨J7,ao7,n7,Y7,rfl,HV7⟩,hb⟩;have HV1:=hup HV1 hb;have HV2:=hup HV2 hb;have X1:=X1.mono hb;have X2:=X2.mono hb;have X3:=X3.mono hb;have hbw:=bu hbw hb;clear hb;clear x1a x1b x2a x2b;go_upto_region 8 with fail;have lX7X1:=X1.lt;have lX7X2:=X2.lt;have lX7X3:=X3.lt;have X7:=Box.new v6 (.bool J7) (.slice ao7 n7 Y7) 30;have hb:=bA v6 (.cells #[.bool J7,.slice ao7 n7 Y7] 30);generalize v6.alloc (.cells #[.bool J7,.slice ao7 n7 Y7] 30)=v7 at *;have HV1:=hup HV1 hb;have HV2:=hup HV2 hb;have X1:=X1.mono hb;have X2:=X2.mono hb;have X3:=X3.mono hb;have HV7:=hup HV7 hb;have hbw:=bu hbw hb;clear hb;have HG0:Hid (((Int.gcd p q:Nat):Int) ≠ 0):=hii (by have:=Rq.gcd_pos (p:=p) (q:=q) (by have:=hq.out; omega); omega);obtain ⟨x1a,x1b,_,_⟩:=id X1;obtain ⟨x7a,x7b,_,_⟩:=id X7;go_wp2_with fail;go_fit (zeI _ _ p ((Int.gcd p q:Nat):Int) v7 HV1.out HV7.out HG0);rintro e v8 ⟨⟨J8,ao8,n8,Y8,J9,ao9,n9,Y9,rfl,HV8⟩,hb⟩;have HV2:=hup HV2 hb;have X1:=X1.mono hb;have X2:=X2.mono hb;have X3:=X3.mono hb;have HV7:=hup HV7 hb;have X7:=X7.mono hb;have hbw:=bu hbw hb;clear hb;clear x1a x1b x7a x7b;go_upto_region 9 with fail;have lX8X1:=X1.lt;have lX8X2:=X2.lt;have lX8X3:=X3.lt;have lX8X7:=X7.lt;obtain ⟨wx,hwx,hszx,X8,X9,hb⟩:=zbf v8 (.bool J8) (.slice ao8 n8 Y8) 30 (.bool J9) (.slice ao9 n9 Y9) 30;rw [<- hwx];clear hwx;obtain ⟨v9,rfl⟩:=exi wx;have HV2:=hup HV2 hb;have X1:=X1.mono hb;have X2:=X2.mono hb;have X3:=X3.mono hb;have HV7:=hup HV7 hb;have X7:=X7.mono hb;have HV8:=hup HV8 hb;have hbw:=bu hbw hb;clear hb;obtain ⟨x2a,x2b,_,_⟩:=id X2;obtain ⟨x7a,x7b,_,_⟩:=id X7;go_wp2_with fail;go_fit (zeI _ _ q ((Int.gcd p q:Nat):Int) v9 HV2.out HV7.out HG0);rintro e v10 ⟨⟨ngA,aoA,nA,capA,ngB,aoB,nB,capB,rfl,HVA⟩,hb⟩;have X1:=X1.mono hb;have X2:=X2.mono hb;have X3:=X3.mono hb;have X7:=X7.mono hb;have HV8:=hup HV8 hb;have X8:=X8.mono hb;have X9:=X9.mono hb;have hbw:=bu hbw hb;clear hb;clear x2a x2b x7a x7b;go_upto_region 10 with fail;have lXAX1:=X1.lt;have lXAX2:=X2.lt;have lXAX3:=X3.lt;have lXAX7:=X7.lt;have lXAX8:=X8.lt;have lXAX9:=X9.lt;obtain ⟨wx,hwx,hszx,XA,XB,hb⟩:=zbf v10 (.bool ngA) (.slice aoA nA capA) 30 (.bool ngB) (.slice aoB nB capB) 30;rw [<- hwx];clear hwx;obtain ⟨v11,rfl⟩:=exi wx;have X3:=X3.mono hb;have HV8:=hup HV8 hb;have X8:=X8.mono hb;have HVA:=hii (HVA.out.mono hb);have hbw:=bu hbw hb;clear hb;have HN:Hid (p.tdiv ((Int.gcd p q:Nat):Int)=(Rat.divInt p q).num/\q.tdiv ((Int.gcd p q:Nat):Int)=((Rat.divInt p q).den:Int)):=hii ⟨Rq.num_pos hq.out,Rq.den_pos hq.out⟩;rw [HN.out.1] at HV8;rw [HN.out.2] at HVA;obtain ⟨x8a,x8b,_,_⟩:=id X8;obtain ⟨cXA_0,cXA_1,_,_⟩:=id XA;obtain ⟨x3a,x3b,x3c,x3d,_,_,_,_⟩:=id X3;go_wp2;refine bodyPost_ret (v:=.tuple #[.agg #[.bool J8,.slice ao8 n8 Y8,.bool ngA,.slice aoA nA capA],.int .i64 0]) (by simp [results,Tryz.results34,go_sem,x3a,x3b,x3c,x3d]) rfl ⟨⟨J8,ao8,n8,Y8,ngA,aoA,nA,capA,rfl,hii (HV8.out.put4B X3 (.bool J8) (.slice ao8 n8 Y8) (.bool ngA) (.slice aoA nA capA)),hii (HVA.out.put4B X3 (.bool J8) (.slice ao8 n8 Y8) (.bool ngA) (.slice aoA nA capA))⟩,Below.put4 hbw (by omega) (.bool J8) (.slice ao8 n8 Y8) (.bool ngA) (.slice aoA nA capA)⟩
theorem zeG (a b:Vl) (p q:Int) (w:Wo) (ha:zah w a p) (hb:zah w b q) (hq:Hid (q ≠ 0)) (hE:Env w) :
  CP 34 #[a,b] w λ e w' => zcw w' (Rat.divInt p q) e/\BH w w':=by
 rcases Int.lt_trichotomy q 0 with h | h | h
 ·exact zi2 a b p q w ha hb (hii h) hE
 ·exact absurd h hq.out
 ·exact zi1 a b p q w ha hb (hii h) hE
theorem zd9 (n d:Int) (w:Wo) (hn1:-9223372036854775808<=n) (hn2:n<=9223372036854775807) (hd1:-9223372036854775808<=d) (hd2:d<=9223372036854775807) (hd:Hid (d ≠ 0)) (hE:Env w) :
  CP 30 #[.int .i64 n,.int .i64 d] w λ e w' => zcw w' (Rat.divInt n d) e/\BH w w':=by
 have hbw:=Below.refl w.heap.size w;go_enter func30,ntmps30;go_upto_region 1 with fail;have X3:=zaQ.new w bF_ nS_ bF_ nS_ 32;have hb:=bA w (.cells #[bF_,nS_,bF_,nS_] 32);generalize w.alloc (.cells #[bF_,nS_,bF_,nS_] 32)=v1 at *;have hE:=hE.mono hb;have hbw:=bu hbw hb;clear hb;go_wp2_with fail;go_fit (zgi n hn1 hn2 v1 hE);rintro e v2 ⟨⟨J1,ao1,n1,Y1,rfl,HV1⟩,hb⟩;have X3:=X3.mono hb;have hE:=hE.mono hb;have hbw:=bu hbw hb;clear hb;go_wp2_with fail;go_fit (zgi d hd1 hd2 v2 hE);rintro e v3 ⟨⟨J2,ao2,n2,Y2,rfl,HV2⟩,hb⟩;have X3:=X3.mono hb;have HV1:=hup HV1 hb;have hE:=hE.mono hb;have hbw:=bu hbw hb;clear hb;go_wp2_with fail;go_fit (zeG _ _ n d v3 HV1.out HV2.out hd hE);rintro e v4 ⟨⟨J3,ao3,n3,Y3,J4,ao4,n4,Y4,rfl,HV3,HV4⟩,hb⟩;have X3:=X3.mono hb;have hbw:=bu hbw hb;clear hb;obtain ⟨x3a,x3b,x3c,x3d,_,_,_,_⟩:=id X3;go_wp2;refine bodyPost_ret (v:=.tuple #[.agg #[.bool J3,.slice ao3 n3 Y3,.bool J4,.slice ao4 n4 Y4],.int .i64 0]) (by simp [results,Tryz.results30,go_sem,x3a,x3b,x3c,x3d]) rfl ⟨⟨J3,ao3,n3,Y3,J4,ao4,n4,Y4,rfl,hii (HV3.out.put4B X3 (.bool J3) (.slice ao3 n3 Y3) (.bool J4) (.slice ao4 n4 Y4)),hii (HV4.out.put4B X3 (.bool J3) (.slice ao3 n3 Y3) (.bool J4) (.slice ao4 n4 Y4))⟩,Below.put4 hbw (by omega) (.bool J3) (.slice ao3 n3 Y3) (.bool J4) (.slice ao4 n4 Y4)⟩
theorem zkS {J1:Bool} {ao1:OA} {n1 Y1:Nat} {J2:Bool} {ao2:OA} {n2 Y2:Nat} {J3:Bool} {ao3:OA} {n3 Y3:Nat} {J4:Bool} {ao4:OA} {n4 Y4:Nat} (p d x y:Int) (w:Wo) (hs:Hid (p=x/\d=y)) (h1:zah w (.agg #[.bool J1,.slice ao1 n1 Y1]) p) (h2:zah w (.agg #[.bool J2,.slice ao2 n2 Y2]) d) (h3:zah w (.agg #[.bool J3,.slice ao3 n3 Y3]) x) (h4:zah w (.agg #[.bool J4,.slice ao4 n4 Y4]) y) (hE:Env w) :
  CP 13 #[.agg #[.bool J1,.slice ao1 n1 Y1,.bool J2,.slice ao2 n2 Y2],.agg #[.bool J3,.slice ao3 n3 Y3,.bool J4,.slice ao4 n4 Y4]] w λ e w' => e=.returned (.bool true)/\BH w w':=by
 have hbw:=Below.refl w.heap.size w;go_enter func13,ntmps13;have HV1:=hii h1;have HV2:=hii h2;have HV3:=hii h3;have HV4:=hii h4;clear h1 h2 h3 h4;go_upto_region 1 with fail;obtain ⟨wx,hwx,hszx,X1,X2,hb⟩:=ze4 w (.bool J1) (.slice ao1 n1 Y1) (.bool J2) (.slice ao2 n2 Y2) 32 (.bool J3) (.slice ao3 n3 Y3) (.bool J4) (.slice ao4 n4 Y4) 32;rw [<- hwx];clear hwx;obtain ⟨v1,rfl⟩:=exi wx;have HV1:=hup HV1 hb;have HV2:=hup HV2 hb;have HV3:=hup HV3 hb;have HV4:=hup HV4 hb;have hbw:=bu hbw hb;clear hb;obtain ⟨x1a,x1b,x1c,x1d,_,_,_,_⟩:=id X1;obtain ⟨x2a,x2b,x2c,x2d,_,_,_,_⟩:=id X2;go_wp2_with fail;go_fit (zjo _ _ p x true v1 (hii (by have:=hs.out; simp; omega)) HV1.out HV3.out);rintro e v2 ⟨rfl,hb⟩;have HV2:=hup HV2 hb;have HV4:=hup HV4 hb;have X1:=X1.mono hb;have X2:=X2.mono hb;have hbw:=bu hbw hb;clear hb;clear x1a x1b x1c x1d x2a x2b x2c x2d;obtain ⟨x1a,x1b,x1c,x1d,_,_,_,_⟩:=id X1;obtain ⟨x2a,x2b,x2c,x2d,_,_,_,_⟩:=id X2;go_wp2_with fail;go_fit (zjo _ _ d y true v2 (hii (by have:=hs.out; simp; omega)) HV2.out HV4.out);rintro e v3 ⟨rfl,hb⟩;have hbw:=bu hbw hb;clear hb;clear x1a x1b x1c x1d x2a x2b x2c x2d;go_wp2;go_ret;exact ⟨rfl,hbw⟩
end Go.Proofs.YtfgffkmddanjjaaGreatDoor
