/-
  Fractions in lowest terms, plain: the ways of the program and of the reference to them are those of Rat.
-/
import Derived.Test.YtfgffkmddanjjaaGreatDoorI2
import Derived.Test.YtfgffkmddanjjaaGreatDoorI8
import Derived.RegionTactic
import Derived.BigRegion
import Derived.Deep.RegionHeld3
import Derived.Deep.RegionWith
set_option linter.unusedVariables false
set_option linter.unusedSimpArgs false
set_option maxRecDepth 100000
set_option maxHeartbeats 25600000
namespace Rq
def Sm (z:Int):Prop:=z.natAbs < Bi.Big
theorem sm_neg {z:Int} (h:z.natAbs < Bi.Big):Sm (0 - z):=by unfold Sm; rw [Int.zero_sub,Int.natAbs_neg]; exact h
def gS (p q:Int):Int:=if q < 0 then 0 - (Int.gcd p q:Int) else Int.gcd p q
theorem gcd_pos {p q:Int} (hq:q ≠ 0):0 < (Int.gcd p q:Int):=by
 have:=Int.gcd_pos_of_ne_zero_right p hq;omega
theorem num_of {p q:Int} (hq:q ≠ 0):p.tdiv (gS p q)=(Rat.divInt p q).num:=by
 have hd:(Int.gcd p q:Int) ∣ p:=Int.gcd_dvd_left p q;have hg:=gcd_pos (p:=p) hq;rw [Rat.num_divInt,Int.gcd_comm q p];unfold gS
 split
 ·rename_i h
  rw [Int.sign_eq_neg_one_of_neg h,Int.zero_sub,Int.tdiv_neg,Int.tdiv_eq_ediv_of_dvd hd,Int.neg_mul,Int.one_mul,Int.neg_ediv_of_dvd hd]
 ·rename_i h
  rw [Int.sign_eq_one_of_pos (by omega),Int.one_mul,Int.tdiv_eq_ediv_of_dvd hd]
theorem den_of {p q:Int} (hq:q ≠ 0):q.tdiv (gS p q)=((Rat.divInt p q).den:Int):=by
 have hd:(Int.gcd p q:Int) ∣ q:=Int.gcd_dvd_right p q;rw [Rat.den_divInt,if_neg hq,Int.gcd_comm q p];unfold gS;rw [Int.natCast_ediv]
 split
 ·rename_i h
  rw [Int.zero_sub,Int.tdiv_neg,Int.tdiv_eq_ediv_of_dvd hd,show ((q.natAbs:Nat):Int)=-q by omega,Int.neg_ediv_of_dvd hd]
 ·rename_i h
  rw [Int.tdiv_eq_ediv_of_dvd hd,show ((q.natAbs:Nat):Int)=q by omega]
theorem rnum_of {p q:Int} (hq:q < 0):(-p).tdiv (Int.gcd (-p) (-q):Int)=(Rat.divInt p q).num:=by
 rw [<- Rat.neg_divInt_neg,<- num_of (by omega)];unfold gS;rw [if_neg (by omega)]
theorem rden_of {p q:Int} (hq:q < 0):(-q).tdiv (Int.gcd (-p) (-q):Int)=((Rat.divInt p q).den:Int):=by
 rw [<- Rat.neg_divInt_neg,<- den_of (by omega)];unfold gS;rw [if_neg (by omega)]
theorem num_pos {p q:Int} (hq:0 < q):p.tdiv (Int.gcd p q:Int)=(Rat.divInt p q).num:=by
 rw [<- num_of (by omega)]; unfold gS; rw [if_neg (by omega)]
theorem den_pos {p q:Int} (hq:0 < q):q.tdiv (Int.gcd p q:Int)=((Rat.divInt p q).den:Int):=by
 rw [<- den_of (by omega)]; unfold gS; rw [if_neg (by omega)]
def VP (p d:Int):Prop:=0 < d/\Int.gcd p d=1
theorem VP.rat {p d:Int} (h:VP p d):∃ r:Rat,r.num=p/\(r.den:Int)=d:=by
 obtain ⟨h1,h2⟩:=h;refine ⟨⟨p,d.natAbs,by omega,?_⟩,rfl,by simp only; omega⟩;unfold Nat.Coprime;exact h2
theorem vp_rat (r:Rat):VP r.num (r.den:Int):=by
 refine ⟨by have:=r.den_pos; omega,?_⟩;have:=r.reduced;unfold Nat.Coprime at this
 simpa [Int.gcd] using this
theorem den_ne (r:Rat):((r.den:Nat):Int) ≠ 0:=by have:=r.den_pos; omega
theorem add_eq (a b:Rat):Rat.divInt (a.num * b.den + b.num * a.den) (a.den * b.den)=a + b:=by
 rw [Rat.add_def',<- Rat.divInt_ofNat,Int.natCast_mul]
theorem sub_eq (a b:Rat):Rat.divInt (a.num * b.den - b.num * a.den) (a.den * b.den)=a - b:=by
 rw [Rat.sub_def',<- Rat.divInt_ofNat,Int.natCast_mul]
theorem mul_eq (a b:Rat):Rat.divInt (a.num * b.num) (a.den * b.den)=a * b:=by
 rw [Rat.mul_def',<- Rat.divInt_ofNat,Int.natCast_mul]
theorem div_eq (a b:Rat):Rat.divInt (a.num * b.den) (a.den * b.num)=a / b:=by
 rw [Rat.div_def,Rat.inv_def,<- Rat.divInt_mul_divInt,Rat.num_divInt_den]
def cmpQ (a b:Rat):Int:=if a < b then -1 else if b < a then 1 else 0
theorem cmp_eq (a b:Rat):(if a.num * b.den < b.num * a.den then (-1:Int) else if b.num * a.den < a.num * b.den then 1 else 0)=cmpQ a b:=by
 unfold cmpQ;simp only [Rat.lt_iff]
end Rq
namespace Go.Proofs.YtfgffkmddanjjaaGreatDoor
open _root_.Go.Proofs.Tryz
open Go.RowKit
theorem zfI {neg:Bool} {l:List Nat} (hv:zaC neg l):∃ z:Int,neg=decide (z < 0)/\l=Bi.limbs z.natAbs/\z.natAbs < Bi.Big/\l.length<=34:=by
 unfold zaC at hv
 by_cases h0:l=[]
 ·rw [if_pos h0] at hv;subst h0 hv;exact ⟨0,rfl,rfl,zi2 (by decide),by simp⟩
 ·rw [if_neg h0] at hv;obtain ⟨h1,h2,h3⟩:=hv;have hL:l=Bi.limbs (Bi.val l):=(Bi.canon_limbs h1 h2).symm;have hne:Bi.val l ≠ 0:=by
   intro h; rw [h] at hL; exact h0 hL
  refine ⟨sgn neg (Bi.val l),?_,by rw [zam]; exact hL,by rw [zam]; exact h3,?_⟩
  ·unfold sgn; cases neg
   ·simp
   ·simp; omega
  ·rw [hL]; exact zat h3
theorem zhU (neg:Bool) (l:List Nat) (ao:Option Addr) (cap:Nat) (w:World) (hm:l.length<=1000000000) (hv:Hid (zaC neg l)) (hU:U w ao l) (hE:Env w) :
  Calls Tryz.prog 121 #[.agg #[.bool neg,.slice ao l.length cap]] w λ e w' => e=.returned (.bool true)/\BH w w':=by
 refine (zbU neg l ao cap w hm hU hE).mono ?_;rintro e w' ⟨⟨r,HR,rfl⟩,hb⟩;refine ⟨zc8 ?_,hb⟩;have h:=HR.out;have hv:=hv.out
 cases r <;> simp_all
theorem zhk (neg:Bool) (l:List Nat) (ao:Option Addr) (cap:Nat) (w:World) (hm:l.length<=1000000000) (hv:Hid (zaC neg l)) (hU:U w ao l) :
  Calls Tryz.prog 77 #[.agg #[.bool neg,.slice ao l.length cap]] w λ e w' => e=.returned (.bool true)/\BH w w':=by
 refine (zhn neg l ao cap w hm hU).mono ?_;rintro e w' ⟨⟨r,HR,rfl⟩,hb⟩;refine ⟨zc8 ?_,hb⟩;have h:=HR.out;have hv:=hv.out
 cases r <;> simp_all
theorem zgp (neg:Bool) (l:List Nat) (ao:Option Addr) (cap:Nat) (w:World) (hm:l.length<=1000000000) (hv:Hid (¬ zaC neg l)) (hU:U w ao l) (hE:Env w) :
  Calls Tryz.prog 121 #[.agg #[.bool neg,.slice ao l.length cap]] w λ e w' => e=.returned (.bool false)/\BH w w':=by
 refine (zbU neg l ao cap w hm hU hE).mono ?_;rintro e w' ⟨⟨r,HR,rfl⟩,hb⟩;refine ⟨zc8 ?_,hb⟩;have h:=HR.out;have hv:=hv.out
 cases r <;> simp_all
theorem zai.mk' {w:World} {neg:Bool} {ao:Option Addr} {L:List Nat} {cap:Nat} {z:Int} (h1:Hid (neg=decide (z < 0))) (h2:Hid (L=Bi.limbs z.natAbs)) (h3:Hid (z.natAbs < Bi.Big)) (hc:L.length<=cap) (hl:L.length<=34) (hU:U w ao L) :
  zai w (.agg #[.bool neg,.slice ao L.length cap]) z:=⟨neg,ao,L,cap,rfl,h1,h2,h3,hc,hl,hU⟩
theorem zig (neg:Bool) (l:List Nat) (ao:Option Addr) (cap:Nat) (x:Int) (w:World) (Hn1:Hid (neg=decide (x < 0))) (HL1:Hid (l=Bi.limbs x.natAbs)) :
  Calls Tryz.prog 78 #[.agg #[.bool neg,.slice ao l.length cap]] w λ e w' => e=.returned (.int .i64 (zaU x))/\BH w w':=by
 by_cases h0:l=[]
 ·have hx:Hid (zaU x=0):=hii (by
   have h:=HL1.out; rw [h0] at h; have:=Bi.limbs_eq_nil.1 h.symm; unfold zaU; rw [if_pos (by omega)])
  subst h0;go_enter func78,ntmps78;go_wp2;go_ret;exact ⟨zaL hx.out.symm,br.alloc nl _⟩
 ·have hL:0 < l.length:=List.length_pos_iff.2 h0;have hx0:x ≠ 0:=by rintro rfl; exact h0 (by rw [HL1.out]; rfl)
  have hLz:((l.length:Int) == 0)=false:=by rw [beq_eq_false_iff_ne]; omega
  have hx:Hid (zaU x=if neg then -1 else 1):=hii (by unfold zaU; rw [if_neg hx0,Hn1.out]; by_cases h:x < 0 <;> simp [h])
  cases neg
  all_goals
   go_enter func78,ntmps78;go_wp2;go_ret;exact ⟨zaL hx.out.symm,br.alloc nl _⟩
structure zaX (w:World) (n:Nat) (x0 x1 x2 x3:Value):Prop where
 c0:w.cell? ⟨n,0,none⟩=some x0
 c1:w.cell? ⟨n,1,none⟩=some x1
 c2:w.cell? ⟨n,2,none⟩=some x2
 c3:w.cell? ⟨n,3,none⟩=some x3
 f0:w.frozen? ⟨n,0,none⟩=false
 f1:w.frozen? ⟨n,1,none⟩=false
 f2:w.frozen? ⟨n,2,none⟩=false
 f3:w.frozen? ⟨n,3,none⟩=false
theorem zaX.lt {w:World} {n:Nat} {x0 x1 x2 x3:Value} (h:zaX w n x0 x1 x2 x3):n < w.heap.size:=zag h.c0
theorem zaX.mono {w w':World} {n:Nat} {x0 x1 x2 x3:Value} (h:zaX w n x0 x1 x2 x3) (hb:BH w w'):zaX w' n x0 x1 x2 x3 :=
 ⟨(hb.cell (p:=⟨n,0,none⟩) h.lt).trans h.c0,(hb.cell (p:=⟨n,1,none⟩) h.lt).trans h.c1,(hb.cell (p:=⟨n,2,none⟩) h.lt).trans h.c2,(hb.cell (p:=⟨n,3,none⟩) h.lt).trans h.c3,
  (hb.frozen (p:=⟨n,0,none⟩) h.lt).trans h.f0,(hb.frozen (p:=⟨n,1,none⟩) h.lt).trans h.f1,(hb.frozen (p:=⟨n,2,none⟩) h.lt).trans h.f2,(hb.frozen (p:=⟨n,3,none⟩) h.lt).trans h.f3⟩
theorem zaX.new (w:World) (x0 x1 x2 x3:Value) (t:TypeId):zaX (w.alloc (.cells #[x0,x1,x2,x3] t)) w.heap.size x0 x1 x2 x3 :=
 ⟨by simp [go_sem],by simp [go_sem],by simp [go_sem],by simp [go_sem],by simp [go_sem],by simp [go_sem],by simp [go_sem],by simp [go_sem]⟩
theorem za9 (w:World) (a0 b0:Value) (t0:TypeId) (c0 d0:Value) (t1:TypeId):∃ wx,wx=((w.alloc (.cells #[a0,b0] t0)).alloc (.cells #[c0,d0] t1))/\wx.heap.size=w.heap.size + 1 + 1/\Box wx w.heap.size a0 b0/\Box wx (w.heap.size + 1) c0 d0/\BH w wx:=by
 refine ⟨_,rfl,by simp,?_,?_,?_⟩
 ·exact (Box.new w a0 b0 t0).mono (bA _ (.cells #[c0,d0] t1))
 ·have:=Box.new (w.alloc (.cells #[a0,b0] t0)) c0 d0 t1
  simpa using this
 ·exact ((br.alloc (by simp) _).alloc (by simp) _)
theorem zg7 (w:World) (a0 b0 c0 d0:Value) (t0:TypeId) (e0 f0 g0 h0:Value) (t1:TypeId):∃ wx,wx=((w.alloc (.cells #[a0,b0,c0,d0] t0)).alloc (.cells #[e0,f0,g0,h0] t1))/\wx.heap.size=w.heap.size + 1 + 1/\zaX wx w.heap.size a0 b0 c0 d0/\zaX wx (w.heap.size + 1) e0 f0 g0 h0/\BH w wx:=by
 refine ⟨_,rfl,by simp,?_,?_,?_⟩
 ·exact (zaX.new w a0 b0 c0 d0 t0).mono (bA _ (.cells #[e0,f0,g0,h0] t1))
 ·have:=zaX.new (w.alloc (.cells #[a0,b0,c0,d0] t0)) e0 f0 g0 h0 t1
  simpa using this
 ·exact ((br.alloc (by simp) _).alloc (by simp) _)
theorem zbC (w:World) (a0 b0 c0 d0:Value) (t0:TypeId) (e0 f0 g0 h0:Value) (t1:TypeId) (i0 j0 k0 l0:Value) (t2:TypeId):∃ wx,wx=(((w.alloc (.cells #[a0,b0,c0,d0] t0)).alloc (.cells #[e0,f0,g0,h0] t1)).alloc (.cells #[i0,j0,k0,l0] t2))/\wx.heap.size=w.heap.size + 1 + 1 + 1/\zaX wx w.heap.size a0 b0 c0 d0/\zaX wx (w.heap.size + 1) e0 f0 g0 h0/\zaX wx (w.heap.size + 1 + 1) i0 j0 k0 l0/\BH w wx:=by
 refine ⟨_,rfl,by simp,?_,?_,?_,?_⟩
 ·exact ((zaX.new w a0 b0 c0 d0 t0).mono (bA _ (.cells #[e0,f0,g0,h0] t1))).mono (bA _ (.cells #[i0,j0,k0,l0] t2))
 ·have:=(zaX.new (w.alloc (.cells #[a0,b0,c0,d0] t0)) e0 f0 g0 h0 t1).mono (bA _ (.cells #[i0,j0,k0,l0] t2))
  simpa using this
 ·have:=zaX.new ((w.alloc (.cells #[a0,b0,c0,d0] t0)).alloc (.cells #[e0,f0,g0,h0] t1)) i0 j0 k0 l0 t2
  simpa using this
 ·exact (((br.alloc (by simp) _).alloc (by simp) _).alloc (by simp; omega) _)
theorem zbD (w:World) (a0 b0:Value) (t0:TypeId) (c0 d0:Value) (t1:TypeId) (e0 f0 g0 h0:Value) (t2:TypeId):∃ wx,wx=(((w.alloc (.cells #[a0,b0] t0)).alloc (.cells #[c0,d0] t1)).alloc (.cells #[e0,f0,g0,h0] t2))/\wx.heap.size=w.heap.size + 1 + 1 + 1/\Box wx w.heap.size a0 b0/\Box wx (w.heap.size + 1) c0 d0/\zaX wx (w.heap.size + 1 + 1) e0 f0 g0 h0/\BH w wx:=by
 refine ⟨_,rfl,by simp,?_,?_,?_,?_⟩
 ·exact ((Box.new w a0 b0 t0).mono (bA _ (.cells #[c0,d0] t1))).mono (bA _ (.cells #[e0,f0,g0,h0] t2))
 ·have:=(Box.new (w.alloc (.cells #[a0,b0] t0)) c0 d0 t1).mono (bA _ (.cells #[e0,f0,g0,h0] t2))
  simpa using this
 ·have:=zaX.new ((w.alloc (.cells #[a0,b0] t0)).alloc (.cells #[c0,d0] t1)) e0 f0 g0 h0 t2
  simpa using this
 ·exact (((br.alloc (by simp) _).alloc (by simp) _).alloc (by simp; omega) _)
theorem zgc (w:World) (a0 b0:Value) (t0:TypeId) (c0 d0:Value) (t1:TypeId) (e0 f0:Value) (t2:TypeId) (g0 h0:Value) (t3:TypeId) (i0 j0 k0 l0:Value) (t4:TypeId):∃ wx,wx=(((((w.alloc (.cells #[a0,b0] t0)).alloc (.cells #[c0,d0] t1)).alloc (.cells #[e0,f0] t2)).alloc (.cells #[g0,h0] t3)).alloc (.cells #[i0,j0,k0,l0] t4))/\wx.heap.size=w.heap.size + 1 + 1 + 1 + 1 + 1/\Box wx w.heap.size a0 b0/\Box wx (w.heap.size + 1) c0 d0/\Box wx (w.heap.size + 1 + 1) e0 f0/\Box wx (w.heap.size + 1 + 1 + 1) g0 h0/\zaX wx (w.heap.size + 1 + 1 + 1 + 1) i0 j0 k0 l0/\BH w wx:=by
 refine ⟨_,rfl,by simp,?_,?_,?_,?_,?_,?_⟩
 ·exact ((((Box.new w a0 b0 t0).mono (bA _ (.cells #[c0,d0] t1))).mono (bA _ (.cells #[e0,f0] t2))).mono (bA _ (.cells #[g0,h0] t3))).mono (bA _ (.cells #[i0,j0,k0,l0] t4))
 ·have:=(((Box.new (w.alloc (.cells #[a0,b0] t0)) c0 d0 t1).mono (bA _ (.cells #[e0,f0] t2))).mono (bA _ (.cells #[g0,h0] t3))).mono (bA _ (.cells #[i0,j0,k0,l0] t4))
  simpa using this
 ·have:=((Box.new ((w.alloc (.cells #[a0,b0] t0)).alloc (.cells #[c0,d0] t1)) e0 f0 t2).mono (bA _ (.cells #[g0,h0] t3))).mono (bA _ (.cells #[i0,j0,k0,l0] t4))
  simpa using this
 ·have:=(Box.new (((w.alloc (.cells #[a0,b0] t0)).alloc (.cells #[c0,d0] t1)).alloc (.cells #[e0,f0] t2)) g0 h0 t3).mono (bA _ (.cells #[i0,j0,k0,l0] t4))
  simpa using this
 ·have:=zaX.new ((((w.alloc (.cells #[a0,b0] t0)).alloc (.cells #[c0,d0] t1)).alloc (.cells #[e0,f0] t2)).alloc (.cells #[g0,h0] t3)) i0 j0 k0 l0 t4
  simpa using this
 ·exact (((((br.alloc (by simp) _).alloc (by simp) _).alloc (by simp; omega) _).alloc (by simp; omega) _).alloc (by simp; omega) _)
theorem zhH (w:World) (a0 b0 c0 d0:Value) (t0:TypeId) (e0 f0 g0 h0:Value) (t1:TypeId) (i0 j0:Value) (t2:TypeId) (k0 l0:Value) (t3:TypeId):∃ wx,wx=((((w.alloc (.cells #[a0,b0,c0,d0] t0)).alloc (.cells #[e0,f0,g0,h0] t1)).alloc (.cells #[i0,j0] t2)).alloc (.cells #[k0,l0] t3))/\wx.heap.size=w.heap.size + 1 + 1 + 1 + 1/\zaX wx w.heap.size a0 b0 c0 d0/\zaX wx (w.heap.size + 1) e0 f0 g0 h0/\Box wx (w.heap.size + 1 + 1) i0 j0/\Box wx (w.heap.size + 1 + 1 + 1) k0 l0/\BH w wx:=by
 refine ⟨_,rfl,by simp,?_,?_,?_,?_,?_⟩
 ·exact (((zaX.new w a0 b0 c0 d0 t0).mono (bA _ (.cells #[e0,f0,g0,h0] t1))).mono (bA _ (.cells #[i0,j0] t2))).mono (bA _ (.cells #[k0,l0] t3))
 ·have:=((zaX.new (w.alloc (.cells #[a0,b0,c0,d0] t0)) e0 f0 g0 h0 t1).mono (bA _ (.cells #[i0,j0] t2))).mono (bA _ (.cells #[k0,l0] t3))
  simpa using this
 ·have:=(Box.new ((w.alloc (.cells #[a0,b0,c0,d0] t0)).alloc (.cells #[e0,f0,g0,h0] t1)) i0 j0 t2).mono (bA _ (.cells #[k0,l0] t3))
  simpa using this
 ·have:=Box.new (((w.alloc (.cells #[a0,b0,c0,d0] t0)).alloc (.cells #[e0,f0,g0,h0] t1)).alloc (.cells #[i0,j0] t2)) k0 l0 t3
  simpa using this
 ·exact ((((br.alloc (by simp) _).alloc (by simp) _).alloc (by simp; omega) _).alloc (by simp; omega) _)
theorem zak {w:World} {n m i j:Nat} (v:Value) (h:n ≠ m):(w.setCell ⟨m,j,none⟩ v).cell? ⟨n,i,none⟩=w.cell? ⟨n,i,none⟩ :=
 World.cell?_setCell_other _ _ _ _ (λ e => h (congrArg Addr.block e).symm)
theorem zb5 {w:World} {n i j:Nat} (v:Value) (h:i ≠ j):(w.setCell ⟨n,j,none⟩ v).cell? ⟨n,i,none⟩=w.cell? ⟨n,i,none⟩ :=
 World.cell?_setCell_other _ _ _ _ (λ e => h (by simpa using e.symm))
theorem Box.other2 {w:World} {n m:Nat} {x y u v:Value} (h:Box w n x y) (hne:n ≠ m):Box ((w.setCell ⟨m,0,none⟩ u).setCell ⟨m,1,none⟩ v) n x y:=by
 obtain ⟨h1,h2,h3,h4⟩:=h;exact ⟨by rw [zak _ hne,zak _ hne]; exact h1,by rw [zak _ hne,zak _ hne]; exact h2,by simp [go_sem,h3],by simp [go_sem,h4]⟩
theorem zaX.other2 {w:World} {n m:Nat} {x0 x1 x2 x3 u v:Value} (h:zaX w n x0 x1 x2 x3) (hne:n ≠ m):zaX ((w.setCell ⟨m,0,none⟩ u).setCell ⟨m,1,none⟩ v) n x0 x1 x2 x3:=by
 obtain ⟨h0,h1,h2,h3,f0,f1,f2,f3⟩:=h;exact ⟨by rw [zak _ hne,zak _ hne]; exact h0,by rw [zak _ hne,zak _ hne]; exact h1,by rw [zak _ hne,zak _ hne]; exact h2,by rw [zak _ hne,zak _ hne]; exact h3,
  by simp [go_sem,f0],by simp [go_sem,f1],by simp [go_sem,f2],by simp [go_sem,f3]⟩
theorem Box.set2I {w:World} {n:Nat} {x y:Value} (h:Box w n x y) (u v:Value):Box ((w.setCell ⟨n,0,none⟩ u).setCell ⟨n,1,none⟩ v) n u v:=h.set2 u v
theorem zai.put2B {w:World} {n c d:Nat} {b:Bool} {s:Option Addr} {u:Value} {z:Int} (hB:Box w n (.bool b) (.slice s c d)) (h:zai w u z) (x y:Value) :
  zai ((w.setCell ⟨n,0,none⟩ x).setCell ⟨n,1,none⟩ y) u z:=h.put2 hB.c0 hB.c1 x y
theorem zai.put4B {w:World} {n c1 d1 c2 d2:Nat} {b1 b2:Bool} {s1 s2:Option Addr} {u:Value} {z:Int} (hB:zaX w n (.bool b1) (.slice s1 c1 d1) (.bool b2) (.slice s2 c2 d2)) (h:zai w u z) (x0 x1 x2 x3:Value) :
  zai ((((w.setCell ⟨n,0,none⟩ x0).setCell ⟨n,1,none⟩ x1).setCell ⟨n,2,none⟩ x2).setCell ⟨n,3,none⟩ x3) u z:=by
 have h1:=h.put2 hB.c0 hB.c1 x0 x1;have e2:((w.setCell ⟨n,0,none⟩ x0).setCell ⟨n,1,none⟩ x1).cell? ⟨n,2,none⟩=some (.bool b2):=by rw [zb5 _ (by decide),zb5 _ (by decide)]; exact hB.c2
 have h2:=zai.put (v:=x2) e2 (by simp) h1;have e3:(((w.setCell ⟨n,0,none⟩ x0).setCell ⟨n,1,none⟩ x1).setCell ⟨n,2,none⟩ x2).cell? ⟨n,3,none⟩=some (.slice s2 c2 d2):=by rw [zb5 _ (by decide),zb5 _ (by decide),zb5 _ (by decide)]; exact hB.c3
 exact zai.put (v:=x3) e3 (by simp) h2
theorem Below.put4 {B:Nat} {w w':World} {n:Nat} (h:Below B w w') (hn:B<=n) (x0 x1 x2 x3:Value):Below B w ((((w'.setCell ⟨n,0,none⟩ x0).setCell ⟨n,1,none⟩ x1).setCell ⟨n,2,none⟩ x2).setCell ⟨n,3,none⟩ x3) :=
 (((h.setCell hn _).setCell hn _).setCell hn _).setCell hn _
def zac (w:World) (v:Value) (r:Rat):Prop :=
 ∃ (n1:Bool) (a1:Option Addr) (l1 c1:Nat) (n2:Bool) (a2:Option Addr) (l2 c2:Nat),v=.agg #[.bool n1,.slice a1 l1 c1,.bool n2,.slice a2 l2 c2]/\zai w (.agg #[.bool n1,.slice a1 l1 c1]) r.num/\zai w (.agg #[.bool n2,.slice a2 l2 c2]) (r.den:Int)
theorem zac.mono {w w':World} {v:Value} {r:Rat} (h:zac w v r) (hb:BH w w'):zac w' v r:=by
 obtain ⟨n1,a1,l1,c1,n2,a2,l2,c2,e,h1,h2⟩:=h;exact ⟨n1,a1,l1,c1,n2,a2,l2,c2,e,h1.mono hb,h2.mono hb⟩
def zcL (w':World) (r:Rat) (e:Ending):Prop :=
 ∃ (n1:Bool) (a1:Option Addr) (l1 c1:Nat) (n2:Bool) (a2:Option Addr) (l2 c2:Nat),e=.returned (.tuple #[.agg #[.bool n1,.slice a1 l1 c1,.bool n2,.slice a2 l2 c2],.int .i64 0]) /\
  Hid (zai w' (.agg #[.bool n1,.slice a1 l1 c1]) r.num)/\Hid (zai w' (.agg #[.bool n2,.slice a2 l2 c2]) (r.den:Int))
def NoQ (k:Int) (e:Ending):Prop:=e=.returned (.tuple #[.agg #[.bool false,.slice none 0 0,.bool false,.slice none 0 0],.int .i64 k])
def zmm (w':World) (z:Int) (e:Ending):Prop :=
 ∃ (ng:Bool) (ao:Option Addr) (n cap:Nat),e=.returned (.tuple #[.agg #[.bool ng,.slice ao n cap],.int .i64 0])/\Hid (zai w' (.agg #[.bool ng,.slice ao n cap]) z)
theorem zgh.got {w':World} {z:Int} {e:Ending} (h:zgh w' z e) (hz:Rq.Sm z):zmm w' z e:=by
 obtain ⟨ng,ao,n,cap,k,he,HK⟩:=h;obtain ⟨rfl,hV⟩:=HK.out.fits hz;exact ⟨ng,ao,n,cap,he,hii hV⟩
theorem zgh.big {w':World} {z:Int} {e:Ending} (h:zgh w' z e) (hz:¬ Rq.Sm z):e=.returned (.tuple #[.agg #[.bool false,.slice none 0 0],.int .i64 3]):=by
 obtain ⟨ng,ao,n,cap,k,he,HK⟩:=h;rcases HK.out with ⟨h1,_⟩ | ⟨_,rfl,h3⟩
 ·exact absurd h1 hz
 ·rw [he,h3]
theorem znk (a b:Value) (x y:Int) (w:World) (ha:zai w a x) (hb:zai w b y) (hs:Hid (Rq.Sm (x + y))) (hE:Env w) :
  Calls Tryz.prog 95 #[a,b] w λ e w' => zmm w' (x + y) e/\BH w w':=(zjr a b x y w ha hb hE).mono λ _ _ ⟨h,hb⟩ => ⟨h.got hs.out,hb⟩
theorem zmg (a b:Value) (x y:Int) (w:World) (ha:zai w a x) (hb:zai w b y) (hs:Hid (¬ Rq.Sm (x + y))) (hE:Env w) :
  Calls Tryz.prog 95 #[a,b] w λ e w' => e=.returned (.tuple #[.agg #[.bool false,.slice none 0 0],.int .i64 3])/\BH w w':=(zjr a b x y w ha hb hE).mono λ _ _ ⟨h,hb⟩ => ⟨h.big hs.out,hb⟩
theorem zkX (a b:Value) (x y:Int) (w:World) (ha:zai w a x) (hb:zai w b y) (hs:Hid (Rq.Sm (x - y))) (hE:Env w) :
  Calls Tryz.prog 98 #[a,b] w λ e w' => zmm w' (x - y) e/\BH w w':=(zji a b x y w ha hb hE).mono λ _ _ ⟨h,hb⟩ => ⟨h.got hs.out,hb⟩
theorem zl1 (a b:Value) (x y:Int) (w:World) (ha:zai w a x) (hb:zai w b y) (hs:Hid (¬ Rq.Sm (x - y))) (hE:Env w) :
  Calls Tryz.prog 98 #[a,b] w λ e w' => e=.returned (.tuple #[.agg #[.bool false,.slice none 0 0],.int .i64 3])/\BH w w':=(zji a b x y w ha hb hE).mono λ _ _ ⟨h,hb⟩ => ⟨h.big hs.out,hb⟩
theorem znd (a b:Value) (x y:Int) (w:World) (ha:zai w a x) (hb:zai w b y) (hs:Hid (Rq.Sm (x * y))) (hE:Env w) :
  Calls Tryz.prog 138 #[a,b] w λ e w' => zmm w' (x * y) e/\BH w w':=(zjm a b x y w ha hb hE).mono λ _ _ ⟨h,hb⟩ => ⟨h.got hs.out,hb⟩
theorem zl7 (a b:Value) (x y:Int) (w:World) (ha:zai w a x) (hb:zai w b y) (hs:Hid (¬ Rq.Sm (x * y))) (hE:Env w) :
  Calls Tryz.prog 138 #[a,b] w λ e w' => e=.returned (.tuple #[.agg #[.bool false,.slice none 0 0],.int .i64 3])/\BH w w':=(zjm a b x y w ha hb hE).mono λ _ _ ⟨h,hb⟩ => ⟨h.big hs.out,hb⟩
theorem zlm (a b:Value) (x y:Int) (w:World) (ha:zai w a x) (hb:zai w b y) (hs:Hid (Rq.Sm (x * y))) :
  Calls Tryz.prog 33 #[a,b] w λ e w' => zmm w' (x * y) e/\BH w w':=(zgF a b x y w ha hb).mono λ _ _ ⟨h,hb⟩ => ⟨h.got hs.out,hb⟩
theorem zjR (a b:Value) (x y:Int) (w:World) (ha:zai w a x) (hb:zai w b y) (hs:Hid (¬ Rq.Sm (x * y))) :
  Calls Tryz.prog 33 #[a,b] w λ e w' => e=.returned (.tuple #[.agg #[.bool false,.slice none 0 0],.int .i64 3])/\BH w w':=(zgF a b x y w ha hb).mono λ _ _ ⟨h,hb⟩ => ⟨h.big hs.out,hb⟩
def zor (wy wc:World) (n:Nat) (s7:Value) (z:Int):Prop :=
 ∃ (w0:World) (ng:Bool) (ao:Option Addr) (m cap:Nat),s7=.int .i64 0/\Hid (zai w0 (.agg #[.bool ng,.slice ao m cap]) z)/\BH wy w0/\wc=(w0.setCell ⟨n,0,none⟩ (.bool ng)).setCell ⟨n,1,none⟩ (.slice ao m cap)
def zoc (w':World) (z1:Int) (e:Ending):Prop :=
 ∃ (ng:Bool) (ao:Option Addr) (n cap:Nat) (J2:Bool) (ao2:Option Addr) (n2 Y2:Nat),e=.returned (.tuple #[.agg #[.bool ng,.slice ao n cap],.agg #[.bool J2,.slice ao2 n2 Y2],.int .i64 0])/\Hid (zai w' (.agg #[.bool ng,.slice ao n cap]) z1)
theorem zhe (a b:Value) (x y:Int) (w:World) (ha:zai w a x) (hb:zai w b y) (hy0:Hid (y ≠ 0)) (hE:Env w) :
  Calls Tryz.prog 170 #[a,b] w λ e w' => zoc w' (x.tdiv y) e/\BH w w' :=
 (zmc a b x y w ha hb hy0 hE).mono λ _ _ ⟨⟨ng,ao,n,cap,J2,ao2,n2,Y2,he,h1,_⟩,h2⟩ => ⟨⟨ng,ao,n,cap,J2,ao2,n2,Y2,he,h1⟩,h2⟩
theorem zer (a b:Value) (x y:Int) (w:World) (ha:zai w a x) (hb:zai w b y) (hy0:Hid (y ≠ 0)) :
  Calls Tryz.prog 83 #[a,b] w λ e w' => zoc w' (x.tdiv y) e/\BH w w' :=
 (zjT a b x y w ha hb hy0).mono λ _ _ ⟨⟨ng,ao,n,cap,J2,ao2,n2,Y2,he,h1,_⟩,h2⟩ => ⟨⟨ng,ao,n,cap,J2,ao2,n2,Y2,he,h1⟩,h2⟩
def zou (wy wc:World) (n m:Nat) (x y:Int):Prop :=
 ∃ (w0:World) (ng:Bool) (ao:Option Addr) (l cap:Nat) (J2:Bool) (ao2:Option Addr) (l2 Y2:Nat),Hid (zai w0 (.agg #[.bool ng,.slice ao l cap]) x)/\Hid (zai w0 (.agg #[.bool J2,.slice ao2 l2 Y2]) y)/\BH wy w0 /\
  wc=(((w0.setCell ⟨n,0,none⟩ (.bool ng)).setCell ⟨n,1,none⟩ (.slice ao l cap)).setCell ⟨m,0,none⟩ (.bool J2)).setCell ⟨m,1,none⟩ (.slice ao2 l2 Y2)
theorem zhc (a b:Value) (x y:Int) (w:World) (ha:zai w a x) (hb:zai w b y) (hE:Env w) :
  Calls Tryz.prog 122 #[a,b] w λ e w' => zmm w' (Int.gcd x y:Nat) e/\BH w w' :=
 (zma a b x y w ha hb hE).mono λ _ _ ⟨h,h2⟩ => ⟨h.got (ziD ha.small hb.small),h2⟩
theorem zbu (a:Value) (x s:Int) (w:World) (hs:Hid (zaU x=s)) (ha:zai w a x) (hE:Env w) :
  Calls Tryz.prog 119 #[a] w λ e w' => e=.returned (.int .i64 s)/\BH w w':=by
 rw [<- hs.out]; exact zkw a x w ha hE
theorem zfV (a b : Value) (p q : Int) (w : World) (ha : zai w a p) (hb : zai w b q) (hq : Hid (q < 0)) (hE : Env w) :
    Calls Tryz.prog 135 #[a, b] w fun e w' => zcL w' (Rat.divInt p q) e ∧ BH w w' := by
  obtain ⟨J1, ao1, n1, Y1, rfl⟩ := ha.parts
  obtain ⟨J2, ao2, n2, Y2, rfl⟩ := hb.parts
  have HV1 := hii ha
  have HV2 := hii hb
  have hE0 := hE
  clear ha hb
  have hbw := Below.refl w.heap.size w
  have HS : Hid (zaU q = -1) := hii (by have := hq.out; unfold zaU; split <;> (try split) <;> omega)
  have HQ : Hid (q ≠ 0) := hii (by have := hq.out; omega)
  go_enter func135, ntmps135
  go_upto_region 1 with fail
  obtain ⟨wx, hwx, hszx, X1, X2, X3, hb⟩ := zbD w (.bool J1) (.slice ao1 n1 Y1) 30 (.bool J2) (.slice ao2 n2 Y2) 30 (.bool false) (.slice none 0 0) (.bool false) (.slice none 0 0) 32
  rw [← hwx]
  clear hwx
  obtain ⟨v1, rfl⟩ := exi wx
  have HV1 := hup HV1 hb
  have HV2 := hup HV2 hb
  have hE := hE.mono hb
  have hbw := bu hbw hb
  clear hb
  obtain ⟨x1a, x1b, _, _⟩ := id X1
  obtain ⟨x2a, x2b, _, _⟩ := id X2
  go_wp2_with fail
  go_fit (zhc _ _ p q v1 HV1.out HV2.out hE)
  rintro e v2 ⟨⟨J3, ao3, n3, Y3, rfl, HV3⟩, hb⟩
  have HV1 := hup HV1 hb
  have HV2 := hup HV2 hb
  have X1 := X1.mono hb
  have X2 := X2.mono hb
  have X3 := X3.mono hb
  have hE := hE.mono hb
  have hbw := bu hbw hb
  clear hb
  clear x1a x1b x2a x2b
  go_upto_region 2 with fail
  have lX4X1 := X1.lt
  have lX4X2 := X2.lt
  have lX4X3 := X3.lt
  have X4 := Box.new v2 (.bool J3) (.slice ao3 n3 Y3) 30
  have hb := bA v2 (.cells #[.bool J3, .slice ao3 n3 Y3] 30)
  generalize v2.alloc (.cells #[.bool J3, .slice ao3 n3 Y3] 30) = v3 at *
  have HV1 := hup HV1 hb
  have HV2 := hup HV2 hb
  have X1 := X1.mono hb
  have X2 := X2.mono hb
  have X3 := X3.mono hb
  have HV3 := hup HV3 hb
  have hE := hE.mono hb
  have hbw := bu hbw hb
  clear hb
  obtain ⟨x2a, x2b, _, _⟩ := id X2
  go_wp2_with fail
  go_fit (zbu _ q (-1) v3 HS HV2.out hE)
  rintro e v4 ⟨rfl, hb⟩
  have HV1 := hup HV1 hb
  have HV2 := hup HV2 hb
  have X1 := X1.mono hb
  have X2 := X2.mono hb
  have X3 := X3.mono hb
  have HV3 := hup HV3 hb
  have X4 := X4.mono hb
  have hE := hE.mono hb
  have hbw := bu hbw hb
  clear hb
  clear x2a x2b
  go_upto_region 5 with fail
  have HG : Hid (Rq.Sm (0 - ((Int.gcd p q : Nat) : Int))) := hii (Rq.sm_neg HV3.out.small)
  obtain ⟨wy, rfl⟩ := exi v4
  go_cut [7] (fun s7 wc => zor wy wc v2.heap.size s7 (0 - ((Int.gcd p q : Nat) : Int)))
  case first =>
    obtain ⟨_, _, _, _⟩ := id X4
    go_region_with (first
       | (go_at_call 87; ((with_reducible refine (zdq 0 (by decide) (by decide) _ (hE.mono ?_)).mono ?_); ((repeat' (first | with_reducible assumption | with_reducible exact br | with_reducible refine Below.drew ?_ | with_reducible refine Below.alloc ?_ ?_ _ | with_reducible refine Below.setCell ?_ ?_ _ | with_reducible refine Below.step ?_ he2 ?_ | with_reducible refine Below.step ?_ he1 ?_ | (first | exact nl | omega | (simp; done) | (simp; omega) | (unfold World.setCell; simp; done) | (unfold World.setCell; simp; omega)))))); rintro e t1 ⟨⟨J5, ao5, n5, Y5, rfl, HV5⟩, he1⟩; have HT1 : BH wy t1 := (by (repeat' (first | with_reducible assumption | with_reducible exact br | with_reducible refine Below.drew ?_ | with_reducible refine Below.alloc ?_ ?_ _ | with_reducible refine Below.setCell ?_ ?_ _ | with_reducible refine Below.step ?_ he2 ?_ | with_reducible refine Below.step ?_ he1 ?_ | (first | exact nl | omega | (simp; done) | (simp; omega) | (unfold World.setCell; simp; done) | (unfold World.setCell; simp; omega))))); have ht1 := HT1.size; have hX4 := X4.mono HT1; obtain ⟨_, _, _, _⟩ := id hX4)
       | (go_at_call 98; ((with_reducible refine (zkX _ _ 0 ((Int.gcd p q : Nat) : Int) _ (HV5.out.mono ?_) (HV3.out.mono ?_) HG (hE.mono ?_)).mono ?_); ((repeat' (first | with_reducible assumption | with_reducible exact br | with_reducible refine Below.drew ?_ | with_reducible refine Below.alloc ?_ ?_ _ | with_reducible refine Below.setCell ?_ ?_ _ | with_reducible refine Below.step ?_ he2 ?_ | with_reducible refine Below.step ?_ he1 ?_ | (first | exact nl | omega | (simp; done) | (simp; omega) | (unfold World.setCell; simp; done) | (unfold World.setCell; simp; omega))))); ((repeat' (first | with_reducible assumption | with_reducible exact br | with_reducible refine Below.drew ?_ | with_reducible refine Below.alloc ?_ ?_ _ | with_reducible refine Below.setCell ?_ ?_ _ | with_reducible refine Below.step ?_ he2 ?_ | with_reducible refine Below.step ?_ he1 ?_ | (first | exact nl | omega | (simp; done) | (simp; omega) | (unfold World.setCell; simp; done) | (unfold World.setCell; simp; omega))))); ((repeat' (first | with_reducible assumption | with_reducible exact br | with_reducible refine Below.drew ?_ | with_reducible refine Below.alloc ?_ ?_ _ | with_reducible refine Below.setCell ?_ ?_ _ | with_reducible refine Below.step ?_ he2 ?_ | with_reducible refine Below.step ?_ he1 ?_ | (first | exact nl | omega | (simp; done) | (simp; omega) | (unfold World.setCell; simp; done) | (unfold World.setCell; simp; omega)))))); rintro e t2 ⟨⟨J6, ao6, n6, Y6, rfl, HV6⟩, he2⟩; have HT2 : BH wy t2 := (by (repeat' (first | with_reducible assumption | with_reducible exact br | with_reducible refine Below.drew ?_ | with_reducible refine Below.alloc ?_ ?_ _ | with_reducible refine Below.setCell ?_ ?_ _ | with_reducible refine Below.step ?_ he2 ?_ | with_reducible refine Below.step ?_ he1 ?_ | (first | exact nl | omega | (simp; done) | (simp; omega) | (unfold World.setCell; simp; done) | (unfold World.setCell; simp; omega))))); have ht2 := HT2.size; have hX4' := X4.mono HT2; obtain ⟨_, _, _, _⟩ := id hX4'))
    all_goals (go_wp2_with fail; go_meet; exact ⟨t2, J6, ao6, n6, Y6, rfl, HV6, HT2, rfl⟩)
  case rest =>
    obtain ⟨v9, J6, ao6, n6, Y6, rfl, HV6, hb, rfl⟩ := hcut
    have HV1 := hup HV1 hb
    have HV2 := hup HV2 hb
    have X1 := X1.mono hb
    have X2 := X2.mono hb
    have X3 := X3.mono hb
    have HV3 := hup HV3 hb
    have X4 := X4.mono hb
    have hE := hE.mono hb
    have hbw := bu hbw hb
    clear hb
    have HV1 := hii (HV1.out.put2B X4 (.bool J6) (.slice ao6 n6 Y6))
    have HV2 := hii (HV2.out.put2B X4 (.bool J6) (.slice ao6 n6 Y6))
    have X1 := X1.other2 (u := .bool J6) (v := .slice ao6 n6 Y6) (show w.heap.size ≠ v2.heap.size by omega)
    have X2 := X2.other2 (u := .bool J6) (v := .slice ao6 n6 Y6) (show w.heap.size + 1 ≠ v2.heap.size by omega)
    have X3 := X3.other2 (u := .bool J6) (v := .slice ao6 n6 Y6) (show w.heap.size + 1 + 1 ≠ v2.heap.size by omega)
    have HV3 := hii (HV3.out.put2B X4 (.bool J6) (.slice ao6 n6 Y6))
    have HV6 := hii (HV6.out.put2B X4 (.bool J6) (.slice ao6 n6 Y6))
    have X4 := X4.set2I (.bool J6) (.slice ao6 n6 Y6)
    have hbw := Below.put2 hbw (n := v2.heap.size) (by omega) (.bool J6) (.slice ao6 n6 Y6)
    have hE := hE0.mono hbw
    generalize ((v9.setCell ⟨v2.heap.size, 0, none⟩ (.bool J6)).setCell ⟨v2.heap.size, 1, none⟩ (.slice ao6 n6 Y6)) = v10 at *
    clear HV3
    have HG0 : Hid ((0 - ((Int.gcd p q : Nat) : Int)) ≠ 0) := hii (by have := Rq.gcd_pos (p := p) HQ.out; omega)
    obtain ⟨x1a, x1b, _, _⟩ := id X1
    obtain ⟨x4a, x4b, _, _⟩ := id X4
    go_wp2_with fail
    go_fit (zhe _ _ p (0 - ((Int.gcd p q : Nat) : Int)) v10 HV1.out HV6.out HG0 hE)
    rintro e v11 ⟨⟨J7, ao7, n7, Y7, J8, ao8, n8, Y8, rfl, HV7⟩, hb⟩
    have HV2 := hup HV2 hb
    have X1 := X1.mono hb
    have X2 := X2.mono hb
    have X3 := X3.mono hb
    have X4 := X4.mono hb
    have HV6 := hup HV6 hb
    have hE := hE.mono hb
    have hbw := bu hbw hb
    clear hb
    clear x1a x1b x4a x4b
    go_upto_region 9 with fail
    have lX7X1 := X1.lt
    have lX7X2 := X2.lt
    have lX7X3 := X3.lt
    have lX7X4 := X4.lt
    obtain ⟨wx, hwx, hszx, X7, X8, hb⟩ := za9 v11 (.bool J7) (.slice ao7 n7 Y7) 30 (.bool J8) (.slice ao8 n8 Y8) 30
    rw [← hwx]
    clear hwx
    obtain ⟨v12, rfl⟩ := exi wx
    have HV2 := hup HV2 hb
    have X1 := X1.mono hb
    have X2 := X2.mono hb
    have X3 := X3.mono hb
    have X4 := X4.mono hb
    have HV6 := hup HV6 hb
    have HV7 := hup HV7 hb
    have hE := hE.mono hb
    have hbw := bu hbw hb
    clear hb
    obtain ⟨x2a, x2b, _, _⟩ := id X2
    obtain ⟨x4a, x4b, _, _⟩ := id X4
    go_wp2_with fail
    go_fit (zhe _ _ q (0 - ((Int.gcd p q : Nat) : Int)) v12 HV2.out HV6.out HG0 hE)
    rintro e v13 ⟨⟨ngA, aoA, nA, capA, ngB, aoB, nB, capB, rfl, HV9⟩, hb⟩
    have X1 := X1.mono hb
    have X2 := X2.mono hb
    have X3 := X3.mono hb
    have X4 := X4.mono hb
    have HV7 := hup HV7 hb
    have X7 := X7.mono hb
    have X8 := X8.mono hb
    have hbw := bu hbw hb
    clear hb
    clear x2a x2b x4a x4b
    go_upto_region 12 with fail
    have lXAX1 := X1.lt
    have lXAX2 := X2.lt
    have lXAX3 := X3.lt
    have lXAX4 := X4.lt
    have lXAX7 := X7.lt
    have lXAX8 := X8.lt
    obtain ⟨wx, hwx, hszx, XA, XB, hb⟩ := za9 v13 (.bool ngA) (.slice aoA nA capA) 30 (.bool ngB) (.slice aoB nB capB) 30
    rw [← hwx]
    clear hwx
    obtain ⟨v14, rfl⟩ := exi wx
    have X3 := X3.mono hb
    have HV7 := hup HV7 hb
    have X7 := X7.mono hb
    have HV9 := hup HV9 hb
    have hbw := bu hbw hb
    clear hb
    have HN : Hid (p.tdiv (0 - ((Int.gcd p q : Nat) : Int)) = (Rat.divInt p q).num ∧ q.tdiv (0 - ((Int.gcd p q : Nat) : Int)) = ((Rat.divInt p q).den : Int)) := hii ⟨by rw [← Rq.num_of HQ.out]; unfold Rq.gS; rw [if_pos hq.out] , by rw [← Rq.den_of HQ.out]; unfold Rq.gS; rw [if_pos hq.out]⟩
    rw [HN.out.1] at HV7
    rw [HN.out.2] at HV9
    obtain ⟨x7a, x7b, _, _⟩ := id X7
    obtain ⟨cXA_0, cXA_1, _, _⟩ := id XA
    obtain ⟨x3a, x3b, x3c, x3d, _, _, _, _⟩ := id X3
    go_wp2
    refine bodyPost_ret (v := .tuple #[.agg #[.bool J7, .slice ao7 n7 Y7, .bool ngA, .slice aoA nA capA], .int .i64 0]) (by simp [results, Tryz.results135, go_sem, x3a, x3b, x3c, x3d]) rfl ⟨⟨J7, ao7, n7, Y7, ngA, aoA, nA, capA, rfl, hii (HV7.out.put4B X3 (.bool J7) (.slice ao7 n7 Y7) (.bool ngA) (.slice aoA nA capA)), hii (HV9.out.put4B X3 (.bool J7) (.slice ao7 n7 Y7) (.bool ngA) (.slice aoA nA capA))⟩, Below.put4 hbw (by omega) (.bool J7) (.slice ao7 n7 Y7) (.bool ngA) (.slice aoA nA capA)⟩
theorem zfU (a b:Value) (p q:Int) (w:World) (ha:zai w a p) (hb:zai w b q) (hq:Hid (0 < q)) (hE:Env w) :
  Calls Tryz.prog 135 #[a,b] w λ e w' => zcL w' (Rat.divInt p q) e/\BH w w':=by
 obtain ⟨J1,ao1,n1,Y1,rfl⟩:=ha.parts;obtain ⟨J2,ao2,n2,Y2,rfl⟩:=hb.parts;have HV1:=hii ha;have HV2:=hii hb;clear ha hb;have hbw:=Below.refl w.heap.size w;have HS:Hid (zaU q=1):=hii (by have:=hq.out; unfold zaU; split <;> (try split) <;> omega);have HQ:Hid (q ≠ 0):=hii (by have:=hq.out; omega);go_enter func135,ntmps135;go_upto_region 1 with fail;obtain ⟨wx,hwx,hszx,X1,X2,X3,hb⟩:=zbD w (.bool J1) (.slice ao1 n1 Y1) 30 (.bool J2) (.slice ao2 n2 Y2) 30 (.bool false) (.slice none 0 0) (.bool false) (.slice none 0 0) 32;rw [<- hwx];clear hwx;obtain ⟨v1,rfl⟩:=exi wx;have HV1:=hup HV1 hb;have HV2:=hup HV2 hb;have hE:=hE.mono hb;have hbw:=bu hbw hb;clear hb;obtain ⟨x1a,x1b,_,_⟩:=id X1;obtain ⟨x2a,x2b,_,_⟩:=id X2;go_wp2_with fail;go_fit (zhc _ _ p q v1 HV1.out HV2.out hE);rintro e v2 ⟨⟨J3,ao3,n3,Y3,rfl,HV3⟩,hb⟩;have HV1:=hup HV1 hb;have HV2:=hup HV2 hb;have X1:=X1.mono hb;have X2:=X2.mono hb;have X3:=X3.mono hb;have hE:=hE.mono hb;have hbw:=bu hbw hb;clear hb;clear x1a x1b x2a x2b;go_upto_region 2 with fail;have lX4X1:=X1.lt;have lX4X2:=X2.lt;have lX4X3:=X3.lt;have X4:=Box.new v2 (.bool J3) (.slice ao3 n3 Y3) 30;have hb:=bA v2 (.cells #[.bool J3,.slice ao3 n3 Y3] 30);generalize v2.alloc (.cells #[.bool J3,.slice ao3 n3 Y3] 30)=v3 at *;have HV1:=hup HV1 hb;have HV2:=hup HV2 hb;have X1:=X1.mono hb;have X2:=X2.mono hb;have X3:=X3.mono hb;have HV3:=hup HV3 hb;have hE:=hE.mono hb;have hbw:=bu hbw hb;clear hb;obtain ⟨x2a,x2b,_,_⟩:=id X2;go_wp2_with fail;go_fit (zbu _ q (1) v3 HS HV2.out hE);rintro e v4 ⟨rfl,hb⟩;have HV1:=hup HV1 hb;have HV2:=hup HV2 hb;have X1:=X1.mono hb;have X2:=X2.mono hb;have X3:=X3.mono hb;have HV3:=hup HV3 hb;have X4:=X4.mono hb;have hE:=hE.mono hb;have hbw:=bu hbw hb;clear hb;clear x2a x2b;have HV6:=HV3;clear HV3;have HG0:Hid (((Int.gcd p q:Nat):Int) ≠ 0):=hii (by have:=Rq.gcd_pos (p:=p) HQ.out; omega);obtain ⟨x1a,x1b,_,_⟩:=id X1;obtain ⟨x4a,x4b,_,_⟩:=id X4;go_wp2_with fail;go_fit (zhe _ _ p ((Int.gcd p q:Nat):Int) v4 HV1.out HV6.out HG0 hE);rintro e v5 ⟨⟨J7,ao7,n7,Y7,J8,ao8,n8,Y8,rfl,HV7⟩,hb⟩;have HV2:=hup HV2 hb;have X1:=X1.mono hb;have X2:=X2.mono hb;have X3:=X3.mono hb;have X4:=X4.mono hb;have HV6:=hup HV6 hb;have hE:=hE.mono hb;have hbw:=bu hbw hb;clear hb;clear x1a x1b x4a x4b;go_upto_region 9 with fail;have lX7X1:=X1.lt;have lX7X2:=X2.lt;have lX7X3:=X3.lt;have lX7X4:=X4.lt;obtain ⟨wx,hwx,hszx,X7,X8,hb⟩:=za9 v5 (.bool J7) (.slice ao7 n7 Y7) 30 (.bool J8) (.slice ao8 n8 Y8) 30;rw [<- hwx];clear hwx;obtain ⟨v6,rfl⟩:=exi wx;have HV2:=hup HV2 hb;have X1:=X1.mono hb;have X2:=X2.mono hb;have X3:=X3.mono hb;have X4:=X4.mono hb;have HV6:=hup HV6 hb;have HV7:=hup HV7 hb;have hE:=hE.mono hb;have hbw:=bu hbw hb;clear hb;obtain ⟨x2a,x2b,_,_⟩:=id X2;obtain ⟨x4a,x4b,_,_⟩:=id X4;go_wp2_with fail;go_fit (zhe _ _ q ((Int.gcd p q:Nat):Int) v6 HV2.out HV6.out HG0 hE);rintro e v7 ⟨⟨ngA,aoA,nA,capA,ngB,aoB,nB,capB,rfl,HV9⟩,hb⟩;have X1:=X1.mono hb;have X2:=X2.mono hb;have X3:=X3.mono hb;have X4:=X4.mono hb;have HV7:=hup HV7 hb;have X7:=X7.mono hb;have X8:=X8.mono hb;have hbw:=bu hbw hb;clear hb;clear x2a x2b x4a x4b;go_upto_region 12 with fail;have lXAX1:=X1.lt;have lXAX2:=X2.lt;have lXAX3:=X3.lt;have lXAX4:=X4.lt;have lXAX7:=X7.lt;have lXAX8:=X8.lt;obtain ⟨wx,hwx,hszx,XA,XB,hb⟩:=za9 v7 (.bool ngA) (.slice aoA nA capA) 30 (.bool ngB) (.slice aoB nB capB) 30;rw [<- hwx];clear hwx;obtain ⟨v8,rfl⟩:=exi wx;have X3:=X3.mono hb;have HV7:=hup HV7 hb;have X7:=X7.mono hb;have HV9:=hup HV9 hb;have hbw:=bu hbw hb;clear hb;have HN:Hid (p.tdiv ((Int.gcd p q:Nat):Int)=(Rat.divInt p q).num/\q.tdiv ((Int.gcd p q:Nat):Int)=((Rat.divInt p q).den:Int)):=hii ⟨Rq.num_pos hq.out ,Rq.den_pos hq.out⟩;rw [HN.out.1] at HV7;rw [HN.out.2] at HV9;obtain ⟨x7a,x7b,_,_⟩:=id X7;obtain ⟨cXA_0,cXA_1,_,_⟩:=id XA;obtain ⟨x3a,x3b,x3c,x3d,_,_,_,_⟩:=id X3;go_wp2;refine bodyPost_ret (v:=.tuple #[.agg #[.bool J7,.slice ao7 n7 Y7,.bool ngA,.slice aoA nA capA],.int .i64 0]) (by simp [results,Tryz.results135,go_sem,x3a,x3b,x3c,x3d]) rfl ⟨⟨J7,ao7,n7,Y7,ngA,aoA,nA,capA,rfl,hii (HV7.out.put4B X3 (.bool J7) (.slice ao7 n7 Y7) (.bool ngA) (.slice aoA nA capA)),hii (HV9.out.put4B X3 (.bool J7) (.slice ao7 n7 Y7) (.bool ngA) (.slice aoA nA capA))⟩,Below.put4 hbw (by omega) (.bool J7) (.slice ao7 n7 Y7) (.bool ngA) (.slice aoA nA capA)⟩
def zow (w':World) (z:Int) (e:Ending):Prop :=
 ∃ (ng:Bool) (ao:Option Addr) (n cap:Nat),e=.returned (.agg #[.bool ng,.slice ao n cap])/\Hid (zai w' (.agg #[.bool ng,.slice ao n cap]) z)
theorem zfY (w:World) (hE:Env w):Calls Tryz.prog 123 #[] w λ e w' => zow w' 1 e/\BH w w':=by
 have hbw:=Below.refl w.heap.size w;go_enter func123,ntmps123;go_upto_region 1 with fail;have X0:=Box.new w (.bool false) (.slice none 0 0) 30;have hb:=bA w (.cells #[.bool false,.slice none 0 0] 30);generalize w.alloc (.cells #[.bool false,.slice none 0 0] 30)=v1 at *;have hE:=hE.mono hb;have hbw:=bu hbw hb;clear hb;go_wp2_with fail;go_fit (zdq 1 (by decide) (by decide) v1 hE);rintro e v2 ⟨⟨J1,ao1,n1,Y1,rfl,HV1⟩,hb⟩;have X0:=X0.mono hb;have hbw:=bu hbw hb;clear hb;obtain ⟨x0a,x0b,_,_⟩:=id X0;go_wp2;refine bodyPost_ret (v:=.agg #[.bool J1,.slice ao1 n1 Y1]) (by simp [results,Tryz.results123,go_sem,x0a,x0b]) rfl ⟨⟨J1,ao1,n1,Y1,rfl,hii (HV1.out.put2B X0 (.bool J1) (.slice ao1 n1 Y1))⟩,Below.put2 hbw (by omega) (.bool J1) (.slice ao1 n1 Y1)⟩
theorem zjc {J1:Bool} {ao1:Option Addr} {n1 Y1:Nat} {J2:Bool} {ao2:Option Addr} {n2 Y2:Nat} (p d:Int) (w:World) (hq:Hid (d < 0)) (h1:zai w (.agg #[.bool J1,.slice ao1 n1 Y1]) p) (h2:zai w (.agg #[.bool J2,.slice ao2 n2 Y2]) d) (hE:Env w) :
  Calls Tryz.prog 71 #[.agg #[.bool J1,.slice ao1 n1 Y1,.bool J2,.slice ao2 n2 Y2]] w λ e w' => e=.returned (.bool false)/\BH w w':=by
 have HV1:=hii h1;have HV2:=hii h2;clear h1 h2;have hbw:=Below.refl w.heap.size w;have HS:Hid (zaU d=-1):=hii (by have:=hq.out; unfold zaU; split <;> (try split) <;> omega);go_enter func71,ntmps71;go_upto_region 1 with fail;have X0:=zaX.new w (.bool J1) (.slice ao1 n1 Y1) (.bool J2) (.slice ao2 n2 Y2) 32;have hb:=bA w (.cells #[.bool J1,.slice ao1 n1 Y1,.bool J2,.slice ao2 n2 Y2] 32);generalize w.alloc (.cells #[.bool J1,.slice ao1 n1 Y1,.bool J2,.slice ao2 n2 Y2] 32)=v1 at *;have HV1:=hup HV1 hb;have HV2:=hup HV2 hb;have hE:=hE.mono hb;have hbw:=bu hbw hb;clear hb;obtain ⟨x0a,x0b,x0c,x0d,_,_,_,_⟩:=id X0;go_wp2_with fail;go_fit (zbO _ p v1 HV1.out hE);rintro e v2 ⟨rfl,hb⟩;have HV2:=hup HV2 hb;have X0:=X0.mono hb;have hE:=hE.mono hb;have hbw:=bu hbw hb;clear hb;clear x0a x0b x0c x0d;obtain ⟨x0a,x0b,x0c,x0d,_,_,_,_⟩:=id X0;go_wp2_with fail;go_fit (zbO _ d v2 HV2.out hE);rintro e v3 ⟨rfl,hb⟩;have HV2:=hup HV2 hb;have X0:=X0.mono hb;have hE:=hE.mono hb;have hbw:=bu hbw hb;clear hb;clear x0a x0b x0c x0d;obtain ⟨x0a,x0b,x0c,x0d,_,_,_,_⟩:=id X0;go_wp2_with fail;go_fit (zbu _ d (-1) v3 HS HV2.out hE);rintro e v4 ⟨rfl,hb⟩;have hbw:=bu hbw hb;clear hb;clear x0a x0b x0c x0d;go_wp2;go_ret;exact ⟨rfl,hbw⟩
theorem zjb {J1:Bool} {ao1:Option Addr} {n1 Y1:Nat} {J2:Bool} {ao2:Option Addr} {n2 Y2:Nat} (p d:Int) (w:World) (hq:Hid (d=0)) (h1:zai w (.agg #[.bool J1,.slice ao1 n1 Y1]) p) (h2:zai w (.agg #[.bool J2,.slice ao2 n2 Y2]) d) (hE:Env w) :
  Calls Tryz.prog 71 #[.agg #[.bool J1,.slice ao1 n1 Y1,.bool J2,.slice ao2 n2 Y2]] w λ e w' => e=.returned (.bool false)/\BH w w':=by
 have HV1:=hii h1;have HV2:=hii h2;clear h1 h2;have hbw:=Below.refl w.heap.size w;have HS:Hid (zaU d=0):=hii (by have:=hq.out; unfold zaU; split <;> (try split) <;> omega);go_enter func71,ntmps71;go_upto_region 1 with fail;have X0:=zaX.new w (.bool J1) (.slice ao1 n1 Y1) (.bool J2) (.slice ao2 n2 Y2) 32;have hb:=bA w (.cells #[.bool J1,.slice ao1 n1 Y1,.bool J2,.slice ao2 n2 Y2] 32);generalize w.alloc (.cells #[.bool J1,.slice ao1 n1 Y1,.bool J2,.slice ao2 n2 Y2] 32)=v1 at *;have HV1:=hup HV1 hb;have HV2:=hup HV2 hb;have hE:=hE.mono hb;have hbw:=bu hbw hb;clear hb;obtain ⟨x0a,x0b,x0c,x0d,_,_,_,_⟩:=id X0;go_wp2_with fail;go_fit (zbO _ p v1 HV1.out hE);rintro e v2 ⟨rfl,hb⟩;have HV2:=hup HV2 hb;have X0:=X0.mono hb;have hE:=hE.mono hb;have hbw:=bu hbw hb;clear hb;clear x0a x0b x0c x0d;obtain ⟨x0a,x0b,x0c,x0d,_,_,_,_⟩:=id X0;go_wp2_with fail;go_fit (zbO _ d v2 HV2.out hE);rintro e v3 ⟨rfl,hb⟩;have HV2:=hup HV2 hb;have X0:=X0.mono hb;have hE:=hE.mono hb;have hbw:=bu hbw hb;clear hb;clear x0a x0b x0c x0d;obtain ⟨x0a,x0b,x0c,x0d,_,_,_,_⟩:=id X0;go_wp2_with fail;go_fit (zbu _ d (0) v3 HS HV2.out hE);rintro e v4 ⟨rfl,hb⟩;have hbw:=bu hbw hb;clear hb;clear x0a x0b x0c x0d;go_wp2;go_ret;exact ⟨rfl,hbw⟩
theorem zi9 {J1:Bool} {ao1:Option Addr} {n1 Y1:Nat} {J2:Bool} {ao2:Option Addr} {n2 Y2:Nat} (p d:Int) (w:World) (hq:Hid (0 < d/\Int.gcd p d=1)) (h1:zai w (.agg #[.bool J1,.slice ao1 n1 Y1]) p) (h2:zai w (.agg #[.bool J2,.slice ao2 n2 Y2]) d) (hE:Env w) :
  Calls Tryz.prog 71 #[.agg #[.bool J1,.slice ao1 n1 Y1,.bool J2,.slice ao2 n2 Y2]] w λ e w' => e=.returned (.bool true)/\BH w w':=by
 have HV1:=hii h1;have HV2:=hii h2;clear h1 h2;have hbw:=Below.refl w.heap.size w;have HS:Hid (zaU d=1):=hii (by have:=hq.out; unfold zaU; split <;> (try split) <;> omega);go_enter func71,ntmps71;go_upto_region 1 with fail;have X0:=zaX.new w (.bool J1) (.slice ao1 n1 Y1) (.bool J2) (.slice ao2 n2 Y2) 32;have hb:=bA w (.cells #[.bool J1,.slice ao1 n1 Y1,.bool J2,.slice ao2 n2 Y2] 32);generalize w.alloc (.cells #[.bool J1,.slice ao1 n1 Y1,.bool J2,.slice ao2 n2 Y2] 32)=v1 at *;have HV1:=hup HV1 hb;have HV2:=hup HV2 hb;have hE:=hE.mono hb;have hbw:=bu hbw hb;clear hb;obtain ⟨x0a,x0b,x0c,x0d,_,_,_,_⟩:=id X0;go_wp2_with fail;go_fit (zbO _ p v1 HV1.out hE);rintro e v2 ⟨rfl,hb⟩;have HV1:=hup HV1 hb;have HV2:=hup HV2 hb;have X0:=X0.mono hb;have hE:=hE.mono hb;have hbw:=bu hbw hb;clear hb;clear x0a x0b x0c x0d;obtain ⟨x0a,x0b,x0c,x0d,_,_,_,_⟩:=id X0;go_wp2_with fail;go_fit (zbO _ d v2 HV2.out hE);rintro e v3 ⟨rfl,hb⟩;have HV1:=hup HV1 hb;have HV2:=hup HV2 hb;have X0:=X0.mono hb;have hE:=hE.mono hb;have hbw:=bu hbw hb;clear hb;clear x0a x0b x0c x0d;obtain ⟨x0a,x0b,x0c,x0d,_,_,_,_⟩:=id X0;go_wp2_with fail;go_fit (zbu _ d (1) v3 HS HV2.out hE);rintro e v4 ⟨rfl,hb⟩;have HV1:=hup HV1 hb;have HV2:=hup HV2 hb;have X0:=X0.mono hb;have hE:=hE.mono hb;have hbw:=bu hbw hb;clear hb;clear x0a x0b x0c x0d;obtain ⟨x0a,x0b,x0c,x0d,_,_,_,_⟩:=id X0;go_wp2_with fail;go_fit (zhc _ _ p d v4 HV1.out HV2.out hE);rintro e v5 ⟨⟨J3,ao3,n3,Y3,rfl,HV3⟩,hb⟩;have X0:=X0.mono hb;have hE:=hE.mono hb;have hbw:=bu hbw hb;clear hb;clear x0a x0b x0c x0d;go_upto_region 4 with fail;have lX3X0:=X0.lt;have X3:=Box.new v5 (.bool J3) (.slice ao3 n3 Y3) 30;have hb:=bA v5 (.cells #[.bool J3,.slice ao3 n3 Y3] 30);generalize v5.alloc (.cells #[.bool J3,.slice ao3 n3 Y3] 30)=v6 at *;have HV3:=hup HV3 hb;have hE:=hE.mono hb;have hbw:=bu hbw hb;clear hb;obtain ⟨cv,hcv,hc0⟩:∃ cv:Int,zga ((Int.gcd p d:Nat):Int) 1=cv/\(cv == 0)=true:=⟨_,rfl,by have:=hq.out; unfold zga; split <;> (try split) <;> simp <;> omega⟩;have HC:=hii hcv;clear hcv;obtain ⟨wy,rfl⟩:=exi v6;go_cut [2] (λ s2 wc => s2=.bool true/\BH wy wc)
 case first =>
  obtain ⟨_,_,_,_⟩:=id X3;go_region_with (first
   | (go_at_call 123; ((with_reducible refine (zfY _ (hE.mono ?_)).mono ?_); ((repeat' (first | with_reducible assumption | with_reducible exact br | with_reducible refine Below.drew ?_ | with_reducible refine Below.alloc ?_ ?_ _ | with_reducible refine Below.setCell ?_ ?_ _ | with_reducible refine Below.step ?_ he2 ?_ | with_reducible refine Below.step ?_ he1 ?_ | (first | exact nl | omega | (simp; done) | (simp; omega) | (unfold World.setCell; simp; done) | (unfold World.setCell; simp; omega)))))); rintro e t1 ⟨⟨J5,ao5,n5,Y5,rfl,HV5⟩,he1⟩; have HT1:BH wy t1:=(by (repeat' (first | with_reducible assumption | with_reducible exact br | with_reducible refine Below.drew ?_ | with_reducible refine Below.alloc ?_ ?_ _ | with_reducible refine Below.setCell ?_ ?_ _ | with_reducible refine Below.step ?_ he2 ?_ | with_reducible refine Below.step ?_ he1 ?_ | (first | exact nl | omega | (simp; done) | (simp; omega) | (unfold World.setCell; simp; done) | (unfold World.setCell; simp; omega))))); have ht1:=HT1.size; have hX3:=X3.mono HT1; obtain ⟨_,_,_,_⟩:=id hX3)
   | (go_at_call 97; ((with_reducible refine (zjp _ _ ((Int.gcd p d:Nat):Int) 1 cv _ HC (HV3.out.mono ?_) (HV5.out.mono ?_) (hE.mono ?_)).mono ?_); ((repeat' (first | with_reducible assumption | with_reducible exact br | with_reducible refine Below.drew ?_ | with_reducible refine Below.alloc ?_ ?_ _ | with_reducible refine Below.setCell ?_ ?_ _ | with_reducible refine Below.step ?_ he2 ?_ | with_reducible refine Below.step ?_ he1 ?_ | (first | exact nl | omega | (simp; done) | (simp; omega) | (unfold World.setCell; simp; done) | (unfold World.setCell; simp; omega))))); ((repeat' (first | with_reducible assumption | with_reducible exact br | with_reducible refine Below.drew ?_ | with_reducible refine Below.alloc ?_ ?_ _ | with_reducible refine Below.setCell ?_ ?_ _ | with_reducible refine Below.step ?_ he2 ?_ | with_reducible refine Below.step ?_ he1 ?_ | (first | exact nl | omega | (simp; done) | (simp; omega) | (unfold World.setCell; simp; done) | (unfold World.setCell; simp; omega))))); ((repeat' (first | with_reducible assumption | with_reducible exact br | with_reducible refine Below.drew ?_ | with_reducible refine Below.alloc ?_ ?_ _ | with_reducible refine Below.setCell ?_ ?_ _ | with_reducible refine Below.step ?_ he2 ?_ | with_reducible refine Below.step ?_ he1 ?_ | (first | exact nl | omega | (simp; done) | (simp; omega) | (unfold World.setCell; simp; done) | (unfold World.setCell; simp; omega)))))); rintro e t2 ⟨rfl,he2⟩; have HT2:BH wy t2:=(by (repeat' (first | with_reducible assumption | with_reducible exact br | with_reducible refine Below.drew ?_ | with_reducible refine Below.alloc ?_ ?_ _ | with_reducible refine Below.setCell ?_ ?_ _ | with_reducible refine Below.step ?_ he2 ?_ | with_reducible refine Below.step ?_ he1 ?_ | (first | exact nl | omega | (simp; done) | (simp; omega) | (unfold World.setCell; simp; done) | (unfold World.setCell; simp; omega))))); have ht2:=HT2.size))
  all_goals (go_wp2_with fail; go_meet; exact ⟨rfl,HT2⟩)
 case rest =>
  obtain ⟨rfl,hb⟩:=hcut;have hbw:=bu hbw hb;go_wp2;go_ret;exact ⟨rfl,hbw⟩
theorem zjd {J1:Bool} {ao1:Option Addr} {n1 Y1:Nat} {J2:Bool} {ao2:Option Addr} {n2 Y2:Nat} (p d:Int) (w:World) (hq:Hid (0 < d/\Int.gcd p d ≠ 1)) (h1:zai w (.agg #[.bool J1,.slice ao1 n1 Y1]) p) (h2:zai w (.agg #[.bool J2,.slice ao2 n2 Y2]) d) (hE:Env w) :
  Calls Tryz.prog 71 #[.agg #[.bool J1,.slice ao1 n1 Y1,.bool J2,.slice ao2 n2 Y2]] w λ e w' => e=.returned (.bool false)/\BH w w':=by
 have HV1:=hii h1;have HV2:=hii h2;clear h1 h2;have hbw:=Below.refl w.heap.size w;have HS:Hid (zaU d=1):=hii (by have:=hq.out; unfold zaU; split <;> (try split) <;> omega);go_enter func71,ntmps71;go_upto_region 1 with fail;have X0:=zaX.new w (.bool J1) (.slice ao1 n1 Y1) (.bool J2) (.slice ao2 n2 Y2) 32;have hb:=bA w (.cells #[.bool J1,.slice ao1 n1 Y1,.bool J2,.slice ao2 n2 Y2] 32);generalize w.alloc (.cells #[.bool J1,.slice ao1 n1 Y1,.bool J2,.slice ao2 n2 Y2] 32)=v1 at *;have HV1:=hup HV1 hb;have HV2:=hup HV2 hb;have hE:=hE.mono hb;have hbw:=bu hbw hb;clear hb;obtain ⟨x0a,x0b,x0c,x0d,_,_,_,_⟩:=id X0;go_wp2_with fail;go_fit (zbO _ p v1 HV1.out hE);rintro e v2 ⟨rfl,hb⟩;have HV1:=hup HV1 hb;have HV2:=hup HV2 hb;have X0:=X0.mono hb;have hE:=hE.mono hb;have hbw:=bu hbw hb;clear hb;clear x0a x0b x0c x0d;obtain ⟨x0a,x0b,x0c,x0d,_,_,_,_⟩:=id X0;go_wp2_with fail;go_fit (zbO _ d v2 HV2.out hE);rintro e v3 ⟨rfl,hb⟩;have HV1:=hup HV1 hb;have HV2:=hup HV2 hb;have X0:=X0.mono hb;have hE:=hE.mono hb;have hbw:=bu hbw hb;clear hb;clear x0a x0b x0c x0d;obtain ⟨x0a,x0b,x0c,x0d,_,_,_,_⟩:=id X0;go_wp2_with fail;go_fit (zbu _ d (1) v3 HS HV2.out hE);rintro e v4 ⟨rfl,hb⟩;have HV1:=hup HV1 hb;have HV2:=hup HV2 hb;have X0:=X0.mono hb;have hE:=hE.mono hb;have hbw:=bu hbw hb;clear hb;clear x0a x0b x0c x0d;obtain ⟨x0a,x0b,x0c,x0d,_,_,_,_⟩:=id X0;go_wp2_with fail;go_fit (zhc _ _ p d v4 HV1.out HV2.out hE);rintro e v5 ⟨⟨J3,ao3,n3,Y3,rfl,HV3⟩,hb⟩;have X0:=X0.mono hb;have hE:=hE.mono hb;have hbw:=bu hbw hb;clear hb;clear x0a x0b x0c x0d;go_upto_region 4 with fail;have lX3X0:=X0.lt;have X3:=Box.new v5 (.bool J3) (.slice ao3 n3 Y3) 30;have hb:=bA v5 (.cells #[.bool J3,.slice ao3 n3 Y3] 30);generalize v5.alloc (.cells #[.bool J3,.slice ao3 n3 Y3] 30)=v6 at *;have HV3:=hup HV3 hb;have hE:=hE.mono hb;have hbw:=bu hbw hb;clear hb;obtain ⟨cv,hcv,hc0⟩:∃ cv:Int,zga ((Int.gcd p d:Nat):Int) 1=cv/\(cv == 0)=false:=⟨_,rfl,by have:=hq.out; unfold zga; split <;> (try split) <;> simp <;> omega⟩;have HC:=hii hcv;clear hcv;obtain ⟨wy,rfl⟩:=exi v6;go_cut [2] (λ s2 wc => s2=.bool false/\BH wy wc)
 case first =>
  obtain ⟨_,_,_,_⟩:=id X3;go_region_with (first
   | (go_at_call 123; ((with_reducible refine (zfY _ (hE.mono ?_)).mono ?_); ((repeat' (first | with_reducible assumption | with_reducible exact br | with_reducible refine Below.drew ?_ | with_reducible refine Below.alloc ?_ ?_ _ | with_reducible refine Below.setCell ?_ ?_ _ | with_reducible refine Below.step ?_ he2 ?_ | with_reducible refine Below.step ?_ he1 ?_ | (first | exact nl | omega | (simp; done) | (simp; omega) | (unfold World.setCell; simp; done) | (unfold World.setCell; simp; omega)))))); rintro e t1 ⟨⟨J5,ao5,n5,Y5,rfl,HV5⟩,he1⟩; have HT1:BH wy t1:=(by (repeat' (first | with_reducible assumption | with_reducible exact br | with_reducible refine Below.drew ?_ | with_reducible refine Below.alloc ?_ ?_ _ | with_reducible refine Below.setCell ?_ ?_ _ | with_reducible refine Below.step ?_ he2 ?_ | with_reducible refine Below.step ?_ he1 ?_ | (first | exact nl | omega | (simp; done) | (simp; omega) | (unfold World.setCell; simp; done) | (unfold World.setCell; simp; omega))))); have ht1:=HT1.size; have hX3:=X3.mono HT1; obtain ⟨_,_,_,_⟩:=id hX3)
   | (go_at_call 97; ((with_reducible refine (zjp _ _ ((Int.gcd p d:Nat):Int) 1 cv _ HC (HV3.out.mono ?_) (HV5.out.mono ?_) (hE.mono ?_)).mono ?_); ((repeat' (first | with_reducible assumption | with_reducible exact br | with_reducible refine Below.drew ?_ | with_reducible refine Below.alloc ?_ ?_ _ | with_reducible refine Below.setCell ?_ ?_ _ | with_reducible refine Below.step ?_ he2 ?_ | with_reducible refine Below.step ?_ he1 ?_ | (first | exact nl | omega | (simp; done) | (simp; omega) | (unfold World.setCell; simp; done) | (unfold World.setCell; simp; omega))))); ((repeat' (first | with_reducible assumption | with_reducible exact br | with_reducible refine Below.drew ?_ | with_reducible refine Below.alloc ?_ ?_ _ | with_reducible refine Below.setCell ?_ ?_ _ | with_reducible refine Below.step ?_ he2 ?_ | with_reducible refine Below.step ?_ he1 ?_ | (first | exact nl | omega | (simp; done) | (simp; omega) | (unfold World.setCell; simp; done) | (unfold World.setCell; simp; omega))))); ((repeat' (first | with_reducible assumption | with_reducible exact br | with_reducible refine Below.drew ?_ | with_reducible refine Below.alloc ?_ ?_ _ | with_reducible refine Below.setCell ?_ ?_ _ | with_reducible refine Below.step ?_ he2 ?_ | with_reducible refine Below.step ?_ he1 ?_ | (first | exact nl | omega | (simp; done) | (simp; omega) | (unfold World.setCell; simp; done) | (unfold World.setCell; simp; omega)))))); rintro e t2 ⟨rfl,he2⟩; have HT2:BH wy t2:=(by (repeat' (first | with_reducible assumption | with_reducible exact br | with_reducible refine Below.drew ?_ | with_reducible refine Below.alloc ?_ ?_ _ | with_reducible refine Below.setCell ?_ ?_ _ | with_reducible refine Below.step ?_ he2 ?_ | with_reducible refine Below.step ?_ he1 ?_ | (first | exact nl | omega | (simp; done) | (simp; omega) | (unfold World.setCell; simp; done) | (unfold World.setCell; simp; omega))))); have ht2:=HT2.size))
  all_goals (go_wp2_with fail; go_meet; exact ⟨rfl,HT2⟩)
 case rest =>
  obtain ⟨rfl,hb⟩:=hcut;have hbw:=bu hbw hb;go_wp2;go_ret;exact ⟨rfl,hbw⟩
theorem zja (x1 x2:Bool) (l1 l2:List Nat) (a1 a2:Option Addr) (c1 c2:Nat) (w:World) (m1:l1.length<=1000000000) (_m2:l2.length<=1000000000) (u1:U w a1 l1) (u2:U w a2 l2) (hv:Hid (¬ zaC x1 l1)) (hE:Env w) :
  Calls Tryz.prog 71 #[.agg #[.bool x1,.slice a1 l1.length c1,.bool x2,.slice a2 l2.length c2]] w λ e w' => e=.returned (.bool false)/\BH w w':=by
 have hbw:=Below.refl w.heap.size w;go_enter func71,ntmps71;go_upto_region 1 with fail;have X0:=zaX.new w (.bool x1) (.slice a1 l1.length c1) (.bool x2) (.slice a2 l2.length c2) 32;have hb:=bA w (.cells #[.bool x1,.slice a1 l1.length c1,.bool x2,.slice a2 l2.length c2] 32);generalize w.alloc (.cells #[.bool x1,.slice a1 l1.length c1,.bool x2,.slice a2 l2.length c2] 32)=v1 at *;have u1:=u1.mono hb;have hE:=hE.mono hb;have hbw:=bu hbw hb;clear hb;obtain ⟨x0a,x0b,x0c,x0d,_,_,_,_⟩:=id X0;go_wp2_with fail;go_fit (zgp x1 l1 a1 c1 v1 m1 hv u1 hE);rintro e v2 ⟨rfl,hb⟩;have hbw:=bu hbw hb;clear hb;clear x0a x0b x0c x0d;go_wp2;go_ret;exact ⟨rfl,hbw⟩
theorem zje (x1 x2:Bool) (l1 l2:List Nat) (a1 a2:Option Addr) (c1 c2:Nat) (w:World) (m1:l1.length<=1000000000) (m2:l2.length<=1000000000) (u1:U w a1 l1) (u2:U w a2 l2) (hv:Hid (Hid (zaC x1 l1)/\Hid (¬ zaC x2 l2))) (hE:Env w) :
  Calls Tryz.prog 71 #[.agg #[.bool x1,.slice a1 l1.length c1,.bool x2,.slice a2 l2.length c2]] w λ e w' => e=.returned (.bool false)/\BH w w':=by
 have hbw:=Below.refl w.heap.size w;go_enter func71,ntmps71;go_upto_region 1 with fail;have X0:=zaX.new w (.bool x1) (.slice a1 l1.length c1) (.bool x2) (.slice a2 l2.length c2) 32;have hb:=bA w (.cells #[.bool x1,.slice a1 l1.length c1,.bool x2,.slice a2 l2.length c2] 32);generalize w.alloc (.cells #[.bool x1,.slice a1 l1.length c1,.bool x2,.slice a2 l2.length c2] 32)=v1 at *;have u1:=u1.mono hb;have u2:=u2.mono hb;have hE:=hE.mono hb;have hbw:=bu hbw hb;clear hb;obtain ⟨x0a,x0b,x0c,x0d,_,_,_,_⟩:=id X0;go_wp2_with fail;go_fit (zhU x1 l1 a1 c1 v1 m1 hv.out.1 u1 hE);rintro e v2 ⟨rfl,hb⟩;have u2:=u2.mono hb;have X0:=X0.mono hb;have hE:=hE.mono hb;have hbw:=bu hbw hb;clear hb;clear x0a x0b x0c x0d;obtain ⟨x0a,x0b,x0c,x0d,_,_,_,_⟩:=id X0;go_wp2_with fail;go_fit (zgp x2 l2 a2 c2 v2 m2 hv.out.2 u2 hE);rintro e v3 ⟨rfl,hb⟩;have hbw:=bu hbw hb;clear hb;clear x0a x0b x0c x0d;go_wp2;go_ret;exact ⟨rfl,hbw⟩
def zjf (x1:Bool) (l1:List Nat) (x2:Bool) (l2:List Nat):Prop :=
 ∃ r:Rat,x1=decide (r.num < 0)/\l1=Bi.limbs r.num.natAbs/\Rq.Sm r.num/\x2=false/\l2=Bi.limbs r.den/\Rq.Sm (r.den:Int)
def VQ (w:World) (v:Value) (b:Bool):Prop :=
 ∃ (x1 x2:Bool) (l1 l2:List Nat) (a1 a2:Option Addr) (c1 c2:Nat),v=.agg #[.bool x1,.slice a1 l1.length c1,.bool x2,.slice a2 l2.length c2]/\l1.length<=1000000000/\l2.length<=1000000000/\l1.length<=c1/\l2.length<=c2/\U w a1 l1/\U w a2 l2/\Hid (b=true↔zjf x1 l1 x2 l2)
theorem VQ.mono {w w':World} {v:Value} {b:Bool} (h:VQ w v b) (hb:BH w w'):VQ w' v b:=by
 obtain ⟨x1,x2,l1,l2,a1,a2,c1,c2,e,h1,h2,k1,k2,h3,h4,h5⟩:=h;exact ⟨x1,x2,l1,l2,a1,a2,c1,c2,e,h1,h2,k1,k2,h3.mono hb,h4.mono hb,h5⟩
theorem zac.parts {w:World} {v:Value} {r:Rat} (h:zac w v r):∃ (ng:Bool) (ao:Option Addr) (n cap:Nat) (J2:Bool) (ao2:Option Addr) (n2 Y2:Nat),v=.agg #[.bool ng,.slice ao n cap,.bool J2,.slice ao2 n2 Y2]:=by
 obtain ⟨n1,a1,l1,c1,n2,a2,l2,c2,e,_⟩:=h;exact ⟨_,_,_,_,_,_,_,_,e⟩
theorem zac.vq {w:World} {v:Value} {r:Rat} (h:zac w v r):VQ w v true:=by
 obtain ⟨n1,a1,l1,c1,n2,a2,l2,c2,e,h1,h2⟩:=h;obtain ⟨m1,b1,L1,d1,e1,Hn1,HL1,HB1,hk1,hl1,hU1⟩:=h1;obtain ⟨m2,b2,L2,d2,e2,Hn2,HL2,HB2,hk2,hl2,hU2⟩:=h2;simp only [Value.agg.injEq,Array.mk.injEq,List.cons.injEq,Value.bool.injEq,Value.slice.injEq,and_true] at e1 e2;obtain ⟨rfl,rfl,rfl,rfl⟩:=e1;obtain ⟨rfl,rfl,rfl,rfl⟩:=e2;refine ⟨n1,n2,L1,L2,a1,a2,c1,c2,e,by omega,by omega,hk1,hk2,hU1,hU2,hii ⟨λ _ => ⟨r,Hn1.out,HL1.out,HB1.out,?_,?_,HB2.out⟩,λ _ => rfl⟩⟩
 ·rw [Hn2.out]; simp
 ·rw [HL2.out,Int.natAbs_natCast]
theorem VQ.rat {w:World} {v:Value} (h:VQ w v true):∃ r,zac w v r:=by
 obtain ⟨x1,x2,l1,l2,a1,a2,c1,c2,e,h1,h2,k1,k2,h3,h4,h5⟩:=h;obtain ⟨r,e1,e2,e3,e4,e5,e6⟩:=h5.out.1 rfl;refine ⟨r,x1,a1,_,c1,x2,a2,_,c2,e,⟨x1,a1,l1,c1,rfl,hii e1,hii e2,hii e3,k1,by rw [e2]; exact zat e3,h3⟩,⟨x2,a2,l2,c2,rfl,hii ?_,hii ?_,hii e6,k2,?_,h4⟩⟩
 ·rw [e4]; simp
 ·rw [e5,Int.natAbs_natCast]
 ·rw [e5]; exact zat (by have:=e6; unfold Rq.Sm at this; rwa [Int.natAbs_natCast] at this)
theorem zkQ {w:World} {x:Bool} {l:List Nat} {a:Option Addr} {c:Nat} (hv:zaC x l) (hc:l.length<=c) (hU:U w a l):∃ z:Int,zai w (.agg #[.bool x,.slice a l.length c]) z/\x=decide (z < 0)/\l=Bi.limbs z.natAbs/\Rq.Sm z:=by
 obtain ⟨z,h1,h2,h3,h4⟩:=zfI hv;exact ⟨z,zai.mk' (hii h1) (hii h2) (hii h3) hc h4 hU,h1,h2,h3⟩
theorem zhV {x1 x2:Bool} {l1 l2:List Nat} {p d:Int} (h1:x1=decide (p < 0)) (h2:l1=Bi.limbs p.natAbs) (h3:Rq.Sm p) (h4:x2=decide (d < 0)) (h5:l2=Bi.limbs d.natAbs) (h6:Rq.Sm d) (hv:Rq.VP p d):zjf x1 l1 x2 l2:=by
 obtain ⟨r,e1,e2⟩:=hv.rat;have hd:=hv.1;refine ⟨r,by rw [e1]; exact h1,by rw [e1]; exact h2,by rw [e1]; exact h3,?_,?_,by rw [e2]; exact h6⟩
 ·rw [h4]; simp; omega
 ·rw [h5]; congr 1; omega
theorem zdA (v:Value) (w:World) (h:VQ w v false) (hE:Env w) :
  Calls Tryz.prog 71 #[v] w λ e w' => e=.returned (.bool false)/\BH w w':=by
 obtain ⟨x1,x2,l1,l2,a1,a2,c1,c2,rfl,h1,h2,k1,k2,h3,h4,h5⟩:=h;have hn:¬ zjf x1 l1 x2 l2:=λ h => by simpa using h5.out.2 h
 by_cases v1:zaC x1 l1
 ·by_cases v2:zaC x2 l2
  ·obtain ⟨p,hp,p1,p2,p3⟩:=zkQ v1 k1 h3;obtain ⟨d,hd,d1,d2,d3⟩:=zkQ v2 k2 h4;rcases Int.lt_trichotomy d 0 with hd0 | hd0 | hd0
   ·exact zjc p d w (hii hd0) hp hd hE
   ·exact zjb p d w (hii hd0) hp hd hE
   ·exact zjd p d w (hii ⟨hd0,λ hg => hn (zhV p1 p2 p3 d1 d2 d3 ⟨hd0,hg⟩)⟩) hp hd hE
  ·exact zje x1 x2 l1 l2 a1 a2 c1 c2 w h1 h2 h3 h4 (hii ⟨hii v1,hii v2⟩) hE
 ·exact zja x1 x2 l1 l2 a1 a2 c1 c2 w h1 h2 h3 h4 (hii v1) hE
theorem zau (v:Value) (r:Rat) (w:World) (h:zac w v r) (hE:Env w) :
  Calls Tryz.prog 71 #[v] w λ e w' => e=.returned (.bool true)/\BH w w':=by
 obtain ⟨n1,a1,l1,c1,n2,a2,l2,c2,rfl,h1,h2⟩:=h;exact zi9 r.num (r.den:Int) w (hii (Rq.vp_rat r)) h1 h2 hE
theorem zeO (v:Value) (b:Bool) (w:World) (h:VQ w v b) (hE:Env w) :
  Calls Tryz.prog 71 #[v] w λ e w' => e=.returned (.bool b)/\BH w w':=by
 cases b
 ·exact zdA v w h hE
 ·obtain ⟨r,hr⟩:=h.rat;exact zau v r w hr hE
theorem zbI (a b:Value) (p q:Int) (w:World) (ha:zai w a p) (hb:zai w b q) (hq:Hid (q ≠ 0)) (hE:Env w) :
  Calls Tryz.prog 135 #[a,b] w λ e w' => zcL w' (Rat.divInt p q) e/\BH w w':=by
 rcases Int.lt_trichotomy q 0 with h | h | h
 ·exact zfV a b p q w ha hb (hii h) hE
 ·exact absurd h hq.out
 ·exact zfU a b p q w ha hb (hii h) hE
def KQ (k:Int) (P:Prop):Prop:=(k=0/\P)\/(k=3/\¬ P)
theorem KQ.ex (P:Prop):∃ k,KQ k P:=by
 by_cases h:P
 ·exact ⟨0,.inl ⟨rfl,h⟩⟩
 ·exact ⟨3,.inr ⟨rfl,h⟩⟩
theorem KQ.yes {k:Int} {P:Prop} (h:KQ k P) (hp:P):k=0:=by
 rcases h with h | h
 ·exact h.1
 ·exact absurd hp h.2
theorem KQ.no {k:Int} {P:Prop} (h:KQ k P) (hp:¬ P):k=3:=by
 rcases h with h | h
 ·exact absurd h.2 hp
 ·exact h.1
def zk (k z:Int):Int:=if k=0 then z else 0
theorem zdF (z:Int):zk 0 z=z:=rfl
theorem zjs (z:Int):zk 3 z=0:=rfl
def IK (k z:Int) (w':World) (e:Ending):Prop :=
 ∃ (ng:Bool) (ao:Option Addr) (n cap:Nat),e=.returned (.tuple #[.agg #[.bool ng,.slice ao n cap],.int .i64 k])/\Hid (zai w' (.agg #[.bool ng,.slice ao n cap]) (zk k z))
abbrev OpI (fn:Nat) (op:Int->Int->Int):Prop:=∀ (u v:Value) (x y k:Int) (W:World),zai W u x->zai W v y->Hid (KQ k (Rq.Sm (op x y)))->Env W->Calls Tryz.prog fn #[u,v] W λ e w' => IK k (op x y) w' e/\BH W w'
theorem zfA:OpI 138 (· * ·):=by
 intro u v x y k W hu hv hk hE;rcases hk.out with ⟨rfl,h⟩ | ⟨rfl,h⟩
 ·exact (znd u v x y W hu hv (hii h) hE).mono λ e w' ⟨⟨ng,ao,n,cap,e1,h1⟩,hb⟩ => ⟨⟨ng,ao,n,cap,e1,by rw [zdF]; exact h1⟩,hb⟩
 ·exact (zl7 u v x y W hu hv (hii h) hE).mono λ e w' ⟨e1,hb⟩ => ⟨⟨false,none,0,0,e1,by rw [zjs]; exact hii (zai.zero _)⟩,hb⟩
theorem znl:OpI 95 (· + ·):=by
 intro u v x y k W hu hv hk hE;rcases hk.out with ⟨rfl,h⟩ | ⟨rfl,h⟩
 ·exact (znk u v x y W hu hv (hii h) hE).mono λ e w' ⟨⟨ng,ao,n,cap,e1,h1⟩,hb⟩ => ⟨⟨ng,ao,n,cap,e1,by rw [zdF]; exact h1⟩,hb⟩
 ·exact (zmg u v x y W hu hv (hii h) hE).mono λ e w' ⟨e1,hb⟩ => ⟨⟨false,none,0,0,e1,by rw [zjs]; exact hii (zai.zero _)⟩,hb⟩
theorem zm4:OpI 98 (· - ·):=by
 intro u v x y k W hu hv hk hE;rcases hk.out with ⟨rfl,h⟩ | ⟨rfl,h⟩
 ·exact (zkX u v x y W hu hv (hii h) hE).mono λ e w' ⟨⟨ng,ao,n,cap,e1,h1⟩,hb⟩ => ⟨⟨ng,ao,n,cap,e1,by rw [zdF]; exact h1⟩,hb⟩
 ·exact (zl1 u v x y W hu hv (hii h) hE).mono λ e w' ⟨e1,hb⟩ => ⟨⟨false,none,0,0,e1,by rw [zjs]; exact hii (zai.zero _)⟩,hb⟩
theorem zih:OpI 33 (· * ·):=by
 intro u v x y k W hu hv hk hE;rcases hk.out with ⟨rfl,h⟩ | ⟨rfl,h⟩
 ·exact (zlm u v x y W hu hv (hii h)).mono λ e w' ⟨⟨ng,ao,n,cap,e1,h1⟩,hb⟩ => ⟨⟨ng,ao,n,cap,e1,by rw [zdF]; exact h1⟩,hb⟩
 ·exact (zjR u v x y W hu hv (hii h)).mono λ e w' ⟨e1,hb⟩ => ⟨⟨false,none,0,0,e1,by rw [zjs]; exact hii (zai.zero _)⟩,hb⟩
def CrS (a b:Rat):Prop:=Rq.Sm (a.num * b.den)/\Rq.Sm (b.num * a.den)
theorem zac.mk' {w:World} {J1:Bool} {ao1:Option Addr} {n1 Y1:Nat} {J2:Bool} {ao2:Option Addr} {n2 Y2:Nat} {r:Rat} (h1:Hid (zai w (.agg #[.bool J1,.slice ao1 n1 Y1]) r.num)) (h2:Hid (zai w (.agg #[.bool J2,.slice ao2 n2 Y2]) (r.den:Int))) :
  zac w (qA J1 ao1 n1 Y1 J2 ao2 n2 Y2) r:=⟨_,_,_,_,_,_,_,_,rfl,h1.out,h2.out⟩
def zov (k x y:Int) (w':World) (e:Ending):Prop :=
 ∃ (n1:Bool) (a1:Option Addr) (l1 c1:Nat) (n2:Bool) (a2:Option Addr) (l2 c2:Nat),e=.returned (.tuple #[.agg #[.bool n1,.slice a1 l1 c1],.agg #[.bool n2,.slice a2 l2 c2],.int .i64 k]) /\
  Hid (zai w' (.agg #[.bool n1,.slice a1 l1 c1]) (zk k x))/\Hid (zai w' (.agg #[.bool n2,.slice a2 l2 c2]) (zk k y))
theorem zfq (va vb:Value) (a b:Rat) (k:Int) (w:World) (ha:zac w va a) (hb:zac w vb b) (hs:Hid (KQ k (CrS a b))) (hE:Env w) :
  Calls Tryz.prog 96 #[va,vb] w λ e w' => zov k (a.num * b.den) (b.num * a.den) w' e/\BH w w':=by
 obtain ⟨k1,h_k1⟩:=KQ.ex (Rq.Sm (a.num * (b.den:Int)));have H_k1:=hii h_k1;clear h_k1;obtain ⟨k2,h_k2⟩:=KQ.ex (Rq.Sm (b.num * (a.den:Int)));have H_k2:=hii h_k2;clear h_k2;have hbw:=Below.refl w.heap.size w;obtain ⟨J1,ao1,n1,Y1,J2,ao2,n2,Y2,rfl,h1,h2⟩:=ha;have HV1:=hii h1;have HV2:=hii h2;clear h1 h2;obtain ⟨J3,ao3,n3,Y3,J4,ao4,n4,Y4,rfl,h1,h2⟩:=hb;have HV3:=hii h1;have HV4:=hii h2;clear h1 h2;go_enter func96,ntmps96;go_upto_region 1 with fail;obtain ⟨wx,hwx,hszx,X1,X2,X3,X4,hb⟩:=zhH w (.bool J1) (.slice ao1 n1 Y1) (.bool J2) (.slice ao2 n2 Y2) 32 (.bool J3) (.slice ao3 n3 Y3) (.bool J4) (.slice ao4 n4 Y4) 32 (.bool false) (.slice none 0 0) 30 (.bool false) (.slice none 0 0) 30;rw [<- hwx];clear hwx;obtain ⟨v1,rfl⟩:=exi wx;have HV1:=hup HV1 hb;have HV2:=hup HV2 hb;have HV3:=hup HV3 hb;have HV4:=hup HV4 hb;have hE:=hE.mono hb;have hbw:=bu hbw hb;clear hb;obtain ⟨x1a,x1b,x1c,x1d,_,_,_,_⟩:=id X1;obtain ⟨x2a,x2b,x2c,x2d,_,_,_,_⟩:=id X2;go_wp2_with fail;go_fit (zfA _ _ a.num (b.den:Int) k1 v1 HV1.out HV4.out H_k1 hE);rintro e v2 ⟨⟨J5,ao5,n5,Y5,rfl,HV5⟩,hb⟩;have HV2:=hup HV2 hb;have HV3:=hup HV3 hb;have X1:=X1.mono hb;have X2:=X2.mono hb;have X3:=X3.mono hb;have X4:=X4.mono hb;have hE:=hE.mono hb;have hbw:=bu hbw hb;clear hb;clear x1a x1b x1c x1d x2a x2b x2c x2d;go_upto_region 2 with fail;have lX5X1:=X1.lt;have lX5X2:=X2.lt;have lX5X3:=X3.lt;have lX5X4:=X4.lt;have X5:=Box.new v2 (.bool J5) (.slice ao5 n5 Y5) 30;have hb:=bA v2 (.cells #[.bool J5,.slice ao5 n5 Y5] 30);generalize v2.alloc (.cells #[.bool J5,.slice ao5 n5 Y5] 30)=v3 at *;have HV2:=hup HV2 hb;have HV3:=hup HV3 hb;have X1:=X1.mono hb;have X2:=X2.mono hb;have X3:=X3.mono hb;have X4:=X4.mono hb;have HV5:=hup HV5 hb;have hE:=hE.mono hb;have hbw:=bu hbw hb;clear hb;rcases H_k1.out with ⟨rfl,h_k1⟩ | ⟨rfl,h_k1⟩
 ·have G_k1:=hii h_k1;clear h_k1;rw [zdF] at HV5;obtain ⟨x1a,x1b,x1c,x1d,_,_,_,_⟩:=id X1;obtain ⟨x2a,x2b,x2c,x2d,_,_,_,_⟩:=id X2;go_wp2_with fail;go_fit (zfA _ _ b.num (a.den:Int) k2 v3 HV3.out HV2.out H_k2 hE);rintro e v4 ⟨⟨J6,ao6,n6,Y6,rfl,HV6⟩,hb⟩;have X1:=X1.mono hb;have X2:=X2.mono hb;have X3:=X3.mono hb;have X4:=X4.mono hb;have HV5:=hup HV5 hb;have X5:=X5.mono hb;have hbw:=bu hbw hb;clear hb;clear x1a x1b x1c x1d x2a x2b x2c x2d;go_upto_region 5 with fail;have lX6X1:=X1.lt;have lX6X2:=X2.lt;have lX6X3:=X3.lt;have lX6X4:=X4.lt;have lX6X5:=X5.lt;have X6:=Box.new v4 (.bool J6) (.slice ao6 n6 Y6) 30;have hb:=bA v4 (.cells #[.bool J6,.slice ao6 n6 Y6] 30);generalize v4.alloc (.cells #[.bool J6,.slice ao6 n6 Y6] 30)=v5 at *;have X3:=X3.mono hb;have X4:=X4.mono hb;have HV5:=hup HV5 hb;have X5:=X5.mono hb;have HV6:=hup HV6 hb;have hbw:=bu hbw hb;clear hb;rcases H_k2.out with ⟨rfl,h_k2⟩ | ⟨rfl,h_k2⟩
  ·have G_k2:=hii h_k2;clear h_k2;rw [zdF] at HV6;obtain rfl:k=0:=hs.out.yes ⟨G_k1.out,G_k2.out⟩;go_upto_region 7 with fail;obtain ⟨wy,rfl⟩:=exi v5;obtain ⟨x5a,x5b,_,_⟩:=id X5;obtain ⟨x6a,x6b,_,_⟩:=id X6;obtain ⟨x3a,x3b,_,_⟩:=id X3;obtain ⟨x4a,x4b,_,_⟩:=id X4;go_region_with fail
   all_goals
    go_wp2;exact bodyPost_ret (v:=.tuple #[.agg #[.bool J5,.slice ao5 n5 Y5],.agg #[.bool J6,.slice ao6 n6 Y6],.int .i64 0]) (by simp [results,Tryz.results96,go_sem,x3a,x3b,x4a,x4b]) rfl ⟨⟨J5,ao5,n5,Y5,J6,ao6,n6,Y6,rfl,by rw [zdF]; exact hii (((HV5.out.put2B X3 (.bool J5) (.slice ao5 n5 Y5)).put2B (X4.other2 (by omega)) (.bool J6) (.slice ao6 n6 Y6)).mono (Below.drew br)),by rw [zdF]; exact hii (((HV6.out.put2B X3 (.bool J5) (.slice ao5 n5 Y5)).put2B (X4.other2 (by omega)) (.bool J6) (.slice ao6 n6 Y6)).mono (Below.drew br))⟩,(Below.put2 (Below.put2 hbw (by omega) (.bool J5) (.slice ao5 n5 Y5)) (by omega) (.bool J6) (.slice ao6 n6 Y6)).drew⟩
  ·have G_k2:=hii h_k2;clear h_k2;obtain rfl:k=3:=hs.out.no (λ h => G_k2.out h.2);obtain ⟨x3a,x3b,_,_⟩:=id X3;obtain ⟨x4a,x4b,_,_⟩:=id X4;go_wp2;refine bodyPost_ret (v:=.tuple #[.agg #[.bool false,.slice none 0 0],.agg #[.bool false,.slice none 0 0],.int .i64 3]) (by simp [results,Tryz.results96,go_sem,x3a,x3b,x4a,x4b]) rfl ⟨⟨false,none,0,0,false,none,0,0,rfl,by rw [zjs]; exact hii (zai.zero _),by rw [zjs]; exact hii (zai.zero _)⟩,Below.put2 (Below.put2 hbw (by omega) (.bool false) (.slice none 0 0)) (by omega) (.bool false) (.slice none 0 0)⟩
 ·have G_k1:=hii h_k1;clear h_k1;obtain rfl:k=3:=hs.out.no (λ h => G_k1.out h.1);obtain ⟨x3a,x3b,_,_⟩:=id X3;obtain ⟨x4a,x4b,_,_⟩:=id X4;go_wp2;refine bodyPost_ret (v:=.tuple #[.agg #[.bool false,.slice none 0 0],.agg #[.bool false,.slice none 0 0],.int .i64 3]) (by simp [results,Tryz.results96,go_sem,x3a,x3b,x4a,x4b]) rfl ⟨⟨false,none,0,0,false,none,0,0,rfl,by rw [zjs]; exact hii (zai.zero _),by rw [zjs]; exact hii (zai.zero _)⟩,Below.put2 (Below.put2 hbw (by omega) (.bool false) (.slice none 0 0)) (by omega) (.bool false) (.slice none 0 0)⟩
theorem znV (va vb:Value) (a b:Rat) (k:Int) (w:World) (ha:zac w va a) (hb:zac w vb b) (hs:Hid (KQ k (CrS a b))) (hE:Env w) :
  Calls Tryz.prog 50 #[va,vb] w λ e w' => e=.returned (.tuple #[.int .i64 (zk k (Rq.cmpQ a b)),.int .i64 k])/\BH w w':=by
 have hbw:=Below.refl w.heap.size w;obtain ⟨J1,ao1,n1,Y1,J2,ao2,n2,Y2,rfl,h1,h2⟩:=ha;have HV1:=hii h1;have HV2:=hii h2;clear h1 h2;obtain ⟨J3,ao3,n3,Y3,J4,ao4,n4,Y4,rfl,h1,h2⟩:=hb;have HV3:=hii h1;have HV4:=hii h2;clear h1 h2;go_enter func50,ntmps50;go_upto_region 1 with fail;obtain ⟨wx,hwx,hszx,X1,X2,hb⟩:=zg7 w (.bool J1) (.slice ao1 n1 Y1) (.bool J2) (.slice ao2 n2 Y2) 32 (.bool J3) (.slice ao3 n3 Y3) (.bool J4) (.slice ao4 n4 Y4) 32;rw [<- hwx];clear hwx;obtain ⟨v1,rfl⟩:=exi wx;have HV1:=hup HV1 hb;have HV2:=hup HV2 hb;have HV3:=hup HV3 hb;have HV4:=hup HV4 hb;have hE:=hE.mono hb;have hbw:=bu hbw hb;clear hb;obtain ⟨x1a,x1b,x1c,x1d,_,_,_,_⟩:=id X1;go_wp2_with fail;go_fit (zau _ a v1 (zac.mk' HV1 HV2) hE);rintro e v2 ⟨rfl,hb⟩;have HV1:=hup HV1 hb;have HV2:=hup HV2 hb;have HV3:=hup HV3 hb;have HV4:=hup HV4 hb;have X1:=X1.mono hb;have X2:=X2.mono hb;have hE:=hE.mono hb;have hbw:=bu hbw hb;clear hb;clear x1a x1b x1c x1d;obtain ⟨x2a,x2b,x2c,x2d,_,_,_,_⟩:=id X2;go_wp2_with fail;go_fit (zau _ b v2 (zac.mk' HV3 HV4) hE);rintro e v3 ⟨rfl,hb⟩;have HV1:=hup HV1 hb;have HV2:=hup HV2 hb;have HV3:=hup HV3 hb;have HV4:=hup HV4 hb;have X1:=X1.mono hb;have X2:=X2.mono hb;have hE:=hE.mono hb;have hbw:=bu hbw hb;clear hb;clear x2a x2b x2c x2d;obtain ⟨x1a,x1b,x1c,x1d,_,_,_,_⟩:=id X1;obtain ⟨x2a,x2b,x2c,x2d,_,_,_,_⟩:=id X2;go_wp2_with fail;go_fit (zfq _ _ a b k v3 (zac.mk' HV1 HV2) (zac.mk' HV3 HV4) hs hE);rintro e v4 ⟨⟨J5,ao5,n5,Y5,J6,ao6,n6,Y6,rfl,HV5,HV6⟩,hb⟩;have X1:=X1.mono hb;have X2:=X2.mono hb;have hE:=hE.mono hb;have hbw:=bu hbw hb;clear hb;clear x1a x1b x1c x1d x2a x2b x2c x2d;go_upto_region 4 with fail;have lX5X1:=X1.lt;have lX5X2:=X2.lt;obtain ⟨wx,hwx,hszx,X5,X6,hb⟩:=za9 v4 (.bool J5) (.slice ao5 n5 Y5) 30 (.bool J6) (.slice ao6 n6 Y6) 30;rw [<- hwx];clear hwx;obtain ⟨v5,rfl⟩:=exi wx;have HV5:=hup HV5 hb;have HV6:=hup HV6 hb;have hE:=hE.mono hb;have hbw:=bu hbw hb;clear hb;have H_k:=hs;rcases H_k.out with ⟨rfl,h_k⟩ | ⟨rfl,h_k⟩
 ·have G_k:=hii h_k;clear h_k;rw [zdF] at HV5;rw [zdF] at HV6;obtain ⟨x5a,x5b,_,_⟩:=id X5;obtain ⟨x6a,x6b,_,_⟩:=id X6;go_wp2_with fail;go_fit (zjp _ _ (a.num * (b.den:Int)) (b.num * (a.den:Int)) (Rq.cmpQ a b) v5 (hii (by unfold zga; exact Rq.cmp_eq a b)) HV5.out HV6.out hE);rintro e v6 ⟨rfl,hb⟩;have hbw:=bu hbw hb;clear hb;clear x5a x5b x6a x6b;go_wp2;go_ret2;exact ⟨rfl,hbw⟩
 ·have G_k:=hii h_k;clear h_k;go_wp2;go_ret2;exact ⟨rfl,hbw⟩
theorem zjo (va vb:Value) (a b:Rat) (w:World) (ha:zac w va a) (hb:zac w vb b) (hs:Hid (CrS a b)) (hE:Env w) :
  Calls Tryz.prog 50 #[va,vb] w λ e w' => e=.returned (.tuple #[.int .i64 (Rq.cmpQ a b),.int .i64 0])/\BH w w':=znV va vb a b 0 w ha hb (hii (.inl ⟨rfl,hs.out⟩)) hE
theorem zky (a b:Value) (p q:Int) (w:World) (ha:zai w a p) (hb:zai w b q) (hq:Hid (q < 0)) (hE:Env w) :
  Calls Tryz.prog 86 #[a,b] w λ e w' => zcL w' (Rat.divInt p q) e/\BH w w':=by
 have HS:Hid (zaU q=-1):=hii (by have:=hq.out; unfold zaU; split <;> (try split) <;> omega);have hbw:=Below.refl w.heap.size w;obtain ⟨J1,ao1,n1,Y1,rfl⟩:=ha.parts;have HV1:=hii ha;clear ha;obtain ⟨J2,ao2,n2,Y2,rfl⟩:=hb.parts;have HV2:=hii hb;clear hb;go_enter func86,ntmps86;go_upto_region 1 with fail;obtain ⟨wx,hwx,hszx,X1,X2,X3,hb⟩:=zbD w (.bool J1) (.slice ao1 n1 Y1) 30 (.bool J2) (.slice ao2 n2 Y2) 30 (.bool false) (.slice none 0 0) (.bool false) (.slice none 0 0) 32;rw [<- hwx];clear hwx;obtain ⟨v1,rfl⟩:=exi wx;have HV1:=hup HV1 hb;have HV2:=hup HV2 hb;have hE:=hE.mono hb;have hbw:=bu hbw hb;clear hb;obtain ⟨x1a,x1b,_,_⟩:=id X1;go_wp2_with fail;go_fit (zbO _ p v1 HV1.out hE);rintro e v2 ⟨rfl,hb⟩;have HV1:=hup HV1 hb;have HV2:=hup HV2 hb;have X1:=X1.mono hb;have X2:=X2.mono hb;have X3:=X3.mono hb;have hE:=hE.mono hb;have hbw:=bu hbw hb;clear hb;clear x1a x1b;obtain ⟨x2a,x2b,_,_⟩:=id X2;go_wp2_with fail;go_fit (zbO _ q v2 HV2.out hE);rintro e v3 ⟨rfl,hb⟩;have HV1:=hup HV1 hb;have HV2:=hup HV2 hb;have X1:=X1.mono hb;have X2:=X2.mono hb;have X3:=X3.mono hb;have hE:=hE.mono hb;have hbw:=bu hbw hb;clear hb;clear x2a x2b;obtain ⟨x2a,x2b,_,_⟩:=id X2;go_wp2_with fail;go_fit (zbu _ q (-1) v3 HS HV2.out hE);rintro e v4 ⟨rfl,hb⟩;have HV1:=hup HV1 hb;have HV2:=hup HV2 hb;have X1:=X1.mono hb;have X2:=X2.mono hb;have X3:=X3.mono hb;have hE:=hE.mono hb;have hbw:=bu hbw hb;clear hb;clear x2a x2b;obtain ⟨x1a,x1b,_,_⟩:=id X1;obtain ⟨x2a,x2b,_,_⟩:=id X2;go_wp2_with fail;go_fit (zbI _ _ p q v4 HV1.out HV2.out (hii (by have:=hq.out; omega)) hE);rintro e v5 ⟨⟨J3,ao3,n3,Y3,J4,ao4,n4,Y4,rfl,HV3,HV4⟩,hb⟩;have X3:=X3.mono hb;have hbw:=bu hbw hb;clear hb;clear x1a x1b x2a x2b;obtain ⟨x3a,x3b,x3c,x3d,_,_,_,_⟩:=id X3;go_wp2;refine bodyPost_ret (v:=.tuple #[.agg #[.bool J3,.slice ao3 n3 Y3,.bool J4,.slice ao4 n4 Y4],.int .i64 0]) (by simp [results,Tryz.results86,go_sem,x3a,x3b,x3c,x3d]) rfl ⟨⟨J3,ao3,n3,Y3,J4,ao4,n4,Y4,rfl,hii (HV3.out.put4B X3 (.bool J3) (.slice ao3 n3 Y3) (.bool J4) (.slice ao4 n4 Y4)),hii (HV4.out.put4B X3 (.bool J3) (.slice ao3 n3 Y3) (.bool J4) (.slice ao4 n4 Y4))⟩,Below.put4 hbw (by omega) (.bool J3) (.slice ao3 n3 Y3) (.bool J4) (.slice ao4 n4 Y4)⟩
theorem zkx (a b:Value) (p q:Int) (w:World) (ha:zai w a p) (hb:zai w b q) (hq:Hid (0 < q)) (hE:Env w) :
  Calls Tryz.prog 86 #[a,b] w λ e w' => zcL w' (Rat.divInt p q) e/\BH w w':=by
 have HS:Hid (zaU q=1):=hii (by have:=hq.out; unfold zaU; split <;> (try split) <;> omega);have hbw:=Below.refl w.heap.size w;obtain ⟨J1,ao1,n1,Y1,rfl⟩:=ha.parts;have HV1:=hii ha;clear ha;obtain ⟨J2,ao2,n2,Y2,rfl⟩:=hb.parts;have HV2:=hii hb;clear hb;go_enter func86,ntmps86;go_upto_region 1 with fail;obtain ⟨wx,hwx,hszx,X1,X2,X3,hb⟩:=zbD w (.bool J1) (.slice ao1 n1 Y1) 30 (.bool J2) (.slice ao2 n2 Y2) 30 (.bool false) (.slice none 0 0) (.bool false) (.slice none 0 0) 32;rw [<- hwx];clear hwx;obtain ⟨v1,rfl⟩:=exi wx;have HV1:=hup HV1 hb;have HV2:=hup HV2 hb;have hE:=hE.mono hb;have hbw:=bu hbw hb;clear hb;obtain ⟨x1a,x1b,_,_⟩:=id X1;go_wp2_with fail;go_fit (zbO _ p v1 HV1.out hE);rintro e v2 ⟨rfl,hb⟩;have HV1:=hup HV1 hb;have HV2:=hup HV2 hb;have X1:=X1.mono hb;have X2:=X2.mono hb;have X3:=X3.mono hb;have hE:=hE.mono hb;have hbw:=bu hbw hb;clear hb;clear x1a x1b;obtain ⟨x2a,x2b,_,_⟩:=id X2;go_wp2_with fail;go_fit (zbO _ q v2 HV2.out hE);rintro e v3 ⟨rfl,hb⟩;have HV1:=hup HV1 hb;have HV2:=hup HV2 hb;have X1:=X1.mono hb;have X2:=X2.mono hb;have X3:=X3.mono hb;have hE:=hE.mono hb;have hbw:=bu hbw hb;clear hb;clear x2a x2b;obtain ⟨x2a,x2b,_,_⟩:=id X2;go_wp2_with fail;go_fit (zbu _ q (1) v3 HS HV2.out hE);rintro e v4 ⟨rfl,hb⟩;have HV1:=hup HV1 hb;have HV2:=hup HV2 hb;have X1:=X1.mono hb;have X2:=X2.mono hb;have X3:=X3.mono hb;have hE:=hE.mono hb;have hbw:=bu hbw hb;clear hb;clear x2a x2b;obtain ⟨x1a,x1b,_,_⟩:=id X1;obtain ⟨x2a,x2b,_,_⟩:=id X2;go_wp2_with fail;go_fit (zbI _ _ p q v4 HV1.out HV2.out (hii (by have:=hq.out; omega)) hE);rintro e v5 ⟨⟨J3,ao3,n3,Y3,J4,ao4,n4,Y4,rfl,HV3,HV4⟩,hb⟩;have X3:=X3.mono hb;have hbw:=bu hbw hb;clear hb;clear x1a x1b x2a x2b;obtain ⟨x3a,x3b,x3c,x3d,_,_,_,_⟩:=id X3;go_wp2;refine bodyPost_ret (v:=.tuple #[.agg #[.bool J3,.slice ao3 n3 Y3,.bool J4,.slice ao4 n4 Y4],.int .i64 0]) (by simp [results,Tryz.results86,go_sem,x3a,x3b,x3c,x3d]) rfl ⟨⟨J3,ao3,n3,Y3,J4,ao4,n4,Y4,rfl,hii (HV3.out.put4B X3 (.bool J3) (.slice ao3 n3 Y3) (.bool J4) (.slice ao4 n4 Y4)),hii (HV4.out.put4B X3 (.bool J3) (.slice ao3 n3 Y3) (.bool J4) (.slice ao4 n4 Y4))⟩,Below.put4 hbw (by omega) (.bool J3) (.slice ao3 n3 Y3) (.bool J4) (.slice ao4 n4 Y4)⟩
theorem zl8 (a b:Value) (p q:Int) (w:World) (ha:zai w a p) (hb:zai w b q) (hq:Hid (q ≠ 0)) (hE:Env w) :
  Calls Tryz.prog 86 #[a,b] w λ e w' => zcL w' (Rat.divInt p q) e/\BH w w':=by
 rcases Int.lt_trichotomy q 0 with h | h | h
 ·exact zky a b p q w ha hb (hii h) hE
 ·exact absurd h hq.out
 ·exact zkx a b p q w ha hb (hii h) hE
theorem zl4 (n d:Int) (w:World) (hn1:-9223372036854775808<=n) (hn2:n<=9223372036854775807) (hd1:-9223372036854775808<=d) (hd2:d<=9223372036854775807) (hd:Hid (d ≠ 0)) (hE:Env w) :
  Calls Tryz.prog 41 #[.int .i64 n,.int .i64 d] w λ e w' => zcL w' (Rat.divInt n d) e/\BH w w':=by
 have hbw:=Below.refl w.heap.size w;go_enter func41,ntmps41;go_upto_region 1 with fail;have X3:=zaX.new w (.bool false) (.slice none 0 0) (.bool false) (.slice none 0 0) 32;have hb:=bA w (.cells #[.bool false,.slice none 0 0,.bool false,.slice none 0 0] 32);generalize w.alloc (.cells #[.bool false,.slice none 0 0,.bool false,.slice none 0 0] 32)=v1 at *;have hE:=hE.mono hb;have hbw:=bu hbw hb;clear hb;go_wp2_with fail;go_fit (zdq n hn1 hn2 v1 hE);rintro e v2 ⟨⟨J1,ao1,n1,Y1,rfl,HV1⟩,hb⟩;have X3:=X3.mono hb;have hE:=hE.mono hb;have hbw:=bu hbw hb;clear hb;go_wp2_with fail;go_fit (zdq d hd1 hd2 v2 hE);rintro e v3 ⟨⟨J2,ao2,n2,Y2,rfl,HV2⟩,hb⟩;have X3:=X3.mono hb;have HV1:=hup HV1 hb;have hE:=hE.mono hb;have hbw:=bu hbw hb;clear hb;go_wp2_with fail;go_fit (zl8 _ _ n d v3 HV1.out HV2.out hd hE);rintro e v4 ⟨⟨J3,ao3,n3,Y3,J4,ao4,n4,Y4,rfl,HV3,HV4⟩,hb⟩;have X3:=X3.mono hb;have hbw:=bu hbw hb;clear hb;obtain ⟨x3a,x3b,x3c,x3d,_,_,_,_⟩:=id X3;go_wp2;refine bodyPost_ret (v:=.tuple #[.agg #[.bool J3,.slice ao3 n3 Y3,.bool J4,.slice ao4 n4 Y4],.int .i64 0]) (by simp [results,Tryz.results41,go_sem,x3a,x3b,x3c,x3d]) rfl ⟨⟨J3,ao3,n3,Y3,J4,ao4,n4,Y4,rfl,hii (HV3.out.put4B X3 (.bool J3) (.slice ao3 n3 Y3) (.bool J4) (.slice ao4 n4 Y4)),hii (HV4.out.put4B X3 (.bool J3) (.slice ao3 n3 Y3) (.bool J4) (.slice ao4 n4 Y4))⟩,Below.put4 hbw (by omega) (.bool J3) (.slice ao3 n3 Y3) (.bool J4) (.slice ao4 n4 Y4)⟩
end Go.Proofs.YtfgffkmddanjjaaGreatDoor
