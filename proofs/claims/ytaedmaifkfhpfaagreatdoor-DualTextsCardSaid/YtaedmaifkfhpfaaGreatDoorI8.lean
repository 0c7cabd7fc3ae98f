/-
  A region that draws its order, by an invariant: each operation is met once, under the flags of those that have been carried out.
  The conditions: the region's operations wait only for earlier ones (topo); the invariant J speaks of the flags, of the values that the operations have left, and of the world.
-/
import Derived.Test.YtaedmaifkfhpfaaGreatDoorI5
import Derived.RegionTactic
import Derived.BigRegion
import Derived.Test.YtaedmaifkfhpfaaGreatDoorI2
import Derived.Lib.Atoi
import Derived.Lib.SlTrimSet
import Derived.Lib.Strings
import Derived.Shelf.Strings.SlTrimAscii
import Derived.Test.YtaedmaifkfhpfaaGreatDoorProg
import Derived.WalkKit
import Derived.Below
import Derived.Test.YtaedmaifkfhpfaaGreatDoorShelfB
import Derived.Lib.AtoiErrMem
set_option linter.unusedVariables false
set_option linter.unusedSimpArgs false
set_option maxRecDepth 100000
set_option maxHeartbeats 25600000
namespace Go.Proofs.YtaedmaifkfhpfaaGreatDoor
open Go.RowKit
theorem rGcd_any (a b:Value) (x y:Int) (w:World) (ha:IntV w a x) (hb:IntV w b y) :
  Calls Tryz.prog 80 #[a,b] w fun e w' => (∃ (ng:Bool) (ao:Option Addr) (n cap:Nat),e=.returned (.agg #[.bool ng,.slice ao n cap])∧Hid (IntV w' (.agg #[.bool ng,.slice ao n cap]) ((Int.gcd x y:Nat):Int)))∧Below w.heap.size w w':=by
 obtain ⟨n1,ao1,L1,c1,rfl,Hn1,HL1,HB1,hc1,hl1,hU1⟩:=ha;obtain ⟨n2,ao2,L2,c2,rfl,Hn2,HL2,HB2,hc2,hl2,hU2⟩:=hb;go_enter Tryz.func80,Tryz.ntmps80;go_wp2_with fail;obtain ⟨wx,hwx,hsz,B1,B2,B3,hbx⟩:=boxes3 w (.bool n1) (.slice ao1 L1.length c1) (.bool n2) (.slice ao2 L2.length c2) (.bool false) (.slice none 0 0) 24;rw [← hwx];clear hwx;obtain ⟨a0,a1,_,_⟩:=B1;obtain ⟨b0,b1,_,_⟩:=B2;go_quiet (fail);have hbq:=below_drewN (Below.refl wx.heap.size wx) nq;have B3:=B3.mono hbq;have hbw3:=below_drewN hbx nq;have hU3:=hU1.mono hbw3;have hU4:=hU2.mono hbw3;clear a0 a1 b0 b1 hU1 hU2 hsz hbq;generalize wx.drewN nq=w3 at *;go_wp2_with fail;go_loopg [5,6] (y.natAbs) (fun gk s7 s8 wr => ∃ (X Y:Nat) (L M:List Nat) (a5 a6:Option Addr) (c5 c6:Nat),Y≤gk∧s7=.slice a5 L.length c5∧s8=.slice a6 M.length c6∧Hid (L=Bi.limbs X)∧Hid (M=Bi.limbs Y)∧Hid (Nat.gcd X Y=Int.gcd x y) ∧
   Hid (X < Bi.Big∧Y < Bi.Big)∧U wr a5 L∧U wr a6 M∧Below w3.heap.size w3 wr)
 case atStart => exact ⟨x.natAbs,y.natAbs,L1,L2,ao1,ao2,c1,c2,nl,rfl,rfl,HL1,HL2,hii rfl,hii ⟨HB1.out,HB2.out⟩,hU3,hU4,br⟩
 case round =>
  clear hU3 hU4;obtain ⟨X,Y,L,M,a5,a6,c5,c6,hY,rfl,rfl,HL,HM,HG,HXY,hUL,hUM,hbr⟩:=hrel;have hl5:L.length≤34:=by rw [HL.out]; exact limbs_len34 HXY.out.1
  have hl6:M.length≤34:=by rw [HM.out]; exact limbs_len34 HXY.out.2
  by_cases hM0:M=[]
  ·have hY0:Y=0:=Bi.limbs_eq_nil.1 (by rw [← HM.out]; exact hM0);subst hM0;subst hY0;have hbr0:=bu hbw3 hbr;have F4:=B3.mono hbr;clear hUM hl6;go_wp2_with fail;(with_reducible refine (rmake_any false L a5 c5 wr ?_ hUL (hii ?_)).mono ?_)
   ·omega
   ·rw [HL.out]; exact Bi.limbs_ok _
   rintro e w5 ⟨⟨ng,ao3,n3,cap3,k3,rfl,HR⟩,hb5⟩;have hB:=F4.mono hb5;have hlt:=hB.lt;obtain ⟨p0,p1,q0,q1⟩:=hB;have hV:Hid (IntV w5 (.agg #[.bool ng,.slice ao3 n3 cap3]) ((Int.gcd x y:Nat):Int)):=hii (by
    have e1:sgn false (Bi.val L)=((Int.gcd x y:Nat):Int):=by rw [HL.out,Bi.val_limbs,← HG.out]; simp [sgn]
    rw [e1] at HR;rcases HR.out with ⟨_,_,h⟩ | ⟨h,_⟩
    ·exact h
    ·refine absurd ?_ h;rw [Int.natAbs_natCast,← HG.out];exact gcd_big HXY.out.1 HXY.out.2)
   go_wp2;refine bodyPost_ret (v:=.agg #[.bool ng,.slice ao3 n3 cap3]) (by simp [results,Tryz.results80,go_sem,p0,p1,hlt]) rfl ⟨⟨ng,ao3,n3,cap3,rfl,hii ((hV.out.put2 p0 p1 _ _).mono (bA _ _))⟩,?_⟩;refine (Below.put2 (bu hbr0 hb5) (by omega) _ _).alloc ?_ _;have:=hb5.size; have:=hbr.size; have:=hbw3.size; simp [World.setCell]; omega
  ·have hM1:0 < M.length:=List.length_pos_iff.2 hM0;have hY1:0 < Y:=by
    rcases Nat.eq_zero_or_pos Y with h | h
    ·exact absurd (by rw [HM.out,h]; rfl) hM0
    ·exact h
   clear hM0;go_wp2_with fail;(with_reducible refine (rdiv_any X Y L M HL HM a5 a6 c5 c6 wr ?_ ?_ hY1 hUL hUM).mono ?_)
   ·omega
   ·omega
   rintro e w5 ⟨⟨a7,a8,Q,R,c7,c8,HQ,HR,hc7,hc8,rfl,HU7,HU8⟩,hb5⟩;have hUM5:=hUM.mono hb5;have hUR:=HU8.out;have hlt:=Nat.mod_lt X hY1;clear hUL hUM;go_wp2;go_roundg (X % Y)
   case measure => omega
   case rel => exact ⟨Y,X % Y,M,R,a6,a8,c6,c8,nl,rfl,rfl,HM,HR,hii (by rw [← HG.out]; exact gcd_step X Y),hii ⟨HXY.out.2,Nat.lt_trans hlt HXY.out.2⟩,hUM5,hUR,bu hbr hb5⟩
def BoolP (P:Prop) (e:Ending):Prop:=∃ r:Bool,Hid (r=true↔P)∧e=.returned (.bool r)
theorem last_split {l:List Nat} {x:Nat} (hx:l[l.length - 1]?=some x):∃ r,l=r ++ [x]:=by
 rcases List.eq_nil_or_concat l with h | ⟨r,y,h⟩
 ·subst h; simp at hx
 ·rw [List.concat_eq_append] at h;subst h;simp at hx;exact ⟨r,by rw [hx]⟩
theorem rValid_any (neg:Bool) (l:List Nat) (ao:Option Addr) (cap:Nat) (w:World) (hm:l.length≤1000000000) (hU:U w ao l) :
  Calls Tryz.prog 78 #[.agg #[.bool neg,.slice ao l.length cap]] w fun e w' => BoolP (validP neg l) e∧Below w.heap.size w w':=by
 go_enter Tryz.func78,Tryz.ntmps78;go_wp2_with fail;have hbx:=bA w (.cells #[.bool neg,.slice ao l.length cap] 24);have B1:=Box.new w (.bool neg) (.slice ao l.length cap) 24;have hUx:=hU.mono hbx;clear hU;generalize w.alloc (.cells #[.bool neg,.slice ao l.length cap] 24)=wx at *;obtain ⟨a0,a1,_,_⟩:=B1;go_loop [3] (fun s => ∃ k:Nat,k≤l.length∧s=.int .i64 k∧Hid (Bi.Ok (l.take k))) (fun s => l.length - (intOf s).toNat)
 case atStart => exact ⟨0,Nat.zero_le _,rfl,hii (by simp [Bi.Ok])⟩
 case round =>
  obtain ⟨k,hk,rfl,HK⟩:=hrel
  by_cases hlt:k < l.length
  ·obtain ⟨x,hx⟩:=get_some hlt;obtain ⟨b,off,rfl,hc⟩:=hUx.at' hx;have HX:=hii hx;clear hx hUx
   by_cases hs:(1000000000:Int)≤(x:Int)
   ·have hno:¬ validP neg l:=by
     intro h;unfold validP at h;rw [if_neg (by rintro rfl; simp at hlt)] at h;have:=h.1.at' HX.out;omega
    have HNO:=hii hno;clear hno;go_wp2;go_ret;exact ⟨⟨false,hii (by simp [HNO.out]),rfl⟩,hbx⟩
   ·go_wp2;go_round
    case rel =>
     refine ⟨k + 1,by omega,by go_num,hii ?_⟩;have h1:l[k]'hlt=x:=(List.getElem?_eq_some_iff.1 HX.out).2;rw [List.take_succ_eq_append_getElem hlt,h1];exact HK.out.snoc (by omega)
    case measure => simp [intOf]; omega
  ·obtain rfl:k=l.length:=by omega
   have HO:Hid (Bi.Ok l):=hii (by have:=HK.out; rwa [List.take_length] at this);clear HK
   by_cases hl0:l=[]
   ·subst hl0;clear hUx;go_wp2;go_ret;exact ⟨⟨_,hii (by simp [validP]),rfl⟩,hbx⟩
   ·have hl1:0 < l.length:=List.length_pos_iff.2 hl0;have hlz:((l.length:Int) == 0)=false:=by rw [beq_eq_false_iff_ne]; omega
    obtain ⟨x,hx⟩:=get_some (l:=l) (k:=l.length - 1) (by omega);obtain ⟨b,off,rfl,hc⟩:=hUx.at' hx;have HV:Hid (validP neg l↔Bi.Ok l∧x ≠ 0∧Bi.val l < Bi.Big):=hii (by
     obtain ⟨r,rfl⟩:=last_split hx;exact valid_last)
    have HS:=hii (last_split hx);clear hx hl0
    by_cases hx0:x=0
    ·subst hx0;clear hUx;go_wp2;go_ret;exact ⟨⟨false,hii (by rw [HV.out]; simp),rfl⟩,hbx⟩
    ·have hxb:((x:Int) != 0)=true:=by rw [bne_iff_ne]; omega
     have HL:Hid (l=Bi.limbs (Bi.val l)):=hii (by
      obtain ⟨r,hr⟩:=HS.out;have ho:=HO.out;rw [hr] at ho ⊢;exact canon_snoc ho hx0)
     go_wp2_with fail;(with_reducible refine (rdigits_any _ l HL _ _ _ ?_ hUx).mono ?_)
     ·omega
     rintro e w2 ⟨⟨d,HD,hd,rfl⟩,rfl⟩;clear hUx;go_wp2;go_ret;refine ⟨⟨_,hii ?_,rfl⟩,hbx⟩;rw [HV.out,← Bi.dlen_le,← HD.out];simp [HO.out,hx0];omega
end Go.Proofs.YtaedmaifkfhpfaaGreatDoor
namespace Bi
open Go
def digs:List UInt8:=[48,49,50,51,52,53,54,55,56,57]
def isDig (b:UInt8):Prop:=48≤b.toNat∧b.toNat≤57
theorem digs_iff (b:UInt8):digs.contains b=true↔isDig b:=by
 unfold isDig digs;simp only [List.contains_eq_mem,List.mem_cons,List.not_mem_nil,or_false,decide_eq_true_eq]
 constructor
 ·rintro (h | h | h | h | h | h | h | h | h | h) <;> subst h <;> decide
 ·rintro ⟨h1,h2⟩;have:b=UInt8.ofNat b.toNat:=by simp
  have h3:b.toNat=48∨b.toNat=49∨b.toNat=50∨b.toNat=51∨b.toNat=52∨b.toNat=53∨b.toNat=54∨b.toNat=55∨b.toNat=56∨b.toNat=57:=by omega
  rcases h3 with h | h | h | h | h | h | h | h | h | h <;> rw [h] at this <;> subst this <;> decide
theorem dropWhile_nil {α:Type} (p:α→Bool) (l:List α):l.dropWhile p=[]↔∀ x∈l,p x=true:=by
 induction l with
 | nil => simp
 | cons a r ih =>
  rw [List.dropWhile_cons]
  by_cases h:p a=true
  ·simp [h,ih]
  ·simp [h]
theorem trim_digs (l:List UInt8):Lib.trimS l digs=[]↔∀ b∈l,isDig b:=by
 unfold Lib.trimS Lib.trimLeftS Lib.trimRightS;rw [dropWhile_nil]
 constructor
 ·intro h b hb
  by_cases h0:(l.reverse.dropWhile (digs.contains ·))=[]
  ·rw [dropWhile_nil] at h0;exact (digs_iff b).1 (h0 b (by simpa using hb))
  ·have h1:=List.head_dropWhile_not (p:=(digs.contains ·)) (l:=l.reverse) h0;have h2:=h _ (List.mem_reverse.2 (List.head_mem h0));rw [h2] at h1;exact absurd h1 (by simp)
 ·intro h b hb;refine (digs_iff b).2 (h b ?_);have:=(List.dropWhile_sublist (digs.contains ·) (l:=l.reverse)).subset (List.mem_reverse.1 hb)
  simpa using this
def decVal:List UInt8→Nat
 | [] => 0
 | b :: r => (b.toNat - 48) * 10 ^ r.length + decVal r
theorem decFrom_all:∀ (l:List UInt8) (acc:Nat),(∀ b∈l,isDig b)→Lib.decFrom acc l=some (acc * 10 ^ l.length + decVal l)
 | [],acc,_ => by simp [Lib.decFrom,decVal]
 | b :: r,acc,h => by
  have hb:isDig b:=h b (by simp);have hr:=decFrom_all r (acc * 10 + (b.toNat - 48)) (fun x hx => h x (by simp [hx]));unfold isDig at hb;simp only [Lib.decFrom,Lib.digitVal,hb,and_self,if_true,hr,decVal,List.length_cons,Nat.pow_succ]
  congr 1
  rw [Nat.add_mul,Nat.mul_assoc,Nat.mul_comm 10];omega
theorem atoi_digs {l:List UInt8} (h0:l ≠ []) (h:∀ b∈l,isDig b):Lib.atoi l=some ((decVal l:Nat):Int):=by
 cases l with
 | nil => exact absurd rfl h0
 | cons b r =>
  have hb:isDig b:=h b (by simp);unfold isDig at hb;have h1:(b == 45)=false:=by
   rw [beq_eq_false_iff_ne]; rintro rfl; simp at hb
  have h2:(b == 43)=false:=by
   rw [beq_eq_false_iff_ne]; rintro rfl; simp at hb
  have h3:Lib.decNat (b :: r)=some (decVal (b :: r)):=by
   unfold Lib.decNat;rw [if_neg (by simp),decFrom_all _ _ h]; simp
  simp only [Lib.atoi,h1,h2,h3,Bool.false_eq_true,if_false,Option.map_some]
theorem decVal_lt:∀ (l:List UInt8),(∀ b∈l,isDig b)→decVal l < 10 ^ l.length
 | [],_ => by simp [decVal]
 | b :: r,h => by
  have hb:isDig b:=h b (by simp);have hr:=decVal_lt r (fun x hx => h x (by simp [hx]));unfold isDig at hb;rw [decVal,List.length_cons,Nat.pow_succ];have:(b.toNat - 48) * 10 ^ r.length≤9 * 10 ^ r.length:=Nat.mul_le_mul_right _ (by omega);omega
theorem decVal_append:∀ (a b:List UInt8),decVal (a ++ b)=decVal a * 10 ^ b.length + decVal b
 | [],b => by simp [decVal]
 | x :: a,b => by
  simp only [List.cons_append,decVal,decVal_append a b,List.length_append,Nat.pow_add,Nat.add_mul,Nat.mul_assoc];omega
def textP (neg:Bool) (t:List UInt8):Prop:=t ≠ []∧t.length≤300∧(∀ b∈t,isDig b)∧¬ (t.head?=some 48∧(1 < t.length∨neg=true))
end Bi
namespace Go.Proofs.YtaedmaifkfhpfaaGreatDoor
open Go.RowKit
theorem trim_digs_any (L:List UInt8) (w:World) (hs:L.length≤1000000000) :
  Calls Tryz.prog 86 #[.string ⟨L.toArray⟩,.string ⟨#[48,49,50,51,52,53,54,55,56,57]⟩] w fun e w' => e=.returned (.string ⟨(Lib.trimS L Bi.digs).toArray⟩)∧Below w.heap.size w w':=by
 have:=Any.strings_Trim_laid Tryz.lays160 (by kernel_rfl) ⟨L.toArray⟩ ⟨#[48,49,50,51,52,53,54,55,56,57]⟩ w (by simp [ByteArray.size]; omega) (by decide) (ascii_of_all (by decide));exact this
theorem Parse_bad (s:List UInt8) (w:World) (_hs:s.length≤1000000000) (hbad:Hid (¬ Bi.textP (Lib.hasPrefix s [45]) (Lib.trimPrefix s [45]))) :
  Calls Tryz.prog 52 #[.string ⟨s.toArray⟩] w fun e w' => e=.returned (.tuple #[.agg #[.bool false,.slice none 0 0],.int .i64 2])∧Below w.heap.size w w':=by
 have hl:(Lib.trimPrefix s [45]).length≤s.length:=by unfold Lib.trimPrefix; split <;> simp
 go_enter Tryz.func52,Tryz.ntmps52;go_wp2_with fail;(with_reducible refine (Tryz.strings_CutPrefix _ _ _).mono ?_);rintro e w1 ⟨rfl,rfl⟩;generalize Lib.trimPrefix s [45]=t at *;generalize Lib.hasPrefix s [45]=neg at *;have B:=Box.new w (.bool false) (.slice none 0 0) 24;have hbx:=bA w (.cells #[.bool false,.slice none 0 0] 24)
 by_cases ht0:t=[]
 ·subst ht0;clear hl;go_wp2_with fail;generalize w.alloc (.cells #[.bool false,.slice none 0 0] 24)=wx at *;obtain ⟨p0,p1,q0,q1⟩:=B;refine bodyPost_ret (v:=.tuple #[.agg #[.bool false,.slice none 0 0],.int .i64 2]) (by simp [results,Tryz.results52,go_sem,p0,p1]) rfl ⟨rfl,hbx⟩
 have he:t.isEmpty=false:=by simpa using ht0
 by_cases h300:(300:Int) < (t.length:Int)
 ·clear ht0;go_wp2_with fail;generalize w.alloc (.cells #[.bool false,.slice none 0 0] 24)=wx at *;obtain ⟨p0,p1,q0,q1⟩:=B;refine bodyPost_ret (v:=.tuple #[.agg #[.bool false,.slice none 0 0],.int .i64 2]) (by simp [results,Tryz.results52,go_sem,p0,p1]) rfl ⟨rfl,hbx⟩
 ·have hb3:decide ((300:Int) < (t.length:Int))=false:=by simpa using h300
  go_wp2_with fail;generalize w.alloc (.cells #[.bool false,.slice none 0 0] 24)=wx at *;(with_reducible refine (trim_digs_any t wx ?_).mono ?_)
  ·omega
  rintro e w1 ⟨rfl,hb1⟩;have HZ:=hii (Bi.trim_digs t);generalize Lib.trimS t Bi.digs=z at *;obtain ⟨p0,p1,q0,q1⟩:=B.mono hb1;have hbw:=bu hbx hb1;clear B
  by_cases hz:z=[]
  ·have HD:Hid (∀ b∈t,Bi.isDig b):=hii (HZ.out.1 hz);subst hz;obtain ⟨c,r,rfl⟩:∃ c r,t=c :: r:=by
    cases t with
    | nil => simp at he
    | cons c r => exact ⟨c,r,rfl⟩
   have hcr:c=48∧(0 < r.length∨neg=true):=by
    have h:=hbad.out;unfold Bi.textP at h;simp only [ne_eq,reduceCtorEq,not_false_eq_true,true_and,List.head?_cons,Option.some.injEq,List.length_cons] at h
    apply Classical.byContradiction
    intro hno;refine h ⟨by simp at h300; omega,HD.out,?_⟩;rintro ⟨h1,h2⟩;exact hno ⟨h1,by rcases h2 with h2 | h2; exact .inl (by omega); exact .inr h2⟩
   obtain ⟨rfl,hr⟩:=hcr;have hr3:(r.length:Int) + 1≤300:=by simp at h300; omega
   have hr4:(0:Int) < r.length∨(¬ (0:Int) < r.length∧neg=true):=by
    rcases hr with h | h
    ·exact .inl (by omega)
    ·by_cases h0:(0:Int) < r.length
     ·exact .inl h0
     ·exact .inr ⟨h0,h⟩
   clear hr hl ht0 he hb3 h300 HZ HD hbad;rcases hr4 with h | ⟨h,rfl⟩
   all_goals
    go_wp2;refine bodyPost_ret (v:=.tuple #[.agg #[.bool false,.slice none 0 0],.int .i64 2]) (by simp [results,Tryz.results52,go_sem,p0,p1]) rfl ⟨rfl,Below.put2 hbw nl _ _⟩
  ·have hze:z.isEmpty=false:=by simpa using hz
   clear hz;go_wp2;refine bodyPost_ret (v:=.tuple #[.agg #[.bool false,.slice none 0 0],.int .i64 2]) (by simp [results,Tryz.results52,go_sem,p0,p1]) rfl ⟨rfl,Below.put2 hbw nl _ _⟩
theorem eqV_any (a b:Value) (x y:Int) (w:World) (ha:IntV w a x) (hb:IntV w b y) :
  Calls Tryz.prog 40 #[a,b] w fun e w' => e=.returned (.bool (decide (x=y)))∧Below w.heap.size w w':=by
 obtain ⟨n1,ao1,L1,c1,rfl,Hn1,HL1,HB1,hc1,hl1,hU1⟩:=ha;obtain ⟨n2,ao2,L2,c2,rfl,Hn2,HL2,HB2,hc2,hl2,hU2⟩:=hb;refine (equal_any n1 n2 L1 L2 ao1 ao2 c1 c2 w (by omega) (by omega) hU1 hU2).mono ?_;rintro e w' ⟨⟨r,HR,rfl⟩,hb⟩;refine ⟨ret_bool ?_,hb⟩;have h:=HR.out;have e1:=sgn_of x n1 Hn1.out;have e2:=sgn_of y n2 Hn2.out
 by_cases hxy:x=y
 ·subst hxy;rw [h.2 ⟨by rw [Hn1.out,Hn2.out],by rw [HL1.out,HL2.out]⟩]; simp
 ·cases r with
  | false => simp [hxy]
  | true =>
   obtain ⟨h1,h2⟩:=h.1 rfl;rw [HL1.out,HL2.out] at h2;have:=Bi.limbs_inj h2;rw [← e1,← e2,h1,this] at hxy;exact absurd rfl hxy
theorem big_small {k:Nat} (h:k≤9223372036854775808):k < Bi.Big:=small_big h
def DraftV (w:World) (v:Value):Prop :=
 ∃ (neg:Bool) (ao:Option Addr) (l:List Nat) (cap:Nat),v=.agg #[.bool neg,.slice ao l.length cap]∧l.length≤9223372036854775807∧U w ao l∧Hid (∀ x∈l,x < 4294967296)
theorem DraftV.mono {w w':World} {v:Value} (h:DraftV w v) (hb:Below w.heap.size w w'):DraftV w' v:=by
 obtain ⟨neg,ao,l,cap,e,h1,h2,h3⟩:=h;exact ⟨neg,ao,l,cap,e,h1,h2.mono hb,h3⟩
theorem IntV.parts {w:World} {v:Value} {z:Int} (h:IntV w v z):∃ (ng:Bool) (ao:Option Addr) (n cap:Nat),v=.agg #[.bool ng,.slice ao n cap]:=by
 obtain ⟨neg,ao,L,cap,e,_⟩:=h;exact ⟨neg,ao,_,cap,e⟩
theorem validV (v:Value) (z:Int) (w:World) (h:IntV w v z) (hE:Env w) :
  Calls Tryz.prog 92 #[v] w fun e w' => e=.returned (.bool true)∧Below w.heap.size w w':=by
 obtain ⟨n1,ao1,L1,c1,rfl,Hn1,HL1,HB1,hc1,hl1,hU1⟩:=h;refine (valid_any n1 L1 ao1 c1 w (by omega) hU1 hE).mono ?_;rintro e w' ⟨⟨r,HR,rfl⟩,hb⟩;exact ⟨by rw [HR.out.2 (validP_of z n1 L1 Hn1.out HL1.out HB1.out)],hb⟩
theorem ResK.some {w:World} {z:Int} {v:Value} {k:Int} (h:ResK w z v k):∃ y,IntV w v y∧(y=if z.natAbs < Bi.Big then z else 0)∧k=if z.natAbs < Bi.Big then 0 else 3:=by
 rcases h with ⟨h1,h2,h3⟩ | ⟨h1,h2,h3⟩
 ·exact ⟨z,h3,by rw [if_pos h1],by rw [if_pos h1]; exact h2⟩
 ·exact ⟨0,by rw [h3]; exact IntV.zero _,by rw [if_neg h1],by rw [if_neg h1]; exact h2⟩
theorem IntV.putN {w:World} {p:Addr} {v u:Value} {z:Int} (h:IntV w u z) (hp:w.cell? p=some (.slice none 0 0)):IntV (w.setCell p v) u z:=IntV.put hp (by simp) h
theorem Box.set2 {w:World} {n:Nat} {x y:Value} (h:Box w n x y) (u v:Value):Box ((w.setCell ⟨n,0,none⟩ u).setCell ⟨n,1,none⟩ v) n u v:=by
 have h0:=h.c0;have h1:=h.c1;have h2:=h.f0;have h3:=h.f1;exact ⟨by simp [h0,go_sem],by simp [h1,go_sem],by simp [h2,go_sem],by simp [h3,go_sem]⟩
theorem IntV.small {w:World} {v:Value} {z:Int} (h:IntV w v z):z.natAbs < Bi.Big:=by
 obtain ⟨_,_,_,_,_,_,_,hB,_⟩:=h;exact hB.out
theorem ResK.fits {w:World} {z:Int} {v:Value} {k:Int} (h:ResK w z v k) (hz:z.natAbs < Bi.Big):k=0∧IntV w v z:=by
 rcases h with ⟨_,h2,h3⟩ | ⟨h1,_⟩
 ·exact ⟨h2,h3⟩
 ·exact absurd hz h1
theorem gcd_small {x y:Int} (hx:x.natAbs < Bi.Big) (hy:y.natAbs < Bi.Big):(((Int.gcd x y:Nat):Int)).natAbs < Bi.Big:=by
 rw [Int.natAbs_natCast];exact gcd_big hx hy
theorem Cmp_eq (a b:Value) (x y c:Int) (w:World) (hc:Hid (cmpZ x y=c)) (ha:IntV w a x) (hb:IntV w b y) (hE:Env w) :
  Calls Tryz.prog 54 #[a,b] w fun e w' => e=.returned (.int .i64 c)∧Below w.heap.size w w':=by
 rw [← hc.out]; exact Cmp_any a b x y w ha hb hE
end Go.Proofs.YtaedmaifkfhpfaaGreatDoor
namespace Go
open Go.RowKit
section
variable {P : Program} {ops : Array Oper} {Q : Exit → Act → World → Prop} {md : Region.Mode}
def AllL (L:Nat→Prop):List Nat→Prop
 | [] => True
 | d :: r => L d∧AllL L r
theorem AllL.mem {L:Nat→Prop}:∀ {l:List Nat},(∀ d∈l,L d)→AllL L l
 | [],_ => trivial
 | d :: r,h => ⟨h d (by simp),AllL.mem fun x hx => h x (by simp [hx])⟩
def waits (md:Region.Mode) (o:Oper):List Nat:=o.after.toList.filterMap fun e => if Region.binds md e then some e.on else none
def topo (md:Region.Mode) (ops:Array Oper):Bool:=(List.range ops.size).all fun i => ((ops[i]?).map fun o => (waits md o).all (fun d => decide (d < i))).getD true
def EachOp (p:Nat→Oper→Prop):Nat→List Oper→Prop
 | _,[] => True
 | k,o :: r => p k o∧EachOp p (k + 1) r
theorem EachOp.get {p:Nat→Oper→Prop}:∀ {l:List Oper} {k i:Nat} {o:Oper},EachOp p k l→l[i]?=some o→p (k + i) o
 | [],_,_,_,_,h => by simp at h
 | x :: r,k,0,o,h,h' => by simp at h'; subst h'; exact h.1
 | x :: r,k,i + 1,o,h,h' => by
  have:=EachOp.get (k:=k + 1) (i:=i) h.2 (by simpa using h');rw [show k + (i + 1)=k + 1 + i by omega]; exact this
def On (listed:Array Bool) (i:Nat):Prop:=listed.getD i false=true
theorem left_set:∀ (l:List Bool) (i:Nat),l[i]?=some false→((l.set i true).filter (fun b => !b)).length + 1=(l.filter (fun b => !b)).length
 | [],_,h => by simp at h
 | x :: r,0,h => by simp at h; subst h; simp
 | x :: r,i + 1,h => by
  have:=left_set r i (by simpa using h)
  cases x <;> simp <;> omega
theorem left_none:∀ (l:List Bool),(l.filter (fun b => !b)).length=0→∀ i,i < l.length→l[i]?=some true
 | [],_,i,h => by simp at h
 | x :: r,h,i,hi => by
  cases x
  ·simp at h
  ·cases i with
   | zero => rfl
   | succ i => simpa using left_none r (by simpa using h) i (by simpa using hi)
theorem mem_waits {o:Oper} {d:Nat}:d∈waits md o↔∃ e∈o.after,Region.binds md e=true∧e.on=d:=by
 unfold waits;simp only [List.mem_filterMap,Array.mem_toList_iff]
 constructor
 ·rintro ⟨e,he,h⟩
  cases hb:Region.binds md e <;> simp [hb] at h
  exact ⟨e,he,hb,h⟩
 ·rintro ⟨e,he,hb,h⟩;exact ⟨e,he,by simp [hb,h]⟩
theorem topo_lt (ht:topo md ops=true) {i:Nat} {o:Oper} (ho:ops[i]?=some o) {d:Nat} (hd:d∈waits md o):d < i:=by
 have hlt:i < ops.size:=(Array.getElem?_eq_some_iff.1 ho).1;have:=(List.all_eq_true.1 ht) i (by simpa using hlt);rw [ho] at this;simp at this;exact this d hd
theorem wpAny_flow {I:(Nat→Prop)→Act→World→Prop} (ht:topo md ops=true)
  (hs:EachOp (fun i o => ∀ L a w,AllL L (waits md o)→¬ L i→I L a w→wpOp P ops Q i (I (fun j => j=i∨L j)) a w) 0 ops.toList)
  (he:∀ L a w,(∀ i,i < ops.size→L i)→I L a w→Q .normal a w) :
  ∀ (fuel:Nat) (listed:Array Bool) (a:Act) (w:World),listed.size=ops.size→(listed.toList.filter (fun b => !b)).length≤fuel→I (On listed) a w→wpAny P md ops Q fuel listed a w:=by
 have all:∀ (listed:Array Bool),listed.size=ops.size→Region.ready md ops listed=[]→∀ i,i < ops.size→On listed i:=by
  intro listed hsz hr i
  induction i using Nat.strongRecOn with
  | ind i ih =>
   intro hi
   cases hb:listed.getD i false with
   | true => exact hb
   | false =>
    exfalso
    have:i∈Region.ready md ops listed:=by
     rw [mem_ready];refine ⟨?_,ops[i],by simp [hi],?_⟩
     ·have:i < listed.size:=by omega
      simp [this] at hb ⊢; exact hb
     ·intro e he hbe;have hlt:=topo_lt (md:=md) ht (i:=i) (o:=ops[i]) (by simp [hi]) (mem_waits.2 ⟨e,he,hbe,rfl⟩);exact ih e.on hlt (by omega)
    rw [hr] at this
    cases this
 intro fuel
 induction fuel with
 | zero =>
  intro listed a w hsz hl h;have hall:∀ i,i < ops.size→On listed i:=by
   intro i hi;have:=left_none listed.toList (by omega) i (by simpa [hsz] using hi);unfold On;have hi':i < listed.size:=by omega
   simp [hi'] at this ⊢;exact this
  refine ⟨?_,he _ a w hall h⟩
  cases hr:Region.ready md ops listed with
  | nil => rfl
  | cons x r =>
   have hx:x∈Region.ready md ops listed:=by rw [hr]; simp
   rw [mem_ready] at hx;obtain ⟨h0,o,ho,_⟩:=hx;have hlt:x < ops.size:=(Array.getElem?_eq_some_iff.1 ho).1;have:=hall x hlt;unfold On at this;have hi':x < listed.size:=by omega
   simp [hi'] at this h0;rw [this] at h0; cases h0
 | succ fuel ih =>
  intro listed a w hsz hl h;refine ⟨fun hr => he _ a w (all listed hsz hr) h,fun i hi => ?_⟩;rw [mem_ready] at hi;obtain ⟨h0,o,ho,hw⟩:=hi;have hlt:i < ops.size:=(Array.getElem?_eq_some_iff.1 ho).1;have hi':i < listed.size:=by omega
  have hget:listed.toList[i]?=some false:=by
   simp [hi'] at h0 ⊢; exact h0
  have h1:=EachOp.get (i:=i) (o:=o) hs (by simpa using ho);rw [Nat.zero_add] at h1;have h2:=h1 (On listed) a w (AllL.mem fun d hd => by
   obtain ⟨e,he1,hb,rfl⟩:=mem_waits.1 hd;exact hw e he1 hb) (by unfold On; simp [hi'] at h0 ⊢; exact h0) h
  refine wpOp_mono (fun a' w' h3 => ih _ a' w' (by simpa using hsz) ?_ ?_) h2
  ·have:=left_set listed.toList i hget;rw [Array.toList_setIfInBounds];omega
  ·have:(fun j => j=i∨On listed j)=On (listed.setIfInBounds i true):=by
    funext j
    apply propext
    unfold On
    by_cases hji:j=i
    ·subst hji; simp [hi']
    ·rw [getD_set_ne false (Ne.symm hji)]; simp [hji]
   rw [← this]; exact h3
def ovr (t:Array Value) (T:Nat→Value):List Nat→Array Value
 | [] => t
 | d :: r => (ovr t T r).setIfInBounds d (T d)
def upd (T:Nat→Value) (d:Nat) (v:Value):Nat→Value:=fun k => if k=d then v else T k
def updO (T:Nat→Value) (d:Option Nat) (v:Value):Nat→Value :=
 match d with
 | none => T
 | some d => upd T d v
theorem ovr_notin (t:Array Value) (T:Nat→Value) (d:Nat) (v:Value):∀ (l:List Nat),d ∉ l→ovr t (upd T d v) l=ovr t T l
 | [],_ => rfl
 | x :: r,h => by
  simp only [ovr];rw [ovr_notin t T d v r (fun h' => h (by simp [h']))];have:x ≠ d:=fun e => h (by simp [e])
  simp [upd,this]
theorem ovr_set (t:Array Value) (T:Nat→Value) (d:Nat) (v:Value):∀ (l:List Nat),d∈l→(ovr t T l).setIfInBounds d v=ovr t (upd T d v) l
 | [],h => by simp at h
 | x :: r,h => by
  simp only [ovr]
  by_cases hx:x=d
  ·subst hx
   by_cases hr:x∈r
   ·rw [← ovr_set t T x v r hr]; simp [upd]
   ·rw [ovr_notin t T x v r hr]; simp [upd]
  ·have hr:d∈r:=by simpa [Ne.symm hx] using h
   rw [Array.setIfInBounds_comm _ _ hx,ovr_set t T d v r hr];simp [upd,hx]
theorem ovr_self (t:Array Value):∀ (l:List Nat),ovr t (fun k => t.getD k undef) l=t
 | [] => rfl
 | x :: r => by
  simp only [ovr];rw [ovr_self t r]
  apply Array.ext
  ·simp
  ·intro i h1 h2;rw [Array.getElem_setIfInBounds]
   ·by_cases hx:x=i
    ·subst hx; simp [h2]
    ·simp [hx]
   ·exact h2
def dsts (ops:Array Oper):List Nat:=ops.toList.filterMap (·.dst)
theorem wp_region_flow {id:Nat} {a:Act} {w:World} (J:(Nat→Prop)→(Nat→Value)→World→Prop) (ds:List Nat)
  (hm:P.follows .mixedOrders=true) (ht:topo .any ops=true) (hd:dsts ops=ds)
  (h0:∀ T,J (fun _ => False) T { w with drawn:=w.drawn + 1 })
  (hs:EachOp (fun i o => ∀ (L:Nat→Prop) (T:Nat→Value) (w:World),AllL L (waits .any o)→¬ L i→J L T w →
   ∀ K:Act→World→Prop,(∀ v w',J (fun j => j=i∨L j) (updO T o.dst v) w'→K (({ a with tmps:=ovr a.tmps T ds }:Act).put o.dst v) w') →
    wpOp P ops Q i K { a with tmps:=ovr a.tmps T ds } w) 0 ops.toList)
  (he:∀ T w,J (fun i => i < ops.size) T w→Q .normal { a with tmps:=ovr a.tmps T ds } w)
  (hmono:∀ L T w,(∀ i,i < ops.size→L i)→J L T w→J (fun i => i < ops.size) T w):(Code.region id ops true).wp P Q a w:=by
 refine wp_region_any hm (wpAny_flow (I:=fun L a' w' => ∃ T,a'={ a with tmps:=ovr a.tmps T ds }∧J L T w') ht ?_ ?_ _ _ _ _ (by simp) (by simp) ?_)
 ·have key:∀ (l:List Oper) (k:Nat),(∀ o∈l,∀ d,o.dst=some d→d∈ds) →
    EachOp (fun i o => ∀ (L:Nat→Prop) (T:Nat→Value) (w:World),AllL L (waits .any o)→¬ L i→J L T w →
     ∀ K:Act→World→Prop,(∀ v w',J (fun j => j=i∨L j) (updO T o.dst v) w'→K (({ a with tmps:=ovr a.tmps T ds }:Act).put o.dst v) w') →
      wpOp P ops Q i K { a with tmps:=ovr a.tmps T ds } w) k l →
    EachOp (fun i o => ∀ L a' w,AllL L (waits .any o)→¬ L i→(∃ T,a'={ a with tmps:=ovr a.tmps T ds }∧J L T w) →
     wpOp P ops Q i (fun a' w' => ∃ T,a'={ a with tmps:=ovr a.tmps T ds }∧J (fun j => j=i∨L j) T w') a' w) k l:=by
   intro l
   induction l with
   | nil => intro k _ _; trivial
   | cons o r ih =>
    intro k hin h;refine ⟨?_,ih (k + 1) (fun o ho => hin o (by simp [ho])) h.2⟩;rintro L a' w hL hn ⟨T,rfl,hJ⟩;refine h.1 L T w hL hn hJ _ (fun v w' hJ' => ⟨updO T o.dst v,?_,hJ'⟩)
    cases hdo:o.dst with
    | none => rfl
    | some d =>
     have:=hin o (by simp) d hdo;simp only [Act.put,updO];rw [ovr_set _ _ _ _ _ this]
  refine key ops.toList 0 ?_ hs;intro o ho d hdo;rw [← hd];exact List.mem_filterMap.2 ⟨o,ho,hdo⟩
 ·rintro L a' w hL ⟨T,rfl,hJ⟩;exact he T w (hmono L T w hL hJ)
 ·refine ⟨fun k => a.tmps.getD k undef,by rw [ovr_self],?_⟩;have:On (Array.replicate ops.size false)=fun _ => False:=by
   funext i
   unfold On
   by_cases h:i < ops.size <;> simp [h]
  rw [this];exact h0 _
theorem wO {i:Nat} {o:Oper} {K:Act→World→Prop} {a:Act} {w:World} (hi:ops[i]?=some o) (hw:Region.wanted o (yielded ops a.tmps)=true) (h:o.wp P a w K Q):wpOp P ops Q i K a w:=by
 unfold Go.wpOp;simp only [hi,hw,if_true];exact .inl h
def AllF (Fs:List (World→Value→Prop)) (ds:List Nat) (T:Nat→Value) (W:World):List Nat→Prop
 | [] => True
 | k :: r => (Fs.getD k fun _ _ => True) W (T (ds.getD k 0))∧AllF Fs ds T W r
theorem AllF.mem {Fs:List (World→Value→Prop)} {ds:List Nat} {T:Nat→Value} {W:World}:∀ {l:List Nat},(∀ k∈l,(Fs.getD k fun _ _ => True) W (T (ds.getD k 0)))→AllF Fs ds T W l
 | [],_ => trivial
 | k :: r,h => ⟨h k (by simp),AllF.mem fun x hx => h x (by simp [hx])⟩
theorem AllF.of {Fs:List (World→Value→Prop)} {ds:List Nat} {T:Nat→Value} {W:World}:∀ {l:List Nat} (k:Nat),AllF Fs ds T W l→k∈l→(Fs.getD k fun _ _ => True) W (T (ds.getD k 0))
 | [],_,_,h => by simp at h
 | x :: r,k,h,hk => by
  rcases List.mem_cons.1 hk with rfl | hk
  ·exact h.1
  ·exact AllF.of k h.2 hk
theorem AllF.at {Fs:List (World→Value→Prop)} {ds:List Nat} {T:Nat→Value} {W:World} {n:Nat} (k:Nat) (h:AllF Fs ds T W (List.range n)) (hk:k < n):(Fs.getD k fun _ _ => True) W (T (ds.getD k 0)) :=
 AllF.of k h (by simpa using hk)
def StayB (F:World→Value→Prop):Prop:=∀ (W W':World) (v:Value),F W v→Below W.heap.size W W'→F W' v
theorem sV (u:Value):StayB (fun _ v => v=u):=fun _ _ _ h _ => h
def AllS:List (World→Value→Prop)→Prop
 | [] => True
 | F :: r => StayB F∧AllS r
theorem AllS.get:∀ {l:List (World→Value→Prop)} (k:Nat),AllS l→StayB (l.getD k fun _ _ => True)
 | [],_,_ => fun _ _ _ _ _ => trivial
 | _ :: _,0,h => h.1
 | _ :: r,k + 1,h => AllS.get (l:=r) k h.2
theorem nodup_getD:∀ {ds:List Nat} (_:ds.Nodup) {i k:Nat} (_:i < ds.length) (_:k < ds.length) (_:ds.getD i 0=ds.getD k 0),i=k:=by
 intro ds hnd i k hi hk h;rw [List.getD_eq_getElem?_getD,List.getD_eq_getElem?_getD,gE hi,gE hk] at h;simp only [Option.getD_some] at h;exact (List.getElem_inj hnd).1 h
theorem wp_region_vals {id:Nat} {a:Act} {w wx:World} (Fs:List (World→Value→Prop)) (ds:List Nat)
  (hm:P.follows .mixedOrders=true) (ht:topo .any ops=true) (hd:ops.toList.map (·.dst)=ds.map some) (hnd:ds.Nodup)
  (hw:Below wx.heap.size wx w) (hS:AllS Fs)
  (hs:EachOp (fun i o => ∀ (T:Nat→Value) (W:World),Below wx.heap.size wx W→AllF Fs ds T W (waits .any o) →
   ∀ K:Act→World→Prop,(∀ v W',Below W.heap.size W W'→(Fs.getD i fun _ _ => True) W' v→K (({ a with tmps:=ovr a.tmps T ds }:Act).put o.dst v) W') →
    wpOp P ops Q i K { a with tmps:=ovr a.tmps T ds } W) 0 ops.toList)
  (he:∀ T W,Below wx.heap.size wx W→AllF Fs ds T W (List.range ops.size)→Q .normal { a with tmps:=ovr a.tmps T ds } W):(Code.region id ops true).wp P Q a w:=by
 have hlen:ds.length=ops.size:=by
  have:=congrArg List.length hd;simp at this;exact this.symm
 have hdst:∀ (i:Nat) (o:Oper),ops[i]?=some o→i < ds.length∧o.dst=some (ds.getD i 0):=by
  intro i o ho;have hi:i < ops.size:=(Array.getElem?_eq_some_iff.1 ho).1;refine ⟨by omega,?_⟩;have h1:(ops.toList.map (·.dst))[i]?=some o.dst:=by simp [ho]
  rw [hd,List.getElem?_map,gE (by omega)] at h1;simp only [Option.map_some,Option.some.injEq] at h1;rw [← h1,List.getD_eq_getElem?_getD,gE (by omega)]
  rfl
 refine wp_region_flow (fun L T W => Below wx.heap.size wx W∧∀ k,k < ops.size→L k→(Fs.getD k fun _ _ => True) W (T (ds.getD k 0))) ds hm ht ?_ (fun T => ⟨hw.drew,fun k _ h => h.elim⟩) ?_ ?_ ?_
 ·unfold dsts;have:∀ (l:List Oper) (ds:List Nat),l.map (·.dst)=ds.map some→l.filterMap (·.dst)=ds:=by
   intro l
   induction l with
   | nil => intro ds h; cases ds <;> simp_all
   | cons o r ih =>
    intro ds h
    cases ds with
    | nil => simp at h
    | cons d ds =>
     simp only [List.map_cons,List.cons.injEq] at h;rw [List.filterMap_cons_some h.1,ih ds h.2]
  exact this _ _ hd
 ·have key:∀ (l:List Oper) (k:Nat),(∀ j o,l[j]?=some o→ops[k + j]?=some o) →
    EachOp (fun i o => ∀ (T:Nat→Value) (W:World),Below wx.heap.size wx W→AllF Fs ds T W (waits .any o) →
     ∀ K:Act→World→Prop,(∀ v W',Below W.heap.size W W'→(Fs.getD i fun _ _ => True) W' v→K (({ a with tmps:=ovr a.tmps T ds }:Act).put o.dst v) W') →
      wpOp P ops Q i K { a with tmps:=ovr a.tmps T ds } W) k l →
    EachOp (fun i o => ∀ (L:Nat→Prop) (T:Nat→Value) (w:World),AllL L (waits .any o)→¬ L i→(Below wx.heap.size wx w∧∀ k,k < ops.size→L k→(Fs.getD k fun _ _ => True) w (T (ds.getD k 0))) →
     ∀ K:Act→World→Prop,(∀ v w',(Below wx.heap.size wx w'∧∀ k,k < ops.size→(k=i∨L k)→(Fs.getD k fun _ _ => True) w' (updO T o.dst v (ds.getD k 0)))→K (({ a with tmps:=ovr a.tmps T ds }:Act).put o.dst v) w') →
      wpOp P ops Q i K { a with tmps:=ovr a.tmps T ds } w) k l:=by
   intro l
   induction l with
   | nil => intro k _ _; trivial
   | cons o r ih =>
    intro k hin h;refine ⟨?_,ih (k + 1) (fun j o' ho => by have:=hin (j + 1) o' (by simpa using ho); rw [show k + 1 + j=k + (j + 1) by omega]; exact this) h.2⟩;rintro L T W hL hn ⟨hb,hJ⟩ K hK;have hko:ops[k]?=some o:=by simpa using hin 0 o rfl
    obtain ⟨hkl,hkd⟩:=hdst k o hko;have hall:∀ d,d∈waits .any o→L d:=by
     have:∀ l:List Nat,AllL L l→∀ d,d∈l→L d:=by
      intro l
      induction l with
      | nil => intro _ d hd; simp at hd
      | cons x r ih =>
       intro h d hd;rcases List.mem_cons.1 hd with rfl | hd
       ·exact h.1
       ·exact ih h.2 d hd
     exact this _ hL
    refine h.1 T W hb (AllF.mem fun d hdw => hJ d (Nat.lt_trans (topo_lt ht hko hdw) (by omega)) (hall d hdw)) K fun v W' hb' hv => hK v W' ⟨hb.trans (hb'.mono hb.size),?_⟩
    rintro j hj (rfl | hLj)
    ·rw [hkd];simp only [updO,upd,if_true];exact hv
    ·have hne:ds.getD j 0 ≠ ds.getD k 0:=fun e => by
      have:=nodup_getD hnd (by omega) hkl e;subst this;exact hn hLj
     rw [hkd];simp only [updO,upd,if_neg hne];exact hS.get j _ _ _ (hJ j hj hLj) hb'
  exact key ops.toList 0 (fun j o ho => by simpa using ho) hs
 ·rintro T W ⟨hb,hJ⟩;exact he T W hb (AllF.mem fun k hk => hJ k (by simpa using hk) (by simpa using hk))
 ·rintro L T W hL ⟨hb,hJ⟩;exact ⟨hb,fun k hk _ => hJ k hk (hL k hk)⟩
end
end Go
namespace Go.Proofs.YtaedmaifkfhpfaaGreatDoor
open Go.RowKit
theorem Box.putOther {w:World} {n m:Nat} {x y u v:Value} (h:Box w n x y) (hne:n ≠ m):Box ((w.setCell ⟨m,0,none⟩ u).setCell ⟨m,1,none⟩ v) n x y:=by
 obtain ⟨h1,h2,h3,h4⟩:=h;have hne':=Ne.symm hne;refine ⟨?_,?_,?_,?_⟩
 ·rw [World.cell?_setCell_other _ _ _ _ (fun e => hne' (congrArg Addr.block e)),World.cell?_setCell_other _ _ _ _ (fun e => hne' (congrArg Addr.block e))]; exact h1
 ·rw [World.cell?_setCell_other _ _ _ _ (fun e => hne' (congrArg Addr.block e)),World.cell?_setCell_other _ _ _ _ (fun e => hne' (congrArg Addr.block e))]; exact h2
 ·simp [go_sem,h3]
 ·simp [go_sem,h4]
structure Stay (R:World→Value→Prop):Prop where
 mono:∀ {W W':World} {v:Value},R W v→Below W.heap.size W W'→R W' v
 put:∀ {W:World} {n:Nat} {v x y:Value},R W v→Box W n (.bool false) (.slice none 0 0)→R ((W.setCell ⟨n,0,none⟩ x).setCell ⟨n,1,none⟩ y) v
def Slot (W:World) (base:Nat) (R:World→Value→Prop) (st:Prop) (p:Value):Prop :=
 ∃ b,p=.pointer (some ⟨b,0,none⟩)∧base≤b∧b < W.heap.size∧(st→∃ x y,Box W b x y∧R W (.agg #[x,y]))∧(¬ st→Box W b (.bool false) (.slice none 0 0))
theorem Slot.mono {W W':World} {base:Nat} {R:World→Value→Prop} {st:Prop} {p:Value} (hR:Stay R) (h:Slot W base R st p) (hb:Below W.heap.size W W'):Slot W' base R st p:=by
 obtain ⟨b,e,h1,h2,h3,h4⟩:=h;exact ⟨b,e,h1,Nat.lt_of_lt_of_le h2 hb.size,fun s => by obtain ⟨x,y,B,hr⟩:=h3 s; exact ⟨x,y,B.mono hb,hR.mono hr hb⟩,fun s => (h4 s).mono hb⟩
theorem Slot.congr {W:World} {base:Nat} {R:World→Value→Prop} {st st':Prop} {p:Value} (h:Slot W base R st p) (e:st↔st'):Slot W base R st' p:=by
 have:st=st':=propext e;rw [← this]; exact h
theorem Slot.new {base:Nat} {R:World→Value→Prop} {st:Prop} (W:World) (hn:¬ st) (t:TypeId) (hB:base≤W.heap.size):Slot (W.alloc (.cells #[.bool false,.slice none 0 0] t)) base R st (.pointer (some ⟨W.heap.size,0,none⟩)) :=
 ⟨_,rfl,hB,by simp,fun s => absurd s hn,fun _ => Box.new W _ _ t⟩
theorem Slot.open {W:World} {base:Nat} {R:World→Value→Prop} {st:Prop} {p:Value} (h:Slot W base R st p) (hn:¬ st):∃ b,p=.pointer (some ⟨b,0,none⟩)∧base≤b∧b < W.heap.size∧Box W b (.bool false) (.slice none 0 0):=by
 obtain ⟨b,e,h1,h2,_,h4⟩:=h;exact ⟨b,e,h1,h2,h4 hn⟩
theorem Slot.stored {W:World} {base m:Nat} {R:World→Value→Prop} {st':Prop} {x y:Value} (hR:Stay R) (h1:base≤m) (hB:Box W m (.bool false) (.slice none 0 0)) (hs:st') (hr:R W (.agg #[x,y])):Slot ((W.setCell ⟨m,0,none⟩ x).setCell ⟨m,1,none⟩ y) base R st' (.pointer (some ⟨m,0,none⟩)) :=
 ⟨m,rfl,h1,by simpa using hB.lt,fun _ => ⟨x,y,hB.set2 x y,hR.put hr hB⟩,fun s => absurd hs s⟩
def SomeI (W:World) (v:Value):Prop:=∃ z,IntV W v z
theorem SomeI.parts {W:World} {v:Value} (h:SomeI W v):∃ (ng:Bool) (ao:Option Addr) (n cap:Nat),v=.agg #[.bool ng,.slice ao n cap]:=by obtain ⟨z,h⟩:=h; exact h.parts
end Go.Proofs.YtaedmaifkfhpfaaGreatDoor
namespace Bi
open Go.Lib (decDigits nDigits)
def lastD:Nat→Nat→List UInt8
 | 0,_ => []
 | k + 1,x => lastD k (x / 10) ++ [UInt8.ofNat (48 + x % 10)]
theorem lastD_length:∀ (k x:Nat),(lastD k x).length=k
 | 0,_ => rfl
 | k + 1,x => by simp [lastD,lastD_length k]
theorem dec_split:∀ (k n x:Nat),0 < n→x < 10 ^ k→decDigits (n * 10 ^ k + x)=decDigits n ++ lastD k x
 | 0,n,x,_,h => by
  have:x=0:=by simpa using h
  subst this;simp [lastD]
 | k + 1,n,x,hn,h => by
  have h1:10≤n * 10 ^ (k + 1):=by
   have h2:1≤10 ^ k:=Nat.one_le_pow _ _ (by decide);have h3:1 * 10≤n * 10 ^ (k + 1):=Nat.mul_le_mul hn (by rw [Nat.pow_succ]; omega);omega
  rw [decDigits,dif_neg (by omega)];have e1:(n * 10 ^ (k + 1) + x) / 10=n * 10 ^ k + x / 10:=by
   rw [Nat.pow_succ,← Nat.mul_assoc];omega
  have e2:(n * 10 ^ (k + 1) + x) % 10=x % 10:=by
   rw [Nat.pow_succ,← Nat.mul_assoc];omega
  rw [e1,e2,dec_split k n (x / 10) hn (by rw [Nat.pow_succ] at h; omega),List.append_assoc]
  rfl
theorem lastD_zero:∀ (k:Nat),lastD k 0=List.replicate k 48
 | 0 => rfl
 | k + 1 => by
  rw [lastD,Nat.zero_div,lastD_zero k,List.replicate_succ']
  rfl
theorem lastD_dec:∀ (k x:Nat),1≤k→x < 10 ^ k→List.replicate (k - nDigits x) 48 ++ decDigits x=lastD k x
 | 0,_,h,_ => by omega
 | k + 1,x,_,h => by
  by_cases hx:x < 10
  ·rw [Go.Lib.nDigits_small hx,Go.Lib.decDigits_one hx,Nat.add_sub_cancel,lastD,Nat.div_eq_of_lt hx,lastD_zero,Nat.mod_eq_of_lt hx]
  ·have hk:1≤k:=by
    apply Nat.le_of_not_lt; intro h0
    have:k=0:=by omega
    subst this;simp at h; omega
   rw [Go.Lib.nDigits_big hx,decDigits,dif_neg hx,Nat.add_sub_add_right,← List.append_assoc,lastD_dec k (x / 10) hk (by rw [Nat.pow_succ] at h; omega)]
   rfl
theorem lastD_front:∀ (k x:Nat),lastD (k + 1) x=UInt8.ofNat (48 + x / 10 ^ k % 10) :: lastD k x
 | 0,x => by simp [lastD]
 | k + 1,x => by
  rw [lastD,lastD_front k (x / 10)];have:x / 10 / 10 ^ k=x / 10 ^ (k + 1):=by rw [Nat.div_div_eq_div_mul,Nat.pow_succ,Nat.mul_comm]
  rw [this,List.cons_append]
  rfl
theorem lastD_cat:∀ (b a x y:Nat),x < 10 ^ b→lastD (a + b) (y * 10 ^ b + x)=lastD a y ++ lastD b x
 | 0,a,x,y,h => by
  have:x=0:=by simpa using h
  subst this;simp [lastD]
 | b + 1,a,x,y,h => by
  have e1:(y * 10 ^ (b + 1) + x) / 10=y * 10 ^ b + x / 10:=by
   rw [Nat.pow_succ,← Nat.mul_assoc]; omega
  have e2:(y * 10 ^ (b + 1) + x) % 10=x % 10:=by
   rw [Nat.pow_succ,← Nat.mul_assoc]; omega
  show lastD (a + b + 1) _=_
  rw [lastD,e1,e2,lastD_cat b a (x / 10) y (by rw [Nat.pow_succ] at h; omega),List.append_assoc]
  rfl
theorem dec_last {k x:Nat} (h1:x / 10 ^ k=0) (h2:k=0→x=0) (h3:k ≠ 0→x / 10 ^ (k - 1) ≠ 0) (hx:x ≠ 0):decDigits x=lastD k x:=by
 have hk:1≤k:=by
  apply Nat.le_of_not_lt; intro h
  exact hx (h2 (by omega))
 have hlt:x < 10 ^ k:=by
  have:=(Nat.div_eq_zero_iff_lt (Nat.pow_pos (by decide):0 < 10 ^ k)).1 h1;exact this
 have hge:10 ^ (k - 1)≤x:=by
  apply Nat.le_of_not_lt; intro h
  exact h3 (by omega) (Nat.div_eq_of_lt h)
 obtain ⟨j,rfl⟩:∃ j,k=j + 1:=⟨k - 1,by omega⟩;have hn:=Go.Lib.nDigits_unique j x (by simpa using hge) hlt;rw [← lastD_dec (j + 1) x (by omega) hlt,hn];simp
theorem dec_limb {n x:Nat} (hn:0 < n) (hx:x < 1000000000):decDigits (x + 1000000000 * n)=decDigits n ++ (List.replicate (9 - nDigits x) 48 ++ decDigits x):=by
 rw [lastD_dec 9 x (by omega) (by simpa using hx),← dec_split 9 n x hn (by simpa using hx)]
 congr 1
 omega
theorem low_limb {k v x:Nat} (hv:v < 1000000000 ^ k):lastD 9 x ++ lastD (9 * k) v=lastD (9 * (k + 1)) (v + 1000000000 ^ k * x):=by
 rw [pow9] at hv ⊢;rw [show 9 * (k + 1)=9 + 9 * k by omega,← lastD_cat (9 * k) 9 v x hv]
 congr 1
 rw [Nat.mul_comm,Nat.add_comm]
theorem dec_low {k v x:Nat} (hv:v < 1000000000 ^ k) (hx:0 < x):decDigits x ++ lastD (9 * k) v=decDigits (v + 1000000000 ^ k * x):=by
 rw [pow9] at hv ⊢;rw [← dec_split (9 * k) x v hx hv]
 congr 1
 rw [Nat.mul_comm,Nat.add_comm]
theorem drop_cons {L:List Nat} {i x:Nat} (hi:i < L.length) (hx:L.getD i 0=x):val (L.drop i)=x + 1000000000 * val (L.drop (i + 1)):=by
 rw [List.drop_eq_getElem_cons hi];rw [List.getD_eq_getElem?_getD,gE hi] at hx;simp only [Option.getD_some] at hx;rw [hx];simp [val]
theorem drop_pos {n:Nat} {L:List Nat} (h:L=limbs n) {j:Nat} (hj:j < L.length):0 < val (L.drop j):=by
 rcases List.eq_nil_or_concat L with h0 | ⟨r,x,h0⟩
 ·subst h0; simp at hj
 ·rw [List.concat_eq_append] at h0;subst h0;obtain ⟨_,hx,_⟩:=dlen_limbs h;rw [List.drop_append_of_le_length (by simp at hj; omega),val_snoc];have:0 < 1000000000 ^ (r.drop j).length * x:=Nat.mul_pos (Nat.pow_pos (by decide)) (by omega);omega
def outT (L:List Nat) (j:Nat):List UInt8:=if j < L.length then decDigits (val (L.drop j)) else []
theorem outT_len {L:List Nat} (h:val L < Big) (j:Nat):(outT L j).length≤300:=by
 unfold outT
 split
 ·rw [Go.Lib.decDigits_length];have h1:val (L.drop j)≤val L:=by
   clear h
   induction j generalizing L with
   | zero => simp
   | succ i ih =>
    cases L with
    | nil => simp
    | cons x r =>
     have:=ih (L:=r) (by rename_i h; simpa using h);simp only [List.drop_succ_cons,val];omega
  by_cases h0:val (L.drop j)=0
  ·rw [h0,Go.Lib.nDigits_small (by decide)]; decide
  ·have h3:∀ a k:Nat,k=a + a→10 ^ a * 10 ^ a=10 ^ k:=fun a k hk => by rw [hk,Nat.pow_add]
   obtain ⟨k,hk⟩:∃ k:Nat,k=300:=⟨_,rfl⟩;rw [← hk];exact (nd_le h0).2 (Nat.lt_of_le_of_lt h1 (Nat.lt_of_lt_of_eq h (h3 150 k (by omega))))
 ·simp
theorem outT_last {L:List Nat} {j z:Nat} (hj:j + 1=L.length) (hz:L.getD j 0=z):outT L j=outT L (j + 1) ++ decDigits z:=by
 unfold outT;rw [if_pos (by omega),if_neg (by omega),drop_cons (by omega) hz,List.drop_eq_nil_of_le (by omega)];simp [val]
theorem outT_step {n:Nat} {L:List Nat} (h:L=limbs n) {j z:Nat} (hj:j + 1 < L.length) (hz:L.getD j 0=z) (hz9:z < 1000000000):outT L j=outT L (j + 1) ++ (List.replicate (9 - nDigits z) 48 ++ decDigits z):=by
 unfold outT;rw [if_pos (by omega),if_pos hj,drop_cons (by omega) hz,dec_limb (drop_pos h hj) hz9]
def refT (L:List Nat) (i:Nat):List UInt8:=if i < L.length then lastD (9 * i) (val (L.take i)) else decDigits (val L)
theorem take_val {L:List Nat} {i z:Nat} (hi:i < L.length) (hz:L.getD i 0=z):val (L.take (i + 1))=val (L.take i) + 1000000000 ^ i * z:=by
 rw [List.getD_eq_getElem?_getD,gE hi] at hz;simp only [Option.getD_some] at hz;rw [List.take_succ_eq_append_getElem hi,val_snoc,hz,List.length_take,Nat.min_eq_left (by omega)]
theorem take_lt {L:List Nat} (ho:Ok L) {i:Nat} (hi:i≤L.length):val (L.take i) < 1000000000 ^ i:=by
 have h:Ok (L.take i):=fun x hx => ho x (List.mem_of_mem_take hx)
 have:=val_lt h;rw [List.length_take,Nat.min_eq_left hi] at this;exact this
theorem refT_step {L:List Nat} (ho:Ok L) {i z:Nat} (hi:i + 1 < L.length) (hz:L.getD i 0=z):lastD 9 z ++ refT L i=refT L (i + 1):=by
 unfold refT;rw [if_pos (by omega),if_pos hi,low_limb (take_lt ho (by omega)),take_val (by omega) hz]
theorem refT_last {n:Nat} {L:List Nat} (h:L=limbs n) (ho:Ok L) {i z k:Nat} (hi:i + 1=L.length) (hz:L.getD i 0=z) (h1:z / 10 ^ k=0) (h3:k=0∨z / 10 ^ (k - 1) ≠ 0):lastD k z ++ refT L i=refT L (i + 1):=by
 have hz0:z ≠ 0:=by
  have h2:=drop_pos h (j:=i) (by omega);rw [drop_cons (by omega) hz,List.drop_eq_nil_of_le (by omega)] at h2;simp [val] at h2;omega
 have hk:k=0→z=0:=by
  rintro rfl
  simpa using h1
 unfold refT;rw [if_pos (by omega),if_neg (by omega),← dec_last h1 hk (fun hk0 => by rcases h3 with h3 | h3; exact absurd h3 hk0; exact h3) hz0,dec_low (take_lt ho (by omega)) (by omega),← take_val (by omega) hz,hi,List.take_length]
end Bi
namespace Go.Proofs.YtaedmaifkfhpfaaGreatDoor
open Go.RowKit
theorem builder_kept {T e:TypeId} {B b:Nat} {p:Value} {bs:List Value} {w w':World} (h:Lib.BuilderAtF T e B b p bs w) (hb:Below w.heap.size w w'):Lib.BuilderAtF T e B b p bs w':=by
 have hlt:=h.lt;obtain ⟨hB,v,hbk,hown,hne⟩:=h;refine ⟨hB,v,by rw [hb.block b hlt]; exact hbk,?_,hne⟩;obtain ⟨h1,h2⟩:=hown;refine ⟨h1,h2.imp id ?_⟩;rintro ⟨g,cap,cur,fz,hv,hg,hh,r⟩;have:g < w.heap.size:=by
  by_cases hb:g < w.heap.size
  ·exact hb
  ·rw [Array.getElem?_eq_none (by omega)] at hh; simp at hh
 exact ⟨g,cap,cur,fz,hv,hg,by rw [hb.block g this]; exact hh,r⟩
theorem isBuilder_kept {T e:TypeId} {B b:Nat} {bs:List Value} {w w':World} (h:Lib.IsBuilderF T e B b bs w) (hb:Below w.heap.size w w'):Lib.IsBuilderF T e B b bs w' :=
 h.imp (fun h => builder_kept h hb) (fun h => builder_kept h hb)
theorem byteCells_append (a b:List UInt8):Lib.byteCells (a ++ b)=Lib.byteCells a ++ Lib.byteCells b:=by simp [Lib.byteCells]
theorem repeat_zero (c:Nat):Lib.repeatL [48] c=List.replicate c 48:=by
 induction c with
 | zero => rfl
 | succ c ih => simp [Lib.repeatL,ih,List.replicate_succ]
theorem itoa_nat (x:Nat):Lib.itoa (x:Int)=Lib.decDigits x:=by
 unfold Lib.itoa;rw [if_neg (by omega),Int.toNat_natCast]
theorem repeat0 (c:Nat) (C:Int) (hC:C=(c:Int)) (hc:c≤1000) (w:World) :
  Calls Tryz.prog 108 #[.string ⟨#[48]⟩,.int .i64 C] w fun e w' => e=.returned (.string ⟨(List.replicate c 48).toArray⟩)∧Below w.heap.size w w':=by
 subst hC;have:=Tryz.strings_Repeat ⟨#[48]⟩ c w (by omega) (by show 1 * c≤_; omega);rw [show (⟨#[48]⟩:ByteArray).data.toList=[48] from rfl,repeat_zero] at this;exact this
theorem write_any (B:Nat) (cur s:List UInt8) (w:World) (h:Lib.IsBuilderF 77 5 B B (Lib.byteCells cur) w) (hc:cur.length≤100000) (hs:s.length≤100000) (hB:B≤w.heap.size) :
  Calls Tryz.prog 46 #[.pointer (some ⟨B,0,none⟩),.string ⟨s.toArray⟩] w fun e w' => e=.returned (.tuple #[.int .i64 s.length,.nilIface])∧Lib.IsBuilderF 77 5 B B (Lib.byteCells (cur ++ s)) w'∧Below B w w':=by
 have hsz:(⟨s.toArray⟩:ByteArray).size=s.length:=rfl;refine (Tryz.Builder_WriteString_k B B (Lib.byteCells cur) ⟨s.toArray⟩ w h (by rw [Lib.byteCells_length,hsz]; omega) hB).mono ?_;rintro e w' ⟨he,hb,hw,_⟩;rw [hsz] at he;refine ⟨he,.inr ?_,hw⟩;rw [byteCells_append];exact hb
theorem Format_any (a:Value) (x:Int) (w:World) (ha:IntV w a x) (hE:Env w) :
  Calls Tryz.prog 75 #[a] w fun e w' => e=.returned (.tuple #[.string ⟨(Lib.itoa x).toArray⟩,.int .i64 0])∧Below w.heap.size w w':=by
 obtain ⟨n1,ao1,L1,c1,rfl,Hn1,HL1,HB1,hc1,hl1,hU1⟩:=id ha;go_enter Tryz.func75,Tryz.ntmps75;go_wp2_with fail;have hbx:=bA w (.cells #[.bool n1,.slice ao1 L1.length c1] 24);have B1:=Box.new w (.bool n1) (.slice ao1 L1.length c1) 24;have hsz:(w.alloc (.cells #[.bool n1,.slice ao1 L1.length c1] 24)).heap.size=w.heap.size + 1:=by simp
 have hUx:=hU1.mono hbx;have hEx:=hE.mono hbx;clear hU1 hE ha;generalize w.alloc (.cells #[.bool n1,.slice ao1 L1.length c1] 24)=wx at *;(with_reducible refine (check1 wx _ hsz n1 ao1 L1 c1 hUx ?_ hEx).mono ?_)
 ·omega
 rintro e w1 ⟨⟨r,HR,HR2,rfl⟩,hb1⟩;obtain rfl:r=0:=HR.out.2 (validP_of x n1 L1 Hn1.out HL1.out HB1.out);clear HR HR2 hsz;have B1:=B1.mono hb1;have hU1:=hUx.mono hb1;have hE1:=hEx.mono hb1;have hbw:=bu hbx hb1;clear hUx hEx hbx hb1;have hlt:=B1.lt;have Hit:Hid (Lib.itoa x=(if n1=true then [45] else []) ++ Lib.decDigits x.natAbs):=hii (by
  unfold Lib.itoa;rw [Hn1.out]
  by_cases h:x < 0
  ·simp [h]
  ·simp [h,show x.toNat=x.natAbs by omega])
 by_cases hL:L1=[]
 ·subst hL;have hx:x.natAbs=0:=by
   have:=congrArg Bi.val HL1.out;rw [Bi.val_limbs] at this;exact this.symm
  have hx0:x=0:=by omega
  subst hx0;have hz:Hid (Lib.itoa 0=[48]):=hii (by
   unfold Lib.itoa;rw [if_neg (by decide),show Int.toNat 0=0 from rfl,Lib.decDigits_one (by decide)]
   rfl)
  obtain ⟨p0,p1,_,_⟩:=B1;clear Hit hx hU1;go_wp2;go_ret2;exact ⟨by rw [hz.out]; rfl,hbw⟩
 have hlen:1≤L1.length:=by
  have:=List.length_pos_iff.2 hL;omega
 have HV:Hid (Bi.val L1=x.natAbs):=hii (by rw [HL1.out,Bi.val_limbs]);have HOK:Hid (Bi.Ok L1):=hii (by rw [HL1.out]; exact Bi.limbs_ok _);have HLen:Hid (∀ j,(Bi.outT L1 j).length≤300):=hii (Bi.outT_len (by rw [HV.out]; exact HB1.out));clear hL;obtain ⟨pre,hpre⟩:∃ pre:List UInt8,pre=if n1=true then [45] else []:=⟨_,rfl⟩
 have HPL:pre.length≤1:=by rw [hpre]; split <;> simp
 rw [← hpre] at Hit;have HPre:=hii hpre;clear hpre;obtain ⟨p0,p1,_,_⟩:=id B1;go_upto_region 7 with fail;have HIB:=Lib.IsBuilderF.of (Lib.fresh_isBuilder 77 5 w1);have hba:=bA w1 (.cells #[.pointer none,.slice none 0 0] 77);obtain ⟨B,hB⟩:∃ B,B=w1.heap.size:=⟨_,rfl⟩;rw [← hB] at HIB ⊢;have hBw:B≤(w1.alloc (.cells #[.pointer none,.slice none 0 0] 77)).heap.size:=by rw [hB]; exact hba.size
 have hbB:Below B w1 (w1.alloc (.cells #[.pointer none,.slice none 0 0] 77)):=by rw [hB]; exact hba
 rw [← hB] at hlt;have HS:Hid (∀ W,Below B w1 W→Env W∧U W ao1 L1∧Box W w.heap.size (.bool n1) (.slice ao1 L1.length c1)∧B≤W.heap.size):=hii (fun W h => by
  have h':=h;rw [hB] at h';exact ⟨hE1.mono h',hU1.mono h',B1.mono h',by rw [hB]; exact h'.size⟩)
 have hw1:=hbw;clear hB;generalize w1.alloc (.cells #[.pointer none,.slice none 0 0] 77)=w2 at *;have B2:=B1.mono hba;clear hE1 hU1 B1 hbw p0 p1 hba;obtain ⟨p0,p1,_,_⟩:=id B2;go_upto_if 19 with fail;go_cut [] (fun wc => Lib.IsBuilderF 77 5 B B (Lib.byteCells pre) wc∧Below B w2 wc)
 case first =>
  have HP:=HPre.out
  cases n1
  ·simp only [Bool.false_eq_true,if_false] at HP;have HP':=hii HP;clear HP;go_wp2_with fail;go_meet;exact ⟨by rw [HP'.out]; exact HIB,br⟩
  ·simp only [if_true] at HP;have HP':=hii HP;clear HP;go_wp2_with fail;(with_reducible refine (Tryz.Builder_WriteByte_k B B [] 45 _ HIB (by simp) hBw).mono ?_);rintro e w3 ⟨rfl,hbl,hb3,_⟩;go_wp2_with fail;go_meet;exact ⟨by rw [HP'.out]; exact .inr hbl,hb3⟩
 case rest =>
  obtain ⟨HB0,hb3⟩:=hcut;have hb2:=hbB.trans hb3;clear hb3 hbB HIB hBw B2 p0 p1;obtain ⟨hEc,hUc,hBc,hsc⟩:=HS.out wc hb2;obtain ⟨p0,p1,_,_⟩:=hBc;clear hEc hUc hsc;go_wp2_with fail;clear p0 p1;go_loopw [6,7] (fun s6 _ wr => ∃ i:Int,-1≤i∧i < L1.length∧s6=.int .i64 i∧Lib.IsBuilderF 77 5 B B (Lib.byteCells (pre ++ Bi.outT L1 (i + 1).toNat)) wr∧Below B w1 wr) (fun s6 _ _ => (intOf s6 + 1).toNat)
  case atStart =>
   refine ⟨(L1.length:Int) - 1,by omega,by omega,rfl,?_,hb2⟩;have h1:((L1.length:Int) - 1 + 1).toNat=L1.length:=by omega
   rw [h1];unfold Bi.outT;rw [if_neg (by omega),List.append_nil];exact HB0
  case round =>
   obtain ⟨i,hi1,hi2,rfl,HBi,hbr⟩:=hrel;obtain ⟨hEr,hUr,hBr,hsr⟩:=HS.out wr hbr;obtain ⟨p0,p1,_,_⟩:=hBr
   by_cases hi:i < 0
   ·obtain rfl:i=-1:=by omega
    clear hEr hUr HB0 hb2;go_wp2_with fail;(with_reducible refine (Tryz.Builder_String_any_f B B (pre ++ Bi.outT L1 ((-1:Int) + 1).toNat) _ HBi hsr).mono ?_);rintro e w4 ⟨rfl,_,hb4⟩;have HR:Hid (pre ++ Bi.outT L1 ((-1:Int) + 1).toNat=Lib.itoa x):=hii (by
     rw [Hit.out,show ((-1:Int) + 1).toNat=0 from rfl];unfold Bi.outT;rw [if_pos (by omega),List.drop_zero,HV.out])
    have hfin:=hw1.trans ((hbr.trans hb4).mono (Nat.le_of_lt hlt));clear HBi p0 p1;go_wp2;go_ret2;exact ⟨by rw [← HR.out]; rfl,hfin⟩
   ·obtain ⟨j,rfl⟩:∃ j:Nat,i=(j:Int):=⟨i.toNat,by omega⟩;obtain ⟨z,hz⟩:=get_some (l:=L1) (k:=j) (by omega);obtain ⟨b1,o1,rfl,hcz⟩:=hUr.at' hz;have bz:=HOK.out.at' hz;have HZ:=hii (Bi.getD_of hz);clear hz hUr HB0 hb2;go_wp2_with fail;(with_reducible refine (itoa_any (z:Int) (by omega) (by omega) _ hEr).mono ?_);rintro e w3 ⟨rfl,hb3⟩;have HB3:=isBuilder_kept HBi hb3;have hbr3:=hbr.trans (hb3.mono hsr);obtain ⟨hE3,_,hBr3,hs3⟩:=HS.out w3 hbr3;clear HBi hb3 hbr hEr hsr p0 p1 hcz;obtain ⟨p0,p1,_,_⟩:=hBr3;have hjj:((j:Int) + 1).toNat=j + 1:=by omega
    rw [hjj] at HB3;have hl9:=Bi.nd_small bz;have hlz:=Go.Lib.decDigits_length z;have HO:=HLen.out (j + 1);obtain ⟨cur,hcur⟩:∃ cur,cur=Bi.outT L1 (j + 1):=⟨_,rfl⟩;rw [← hcur] at HB3 HO;have hlc:(pre ++ cur).length≤301:=by rw [List.length_append]; omega
    by_cases hj:j + 1 < L1.length
    ·have hst:=Bi.outT_step HL1.out hj HZ.out bz;rw [itoa_nat];rw [← hlz,← hcur] at hst;generalize Lib.decDigits z=S at *;have HST:=hii hst;have hS9:S.length≤9:=by omega
     have hc1:(j:Int) < (L1.length:Int) - 1:=by omega
     clear hst hcur hlz hl9 hjj HO;go_wp2_with fail;(with_reducible refine (repeat0 (9 - S.length) _ (by omega) (by omega) w3).mono ?_);rintro e w4 ⟨rfl,hb4⟩;have HB4:=isBuilder_kept HB3 hb4;have hbr4:=hbr3.trans (hb4.mono hs3);have hs4:=(HS.out w4 hbr4).2.2.2;clear HB3 hb4 hbr3 hs3 p0 p1 hE3;have hzl:(List.replicate (9 - S.length) (48:UInt8)).length≤9:=by simp
     generalize List.replicate (9 - S.length) (48:UInt8)=Z at *;go_wp2_with fail;(with_reducible refine (write_any B (pre ++ cur) Z w4 HB4 (by omega) (by omega) hs4).mono ?_);rintro e w5 ⟨rfl,HB5,hb5⟩;have hbr5:=hbr4.trans hb5;have hs5:=(HS.out w5 hbr5).2.2.2;have hlc5:(pre ++ cur ++ Z).length≤310:=by rw [List.length_append]; omega
     clear HB4 hb5 hbr4 hs4;go_wp2_with fail;(with_reducible refine (write_any B (pre ++ cur ++ Z) S w5 HB5 (by omega) (by omega) hs5).mono ?_);rintro e w6 ⟨rfl,HB6,hb6⟩;have hbr6:=hbr5.trans hb6;clear HB5 hb6 hbr5 hs5;go_wp2;go_roundw
     case rel => exact ⟨(j:Int) - 1,by omega,by omega,rfl,by rw [show ((j:Int) - 1 + 1).toNat=j by omega,HST.out]; simpa [List.append_assoc] using HB6,hbr6⟩
     case measure => simp [intOf]
    ·have hst:=Bi.outT_last (show j + 1=L1.length by omega) HZ.out;rw [itoa_nat];rw [← hcur] at hst;generalize Lib.decDigits z=S at *;have HST:=hii hst;have hS9:S.length≤9:=by omega
     have hc1:¬ (j:Int) < (L1.length:Int) - 1:=by omega
     clear hst hcur hlz hl9 hjj HO;go_wp2_with fail;(with_reducible refine (write_any B (pre ++ cur) S w3 HB3 (by omega) (by omega) hs3).mono ?_);rintro e w6 ⟨rfl,HB6,hb6⟩;have hbr6:=hbr3.trans hb6;clear HB3 hb6 hbr3 hs3 p0 p1 hE3;go_wp2;go_roundw
     case rel => exact ⟨(j:Int) - 1,by omega,by omega,rfl,by rw [show ((j:Int) - 1 + 1).toNat=j by omega,HST.out]; simpa [List.append_assoc] using HB6,hbr6⟩
     case measure => simp [intOf]
theorem enc_digit (y:Nat):Utf8.encode (48 + (y:Int) % 10)=⟨[UInt8.ofNat (48 + y % 10)].toArray⟩:=by
 have key:∀ d:Nat,d < 10→Utf8.encode (48 + (d:Int))=⟨[UInt8.ofNat (48 + d)].toArray⟩:=by
  intro d hd;have h:d=0∨d=1∨d=2∨d=3∨d=4∨d=5∨d=6∨d=7∨d=8∨d=9:=by omega
  rcases h with rfl | rfl | rfl | rfl | rfl | rfl | rfl | rfl | rfl | rfl <;> rfl
 have:=key (y % 10) (Nat.mod_lt _ (by decide));rw [Int.natCast_emod] at this;exact this
theorem ba_cat (a b:List UInt8):(⟨a.toArray⟩:ByteArray) ++ ⟨b.toArray⟩=⟨(a ++ b).toArray⟩:=by
 apply ByteArray.ext
 simp
theorem fmt_rel {z k y:Nat} {low:List UInt8} (HY:y=z / 10 ^ k):Value.string (Utf8.encode (48 + (y:Int) % 10) ++ ⟨(Bi.lastD k z ++ low).toArray⟩)=Value.string ⟨(Bi.lastD (k + 1) z ++ low).toArray⟩:=by
 rw [enc_digit,ba_cat,Bi.lastD_front,← HY]
 rfl
theorem cat_small {y z k i:Nat} {L:List Nat} (hk:k≤9) (hi:i < L.length) (hl:L.length≤34):(Utf8.encode (48 + (y:Int) % 10)).size + ((Bi.lastD k z).length + (Bi.refT L i).length)≤1000:=by
 have hs1:(Utf8.encode (48 + (y:Int) % 10)).size≤1:=by
  rw [enc_digit]; exact Nat.le_refl 1
 have hs2:(Bi.lastD k z).length≤9:=by rw [Bi.lastD_length]; omega
 have hs3:(Bi.refT L i).length≤306:=by unfold Bi.refT; rw [if_pos hi,Bi.lastD_length]; omega
 omega
theorem rFormat_any (a:Value) (x:Int) (w:World) (ha:IntV w a x) :
  Calls Tryz.prog 49 #[a] w fun e w' => e=.returned (.string ⟨(Lib.itoa x).toArray⟩)∧Below w.heap.size w w':=by
 obtain ⟨n1,ao1,L1,c1,rfl,Hn1,HL1,HB1,hc1,hl1,hU1⟩:=id ha;go_enter Tryz.func49,Tryz.ntmps49;have hbw:=bA w (.cells #[.bool n1,.slice ao1 L1.length c1] 24);have B1:=Box.new w (.bool n1) (.slice ao1 L1.length c1) 24;have hU:=hU1.mono hbw;clear hU1 ha;have Hit:Hid (Lib.itoa x=(if n1=true then [45] else []) ++ Lib.decDigits x.natAbs):=hii (by
  unfold Lib.itoa;rw [Hn1.out]
  by_cases h:x < 0
  ·simp [h]
  ·simp [h,show x.toNat=x.natAbs by omega])
 obtain ⟨p0,p1,_,_⟩:=id B1
 by_cases hL:L1=[]
 ·subst hL;have hx:x.natAbs=0:=by
   have:=congrArg Bi.val HL1.out;rw [Bi.val_limbs] at this;exact this.symm
  have hx0:x=0:=by omega
  subst hx0;have hz:Hid (Lib.itoa 0=[48]):=hii (by
   unfold Lib.itoa;rw [if_neg (by decide),show Int.toNat 0=0 from rfl,Lib.decDigits_one (by decide)]
   rfl)
  clear Hit hx hU;go_wp2;go_ret;exact ⟨by rw [hz.out]; rfl,hbw⟩
 have hlen:1≤L1.length:=by
  have:=List.length_pos_iff.2 hL;omega
 have HV:Hid (Bi.val L1=x.natAbs):=hii (by rw [HL1.out,Bi.val_limbs]);have HOK:Hid (Bi.Ok L1):=hii (by rw [HL1.out]; exact Bi.limbs_ok _);clear hL;go_upto_region 3 with fail;generalize w.alloc (.cells #[.bool n1,.slice ao1 L1.length c1] 24)=w1 at *;go_wp2_with fail;go_loop [3,4,5,6] (fun s3 s4 _ _ => ∃ i:Nat,i≤L1.length∧s4=.int .i64 i∧s3=.string ⟨(Bi.refT L1 i).toArray⟩) (fun _ s4 _ _ => L1.length - (intOf s4).toNat)
 case atStart =>
  refine ⟨0,by omega,rfl,?_⟩;unfold Bi.refT;rw [if_pos (by omega)]
  rfl
 case round =>
  obtain ⟨i,hi,rfl,rfl⟩:=hrel
  by_cases hlt:i < L1.length
  ·obtain ⟨z,hz⟩:=get_some (l:=L1) (k:=i) (by omega);obtain ⟨b1,o1,rfl,hcz⟩:=hU.at' hz;have bz:=HOK.out.at' hz;have HZ:=hii (Bi.getD_of hz);have HBZ:=hii bz;clear hz bz;go_wp2_with fail;clear hcz;go_loop [3,5,6] (fun s3 s5 s6 => ∃ k y:Nat,k≤9∧y < 1000000000∧s6=.int .i64 k∧s5=.int .u32 y∧s3=.string ⟨(Bi.lastD k z ++ Bi.refT L1 i).toArray⟩∧Hid (y=z / 10 ^ k)∧Hid (i + 1=L1.length→k=0∨z / 10 ^ (k - 1) ≠ 0)) (fun _ _ s6 => (9 - intOf s6).toNat)
   case atStart => exact ⟨0,z,by omega,by have:=HBZ.out; omega,rfl,rfl,rfl,hii (by simp),hii fun _ => .inl rfl⟩
   case round =>
    obtain ⟨k,y,hk,hy,rfl,rfl,rfl,HY,HK⟩:=hrel
    by_cases hgo:k < 9∧(0 < y∨i + 1 < L1.length)
    ·obtain ⟨hk9,hor⟩:=hgo;have HOR:=hii hor;have hrel1:=fmt_rel (low:=Bi.refT L1 i) HY.out;have hy1:((y:Int) / 10)=((y / 10:Nat):Int):=by omega
     have HR1:=hii hrel1;have HY1:=hii hy1;have HY2:Hid (y / 10=z / 10 ^ (k + 1)):=hii (by rw [HY.out,Nat.div_div_eq_div_mul,Nat.pow_succ]);clear hrel1 hy1;have hyc:(0:Int) < (y:Int)∨(decide (0 < y)=false∧(i:Int) < (L1.length:Int) - 1):=by
      by_cases h:0 < y
      ·exact .inl (by omega)
      ·exact .inr ⟨by simpa using h,by rcases hor with h' | h'; omega; omega⟩
     clear hor;rcases hyc with hy0 | ⟨hy0,hi0⟩
     all_goals
      go_wp2
      ·have:=cat_small (y:=y) (z:=z) hk hlt hl1; omega
      ·refine ⟨⟨k + 1,y / 10,by omega,by omega,by go_num,by rw [← HY1.out],HR1.out,HY2,hii fun hl => .inr (by rw [Nat.add_sub_cancel,← HY.out]; have:=HOR.out; omega)⟩,?_⟩;simp [intOf]; omega
    ·have hend:Hid (Bi.lastD k z ++ Bi.refT L1 i=Bi.refT L1 (i + 1)):=hii (by
      by_cases hl:i + 1 < L1.length
      ·obtain rfl:k=9:=by omega
       exact Bi.refT_step HOK.out hl HZ.out
      ·have hl':i + 1=L1.length:=by omega
       refine Bi.refT_last HL1.out HOK.out hl' HZ.out ?_ (HK.out hl')
       by_cases hk9:k < 9
       ·have:y=0:=by omega
        rw [← HY.out]; exact this
       ·obtain rfl:k=9:=by omega
        exact Nat.div_eq_of_lt HBZ.out)
     have hex:decide ((k:Int) < 9)=false∨((k:Int) < 9∧decide (0 < y)=false∧decide ((i:Int) < (L1.length:Int) - 1)=false):=by
      simp only [decide_eq_false_iff_not]; omega
     clear hgo HY HK;rcases hex with hk9 | ⟨hk9,hy0,hi0⟩
     all_goals
      go_wp2;refine ⟨⟨i + 1,by omega,by go_num,by rw [hend.out]⟩,?_⟩;simp [intOf]; omega
  ·obtain rfl:i=L1.length:=by omega
   have HF:Hid (Bi.refT L1 L1.length=Lib.decDigits x.natAbs):=hii (by
    unfold Bi.refT;rw [if_neg (by omega),HV.out])
   have hs3:(Bi.refT L1 L1.length).length≤300:=by
    have:=Bi.outT_len (L:=L1) (by rw [HV.out]; exact HB1.out) 0;unfold Bi.outT at this;rw [if_pos (by omega),List.drop_zero,HV.out] at this;rw [HF.out];exact this
   clear HL1 HB1 hU
   cases n1
   ·go_wp2;go_ret;exact ⟨by rw [Hit.out,HF.out]; rfl,hbw⟩
   ·go_wp2;go_ret;exact ⟨by rw [Hit.out,HF.out]; rfl,hbw⟩
end Go.Proofs.YtaedmaifkfhpfaaGreatDoor
namespace Bi
open Go.Lib (decDigits nDigits itoa)
theorem digit_back {b:UInt8} (h:isDig b):UInt8.ofNat (48 + (b.toNat - 48))=b:=by
 unfold isDig at h;rw [show 48 + (b.toNat - 48)=b.toNat by omega];simp
theorem decVal_pos {t:List UInt8} (h:∀ b∈t,isDig b) (h0:t ≠ []) (h48:t.head? ≠ some 48):0 < decVal t:=by
 cases t with
 | nil => exact absurd rfl h0
 | cons b r =>
  have hb:isDig b:=h b (by simp);unfold isDig at hb;have:b.toNat ≠ 48:=by
   intro e
   apply h48
   simp only [List.head?_cons,Option.some.injEq];exact UInt8.toNat_inj.1 e
  rw [decVal];have h1:0 < 10 ^ r.length:=Nat.pow_pos (by decide);have:1 * 10 ^ r.length≤(b.toNat - 48) * 10 ^ r.length:=Nat.mul_le_mul_right _ (by omega);omega
theorem dec_text:∀ (n:Nat) (t:List UInt8),t.length=n→(∀ b∈t,isDig b)→t ≠ []→¬ (t.head?=some 48∧1 < t.length)→decDigits (decVal t)=t:=by
 intro n
 induction n with
 | zero => intro t hl _ h0 _; exact absurd (List.length_eq_zero_iff.1 hl) h0
 | succ n ih =>
  intro t hl h h0 hz;rcases List.eq_nil_or_concat t with rfl | ⟨r,d,hr⟩
  ·exact absurd rfl h0
  ·rw [List.concat_eq_append] at hr;subst hr;have hd:isDig d:=h d (by simp);have hdb:=digit_back hd;have hdr:isDig d:=hd;unfold isDig at hd;have hv:decVal (r ++ [d])=decVal r * 10 + (d.toNat - 48):=by rw [decVal_append]; simp [decVal]
   by_cases hr0:r=[]
   ·subst hr0;rw [hv];simp only [decVal,Nat.zero_mul,Nat.zero_add,List.nil_append];rw [Go.Lib.decDigits_one (by omega),hdb]
   ·have hpos:0 < decVal r:=decVal_pos (fun b hb => h b (by simp [hb])) hr0 (fun e => hz ⟨by
     cases r with
     | nil => exact absurd rfl hr0
     | cons a r => simpa using e,by have:=List.length_pos_iff.2 hr0; simp; omega⟩)
    rw [hv,decDigits,dif_neg (by omega),show (decVal r * 10 + (d.toNat - 48)) / 10=decVal r by omega,show (decVal r * 10 + (d.toNat - 48)) % 10=d.toNat - 48 by omega,hdb,
     ih r (by simpa using hl) (fun b hb => h b (by simp [hb])) hr0 (fun ⟨e,_⟩ => hz ⟨by
      cases r with
      | nil => exact absurd rfl hr0
      | cons a r => simpa using e,by have:=List.length_pos_iff.2 hr0; simp; omega⟩)]
theorem dec_text_no {t:List UInt8} (h:∀ b∈t,isDig b) (hz:t.head?=some 48∧1 < t.length):decDigits (decVal t) ≠ t:=by
 intro e;obtain ⟨h1,h2⟩:=hz
 cases t with
 | nil => simp at h1
 | cons b r =>
  simp only [List.head?_cons,Option.some.injEq] at h1;subst h1;have hv:decVal (48 :: r)=decVal r:=by rw [decVal,show (48:UInt8).toNat - 48=0 from rfl,Nat.zero_mul,Nat.zero_add]
  have hlen:=congrArg List.length e;rw [Go.Lib.decDigits_length,hv] at hlen;have hlt:=decVal_lt r (fun b hb => h b (by simp [hb]));simp only [List.length_cons] at h2 hlen
  by_cases h0:decVal r=0
  ·rw [h0,Go.Lib.nDigits_small (by decide)] at hlen; omega
  ·have:=(nd_le h0).2 hlt;omega
def sgnT (neg:Bool) (v:Nat):Int:=if neg then -(v:Int) else v
theorem itoa_text {neg:Bool} {t:List UInt8} (h:∀ b∈t,isDig b) (h0:t ≠ []) :
  itoa (sgnT neg (decVal t))=(if neg=true then [45] else []) ++ t↔¬ (t.head?=some 48∧(1 < t.length∨neg=true)):=by
 have hz0:t.head?=some 48→t.length=1→decVal t=0:=by
  intro h1 h2
  cases t with
  | nil => simp at h1
  | cons b r =>
   simp only [List.head?_cons,Option.some.injEq] at h1;subst h1;have:r=[]:=List.length_eq_zero_iff.1 (by simpa using h2);subst this
   rfl
 cases neg
 ·simp only [sgnT,Bool.false_eq_true,if_false,List.nil_append,or_false];have e1:itoa ((decVal t:Nat):Int)=decDigits (decVal t):=by
   unfold itoa; rw [if_neg (by omega),Int.toNat_natCast]
  rw [e1]
  constructor
  ·intro e hz;exact dec_text_no h hz e
  ·intro hz;exact dec_text _ t rfl h h0 hz
 ·simp only [sgnT,if_true,or_true,and_true]
  constructor
  ·intro e h1
   by_cases hv:decVal t=0
   ·rw [hv] at e;have:itoa (-((0:Nat):Int))=[48]:=by
     unfold itoa;rw [if_neg (by decide),show (-((0:Nat):Int)).toNat=0 from rfl,Go.Lib.decDigits_one (by decide)]
     rfl
    rw [this] at e;simp at e
   ·have e1:itoa (-((decVal t:Nat):Int))=45 :: decDigits (decVal t):=by
     unfold itoa; rw [if_pos (by omega),show (-((decVal t:Nat):Int)).natAbs=decVal t by omega]
    rw [e1] at e;simp only [List.singleton_append,List.cons.injEq,true_and] at e;refine dec_text_no h ⟨h1,?_⟩ e
    apply Nat.lt_of_not_le
    intro hle;have:=List.length_pos_iff.2 h0;exact hv (hz0 h1 (by omega))
  ·intro h1;have hp:=decVal_pos h h0 h1;have e1:itoa (-((decVal t:Nat):Int))=45 :: decDigits (decVal t):=by
    unfold itoa; rw [if_pos (by omega),show (-((decVal t:Nat):Int)).natAbs=decVal t by omega]
   rw [e1,dec_text _ t rfl h h0 (fun ⟨h2,_⟩ => h1 h2)]
   rfl
theorem chunk_snoc {t:List UInt8} {i a:Nat} {z:UInt8} (h:t[i]?=some z) (ha:a≤i):(t.drop a).take (i + 1 - a)=(t.drop a).take (i - a) ++ [z]:=by
 rw [show i + 1 - a=(i - a) + 1 by omega,List.take_add_one]
 congr 1
 rw [List.getElem?_drop,show a + (i - a)=i by omega,h]
 rfl
theorem val_snoc_dig {c:List UInt8} {z:UInt8}:decVal (c ++ [z])=10 * decVal c + (z.toNat - 48):=by
 rw [decVal_append]; simp [decVal]; omega
theorem chunk_small {c:List UInt8} (h:∀ b∈c,isDig b) (hl:c.length≤8):decVal c < 100000000:=by
 have h1:=decVal_lt c h;have h2:10 ^ c.length≤10 ^ 8:=Nat.pow_le_pow_right (by omega) hl;omega
end Bi
namespace Bi
theorem parse_step {t:List UInt8} {l:List Nat} {e a V:Nat} (ha:a=e - 9) (he:e≤t.length) (_he0:0 < e) (hI:val l + 1000000000 ^ l.length * decVal (t.take e)=V) :
  val (l ++ [decVal ((t.drop a).take (e - a))]) + 1000000000 ^ (l ++ [decVal ((t.drop a).take (e - a))]).length * decVal (t.take a)=V:=by
 have h1:t.take e=t.take a ++ (t.drop a).take (e - a):=by
  have:e=a + (e - a):=by omega
  rw [this,List.take_add,Nat.add_sub_cancel_left]
 have hl:((t.drop a).take (e - a)).length=e - a:=by simp; omega
 rw [h1,decVal_append,hl] at hI;rw [val_snoc,List.length_append,List.length_singleton,Nat.pow_succ];rw [← hI,Nat.mul_add]
 by_cases h9:9≤e
 ·have:e - a=9:=by omega
  rw [this];have h2:1000000000 ^ l.length * (decVal (t.take a) * 10 ^ 9)=1000000000 ^ l.length * 1000000000 * decVal (t.take a):=by
   rw [Nat.mul_comm (decVal _),← Nat.mul_assoc]
  rw [h2]; omega
 ·have:a=0:=by omega
  subst this;simp [decVal]
theorem chunk_dig {t:List UInt8} (h:∀ b∈t,isDig b) (a n:Nat):∀ b∈(t.drop a).take n,isDig b :=
 fun b hb => h b (List.mem_of_mem_drop (List.mem_of_mem_take hb))
theorem chunk_lt {t:List UInt8} (h:∀ b∈t,isDig b) {a n:Nat} (hn:n≤9):decVal ((t.drop a).take n) < 1000000000:=by
 have h1:=decVal_lt _ (chunk_dig h a n);have h2:10 ^ ((t.drop a).take n).length≤10 ^ 9:=Nat.pow_le_pow_right (by omega) (by simp; omega);omega
theorem chunk_lt' {c:List UInt8} (h:∀ b∈c,isDig b) (hn:c.length≤9):decVal c < 1000000000:=by
 have h1:=decVal_lt _ h;have h2:10 ^ c.length≤10 ^ 9:=Nat.pow_le_pow_right (by omega) hn;omega
def Sm (x:Nat):Prop:=x < 1000000000
theorem dec_big {t:List UInt8} (h:∀ b∈t,isDig b) (hl:t.length≤300):decVal t < Big:=by
 have h1:=decVal_lt t h;obtain ⟨k,hk⟩:∃ k:Nat,k=300:=⟨_,rfl⟩;have h2:10 ^ t.length≤10 ^ k:=Nat.pow_le_pow_right (by omega) (by omega);have h3:∀ a k:Nat,k=a + a→10 ^ a * 10 ^ a=10 ^ k:=fun a k hk => by rw [hk,Nat.pow_add]
 exact Nat.lt_of_lt_of_le h1 (Nat.le_trans h2 (Nat.le_of_eq (h3 150 k (by omega)).symm))
end Bi
namespace Go.Proofs.YtaedmaifkfhpfaaGreatDoor
open Go.RowKit
theorem Parse_ok (s:List UInt8) (neg:Bool) (t:List UInt8) (hn:Hid (neg=Lib.hasPrefix s [45])) (ht:Hid (t=Lib.trimPrefix s [45])) (w:World) (hgood:Hid (Bi.textP neg t)) (hE:Env w) :
  Calls Tryz.prog 52 #[.string ⟨s.toArray⟩] w fun e w' => ResZ w' (sgn neg (Bi.decVal t)) e∧Below w.heap.size w w':=by
 have hg:=hgood.out;unfold Bi.textP at hg;obtain ⟨ht0,ht3,htd,htz⟩:=hg;have HD:=hii htd;have HZ:=hii htz;clear htd htz;go_enter Tryz.func52,Tryz.ntmps52;go_wp2_with fail;(with_reducible refine (Tryz.strings_CutPrefix _ _ _).mono ?_);rintro e w1 ⟨rfl,rfl⟩;rw [← ht.out,← hn.out];have he:t.isEmpty=false:=by simpa using ht0
 have hb3:decide ((300:Int) < (t.length:Int))=false:=by simp; omega
 go_wp2_with fail;have B:=Box.new w (.bool false) (.slice none 0 0) 24;have hbx:=bA w (.cells #[.bool false,.slice none 0 0] 24);have hE:=hE.mono hbx;generalize w.alloc (.cells #[.bool false,.slice none 0 0] 24)=wx at *;(with_reducible refine (trim_digs_any t wx ?_).mono ?_)
 ·omega
 rintro e w1 ⟨rfl,hb1⟩;rw [(Bi.trim_digs t).2 HD.out];have B:=B.mono hb1;have hE:=hE.mono hb1;have hbw:=bu hbx hb1;obtain ⟨c,r,rfl⟩:∃ c r,t=c :: r:=by
  cases t with
  | nil => simp at he
  | cons c r => exact ⟨c,r,rfl⟩
 have HN:Hid (c=48→r=[]∧neg=false):=hii (by
  rintro rfl;have h:=HZ.out;simp only [List.head?_cons,List.length_cons,true_and,not_or] at h;exact ⟨List.length_eq_zero_iff.1 (by omega),by cases neg; rfl; exact absurd rfl h.2⟩)
 clear hb1 hbx HZ hgood hn ht;have hcc:(((c.toNat:Int) == 48)=true∧r=[]∧neg=false)∨((c.toNat:Int) == 48)=false:=by
  by_cases h:c=48
  ·obtain ⟨h1,h2⟩:=HN.out h;exact .inl ⟨by rw [h]; rfl,h1,h2⟩
  ·refine .inr ?_;rw [beq_eq_false_iff_ne];intro h';exact h (UInt8.toNat_inj.1 (show c.toNat=48 by omega))
 clear HN;have hr3:(r.length:Int) + 1≤300:=by simp at ht3; omega
 clear he ht0 ht3 hb3;obtain ⟨t,ht⟩:∃ t,t=c :: r:=⟨_,rfl⟩;have HDt:Hid (∀ b∈t,Bi.isDig b):=hii (by rw [ht]; exact HD.out);have HS:Hid (sgn neg (Bi.decVal (c :: r))=sgn neg (Bi.decVal t)):=hii (by rw [ht]);have htl:(t.length:Int)=(r.length:Int) + 1:=by rw [ht]; simp
 have HTL:=hii htl;have htb1:1≤t.length:=by omega
 have htb2:t.length≤300:=by omega
 have HT:=hii ht;clear ht htl HD;have hz0:0 < (⟨(c :: r).toArray⟩:ByteArray).size:=by show 0 < (c :: r).length; simp
 have hi0:(⟨(c :: r).toArray⟩:ByteArray)[0]=c:=rfl;rw [← hi0] at hcc;clear hi0;rcases hcc with ⟨hc48,rfl,rfl⟩ | hc48
 all_goals
  obtain ⟨p0,p1,q0,q1⟩:=id B;go_wp2_with fail;clear p0 p1 q0 q1;go_loopw [6,7,8,9] (fun s6 s7 _ _ wr => ∃ l:List Nat,s7=.int .i64 ((t.length:Int) - 9 * (l.length:Int))∧-9 < (t.length:Int) - 9 * (l.length:Int)∧OwnU wr w1.heap.size s6 l∧Hid (Bi.Ok l) ∧
   Hid (Bi.val l + 1000000000 ^ l.length * Bi.decVal (t.take (t.length - 9 * l.length))=Bi.decVal t)∧Below w1.heap.size w1 wr) (fun _ s7 _ _ _ => (intOf s7).toNat)
  case atStart =>
   refine ⟨[],?_,by simp; omega,OwnU.nil _ _,hii Bi.Ok.nil,hii (by rw [List.take_of_length_le (by simp)]; simp [Bi.val]),br⟩;have:=HTL.out;simp at this ⊢;omega
  case round =>
   obtain ⟨l,rfl,hl9,hown,HO,HI,hbr⟩:=hrel;obtain ⟨e,he⟩:∃ e:Int,e=(t.length:Int) - 9 * (l.length:Int):=⟨_,rfl⟩;rw [← he] at hl9 ⊢;have HE:=hii he;clear he
   by_cases hpos:0 < e
   ·obtain ⟨n,rfl⟩:∃ n:Nat,e=(n:Int):=⟨e.toNat,by omega⟩;have hn:=HE.out;have htc:=HTL.out;have hn1:=hn;rw [htc] at hn1;have hn2:(n:Int)≤300:=by omega
    have hll:l.length≤100:=by omega
    obtain ⟨a,ha⟩:∃ a:Nat,a=n - 9:=⟨_,rfl⟩;have hmx:max (0:Int) ((n:Int) - 9)=(a:Int):=by omega
    have han:(a:Int)≤(n:Int):=by omega
    have hnr:(n:Int)≤(t.length:Int):=by omega
    have hnn:t.length - 9 * l.length=n:=by omega
    have HNN:=hii hnn;have HA:=hii ha;have HLE:=hii hnr;rw [htc] at hnr;have hne:(t.drop a).take (n - a) ≠ []:=by
     intro h;have:=congrArg List.length h;simp at this;omega
    obtain ⟨D,hD⟩:∃ D:Nat,D=Bi.decVal ((t.drop a).take (n - a)):=⟨_,rfl⟩;have hD9:Bi.Sm D:=by rw [hD]; exact Bi.chunk_lt HDt.out (a:=a) (n:=n - a) (by omega)
    have HAT:Hid (Lib.atoi ((t.drop a).take (n - a))=some (D:Int)):=hii (by rw [hD]; exact Bi.atoi_digs hne (Bi.chunk_dig HDt.out a (n - a)));have HST:=Bi.parse_step (t:=t) (l:=l) (e:=n) (a:=a) (V:=Bi.decVal t) ha (by omega) (by omega) (by rw [← hnn]; exact HI.out);rw [← hD] at HST;have HST:=hii HST;clear hn htc hn1 hnn ha hD hne HI
    try simp only [List.length_nil,Int.cast_ofNat_Int,Int.zero_add] at hnr
    clear hl9 htb1 htb2 hll;go_wp2_with fail;(with_reducible refine (Tryz.strconv_Atoi _ (D:Int) ?_ ?_ wr).mono ?_)
    ·rw [ByteArray.size_extract]; have:=HA.out; omega
    ·rw [Lib.extract_data];have h:=HAT.out;rw [HT.out] at h;exact h
    rintro e w3 ⟨rfl,tt,rfl⟩;have hb3:=Lib.bytesWorld_below wr 5 tt;generalize Lib.bytesWorld wr 5 tt=w3 at *;have hown3:=hown.kept hb3 nl;have hbr3:=hbr.trans (hb3.mono hbr.size);have hll:l.length≤1000000000000:=by have:=HE.out; have:=HTL.out; omega
    have HLL:=hii hll;have hwD:IntKind.u32.wrap (D:Int)=(D:Int):=IntWalk.u32_in _ (by have:=hD9; unfold Bi.Sm at this; omega);clear hown hb3 hbr hll hmx hnr;go_wp2_with (at_builtin; refine app_u32 _ (D:Int) D rfl rfl _ _ rfl w1 w1.heap.size _ l rfl hown3 hbr3.size hbr3 rfl HLL.out ?_; intro v' w' hown' hb');go_roundw
    case rel =>
     have h9:t.length - 9 * (l ++ [D]).length=a:=by have:=HE.out; have:=HA.out; simp; omega
     refine ⟨l ++ [D],?_,?_,hown',hii (HO.out.snoc hD9),hii (by rw [h9]; exact HST.out),hb'⟩
     ·have:=HE.out; simp; omega
     ·have:=HE.out; simp; omega
    case measure => simp [intOf]; omega
   ·have hv:Hid (Bi.val l=Bi.decVal t):=hii (by
     have h:=HI.out;have hz:t.length - 9 * l.length=0:=by have:=HE.out; omega
     rw [hz] at h
     simpa [Bi.decVal] using h)
    obtain ⟨ao,cap,rfl,hcap,hU⟩:=hown.read;have hll:l.length≤1000:=by have:=HE.out; have:=HTL.out; omega
    have hEr:=hE.mono hbr;have Br:=B.mono hbr;have hbwr:=bu hbw hbr;clear hown HI HE hl9;go_wp2_with fail;(with_reducible refine (result_any _ l ao cap _ (by omega) hcap hU HO hEr).mono ?_);rintro e2 w2 ⟨⟨ng,ao3,n3,cap3,k3,rfl,HR⟩,hb2⟩;obtain ⟨p0,p1,q0,q1⟩:=Br.mono hb2;go_wp2;refine bodyPost_ret (v:=.tuple #[.agg #[.bool ng,.slice ao3 n3 cap3],.int .i64 k3]) (by simp [results,Tryz.results52,go_sem,p0,p1]) rfl ⟨⟨ng,ao3,n3,cap3,k3,rfl,hii ?_⟩,?_⟩
    ·have:=HR.out.put2 p0 p1 (.bool ng) (.slice ao3 n3 cap3);rw [hv.out] at this;rw [HS.out];exact this
    ·exact Below.put2 (bu hbwr hb2) nl _ _
def RParse (w':World) (neg:Bool) (t s:List UInt8) (e:Ending):Prop :=
 ∃ (ng:Bool) (ao:Option Addr) (n cap:Nat) (k:Int),e=.returned (.tuple #[.agg #[.bool ng,.slice ao n cap],.int .i64 k]) ∧
  Hid (((∀ b∈t,Bi.isDig b)∧t ≠ []∧t.length≤300∧Lib.itoa (sgn neg (Bi.decVal t))=s∧IntV w' (.agg #[.bool ng,.slice ao n cap]) (sgn neg (Bi.decVal t))∧k=0) ∨
   (¬ ((∀ b∈t,Bi.isDig b)∧t ≠ []∧t.length≤300∧Lib.itoa (sgn neg (Bi.decVal t))=s)∧ng=false∧ao=none∧n=0∧cap=0∧k=2))
theorem RParse.err {w':World} {neg:Bool} {t s:List UInt8} (h:¬ ((∀ b∈t,Bi.isDig b)∧t ≠ []∧t.length≤300∧Lib.itoa (sgn neg (Bi.decVal t))=s)) :
  RParse w' neg t s (.returned (.tuple #[.agg #[.bool false,.slice none 0 0],.int .i64 2])) :=
 ⟨false,none,0,0,2,rfl,hii (.inr ⟨h,rfl,rfl,rfl,rfl,rfl⟩)⟩
def strLen:Value→Nat
 | .string b => b.size
 | _ => 0
theorem rParse_any (s:List UInt8) (neg:Bool) (t:List UInt8) (hs:s.length≤1000000) (hn:Hid ((neg=true∧s=45 :: t)∨(neg=false∧s=t∧t.head? ≠ some 45))) (w:World) :
  Calls Tryz.prog 56 #[.string ⟨s.toArray⟩] w fun e w' => RParse w' neg t s e∧Below w.heap.size w w':=by
 go_enter Tryz.func56,Tryz.ntmps56;have B:=Box.new w (.bool false) (.slice none 0 0) 24;have hbx:=bA w (.cells #[.bool false,.slice none 0 0] 24);go_upto_region 2 with fail;generalize w.alloc (.cells #[.bool false,.slice none 0 0] 24)=wx at *;have hsz:s.length≤1000001:=by omega
 go_cut [5] (fun s5 wc => s5=.bool neg∧wx=wc)
 case first =>
  rcases hn.out with ⟨h1,h2⟩ | ⟨h1,h2,h3⟩
  ·subst h1 h2;have hi0:(((⟨(45 :: t).toArray⟩:ByteArray)[0]'(by show 0 < (45 :: t).length; simp)).toNat:Int) == 45:=rfl;go_wp2_with fail;go_meet;exact ⟨rfl,rfl⟩
  ·subst h1 h2
   cases s with
   | nil =>
    go_wp2_with fail;go_meet;exact ⟨rfl,rfl⟩
   | cons c r =>
    have hi0:((((⟨(c :: r).toArray⟩:ByteArray)[0]'(by show 0 < (c :: r).length; simp)).toNat:Int) == 45)=false:=by
     show ((c.toNat:Int) == 45)=false
     rw [beq_eq_false_iff_ne];intro h'
     apply h3
     simp only [List.head?_cons,Option.some.injEq];exact UInt8.toNat_inj.1 (show c.toNat=45 by omega)
    go_wp2_with fail;go_meet;exact ⟨rfl,rfl⟩
 case rest =>
  obtain ⟨rfl,rfl⟩:=hcut;go_upto_if 21 with fail;go_cut [4] (fun s4 wc => s4=.string ⟨t.toArray⟩∧wx=wc)
  case first =>
   rcases hn.out with ⟨h1,h2⟩ | ⟨h1,h2,h3⟩
   ·subst h1 h2;have hx:(⟨(45 :: t).toArray⟩:ByteArray).extract 1 (t.length + 1)=⟨t.toArray⟩:=by
     apply ByteArray.ext
     apply Array.ext'
     rw [Lib.extract_data];simp
    go_wp2_with fail;go_meet;exact ⟨rfl,rfl⟩
   ·subst h1 h2;go_wp2_with fail;go_meet;exact ⟨rfl,rfl⟩
  case rest =>
   obtain ⟨rfl,rfl⟩:=hcut;obtain ⟨p0,p1,q0,q1⟩:=id B
   by_cases ht:t=[]
   ·subst ht;go_wp2;refine bodyPost_ret (v:=.tuple #[.agg #[.bool false,.slice none 0 0],.int .i64 2]) (by simp [results,Tryz.results56,go_sem,p0,p1]) rfl ⟨RParse.err (fun h => h.2.1 rfl),Below.put2 hbx nl _ _⟩
   have htl:1≤t.length:=by
    have:=List.length_pos_iff.2 ht;omega
   by_cases h300:(300:Int) < (t.length:Int)
   ·have hz:((t.length:Int) == 0)=false:=by rw [beq_eq_false_iff_ne]; omega
    go_wp2;refine bodyPost_ret (v:=.tuple #[.agg #[.bool false,.slice none 0 0],.int .i64 2]) (by simp [results,Tryz.results56,go_sem,p0,p1]) rfl ⟨RParse.err (fun h => by have:=h.2.2.1; omega),Below.put2 hbx nl _ _⟩
   have hz:((t.length:Int) == 0)=false:=by rw [beq_eq_false_iff_ne]; omega
   have h30:decide ((300:Int) < (t.length:Int))=false:=by simpa using h300
   have ht3:t.length≤300:=by omega
   have HT0:=hii ht;clear h300 ht;go_wp2_with fail;clear hz h30 p0 p1 q0 q1;go_loopw [4,6,7,8,9] (fun s4 s6 _ _ _ wr => ∃ (l:List Nat) (e:Nat),l.length + e≤t.length∧s4=.string ⟨(t.take e).toArray⟩∧OwnU wr wx.heap.size s6 l∧Hid (Bi.Ok l) ∧
    Hid (Bi.val l + 1000000000 ^ l.length * Bi.decVal (t.take e)=Bi.decVal t)∧Hid (∀ b∈t.drop e,Bi.isDig b)∧Below wx.heap.size wx wr) (fun s4 _ _ _ _ _ => strLen s4)
   case atStart => exact ⟨[],t.length,by simp,by rw [List.take_length],OwnU.nil _ _,hii Bi.Ok.nil,hii (by rw [List.take_length]; simp [Bi.val]),hii (by simp),br⟩
   case round =>
    obtain ⟨l,e,hle,rfl,hown,HO,HI,HD,hbr⟩:=hrel;have hll:l.length≤300:=by omega
    have hsl:(⟨(t.take e).toArray⟩:ByteArray).size=e:=by show (t.take e).length=e; simp; omega
    have HSL:=hii hsl;have hmin:min e t.length=e:=by omega
    clear hsl
    by_cases he:e=0
    ·subst he;have HDD:Hid (∀ b∈t,Bi.isDig b):=hii (by simpa using HD.out);have hv:Hid (Bi.val l=Bi.decVal t):=hii (by simpa [Bi.decVal] using HI.out);obtain ⟨ao,cap,rfl,hcap,hU⟩:=hown.read;have Br:=B.mono hbr;have hbwr:=bu hbx hbr;clear hown HI HD hle;go_wp2_with fail;(with_reducible refine (rmake_any neg l ao cap wr (by omega) hU HO).mono ?_);rintro e2 w2 ⟨⟨ng,ao3,n3,cap3,k3,rfl,HR⟩,hb2⟩;have hR:=HR.out;rw [hv.out] at hR;have hzs:(sgn neg (Bi.decVal t)).natAbs < Bi.Big:=by rw [sgn_natAbs]; exact Bi.dec_big HDD.out ht3
     obtain ⟨rfl,hV⟩:=hR.fits hzs;obtain ⟨z,hz⟩:∃ z,z=sgn neg (Bi.decVal t):=⟨_,rfl⟩;rw [← hz] at hV;have HZ:=hii hz;have HV:=hii hV;have Br:=Br.mono hb2;have hbw2:=bu hbwr hb2;clear hz hV hzs hR HR hb2 hbwr hcap hU;go_upto_region 22 with fail;have X3:=Box.new w2 (.bool ng) (.slice ao3 n3 cap3) 24;have hb3:=bA w2 (.cells #[.bool ng,.slice ao3 n3 cap3] 24);generalize w2.alloc (.cells #[.bool ng,.slice ao3 n3 cap3] 24)=w3 at *;have Br:=Br.mono hb3;have HV:=hii (HV.out.mono hb3);have hbw3:=bu hbw2 hb3;clear hb3 hbw2;obtain ⟨x0,x1,_,_⟩:=id X3;go_wp2_with fail;(with_reducible refine (rFormat_any (.agg #[.bool ng,.slice ao3 n3 cap3]) z w3 HV.out).mono ?_);rintro e4 w4 ⟨rfl,hb4⟩;have Br:=Br.mono hb4;have X3:=X3.mono hb4;have HV:=hii (HV.out.mono hb4);have hbw4:=bu hbw3 hb4;clear x0 x1 hb4 hbw3;obtain ⟨x0,x1,_,_⟩:=id X3;obtain ⟨p0,p1,q0,q1⟩:=id Br
     by_cases hq:Lib.itoa z=s
     ·rw [hq];have HQ:=hii hq;clear hq;go_wp2;refine bodyPost_ret (v:=.tuple #[.agg #[.bool ng,.slice ao3 n3 cap3],.int .i64 0]) (by simp [results,Tryz.results56,go_sem,p0,p1]) rfl ⟨⟨ng,ao3,n3,cap3,0,rfl,hii (.inl ⟨HDD.out,HT0.out,ht3,by rw [← HZ.out]; exact HQ.out,?_,rfl⟩)⟩,Below.put2 hbw4 nl _ _⟩;rw [← HZ.out];exact HV.out.put2 p0 p1 _ _
     ·have HQ:=hii hq;have hb:(Lib.itoa z == s)=false:=by rw [beq_eq_false_iff_ne]; exact hq
      clear hq;go_wp2;refine bodyPost_ret (v:=.tuple #[.agg #[.bool false,.slice none 0 0],.int .i64 2]) (by simp [results,Tryz.results56,go_sem,p0,p1]) rfl ⟨RParse.err (fun h => HQ.out (by rw [HZ.out]; exact h.2.2.2)),Below.put2 hbw4 nl _ _⟩
    ·obtain ⟨a,ha⟩:∃ a:Nat,a=e - 9:=⟨_,rfl⟩;have hpos:(0:Int) < (e:Int):=by omega
     have he3:(e:Int)≤300:=by omega
     have HA:=hii ha;go_upto_if 40 with fail;go_cut [7] (fun s7 wc => s7=.int .i64 a∧wr=wc)
     case first =>
      by_cases h9:(e:Int) < 9
      ·have:a=0:=by omega
       subst this;clear ha;go_wp2_with fail;go_meet;exact ⟨rfl,rfl⟩
      ·have h9':(9:Int)≤(e:Int):=by omega
       have hae:((e:Int) - 9)=(a:Int):=by omega
       have HAE:=hii hae;clear h9 ha hae;go_wp2_with fail;go_meet;exact ⟨by rw [← HAE.out],rfl⟩
     case rest =>
      obtain ⟨rfl,rfl⟩:=hcut;have hae:a≤e:=by omega
      have hea:e - a≤9:=by omega
      have HEA:=hii hea;clear ha hea;go_wp2_with fail;go_loop [8,9] (fun s8 s9 => ∃ i X:Nat,a≤i∧i≤e∧s9=.int .i64 i∧s8=.int .u32 X∧Hid (X=Bi.decVal ((t.drop a).take (i - a)))∧Hid (∀ b∈(t.drop a).take (i - a),Bi.isDig b)) (fun _ s9 => e - (intOf s9).toNat)
      case atStart => exact ⟨a,0,nl,hae,rfl,rfl,hii (by simp [Bi.decVal]),hii (by simp)⟩
      case round =>
       obtain ⟨i,X,hai,hie,rfl,rfl,HX,HXD⟩:=hrel
       by_cases hlt:i < e
       ·have hlz:i < t.length:=by omega
        obtain ⟨z,hz⟩:∃ z,z=t[i]:=⟨_,rfl⟩;have hidx:∀ h:i < (⟨(t.take e).toArray⟩:ByteArray).size,(⟨(t.take e).toArray⟩:ByteArray)[i]'h=z:=by
         intro h;rw [hz]
         show ((t.take e).toArray)[i]'h=t[i]
         simp
        have hgz:t[i]?=some z:=by rw [hz]; exact gE hlz
        have HGZ:=hii hgz;clear hz hgz;have herr:¬ Bi.isDig z→∀ w':World,RParse w' neg t s (.returned (.tuple #[.agg #[.bool false,.slice none 0 0],.int .i64 2])):=fun hnd w' =>
         RParse.err (fun h => hnd (h.1 z (List.mem_of_getElem? HGZ.out)))
        have HERR:=hii herr;clear herr
        by_cases hd1:(z.toNat:Int) < 48
        ·have hnd:Hid (¬ Bi.isDig z):=hii (by unfold Bi.isDig; omega);obtain ⟨p0,p1,q0,q1⟩:=B.mono hbr;go_wp2;refine bodyPost_ret (v:=.tuple #[.agg #[.bool false,.slice none 0 0],.int .i64 2]) (by simp [results,Tryz.results56,go_sem,p0,p1]) rfl ⟨HERR.out hnd.out _,Below.put2 (bu hbx hbr) nl _ _⟩
        ·by_cases hd2:(57:Int) < (z.toNat:Int)
         ·have hnd:Hid (¬ Bi.isDig z):=hii (by unfold Bi.isDig; omega);have hb1:decide ((z.toNat:Int) < 48)=false:=by simpa using hd1
          obtain ⟨p0,p1,q0,q1⟩:=B.mono hbr;clear hd1;go_wp2;refine bodyPost_ret (v:=.tuple #[.agg #[.bool false,.slice none 0 0],.int .i64 2]) (by simp [results,Tryz.results56,go_sem,p0,p1]) rfl ⟨HERR.out hnd.out _,Below.put2 (bu hbx hbr) nl _ _⟩
         ·have hb1:decide ((z.toNat:Int) < 48)=false:=by simpa using hd1
          have hb2:decide ((57:Int) < (z.toNat:Int))=false:=by simpa using hd2
          have hz1:(48:Int)≤(z.toNat:Int):=by omega
          have hz2:(z.toNat:Int)≤57:=by omega
          clear hd1 hd2;go_wp2_with fail;have hsn:=Bi.chunk_snoc HGZ.out hai;have hx8:=Bi.chunk_small HXD.out (by have:=HEA.out; simp; omega);rw [← HX.out] at hx8;refine ⟨⟨i + 1,10 * X + (z.toNat - 48),by omega,by omega,by go_num,?_,hii ?_,hii ?_⟩,?_⟩
          ·congr 1; omega
          ·rw [hsn,Bi.val_snoc_dig,← HX.out]
          ·rw [hsn];intro b hb;rcases List.mem_append.1 hb with hb | hb
           ·exact HXD.out b hb
           ·simp at hb; subst hb; unfold Bi.isDig; omega
          ·simp [intOf]; omega
       ·obtain rfl:i=e:=by omega
        have hst:=Bi.parse_step (t:=t) (l:=l) (e:=i) (a:=a) (V:=Bi.decVal t) HA.out (by omega) (by omega) HI.out;rw [← HX.out] at hst;have HST:=hii hst;have HXS:Hid (Bi.Sm X):=hii (by rw [HX.out]; exact Bi.chunk_lt' HXD.out (by have:=HEA.out; simp; omega));have hai2:a≤i:=hai;have hex:(⟨(t.take i).toArray⟩:ByteArray).extract 0 a=⟨(t.take a).toArray⟩:=by
         apply ByteArray.ext
         apply Array.ext'
         rw [Lib.extract_data]
         show ((t.take i).drop 0).take (a - 0)=t.take a
         rw [List.drop_zero,Nat.sub_zero,List.take_take,Nat.min_eq_left hai2]
        have HEX:=hii hex;clear hst hex HI;go_wp2_with (at_builtin; refine app_u32 _ (X:Int) X rfl rfl _ _ rfl wx wx.heap.size _ l rfl hown hbr.size hbr rfl (by omega) ?_; intro v' w' hown' hb');refine ⟨⟨l ++ [X],a,by have:=HA.out; simp; omega,by rw [HEX.out],hown',hii (HO.out.snoc HXS.out),HST,hii ?_,hb'⟩,?_⟩
        ·intro b hb;rw [← List.take_append_drop (i - a) (t.drop a)] at hb;rcases List.mem_append.1 hb with hb | hb
         ·exact HXD.out b hb
         ·rw [List.drop_drop,show a + (i - a)=i by omega] at hb;exact HD.out b hb
        ·rw [HEX.out]
         show (t.take a).length < (t.take i).length
         have:=HA.out;rw [List.length_take,List.length_take,Nat.min_eq_left (by omega),Nat.min_eq_left (by omega)];omega
theorem split_any (s:List UInt8):(Lib.hasPrefix s [45]=true∧s=45 :: Lib.trimPrefix s [45])∨(Lib.hasPrefix s [45]=false∧s=Lib.trimPrefix s [45]∧(Lib.trimPrefix s [45]).head? ≠ some 45):=by
 cases s with
 | nil => right; exact ⟨by decide,by decide,by decide⟩
 | cons c r =>
  by_cases h:c=45
  ·subst h
   left
   have h1:Lib.hasPrefix (45 :: r) [45]=true:=by simp [Lib.hasPrefix]
   exact ⟨h1,by unfold Lib.trimPrefix; rw [if_pos h1]; rfl⟩
  ·right
   have h1:Lib.hasPrefix (c :: r) [45]=false:=by
    have hb:((45:UInt8) == c)=false:=by rw [beq_eq_false_iff_ne]; exact fun e => h e.symm
    unfold Lib.hasPrefix;rw [List.isPrefixOf,hb]
    rfl
   have h2:Lib.trimPrefix (c :: r) [45]=c :: r:=by unfold Lib.trimPrefix; rw [if_neg (by rw [h1]; simp)]
   refine ⟨h1,h2.symm,?_⟩;rw [h2]
   simpa using h
theorem Parse_all (s:List UInt8) (w:World) (hs:s.length≤1000000) (hE:Env w) :
  Calls Tryz.prog 52 #[.string ⟨s.toArray⟩] w fun e w' => RParse w' (Lib.hasPrefix s [45]) (Lib.trimPrefix s [45]) s e∧Below w.heap.size w w':=by
 have hsp:=split_any s;generalize hn:Lib.hasPrefix s [45]=neg at *;generalize ht:Lib.trimPrefix s [45]=t at *;have hst:s=(if neg=true then [45] else []) ++ t:=by
  rcases hsp with ⟨h1,h2⟩ | ⟨h1,h2,_⟩
  ·rw [h1]; simpa using h2
  ·rw [h1]; simpa using h2
 by_cases hg:Bi.textP neg t
 ·refine (Parse_ok s neg t (hii hn.symm) (hii ht.symm) w (hii hg) hE).mono ?_;rintro e w' ⟨⟨ng,ao,n,cap,k,rfl,HR⟩,hb⟩;obtain ⟨h0,h3,hd,hz⟩:=hg;have hzs:(sgn neg (Bi.decVal t)).natAbs < Bi.Big:=by rw [sgn_natAbs]; exact Bi.dec_big hd h3
  obtain ⟨rfl,hV⟩:=HR.out.fits hzs;exact ⟨⟨ng,ao,n,cap,0,rfl,hii (.inl ⟨hd,h0,h3,by rw [hst]; exact (Bi.itoa_text hd h0).2 hz,hV,rfl⟩)⟩,hb⟩
 ·refine (Parse_bad s w (by omega) (hii (by rw [hn,ht]; exact hg))).mono ?_;rintro e w' ⟨rfl,hb⟩;refine ⟨RParse.err ?_,hb⟩;rintro ⟨hd,h0,h3,hi⟩
  apply hg
  refine ⟨h0,h3,hd,?_⟩;rw [hst] at hi;exact (Bi.itoa_text hd h0).1 hi
theorem rParse_all (s:List UInt8) (w:World) (hs:s.length≤1000000) :
  Calls Tryz.prog 56 #[.string ⟨s.toArray⟩] w fun e w' => RParse w' (Lib.hasPrefix s [45]) (Lib.trimPrefix s [45]) s e∧Below w.heap.size w w' :=
 rParse_any s _ _ hs (hii (split_any s)) w
end Go.Proofs.YtaedmaifkfhpfaaGreatDoor
namespace Bi
open Go.Lib (decDigits nDigits itoa)
theorem dec_all (n:Nat):(∀ b∈decDigits n,isDig b)∧decVal (decDigits n)=n∧decDigits n ≠ []∧(n ≠ 0→(decDigits n).head? ≠ some 48):=by
 induction n using Nat.strongRecOn with
 | ind n ih =>
  by_cases h:n < 10
  ·rw [Go.Lib.decDigits_one h];have hb:(UInt8.ofNat (48 + n)).toNat=48 + n:=by
    rw [UInt8.toNat_ofNat']; omega
   refine ⟨fun b hb' => ?_,?_,by simp,fun h0 => ?_⟩
   ·simp only [List.mem_singleton] at hb';subst hb';unfold isDig; rw [hb]; omega
   ·simp only [decVal,hb,List.length_nil,Nat.pow_zero]; omega
   ·intro e;simp only [List.head?_cons,Option.some.injEq] at e;have:=congrArg UInt8.toNat e;rw [hb] at this;have h48:(48:UInt8).toNat=48:=rfl;omega
  ·obtain ⟨h1,h2,h3,h4⟩:=ih (n / 10) (by omega);have hb:(UInt8.ofNat (48 + n % 10)).toNat=48 + n % 10:=by
    rw [UInt8.toNat_ofNat']; omega
   rw [decDigits,dif_neg h];refine ⟨fun b hb' => ?_,?_,by simp,fun _ => ?_⟩
   ·rcases List.mem_append.1 hb' with hb' | hb'
    ·exact h1 b hb'
    ·simp only [List.mem_singleton] at hb';subst hb';unfold isDig; rw [hb]; omega
   ·rw [val_snoc_dig,h2,hb]; omega
   ·have:=h4 (by omega)
    cases hd:decDigits (n / 10) with
    | nil => exact absurd hd h3
    | cons x r =>
     rw [hd] at this
     simpa using this
theorem dec_len {n:Nat} (h:n < Big):(decDigits n).length≤300:=by
 rw [Go.Lib.decDigits_length]
 by_cases h0:n=0
 ·rw [h0,Go.Lib.nDigits_small (by decide)]; decide
 ·have h3:∀ a k:Nat,k=a + a→10 ^ a * 10 ^ a=10 ^ k:=fun a k hk => by rw [hk,Nat.pow_add]
  obtain ⟨k,hk⟩:∃ k:Nat,k=300:=⟨_,rfl⟩;rw [← hk];exact (nd_le h0).2 (Nat.lt_of_lt_of_eq h (h3 150 k (by omega)))
theorem itoa_parts {z:Int} (h:z.natAbs < Big):∃ (neg:Bool) (t:List UInt8),itoa z=(if neg=true then [45] else []) ++ t∧Go.Lib.hasPrefix (itoa z) [45]=neg∧Go.Lib.trimPrefix (itoa z) [45]=t∧textP neg t∧sgnT neg (decVal t)=z:=by
 obtain ⟨h1,h2,h3,h4⟩:=dec_all z.natAbs;have hl:=dec_len h
 by_cases hz:z < 0
 ·have e:itoa z=45 :: decDigits z.natAbs:=by unfold itoa; rw [if_pos hz]
  have hp:Go.Lib.hasPrefix (45 :: decDigits z.natAbs) [45]=true:=by simp [Go.Lib.hasPrefix]
  refine ⟨true,decDigits z.natAbs,by rw [e]; rfl,by rw [e]; exact hp,by rw [e]; unfold Go.Lib.trimPrefix; rw [if_pos hp]; rfl,⟨h3,hl,h1,fun hh => h4 (by omega) hh.1⟩,?_⟩;simp only [sgnT,if_true,h2]; omega
 ·have e:itoa z=decDigits z.natAbs:=by unfold itoa; rw [if_neg hz,show z.toNat=z.natAbs by omega]
  have hp:Go.Lib.hasPrefix (decDigits z.natAbs) [45]=false:=by
   cases hd:decDigits z.natAbs with
   | nil => exact absurd hd h3
   | cons x r =>
    have hx:isDig x:=h1 x (by rw [hd]; simp);have hb:((45:UInt8) == x)=false:=by
     rw [beq_eq_false_iff_ne];rintro rfl;unfold isDig at hx;have:(45:UInt8).toNat=45:=rfl;omega
    unfold Go.Lib.hasPrefix;rw [List.isPrefixOf,hb]
    rfl
  refine ⟨false,decDigits z.natAbs,by rw [e]; rfl,by rw [e]; exact hp,by rw [e]; unfold Go.Lib.trimPrefix; rw [if_neg (by rw [hp]; simp)],⟨h3,hl,h1,fun hh => ?_⟩,?_⟩
  ·by_cases h0:z.natAbs=0
   ·rw [h0,Go.Lib.decDigits_one (by decide)] at hh;simp at hh
   ·exact h4 h0 hh.1
  ·simp only [sgnT,Bool.false_eq_true,if_false,h2]; omega
end Bi
