import Derived.Test.YtileholjbdhmjaaGreatDoorI1
import Derived.Test.YtileholjbdhmjaaGreatDoorI2
import Derived.Test.YtileholjbdhmjaaGreatDoorI1
import Derived.Lib.ItoaNum
import Derived.Test.YtileholjbdhmjaaGreatDoorShelf
import Derived.WalkSmall
import Derived.Lib.AppendIntMem
import Derived.Deep.RegionHeld3
import Derived.Deep.RegionHeldLaw
import Derived.Test.YtileholjbdhmjaaGreatDoorI8
import Derived.Test.YtileholjbdhmjaaGreatDoorI5
import Derived.RegionTactic
import Derived.BigRegion
import Derived.Lib.Atoi
import Derived.Lib.SlTrimSet
import Derived.Lib.Strings
import Derived.Shelf.Strings.SlTrimAscii
import Derived.Test.YtileholjbdhmjaaGreatDoorProg
import Derived.WalkKit
import Derived.Below
import Derived.Test.YtileholjbdhmjaaGreatDoorShelfB
import Derived.Lib.AtoiErrMem
import Derived.Test.YtileholjbdhmjaaGreatDoorD1
import Derived.Test.YtileholjbdhmjaaGreatDoorOQ
import Derived.Test.YtileholjbdhmjaaGreatDoorFlowX
import Derived.Test.YtileholjbdhmjaaGreatDoorDuJ
import Derived.Lib.SliceRun
import Derived.Test.YtileholjbdhmjaaGreatDoorD5
import Derived.Laws.CopyRow
set_option linter.unusedVariables false
set_option linter.unusedSimpArgs false
set_option maxRecDepth 100000
set_option maxHeartbeats 25600000
namespace Bi
open Go.Lib (nDigits decDigits)
/-! ### division -/
end Bi
namespace Go.Proofs.YtileholjbdhmjaaGreatDoor
open Go.RowKit
section
variable {ops : Array Oper} {o : Oper} {a : Act} {Q : Exit → Act → World → Prop} {K : Act → World → Prop} {E : Prop}
end
theorem abs_any (a:Value) (x:Int) (w:World) (ha:IntV w a x) :
  Calls Tryz.prog 126 #[a] w fun e w' => (∃ (ng:Bool) (ao:Option Addr) (n cap:Nat),e=.returned (.agg #[.bool ng,.slice ao n cap])∧Hid (IntV w' (.agg #[.bool ng,.slice ao n cap]) (x.natAbs:Int)))∧Below w.heap.size w w':=by
 obtain ⟨n1,ao1,L1,c1,rfl,Hn1,HL1,HB1,hc1,hl1,hU1⟩:=ha;go_enter Tryz.func126,Tryz.ntmps126;go_wp2_with fail;obtain ⟨wx,hwx,hsz,B1,B2,hbx⟩:=boxes2 w (.bool n1) (.slice ao1 L1.length c1) (.bool false) (.slice none 0 0) 36;rw [← hwx];clear hwx;(with_reducible refine (rmake_any false L1 ao1 c1 wx ?_ (hU1.mono hbx) (hii ?_)).mono ?_)
 ·omega
 ·rw [HL1.out]; exact Bi.limbs_ok _
 rintro e w3 ⟨⟨ng,a3,n3,c3,k3,rfl,HR⟩,hb3⟩;have hB:=B2.mono hb3;have hlt:=hB.lt;obtain ⟨p0,p1,q0,q1⟩:=hB;clear hU1;go_wp2;have hV:Hid (IntV w3 (.agg #[.bool ng,.slice a3 n3 c3]) (x.natAbs:Int)):=hii (by
  have e2:sgn false (Bi.val L1)=(x.natAbs:Int):=by rw [HL1.out,Bi.val_limbs]; simp [sgn]
  rw [e2] at HR;rcases HR.out with ⟨_,_,h⟩ | ⟨h,_⟩
  ·exact h
  ·rw [Int.natAbs_natCast] at h; exact absurd HB1.out h)
 refine bodyPost_ret (v:=.agg #[.bool ng,.slice a3 n3 c3]) (by simp [results,Tryz.results126,go_sem,p0,p1,hlt]) rfl ⟨⟨ng,a3,n3,c3,rfl,hii ((hV.out.put2 p0 p1 _ _).mono (bA _ _))⟩,?_⟩;refine (Below.put2 (bu hbx hb3) (by omega) _ _).alloc ?_ _;have:=hb3.size; have:=hbx.size; simp [World.setCell]; omega
end Go.Proofs.YtileholjbdhmjaaGreatDoor
namespace Bi
end Bi
namespace Go.Proofs.YtileholjbdhmjaaGreatDoor
open Go.RowKit
end Go.Proofs.YtileholjbdhmjaaGreatDoor
namespace Bi
end Bi
namespace Go.Proofs.YtileholjbdhmjaaGreatDoor
open Go.RowKit
end Go.Proofs.YtileholjbdhmjaaGreatDoor
namespace Bi
open Go
end Bi
namespace Go.Proofs.YtileholjbdhmjaaGreatDoor
open Go.RowKit
end Go.Proofs.YtileholjbdhmjaaGreatDoor
namespace Go
open Go.RowKit
section
variable {P : Program} {ops : Array Oper} {Q : Exit → Act → World → Prop} {md : Region.Mode}
end
end Go
namespace Go.Proofs.YtileholjbdhmjaaGreatDoor
open Go.RowKit
end Go.Proofs.YtileholjbdhmjaaGreatDoor
namespace Bi
open Go.Lib (decDigits nDigits)
theorem lastD_length:∀ (k x:Nat),(lastD k x).length=k
 | 0,_ => rfl
 | k + 1,x => by simp [lastD,lastD_length k]
theorem lastD_front:∀ (k x:Nat),lastD (k + 1) x=UInt8.ofNat (48 + x / 10 ^ k % 10) :: lastD k x
 | 0,x => by simp [lastD]
 | k + 1,x => by
  rw [lastD,lastD_front k (x / 10)];have:x / 10 / 10 ^ k=x / 10 ^ (k + 1):=by rw [Nat.div_div_eq_div_mul,Nat.pow_succ,Nat.mul_comm]
  rw [this,List.cons_append]
  rfl
theorem lastD_cat:∀ (b a x y:Nat),x < 10 ^ b→lastD (a + b) (y * 10 ^ b + x)=lastD a y ++ lastD b x
 | 0,a,x,y,h => by
  have:x=0:=by simpa using h
  subst this;simp [lastD]
 | b + 1,a,x,y,h => by
  have e1:(y * 10 ^ (b + 1) + x) / 10=y * 10 ^ b + x / 10:=by
   rw [Nat.pow_succ,← Nat.mul_assoc]; omega
  have e2:(y * 10 ^ (b + 1) + x) % 10=x % 10:=by
   rw [Nat.pow_succ,← Nat.mul_assoc]; omega
  show lastD (a + b + 1) _=_
  rw [lastD,e1,e2,lastD_cat b a (x / 10) y (by rw [Nat.pow_succ] at h; omega),List.append_assoc]
  rfl
theorem dec_last {k x:Nat} (h1:x / 10 ^ k=0) (h2:k=0→x=0) (h3:k ≠ 0→x / 10 ^ (k - 1) ≠ 0) (hx:x ≠ 0):decDigits x=lastD k x:=by
 have hk:1≤k:=by
  apply Nat.le_of_not_lt; intro h
  exact hx (h2 (by omega))
 have hlt:x < 10 ^ k:=by
  have:=(Nat.div_eq_zero_iff_lt (Nat.pow_pos (by decide):0 < 10 ^ k)).1 h1;exact this
 have hge:10 ^ (k - 1)≤x:=by
  apply Nat.le_of_not_lt; intro h
  exact h3 (by omega) (Nat.div_eq_of_lt h)
 obtain ⟨j,rfl⟩:∃ j,k=j + 1:=⟨k - 1,by omega⟩;have hn:=Go.Lib.nDigits_unique j x (by simpa using hge) hlt;rw [← lastD_dec (j + 1) x (by omega) hlt,hn];simp
theorem low_limb {k v x:Nat} (hv:v < 1000000000 ^ k):lastD 9 x ++ lastD (9 * k) v=lastD (9 * (k + 1)) (v + 1000000000 ^ k * x):=by
 rw [pow9] at hv ⊢;rw [show 9 * (k + 1)=9 + 9 * k by omega,← lastD_cat (9 * k) 9 v x hv]
 congr 1
 rw [Nat.mul_comm,Nat.add_comm]
theorem dec_low {k v x:Nat} (hv:v < 1000000000 ^ k) (hx:0 < x):decDigits x ++ lastD (9 * k) v=decDigits (v + 1000000000 ^ k * x):=by
 rw [pow9] at hv ⊢;rw [← dec_split (9 * k) x v hx hv]
 congr 1
 rw [Nat.mul_comm,Nat.add_comm]
def refT (L:List Nat) (i:Nat):List UInt8:=if i < L.length then lastD (9 * i) (val (L.take i)) else decDigits (val L)
theorem take_val {L:List Nat} {i z:Nat} (hi:i < L.length) (hz:L.getD i 0=z):val (L.take (i + 1))=val (L.take i) + 1000000000 ^ i * z:=by
 rw [List.getD_eq_getElem?_getD,gE hi] at hz;simp only [Option.getD_some] at hz;rw [List.take_succ_eq_append_getElem hi,val_snoc,hz,List.length_take,Nat.min_eq_left (by omega)]
theorem take_lt {L:List Nat} (ho:Ok L) {i:Nat} (hi:i≤L.length):val (L.take i) < 1000000000 ^ i:=by
 have h:Ok (L.take i):=fun x hx => ho x (List.mem_of_mem_take hx)
 have:=val_lt h;rw [List.length_take,Nat.min_eq_left hi] at this;exact this
theorem refT_step {L:List Nat} (ho:Ok L) {i z:Nat} (hi:i + 1 < L.length) (hz:L.getD i 0=z):lastD 9 z ++ refT L i=refT L (i + 1):=by
 unfold refT;rw [if_pos (by omega),if_pos hi,low_limb (take_lt ho (by omega)),take_val (by omega) hz]
theorem refT_last {n:Nat} {L:List Nat} (h:L=limbs n) (ho:Ok L) {i z k:Nat} (hi:i + 1=L.length) (hz:L.getD i 0=z) (h1:z / 10 ^ k=0) (h3:k=0∨z / 10 ^ (k - 1) ≠ 0):lastD k z ++ refT L i=refT L (i + 1):=by
 have hz0:z ≠ 0:=by
  have h2:=drop_pos h (j:=i) (by omega);rw [drop_cons (by omega) hz,List.drop_eq_nil_of_le (by omega)] at h2;simp [val] at h2;omega
 have hk:k=0→z=0:=by
  rintro rfl
  simpa using h1
 unfold refT;rw [if_pos (by omega),if_neg (by omega),← dec_last h1 hk (fun hk0 => by rcases h3 with h3 | h3; exact absurd h3 hk0; exact h3) hz0,dec_low (take_lt ho (by omega)) (by omega),← take_val (by omega) hz,hi,List.take_length]
end Bi
namespace Go.Proofs.YtileholjbdhmjaaGreatDoor
open Go.RowKit
theorem enc_digit (y:Nat):Utf8.encode (48 + (y:Int) % 10)=⟨[UInt8.ofNat (48 + y % 10)].toArray⟩:=by
 have key:∀ d:Nat,d < 10→Utf8.encode (48 + (d:Int))=⟨[UInt8.ofNat (48 + d)].toArray⟩:=by
  intro d hd;have h:d=0∨d=1∨d=2∨d=3∨d=4∨d=5∨d=6∨d=7∨d=8∨d=9:=by omega
  rcases h with rfl | rfl | rfl | rfl | rfl | rfl | rfl | rfl | rfl | rfl <;> rfl
 have:=key (y % 10) (Nat.mod_lt _ (by decide));rw [Int.natCast_emod] at this;exact this
theorem ba_cat (a b:List UInt8):(⟨a.toArray⟩:ByteArray) ++ ⟨b.toArray⟩=⟨(a ++ b).toArray⟩:=by
 apply ByteArray.ext
 simp
theorem fmt_rel {z k y:Nat} {low:List UInt8} (HY:y=z / 10 ^ k):Value.string (Utf8.encode (48 + (y:Int) % 10) ++ ⟨(Bi.lastD k z ++ low).toArray⟩)=Value.string ⟨(Bi.lastD (k + 1) z ++ low).toArray⟩:=by
 rw [enc_digit,ba_cat,Bi.lastD_front,← HY]
 rfl
theorem cat_small {y z k i:Nat} {L:List Nat} (hk:k≤9) (hi:i < L.length) (hl:L.length≤34):(Utf8.encode (48 + (y:Int) % 10)).size + ((Bi.lastD k z).length + (Bi.refT L i).length)≤1000:=by
 have hs1:(Utf8.encode (48 + (y:Int) % 10)).size≤1:=by
  rw [enc_digit]; exact Nat.le_refl 1
 have hs2:(Bi.lastD k z).length≤9:=by rw [Bi.lastD_length]; omega
 have hs3:(Bi.refT L i).length≤306:=by unfold Bi.refT; rw [if_pos hi,Bi.lastD_length]; omega
 omega
theorem rFormat_any (a:Value) (x:Int) (w:World) (ha:IntV w a x) :
  Calls Tryz.prog 125 #[a] w fun e w' => e=.returned (.string ⟨(Lib.itoa x).toArray⟩)∧Below w.heap.size w w':=by
 obtain ⟨n1,ao1,L1,c1,rfl,Hn1,HL1,HB1,hc1,hl1,hU1⟩:=id ha;go_enter Tryz.func125,Tryz.ntmps125;have hbw:=bA w (.cells #[.bool n1,.slice ao1 L1.length c1] 36);have B1:=Box.new w (.bool n1) (.slice ao1 L1.length c1) 36;have hU:=hU1.mono hbw;clear hU1 ha;have Hit:Hid (Lib.itoa x=(if n1=true then [45] else []) ++ Lib.decDigits x.natAbs):=hii (by
  unfold Lib.itoa;rw [Hn1.out]
  by_cases h:x < 0
  ·simp [h]
  ·simp [h,show x.toNat=x.natAbs by omega])
 obtain ⟨p0,p1,_,_⟩:=id B1
 by_cases hL:L1=[]
 ·subst hL;have hx:x.natAbs=0:=by
   have:=congrArg Bi.val HL1.out;rw [Bi.val_limbs] at this;exact this.symm
  have hx0:x=0:=by omega
  subst hx0;have hz:Hid (Lib.itoa 0=[48]):=hii (by
   unfold Lib.itoa;rw [if_neg (by decide),show Int.toNat 0=0 from rfl,Lib.decDigits_one (by decide)]
   rfl)
  clear Hit hx hU;go_wp2;go_ret;exact ⟨by rw [hz.out]; rfl,hbw⟩
 have hlen:1≤L1.length:=by
  have:=List.length_pos_iff.2 hL;omega
 have HV:Hid (Bi.val L1=x.natAbs):=hii (by rw [HL1.out,Bi.val_limbs]);have HOK:Hid (Bi.Ok L1):=hii (by rw [HL1.out]; exact Bi.limbs_ok _);clear hL;go_upto_region 3 with fail;generalize w.alloc (.cells #[.bool n1,.slice ao1 L1.length c1] 36)=w1 at *;go_wp2_with fail;go_loop [3,4,5,6] (fun s3 s4 _ _ => ∃ i:Nat,i≤L1.length∧s4=.int .i64 i∧s3=.string ⟨(Bi.refT L1 i).toArray⟩) (fun _ s4 _ _ => L1.length - (intOf s4).toNat)
 case atStart =>
  refine ⟨0,by omega,rfl,?_⟩;unfold Bi.refT;rw [if_pos (by omega)]
  rfl
 case round =>
  obtain ⟨i,hi,rfl,rfl⟩:=hrel
  by_cases hlt:i < L1.length
  ·obtain ⟨z,hz⟩:=get_some (l:=L1) (k:=i) (by omega);obtain ⟨b1,o1,rfl,hcz⟩:=hU.at' hz;have bz:=HOK.out.at' hz;have HZ:=hii (Bi.getD_of hz);have HBZ:=hii bz;clear hz bz;go_wp2_with fail;clear hcz;go_loop [3,5,6] (fun s3 s5 s6 => ∃ k y:Nat,k≤9∧y < 1000000000∧s6=.int .i64 k∧s5=.int .u32 y∧s3=.string ⟨(Bi.lastD k z ++ Bi.refT L1 i).toArray⟩∧Hid (y=z / 10 ^ k)∧Hid (i + 1=L1.length→k=0∨z / 10 ^ (k - 1) ≠ 0)) (fun _ _ s6 => (9 - intOf s6).toNat)
   case atStart => exact ⟨0,z,by omega,by have:=HBZ.out; omega,rfl,rfl,rfl,hii (by simp),hii fun _ => .inl rfl⟩
   case round =>
    obtain ⟨k,y,hk,hy,rfl,rfl,rfl,HY,HK⟩:=hrel
    by_cases hgo:k < 9∧(0 < y∨i + 1 < L1.length)
    ·obtain ⟨hk9,hor⟩:=hgo;have HOR:=hii hor;have hrel1:=fmt_rel (low:=Bi.refT L1 i) HY.out;have hy1:((y:Int) / 10)=((y / 10:Nat):Int):=by omega
     have HR1:=hii hrel1;have HY1:=hii hy1;have HY2:Hid (y / 10=z / 10 ^ (k + 1)):=hii (by rw [HY.out,Nat.div_div_eq_div_mul,Nat.pow_succ]);clear hrel1 hy1;have hyc:(0:Int) < (y:Int)∨(decide (0 < y)=false∧(i:Int) < (L1.length:Int) - 1):=by
      by_cases h:0 < y
      ·exact .inl (by omega)
      ·exact .inr ⟨by simpa using h,by rcases hor with h' | h'; omega; omega⟩
     clear hor;rcases hyc with hy0 | ⟨hy0,hi0⟩
     all_goals
      go_wp2
      ·have:=cat_small (y:=y) (z:=z) hk hlt hl1; omega
      ·refine ⟨⟨k + 1,y / 10,by omega,by omega,by go_num,by rw [← HY1.out],HR1.out,HY2,hii fun hl => .inr (by rw [Nat.add_sub_cancel,← HY.out]; have:=HOR.out; omega)⟩,?_⟩;simp [intOf]; omega
    ·have hend:Hid (Bi.lastD k z ++ Bi.refT L1 i=Bi.refT L1 (i + 1)):=hii (by
      by_cases hl:i + 1 < L1.length
      ·obtain rfl:k=9:=by omega
       exact Bi.refT_step HOK.out hl HZ.out
      ·have hl':i + 1=L1.length:=by omega
       refine Bi.refT_last HL1.out HOK.out hl' HZ.out ?_ (HK.out hl')
       by_cases hk9:k < 9
       ·have:y=0:=by omega
        rw [← HY.out]; exact this
       ·obtain rfl:k=9:=by omega
        exact Nat.div_eq_of_lt HBZ.out)
     have hex:decide ((k:Int) < 9)=false∨((k:Int) < 9∧decide (0 < y)=false∧decide ((i:Int) < (L1.length:Int) - 1)=false):=by
      simp only [decide_eq_false_iff_not]; omega
     clear hgo HY HK;rcases hex with hk9 | ⟨hk9,hy0,hi0⟩
     all_goals
      go_wp2;refine ⟨⟨i + 1,by omega,by go_num,by rw [hend.out]⟩,?_⟩;simp [intOf]; omega
  ·obtain rfl:i=L1.length:=by omega
   have HF:Hid (Bi.refT L1 L1.length=Lib.decDigits x.natAbs):=hii (by
    unfold Bi.refT;rw [if_neg (by omega),HV.out])
   have hs3:(Bi.refT L1 L1.length).length≤300:=by
    have:=Bi.outT_len (L:=L1) (by rw [HV.out]; exact HB1.out) 0;unfold Bi.outT at this;rw [if_pos (by omega),List.drop_zero,HV.out] at this;rw [HF.out];exact this
   clear HL1 HB1 hU
   cases n1
   ·go_wp2;go_ret;exact ⟨by rw [Hit.out,HF.out]; rfl,hbw⟩
   ·go_wp2;go_ret;exact ⟨by rw [Hit.out,HF.out]; rfl,hbw⟩
end Go.Proofs.YtileholjbdhmjaaGreatDoor
namespace Bi
open Go.Lib (decDigits nDigits itoa)
end Bi
namespace Bi
end Bi
namespace Go.Proofs.YtileholjbdhmjaaGreatDoor
open Go.RowKit
end Go.Proofs.YtileholjbdhmjaaGreatDoor
namespace Bi
open Go.Lib (decDigits nDigits itoa)
end Bi
namespace Go.Proofs.YtileholjbdhmjaaGreatDoor
open Go.RowKit
section
variable {ops : Array Oper} {rest : List Oper} {o : Oper} {a : Act} {Q : Exit → Act → World → Prop}
end
theorem rFormat_sz (a:Value) (n:Nat) (w:World) (ha:IntV w a (n:Int)) :
  Calls Tryz.prog 125 #[a] w fun e w' => (∃ t:ByteArray,e=.returned (.string t)∧t.size=(Lib.decDigits n).length)∧Below w.heap.size w w' :=
 (rFormat_any a n w ha).mono fun e w' ⟨he,hb⟩ => ⟨⟨_,he,by rw [itoa_nat]; simp [ByteArray.size]⟩,hb⟩
theorem rshort_any (v:Value) (r:Rat) (w:World) (h:RatV w v r) :
  Calls Tryz.prog 101 #[v] w fun e w' => e=.returned (.bool (shortB r))∧Below w.heap.size w w':=by
 have hbw:=Below.refl w.heap.size w;obtain ⟨A0,hA0⟩:∃ A0,A0=(Lib.decDigits r.num.natAbs).length:=⟨_,rfl⟩;obtain ⟨A1,hA1⟩:∃ A1,A1=(Lib.decDigits r.den).length:=⟨_,rfl⟩;have hres:shortB r=(decide (A0≤20) && decide (A1≤20)):=by rw [hA0,hA1]; rfl
 rw [hres];obtain ⟨ng1,ao1,n1,cap1,ng2,ao2,n2,cap2,rfl,h1,h2⟩:=h;have HV1:=hii h1;have HV2:=hii h2;clear h1 h2 hres;have HA0:=hii hA0;have HA1:=hii hA1;clear hA0 hA1;go_enter Tryz.func101,Tryz.ntmps101;go_upto_region 1 with fail;have X1:=Box4.new w (.bool ng1) (.slice ao1 n1 cap1) (.bool ng2) (.slice ao2 n2 cap2) 38;have hb:=bA w (.cells #[.bool ng1,.slice ao1 n1 cap1,.bool ng2,.slice ao2 n2 cap2] 38);generalize w.alloc (.cells #[.bool ng1,.slice ao1 n1 cap1,.bool ng2,.slice ao2 n2 cap2] 38)=v1 at *;have HV1:=hii (HV1.out.mono hb);have HV2:=hii (HV2.out.mono hb);have hbw:=bu hbw hb;clear hb;obtain ⟨x1a,x1b,x1c,x1d,_,_,_,_⟩:=id X1;go_wp2_with fail;(with_reducible refine (abs_any _ r.num v1 HV1.out).mono ?_);rintro e v2 ⟨⟨ng3,ao3,n3,cap3,rfl,HV3⟩,hb⟩;have HV2:=hii (HV2.out.mono hb);have X1:=X1.mono hb;have hbw:=bu hbw hb;clear hb x1a x1b x1c x1d;go_wp2_with fail;(with_reducible refine (rFormat_sz _ r.num.natAbs v2 HV3.out).mono ?_);rintro e v3 ⟨⟨t,rfl,hts⟩,hb⟩;have HT:Hid (t.size=A0):=hii (hts.trans HA0.out.symm);have HV2:=hii (HV2.out.mono hb);have X1:=X1.mono hb;have hbw:=bu hbw hb;clear hb hts
 by_cases hle:t.size≤20
 ·have hg1:(t.size:Int)≤20:=by omega
  have hg2:decide ((t.size:Int)≤20)=true:=by simpa using hg1
  obtain ⟨x1a,x1b,x1c,x1d,_,_,_,_⟩:=id X1;go_wp2_with fail;(with_reducible refine (rFormat_sz _ r.den v3 HV2.out).mono ?_);rintro e v4 ⟨⟨t2,rfl,hts⟩,hb⟩;have HT2:Hid (t2.size=A1):=hii (hts.trans HA1.out.symm);have hbw:=bu hbw hb;clear hb hts x1a x1b x1c x1d;have hA0':A0≤20:=by rw [← HT.out]; exact hle
  have HA0':=hii hA0';clear hA0';go_wp2;go_ret;refine ⟨?_,hbw⟩;rw [← HT2.out];have:=HA0'.out;simp [this]
  try omega
 ·have hg1:¬ ((t.size:Int)≤20):=by omega
  have hg2:decide ((t.size:Int)≤20)=false:=by simpa using hg1
  go_wp2;go_ret;refine ⟨?_,hbw⟩;have:¬ A0≤20:=by rw [← HT.out]; exact hle
  simp [this]
theorem numErr_long {l:List Qo} (hb:∀ x∈l,x.isNone=false) {r:Rat} (h:some r∈l) (hs:shortB r=false):numErr l=3:=by
 have:longQ l=true:=by unfold longQ; rw [List.any_eq_true]; exact ⟨some r,h,by simp [longO,hs]⟩
 unfold numErr; rw [badQ_none hb,this]; rfl
theorem take_all {α:Type} {p:α→Prop} {l:List α} {k:Nat} {a:α} (hk:l[k]?=some a) (h:∀ x∈l.take k,p x) (ha:p a):∀ x∈l.take (k + 1),p x:=by
 intro x hx;rw [List.take_add_one,hk] at hx;rcases List.mem_append.1 hx with h' | h'
 ·exact h x h'
 ·simp at h'; subst h'; exact ha
theorem rlist13_any (l:List Qo) (aa:Option Addr) (ca:Nat) (w:World) (hl:l.length≤1000000000) (ua:UQ w aa l) (hE:Env w) :
  Calls Tryz.prog 69 #[.slice aa l.length ca] w fun e w' => e=.returned (.int .i64 (numErr l))∧Below w.heap.size w w':=by
 have hbw:=Below.refl w.heap.size w;go_enter Tryz.func69,Tryz.ntmps69;go_wp2_with fail;go_loopw [3] (fun s wr => ∃ k:Nat,k≤l.length∧s=.int .i64 k∧Hid (∀ x∈l.take k,x.isNone=false)∧Env wr∧Below w.heap.size w wr) (fun s _ => l.length - (intOf s).toNat)
 case atStart => exact ⟨0,Nat.zero_le _,rfl,hii (by simp),hE,hbw⟩
 case round =>
  clear hbw hE;obtain ⟨k,hk,rfl,HN,hE,hbw⟩:=hrel
  by_cases hlt:k < l.length
  ·obtain ⟨r,hr⟩:∃ x,l[k]?=some x:=⟨l[k],gE hlt⟩;obtain ⟨b1,off1,ngp,aop,np,capp,ngq,aoq,nq,capq,ea,FA,HVA⟩:=(ua.mono hbw) k r hr;have HVA:=HVA.vq;have Hr:=hii hr;clear hr ua;subst ea;obtain ⟨cFA_0,cFA_1,cFA_2,cFA_3,_,_,_,_⟩:=id FA
   cases r with
   | none =>
    go_wp2_with fail;(with_reducible refine (rValid_v _ false wr HVA hE).mono ?_);rintro e v2 ⟨rfl,hb⟩;have hbw:=bu hbw hb;go_wp2;go_ret;refine ⟨?_,hbw⟩;rw [numErr_bad (List.mem_of_getElem? Hr.out)]; rfl
   | some r =>
    go_wp2_with fail;(with_reducible refine (rValid_v _ true wr HVA hE).mono ?_);rintro e v2 ⟨rfl,hb⟩;have hE:=hE.mono hb;have hbw:=bu hbw hb;go_wp2;go_roundw
    case rel => exact ⟨k + 1,by omega,by go_num,hii (take_all Hr.out HN.out rfl),hE,hbw⟩
    case measure => simp [intOf]; omega
  ·obtain rfl:k=l.length:=by omega
   have HN:Hid (∀ x∈l,x.isNone=false):=hii fun x hx => HN.out x (by rw [List.take_length]; exact hx)
   clear hk hlt;go_wp2_with fail;go_loopw [4] (fun s wr => ∃ k:Nat,k≤l.length∧s=.int .i64 k∧Hid (∀ x∈l.take k,longO x=false)∧Env wr∧Below w.heap.size w wr) (fun s _ => l.length - (intOf s).toNat)
   case atStart => exact ⟨0,Nat.zero_le _,rfl,hii (by simp),hE,hbw⟩
   case round =>
    clear hbw hE;obtain ⟨k,hk,rfl,HL,hE,hbw⟩:=hrel
    by_cases hlt:k < l.length
    ·obtain ⟨o,hr⟩:∃ x,l[k]?=some x:=⟨l[k],gE hlt⟩;obtain ⟨b1,off1,ngp,aop,np,capp,ngq,aoq,nq,capq,ea,FA,HVA⟩:=(ua.mono hbw) k o hr;have hsome:=HN.out o (List.mem_of_getElem? hr);have Hr:=hii hr;clear hr ua;subst ea
     cases o with
     | none => cases hsome
     | some r =>
      have HVA:RatV _ _ r:=HVA;clear hsome;obtain ⟨cFA_0,cFA_1,cFA_2,cFA_3,_,_,_,_⟩:=id FA
      cases hs:shortB r with
      | true =>
       have Hs:=hii hs;go_wp2_with fail;(with_reducible refine (rshort_any _ r _ HVA).mono ?_);rw [hs];clear hs;rintro e v2 ⟨rfl,hb⟩;have hE:=hE.mono hb;have hbw:=bu hbw hb;go_wp2;go_roundw
       case rel => exact ⟨k + 1,by omega,by go_num,hii (take_all Hr.out HL.out (by simp [longO,Hs.out])),hE,hbw⟩
       case measure => simp [intOf]; omega
      | false =>
       have Hs:=hii hs;go_wp2_with fail;(with_reducible refine (rshort_any _ r _ HVA).mono ?_);rw [hs];clear hs;rintro e v2 ⟨rfl,hb⟩;have hbw:=bu hbw hb;go_wp2;go_ret;refine ⟨?_,hbw⟩;rw [numErr_long HN.out (List.mem_of_getElem? Hr.out) Hs.out]; rfl
    ·obtain rfl:k=l.length:=by omega
     go_wp2;go_ret;refine ⟨?_,hbw⟩;rw [numErr_ok HN.out (fun x hx => HL.out x (by rw [List.take_length]; exact hx))]; rfl
theorem flat_len {l:List (List Qo)} {n:Nat} (h:∀ r∈l,r.length=n):l.flatten.length=l.length * n:=by
 induction l with
 | nil => simp
 | cons r l ih =>
  rw [List.flatten_cons,List.length_append,ih (fun x hx => h x (by simp [hx])),h r (by simp),List.length_cons,Nat.add_mul]; omega
theorem rValid13_any (p:Prg) (v:Value) (w:World) (h:PrgV w v p) (hE:Env w) :
  Calls Tryz.prog 35 #[v] w fun e w' => e=.returned (.int .i64 p.err)∧Below w.heap.size w w':=by
 obtain ⟨aA,cA,aB,cB,aC,cC,rfl,uA,uB,uC⟩:=h;go_enter Tryz.func35,Tryz.ntmps35;go_upto_region 1 with fail;have hb0:=bA w (.cells #[.slice aA p.A.length cA,.slice aB p.B.length cB,.slice aC p.C.length cC] 30);have rA:Row (w.alloc (.cells #[.slice aA p.A.length cA,.slice aB p.B.length cB,.slice aC p.C.length cC] 30)) w.heap.size 30 [.slice aA p.A.length cA,.slice aB p.B.length cB,.slice aC p.C.length cC]:=heap_alloc_new _ _;obtain ⟨g,hg⟩:∃ g,g=w.heap.size:=⟨_,rfl⟩;rw [← hg] at rA ⊢;have Hg:=hii hg;clear hg;generalize w.alloc (.cells #[.slice aA p.A.length cA,.slice aB p.B.length cB,.slice aC p.C.length cC] 30)=w1 at *;have HA:=hii (uA.mono hb0);have HB:=hii (uB.mono hb0);have HCC:=hii (uC.mono hb0);have hE:=hE.mono hb0;have Hb0:=hii hb0;clear uA uB uC hb0;refine wp_region_use (wx:=w1) [(fun _ v => v=.pointer (some ⟨g,1,none⟩)),(fun _ v => v=.slice aB p.B.length cB),(fun _ v => v=.int .i64 p.B.length),(fun _ v => v=.pointer (some ⟨g,2,none⟩)),(fun _ v => v=.slice aC p.C.length cC),(fun _ v => v=.int .i64 p.C.length),(fun _ v => v=.int .i64 p.B.length),(fun _ v => v=.int .i64 p.C.length)] [none,none,none,none,none,none,none,none] [true,true,true,true,true,true,true,true] [some 9,some 10,some 11,some 12,some 13,some 14,some 3,some 4] [9,10,11,12,13,14,3,4] 0 0 (fun _ _ => True) (by decide) (by kernel_rfl) (by kernel_rfl) (by kernel_rfl) (by kernel_rfl) (of_decide_eq_true (by kernel_rfl)) (by kernel_rfl) (by kernel_rfl) (trivial) (fun _ _ _ h _ => h) br ⟨sV _,sV _,sV _,sV _,sV _,sV _,sV _,sV _,trivial⟩ ⟨fun _ => cV _,fun _ => cV _,fun _ => cV _,fun _ => cV _,fun _ => cV _,fun _ => cV _,fun _ => cV _,fun _ => cV _,trivial⟩ ⟨?s0,?s1,?s2,?s3,?s4,?s5,?s6,?s7,trivial⟩ ?he
 case s0 =>
  rintro T W hb hp hA K hK;have hp:=hp rfl;simp only [ovr,Act.put,List.setIfInBounds_toArray,List.set_cons_zero,List.set_cons_succ] at hK ⊢;have HK:=hii hK;clear hK hA;refine wO rfl (by rfl) ?_;go_simp;exact HK.out _ _ ⟨hb,fun _ => br⟩ (rfl)
 case s1 =>
  rintro T W hb - hA K hK;have e0:T 9=.pointer (some ⟨g,1,none⟩):=hA.1 (by decide);obtain ⟨x0,x1,x2⟩:=(rA.below hb).n3;simp only [ovr,Act.put,List.setIfInBounds_toArray,List.set_cons_zero,List.set_cons_succ,e0] at hK ⊢;have HK:=hii hK;clear hK hA;refine wO rfl (by rfl) ?_;go_simp;exact HK.out _ _ ⟨hb,fun _ => br⟩ (rfl)
 case s2 =>
  rintro T W hb - hA K hK;have e1:T 10=.slice aB p.B.length cB:=hA.1 (by decide);simp only [ovr,Act.put,List.setIfInBounds_toArray,List.set_cons_zero,List.set_cons_succ,e1] at hK ⊢;have HK:=hii hK;clear hK hA;refine wO rfl (by rfl) ?_;go_simp;exact HK.out _ _ ⟨hb,fun _ => br⟩ (rfl)
 case s3 =>
  rintro T W hb - hA K hK;simp only [ovr,Act.put,List.setIfInBounds_toArray,List.set_cons_zero,List.set_cons_succ] at hK ⊢;have HK:=hii hK;clear hK hA;refine wO rfl (by rfl) ?_;go_simp;exact HK.out _ _ ⟨hb,fun _ => br⟩ (rfl)
 case s4 =>
  rintro T W hb - hA K hK;have e3:T 12=.pointer (some ⟨g,2,none⟩):=hA.1 (by decide);obtain ⟨x0,x1,x2⟩:=(rA.below hb).n3;simp only [ovr,Act.put,List.setIfInBounds_toArray,List.set_cons_zero,List.set_cons_succ,e3] at hK ⊢;have HK:=hii hK;clear hK hA;refine wO rfl (by rfl) ?_;go_simp;exact HK.out _ _ ⟨hb,fun _ => br⟩ (rfl)
 case s5 =>
  rintro T W hb - hA K hK;have e4:T 13=.slice aC p.C.length cC:=hA.1 (by decide);simp only [ovr,Act.put,List.setIfInBounds_toArray,List.set_cons_zero,List.set_cons_succ,e4] at hK ⊢;have HK:=hii hK;clear hK hA;refine wO rfl (by rfl) ?_;go_simp;exact HK.out _ _ ⟨hb,fun _ => br⟩ (rfl)
 case s6 =>
  rintro T W hb - hA K hK;have e2:T 11=.int .i64 p.B.length:=hA.1 (by decide);simp only [ovr,Act.put,List.setIfInBounds_toArray,List.set_cons_zero,List.set_cons_succ,e2] at hK ⊢;have HK:=hii hK;clear hK hA;refine wO rfl (by rfl) ?_;go_simp;exact HK.out _ _ ⟨hb,fun _ => br⟩ (rfl)
 case s7 =>
  rintro T W hb - hA K hK;have e5:T 14=.int .i64 p.C.length:=hA.1 (by decide);simp only [ovr,Act.put,List.setIfInBounds_toArray,List.set_cons_zero,List.set_cons_succ,e5] at hK ⊢;have HK:=hii hK;clear hK hA;refine wO rfl (by rfl) ?_;go_simp;exact HK.out _ _ ⟨hb,fun _ => br⟩ (rfl)
 case he =>
  rintro T W hb hA;have f6:T 3=.int .i64 p.B.length:=hA.of 6 (by decide) (by decide);have f7:T 4=.int .i64 p.C.length:=hA.of 7 (by decide) (by decide);have hbw:=Hb0.out.trans (hb.mono Hb0.out.size);have HA:=hii (HA.out.mono hb);have HB:=hii (HB.out.mono hb);have HCC:=hii (HCC.out.mono hb);have hE:=hE.mono hb;have rA:=rA.below hb;obtain ⟨x0,x1,x2⟩:=rA.n3;simp only [ovr,List.setIfInBounds_toArray,List.set_cons_zero,List.set_cons_succ,f6,f7];clear hA f6 f7 hb;obtain ⟨wl,rfl⟩:∃ wl:World,wl=W:=⟨_,rfl⟩
  by_cases h1:p.B.length < 1
  ·have g1:(p.B.length:Int) < 1:=by omega
   go_wp2;go_ret;exact ⟨by rw [err_arity (by omega)]; rfl,hbw⟩
  have g1:¬ (p.B.length:Int) < 1:=by omega
  by_cases h2:14 < p.B.length
  ·have g2:(14:Int) < (p.B.length:Int):=by omega
   go_wp2;go_ret;exact ⟨by rw [err_arity (by omega)]; rfl,hbw⟩
  have g2:¬ (14:Int) < (p.B.length:Int):=by omega
  by_cases h3:p.C.length < 1
  ·have g3:(p.C.length:Int) < 1:=by omega
   go_wp2;go_ret;exact ⟨by rw [err_arity (by omega)]; rfl,hbw⟩
  have g3:¬ (p.C.length:Int) < 1:=by omega
  by_cases h4:400 < p.C.length
  ·have g4:(400:Int) < (p.C.length:Int):=by omega
   go_wp2;go_ret;exact ⟨by rw [err_arity (by omega)]; rfl,hbw⟩
  have g4:¬ (400:Int) < (p.C.length:Int):=by omega
  by_cases h5:p.A.length ≠ p.B.length
  ·have g5:((p.A.length:Int) != (p.B.length:Int))=true:=by rw [bne_iff_ne]; omega
   go_wp2;go_ret;exact ⟨by rw [err_arity (by omega)]; rfl,hbw⟩
  have g5:((p.A.length:Int) != (p.B.length:Int))=false:=by rw [bne_eq_false_iff_eq]; omega
  have hm:p.A.length=p.B.length:=by omega
  have hml:p.B.length≤14:=by omega
  have hnl:p.C.length≤400:=by omega
  have hn1:0 < p.C.length:=by omega
  have hm1:0 < p.B.length:=by omega
  have H0:Hid (¬ (p.B.length < 1∨14 < p.B.length∨p.C.length < 1∨400 < p.C.length∨p.A.length ≠ p.B.length)):=hii (by omega);go_wp2_with fail;clear g1 g2 g3 g4 g5 h1 h2 h3 h4 h5;go_loopw [5,6] (fun s c wr => ∃ k:Nat,k≤p.B.length∧c=.int .i64 k∧OwnO wr wl.heap.size s (p.A.take k).flatten∧Hid (∀ r∈p.A.take k,r.length=p.C.length)∧Below wl.heap.size wl wr) (fun _ c _ => p.B.length - (intOf c).toNat)
  case atStart => exact ⟨0,Nat.zero_le _,rfl,OwnO.nil _ _,hii (by simp),br⟩
  case round =>
   obtain ⟨k,hk,rfl,hown,HR,hbr⟩:=hrel
   by_cases hlt:k < p.B.length
   ·obtain ⟨row,hrow⟩:∃ x,p.A[k]?=some x:=⟨p.A[k]'(by omega),gE (by omega)⟩;obtain ⟨b0,off0,ar,cr,ea,hc,uR⟩:=(HA.out.mono hbr) k row hrow;have HF:=hii (flat_snoc hrow);have HRow:=hii hrow;have hfl:(p.A.take k).flatten.length=(p.A.take k).length * p.C.length:=flat_len HR.out;have hfl2:(p.A.take k).flatten.length≤14 * 400:=by
     rw [hfl]; exact Nat.mul_le_mul (by simp; omega) hnl
    have HFL:=hii hfl2;clear hrow hfl hfl2;subst ea;clear x0 x1 x2;obtain ⟨x0,x1,x2⟩:=(rA.below hbr).n3;have hlA:k < p.A.length:=by omega
    by_cases hl:row.length=p.C.length
    ·have g1:((row.length:Int) != (p.C.length:Int))=false:=by rw [bne_eq_false_iff_eq]; omega
     have HL:=hii hl;have hne:0 < row.length:=by omega
     have hll:(p.A.take k).flatten.length + row.length≤1000000:=by have:=HFL.out; omega
     have HLL:=hii hll;clear hl hll;go_wp2_with (at_builtin; refine app_os _ wl wl.heap.size _ (p.A.take k).flatten row ar cr rfl _ _ rfl rfl rfl hown hbr.size hbr uR hne HLL.out ?_; intro v2 w2 hown2 hbel2 hsz2 hgr);go_roundw
     case rel => exact ⟨k + 1,by omega,by go_num,by rw [HF.out]; exact hown2,hii (take_all HRow.out HR.out HL.out),hbel2⟩
     case measure => simp [intOf]; omega
    ·have g1:((row.length:Int) != (p.C.length:Int))=true:=by rw [bne_iff_ne]; omega
     have HL:=hii hl;clear hl;have hbw:=bu hbw hbr;go_wp2;go_ret;exact ⟨by rw [err_row (List.mem_of_getElem? HRow.out) HL.out]; rfl,hbw⟩
   ·obtain rfl:k=p.B.length:=by omega
    have e0:p.A.take p.B.length=p.A:=by rw [← hm]; exact List.take_length
    rw [e0] at hown HR;have hfl:p.A.flatten.length=p.A.length * p.C.length:=flat_len HR.out;have hfl2:p.A.flatten.length≤14 * 400:=by
     rw [hfl]; exact Nat.mul_le_mul (by omega) hnl
    have HFL:=hii hfl2;clear e0 hfl hfl2 hk hlt;have hown0:=hown;obtain ⟨ao,cap,rfl,_⟩:=hown0.read;go_upto_region 11 with fail;refine wp_region_use (wx:=wl) [(fun W v => OwnO W wl.heap.size v p.A.flatten),(fun _ v => v=.pointer (some ⟨g,1,none⟩)),(fun _ v => v=.slice aB p.B.length cB),(fun W v => OwnO W wl.heap.size v (p.A.flatten ++ p.B)),(fun _ v => v=.pointer (some ⟨g,2,none⟩)),(fun _ v => v=.slice aC p.C.length cC),(fun W v => OwnO W wl.heap.size v (p.A.flatten ++ p.B ++ p.C)),(fun W v => OwnO W wl.heap.size v (p.A.flatten ++ p.B ++ p.C))] [some 3,none,none,some 6,none,none,some 7,none] [false,true,true,false,true,true,false,false] [some 56,some 57,some 58,some 59,some 60,some 61,some 62,some 5] [56,57,58,59,60,61,62,5] 0 5 (fun W v => OwnO W wl.heap.size v p.A.flatten) (by decide) (by kernel_rfl) (by kernel_rfl) (by kernel_rfl) (by kernel_rfl) (of_decide_eq_true (by kernel_rfl)) (by kernel_rfl) (by kernel_rfl) (hown.mono br.drew) (fun _ _ _ h hb => h.mono hb) (hbr) ⟨fun _ _ _ h hb => h.mono hb,sV _,sV _,fun _ _ _ h hb => h.mono hb,sV _,sV _,fun _ _ _ h hb => h.mono hb,fun _ _ _ h hb => h.mono hb,trivial⟩ ⟨(fun h => absurd h (by decide)),fun _ => cV _,fun _ => cV _,(fun h => absurd h (by decide)),fun _ => cV _,fun _ => cV _,(fun h => absurd h (by decide)),(fun h => absurd h (by decide)),trivial⟩ ⟨?s0,?s1,?s2,?s3,?s4,?s5,?s6,?s7,trivial⟩ ?he
    case s0 =>
     rintro T W hb hp hA K hK;have hp:=hp rfl;simp only [ovr,Act.put,List.setIfInBounds_toArray,List.set_cons_zero,List.set_cons_succ] at hK ⊢;have HK:=hii hK;clear hK hA;refine wO rfl (by rfl) ?_;go_simp;exact HK.out _ _ ⟨hb,fun _ => br⟩ (hp)
    case s1 | s4 =>
     rintro T W hb - hA K hK;simp only [ovr,Act.put,List.setIfInBounds_toArray,List.set_cons_zero,List.set_cons_succ] at hK ⊢;have HK:=hii hK;clear hK hA;refine wO rfl (by rfl) ?_;go_simp;exact HK.out _ _ ⟨hb,fun _ => br⟩ (rfl)
    case s2 =>
     rintro T W hb - hA K hK;have e1:T 57=.pointer (some ⟨g,1,none⟩):=hA.1 (by decide);obtain ⟨x0,x1,x2⟩:=(rA.below hb).n3;simp only [ovr,Act.put,List.setIfInBounds_toArray,List.set_cons_zero,List.set_cons_succ,e1] at hK ⊢;have HK:=hii hK;clear hK hA;refine wO rfl (by rfl) ?_;go_simp;exact HK.out _ _ ⟨hb,fun _ => br⟩ (rfl)
    case s3 =>
     rintro T W hb - hA K hK;have r0:((fun W v => OwnO W wl.heap.size v p.A.flatten):World→Value→Prop) W (T 56):=hA.1 (by decide);have e2:T 58=.slice aB p.B.length cB:=hA.2.1 (by decide);simp only [ovr,Act.put,List.setIfInBounds_toArray,List.set_cons_zero,List.set_cons_succ,e2] at hK ⊢;have HK:=hii hK;clear hK hA;have hl0:p.A.flatten.length + p.B.length≤1000000:=(by have:=HFL.out; omega);obtain ⟨v1,w1,hr,ho,hbw1,hsz,_⟩:=run_app_os W wl 28 wl.heap.size _ p.A.flatten p.B aB cB r0 hb.size hb (HB.out.mono hb) (by omega) hl0;clear hl0;refine wO rfl (by rfl) ?_;refine oper_append _ _ rfl rfl rfl hr ?_;simp only [Act.put,List.setIfInBounds_toArray,List.set_cons_zero,List.set_cons_succ];exact HK.out _ _ ⟨hbw1,fun h => absurd h (by decide)⟩ (ho)
    case s5 =>
     rintro T W hb - hA K hK;have e4:T 60=.pointer (some ⟨g,2,none⟩):=hA.1 (by decide);obtain ⟨x0,x1,x2⟩:=(rA.below hb).n3;simp only [ovr,Act.put,List.setIfInBounds_toArray,List.set_cons_zero,List.set_cons_succ,e4] at hK ⊢;have HK:=hii hK;clear hK hA;refine wO rfl (by rfl) ?_;go_simp;exact HK.out _ _ ⟨hb,fun _ => br⟩ (rfl)
    case s6 =>
     rintro T W hb - hA K hK;have r3:((fun W v => OwnO W wl.heap.size v (p.A.flatten ++ p.B)):World→Value→Prop) W (T 59):=hA.1 (by decide);have e5:T 61=.slice aC p.C.length cC:=hA.2.1 (by decide);simp only [ovr,Act.put,List.setIfInBounds_toArray,List.set_cons_zero,List.set_cons_succ,e5] at hK ⊢;have HK:=hii hK;clear hK hA;have hl0:(p.A.flatten ++ p.B).length + p.C.length≤1000000:=(by have:=HFL.out; rw [List.length_append]; omega);obtain ⟨v1,w1,hr,ho,hbw1,hsz,_⟩:=run_app_os W wl 28 wl.heap.size _ (p.A.flatten ++ p.B) p.C aC cC r3 hb.size hb (HCC.out.mono hb) (by omega) hl0;clear hl0;refine wO rfl (by rfl) ?_;refine oper_append _ _ rfl rfl rfl hr ?_;simp only [Act.put,List.setIfInBounds_toArray,List.set_cons_zero,List.set_cons_succ];exact HK.out _ _ ⟨hbw1,fun h => absurd h (by decide)⟩ (ho)
    case s7 =>
     rintro T W hb - hA K hK;have r6:((fun W v => OwnO W wl.heap.size v (p.A.flatten ++ p.B ++ p.C)):World→Value→Prop) W (T 62):=hA.1 (by decide);simp only [ovr,Act.put,List.setIfInBounds_toArray,List.set_cons_zero,List.set_cons_succ] at hK ⊢;have HK:=hii hK;clear hK hA;refine wO rfl (by rfl) ?_;go_simp;exact HK.out _ _ ⟨hb,fun _ => br⟩ (r6)
    case he =>
     rintro T W hb hA;have f7:((fun W v => OwnO W wl.heap.size v (p.A.flatten ++ p.B ++ p.C)):World→Value→Prop) W (T 5):=hA.of 7 (by decide) (by decide);have hbw:=bu hbw hb;have HB:=hii (HB.out.mono hb);have rA:=rA.below hb;have hE:=hE.mono hb;obtain ⟨ao2,cap2,ef,uall⟩:=f7.read;simp only [ovr,List.setIfInBounds_toArray,List.set_cons_zero,List.set_cons_succ,ef];have hal:(p.A.flatten ++ p.B ++ p.C).length≤1000000000:=by
      have:=HFL.out;rw [List.length_append,List.length_append]; omega
     have Hpa:Hid (p.A.flatten ++ p.B ++ p.C=p.all):=hii rfl;rw [Hpa.out] at uall hal ⊢;obtain ⟨E,hEE⟩:∃ E,E=numErr p.all:=⟨_,rfl⟩;have HEE:=hii hEE;clear hA f7 ef hb hbr hown hEE x0 x1 x2 HA HCC;obtain ⟨w2,rfl⟩:∃ w2:World,w2=W:=⟨_,rfl⟩;go_wp2_with fail;(with_reducible refine (rlist13_any p.all ao2 cap2 w2 hal uall hE).mono ?_);rw [← HEE.out];rintro e w3 ⟨rfl,hb⟩;have HB:=hii (HB.out.mono hb);have rA:=rA.below hb;have hbw:=bu hbw hb;clear hb uall hE
     by_cases hz:E=0
     ·subst hz;have HN0:=hii (numErr_zero HEE.out.symm);go_wp2_with fail;go_loopw [8] (fun s wr => ∃ k:Nat,k≤p.B.length∧s=.int .i64 k∧Hid (∀ x∈p.B.take k,negO x=false)∧Below w3.heap.size w3 wr) (fun s _ => p.B.length - (intOf s).toNat)
      case atStart => exact ⟨0,Nat.zero_le _,rfl,hii (by simp),br⟩
      case round =>
       obtain ⟨k,hk,rfl,HN,hbr⟩:=hrel;have hbw:=bu hbw hbr;obtain ⟨x0,x1,x2⟩:=(rA.below hbr).n3
       by_cases hlt:k < p.B.length
       ·obtain ⟨q,hq⟩:∃ x,p.B[k]?=some x:=⟨p.B[k],gE hlt⟩;have hqs:=HN0.out q (List.mem_append_left _ (List.mem_append_right _ (List.mem_of_getElem? hq)));obtain ⟨b1,off1,ngp,aop,np,capp,ngq,aoq,nq,capq,ea,FA,HVA⟩:=(HB.out.mono hbr) k q hq;have Hq:=hii hq;clear hq;subst ea
        cases q with
        | none => cases hqs
        | some r =>
         clear hqs;obtain ⟨n1',a1',l1',c1',n2',a2',l2',c2',ev,hv1,hv2⟩:=(HVA:RatV _ _ r)
         cases ev
         have HV1:=hii hv1;obtain ⟨s,hs⟩:∃ s,sgnI r.num=s:=⟨_,rfl⟩;have Hs:=hii hs;have Hn:Hid (negO (some r)=decide (s < 0)):=hii (by rw [← hs,sgnI_neg]; rfl);clear hv1 hv2 hs;obtain ⟨f0,f1,f2,f3,_,_,_,_⟩:=FA
         by_cases hn:s < 0
         ·go_wp2_with fail;(with_reducible refine (rSign_eq _ r.num s _ Hs HV1.out).mono ?_);rintro e w4 ⟨rfl,hb⟩;have hbw:=bu hbw hb;have Hn':=hii hn;go_wp2;go_ret;refine ⟨?_,hbw⟩;rw [err_rest H0.out HR.out,← HEE.out];have:negQ p.B=true:=by unfold negQ; rw [List.any_eq_true]; exact ⟨some r,List.mem_of_getElem? Hq.out,by rw [Hn.out]; simpa using Hn'.out⟩
          rw [this]; rfl
         ·go_wp2_with fail;(with_reducible refine (rSign_eq _ r.num s _ Hs HV1.out).mono ?_);rintro e w4 ⟨rfl,hb⟩;have hbr:=bu hbr hb;have Hn':=hii hn;go_wp2;go_roundw
          case rel => exact ⟨k + 1,by omega,by go_num,hii (take_all Hq.out HN.out (by rw [Hn.out]; simpa using Hn'.out)),hbr⟩
          case measure => simp [intOf]; omega
       ·obtain rfl:k=p.B.length:=by omega
        go_wp2;go_ret;refine ⟨?_,hbw⟩;rw [err_rest H0.out HR.out,← HEE.out];have:negQ p.B=false:=by unfold negQ; rw [List.any_eq_false]; intro x hx; rw [HN.out x (by rw [List.take_length]; exact hx)]; simp
        rw [this]; rfl
     ·have g1:((E:Int) != 0)=true:=by rw [bne_iff_ne]; omega
      have Hz:=hii hz;clear hz;go_wp2;go_ret;refine ⟨?_,hbw⟩;rw [err_rest H0.out HR.out,← HEE.out,if_pos Hz.out]; rfl
def fA (A:List (List Rat)) (i k:Nat):Rat:=(A.getD i []).getD k 0
def Prg.rB (p:Prg):List Rat:=valsQ p.B
section
variable {p : Prg} {x y : List Qo}
end
section
variable {p : Prg} {x y : List Qo}
end
section
variable {p : Prg} {x y : List Qo}
end
end Go.Proofs.YtileholjbdhmjaaGreatDoor
