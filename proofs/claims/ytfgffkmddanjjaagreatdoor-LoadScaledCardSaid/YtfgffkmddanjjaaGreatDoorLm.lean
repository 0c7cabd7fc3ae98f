/-
  load: parts.
-/
import Derived.Test.YtfgffkmddanjjaaGreatDoorLk1
set_option linter.unusedVariables false
set_option linter.unusedSimpArgs false
set_option maxRecDepth 100000
set_option maxHeartbeats 25600000
namespace Go.Proofs.YtfgffkmddanjjaaGreatDoor
open _root_.Go.Proofs.Tryz
open Go.RowKit
theorem zac.cr01 {w:World} {v:Value} {r:Rat} (h:zac w v r):CrS r 0/\CrS r 1:=by
 obtain ⟨_,_,_,_,_,_,_,_,_,h1,h2⟩:=h;obtain ⟨_,_,_,_,_,_,_,HB1,_⟩:=h1;obtain ⟨_,_,_,_,_,_,_,HB2,_⟩:=h2;have b1:=HB1.out;have b2:=HB2.out;have hz:(0:Nat) < Bi.Big:=by unfold Bi.Big; decide
 refine ⟨⟨?_,?_⟩,⟨?_,?_⟩⟩
 ·show (r.num * ((0:Rat).den:Int)).natAbs < Bi.Big
  rw [show ((0:Rat).den:Int)=1 from rfl,Int.mul_one]; exact b1
 ·show ((0:Rat).num * (r.den:Int)).natAbs < Bi.Big
  rw [show (0:Rat).num=0 from rfl,Int.zero_mul]; exact hz
 ·show (r.num * ((1:Rat).den:Int)).natAbs < Bi.Big
  rw [show ((1:Rat).den:Int)=1 from rfl,Int.mul_one]; exact b1
 ·show ((1:Rat).num * (r.den:Int)).natAbs < Bi.Big
  rw [show (1:Rat).num=1 from rfl,Int.one_mul]; exact b2
theorem zkm (a b:Rat):decide (Rq.cmpQ a b < 0)=decide (a < b):=by
 unfold Rq.cmpQ
 split
 ·next h => simp [h]
 ·next h =>
  split <;> simp [h]
theorem zlM (a b : Rat) : (Rq.cmpQ a b != 0) = !decide (a = b) := by
  unfold Rq.cmpQ
  split
  · next h => have : a ≠ b := fun e => by rw [e] at h; exact Rat.lt_irrefl h
              simp [this]
  · next h =>
    split
    · next h2 => have : a ≠ b := fun e => by rw [e] at h2; exact Rat.lt_irrefl h2
                 simp [this]
    · next h2 => have : a = b := Rat.le_antisymm (Rat.not_lt.1 h2) (Rat.not_lt.1 h)
                 simp [this]
def zcK (w:World) (c:List Value) (s:(Nat × Nat) × Qo):Prop:=∃ J1 ao1 n1 Y1 K1 ap1 m1 Z1,c=[.int .u16 (s.1.1:Nat),.int .u16 (s.1.2:Nat),.bool J1,.slice ao1 n1 Y1,.bool K1,.slice ap1 m1 Z1]/\QV w (.agg #[.bool J1,.slice ao1 n1 Y1,.bool K1,.slice ap1 m1 Z1]) s.2
theorem zan:zc4 zcK:=λ G w w' c s h hk hn => by
 obtain ⟨J1,ao1,n1,Y1,K1,ap1,m1,Z1,e,h⟩:=h;exact ⟨J1,ao1,n1,Y1,K1,ap1,m1,Z1,e,h.keptU hk hn⟩
def shQ (sh:List ((Nat × Nat) × Rat)):List ((Nat × Nat) × Qo):=sh.map λ s => (s.1,some s.2)
theorem EU.shareQ {w:World} {ao:Option Addr} {sh:List ((Nat × Nat) × Rat)} (h:EU 6 zck w ao sh):EU 6 zcK w ao (shQ sh):=λ i s hi => by
 unfold shQ at hi;rw [List.getElem?_map] at hi
 cases hs:sh[i]? with
 | none => rw [hs] at hi; cases hi
 | some x =>
  rw [hs] at hi
  cases hi
  obtain ⟨b,off,c,e,hk,hc,J1,ao1,n1,Y1,K1,ap1,m1,Z1,e2,hr⟩:=h i x hs;exact ⟨b,off,c,e,hk,hc,J1,ao1,n1,Y1,K1,ap1,m1,Z1,e2,hr⟩
theorem EU.six {w:World} {ao:Option Addr} {l:List ((Nat × Nat) × Qo)} (h:EU 6 zcK w ao l) {k:Nat} {s:(Nat × Nat) × Qo} (hk:l[k]?=some s):∃ b off J1 ao1 n1 Y1 K1 ap1 m1 Z1,ao=some ⟨b,off,none⟩/\QV w (.agg #[.bool J1,.slice ao1 n1 Y1,.bool K1,.slice ap1 m1 Z1]) s.2 /\
  w.cell? ⟨b,off + k * 6,none⟩=some (.int .u16 (s.1.1:Nat))/\w.cell? ⟨b,off + k * 6 + 1,none⟩=some (.int .u16 (s.1.2:Nat))/\w.cell? ⟨b,off + k * 6 + 2,none⟩=some (.bool J1)/\w.cell? ⟨b,off + k * 6 + 3,none⟩=some (.slice ao1 n1 Y1)/\w.cell? ⟨b,off + k * 6 + 4,none⟩=some (.bool K1)/\w.cell? ⟨b,off + k * 6 + 5,none⟩=some (.slice ap1 m1 Z1):=by
 obtain ⟨b,off,c,e,_,hc,J1,ao1,n1,Y1,K1,ap1,m1,Z1,e2,hq⟩:=h k s hk;subst e2;exact ⟨b,off,J1,ao1,n1,Y1,K1,ap1,m1,Z1,e,hq,hc 0 _ rfl,hc 1 _ rfl,hc 2 _ rfl,hc 3 _ rfl,hc 4 _ rfl,hc 5 _ rfl⟩
open Classical in
noncomputable def zml (s:Option Rat) (x:Rat):Option Rat:=match s with
 | none => none
 | some r => if zeb r x then some (r + x) else none
open Classical in
theorem zhb {r x:Rat} (h:zeb r x):zml (some r) x=some (r + x):=by show (if zeb r x then some (r + x) else none)=_; rw [if_pos h]
open Classical in
theorem zlY {r x:Rat} (h:¬ zeb r x):zml (some r) x=none:=by show (if zeb r x then some (r + x) else none)=_; rw [if_neg h]
noncomputable def sumO (l:List Rat):Option Rat:=l.foldl zml (some 0)
theorem zeV (l:List Rat) (x:Rat):sumO (l ++ [x])=zml (sumO l) x:=by unfold sumO; rw [List.foldl_append]; rfl
def zl0 (w:World) (g:Nat):Option Rat->Prop
 | some r => zcr w g 0 r
 | none => zcr w g 3 0
theorem zl0.mono {w w':World} {g:Nat} {o:Option Rat} (h:zl0 w g o) (hb:BH w w'):zl0 w' g o:=by
 cases o
 ·exact zcr.mono h hb
 ·exact zcr.mono h hb
def zmX:Qo->Bool
 | none => true
 | some r => decide (r < 0)
def zin:Option Rat->Nat
 | none => 3
 | some r => if r=1 then 0 else 1
noncomputable def zbn (po:List Qo):Nat:=if po.any zmX then 1 else zin (sumO (po.map zjB))
theorem zlW (g:Nat) (k:Int) (r:Rat) (vx:Value) (x:Rat) (w:World) (hs:zcr w g k r) (hx:zac w vx x) (hk:(k == 0)=false) :
  Calls Tryz.prog 93 #[.pointer (some ⟨g,0,none⟩),vx] w λ e w' => e=.returned (.tuple #[])/\BH w w':=by
 obtain ⟨J1,ao1,n1,Y1,K1,ap1,m1,Z1,rS,-⟩:=hs;obtain ⟨J2,ao2,n2,Y2,K2,ap2,m2,Z2,rfl⟩:=hx.parts;go_enter func93,ntmps93;go_upto_region 1 with fail;have hb:=bA w (.cells #[.bool J2,.slice ao2 n2 Y2,.bool K2,.slice ap2 m2 Z2] 32);have rS:=rS.below hb;generalize w.alloc (.cells #[.bool J2,.slice ao2 n2 Y2,.bool K2,.slice ap2 m2 Z2] 32)=w1 at *;obtain ⟨c0,c1,c2,c3,c4⟩:=rS.n5;go_wp2;go_end0;exact ⟨rfl,hb⟩
theorem zlX (g:Nat) (o:Option Rat) (x:Rat) (vx:Value) (w:World) (hs:zl0 w g o) (hx:zac w vx x) (hE:Env w) :
  Calls Tryz.prog 93 #[.pointer (some ⟨g,0,none⟩),vx] w λ e w' => e=.returned (.tuple #[])/\zl0 w' g (zml o x)/\zaf (λ b => b=g) w w':=by
 cases o with
 | none =>
  refine (zlW g 3 0 vx x w hs hx rfl).mono ?_;rintro e w' ⟨rfl,hb⟩;exact ⟨rfl,zcr.mono hs hb,.of_below hb⟩
 | some r =>
  by_cases hA:zeb r x
  ·refine (zi8 g r x 0 vx w hs hx (hii (KQ.ok hA)) hE).mono ?_;rintro e w' ⟨rfl,h1,h2⟩;refine ⟨rfl,?_,h2⟩;rw [zhb hA]; exact h1
  ·refine (zi8 g r x 3 vx w hs hx (hii (.inr ⟨rfl,hA⟩)) hE).mono ?_;rintro e w' ⟨rfl,h1,h2⟩;refine ⟨rfl,?_,h2⟩;rw [zlY hA];obtain ⟨J1,ao1,n1,Y1,K1,ap1,m1,Z1,h3,_⟩:=h1;exact ⟨J1,ao1,n1,Y1,K1,ap1,m1,Z1,h3,λ e => absurd e (by decide)⟩
theorem zgj (l:List Nat) (x:Nat) (aa:Option Addr) (ca:Nat) (w:World) (hl:l.length<=1000000) (ua:zaM w aa l) :
  Calls Tryz.prog 146 #[.slice aa l.length ca,.int .u16 (x:Nat)] w λ e w' => e=.returned (.int .i64 (zfD (λ y => decide (y=x)) l))/\BH w w':=by
 have hbw:=Below.refl w.heap.size w;go_enter func146,ntmps146;go_wp2_with fail;go_loopw [8] (λ s wr => ∃ k:Nat,k<=l.length/\s=.int .i64 k/\Hid (∀ y∈l.take k,decide (y=x)=false)/\Hid (wr=w)) (λ s _ => l.length - (intOf s).toNat)
 case atStart => exact ⟨0,Nat.zero_le _,rfl,hii (by simp),hii (by first | rfl | trivial)⟩
 case round =>
  obtain ⟨k,hk,rfl,HN,HW⟩:=hrel;obtain rfl:=HW.out
  by_cases hlt:k < l.length
  ·obtain ⟨y,hx⟩:∃ x,l[k]?=some x:=⟨l[k],gE hlt⟩;obtain ⟨b1,off1,ea,hc⟩:=ua k y hx;have Hx:=hii hx;clear hx ua;subst ea
   by_cases hq:y=x
   ·subst hq;go_wp2;go_ret;exact ⟨by rw [zcG Hx.out (decide_eq_true rfl) HN.out]; rfl,hbw⟩
   ·have hq2:((x:Int) == (y:Int))=false:=by simp; omega
    have Hq:=hii hq;clear hq;go_wp2;go_roundw
    case rel =>
     refine ⟨k + 1,by omega,by go_num,hii λ z hz => ?_,hii (by first | rfl | trivial)⟩;rw [zaH Hx.out] at hz;rcases List.mem_append.1 hz with h | h
     ·exact HN.out z h
     ·simp at h; subst h; exact decide_eq_false Hq.out
    case measure => simp [intOf]; omega
  ·obtain rfl:k=l.length:=by omega
   go_wp2;go_ret;exact ⟨by rw [zb3 (λ x hx => HN.out x (by rw [List.take_length]; exact hx))]; rfl,hbw⟩
theorem zcl (l:List Nat) (x:Nat) (aa:Option Addr) (ca:Nat) (w:World) (hl:l.length<=1000000) (ua:zaM w aa l) :
  Calls Tryz.prog 106 #[.slice aa l.length ca,.int .u16 (x:Nat)] w λ e w' => e=.returned (.bool (l.any λ y => decide (y=x)))/\BH w w':=by
 have hC:=zgj l x aa ca w hl ua;rw [<- zeG];generalize zfD (λ y => decide (y=x)) l=i at hC |-;clear ua;go_enter func106,ntmps106;go_wp2_with fail;(with_reducible refine hC.mono ?_);rintro e v2 ⟨rfl,hb⟩;go_wp2
 all_goals go_ret
 all_goals exact ⟨by simp_all,hb⟩
def zkV (g:Nat) (lb:Array Value) (p:(Nat × Nat) × Qo->Bool) (l:List ((Nat × Nat) × Qo)) (w:World):Prop :=
 ∀ (s:(Nat × Nat) × Qo) {J1:Bool} {ao1:Option Addr} {n1 Y1:Nat} {K1:Bool} {ap1:Option Addr} {m1 Z1:Nat} (W:World),s∈l->QV W (.agg #[.bool J1,.slice ao1 n1 Y1,.bool K1,.slice ap1 m1 Z1]) s.2->BH w W->Calls Tryz.prog g (#[.agg #[.int .u16 (s.1.1:Nat),.int .u16 (s.1.2:Nat),.bool J1,.slice ao1 n1 Y1,.bool K1,.slice ap1 m1 Z1]] ++ lb) W λ e W' => e=.returned (.bool (p s))/\BH W W'
theorem zhM (g:Nat) (lb:Array Value) (p:(Nat × Nat) × Qo->Bool) (eg:∀ args w,(callFunc g args).run Tryz.prog w=.ok (.enter g args) w) (l:List ((Nat × Nat) × Qo)) (aa:Option Addr) (ca:Nat) (w:World) (hl:l.length<=1000000) (ua:EU 6 zcK w aa l) (hp:zkV g lb p l w) :
  Calls Tryz.prog 145 #[.slice aa l.length ca,.func (.func g) #[] lb] w λ e w' => e=.returned (.int .i64 (zfD p l))/\BH w w':=by
 have hbw:=Below.refl w.heap.size w;have hp:=hii hp;go_enter func145,ntmps145;go_wp2_with fail;go_loopw [8] (λ s wr => ∃ k:Nat,k<=l.length/\s=.int .i64 k/\Hid (∀ x∈l.take k,p x=false)/\BH w wr) (λ s _ => l.length - (intOf s).toNat)
 case atStart => exact ⟨0,Nat.zero_le _,rfl,hii (by simp),hbw⟩
 case round =>
  clear hbw;obtain ⟨k,hk,rfl,HN,hbw⟩:=hrel
  by_cases hlt:k < l.length
  ·obtain ⟨x,hx⟩:∃ x,l[k]?=some x:=⟨l[k],gE hlt⟩;obtain ⟨b1,off1,J1,ao1,n1,Y1,K1,ap1,m1,Z1,ea,hv,h0,h1,h2,h3,h4,h5⟩:=(ua.mono zan hbw).six hx;have hcall:=hp.out x wr (List.mem_of_getElem? hx) hv hbw;have Hx:=hii hx;clear hx ua hv;subst ea;have hkl:(k:Int) < (l.length:Int):=by omega
   cases hq:p x with
   | true =>
    rw [hq] at hcall;have Hq:=hii hq;clear hq;go_wp2_with (go_at_fn g; refine hcall.mono ?_; rintro e v2 ⟨rfl,hb⟩);have hbw:=bu hbw hb;go_ret;exact ⟨by rw [zcG Hx.out Hq.out HN.out]; rfl,hbw⟩
   | false =>
    rw [hq] at hcall;have Hq:=hii hq;clear hq;go_wp2_with (go_at_fn g; refine hcall.mono ?_; rintro e v2 ⟨rfl,hb⟩);have hbw:=bu hbw hb;go_roundw
    case rel =>
     refine ⟨k + 1,by omega,by go_num,hii λ y hy => ?_,hbw⟩;rw [zaH Hx.out] at hy;rcases List.mem_append.1 hy with h | h
     ·exact HN.out y h
     ·simp at h; subst h; exact Hq.out
    case measure => simp [intOf]; omega
  ·obtain rfl:k=l.length:=by omega
   go_wp2;go_ret;exact ⟨by rw [zb3 (λ x hx => HN.out x (by rw [List.take_length]; exact hx))]; rfl,hbw⟩
theorem zeQ (g:Nat) (lb:Array Value) (p:(Nat × Nat) × Qo->Bool) (eg:∀ args w,(callFunc g args).run Tryz.prog w=.ok (.enter g args) w) (l:List ((Nat × Nat) × Qo)) (aa:Option Addr) (ca:Nat) (w:World) (hl:l.length<=1000000) (ua:EU 6 zcK w aa l) (hp:zkV g lb p l w) :
  Calls Tryz.prog 104 #[.slice aa l.length ca,.func (.func g) #[] lb] w λ e w' => e=.returned (.bool (l.any p))/\BH w w':=by
 have hC:=zhM g lb p eg l aa ca w hl ua hp;rw [<- zeG];generalize zfD p l=i at hC |-;clear ua hp eg;go_enter func104,ntmps104;go_wp2_with fail;(with_reducible refine hC.mono ?_);rintro e v2 ⟨rfl,hb⟩;go_wp2
 all_goals go_ret
 all_goals exact ⟨by simp_all,hb⟩
theorem zgK (L:List ((Nat × Nat) × Qo)) (aa:Option Addr) (ca:Nat) (w:World) (hl:L.length<=1000000) (ua:EU 6 zcK w aa L) (hE:Env w) :
  Calls Tryz.prog 47 #[.slice aa L.length ca] w λ e w' => e=.returned (.int .i64 (zbn (L.map (·.2)):Nat))/\BH w w':=by
 have hbw:=Below.refl w.heap.size w;obtain ⟨E,hE1⟩:∃ E,zbn (L.map (·.2))=E:=⟨_,rfl⟩;rw [hE1];have HE:=hii hE1;clear hE1;obtain ⟨N,hN⟩:∃ N,L.length=N:=⟨_,rfl⟩;rw [hN] at hl |-;have HN:=hii hN;clear hN;go_enter func47,ntmps47;go_wp2_with fail;go_fit (zdt w hE);rintro e w1 ⟨⟨g,rfl,hg,hS⟩,hb⟩;have hbw:=bu hbw hb;have hS:zl0 w1 g (sumO (((L.take 0).map (·.2)).map zjB)):=hS;clear hb;go_wp2_with fail;go_loopw [9] (λ s wr => ∃ k:Nat,k<=N/\s=.int .i64 k/\zl0 wr g (sumO (((L.take k).map (·.2)).map zjB))/\Hid (((L.take k).map (·.2)).any zmX=false)/\BH w wr) (λ s _ => N - (intOf s).toNat)
 case atStart => exact ⟨0,Nat.zero_le _,rfl,hS,hii (by simp),hbw⟩
 case round =>
  clear hbw hS;obtain ⟨k,hk,rfl,hS,HB,hbw⟩:=hrel
  by_cases hlt:k < N
  ·obtain ⟨⟨⟨r,s⟩,o⟩,hx⟩:∃ x,L[k]?=some x:=⟨L[k]'(by rw [HN.out]; exact hlt),gE _⟩;obtain ⟨b1,off1,J1,ao1,n1,Y1,K1,ap1,m1,Z1,ea,hv,h0,h1,h2,h3,h4,h5⟩:=(ua.mono zan hbw).six hx;have HT:Hid ((L.take (k + 1)).map (·.2)=(L.take k).map (·.2) ++ [o]):=hii (by rw [zaH hx]; simp);have HM:Hid (o∈L.map (·.2)):=hii (List.mem_map.2 ⟨_,List.mem_of_getElem? hx,rfl⟩);have hkl:(k:Int) < (N:Int):=by omega
   have hEr:=hE.mono hbw;clear hx;subst ea;go_upto_region 5 with fail;clear h0 h1 h2 h3 h4 h5;have hb:=bA wr (.cells #[.int .u16 (r:Nat),.int .u16 (s:Nat),.bool J1,.slice ao1 n1 Y1,.bool K1,.slice ap1 m1 Z1] 59);have r5:Row (wr.alloc (.cells #[.int .u16 (r:Nat),.int .u16 (s:Nat),.bool J1,.slice ao1 n1 Y1,.bool K1,.slice ap1 m1 Z1] 59)) wr.heap.size 59 [.int .u16 (r:Nat),.int .u16 (s:Nat),.bool J1,.slice ao1 n1 Y1,.bool K1,.slice ap1 m1 Z1]:=heap_alloc_new _ _;obtain ⟨g5,hg5⟩:∃ g,g=wr.heap.size:=⟨_,rfl⟩;rw [<- hg5] at r5 |-;clear hg5;generalize wr.alloc (.cells #[.int .u16 (r:Nat),.int .u16 (s:Nat),.bool J1,.slice ao1 n1 Y1,.bool K1,.slice ap1 m1 Z1] 59)=wc at *;have hv:=hv.mono hb;have hS:=hS.mono hb;have hE:=hEr.mono hb;have hbw:=bu hbw hb;clear hb hEr
   cases o with
   | none =>
    have hv:VQ wc (.agg #[.bool J1,.slice ao1 n1 Y1,.bool K1,.slice ap1 m1 Z1]) false:=hv;have HE1:Hid (E=1):=hii (by rw [<- HE.out]; unfold zbn; rw [if_pos (List.any_eq_true.2 ⟨none,HM.out,rfl⟩)]);clear HE HM HT;refine zae (wx:=wc) [vf (.pointer (some ⟨g5,2,none⟩)),vf (.agg #[.bool J1,.slice ao1 n1 Y1,.bool K1,.slice ap1 m1 Z1]),vf (.bool false),vf (.bool true),vf (.bool true),vf undef,vf undef,vf undef,vf undef,vf undef,vf (.bool true)] [13,14,15,16,17,18,19,20,21,22,23] (by kernel_rfl) (by kernel_rfl) (by kernel_rfl) (of_decide_eq_true (by kernel_rfl)) br ⟨sV _,sV _,sV _,sV _,sV _,sV _,sV _,sV _,sV _,sV _,sV _,trivial⟩ ⟨?s0,?s1,?s2,?s3,?s4,?s5,?s6,?s7,?s8,?s9,?s10,trivial⟩ ?he
    case' s0 | s1 | s2 | s3 | s4 | s5 | s6 | s7 | s8 | s9 | s10 =>
     rintro T W hb hA K hK
    case' s0 =>
     simp only [sA] at hK |-
    case' s3 =>
     have e2:T 15=_:=hA.1;simp only [sA,e2] at hK |-
    case' s4 =>
     have e3:T 16=_:=hA.1;simp only [sA,e3] at hK |-
    case' s10 =>
     have e4:T 17=_:=hA.1;have e9:T 22=_:=hA.2.1;simp only [sA,e4,e9] at hK |-
    case' s5 | s7 =>
     have e4:T 17=_:=hA.1;simp only [sA,e4] at hK |-
    case' s6 =>
     have e5:T 18=_:=hA.1;have e4:T 17=_:=hA.2.1;simp only [sA,e5,e4] at hK |-
    case' s8 =>
     have e6:T 19=_:=hA.1;have e7:T 20=_:=hA.2.1;have e4:T 17=_:=hA.2.2.2.1;simp only [sA,e6,e7,e4] at hK |-
    case' s9 =>
     have e8:T 21=_:=hA.1;have e4:T 17=_:=hA.2.1;simp only [sA,e8,e4] at hK |-
    case s0 | s3 | s4 | s10 =>
     have HK:=hii hK;clear hK hA;refine wO rfl (by rfl) ?_;go_simp;exact HK.out _ _ br (rfl)
    case s5 | s6 | s7 | s8 | s9 =>
     have HK:=hii hK;clear hK hA;refine zax rfl (by rfl) ?_;simp only [Act.put,List.setIfInBounds_toArray];exact HK.out _ _ br (rfl)
    case s1 =>
     have e0:T 13=_:=hA.1;simp only [sA,e0] at hK |-;have HK:=hii hK;clear hK hA;have h9:=r5.below hb;obtain ⟨k0,k1,k2,k3,k4,k5⟩:=h9.n6;refine wO rfl (by rfl) ?_;go_simp;exact HK.out _ _ br (rfl)
    case s2 =>
     have e1:T 14=_:=hA.1;simp only [sA,e1] at hK |-;have HK:=hii hK;clear hK hA;refine wO rfl (by rfl) ?_;go_simp;go_fit (zdA _ W (hv.mono hb) (hE.mono hb));rintro e w1 ⟨rfl,hb1⟩
     try dsimp only
     exact HK.out _ _ hb1 (rfl)
    case he =>
     rintro T W hb hA;have f10:T 23=.bool true:=hA.at 10 (by decide);simp only [sA,f10];have hbw:=bu hbw hb;clear hA f10;go_wp2;go_ret;exact ⟨by rw [HE1.out]; rfl,hbw⟩
   | some x =>
    have hv:zac wc (qA J1 ao1 n1 Y1 K1 ap1 m1 Z1) x:=hv;have HC0:=hii hv.cr01.1;obtain ⟨cc,hcc⟩:∃ c,Rq.cmpQ x 0=c:=⟨_,rfl⟩;have Hcc:=hii hcc;clear hcc;refine zae (wx:=wc) [vf (.pointer (some ⟨g5,2,none⟩)),vf (.agg #[.bool J1,.slice ao1 n1 Y1,.bool K1,.slice ap1 m1 Z1]),vf (.bool true),vf (.bool false),vf (.bool false),vf (.pointer (some ⟨g5,2,none⟩)),vf (.agg #[.bool J1,.slice ao1 n1 Y1,.bool K1,.slice ap1 m1 Z1]),(λ W v => zac W v 0),vf (.int .i64 cc),vf (.bool (decide (cc < 0))),vf (.bool (decide (cc < 0)))] [13,14,15,16,17,18,19,20,21,22,23] (by kernel_rfl) (by kernel_rfl) (by kernel_rfl) (of_decide_eq_true (by kernel_rfl)) br ⟨sV _,sV _,sV _,sV _,sV _,sV _,sV _,(λ _ _ _ h hb => h.mono hb),sV _,sV _,sV _,trivial⟩ ⟨?s0,?s1,?s2,?s3,?s4,?s5,?s6,?s7,?s8,?s9,?s10,trivial⟩ ?he
    case' s0 | s1 | s2 | s3 | s4 | s5 | s6 | s7 | s8 | s9 | s10 =>
     rintro T W hb hA K hK
    case' s0 =>
     simp only [sA] at hK |-
    case' s3 =>
     have e2:T 15=_:=hA.1;simp only [sA,e2] at hK |-
    case' s4 =>
     have e3:T 16=_:=hA.1;simp only [sA,e3] at hK |-
    case' s5 =>
     have e4:T 17=_:=hA.1;simp only [sA,e4] at hK |-
    case' s9 =>
     have e8:T 21=_:=hA.1;have e4:T 17=_:=hA.2.1;simp only [sA,e8,e4] at hK |-
    case' s10 =>
     have e4:T 17=_:=hA.1;have e9:T 22=_:=hA.2.1;simp only [sA,e4,e9] at hK |-
    case' s1 =>
     have e0:T 13=_:=hA.1;simp only [sA,e0] at hK |-;have HK:=hii hK;clear hK hA;have h9:=r5.below hb;obtain ⟨k0,k1,k2,k3,k4,k5⟩:=h9.n6
    case' s6 =>
     have e5:T 18=_:=hA.1;have e4:T 17=_:=hA.2.1;simp only [sA,e5,e4] at hK |-;have HK:=hii hK;clear hK hA;have h9:=r5.below hb;obtain ⟨k0,k1,k2,k3,k4,k5⟩:=h9.n6
    case s0 | s3 | s4 | s5 | s9 | s10 =>
     have HK:=hii hK;clear hK hA;refine wO rfl (by rfl) ?_;go_simp;exact HK.out _ _ br (rfl)
    case s1 | s6 =>
     refine wO rfl (by rfl) ?_;go_simp;exact HK.out _ _ br (rfl)
    case s2 =>
     have e1:T 14=_:=hA.1;simp only [sA,e1] at hK |-;have HK:=hii hK;clear hK hA;refine wO rfl (by rfl) ?_;go_simp;go_fit (zau _ x W (hv.mono hb) (hE.mono hb));rintro e w1 ⟨rfl,hb1⟩
     try dsimp only
     exact HK.out _ _ hb1 (rfl)
    case s7 =>
     have e4:T 17=_:=hA.1;simp only [sA,e4] at hK |-;have HK:=hii hK;clear hK hA;refine wO rfl (by rfl) ?_;go_simp;go_fit (zaF 0 (by decide) (by decide) W (hE.mono hb));rintro e w1 ⟨hz,hb1⟩;obtain ⟨J7,ao7,n7,Y7,K7,ap7,m7,Z7,rfl,hV7⟩:=hz.rat;have hV7:zac w1 (qA J7 ao7 n7 Y7 K7 ap7 m7 Z7) 0:=hV7
     try dsimp only
     exact HK.out _ _ hb1 (hV7)
    case s8 =>
     have e6:T 19=_:=hA.1;have r7:(_:World->Value->Prop) W (T 20):=hA.2.1;have e4:T 17=_:=hA.2.2.2.1;simp only [sA,e6,e4] at hK |-;have HK:=hii hK;clear hK hA;have r7:zac W _ 0:=r7;obtain ⟨J6,ao6,n6,Y6,K6,ap6,m6,Z6,e7⟩:=r7.parts;rw [e7] at r7;simp only [e7] at HK |-;refine wO rfl (by rfl) ?_;go_simp;go_fit (zaT _ _ x 0 W (hv.mono hb) r7 HC0 (hE.mono hb));rw [Hcc.out];rintro e w1 ⟨rfl,hb1⟩
     try dsimp only
     exact HK.out _ _ hb1 (rfl)
    case he =>
     rintro T W hb hA;have f10:T 23=.bool (decide (cc < 0)):=hA.at 10 (by decide);simp only [sA,f10];have hbw:=bu hbw hb;have hv:=hv.mono hb;have hS:=hS.mono hb;have hE:=hE.mono hb;have r5:=r5.below hb;clear hA f10 hb;obtain ⟨wd,rfl⟩:=exi W;have hlt9:=zkm x 0;rw [Hcc.out] at hlt9
     by_cases hx0:x < 0
     ·have hd:decide (cc < 0)=true:=by rw [hlt9]; exact decide_eq_true hx0
      have HE1:Hid (E=1):=hii (by rw [<- HE.out]; unfold zbn; rw [if_pos (List.any_eq_true.2 ⟨some x,HM.out,decide_eq_true hx0⟩)]);rw [hd];clear HE HM HT hlt9;go_wp2;go_ret;exact ⟨by rw [HE1.out]; rfl,hbw⟩
     ·have hd:decide (cc < 0)=false:=by rw [hlt9]; exact decide_eq_false hx0
      have HB2:Hid (((L.take (k + 1)).map (·.2)).any zmX=false):=hii (by rw [HT.out,List.any_append,HB.out]; simp [zmX,hx0]);have HS2:Hid (sumO (((L.take (k + 1)).map (·.2)).map zjB)=zml (sumO (((L.take k).map (·.2)).map zjB)) x):=hii (by rw [HT.out,List.map_append]; exact zeV _ _);rw [hd];clear hlt9 hd HB HM HT;obtain ⟨k0,k1,k2,k3,k4,k5⟩:=r5.n6;go_wp2_with fail;go_fit (zlX g _ x _ wd hS hv hE);rintro e we ⟨rfl,hS2,hk2⟩;rw [<- HS2.out] at hS2;have hbw:=hbw.trans (hk2.below (λ b e => by rw [e]; exact hg) hbw.size);clear k0 k1 k2 k3 k4 k5 hk2 r5;go_wp2;go_roundw
      case rel => exact ⟨k + 1,by omega,by go_num,hS2,HB2,hbw⟩
      case measure => simp [intOf]; omega
  ·have hkN:k=N:=by omega
   rw [hkN,List.take_of_length_le (by rw [HN.out]; exact nl)] at hS HB;have hk2:¬ (k:Int) < (N:Int):=by omega
   have hEr:=hE.mono hbw;obtain ⟨o,ho⟩:∃ o,sumO ((L.map (·.2)).map zjB)=o:=⟨_,rfl⟩;rw [ho] at hS;have HE2:Hid (E=zin o):=hii (by rw [<- HE.out]; unfold zbn; rw [if_neg (by rw [HB.out]; simp),ho]);clear HE HB ho hkN hlt
   cases o with
   | none =>
    have HE1:Hid (E=3):=HE2;have hS:zcr wr g 3 0:=hS;obtain ⟨J2,ao2,n2,Y2,K2,ap2,m2,Z2,rS,-⟩:=hS;obtain ⟨k0,k1,k2,k3,k4⟩:=rS.n5;clear HE2;go_wp2;go_ret;exact ⟨by rw [HE1.out]; rfl,hbw⟩
   | some t =>
    have HE1:Hid (E=if t=1 then 0 else 1):=HE2;have hS:zcr wr g 0 t:=hS;obtain ⟨J2,ao2,n2,Y2,K2,ap2,m2,Z2,rS,hVS⟩:=hS;have hVS:=hVS rfl;have HC1:=hii hVS.cr01.2;obtain ⟨cc,hcc⟩:∃ c,Rq.cmpQ t 1=c:=⟨_,rfl⟩;have Hcc:=hii hcc;clear hcc HE2;obtain ⟨k0,k1,k2,k3,k4⟩:=rS.n5;go_upto_region 11 with fail;clear k0 k1 k2 k3 k4 hk2;obtain ⟨wc,rfl⟩:=exi wr;refine zae (wx:=wc) [vf (.pointer (some ⟨g,0,none⟩)),vf (.pointer (some ⟨g,0,none⟩)),vf (.pointer (some ⟨g,0,none⟩)),vf (.agg #[.bool J2,.slice ao2 n2 Y2,.bool K2,.slice ap2 m2 Z2]),(λ W v => zac W v 1),vf (.int .i64 cc),vf (.bool (cc != 0))] [38,39,40,41,42,43,44] (by kernel_rfl) (by kernel_rfl) (by kernel_rfl) (of_decide_eq_true (by kernel_rfl)) br ⟨sV _,sV _,sV _,sV _,(λ _ _ _ h hb => h.mono hb),sV _,sV _,trivial⟩ ⟨?s0,?s1,?s2,?s3,?s4,?s5,?s6,trivial⟩ ?he
    case' s0 | s1 | s2 | s3 | s4 | s5 | s6 =>
     rintro T W hb hA K hK
    case' s0 =>
     simp only [sA] at hK |-
    case' s1 =>
     have e0:T 38=_:=hA.1;simp only [sA,e0] at hK |-
    case' s2 =>
     have e1:T 39=_:=hA.1;simp only [sA,e1] at hK |-
    case' s6 =>
     have e5:T 43=_:=hA.1;simp only [sA,e5] at hK |-
    case s0 | s1 | s2 | s6 =>
     have HK:=hii hK;clear hK hA;refine wO rfl (by rfl) ?_;go_simp;exact HK.out _ _ br (rfl)
    case s3 =>
     have e2:T 40=_:=hA.1;simp only [sA,e2] at hK |-;have HK:=hii hK;clear hK hA;have h9:=rS.below hb;obtain ⟨k0,k1,k2,k3,k4⟩:=h9.n5;refine wO rfl (by rfl) ?_;go_simp;exact HK.out _ _ br (rfl)
    case s4 =>
     simp only [sA] at hK |-;have HK:=hii hK;clear hK hA;refine wO rfl (by rfl) ?_;go_simp;go_fit (zaF 1 (by decide) (by decide) W (hEr.mono hb));rintro e w1 ⟨hz,hb1⟩;obtain ⟨J7,ao7,n7,Y7,K7,ap7,m7,Z7,rfl,hV7⟩:=hz.rat;have hV7:zac w1 (qA J7 ao7 n7 Y7 K7 ap7 m7 Z7) 1:=hV7
     try dsimp only
     exact HK.out _ _ hb1 (hV7)
    case s5 =>
     have e3:T 41=_:=hA.1;have r4:(_:World->Value->Prop) W (T 42):=hA.2.1;simp only [sA,e3] at hK |-;have HK:=hii hK;clear hK hA;have r4:zac W _ 1:=r4;obtain ⟨J6,ao6,n6,Y6,K6,ap6,m6,Z6,e4⟩:=r4.parts;rw [e4] at r4;simp only [e4] at HK |-;refine wO rfl (by rfl) ?_;go_simp;go_fit (zaT _ _ t 1 W (hVS.mono hb) r4 HC1 (hEr.mono hb));rw [Hcc.out];rintro e w1 ⟨rfl,hb1⟩
     try dsimp only
     exact HK.out _ _ hb1 (rfl)
    case he =>
     rintro T W hb hA;have f6:T 44=.bool (cc != 0):=hA.at 6 (by decide);simp only [sA,f6];have hbw:=bu hbw hb;clear hA f6 hb;have hne:=zlM t 1;rw [Hcc.out] at hne
     by_cases ht:t=1
     ·have HE3:Hid (E=0):=hii (by rw [HE1.out,if_pos ht]);rw [hne,decide_eq_true ht];clear HE1 hne;go_wp2;go_ret;exact ⟨by rw [HE3.out]; rfl,hbw⟩
     ·have HE3:Hid (E=1):=hii (by rw [HE1.out,if_neg ht]);rw [hne,decide_eq_false ht];clear HE1 hne;go_wp2;go_ret;exact ⟨by rw [HE3.out]; rfl,hbw⟩
end Go.Proofs.YtfgffkmddanjjaaGreatDoor
