/-
  Format on fractions of any length.
-/
import Derived.Test.YtaedmaifkfhpfaaGreatDoorDpE
set_option linter.unusedVariables false
set_option linter.unusedSimpArgs false
set_option maxRecDepth 100000
set_option maxHeartbeats 25600000
namespace Go.Proofs.YtaedmaifkfhpfaaGreatDoor
open Go.RowKit
theorem indexFunc_anyX (l:List Nat) (ao:Option Addr) (cap:Nat) (w:World) (hm:l.length≤140737488355328) (hU:U w ao l) :
  Calls Tryz.prog 156 #[.slice ao l.length cap,.func (.func 129) #[] #[]] w fun e w' => (∃ r:Int,Hid (0≤r↔¬ Bi.Ok l)∧-1≤r∧r≤l.length∧e=.returned (.int .i64 r))∧w=w':=by
 go_enter Tryz.func156,Tryz.ntmps156;go_wp2;go_loop [8] (fun s => ∃ k:Nat,k≤l.length∧s=.int .i64 k∧Hid (Bi.Ok (l.take k))) (fun s => l.length - (intOf s).toNat)
 case atStart => exact ⟨0,Nat.zero_le _,rfl,hii (by simp [Bi.Ok])⟩
 case round =>
  obtain ⟨k,hk,rfl,HK⟩:=hrel
  by_cases hlt:k < l.length
  ·obtain ⟨x,hx⟩:=get_some hlt;obtain ⟨b,off,rfl,hc⟩:=hU.at' hx;have HX:=hii hx;clear hx hU
   by_cases hs:(1000000000:Int)≤(x:Int)
   ·go_wp2;go_ret;refine ⟨⟨k,hii ⟨fun _ h => ?_,fun _ => by omega⟩,by omega,by omega,rfl⟩,rfl⟩;have:=h.at' HX.out;omega
   ·go_wp2;go_round
    case rel =>
     refine ⟨k + 1,by omega,by go_num,hii ?_⟩;have h1:l[k]'hlt=x:=(List.getElem?_eq_some_iff.1 HX.out).2;rw [List.take_succ_eq_append_getElem hlt,h1];exact HK.out.snoc (by omega)
    case measure => simp [intOf]; omega
  ·obtain rfl:k=l.length:=by omega
   clear hU;go_wp2;go_ret;refine ⟨⟨-1,hii ⟨fun h => by omega,fun h => absurd ?_ h⟩,by omega,by omega,rfl⟩,rfl⟩;have:=HK.out
   rwa [List.take_length] at this
theorem containsFunc_anyX (l:List Nat) (ao:Option Addr) (cap:Nat) (w:World) (hm:l.length≤140737488355328) (hU:U w ao l) :
  Calls Tryz.prog 128 #[.slice ao l.length cap,.func (.func 129) #[] #[]] w fun e w' => (∃ r:Bool,Hid (r=true↔¬ Bi.Ok l)∧e=.returned (.bool r))∧w=w':=by
 go_enter Tryz.func128,Tryz.ntmps128;go_wp2_with fail;(with_reducible refine (indexFunc_anyX l _ _ _ hm hU).mono ?_);rintro e w1 ⟨⟨r,HR,h1,h2,rfl⟩,rfl⟩;go_wp2;go_ret;exact ⟨⟨_,hii (by rw [decide_eq_true_iff]; exact HR.out),rfl⟩,rfl⟩
theorem valid_anyX (neg:Bool) (l:List Nat) (ao:Option Addr) (cap:Nat) (w:World) (hm:l.length≤140737488355328) (hU:U w ao l) (hE:Env w) :
  Calls Tryz.prog 92 #[.agg #[.bool neg,.slice ao l.length cap]] w fun e w' => (∃ r:Bool,Hid (r=true↔validP neg l)∧e=.returned (.bool r))∧Below w.heap.size w w':=by
 have hb0:∀ o,Below w.heap.size w (w.alloc o):=fun o => bA w o
 obtain rfl | ⟨r,x,rfl⟩:l=[]∨∃ r x,l=r ++ [x]:=by
  rcases List.eq_nil_or_concat l with h | ⟨r,x,h⟩
  ·exact .inl h
  ·exact .inr ⟨r,x,by rw [h,List.concat_eq_append]⟩
 ·clear hU;go_enter Tryz.func92,Tryz.ntmps92;go_wp2;go_ret;exact ⟨⟨_,hii (by simp [validP]),rfl⟩,hb0 _⟩
 ·obtain ⟨b,off,rfl,hc⟩:=hU.at' (k:=r.length) (x:=x) (by simp);have HV:Hid (validP neg (r ++ [x])↔Bi.Ok (r ++ [x])∧x ≠ 0∧Bi.val (r ++ [x]) < Bi.Big):=hii valid_last;have hl:(r ++ [x]).length=r.length + 1:=by simp
  have hc':∀ o,(w.alloc o).cell? ⟨b,off + r.length,none⟩=some (.int .u32 (x:Int)):=fun o => ((hb0 o).cell (p:=⟨b,off + r.length,none⟩) (cell_lt hc)).trans hc
  have hU':∀ o,Hid (U (w.alloc o) (some ⟨b,off,none⟩) (r ++ [x])):=fun o => hii (hU.mono (hb0 o))
  have HE:∀ o,Hid (Env (w.alloc o)):=fun o => hii (hE.mono (hb0 o))
  rw [hl] at hm ⊢;have HLen:=hii hl;clear hl hU hE hb0
  by_cases hx0:x=0
  ·subst hx0;go_enter Tryz.func92,Tryz.ntmps92;go_wp2;go_ret;exact ⟨⟨false,hii (by rw [HV.out]; simp),rfl⟩,bA _ _⟩
  ·have hxb:((x:Int) == 0)=false:=by rw [beq_eq_false_iff_ne]; omega
   by_cases hlen:(34:Int) < (r.length:Int) + 1
   ·have hbig:¬ Bi.val (r ++ [x]) < Bi.Big:=by have:=big_len (r:=r) hx0 (by omega); omega
    have HBig:=hii hbig;clear hbig;go_enter Tryz.func92,Tryz.ntmps92;go_wp2;go_ret;exact ⟨⟨false,hii (by rw [HV.out]; simp [HBig.out]),rfl⟩,bA _ _⟩
   ·go_enter Tryz.func92,Tryz.ntmps92;go_wp2_with fail;rw [← HLen.out];(with_reducible refine (containsFunc_anyX (r ++ [x]) _ _ _ ?_ (hU' _).out).mono ?_)
    ·rw [HLen.out]; exact hm
    rintro e w1 ⟨⟨q,HQ,rfl⟩,rfl⟩
    cases q
    ·have ho:Hid (Bi.Ok (r ++ [x])):=hii (by have:=HQ.out; simp at this; exact this);go_wp2_with fail;rw [← HLen.out];(with_reducible refine (digits_any _ (r ++ [x]) (hii (canon_snoc ho.out hx0)) _ _ _ ?_ (hU' _).out (HE _).out).mono ?_)
     ·rw [HLen.out]; omega
     rintro e w2 ⟨⟨d,HD,hd,rfl⟩,hb2⟩;go_wp2;go_ret;refine ⟨⟨_,hii ?_,rfl⟩,(bA _ _).trans (hb2.mono (by simp))⟩;rw [HV.out,← Bi.dlen_le,← HD.out];simp [ho.out,hx0];omega
    ·have ho:Hid (¬ Bi.Ok (r ++ [x])):=hii (HQ.out.1 rfl);go_wp2;go_ret;exact ⟨⟨false,hii (by rw [HV.out]; simp [ho.out]),rfl⟩,bA _ _⟩
theorem rdigits_anyX (n:Nat) (l:List Nat) (HL:Hid (l=Bi.limbs n)) (ao:Option Addr) (cap:Nat) (w:World) (hm:l.length≤140737488355328) (hU:U w ao l) :
  Calls Tryz.prog 95 #[.slice ao l.length cap] w fun e w' => (∃ d:Nat,Hid (d=Bi.dlen n)∧d≤2000000000000000∧e=.returned (.int .i64 d))∧w=w':=by
 obtain rfl | ⟨r,x,rfl⟩:l=[]∨∃ r x,l=r ++ [x]:=by
  rcases List.eq_nil_or_concat l with h | ⟨r,x,h⟩
  ·exact .inl h
  ·exact .inr ⟨r,x,by rw [h,List.concat_eq_append]⟩
 ·have h0:Hid (Bi.dlen n=0):=hii (by rw [Bi.limbs_eq_nil.1 HL.out.symm]; rfl);clear hU;go_enter Tryz.func95,Tryz.ntmps95;go_wp2;go_ret;exact ⟨⟨0,hii h0.out.symm,by omega,rfl⟩,rfl⟩
 ·obtain ⟨h1,h2,h3⟩:=Bi.dlen_limbs HL.out;have H1:=hii h1; clear h1;have h4:=Bi.nd_small h3;have H4:Hid (Bi.dlen x≤9∧Bi.dlen x=Lib.nDigits x):=hii (by unfold Bi.dlen; rw [if_neg h2]; exact ⟨h4,rfl⟩);clear h4 h2;obtain ⟨b,off,rfl,hc⟩:=hU.at' (k:=r.length) (x:=x) (by simp);clear hU;have hl:(r ++ [x]).length=r.length + 1:=by simp
  rw [hl] at hm ⊢;clear hl;go_enter Tryz.func95,Tryz.ntmps95;go_wp2;go_loop [3,4] (fun s3 s4 => ∃ y d:Nat,s4=.int .u32 y∧s3=.int .i64 ((9 * r.length + d:Nat):Int)∧y < 1000000000∧d≤9∧Hid (d + Bi.dlen y=Bi.dlen x)) (fun _ s4 => (intOf s4).toNat)
  case atStart => exact ⟨x,0,rfl,by go_num,h3,by omega,hii (by simp)⟩
  case round =>
   obtain ⟨y,d,rfl,rfl,hy,hd,HI⟩:=hrel;clear hc
   by_cases hy0:(0:Int) < (y:Int)
   ·have h5:=Bi.dlen_step (y:=y) (by omega);have h6:=HI.out;have h7:=H4.out.1;have hd2:d + 1≤9:=by omega
    have HI2:Hid (d + 1 + Bi.dlen (y / 10)=Bi.dlen x):=hii (by omega);clear h5 h6 h7;go_wp2;go_round
    case rel => exact ⟨y / 10,d + 1,by go_num,by go_num,by omega,hd2,HI2⟩
    case measure => simp [intOf]; omega
   ·obtain rfl:y=0:=by omega
    go_wp2;go_ret;refine ⟨⟨9 * r.length + d,hii ?_,by omega,rfl⟩,rfl⟩;have h6:=HI.out;have h7:=H4.out.2;rw [H1.out,← h7,← h6]
    rfl
theorem rValid_anyX (neg:Bool) (l:List Nat) (ao:Option Addr) (cap:Nat) (w:World) (hm:l.length≤140737488355328) (hU:U w ao l) :
  Calls Tryz.prog 78 #[.agg #[.bool neg,.slice ao l.length cap]] w fun e w' => BoolP (validP neg l) e∧Below w.heap.size w w':=by
 go_enter Tryz.func78,Tryz.ntmps78;go_wp2_with fail;have hbx:=bA w (.cells #[.bool neg,.slice ao l.length cap] 24);have B1:=Box.new w (.bool neg) (.slice ao l.length cap) 24;have hUx:=hU.mono hbx;clear hU;generalize w.alloc (.cells #[.bool neg,.slice ao l.length cap] 24)=wx at *;obtain ⟨a0,a1,_,_⟩:=B1;go_loop [3] (fun s => ∃ k:Nat,k≤l.length∧s=.int .i64 k∧Hid (Bi.Ok (l.take k))) (fun s => l.length - (intOf s).toNat)
 case atStart => exact ⟨0,Nat.zero_le _,rfl,hii (by simp [Bi.Ok])⟩
 case round =>
  obtain ⟨k,hk,rfl,HK⟩:=hrel
  by_cases hlt:k < l.length
  ·obtain ⟨x,hx⟩:=get_some hlt;obtain ⟨b,off,rfl,hc⟩:=hUx.at' hx;have HX:=hii hx;clear hx hUx
   by_cases hs:(1000000000:Int)≤(x:Int)
   ·have hno:¬ validP neg l:=by
     intro h;unfold validP at h;rw [if_neg (by rintro rfl; simp at hlt)] at h;have:=h.1.at' HX.out;omega
    have HNO:=hii hno;clear hno;go_wp2;go_ret;exact ⟨⟨false,hii (by simp [HNO.out]),rfl⟩,hbx⟩
   ·go_wp2;go_round
    case rel =>
     refine ⟨k + 1,by omega,by go_num,hii ?_⟩;have h1:l[k]'hlt=x:=(List.getElem?_eq_some_iff.1 HX.out).2;rw [List.take_succ_eq_append_getElem hlt,h1];exact HK.out.snoc (by omega)
    case measure => simp [intOf]; omega
  ·obtain rfl:k=l.length:=by omega
   have HO:Hid (Bi.Ok l):=hii (by have:=HK.out; rwa [List.take_length] at this);clear HK
   by_cases hl0:l=[]
   ·subst hl0;clear hUx;go_wp2;go_ret;exact ⟨⟨_,hii (by simp [validP]),rfl⟩,hbx⟩
   ·have hl1:0 < l.length:=List.length_pos_iff.2 hl0;have hlz:((l.length:Int) == 0)=false:=by rw [beq_eq_false_iff_ne]; omega
    obtain ⟨x,hx⟩:=get_some (l:=l) (k:=l.length - 1) (by omega);obtain ⟨b,off,rfl,hc⟩:=hUx.at' hx;have HV:Hid (validP neg l↔Bi.Ok l∧x ≠ 0∧Bi.val l < Bi.Big):=hii (by
     obtain ⟨r,rfl⟩:=last_split hx;exact valid_last)
    have HS:=hii (last_split hx);clear hx hl0
    by_cases hx0:x=0
    ·subst hx0;clear hUx;go_wp2;go_ret;exact ⟨⟨false,hii (by rw [HV.out]; simp),rfl⟩,hbx⟩
    ·have hxb:((x:Int) != 0)=true:=by rw [bne_iff_ne]; omega
     have HL:Hid (l=Bi.limbs (Bi.val l)):=hii (by
      obtain ⟨r,hr⟩:=HS.out;have ho:=HO.out;rw [hr] at ho ⊢;exact canon_snoc ho hx0)
     go_wp2_with fail;(with_reducible refine (rdigits_anyX _ l HL _ _ _ ?_ hUx).mono ?_)
     ·omega
     rintro e w2 ⟨⟨d,HD,hd,rfl⟩,rfl⟩;clear hUx;go_wp2;go_ret;refine ⟨⟨_,hii ?_,rfl⟩,hbx⟩;rw [HV.out,← Bi.dlen_le,← HD.out];simp [HO.out,hx0];omega
theorem valid_yesX (neg:Bool) (l:List Nat) (ao:Option Addr) (cap:Nat) (w:World) (hm:l.length≤140737488355328) (hv:Hid (validP neg l)) (hU:U w ao l) (hE:Env w) :
  Calls Tryz.prog 92 #[.agg #[.bool neg,.slice ao l.length cap]] w fun e w' => e=.returned (.bool true)∧Below w.heap.size w w':=by
 refine (valid_anyX neg l ao cap w hm hU hE).mono ?_;rintro e w' ⟨⟨r,HR,rfl⟩,hb⟩;refine ⟨ret_bool ?_,hb⟩;have h:=HR.out;have hv:=hv.out
 cases r <;> simp_all
theorem rvalid_yesX (neg:Bool) (l:List Nat) (ao:Option Addr) (cap:Nat) (w:World) (hm:l.length≤140737488355328) (hv:Hid (validP neg l)) (hU:U w ao l) :
  Calls Tryz.prog 78 #[.agg #[.bool neg,.slice ao l.length cap]] w fun e w' => e=.returned (.bool true)∧Below w.heap.size w w':=by
 refine (rValid_anyX neg l ao cap w hm hU).mono ?_;rintro e w' ⟨⟨r,HR,rfl⟩,hb⟩;refine ⟨ret_bool ?_,hb⟩;have h:=HR.out;have hv:=hv.out
 cases r <;> simp_all
theorem valid_noX (neg:Bool) (l:List Nat) (ao:Option Addr) (cap:Nat) (w:World) (hm:l.length≤140737488355328) (hv:Hid (¬ validP neg l)) (hU:U w ao l) (hE:Env w) :
  Calls Tryz.prog 92 #[.agg #[.bool neg,.slice ao l.length cap]] w fun e w' => e=.returned (.bool false)∧Below w.heap.size w w':=by
 refine (valid_anyX neg l ao cap w hm hU hE).mono ?_;rintro e w' ⟨⟨r,HR,rfl⟩,hb⟩;refine ⟨ret_bool ?_,hb⟩;have h:=HR.out;have hv:=hv.out
 cases r <;> simp_all
theorem rvalid_noX (neg:Bool) (l:List Nat) (ao:Option Addr) (cap:Nat) (w:World) (hm:l.length≤140737488355328) (hv:Hid (¬ validP neg l)) (hU:U w ao l) :
  Calls Tryz.prog 78 #[.agg #[.bool neg,.slice ao l.length cap]] w fun e w' => e=.returned (.bool false)∧Below w.heap.size w w':=by
 refine (rValid_anyX neg l ao cap w hm hU).mono ?_;rintro e w' ⟨⟨r,HR,rfl⟩,hb⟩;refine ⟨ret_bool ?_,hb⟩;have h:=HR.out;have hv:=hv.out
 cases r <;> simp_all
theorem Valid_numX (x1 x2:Bool) (l1 l2:List Nat) (a1 a2:Option Addr) (c1 c2:Nat) (w:World) (m1:l1.length≤140737488355328) (_m2:l2.length≤140737488355328) (u1:U w a1 l1) (u2:U w a2 l2) (hv:Hid (¬ validP x1 l1)) (hE:Env w) :
  Calls Tryz.prog 55 #[.agg #[.bool x1,.slice a1 l1.length c1,.bool x2,.slice a2 l2.length c2]] w fun e w' => e=.returned (.bool false)∧Below w.heap.size w w':=by
 have hbw:=Below.refl w.heap.size w;go_enter Tryz.func55,Tryz.ntmps55;go_upto_region 1 with fail;have X0:=Box4.new w (.bool x1) (.slice a1 l1.length c1) (.bool x2) (.slice a2 l2.length c2) 26;have hb:=bA w (.cells #[.bool x1,.slice a1 l1.length c1,.bool x2,.slice a2 l2.length c2] 26);generalize w.alloc (.cells #[.bool x1,.slice a1 l1.length c1,.bool x2,.slice a2 l2.length c2] 26)=v1 at *;have u1:=u1.mono hb;have hE:=hE.mono hb;have hbw:=bu hbw hb;clear hb;obtain ⟨x0a,x0b,x0c,x0d,_,_,_,_⟩:=id X0;go_wp2_with fail;(with_reducible refine (valid_noX x1 l1 a1 c1 v1 m1 hv u1 hE).mono ?_);rintro e v2 ⟨rfl,hb⟩;have hbw:=bu hbw hb;clear hb;clear x0a x0b x0c x0d;go_wp2;go_ret;exact ⟨rfl,hbw⟩
theorem Valid_denX (x1 x2:Bool) (l1 l2:List Nat) (a1 a2:Option Addr) (c1 c2:Nat) (w:World) (m1:l1.length≤140737488355328) (m2:l2.length≤140737488355328) (u1:U w a1 l1) (u2:U w a2 l2) (hv:Hid (Hid (validP x1 l1)∧Hid (¬ validP x2 l2))) (hE:Env w) :
  Calls Tryz.prog 55 #[.agg #[.bool x1,.slice a1 l1.length c1,.bool x2,.slice a2 l2.length c2]] w fun e w' => e=.returned (.bool false)∧Below w.heap.size w w':=by
 have hbw:=Below.refl w.heap.size w;go_enter Tryz.func55,Tryz.ntmps55;go_upto_region 1 with fail;have X0:=Box4.new w (.bool x1) (.slice a1 l1.length c1) (.bool x2) (.slice a2 l2.length c2) 26;have hb:=bA w (.cells #[.bool x1,.slice a1 l1.length c1,.bool x2,.slice a2 l2.length c2] 26);generalize w.alloc (.cells #[.bool x1,.slice a1 l1.length c1,.bool x2,.slice a2 l2.length c2] 26)=v1 at *;have u1:=u1.mono hb;have u2:=u2.mono hb;have hE:=hE.mono hb;have hbw:=bu hbw hb;clear hb;obtain ⟨x0a,x0b,x0c,x0d,_,_,_,_⟩:=id X0;go_wp2_with fail;(with_reducible refine (valid_yesX x1 l1 a1 c1 v1 m1 hv.out.1 u1 hE).mono ?_);rintro e v2 ⟨rfl,hb⟩;have u2:=u2.mono hb;have X0:=X0.mono hb;have hE:=hE.mono hb;have hbw:=bu hbw hb;clear hb;clear x0a x0b x0c x0d;obtain ⟨x0a,x0b,x0c,x0d,_,_,_,_⟩:=id X0;go_wp2_with fail;(with_reducible refine (valid_noX x2 l2 a2 c2 v2 m2 hv.out.2 u2 hE).mono ?_);rintro e v3 ⟨rfl,hb⟩;have hbw:=bu hbw hb;clear hb;clear x0a x0b x0c x0d;go_wp2;go_ret;exact ⟨rfl,hbw⟩
def VX (w:World) (v:Value) (b:Bool):Prop :=
 ∃ (x1 x2:Bool) (l1 l2:List Nat) (a1 a2:Option Addr) (c1 c2:Nat),v=.agg #[.bool x1,.slice a1 l1.length c1,.bool x2,.slice a2 l2.length c2]∧l1.length≤140737488355328∧l2.length≤140737488355328∧l1.length≤c1∧l2.length≤c2∧U w a1 l1∧U w a2 l2∧Hid (b=true↔ValidR x1 l1 x2 l2)
theorem VX.mono {w w':World} {v:Value} {b:Bool} (h:VX w v b) (hb:Below w.heap.size w w'):VX w' v b:=by
 obtain ⟨x1,x2,l1,l2,a1,a2,c1,c2,e,h1,h2,k1,k2,h3,h4,h5⟩:=h;exact ⟨x1,x2,l1,l2,a1,a2,c1,c2,e,h1,h2,k1,k2,h3.mono hb,h4.mono hb,h5⟩
theorem VX.parts {w:World} {v:Value} {b:Bool} (h:VX w v b):∃ (ng:Bool) (ao:Option Addr) (n cap:Nat) (ng2:Bool) (ao2:Option Addr) (n2 cap2:Nat),v=.agg #[.bool ng,.slice ao n cap,.bool ng2,.slice ao2 n2 cap2]:=by
 obtain ⟨x1,x2,l1,l2,a1,a2,c1,c2,e,_⟩:=h;exact ⟨_,_,_,_,_,_,_,_,e⟩
theorem VX.rat {w:World} {v:Value} (h:VX w v true):∃ r,RatV w v r:=by
 obtain ⟨x1,x2,l1,l2,a1,a2,c1,c2,e,h1,h2,k1,k2,h3,h4,h5⟩:=h;obtain ⟨r,e1,e2,e3,e4,e5,e6⟩:=h5.out.1 rfl;refine ⟨r,x1,a1,_,c1,x2,a2,_,c2,e,⟨x1,a1,l1,c1,rfl,hii e1,hii e2,hii e3,k1,by rw [e2]; exact limbs_len34 e3,h3⟩,⟨x2,a2,l2,c2,rfl,hii ?_,hii ?_,hii e6,k2,?_,h4⟩⟩
 ·rw [e4]; simp
 ·rw [e5,Int.natAbs_natCast]
 ·rw [e5]; exact limbs_len34 (by have:=e6; unfold Rq.Sm at this; rwa [Int.natAbs_natCast] at this)
theorem Valid_falseX (v:Value) (w:World) (h:VX w v false) (hE:Env w) :
  Calls Tryz.prog 55 #[v] w fun e w' => e=.returned (.bool false)∧Below w.heap.size w w':=by
 obtain ⟨x1,x2,l1,l2,a1,a2,c1,c2,rfl,h1,h2,k1,k2,h3,h4,h5⟩:=h;have hn:¬ ValidR x1 l1 x2 l2:=fun h => by simpa using h5.out.2 h
 by_cases v1:validP x1 l1
 ·by_cases v2:validP x2 l2
  ·obtain ⟨p,hp,p1,p2,p3⟩:=int_of v1 k1 h3;obtain ⟨d,hd,d1,d2,d3⟩:=int_of v2 k2 h4;rcases Int.lt_trichotomy d 0 with hd0 | hd0 | hd0
   ·exact Valid_len p d w (hii hd0) hp hd hE
   ·exact Valid_lez p d w (hii hd0) hp hd hE
   ·exact Valid_gcd p d w (hii ⟨hd0,fun hg => hn (validR_of p1 p2 p3 d1 d2 d3 ⟨hd0,hg⟩)⟩) hp hd hE
  ·exact Valid_denX x1 x2 l1 l2 a1 a2 c1 c2 w h1 h2 h3 h4 (hii ⟨hii v1,hii v2⟩) hE
 ·exact Valid_numX x1 x2 l1 l2 a1 a2 c1 c2 w h1 h2 h3 h4 (hii v1) hE
theorem Valid_vX (v:Value) (b:Bool) (w:World) (h:VX w v b) (hE:Env w) :
  Calls Tryz.prog 55 #[v] w fun e w' => e=.returned (.bool b)∧Below w.heap.size w w':=by
 cases b
 ·exact Valid_falseX v w h hE
 ·obtain ⟨r,hr⟩:=h.rat;exact Valid_true v r w hr hE
theorem rValid_numX (x1 x2:Bool) (l1 l2:List Nat) (a1 a2:Option Addr) (c1 c2:Nat) (w:World) (m1:l1.length≤140737488355328) (_m2:l2.length≤140737488355328) (u1:U w a1 l1) (u2:U w a2 l2) (hv:Hid (¬ validP x1 l1)) (hE:Env w) :
  Calls Tryz.prog 48 #[.agg #[.bool x1,.slice a1 l1.length c1,.bool x2,.slice a2 l2.length c2]] w fun e w' => e=.returned (.bool false)∧Below w.heap.size w w':=by
 have hbw:=Below.refl w.heap.size w;go_enter Tryz.func48,Tryz.ntmps48;go_upto_region 1 with fail;have X0:=Box4.new w (.bool x1) (.slice a1 l1.length c1) (.bool x2) (.slice a2 l2.length c2) 26;have hb:=bA w (.cells #[.bool x1,.slice a1 l1.length c1,.bool x2,.slice a2 l2.length c2] 26);generalize w.alloc (.cells #[.bool x1,.slice a1 l1.length c1,.bool x2,.slice a2 l2.length c2] 26)=v1 at *;have u1:=u1.mono hb;have hbw:=bu hbw hb;clear hb;obtain ⟨x0a,x0b,x0c,x0d,_,_,_,_⟩:=id X0;go_wp2_with fail;(with_reducible refine (rvalid_noX x1 l1 a1 c1 v1 m1 hv u1).mono ?_);rintro e v2 ⟨rfl,hb⟩;have hbw:=bu hbw hb;clear hb;clear x0a x0b x0c x0d;go_wp2;go_ret;exact ⟨rfl,hbw⟩
theorem rValid_denX (x1 x2:Bool) (l1 l2:List Nat) (a1 a2:Option Addr) (c1 c2:Nat) (w:World) (m1:l1.length≤140737488355328) (m2:l2.length≤140737488355328) (u1:U w a1 l1) (u2:U w a2 l2) (hv:Hid (Hid (validP x1 l1)∧Hid (¬ validP x2 l2))) (hE:Env w) :
  Calls Tryz.prog 48 #[.agg #[.bool x1,.slice a1 l1.length c1,.bool x2,.slice a2 l2.length c2]] w fun e w' => e=.returned (.bool false)∧Below w.heap.size w w':=by
 have hbw:=Below.refl w.heap.size w;go_enter Tryz.func48,Tryz.ntmps48;go_upto_region 1 with fail;have X0:=Box4.new w (.bool x1) (.slice a1 l1.length c1) (.bool x2) (.slice a2 l2.length c2) 26;have hb:=bA w (.cells #[.bool x1,.slice a1 l1.length c1,.bool x2,.slice a2 l2.length c2] 26);generalize w.alloc (.cells #[.bool x1,.slice a1 l1.length c1,.bool x2,.slice a2 l2.length c2] 26)=v1 at *;have u1:=u1.mono hb;have u2:=u2.mono hb;have hbw:=bu hbw hb;clear hb;obtain ⟨x0a,x0b,x0c,x0d,_,_,_,_⟩:=id X0;go_wp2_with fail;(with_reducible refine (rvalid_yesX x1 l1 a1 c1 v1 m1 hv.out.1 u1).mono ?_);rintro e v2 ⟨rfl,hb⟩;have u2:=u2.mono hb;have X0:=X0.mono hb;have hbw:=bu hbw hb;clear hb;clear x0a x0b x0c x0d;obtain ⟨x0a,x0b,x0c,x0d,_,_,_,_⟩:=id X0;go_wp2_with fail;(with_reducible refine (rvalid_noX x2 l2 a2 c2 v2 m2 hv.out.2 u2).mono ?_);rintro e v3 ⟨rfl,hb⟩;have hbw:=bu hbw hb;clear hb;clear x0a x0b x0c x0d;go_wp2;go_ret;exact ⟨rfl,hbw⟩
theorem rValid_falseX (v:Value) (w:World) (h:VX w v false) (hE:Env w) :
  Calls Tryz.prog 48 #[v] w fun e w' => e=.returned (.bool false)∧Below w.heap.size w w':=by
 obtain ⟨x1,x2,l1,l2,a1,a2,c1,c2,rfl,h1,h2,k1,k2,h3,h4,h5⟩:=h;have hn:¬ ValidR x1 l1 x2 l2:=fun h => by simpa using h5.out.2 h
 by_cases v1:validP x1 l1
 ·by_cases v2:validP x2 l2
  ·obtain ⟨p,hp,p1,p2,p3⟩:=int_of v1 k1 h3;obtain ⟨d,hd,d1,d2,d3⟩:=int_of v2 k2 h4;rcases Int.lt_trichotomy d 0 with hd0 | hd0 | hd0
   ·exact rValid_len p d w (hii hd0) hp hd hE
   ·exact rValid_lez p d w (hii hd0) hp hd hE
   ·exact rValid_gcd p d w (hii ⟨hd0,fun hg => hn (validR_of p1 p2 p3 d1 d2 d3 ⟨hd0,hg⟩)⟩) hp hd hE
  ·exact rValid_denX x1 x2 l1 l2 a1 a2 c1 c2 w h1 h2 h3 h4 (hii ⟨hii v1,hii v2⟩) hE
 ·exact rValid_numX x1 x2 l1 l2 a1 a2 c1 c2 w h1 h2 h3 h4 (hii v1) hE
theorem rValid_vX (v:Value) (b:Bool) (w:World) (h:VX w v b) (hE:Env w) :
  Calls Tryz.prog 48 #[v] w fun e w' => e=.returned (.bool b)∧Below w.heap.size w w':=by
 cases b
 ·exact rValid_falseX v w h hE
 ·obtain ⟨r,hr⟩:=h.rat;exact rValid_true v r w hr hE
theorem FormatQ_invX (v:Value) (w:World) (hqa:VX w v false) (hE:Env w) :
  Calls Tryz.prog 44 #[v] w fun e w' => e=.returned (.tuple #[.string ⟨#[]⟩,.int .i64 1])∧Below w.heap.size w w':=by
 have hbw:=Below.refl w.heap.size w;obtain ⟨ng1,ao1,n1,cap1,ng2,ao2,n2,cap2,rfl⟩:=hqa.parts;go_enter Tryz.func44,Tryz.ntmps44;go_upto_region 1 with fail;have X1:=Box4.new w (.bool ng1) (.slice ao1 n1 cap1) (.bool ng2) (.slice ao2 n2 cap2) 26;have hb:=bA w (.cells #[.bool ng1,.slice ao1 n1 cap1,.bool ng2,.slice ao2 n2 cap2] 26);generalize w.alloc (.cells #[.bool ng1,.slice ao1 n1 cap1,.bool ng2,.slice ao2 n2 cap2] 26)=v1 at *;have hqa:=hqa.mono hb;have hE:=hE.mono hb;have hbw:=bu hbw hb;clear hb;obtain ⟨x1a,x1b,x1c,x1d,_,_,_,_⟩:=id X1;go_wp2_with fail;(with_reducible refine (Valid_vX _ false v1 hqa hE).mono ?_);rintro e v2 ⟨rfl,hb⟩;have hbw:=bu hbw hb;clear hb;clear x1a x1b x1c x1d;go_wp2;go_ret2;exact ⟨rfl,hbw⟩
theorem rFormatQ_invX (v:Value) (w:World) (hqa:VX w v false) (hE:Env w) :
  Calls Tryz.prog 21 #[v] w fun e w' => e=.returned (.tuple #[.string ⟨#[]⟩,.int .i64 1])∧Below w.heap.size w w':=by
 have hbw:=Below.refl w.heap.size w;obtain ⟨ng1,ao1,n1,cap1,ng2,ao2,n2,cap2,rfl⟩:=hqa.parts;go_enter Tryz.func21,Tryz.ntmps21;go_upto_region 1 with fail;have X1:=Box4.new w (.bool ng1) (.slice ao1 n1 cap1) (.bool ng2) (.slice ao2 n2 cap2) 26;have hb:=bA w (.cells #[.bool ng1,.slice ao1 n1 cap1,.bool ng2,.slice ao2 n2 cap2] 26);generalize w.alloc (.cells #[.bool ng1,.slice ao1 n1 cap1,.bool ng2,.slice ao2 n2 cap2] 26)=v1 at *;have hqa:=hqa.mono hb;have hE:=hE.mono hb;have hbw:=bu hbw hb;clear hb;obtain ⟨x1a,x1b,x1c,x1d,_,_,_,_⟩:=id X1;go_wp2_with fail;(with_reducible refine (rValid_vX _ false v1 hqa hE).mono ?_);rintro e v2 ⟨rfl,hb⟩;have hbw:=bu hbw hb;clear hb;clear x1a x1b x1c x1d;go_wp2;go_ret2;exact ⟨rfl,hbw⟩
def QX (w:World) (v:Value):Option Rat→Prop
 | some r => RatV w v r
 | none => VX w v false
theorem QX.mono {w w':World} {v:Value} {o:Option Rat} (h:QX w v o) (hb:Below w.heap.size w w'):QX w' v o:=by
 cases o
 ·exact VX.mono h hb
 ·exact RatV.mono h hb
theorem QX.parts {w:World} {v:Value} {o:Option Rat} (h:QX w v o):∃ (ng:Bool) (ao:Option Addr) (n cap:Nat) (ng2:Bool) (ao2:Option Addr) (n2 cap2:Nat),v=.agg #[.bool ng,.slice ao n cap,.bool ng2,.slice ao2 n2 cap2]:=by
 cases o
 ·exact VX.parts h
 ·exact RatV.parts h
def UX (w:World) (ao:Option Addr) (l:List (Option Rat)):Prop :=
 ∀ i o,l[i]?=some o→∃ (b off:Nat) (n1:Bool) (a1:Option Addr) (l1 c1:Nat) (n2:Bool) (a2:Option Addr) (l2 c2:Nat),ao=some ⟨b,off,none⟩ ∧
  Four w b (off + i * 4) (.bool n1) (.slice a1 l1 c1) (.bool n2) (.slice a2 l2 c2) ∧
  QX w (.agg #[.bool n1,.slice a1 l1 c1,.bool n2,.slice a2 l2 c2]) o
theorem UX.mono {w w':World} {ao:Option Addr} {l:List (Option Rat)} (h:UX w ao l) (hb:Below w.heap.size w w'):UX w' ao l:=by
 intro i o hi;obtain ⟨b,off,n1,a1,l1,c1,n2,a2,l2,c2,e,h0,hq⟩:=h i o hi;exact ⟨b,off,n1,a1,l1,c1,n2,a2,l2,c2,e,h0.mono hb,hq.mono hb⟩
theorem UX.uq {w:World} {ao:Option Addr} {l:List Rat} (h:UX w ao (l.map some)):UQ w ao (l.map some):=by
 intro i o hi;obtain ⟨b,off,n1,a1,l1,c1,n2,a2,l2,c2,e,F,hq⟩:=h i o hi;rw [List.getElem?_map,Option.map_eq_some_iff] at hi;obtain ⟨r,_,rfl⟩:=hi;exact ⟨b,off,n1,a1,l1,c1,n2,a2,l2,c2,e,F,hq⟩
def MX_ (w:World) (ao:Option Addr) (rows:List (List Qo)):Prop :=
 ∀ i row,rows[i]?=some row→∃ b off ar cr,ao=some ⟨b,off,none⟩∧w.cell? ⟨b,off + i,none⟩=some (.slice ar row.length cr)∧UX w ar row
theorem MX_.mono {w w':World} {ao:Option Addr} {l:List (List Qo)} (h:MX_ w ao l) (hb:Below w.heap.size w w'):MX_ w' ao l:=by
 intro i row hi;obtain ⟨b,off,ar,cr,e,hc,hq⟩:=h i row hi;exact ⟨b,off,ar,cr,e,(hb.cell (cell_lt hc)).trans hc,hq.mono hb⟩
def OptX (w:World) (v:Value) (val:Qo) (x y:List Qo):Prop :=
 ∃ ng ao n cap nh ap m caq ax cx ay cy,v=.agg #[.bool ng,.slice ao n cap,.bool nh,.slice ap m caq,.slice ax x.length cx,.slice ay y.length cy]∧QX w (.agg #[.bool ng,.slice ao n cap,.bool nh,.slice ap m caq]) val∧UX w ax x∧UX w ay y
theorem OptX.mono {w w':World} {v:Value} {val:Qo} {x y:List Qo} (h:OptX w v val x y) (hb:Below w.heap.size w w'):OptX w' v val x y:=by
 obtain ⟨ng,ao,n,cap,nh,ap,m,caq,ax,cx,ay,cy,e,h1,h2,h3⟩:=h;exact ⟨ng,ao,n,cap,nh,ap,m,caq,ax,cx,ay,cy,e,h1.mono hb,h2.mono hb,h3.mono hb⟩
theorem UX.one {w:World} {g:Nat} {n1:Bool} {a1:Option Addr} {l1 c1:Nat} {n2:Bool} {a2:Option Addr} {l2 c2:Nat} {o:Option Rat} (B:Box4 w g (.bool n1) (.slice a1 l1 c1) (.bool n2) (.slice a2 l2 c2)) (h:QX w (.agg #[.bool n1,.slice a1 l1 c1,.bool n2,.slice a2 l2 c2]) o) :
  UX w (some ⟨g,0,none⟩) [o]:=by
 intro i o' hi
 match i,hi with
 | 0,hi =>
  simp at hi; subst hi;exact ⟨g,0,n1,a1,l1,c1,n2,a2,l2,c2,rfl,⟨B.c0,B.c1,B.c2,B.c3,trivial,trivial,trivial,trivial⟩,h⟩
 | i + 1,hi => simp at hi
theorem UX.short {w:World} {ao:Option Addr} {l:List Qo} (h:UX w ao l):ShortT l:=by
 intro o ho;obtain ⟨i,hi⟩:=List.getElem?_of_mem ho;obtain ⟨_,_,_,_,_,_,_,_,_,_,_,_,hq⟩:=h i o hi
 cases o with
 | none => simp [textO]
 | some r =>
  have:=RatV.sm (hq:RatV _ _ r);exact Rq.textQ_len this.1 this.2
theorem dtexts_anyX (l:List Qo) (aa:Option Addr) (ca:Nat) (w:World) (hl:l.length≤50) (ua:UX w aa l) (hE:Env w) :
  Calls Tryz.prog 19 #[.slice aa l.length ca] w fun e w' => e=.returned (.tuple #[.string ⟨(txT l).toArray⟩,.int .i64 (txE l)])∧Below w.heap.size w w':=by
 obtain ⟨T,hT⟩:∃ T,T=txT l:=⟨_,rfl⟩;obtain ⟨K,hK⟩:∃ K,K=txE l:=⟨_,rfl⟩;rw [← hT,← hK];have HT:=hii hT;have HK:=hii hK;clear hT hK;have hE0:=hE;have hbw:=Below.refl w.heap.size w;go_enter Tryz.func19,Tryz.ntmps19;go_wp2_with fail;go_loopw [4,11] (fun s c wr => ∃ k:Nat,k≤l.length∧c=.int .i64 k∧OwnT wr w.heap.size s ((l.take k).map textO)∧Hid (∀ x∈l.take k,x.isNone=false)∧Env wr∧Below w.heap.size w wr) (fun _ c _ => l.length - (intOf c).toNat)
 case atStart => exact ⟨0,Nat.zero_le _,rfl,OwnT.nil _ _,hii (by simp),hE,hbw⟩
 case round =>
  clear hE hbw;obtain ⟨k,hk,rfl,hown,HN,hE,hbw⟩:=hrel
  by_cases hlt:k < l.length
  ·obtain ⟨o,ho⟩:∃ x,l[k]?=some x:=⟨l[k],gE hlt⟩;obtain ⟨b1,off1,ngp,aop,np,capp,ngq,aoq,nq,capq,ea,FA,HVA⟩:=(ua.mono hbw) k o ho;have HM:=hii (map_take ho);have HTk:=hii (fun h => take_all ho HN.out h);have HO:=hii ho;clear ho ua;subst ea;obtain ⟨cFA_0,cFA_1,cFA_2,cFA_3,_,_,_,_⟩:=id FA;go_upto_region 5 with fail;have Y:=Box4.new wr (.bool ngp) (.slice aop np capp) (.bool ngq) (.slice aoq nq capq) 26;have hb:=bA wr (.cells #[.bool ngp,.slice aop np capp,.bool ngq,.slice aoq nq capq] 26);generalize wr.alloc (.cells #[.bool ngp,.slice aop np capp,.bool ngq,.slice aoq nq capq] 26)=wa at *;have HVA:=HVA.mono hb;have hE:=hE.mono hb;have hown:=hown.mono hb;have hbw:=bu hbw hb;clear hb cFA_0 cFA_1 cFA_2 cFA_3 FA;obtain ⟨d0,d1,d2,d3,_,_,_,_⟩:=id Y
   cases o with
   | none =>
    have HVA:VX wa _ false:=HVA;go_wp2_with fail;(with_reducible refine (FormatQ_invX _ wa HVA hE).mono ?_);rintro e v2 ⟨rfl,hb⟩;have hbw:=bu hbw hb;clear hb d0 d1 d2 d3;have hbad:=badQ_snoc HO.out rfl;have HT1:Hid (T=[]):=hii (by rw [HT.out]; unfold txT; rw [hbad]; rfl);have HK1:Hid (K=1):=hii (by rw [HK.out]; unfold txE; rw [hbad]; rfl);clear hbad;go_wp2;go_ret2;exact ⟨by rw [HT1.out,HK1.out]; rfl,hbw⟩
   | some r =>
    have HVA:RatV wa _ r:=HVA;go_wp2_with fail;(with_reducible refine (FormatQ _ r wa HVA hE).mono ?_);rintro e v2 ⟨rfl,hb⟩;have hE:=hE.mono hb;have hown:=hown.mono hb;have hbw:=bu hbw hb;have hsz:=hbw.size;have hll:((l.take k).map textO).length≤1000000:=by simp; omega
    have HLL:=hii hll;clear hb d0 d1 d2 d3 hll;go_wp2_with (at_builtin; refine app_t _ rfl (.tmp 23) (.tmp 25) rfl w w.heap.size _ ((l.take k).map textO) (Rq.textQ r) rfl hown hsz hbw rfl HLL.out ?_; intro v3 w3 hown3 hbel3 hsz3);have hE:=hE0.mono hbel3;go_roundw
    case rel => exact ⟨k + 1,by omega,by go_num,by rw [HM.out]; exact hown3,hii (HTk.out rfl),hE,hbel3⟩
    case measure => simp [intOf]; omega
  ·obtain rfl:k=l.length:=by omega
   have HN:Hid (∀ x∈l,x.isNone=false):=hii fun x hx => HN.out x (by rw [List.take_length]; exact hx)
   rw [List.take_length] at hown;obtain ⟨ao,cap,rfl,hcap,hU⟩:=hown.read;rw [List.length_map] at hcap ⊢;have hbad:=badQ_of HN.out;have HT1:Hid (T=joinT [32] (l.map textO)):=hii (by rw [HT.out]; unfold txT; rw [hbad]; rfl);have HK1:Hid (K=0):=hii (by rw [HK.out]; unfold txE; rw [hbad]; rfl);have hJ:=Join_any (l.map textO) [32] ao cap wr (by simp; omega) (by simpa using hcap) (by simp) (by simp) (by have:=ua.short.sum; omega) hU;rw [List.length_map,← HT1.out] at hJ;have HJ:=hii hJ;clear hJ hbad hU hown;go_wp2_with fail;(with_reducible refine (HJ.out).mono ?_);rintro e v2 ⟨rfl,hb⟩;have hbw:=bu hbw hb;clear hb HJ;go_wp2;go_ret2;exact ⟨by rw [HK1.out]; rfl,hbw⟩
theorem dFormat_anyX (v:Qo) (x y:List Qo) (vo:Value) (w:World) (hx:x.length≤30) (hy:y.length≤30) (ho:OptX w vo v x y) (hE:Env w) :
  Calls Tryz.prog 6 #[vo] w fun e w' => e=.returned (.tuple #[.string ⟨(fmT v x y).toArray⟩,.int .i64 (fmE v x y)])∧Below w.heap.size w w':=by
 obtain ⟨T,hT⟩:∃ T,T=fmT v x y:=⟨_,rfl⟩;obtain ⟨K,hK⟩:∃ K,K=fmE v x y:=⟨_,rfl⟩;rw [← hT,← hK];have HT:=hii hT;have HK:=hii hK;clear hT hK;obtain ⟨ng,ao,n,cap,nh,ap,m,caq,ax,cx,ay,cy,rfl,hv,ux,uy⟩:=ho;have hE0:=hE;go_enter Tryz.func6,Tryz.ntmps6;go_upto_region 1 with fail;have hb:=bA w (.cells #[.bool ng,.slice ao n cap,.bool nh,.slice ap m caq,.slice ax x.length cx,.slice ay y.length cy] 30);have rO:Row (w.alloc (.cells #[.bool ng,.slice ao n cap,.bool nh,.slice ap m caq,.slice ax x.length cx,.slice ay y.length cy] 30)) w.heap.size 30 [.bool ng,.slice ao n cap,.bool nh,.slice ap m caq,.slice ax x.length cx,.slice ay y.length cy]:=heap_alloc_new _ _;obtain ⟨g,hg⟩:∃ g,g=w.heap.size:=⟨_,rfl⟩;rw [← hg] at rO ⊢;clear hg;generalize w.alloc (.cells #[.bool ng,.slice ao n cap,.bool nh,.slice ap m caq,.slice ax x.length cx,.slice ay y.length cy] 30)=w1 at *;have hv:=hv.mono hb;have ux:=ux.mono hb;have uy:=uy.mono hb;have hE:=hE.mono hb;have hbw:=hb;clear hb;have hb1:=bA w1 (.cells #[.bool ng,.slice ao n cap,.bool nh,.slice ap m caq] 26);obtain ⟨y0,y1,y2,y3,y4,y5⟩:=rO.n6;have z4:=(hb1.cell (p:=⟨g,4,none⟩) (cell_lt y4)).trans y4;have z5:=(hb1.cell (p:=⟨g,5,none⟩) (cell_lt y5)).trans y5;clear hb1;go_wp2_with fail;clear y0 y1 y2 y3 y4 y5 z4 z5;obtain ⟨wx,hwx,r1,r2,hb⟩:=two_rows w1 26 27 [.bool ng,.slice ao n cap,.bool nh,.slice ap m caq] [.slice (some ⟨w1.heap.size,0,none⟩) 1 1,.slice ax x.length cx,.slice ay y.length cy];simp only [List.toArray] at hwx;rw [← hwx];clear hwx;have uv:UX wx (some ⟨w1.heap.size,0,none⟩) [v]:=UX.one r1.box4 (hv.mono hb);have ux:=ux.mono hb;have uy:=uy.mono hb;have hE:=hE.mono hb;have hbw:=bu hbw hb;obtain ⟨g2,hg2⟩:∃ g2,g2=w1.heap.size + 1:=⟨_,rfl⟩;rw [← hg2] at r2 ⊢;clear hg2;obtain ⟨rows,hrows⟩:∃ rows,rows=[[v],x,y]:=⟨_,rfl⟩;have hrl:rows.length=3:=by rw [hrows]; rfl
 have uM:MX_ wx (some ⟨g2,0,none⟩) rows:=by
  rw [hrows];obtain ⟨z0,z1,z2⟩:=r2.n3;intro i row hi
  match i,hi with
  | 0,hi => simp at hi; subst hi; exact ⟨g2,0,_,_,rfl,z0,uv⟩
  | 1,hi => simp at hi; subst hi; exact ⟨g2,0,_,_,rfl,z1,ux⟩
  | 2,hi => simp at hi; subst hi; exact ⟨g2,0,_,_,rfl,z2,uy⟩
  | i + 3,hi => simp at hi
 have HL:Hid (∀ r∈rows,r.length≤50):=hii (by
  rw [hrows]; intro r hr;simp only [List.mem_cons,List.not_mem_nil,or_false] at hr;rcases hr with rfl | rfl | rfl
  ·simp
  ·omega
  ·omega)
 have HSm:=hii (fmT_len uv.short ux.short uy.short (by omega) (by omega));rw [← hrows] at HSm;have HT:Hid (T=if rows.any badQ then [] else joinT [59,32] (rows.map txT)):=hii (by rw [hrows]; exact HT.out);have HK:Hid (K=if rows.any badQ then 1 else 0):=hii (by rw [hrows]; exact HK.out);obtain ⟨w2,rfl⟩:∃ w2:World,w2=wx:=⟨_,rfl⟩;clear hrows uv ux uy hb r1 r2 rO hv;have hb0:=Below.refl w2.heap.size w2;have HRL:=hii hrl;clear hrl;go_loopw [4,19] (fun s c wr => ∃ k:Nat,k≤3∧c=.int .i64 k∧OwnT wr w2.heap.size s ((rows.take k).map txT)∧Hid (∀ x∈rows.take k,badQ x=false)∧Env wr∧Below w2.heap.size w2 wr) (fun _ c _ => 3 - (intOf c).toNat)
 case atStart => exact ⟨0,Nat.zero_le _,rfl,OwnT.nil _ _,hii (by simp),hE,hb0⟩
 case round =>
  clear hE hb0;obtain ⟨k,hk,rfl,hown,HN,hE,hbr⟩:=hrel
  by_cases hlt:k < 3
  ·obtain ⟨row,hrow⟩:∃ x,rows[k]?=some x:=⟨rows[k]'(by rw [HRL.out]; exact hlt),gE _⟩;obtain ⟨b0,off0,ar,cr,ea,hc,uR⟩:=(uM.mono hbr) k row hrow
   cases ea
   simp only [Nat.zero_add] at hc;have HM:=hii (map_takeT hrow);have HTk:=hii (fun h => take_all hrow HN.out h);have HO:=hii hrow;have hrl:=HL.out row (List.mem_of_getElem? hrow);obtain ⟨tt,htt⟩:∃ t,t=txT row:=⟨_,rfl⟩;obtain ⟨te,hte⟩:∃ t,t=txE row:=⟨_,rfl⟩;have hX:=dtexts_anyX row ar cr wr hrl uR hE;rw [← htt,← hte] at hX;have HX:=hii hX;have Htt:=hii htt;have Hte:=hii hte;clear hX htt hte hrow uR hrl;go_wp2_with fail;(with_reducible refine (HX.out).mono ?_);rintro e v2 ⟨rfl,hb⟩;have hE:=hE.mono hb;have hown:=hown.mono hb;have hbr:=bu hbr hb;clear hb HX
   cases hbd:badQ row with
   | true =>
    obtain rfl:te=1:=by rw [Hte.out]; unfold txE; rw [hbd]; rfl
    have hany:=any_at HO.out hbd;have HT1:Hid (T=[]):=hii (by rw [HT.out,hany]; rfl);have HK1:Hid (K=1):=hii (by rw [HK.out,hany]; rfl);have hbw:=bu hbw hbr;clear hbd hany hc;go_wp2;go_ret2;exact ⟨by rw [HT1.out,HK1.out]; rfl,hbw⟩
   | false =>
    obtain rfl:te=0:=by rw [Hte.out]; unfold txE; rw [hbd]; rfl
    have Hbd:=hii (HTk.out hbd);have hsz:=hbr.size;have hll:((rows.take k).map txT).length≤1000000:=by simp; omega
    have HLL:=hii hll;clear hbd hll hc;go_wp2_with (at_builtin; refine app_t _ rfl (.tmp 31) (.tmp 33) rfl w2 w2.heap.size _ ((rows.take k).map txT) tt rfl hown hsz hbr rfl HLL.out ?_; intro v3 w3 hown3 hbel3 hsz3);have hE:=(hE0.mono hbw).mono hbel3;go_roundw
    case rel => exact ⟨k + 1,by omega,by go_num,by rw [HM.out,← Htt.out]; exact hown3,Hbd,hE,hbel3⟩
    case measure => simp [intOf]; omega
  ·obtain rfl:k=3:=by omega
   have e0:rows.take 3=rows:=by rw [← HRL.out]; exact List.take_length
   rw [e0] at hown HN;obtain ⟨ao,cap,rfl,hcap,hU⟩:=hown.read;have hany:=any_no HN.out;have HT1:Hid (T=joinT [59,32] (rows.map txT)):=hii (by rw [HT.out,hany]; rfl);have HK1:Hid (K=0):=hii (by rw [HK.out,hany]; rfl);have HTl:T.length≤60000:=by rw [HT1.out]; exact HSm.out.2
   have hJ:=Join_any (rows.map txT) [59,32] ao cap wr (by simp; have:=HRL.out; omega) hcap (by simp) (by simp) (by have:=HSm.out.1; omega) hU;rw [← HT1.out] at hJ;have hml:(rows.map txT).length=3:=by rw [List.length_map,HRL.out]
   rw [hml] at hJ ⊢;have HJ:=hii hJ;have hbw:=bu hbw hbr;have hTs:(⟨T.toArray⟩:ByteArray).size=T.length:=rfl;obtain ⟨tl,htl⟩:∃ tl,tl=T.length:=⟨_,rfl⟩;rw [← htl] at hTs HTl;have g1:¬ (65536:Int) < (tl:Int):=by omega
   clear hJ hU hown hany e0 hml htl;go_wp2_with fail;(with_reducible refine (HJ.out).mono ?_);rintro e v2 ⟨rfl,hb⟩;have hbw:=bu hbw hb;clear hb HJ;go_wp2;go_ret2;exact ⟨by rw [HK1.out]; rfl,hbw⟩
theorem rfmt_anyX (v:Value) (o:Qo) (w:World) (hv:QX w v o) (hE:Env w) :
  Calls Tryz.prog 21 #[v] w fun e w' => e=.returned (.tuple #[.string ⟨(textO o).toArray⟩,.int .i64 (if o.isNone then 1 else 0)])∧Below w.heap.size w w':=by
 cases o with
 | none => exact rFormatQ_invX v w hv hE
 | some r => exact rFormatQ v r w hv hE
theorem rfmt_eqX (v:Value) (o:Qo) (t:List UInt8) (k:Int) (w:World) (ht:Hid (textO o=t)) (hk:Hid ((if o.isNone then 1 else 0:Int)=k)) (hv:QX w v o) (hE:Env w) :
  Calls Tryz.prog 21 #[v] w fun e w' => e=.returned (.tuple #[.string ⟨t.toArray⟩,.int .i64 k])∧Below w.heap.size w w':=by
 rw [← ht.out,← hk.out]; exact rfmt_anyX v o w hv hE
theorem rtexts14_anyX (l:List Qo) (aa:Option Addr) (ca:Nat) (w:World) (hl:l.length≤50) (ua:UX w aa l) (hE:Env w) :
  Calls Tryz.prog 22 #[.slice aa l.length ca] w fun e w' => e=.returned (.tuple #[.string ⟨(txT l).toArray⟩,.int .i64 (txE l)])∧Below w.heap.size w w':=by
 obtain ⟨T,hT⟩:∃ T,T=txT l:=⟨_,rfl⟩;obtain ⟨K,hK⟩:∃ K,K=txE l:=⟨_,rfl⟩;rw [← hT,← hK];have HT:=hii hT;have HK:=hii hK;clear hT hK;have HSh:=hii ua.short;have hbw:=Below.refl w.heap.size w;go_enter Tryz.func22,Tryz.ntmps22;go_wp2_with fail;go_loopw [4,5] (fun s c wr => ∃ (k:Nat) (t:List UInt8),k≤l.length∧c=.int .i64 (k:Nat)∧s=.string ⟨t.toArray⟩∧Hid (t=joinT [32] ((l.take k).map textO))∧Hid (∀ x∈l.take k,x.isNone=false)∧Below w.heap.size w wr) (fun _ c _ => l.length - (intOf c).toNat)
 case atStart => exact ⟨0,[],Nat.zero_le _,rfl,rfl,hii rfl,hii (by simp),hbw⟩
 case round =>
  clear hbw;obtain ⟨k,t,hk,rfl,rfl,Ht,HN,hbw⟩:=hrel
  by_cases hlt:k < l.length
  ·obtain ⟨o,ho⟩:∃ x,l[k]?=some x:=⟨l[k],gE hlt⟩;obtain ⟨b1,off1,ngp,aop,np,capp,ngq,aoq,nq,capq,ea,FA,HVA⟩:=(ua.mono hbw) k o ho;have HM:=hii (map_take ho);have HTk:=hii (fun h => take_all ho HN.out h);have HO:=hii ho;have hEr:=hE.mono hbw;clear ho;subst ea;obtain ⟨c0,c1,c2,c3,_,_,_,_⟩:=id FA
   cases o with
   | none =>
    have HVA:VX wr _ false:=HVA;go_wp2_with fail;(with_reducible refine (rFormatQ_invX _ wr HVA hEr).mono ?_);rintro e v2 ⟨rfl,hb⟩;have hbw:=bu hbw hb;clear hb c0 c1 c2 c3 FA;have hbad:=badQ_snoc HO.out rfl;have HT1:Hid (T=[]):=hii (by rw [HT.out]; unfold txT; rw [hbad]; rfl);have HK1:Hid (K=1):=hii (by rw [HK.out]; unfold txE; rw [hbad]; rfl);clear hbad;go_wp2;go_ret2;exact ⟨by rw [HT1.out,HK1.out]; rfl,hbw⟩
   | some r =>
    have HVA:RatV wr _ r:=HVA;go_wp2_with fail;(with_reducible refine (rFormatQ _ r wr HVA hEr).mono ?_);rintro e v2 ⟨rfl,hb⟩;have hbw:=bu hbw hb;clear hb c0 c1 c2 c3 FA;have hts:t.length≤40000:=by
     rw [Ht.out];have g1:=joinT_len [32] ((l.take k).map textO);have g2:=(show ShortT (l.take k) from fun o ho => HSh.out o (List.mem_of_mem_take ho)).sum;simp only [List.length_cons,List.length_nil,List.length_map,List.length_take] at g1 g2;omega
    have hqs:(Rq.textQ r).length≤700:=HSh.out (some r) (List.mem_of_getElem? HO.out)
    by_cases hk0:0 < k
    ·have Ht2:Hid (t ++ [32] ++ Rq.textQ r=joinT [32] ((l.take (k + 1)).map textO)):=hii (by
      rw [HM.out,joinT_snoc _ _ _ (by intro e; have:=congrArg List.length e; rw [List.length_map,List.length_take,List.length_nil] at this; omega),← Ht.out]; rfl)
     have ea1:=bytes_app t [32];have ea2:(⟨(t ++ [32]).toArray⟩:ByteArray) ++ ⟨(Rq.textQ r).toArray⟩=⟨(t ++ 32 :: Rq.textQ r).toArray⟩:=by rw [bytes_app]; simp
     go_wp2_with fail
     all_goals try (exfalso; omega)
     go_roundw
     case rel => exact ⟨k + 1,_,by omega,by go_num,rfl,hii (by simpa using Ht2.out),hii (HTk.out rfl),hbw⟩
     case measure => simp [intOf]; omega
    ·have hkz:k=0:=by omega
     have Ht2:Hid (t ++ Rq.textQ r=joinT [32] ((l.take (k + 1)).map textO)):=hii (by
      rw [HM.out,Ht.out,hkz]; simp [joinT,textO])
     have ea2:=bytes_app t (Rq.textQ r);clear hkz;go_wp2_with fail
     all_goals try (exfalso; omega)
     go_roundw
     case rel => exact ⟨k + 1,_,by omega,by go_num,rfl,hii (by simpa using Ht2.out),hii (HTk.out rfl),hbw⟩
     case measure => simp [intOf]; omega
  ·have hke:k=l.length:=by omega
   have HN:Hid (∀ x∈l,x.isNone=false):=hii fun x hx => HN.out x (by rw [hke,List.take_length]; exact hx)
   have hbad:=badQ_of HN.out;have HT1:Hid (T=t):=hii (by rw [HT.out,Ht.out,hke,List.take_length]; unfold txT; rw [hbad]; rfl);have HK1:Hid (K=0):=hii (by rw [HK.out]; unfold txE; rw [hbad]; rfl);clear hbad hke;go_wp2;go_ret2;exact ⟨by rw [HT1.out,HK1.out]; rfl,hbw⟩
theorem rtexts14_eqX (l:List Qo) (t:List UInt8) (k:Nat) (aa:Option Addr) (ca:Nat) (w:World) (ht:Hid (txT l=t)) (hk:Hid (txE l=k)) (hl:l.length≤50) (ua:UX w aa l) (hE:Env w) :
  Calls Tryz.prog 22 #[.slice aa l.length ca] w fun e w' => e=.returned (.tuple #[.string ⟨t.toArray⟩,.int .i64 k])∧Below w.heap.size w w':=by
 rw [← ht.out,← hk.out]; exact rtexts14_anyX l aa ca w hl ua hE
theorem qv_shortX {w:World} {u:Value} {v:Qo} (h:QX w u v):ShortT [v]:=by
 intro o ho;simp only [List.mem_cons,List.not_mem_nil,or_false] at ho;subst ho
 cases o with
 | none => simp [textO]
 | some r => exact Rq.textQ_len (RatV.sm (h:RatV _ _ r)).1 (RatV.sm (h:RatV _ _ r)).2
theorem rFormat14_anyX (v:Qo) (x y:List Qo) (vo:Value) (w:World) (hx:x.length≤30) (hy:y.length≤30) (ho:OptX w vo v x y) (hE:Env w) :
  Calls Tryz.prog 7 #[vo] w fun e w' => e=.returned (.tuple #[.string ⟨(fmT v x y).toArray⟩,.int .i64 (fmE v x y)])∧Below w.heap.size w w':=by
 obtain ⟨T,hT⟩:∃ T,T=fmT v x y:=⟨_,rfl⟩;obtain ⟨K,hK⟩:∃ K,K=fmE v x y:=⟨_,rfl⟩;rw [← hT,← hK];have HT:=hii hT;have HK:=hii hK;clear hT hK;obtain ⟨ng1,ao1,n1,cap1,nh1,ap1,m1,caq1,ax,cx,ay,cy,rfl,hv,ux,uy⟩:=ho;have Hlen:Hid (T.length≤65536):=hii (by
  rw [HT.out]
  cases hb:[[v],x,y].any badQ with
  | true => unfold fmT; rw [if_pos hb]; simp
  | false => have:=fmT_len (qv_shortX hv) ux.short uy.short hx hy; unfold fmT; rw [if_neg (by rw [hb]; decide)]; omega)
 obtain ⟨tv,htv⟩:∃ t,textO v=t:=⟨_,rfl⟩;obtain ⟨tx,htx⟩:∃ t,txT x=t:=⟨_,rfl⟩;obtain ⟨ty,hty⟩:∃ t,txT y=t:=⟨_,rfl⟩;obtain ⟨kv,hkv⟩:∃ k:Int,(if v.isNone then 1 else 0:Int)=k:=⟨_,rfl⟩;obtain ⟨kx,hkx⟩:∃ k:Nat,txE x=k:=⟨_,rfl⟩;obtain ⟨ky,hky⟩:∃ k:Nat,txE y=k:=⟨_,rfl⟩;have Htv:=hii htv;have Htx:=hii htx;have Hty:=hii hty;have Hkv:=hii hkv;have Hkx:=hii hkx;have Hky:=hii hky;clear htv htx hty hkv hkx hky;go_enter Tryz.func7,Tryz.ntmps7;go_upto_region 1 with fail;have hb:=bA w (.cells #[.bool ng1,.slice ao1 n1 cap1,.bool nh1,.slice ap1 m1 caq1,.slice ax x.length cx,.slice ay y.length cy] 30);have rO:Row (w.alloc (.cells #[.bool ng1,.slice ao1 n1 cap1,.bool nh1,.slice ap1 m1 caq1,.slice ax x.length cx,.slice ay y.length cy] 30)) w.heap.size 30 [.bool ng1,.slice ao1 n1 cap1,.bool nh1,.slice ap1 m1 caq1,.slice ax x.length cx,.slice ay y.length cy]:=heap_alloc_new _ _;obtain ⟨g,hg⟩:∃ g,g=w.heap.size:=⟨_,rfl⟩;rw [← hg] at rO ⊢;clear hg;generalize w.alloc (.cells #[.bool ng1,.slice ao1 n1 cap1,.bool nh1,.slice ap1 m1 caq1,.slice ax x.length cx,.slice ay y.length cy] 30)=w1 at *;have hv:=hv.mono hb;have ux:=ux.mono hb;have uy:=uy.mono hb;have hE:=hE.mono hb;have hbw:=hb;clear hb;obtain ⟨y0,y1,y2,y3,y4,y5⟩:=rO.n6;go_wp2_with fail;(with_reducible refine (rfmt_eqX _ v tv kv w1 Htv Hkv hv hE).mono ?_);rintro e w2 ⟨rfl,hb⟩;have ux:=ux.mono hb;have uy:=uy.mono hb;have hE:=hE.mono hb;have rO:=rO.below hb;have hbw:=bu hbw hb;clear hb y0 y1 y2 y3 y4 y5 hv;obtain ⟨y0,y1,y2,y3,y4,y5⟩:=rO.n6;go_wp2_with fail;(with_reducible refine (rtexts14_eqX x tx kx ax cx w2 Htx Hkx (by omega) ux hE).mono ?_);rintro e w3 ⟨rfl,hb⟩;have uy:=uy.mono hb;have hE:=hE.mono hb;have rO:=rO.below hb;have hbw:=bu hbw hb;clear hb y0 y1 y2 y3 y4 y5 ux;obtain ⟨y0,y1,y2,y3,y4,y5⟩:=rO.n6;go_wp2_with fail;(with_reducible refine (rtexts14_eqX y ty ky ay cy w3 Hty Hky (by omega) uy hE).mono ?_);rintro e w4 ⟨rfl,hb⟩;have hbw:=bu hbw hb;clear hb y0 y1 y2 y3 y4 y5 uy rO hE;have bad:v.isNone=true∨badQ x=true∨badQ y=true→Hid (T=[]∧K=1):=fun h => hii ⟨HT.out.trans (fm_bad h).1,HK.out.trans (fm_bad h).2⟩
 cases h0:v.isNone with
 | true =>
  have HB:=bad (.inl h0);obtain rfl:kv=1:=by rw [← Hkv.out,h0]; rfl
  clear bad HT HK Hkv Hkx Hky Htv Htx Hty Hlen h0;go_wp2;go_ret2;exact ⟨by rw [HB.out.1,HB.out.2]; rfl,hbw⟩
 | false =>
  obtain rfl:kv=0:=by rw [← Hkv.out,h0]; rfl
  cases h1:badQ x with
  | true =>
   obtain rfl:kx=1:=by rw [← Hkx.out]; unfold txE; rw [h1]; rfl
   have HB:=bad (.inr (.inl h1));clear bad HT HK Hkv Hkx Hky Htv Htx Hty Hlen h0 h1;go_wp2;go_ret2;exact ⟨by rw [HB.out.1,HB.out.2]; rfl,hbw⟩
  | false =>
   obtain rfl:kx=0:=by rw [← Hkx.out]; unfold txE; rw [h1]; rfl
   cases h2:badQ y with
   | true =>
    obtain rfl:ky=1:=by rw [← Hky.out]; unfold txE; rw [h2]; rfl
    have HB:=bad (.inr (.inr h2));clear bad HT HK Hkv Hkx Hky Htv Htx Hty Hlen h0 h1 h2;go_wp2;go_ret2;exact ⟨by rw [HB.out.1,HB.out.2]; rfl,hbw⟩
   | false =>
    obtain rfl:ky=0:=by rw [← Hky.out]; unfold txE; rw [h2]; rfl
    have HG:=hii (fm_good h0 h1 h2);have HT1:Hid (T=tv ++ [59,32] ++ tx ++ [59,32] ++ ty):=hii (by rw [HT.out,HG.out.1,Htv.out,Htx.out,Hty.out]);have HK1:Hid (K=0):=hii (HK.out.trans HG.out.2);have hlen:=Hlen.out;have hlen2:tv.length + 2 + tx.length + 2 + ty.length=T.length:=by rw [HT1.out]; simp only [List.length_append,List.length_cons,List.length_nil]
    clear bad HT HK HG Hkv Hkx Hky Htv Htx Hty Hlen h0 h1 h2;have ea1:=bytes_app tv [59,32];have ea2:(⟨(tv ++ [59,32]).toArray⟩:ByteArray) ++ ⟨tx.toArray⟩=⟨(tv ++ 59 :: 32 :: tx).toArray⟩:=by rw [bytes_app]; simp
    have ea3:(⟨(tv ++ 59 :: 32 :: tx).toArray⟩:ByteArray) ++ ⟨#[59,32]⟩=⟨(tv ++ 59 :: 32 :: (tx ++ [59,32])).toArray⟩:=by
     have:=bytes_app (tv ++ 59 :: 32 :: tx) [59,32];rw [this]; simp
    have ea4:(⟨(tv ++ 59 :: 32 :: (tx ++ [59,32])).toArray⟩:ByteArray) ++ ⟨ty.toArray⟩=⟨T.toArray⟩:=by rw [bytes_app,HT1.out]; simp
    go_wp2_with fail
    all_goals try (exfalso; omega)
    go_ret2;exact ⟨by rw [HK1.out]; rfl,hbw⟩
theorem UX.smL {w:World} {ao:Option Addr} {l:List Rat} (h:UX w ao (l.map some)):SmL l:=by
 intro r hr;obtain ⟨i,hi⟩:=List.getElem?_of_mem hr;obtain ⟨_,_,_,_,_,_,_,_,_,_,_,_,hq⟩:=h i (some r) (by rw [List.getElem?_map,hi]; rfl);exact RatV.sm (hq:RatV _ _ r)
theorem dualTexts_lowX (v:Qo) (x y:List Qo) {ng1:Bool} {ao1:Option Addr} {n1 cap1:Nat} {nh1:Bool} {ap1:Option Addr} {m1 caq1:Nat} (ax ay:Option Addr) (cx cy:Nat) (w:World) (hx:x.length≤10) (hy:y.length≤10) (hv:QX w (.agg #[.bool ng1,.slice ao1 n1 cap1,.bool nh1,.slice ap1 m1 caq1]) v) (ux:UX w ax x) (uy:UX w ay y) (hE:Env w) (hM:MaxV w) :
  Calls Tryz.prog 3 #[.agg #[.bool ng1,.slice ao1 n1 cap1,.bool nh1,.slice ap1 m1 caq1],.slice ax x.length cx,.slice ay y.length cy] w fun e w' => e=.returned (.bool true)∧Below w.heap.size w w':=by
 have hxl:decide ((10:Int) < (x.length:Int))=false:=decide_eq_false (by omega);have hyl:decide ((10:Int) < (y.length:Int))=false:=decide_eq_false (by omega);go_enter Tryz.func3,Tryz.ntmps3;go_upto_region 1 with fail;have hb:=bA w (.cells #[.bool ng1,.slice ao1 n1 cap1,.bool nh1,.slice ap1 m1 caq1] 26);have rV:Row (w.alloc (.cells #[.bool ng1,.slice ao1 n1 cap1,.bool nh1,.slice ap1 m1 caq1] 26)) w.heap.size 26 [.bool ng1,.slice ao1 n1 cap1,.bool nh1,.slice ap1 m1 caq1]:=heap_alloc_new _ _;obtain ⟨gV,hg⟩:∃ gV,gV=w.heap.size:=⟨_,rfl⟩;rw [← hg] at rV ⊢;clear hg;generalize w.alloc (.cells #[.bool ng1,.slice ao1 n1 cap1,.bool nh1,.slice ap1 m1 caq1] 26)=w1 at *;have hv:=hv.mono hb;have ux:=ux.mono hb;have uy:=uy.mono hb;have hE:=hE.mono hb;have hM:=hM.mono hb;have hbw:=hb;clear hb;go_wp2_with fail;(with_reducible refine (awake14 w1 hE).mono ?_);rintro e w2 ⟨rfl,hb⟩;have hv:=hv.mono hb;have ux:=ux.mono hb;have uy:=uy.mono hb;have hE:=hE.mono hb;have hM:=hM.mono hb;have rV:=rV.below hb;have hbw:=bu hbw hb;clear hb;obtain ⟨z0,z1,z2,z3⟩:=rV.n4;go_upto_region 4 with fail;have hb:=bA w2 (.cells #[.bool ng1,.slice ao1 n1 cap1,.bool nh1,.slice ap1 m1 caq1,.slice ax x.length cx,.slice ay y.length cy] 30);have rO:Row (w2.alloc (.cells #[.bool ng1,.slice ao1 n1 cap1,.bool nh1,.slice ap1 m1 caq1,.slice ax x.length cx,.slice ay y.length cy] 30)) w2.heap.size 30 [.bool ng1,.slice ao1 n1 cap1,.bool nh1,.slice ap1 m1 caq1,.slice ax x.length cx,.slice ay y.length cy]:=heap_alloc_new _ _;obtain ⟨gO,hg⟩:∃ gO,gO=w2.heap.size:=⟨_,rfl⟩;rw [← hg] at rO ⊢;clear hg;generalize w2.alloc (.cells #[.bool ng1,.slice ao1 n1 cap1,.bool nh1,.slice ap1 m1 caq1,.slice ax x.length cx,.slice ay y.length cy] 30)=w3 at *;have hv:=hv.mono hb;have ux:=ux.mono hb;have uy:=uy.mono hb;have hE:=hE.mono hb;have hM:=hM.mono hb;have hbw:=bu hbw hb;clear hb z0 z1 z2 z3 rV;have HF1:=dFormat_anyX v x y (.agg #[.bool ng1,.slice ao1 n1 cap1,.bool nh1,.slice ap1 m1 caq1,.slice ax x.length cx,.slice ay y.length cy]) w3 (by omega) (by omega) ⟨_,_,_,_,_,_,_,_,_,_,_,_,rfl,hv,ux,uy⟩ hE;obtain ⟨T,hT⟩:∃ T,fmT v x y=T:=⟨_,rfl⟩;obtain ⟨K,hK⟩:∃ K,fmE v x y=K:=⟨_,rfl⟩;rw [hT,hK] at HF1;have HT:=hii hT;have HK:=hii hK;clear hT hK;obtain ⟨y0,y1,y2,y3,y4,y5⟩:=rO.n6;go_wp2_with fail;(with_reducible refine HF1.mono ?_);rintro e w4 ⟨rfl,hb⟩;have hv:=hv.mono hb;have ux:=ux.mono hb;have uy:=uy.mono hb;have hE:=hE.mono hb;have hM:=hM.mono hb;have rO:=rO.below hb;have hbw:=bu hbw hb;clear hb HF1 y0 y1 y2 y3 y4 y5;have HF2:=rFormat14_anyX v x y (.agg #[.bool ng1,.slice ao1 n1 cap1,.bool nh1,.slice ap1 m1 caq1,.slice ax x.length cx,.slice ay y.length cy]) w4 (by omega) (by omega) ⟨_,_,_,_,_,_,_,_,_,_,_,_,rfl,hv,ux,uy⟩ hE;rw [HT.out,HK.out] at HF2;obtain ⟨y0,y1,y2,y3,y4,y5⟩:=rO.n6;go_wp2_with fail;(with_reducible refine HF2.mono ?_);rintro e w5 ⟨rfl,hb⟩;have hv:=hv.mono hb;have ux:=ux.mono hb;have uy:=uy.mono hb;have hE:=hE.mono hb;have hM:=hM.mono hb;have rO:=rO.below hb;have hbw:=bu hbw hb;clear hb HF2 y0 y1 y2 y3 y4 y5
 by_cases hbad:v.isNone=true∨badQ x=true∨badQ y=true
 ·obtain rfl:K=1:=by rw [← HK.out]; exact (fm_bad hbad).2
  clear hbad HT HK hv ux uy hM rO;go_wp2;go_ret;exact ⟨rfl,hbw⟩
 ·have h0:v.isNone=false:=Bool.eq_false_iff.2 fun h => hbad (.inl h)
  have h1:badQ x=false:=Bool.eq_false_iff.2 fun h => hbad (.inr (.inl h))
  have h2:badQ y=false:=Bool.eq_false_iff.2 fun h => hbad (.inr (.inr h))
  obtain rfl:K=0:=by rw [← HK.out]; exact (fm_good h0 h1 h2).2
  obtain ⟨r,rfl⟩:∃ r,v=some r:=by cases v with
   | none => cases h0
   | some r => exact ⟨r,rfl⟩
  obtain ⟨xs,rfl⟩:∃ xs:List Rat,x=xs.map some:=⟨_,(nbad_get h1).symm⟩;obtain ⟨ys,rfl⟩:∃ ys:List Rat,y=ys.map some:=⟨_,(nbad_get h2).symm⟩;have hv:RatV w5 _ r:=hv;have ux:=UX.uq ux;have uy:=UX.uq uy;have hTl:T.length≤65536:=by
   rw [← HT.out];have hn:¬ ([[(some r:Qo)],xs.map some,ys.map some].any badQ=true):=by
    rw [List.any_eq_true];rintro ⟨l,hl,hb⟩;simp only [List.mem_cons,List.not_mem_nil,or_false] at hl;rcases hl with rfl | rfl | rfl
    ·simp [badQ] at hb
    ·rw [h1] at hb; cases hb
    ·rw [h2] at hb; cases hb
   have:=fmT_len (qv_shortX (show QX w5 _ (some r) from hv)) ux.short uy.short (by omega) (by omega);unfold fmT;rw [if_neg hn];omega
  have HP:=parse_fmt r xs ys (fun q hq => by simp only [List.mem_cons,List.not_mem_nil,or_false] at hq; subst hq; exact hv.sm) ux.smL uy.smL (by rw [HT.out]; exact hTl) w5 hE hM;rw [HT.out] at HP;rw [List.length_map] at hx hy;have Hx:=hii hx;have Hy:=hii hy;clear hbad HT HK h0 h1 h2 hTl hM hx hy hxl hyl;go_wp2_with fail;(with_reducible refine HP.mono ?_);rintro e w6 ⟨hR,hb⟩;have hv:=hv.mono hb;have ux:=ux.mono hb;have uy:=uy.mono hb;have hE:=hE.mono hb;have rO:=rO.below hb;have hbw:=bu hbw hb;clear hb HP;rcases hR with ⟨hO2,rfl⟩ | ⟨r',x',y',hO2,ng2,ao2,n2,cap2,nh2,ap2,m2,caq2,az,caz,au,cau,rfl,hv2,ux2,uy2⟩
  ·cases hO2
  simp only [Option.some.injEq,Prod.mk.injEq] at hO2;obtain ⟨rfl,rfl,rfl⟩:=hO2;go_upto_region 9 with fail;have hb:=bA w6 (.cells #[.bool ng2,.slice ao2 n2 cap2,.bool nh2,.slice ap2 m2 caq2,.slice az xs.length caz,.slice au ys.length cau] 30);have rB:Row (w6.alloc (.cells #[.bool ng2,.slice ao2 n2 cap2,.bool nh2,.slice ap2 m2 caq2,.slice az xs.length caz,.slice au ys.length cau] 30)) w6.heap.size 30 [.bool ng2,.slice ao2 n2 cap2,.bool nh2,.slice ap2 m2 caq2,.slice az xs.length caz,.slice au ys.length cau]:=heap_alloc_new _ _;obtain ⟨gB,hg⟩:∃ gB,gB=w6.heap.size:=⟨_,rfl⟩;rw [← hg] at rB ⊢;clear hg;generalize w6.alloc (.cells #[.bool ng2,.slice ao2 n2 cap2,.bool nh2,.slice ap2 m2 caq2,.slice az xs.length caz,.slice au ys.length cau] 30)=w7 at *;have hv:=hv.mono hb;have ux:=ux.mono hb;have uy:=uy.mono hb;have hv2:=hv2.mono hb;have ux2:=ux2.mono hb;have uy2:=uy2.mono hb;have hE:=hE.mono hb;have rO:=rO.below hb;have hbw:=bu hbw hb;clear hb;have HS:=same14_yes r xs ys (by have:=Hx.out; omega) (by have:=Hy.out; omega) az au ax ay caz cau cx cy w7 hE hv2 hv ux2 ux uy2 uy;rw [List.length_map,List.length_map] at rO;obtain ⟨y0,y1,y2,y3,y4,y5⟩:=rO.n6;obtain ⟨x0,x1,x2,x3,x4,x5⟩:=rB.n6;go_wp2_with fail;(with_reducible refine HS.mono ?_);rintro e w8 ⟨rfl,hb⟩;have hbw:=bu hbw hb;clear hb HS;go_wp2;go_ret;exact ⟨rfl,hbw⟩
def RawFX (w:World) (b off:Nat):Prop:=∃ (n1:Bool) (a1:Option Addr) (L1:List Nat) (c1:Nat) (n2:Bool) (a2:Option Addr) (L2:List Nat) (c2:Nat),
 Four w b off (.bool n1) (.slice a1 L1.length c1) (.bool n2) (.slice a2 L2.length c2)∧L1.length≤c1∧L2.length≤c2∧U w a1 L1∧U w a2 L2∧L1.length≤140737488355328∧L2.length≤140737488355328
def RawUX (w:World) (ao:Option Addr) (n:Nat):Prop:=∀ i,i < n→∃ b off,ao=some ⟨b,off,none⟩∧RawFX w b (off + i * 4)
def RawQX (w:World) (v:Value):Prop :=
 ∃ (x1 x2:Bool) (l1 l2:List Nat) (a1 a2:Option Addr) (c1 c2:Nat),v=.agg #[.bool x1,.slice a1 l1.length c1,.bool x2,.slice a2 l2.length c2]∧l1.length≤c1∧l2.length≤c2∧U w a1 l1∧U w a2 l2∧l1.length≤140737488355328∧l2.length≤140737488355328
def RawLX (W:World) (v:Value):Prop:=∃ (a:Option Addr) (l c:Nat),v=.slice a l c∧l≤9223372036854775807∧RawUX W a l
theorem QX.of {w:World} {n1 n2:Bool} {L1 L2:List Nat} {a1 a2:Option Addr} {c1 c2:Nat} (k1:L1.length≤c1) (k2:L2.length≤c2) (u1:U w a1 L1) (u2:U w a2 L2) (h1:L1.length≤140737488355328) (h2:L2.length≤140737488355328) :
  ∃ o:Qo,QX w (.agg #[.bool n1,.slice a1 L1.length c1,.bool n2,.slice a2 L2.length c2]) o:=by
 classical
 by_cases hv:ValidR n1 L1 n2 L2
 ·have hq:VX w (.agg #[.bool n1,.slice a1 L1.length c1,.bool n2,.slice a2 L2.length c2]) true:=⟨n1,n2,L1,L2,a1,a2,c1,c2,rfl,h1,h2,k1,k2,u1,u2,hii ⟨fun _ => hv,fun _ => rfl⟩⟩;obtain ⟨r,hr⟩:=hq.rat;exact ⟨some r,hr⟩
 ·have hq:VX w (.agg #[.bool n1,.slice a1 L1.length c1,.bool n2,.slice a2 L2.length c2]) false:=⟨n1,n2,L1,L2,a1,a2,c1,c2,rfl,h1,h2,k1,k2,u1,u2,hii ⟨(fun h => nomatch h),fun h => absurd h hv⟩⟩;exact ⟨none,hq⟩
theorem UX.of_raw {w:World} {ao:Option Addr} (n:Nat) (h:RawUX w ao n):∃ l:List Qo,l.length=n∧UX w ao l:=by
 classical
 have hc:∀ i,∃ o:Qo,i < n→∃ (b off:Nat) (n1:Bool) (a1:Option Addr) (l1 c1:Nat) (n2:Bool) (a2:Option Addr) (l2 c2:Nat),ao=some ⟨b,off,none⟩∧Four w b (off + i * 4) (.bool n1) (.slice a1 l1 c1) (.bool n2) (.slice a2 l2 c2)∧QX w (.agg #[.bool n1,.slice a1 l1 c1,.bool n2,.slice a2 l2 c2]) o:=fun i => by
  by_cases hi:i < n
  ·obtain ⟨b,off,e,n1,a1,L1,c1,n2,a2,L2,c2,F,k1,k2,u1,u2,h1,h2⟩:=h i hi;obtain ⟨o,ho⟩:=QX.of (n1:=n1) (n2:=n2) k1 k2 u1 u2 h1 h2;exact ⟨o,fun _ => ⟨b,off,n1,a1,_,c1,n2,a2,_,c2,e,F,ho⟩⟩
  ·exact ⟨none,fun hh => absurd hh hi⟩
 let f:Nat→Qo:=fun i => Classical.choose (hc i)
 have hf:∀ i,i < n→_:=fun i hi => Classical.choose_spec (hc i) hi
 refine ⟨(List.range n).map f,by simp,fun i o hi => ?_⟩;rw [List.getElem?_map] at hi
 by_cases hlt:i < n
 ·rw [List.getElem?_range hlt] at hi;simp only [Option.map_some,Option.some.injEq] at hi;subst hi;exact hf i hlt
 ·rw [List.getElem?_eq_none (by simp; omega)] at hi;simp at hi
theorem dualTexts_high {ng1:Bool} {ao1:Option Addr} {n1 cap1:Nat} {nh1:Bool} {ap1:Option Addr} {m1 caq1:Nat} (nx ny:Nat) (ax ay:Option Addr) (cx cy:Nat) (w:World) (hx:nx≤9223372036854775807) (hy:ny≤9223372036854775807) (hn:10 < nx∨10 < ny) (hE:Env w) :
  Calls Tryz.prog 3 #[.agg #[.bool ng1,.slice ao1 n1 cap1,.bool nh1,.slice ap1 m1 caq1],.slice ax nx cx,.slice ay ny cy] w fun e w' => e=.returned (.bool true)∧Below w.heap.size w w':=by
 obtain ⟨b,hb⟩:∃ b,decide ((10:Int) < (nx:Int))=b:=⟨_,rfl⟩;have hy':b=false→decide ((10:Int) < (ny:Int))=true:=fun h => by
  rw [h] at hb;have:=of_decide_eq_false hb;exact decide_eq_true (by omega)
 have HY:=hii hy';have HB:=hii hb;clear hy' hb hn;have hbw:=Below.refl w.heap.size w;go_enter Tryz.func3,Tryz.ntmps3;go_upto_region 1 with fail;have hb:=bA w (.cells #[.bool ng1,.slice ao1 n1 cap1,.bool nh1,.slice ap1 m1 caq1] 26);generalize w.alloc (.cells #[.bool ng1,.slice ao1 n1 cap1,.bool nh1,.slice ap1 m1 caq1] 26)=w1 at *;have hE:=hE.mono hb;have hbw:=hb;clear hb
 cases b with
 | true =>
  have hxl:=HB.out;go_wp2_with fail;(with_reducible refine (awake14 w1 hE).mono ?_);rintro e w2 ⟨rfl,hb⟩;have hE:=hE.mono hb;have hbw:=bu hbw hb;clear hb;go_wp2_with fail;(with_reducible refine (awake14 w2 hE).mono ?_);rintro e w3 ⟨rfl,hb⟩;have hbw:=bu hbw hb;clear hb;go_wp2;go_ret;exact ⟨rfl,hbw⟩
 | false =>
  have hxl:=HB.out;have hyl:=HY.out rfl;go_wp2_with fail;(with_reducible refine (awake14 w1 hE).mono ?_);rintro e w2 ⟨rfl,hb⟩;have hE:=hE.mono hb;have hbw:=bu hbw hb;clear hb;go_wp2_with fail;(with_reducible refine (awake14 w2 hE).mono ?_);rintro e w3 ⟨rfl,hb⟩;have hbw:=bu hbw hb;clear hb;go_wp2;go_ret;exact ⟨rfl,hbw⟩
theorem dualTexts_law (v0 v1 v2:Value) (w:World) (h0:RawQX w v0) (h1:RawLX w v1) (h2:RawLX w v2) (hE:Env w) (hM:MaxV w) :
  Calls Tryz.prog 3 #[v0,v1,v2] w fun e w' => e=.returned (.bool true)∧Below w.heap.size w w':=by
 obtain ⟨x1,x2,l1,l2,a1,a2,c1,c2,rfl,k1,k2,u1,u2,b1,b2⟩:=h0;obtain ⟨ax,nx,cx,rfl,hx,ux⟩:=h1;obtain ⟨ay,ny,cy,rfl,hy,uy⟩:=h2
 by_cases hn:10 < nx∨10 < ny
 ·exact dualTexts_high nx ny ax ay cx cy w hx hy hn hE
 ·obtain ⟨o,ho⟩:=QX.of (n1:=x1) (n2:=x2) k1 k2 u1 u2 b1 b2;obtain ⟨x,rfl,hux⟩:=UX.of_raw nx ux;obtain ⟨y,rfl,huy⟩:=UX.of_raw ny uy;exact dualTexts_lowX o x y ax ay cx cy w (by omega) (by omega) ho hux huy hE hM
end Go.Proofs.YtaedmaifkfhpfaaGreatDoor
