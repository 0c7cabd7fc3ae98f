/-
  Texts of fractions, plain.
-/
import Derived.Test.YtaedmaifkfhpfaaGreatDoorQ5
import Derived.Test.YtaedmaifkfhpfaaGreatDoorI8
import Derived.Test.YtaedmaifkfhpfaaGreatDoorQ1
import Derived.Lib.IndexMore
import Derived.Test.YtaedmaifkfhpfaaGreatDoorShelfC
set_option linter.unusedVariables false
set_option linter.unusedSimpArgs false
set_option maxRecDepth 100000
set_option maxHeartbeats 25600000
namespace Go.Proofs.YtaedmaifkfhpfaaGreatDoor
open Go.RowKit
end Go.Proofs.YtaedmaifkfhpfaaGreatDoor
namespace Rq
open Go
def textQ (r:Rat):List UInt8:=if r.den=1 then Lib.itoa r.num else Lib.itoa r.num ++ 47 :: Lib.itoa (r.den:Int)
theorem index_none {s:List UInt8} (h:(47:UInt8) ∉ s):Lib.index s [47]=-1:=by
 induction s with
 | nil => rfl
 | cons b l ih =>
  have hb:((47:UInt8) == b)=false:=by
   rw [beq_eq_false_iff_ne]; rintro rfl; exact h (by simp)
  have hl:(47:UInt8) ∉ l:=fun hh => h (by simp [hh])
  simp [Lib.index,List.isPrefixOf,hb,ih hl]
theorem index_split {n d:List UInt8} (h:(47:UInt8) ∉ n):Lib.index (n ++ 47 :: d) [47]=n.length:=by
 induction n with
 | nil => simp [Lib.index,List.isPrefixOf]
 | cons b l ih =>
  have hb:((47:UInt8) == b)=false:=by
   rw [beq_eq_false_iff_ne]; rintro rfl; exact h (by simp)
  have hl:(47:UInt8) ∉ l:=fun hh => h (by simp [hh])
  have:=ih hl;simp only [List.cons_append,Lib.index,List.isPrefixOf,hb,Bool.false_and,this];rw [if_neg (by simp),if_neg (by simp),List.length_cons,Int.natCast_succ]
theorem cut_none {s:List UInt8} (h:(47:UInt8) ∉ s):Lib.cut s [47]=(s,[],false):=by
 unfold Lib.cut; rw [index_none h]; rfl
theorem cut_split {n d:List UInt8} (h:(47:UInt8) ∉ n):Lib.cut (n ++ 47 :: d) [47]=(n,d,true):=by
 unfold Lib.cut;rw [index_split h,if_pos (by omega)];simp
theorem slash_cases (s:List UInt8):(47:UInt8) ∉ s∨∃ n d,s=n ++ 47 :: d∧(47:UInt8) ∉ n:=by
 induction s with
 | nil => exact .inl (by simp)
 | cons b l ih =>
  by_cases hb:b=47
  ·subst hb; exact .inr ⟨[],l,rfl,by simp⟩
  ·rcases ih with h | ⟨n,d,rfl,hn⟩
   ·exact .inl (by simp [h]; exact fun h => hb h.symm)
   ·exact .inr ⟨b :: n,d,rfl,by simp [hn]; exact fun h => hb h.symm⟩
theorem split_inj {n d n' d':List UInt8} (h:n ++ 47 :: d=n' ++ 47 :: d') (hn:(47:UInt8) ∉ n) (hn':(47:UInt8) ∉ n'):n=n'∧d=d':=by
 have h1:=cut_split (d:=d) hn;have h2:=cut_split (d:=d') hn';rw [h,h2] at h1;simp only [Prod.mk.injEq] at h1;exact ⟨h1.1.symm,h1.2.1.symm⟩
theorem itoa_noslash {z:Int} (h:Sm z):(47:UInt8) ∉ Lib.itoa z:=by
 obtain ⟨neg,t,h1,_,_,h4,_⟩:=Bi.itoa_parts h;intro hm;rw [h1] at hm;rcases List.mem_append.1 hm with hm | hm
 ·cases neg <;> simp at hm
 ·have:=h4.2.2.1 _ hm;unfold Bi.isDig at this;have:(47:UInt8).toNat=47:=rfl;omega
theorem itoa_len301 {z:Int} (h:Sm z):(Lib.itoa z).length≤301:=by
 obtain ⟨neg,t,h1,_,_,h4,_⟩:=Bi.itoa_parts h;have:=h4.2.1;rw [h1]
 cases neg <;> simp <;> omega
theorem textQ_len {r:Rat} (h1:Sm r.num) (h2:Sm (r.den:Int)):(textQ r).length≤700:=by
 have:=itoa_len301 h1;have:=itoa_len301 h2;unfold textQ; split <;> simp <;> omega
theorem textQ_one {r:Rat} (h:r.den=1):textQ r=Lib.itoa r.num:=by unfold textQ; rw [if_pos h]
theorem textQ_two {r:Rat} (h:r.den ≠ 1):textQ r=Lib.itoa r.num ++ 47 :: Lib.itoa (r.den:Int):=by unfold textQ; rw [if_neg h]
end Rq
namespace Go.Proofs.YtaedmaifkfhpfaaGreatDoor
open Go.RowKit
def GoodT (s:List UInt8):Prop :=
 (∀ b∈Lib.trimPrefix s [45],Bi.isDig b)∧Lib.trimPrefix s [45] ≠ []∧(Lib.trimPrefix s [45]).length≤300∧Lib.itoa (sgn (Lib.hasPrefix s [45]) (Bi.decVal (Lib.trimPrefix s [45])))=s
def GotZ (w':World) (z:Int) (e:Ending):Prop :=
 ∃ (ng:Bool) (ao:Option Addr) (n cap:Nat),e=.returned (.tuple #[.agg #[.bool ng,.slice ao n cap],.int .i64 0])∧Hid (IntV w' (.agg #[.bool ng,.slice ao n cap]) z)
theorem RParse.good {w':World} {s:List UInt8} {e:Ending} (h:RParse w' (Lib.hasPrefix s [45]) (Lib.trimPrefix s [45]) s e) (hg:GoodT s):GotZ w' (sgn (Lib.hasPrefix s [45]) (Bi.decVal (Lib.trimPrefix s [45]))) e:=by
 obtain ⟨ng,ao,n,cap,k,rfl,H⟩:=h;rcases H.out with ⟨_,_,_,_,hV,rfl⟩ | ⟨hn,_⟩
 ·exact ⟨ng,ao,n,cap,rfl,hii hV⟩
 ·exact absurd hg hn
theorem RParse.bad {w':World} {s:List UInt8} {e:Ending} (h:RParse w' (Lib.hasPrefix s [45]) (Lib.trimPrefix s [45]) s e) (hg:¬ GoodT s):e=.returned (.tuple #[.agg #[.bool false,.slice none 0 0],.int .i64 2]):=by
 obtain ⟨ng,ao,n,cap,k,rfl,H⟩:=h;rcases H.out with ⟨h1,h2,h3,h4,_,_⟩ | ⟨_,rfl,rfl,rfl,rfl,rfl⟩
 ·exact absurd ⟨h1,h2,h3,h4⟩ hg
 ·rfl
theorem Parse_good (s:List UInt8) (z:Int) (hz:Hid (z=sgn (Lib.hasPrefix s [45]) (Bi.decVal (Lib.trimPrefix s [45])))) (w:World) (hs:s.length≤1000000) (hE:Env w) (hg:Hid (GoodT s)) :
  Calls Tryz.prog 52 #[.string ⟨s.toArray⟩] w fun e w' => GotZ w' z e∧Below w.heap.size w w':=by
 rw [hz.out]; exact (Parse_all s w hs hE).mono fun _ _ ⟨h,hb⟩ => ⟨h.good hg.out,hb⟩
theorem rParse_good (s:List UInt8) (z:Int) (hz:Hid (z=sgn (Lib.hasPrefix s [45]) (Bi.decVal (Lib.trimPrefix s [45])))) (w:World) (hs:s.length≤1000000) (hg:Hid (GoodT s)) :
  Calls Tryz.prog 56 #[.string ⟨s.toArray⟩] w fun e w' => GotZ w' z e∧Below w.heap.size w w':=by
 rw [hz.out]; exact (rParse_all s w hs).mono fun _ _ ⟨h,hb⟩ => ⟨h.good hg.out,hb⟩
theorem Parse_none (s:List UInt8) (w:World) (hs:s.length≤1000000) (hE:Env w) (hg:Hid (¬ GoodT s)) :
  Calls Tryz.prog 52 #[.string ⟨s.toArray⟩] w fun e w' => e=.returned (.tuple #[.agg #[.bool false,.slice none 0 0],.int .i64 2])∧Below w.heap.size w w' :=
 (Parse_all s w hs hE).mono fun _ _ ⟨h,hb⟩ => ⟨h.bad hg.out,hb⟩
theorem rParse_none (s:List UInt8) (w:World) (hs:s.length≤1000000) (hg:Hid (¬ GoodT s)) :
  Calls Tryz.prog 56 #[.string ⟨s.toArray⟩] w fun e w' => e=.returned (.tuple #[.agg #[.bool false,.slice none 0 0],.int .i64 2])∧Below w.heap.size w w' :=
 (rParse_all s w hs).mono fun _ _ ⟨h,hb⟩ => ⟨h.bad hg.out,hb⟩
theorem Format_eq (a:Value) (x:Int) (s:List UInt8) (w:World) (hs:Hid (Lib.itoa x=s)) (ha:IntV w a x) (hE:Env w) :
  Calls Tryz.prog 75 #[a] w fun e w' => e=.returned (.tuple #[.string ⟨s.toArray⟩,.int .i64 0])∧Below w.heap.size w w':=by
 rw [← hs.out]; exact Format_any a x w ha hE
theorem ret_text {a b:List UInt8} {k:Int} (h:a=b):Ending.returned (.tuple #[.string ⟨a.toArray⟩,.int .i64 k])=.returned (.tuple #[.string ⟨b.toArray⟩,.int .i64 k]):=by rw [h]
theorem FormatQ_one (v:Value) (r:Rat) (w:World) (hr:RatV w v r) (hq:Hid (r.den=1)) (hE:Env w) :
  Calls Tryz.prog 44 #[v] w fun e w' => e=.returned (.tuple #[.string ⟨(Rq.textQ r).toArray⟩,.int .i64 0])∧Below w.heap.size w w':=by
 obtain ⟨s1,hs1⟩:∃ s,s=Lib.itoa r.num:=⟨_,rfl⟩;obtain ⟨s2,hs2⟩:∃ s,s=Lib.itoa (r.den:Int):=⟨_,rfl⟩;have HT:Hid (Rq.textQ r=s1):=hii (by rw [hs1]; exact Rq.textQ_one hq.out);have HS1:Hid (Lib.itoa r.num=s1):=hii hs1.symm;have HS2:Hid (Lib.itoa (r.den:Int)=s2):=hii hs2.symm;clear hs1 hs2;have hbw:=Below.refl w.heap.size w;obtain ⟨ng1,ao1,n1,cap1,ng2,ao2,n2,cap2,rfl,h1,h2⟩:=hr;have HV1:=hii h1;have HV2:=hii h2;clear h1 h2;go_enter Tryz.func44,Tryz.ntmps44;have hl1:s1.length≤301:=by rw [← HS1.out]; exact Rq.itoa_len301 HV1.out.small
 have hl2:s2.length≤301:=by rw [← HS2.out]; exact Rq.itoa_len301 HV2.out.small
 go_upto_region 1 with fail;have X1:=Box4.new w (.bool ng1) (.slice ao1 n1 cap1) (.bool ng2) (.slice ao2 n2 cap2) 26;have hb:=bA w (.cells #[.bool ng1,.slice ao1 n1 cap1,.bool ng2,.slice ao2 n2 cap2] 26);generalize w.alloc (.cells #[.bool ng1,.slice ao1 n1 cap1,.bool ng2,.slice ao2 n2 cap2] 26)=v1 at *;have HV1:=hii (HV1.out.mono hb);have HV2:=hii (HV2.out.mono hb);have hE:=hE.mono hb;have hbw:=bu hbw hb;clear hb;obtain ⟨x1a,x1b,x1c,x1d,_,_,_,_⟩:=id X1;go_wp2_with fail;(with_reducible refine (Valid_true _ r v1 (RatV.mk' HV1 HV2) hE).mono ?_);rintro e v2 ⟨rfl,hb⟩;have HV1:=hii (HV1.out.mono hb);have HV2:=hii (HV2.out.mono hb);have X1:=X1.mono hb;have hE:=hE.mono hb;have hbw:=bu hbw hb;clear hb;clear x1a x1b x1c x1d;obtain ⟨x1a,x1b,x1c,x1d,_,_,_,_⟩:=id X1;go_wp2_with fail;(with_reducible refine (Format_eq _ r.num s1 v2 HS1 HV1.out hE).mono ?_);rintro e v3 ⟨rfl,hb⟩;have HV2:=hii (HV2.out.mono hb);have X1:=X1.mono hb;have hE:=hE.mono hb;have hbw:=bu hbw hb;clear hb;clear x1a x1b x1c x1d;go_upto_region 4 with fail;obtain ⟨cv,hcv,hc0⟩:∃ cv:Int,cmpZ (r.den:Int) 1=cv∧(cv == 0)=true:=⟨_,rfl,by have:=hq.out; unfold cmpZ; split <;> (try split) <;> simp <;> omega⟩;have HC:=hii hcv;clear hcv;obtain ⟨wy,rfl⟩:∃ wy:World,wy=v3:=⟨_,rfl⟩;go_cut [24] (fun s24 wc => s24=.bool true∧Below wy.heap.size wy wc)
 case first =>
  obtain ⟨_,_,_,_⟩:=id X1;go_region_with (first
   | (go_at_call 53; ((with_reducible refine (one_any _ (hE.mono ?_)).mono ?_); ((repeat' (first | with_reducible assumption | with_reducible exact br | with_reducible refine Below.drew ?_ | with_reducible refine Below.alloc ?_ ?_ _ | with_reducible refine Below.setCell ?_ ?_ _ | with_reducible refine Below.step ?_ he2 ?_ | with_reducible refine Below.step ?_ he1 ?_ | (first | exact nl | omega | (simp; done) | (simp; omega) | (unfold World.setCell; simp; done) | (unfold World.setCell; simp; omega)))))); rintro e t1 ⟨⟨ng5,ao5,n5,cap5,rfl,HV5⟩,he1⟩; have HT1:Below wy.heap.size wy t1:=(by (repeat' (first | with_reducible assumption | with_reducible exact br | with_reducible refine Below.drew ?_ | with_reducible refine Below.alloc ?_ ?_ _ | with_reducible refine Below.setCell ?_ ?_ _ | with_reducible refine Below.step ?_ he2 ?_ | with_reducible refine Below.step ?_ he1 ?_ | (first | exact nl | omega | (simp; done) | (simp; omega) | (unfold World.setCell; simp; done) | (unfold World.setCell; simp; omega))))); have ht1:=HT1.size; have hX1:=X1.mono HT1; obtain ⟨_,_,_,_⟩:=id hX1)
   | (go_at_call 54; ((with_reducible refine (Cmp_eq _ _ (r.den:Int) 1 cv _ HC (HV2.out.mono ?_) (HV5.out.mono ?_) (hE.mono ?_)).mono ?_); ((repeat' (first | with_reducible assumption | with_reducible exact br | with_reducible refine Below.drew ?_ | with_reducible refine Below.alloc ?_ ?_ _ | with_reducible refine Below.setCell ?_ ?_ _ | with_reducible refine Below.step ?_ he2 ?_ | with_reducible refine Below.step ?_ he1 ?_ | (first | exact nl | omega | (simp; done) | (simp; omega) | (unfold World.setCell; simp; done) | (unfold World.setCell; simp; omega))))); ((repeat' (first | with_reducible assumption | with_reducible exact br | with_reducible refine Below.drew ?_ | with_reducible refine Below.alloc ?_ ?_ _ | with_reducible refine Below.setCell ?_ ?_ _ | with_reducible refine Below.step ?_ he2 ?_ | with_reducible refine Below.step ?_ he1 ?_ | (first | exact nl | omega | (simp; done) | (simp; omega) | (unfold World.setCell; simp; done) | (unfold World.setCell; simp; omega))))); ((repeat' (first | with_reducible assumption | with_reducible exact br | with_reducible refine Below.drew ?_ | with_reducible refine Below.alloc ?_ ?_ _ | with_reducible refine Below.setCell ?_ ?_ _ | with_reducible refine Below.step ?_ he2 ?_ | with_reducible refine Below.step ?_ he1 ?_ | (first | exact nl | omega | (simp; done) | (simp; omega) | (unfold World.setCell; simp; done) | (unfold World.setCell; simp; omega)))))); rintro e t2 ⟨rfl,he2⟩; have HT2:Below wy.heap.size wy t2:=(by (repeat' (first | with_reducible assumption | with_reducible exact br | with_reducible refine Below.drew ?_ | with_reducible refine Below.alloc ?_ ?_ _ | with_reducible refine Below.setCell ?_ ?_ _ | with_reducible refine Below.step ?_ he2 ?_ | with_reducible refine Below.step ?_ he1 ?_ | (first | exact nl | omega | (simp; done) | (simp; omega) | (unfold World.setCell; simp; done) | (unfold World.setCell; simp; omega))))); have ht2:=HT2.size))
  all_goals (go_wp2_with fail; go_meet; exact ⟨rfl,HT2⟩)
 case rest =>
  obtain ⟨rfl,hb⟩:=hcut;have hbw:=bu hbw hb;clear hb;go_wp2;go_ret2;exact ⟨ret_text HT.out.symm,hbw⟩
theorem FormatQ_two (v:Value) (r:Rat) (w:World) (hr:RatV w v r) (hq:Hid (r.den ≠ 1)) (hE:Env w) :
  Calls Tryz.prog 44 #[v] w fun e w' => e=.returned (.tuple #[.string ⟨(Rq.textQ r).toArray⟩,.int .i64 0])∧Below w.heap.size w w':=by
 obtain ⟨s1,hs1⟩:∃ s,s=Lib.itoa r.num:=⟨_,rfl⟩;obtain ⟨s2,hs2⟩:∃ s,s=Lib.itoa (r.den:Int):=⟨_,rfl⟩;have HT:Hid (Rq.textQ r=s1 ++ 47 :: s2):=hii (by rw [hs1,hs2]; exact Rq.textQ_two hq.out);have HS1:Hid (Lib.itoa r.num=s1):=hii hs1.symm;have HS2:Hid (Lib.itoa (r.den:Int)=s2):=hii hs2.symm;clear hs1 hs2;have hbw:=Below.refl w.heap.size w;obtain ⟨ng1,ao1,n1,cap1,ng2,ao2,n2,cap2,rfl,h1,h2⟩:=hr;have HV1:=hii h1;have HV2:=hii h2;clear h1 h2;go_enter Tryz.func44,Tryz.ntmps44;have hl1:s1.length≤301:=by rw [← HS1.out]; exact Rq.itoa_len301 HV1.out.small
 have hl2:s2.length≤301:=by rw [← HS2.out]; exact Rq.itoa_len301 HV2.out.small
 go_upto_region 1 with fail;have X1:=Box4.new w (.bool ng1) (.slice ao1 n1 cap1) (.bool ng2) (.slice ao2 n2 cap2) 26;have hb:=bA w (.cells #[.bool ng1,.slice ao1 n1 cap1,.bool ng2,.slice ao2 n2 cap2] 26);generalize w.alloc (.cells #[.bool ng1,.slice ao1 n1 cap1,.bool ng2,.slice ao2 n2 cap2] 26)=v1 at *;have HV1:=hii (HV1.out.mono hb);have HV2:=hii (HV2.out.mono hb);have hE:=hE.mono hb;have hbw:=bu hbw hb;clear hb;obtain ⟨x1a,x1b,x1c,x1d,_,_,_,_⟩:=id X1;go_wp2_with fail;(with_reducible refine (Valid_true _ r v1 (RatV.mk' HV1 HV2) hE).mono ?_);rintro e v2 ⟨rfl,hb⟩;have HV1:=hii (HV1.out.mono hb);have HV2:=hii (HV2.out.mono hb);have X1:=X1.mono hb;have hE:=hE.mono hb;have hbw:=bu hbw hb;clear hb;clear x1a x1b x1c x1d;obtain ⟨x1a,x1b,x1c,x1d,_,_,_,_⟩:=id X1;go_wp2_with fail;(with_reducible refine (Format_eq _ r.num s1 v2 HS1 HV1.out hE).mono ?_);rintro e v3 ⟨rfl,hb⟩;have HV2:=hii (HV2.out.mono hb);have X1:=X1.mono hb;have hE:=hE.mono hb;have hbw:=bu hbw hb;clear hb;clear x1a x1b x1c x1d;go_upto_region 4 with fail;obtain ⟨cv,hcv,hc0⟩:∃ cv:Int,cmpZ (r.den:Int) 1=cv∧(cv == 0)=false:=⟨_,rfl,by have:=hq.out; unfold cmpZ; split <;> (try split) <;> simp <;> omega⟩;have HC:=hii hcv;clear hcv;obtain ⟨wy,rfl⟩:∃ wy:World,wy=v3:=⟨_,rfl⟩;go_cut [24] (fun s24 wc => s24=.bool false∧Below wy.heap.size wy wc)
 case first =>
  obtain ⟨_,_,_,_⟩:=id X1;go_region_with (first
   | (go_at_call 53; ((with_reducible refine (one_any _ (hE.mono ?_)).mono ?_); ((repeat' (first | with_reducible assumption | with_reducible exact br | with_reducible refine Below.drew ?_ | with_reducible refine Below.alloc ?_ ?_ _ | with_reducible refine Below.setCell ?_ ?_ _ | with_reducible refine Below.step ?_ he2 ?_ | with_reducible refine Below.step ?_ he1 ?_ | (first | exact nl | omega | (simp; done) | (simp; omega) | (unfold World.setCell; simp; done) | (unfold World.setCell; simp; omega)))))); rintro e t1 ⟨⟨ng5,ao5,n5,cap5,rfl,HV5⟩,he1⟩; have HT1:Below wy.heap.size wy t1:=(by (repeat' (first | with_reducible assumption | with_reducible exact br | with_reducible refine Below.drew ?_ | with_reducible refine Below.alloc ?_ ?_ _ | with_reducible refine Below.setCell ?_ ?_ _ | with_reducible refine Below.step ?_ he2 ?_ | with_reducible refine Below.step ?_ he1 ?_ | (first | exact nl | omega | (simp; done) | (simp; omega) | (unfold World.setCell; simp; done) | (unfold World.setCell; simp; omega))))); have ht1:=HT1.size; have hX1:=X1.mono HT1; obtain ⟨_,_,_,_⟩:=id hX1)
   | (go_at_call 54; ((with_reducible refine (Cmp_eq _ _ (r.den:Int) 1 cv _ HC (HV2.out.mono ?_) (HV5.out.mono ?_) (hE.mono ?_)).mono ?_); ((repeat' (first | with_reducible assumption | with_reducible exact br | with_reducible refine Below.drew ?_ | with_reducible refine Below.alloc ?_ ?_ _ | with_reducible refine Below.setCell ?_ ?_ _ | with_reducible refine Below.step ?_ he2 ?_ | with_reducible refine Below.step ?_ he1 ?_ | (first | exact nl | omega | (simp; done) | (simp; omega) | (unfold World.setCell; simp; done) | (unfold World.setCell; simp; omega))))); ((repeat' (first | with_reducible assumption | with_reducible exact br | with_reducible refine Below.drew ?_ | with_reducible refine Below.alloc ?_ ?_ _ | with_reducible refine Below.setCell ?_ ?_ _ | with_reducible refine Below.step ?_ he2 ?_ | with_reducible refine Below.step ?_ he1 ?_ | (first | exact nl | omega | (simp; done) | (simp; omega) | (unfold World.setCell; simp; done) | (unfold World.setCell; simp; omega))))); ((repeat' (first | with_reducible assumption | with_reducible exact br | with_reducible refine Below.drew ?_ | with_reducible refine Below.alloc ?_ ?_ _ | with_reducible refine Below.setCell ?_ ?_ _ | with_reducible refine Below.step ?_ he2 ?_ | with_reducible refine Below.step ?_ he1 ?_ | (first | exact nl | omega | (simp; done) | (simp; omega) | (unfold World.setCell; simp; done) | (unfold World.setCell; simp; omega)))))); rintro e t2 ⟨rfl,he2⟩; have HT2:Below wy.heap.size wy t2:=(by (repeat' (first | with_reducible assumption | with_reducible exact br | with_reducible refine Below.drew ?_ | with_reducible refine Below.alloc ?_ ?_ _ | with_reducible refine Below.setCell ?_ ?_ _ | with_reducible refine Below.step ?_ he2 ?_ | with_reducible refine Below.step ?_ he1 ?_ | (first | exact nl | omega | (simp; done) | (simp; omega) | (unfold World.setCell; simp; done) | (unfold World.setCell; simp; omega))))); have ht2:=HT2.size))
  all_goals (go_wp2_with fail; go_meet; exact ⟨rfl,HT2⟩)
 case rest =>
  obtain ⟨rfl,hb⟩:=hcut;have HV2:=hii (HV2.out.mono hb);have X1:=X1.mono hb;have hE:=hE.mono hb;have hbw:=bu hbw hb;clear hb;obtain ⟨x1a,x1b,x1c,x1d,_,_,_,_⟩:=id X1;go_wp2_with fail;(with_reducible refine (Format_eq _ (r.den:Int) s2 wc HS2 HV2.out hE).mono ?_);rintro e v4 ⟨rfl,hb⟩;have hbw:=bu hbw hb;clear hb;clear x1a x1b x1c x1d;go_wp2
  all_goals first | (exfalso; simp at *; omega) | (go_ret2; exact ⟨ret_text (by rw [HT.out]; simp),hbw⟩)
theorem FormatQ_inv (v:Value) (w:World) (hqa:VQ w v false) (hE:Env w) :
  Calls Tryz.prog 44 #[v] w fun e w' => e=.returned (.tuple #[.string ⟨#[]⟩,.int .i64 1])∧Below w.heap.size w w':=by
 have hbw:=Below.refl w.heap.size w;obtain ⟨ng1,ao1,n1,cap1,ng2,ao2,n2,cap2,rfl⟩:=hqa.parts;go_enter Tryz.func44,Tryz.ntmps44;go_upto_region 1 with fail;have X1:=Box4.new w (.bool ng1) (.slice ao1 n1 cap1) (.bool ng2) (.slice ao2 n2 cap2) 26;have hb:=bA w (.cells #[.bool ng1,.slice ao1 n1 cap1,.bool ng2,.slice ao2 n2 cap2] 26);generalize w.alloc (.cells #[.bool ng1,.slice ao1 n1 cap1,.bool ng2,.slice ao2 n2 cap2] 26)=v1 at *;have hqa:=hqa.mono hb;have hE:=hE.mono hb;have hbw:=bu hbw hb;clear hb;obtain ⟨x1a,x1b,x1c,x1d,_,_,_,_⟩:=id X1;go_wp2_with fail;(with_reducible refine (Valid_v _ false v1 hqa hE).mono ?_);rintro e v2 ⟨rfl,hb⟩;have hbw:=bu hbw hb;clear hb;clear x1a x1b x1c x1d;go_wp2;go_ret2;exact ⟨rfl,hbw⟩
theorem FormatQ (v:Value) (r:Rat) (w:World) (hr:RatV w v r) (hE:Env w) :
  Calls Tryz.prog 44 #[v] w fun e w' => e=.returned (.tuple #[.string ⟨(Rq.textQ r).toArray⟩,.int .i64 0])∧Below w.heap.size w w':=by
 by_cases h:r.den=1
 ·exact FormatQ_one v r w hr (hii h) hE
 ·exact FormatQ_two v r w hr (hii h) hE
theorem rFormat_eq (a:Value) (x:Int) (s:List UInt8) (w:World) (hs:Hid (Lib.itoa x=s)) (ha:IntV w a x) :
  Calls Tryz.prog 49 #[a] w fun e w' => e=.returned (.string ⟨s.toArray⟩)∧Below w.heap.size w w':=by
 rw [← hs.out]; exact rFormat_any a x w ha
theorem rFormatQ_one (v:Value) (r:Rat) (w:World) (hr:RatV w v r) (hq:Hid (r.den=1)) (hE:Env w) :
  Calls Tryz.prog 21 #[v] w fun e w' => e=.returned (.tuple #[.string ⟨(Rq.textQ r).toArray⟩,.int .i64 0])∧Below w.heap.size w w':=by
 obtain ⟨s1,hs1⟩:∃ s,s=Lib.itoa r.num:=⟨_,rfl⟩;obtain ⟨s2,hs2⟩:∃ s,s=Lib.itoa (r.den:Int):=⟨_,rfl⟩;have HT:Hid (Rq.textQ r=s1):=hii (by rw [hs1]; exact Rq.textQ_one hq.out);have HS1:Hid (Lib.itoa r.num=s1):=hii hs1.symm;have HS2:Hid (Lib.itoa (r.den:Int)=s2):=hii hs2.symm;clear hs1 hs2;have hbw:=Below.refl w.heap.size w;obtain ⟨ng1,ao1,n1,cap1,ng2,ao2,n2,cap2,rfl,h1,h2⟩:=hr;have HV1:=hii h1;have HV2:=hii h2;clear h1 h2;go_enter Tryz.func21,Tryz.ntmps21;have hl1:s1.length≤301:=by rw [← HS1.out]; exact Rq.itoa_len301 HV1.out.small
 have hl2:s2.length≤301:=by rw [← HS2.out]; exact Rq.itoa_len301 HV2.out.small
 go_upto_region 1 with fail;have X1:=Box4.new w (.bool ng1) (.slice ao1 n1 cap1) (.bool ng2) (.slice ao2 n2 cap2) 26;have hb:=bA w (.cells #[.bool ng1,.slice ao1 n1 cap1,.bool ng2,.slice ao2 n2 cap2] 26);generalize w.alloc (.cells #[.bool ng1,.slice ao1 n1 cap1,.bool ng2,.slice ao2 n2 cap2] 26)=v1 at *;have HV1:=hii (HV1.out.mono hb);have HV2:=hii (HV2.out.mono hb);have hE:=hE.mono hb;have hbw:=bu hbw hb;clear hb;obtain ⟨x1a,x1b,x1c,x1d,_,_,_,_⟩:=id X1;go_wp2_with fail;(with_reducible refine (rValid_true _ r v1 (RatV.mk' HV1 HV2) hE).mono ?_);rintro e v2 ⟨rfl,hb⟩;have HV1:=hii (HV1.out.mono hb);have HV2:=hii (HV2.out.mono hb);have X1:=X1.mono hb;have hE:=hE.mono hb;have hbw:=bu hbw hb;clear hb;clear x1a x1b x1c x1d;obtain ⟨x1a,x1b,x1c,x1d,_,_,_,_⟩:=id X1;go_wp2_with fail;(with_reducible refine (rFormat_eq _ r.num s1 v2 HS1 HV1.out).mono ?_);rintro e v3 ⟨rfl,hb⟩;have HV2:=hii (HV2.out.mono hb);have X1:=X1.mono hb;have hE:=hE.mono hb;have hbw:=bu hbw hb;clear hb;clear x1a x1b x1c x1d;go_upto_region 4 with fail;have HC:Hid (decide ((r.den:Int)=1)=true):=hii (by have:=hq.out; simp; omega);obtain ⟨wy,rfl⟩:∃ wy:World,wy=v3:=⟨_,rfl⟩;go_cut [15] (fun s15 wc => s15=.bool (!true)∧Below wy.heap.size wy wc)
 case first =>
  obtain ⟨_,_,_,_⟩:=id X1;go_region_with (first
   | (go_at_call 30; ((with_reducible refine (rof_any 1 (by decide) (by decide) _ (hE.mono ?_)).mono ?_); ((repeat' (first | with_reducible assumption | with_reducible exact br | with_reducible refine Below.drew ?_ | with_reducible refine Below.alloc ?_ ?_ _ | with_reducible refine Below.setCell ?_ ?_ _ | with_reducible refine Below.step ?_ he2 ?_ | with_reducible refine Below.step ?_ he1 ?_ | (first | exact nl | omega | (simp; done) | (simp; omega) | (unfold World.setCell; simp; done) | (unfold World.setCell; simp; omega)))))); rintro e t1 ⟨⟨ng5,ao5,n5,cap5,rfl,HV5⟩,he1⟩; have HT1:Below wy.heap.size wy t1:=(by (repeat' (first | with_reducible assumption | with_reducible exact br | with_reducible refine Below.drew ?_ | with_reducible refine Below.alloc ?_ ?_ _ | with_reducible refine Below.setCell ?_ ?_ _ | with_reducible refine Below.step ?_ he2 ?_ | with_reducible refine Below.step ?_ he1 ?_ | (first | exact nl | omega | (simp; done) | (simp; omega) | (unfold World.setCell; simp; done) | (unfold World.setCell; simp; omega))))); have ht1:=HT1.size; have hX1:=X1.mono HT1; obtain ⟨_,_,_,_⟩:=id hX1)
   | (go_at_call 40; ((with_reducible refine (eqI_eq _ _ (r.den:Int) 1 true _ HC (HV2.out.mono ?_) (HV5.out.mono ?_)).mono ?_); ((repeat' (first | with_reducible assumption | with_reducible exact br | with_reducible refine Below.drew ?_ | with_reducible refine Below.alloc ?_ ?_ _ | with_reducible refine Below.setCell ?_ ?_ _ | with_reducible refine Below.step ?_ he2 ?_ | with_reducible refine Below.step ?_ he1 ?_ | (first | exact nl | omega | (simp; done) | (simp; omega) | (unfold World.setCell; simp; done) | (unfold World.setCell; simp; omega))))); ((repeat' (first | with_reducible assumption | with_reducible exact br | with_reducible refine Below.drew ?_ | with_reducible refine Below.alloc ?_ ?_ _ | with_reducible refine Below.setCell ?_ ?_ _ | with_reducible refine Below.step ?_ he2 ?_ | with_reducible refine Below.step ?_ he1 ?_ | (first | exact nl | omega | (simp; done) | (simp; omega) | (unfold World.setCell; simp; done) | (unfold World.setCell; simp; omega)))))); rintro e t2 ⟨rfl,he2⟩; have HT2:Below wy.heap.size wy t2:=(by (repeat' (first | with_reducible assumption | with_reducible exact br | with_reducible refine Below.drew ?_ | with_reducible refine Below.alloc ?_ ?_ _ | with_reducible refine Below.setCell ?_ ?_ _ | with_reducible refine Below.step ?_ he2 ?_ | with_reducible refine Below.step ?_ he1 ?_ | (first | exact nl | omega | (simp; done) | (simp; omega) | (unfold World.setCell; simp; done) | (unfold World.setCell; simp; omega))))); have ht2:=HT2.size))
  all_goals (go_wp2_with fail; go_meet; exact ⟨rfl,HT2⟩)
 case rest =>
  obtain ⟨rfl,hb⟩:=hcut;have hbw:=bu hbw hb;clear hb;go_wp2;go_ret2;exact ⟨ret_text HT.out.symm,hbw⟩
theorem rFormatQ_two (v:Value) (r:Rat) (w:World) (hr:RatV w v r) (hq:Hid (r.den ≠ 1)) (hE:Env w) :
  Calls Tryz.prog 21 #[v] w fun e w' => e=.returned (.tuple #[.string ⟨(Rq.textQ r).toArray⟩,.int .i64 0])∧Below w.heap.size w w':=by
 obtain ⟨s1,hs1⟩:∃ s,s=Lib.itoa r.num:=⟨_,rfl⟩;obtain ⟨s2,hs2⟩:∃ s,s=Lib.itoa (r.den:Int):=⟨_,rfl⟩;have HT:Hid (Rq.textQ r=s1 ++ 47 :: s2):=hii (by rw [hs1,hs2]; exact Rq.textQ_two hq.out);have HS1:Hid (Lib.itoa r.num=s1):=hii hs1.symm;have HS2:Hid (Lib.itoa (r.den:Int)=s2):=hii hs2.symm;clear hs1 hs2;have hbw:=Below.refl w.heap.size w;obtain ⟨ng1,ao1,n1,cap1,ng2,ao2,n2,cap2,rfl,h1,h2⟩:=hr;have HV1:=hii h1;have HV2:=hii h2;clear h1 h2;go_enter Tryz.func21,Tryz.ntmps21;have hl1:s1.length≤301:=by rw [← HS1.out]; exact Rq.itoa_len301 HV1.out.small
 have hl2:s2.length≤301:=by rw [← HS2.out]; exact Rq.itoa_len301 HV2.out.small
 go_upto_region 1 with fail;have X1:=Box4.new w (.bool ng1) (.slice ao1 n1 cap1) (.bool ng2) (.slice ao2 n2 cap2) 26;have hb:=bA w (.cells #[.bool ng1,.slice ao1 n1 cap1,.bool ng2,.slice ao2 n2 cap2] 26);generalize w.alloc (.cells #[.bool ng1,.slice ao1 n1 cap1,.bool ng2,.slice ao2 n2 cap2] 26)=v1 at *;have HV1:=hii (HV1.out.mono hb);have HV2:=hii (HV2.out.mono hb);have hE:=hE.mono hb;have hbw:=bu hbw hb;clear hb;obtain ⟨x1a,x1b,x1c,x1d,_,_,_,_⟩:=id X1;go_wp2_with fail;(with_reducible refine (rValid_true _ r v1 (RatV.mk' HV1 HV2) hE).mono ?_);rintro e v2 ⟨rfl,hb⟩;have HV1:=hii (HV1.out.mono hb);have HV2:=hii (HV2.out.mono hb);have X1:=X1.mono hb;have hE:=hE.mono hb;have hbw:=bu hbw hb;clear hb;clear x1a x1b x1c x1d;obtain ⟨x1a,x1b,x1c,x1d,_,_,_,_⟩:=id X1;go_wp2_with fail;(with_reducible refine (rFormat_eq _ r.num s1 v2 HS1 HV1.out).mono ?_);rintro e v3 ⟨rfl,hb⟩;have HV2:=hii (HV2.out.mono hb);have X1:=X1.mono hb;have hE:=hE.mono hb;have hbw:=bu hbw hb;clear hb;clear x1a x1b x1c x1d;go_upto_region 4 with fail;have HC:Hid (decide ((r.den:Int)=1)=false):=hii (by have:=hq.out; simp; omega);obtain ⟨wy,rfl⟩:∃ wy:World,wy=v3:=⟨_,rfl⟩;go_cut [15] (fun s15 wc => s15=.bool (!false)∧Below wy.heap.size wy wc)
 case first =>
  obtain ⟨_,_,_,_⟩:=id X1;go_region_with (first
   | (go_at_call 30; ((with_reducible refine (rof_any 1 (by decide) (by decide) _ (hE.mono ?_)).mono ?_); ((repeat' (first | with_reducible assumption | with_reducible exact br | with_reducible refine Below.drew ?_ | with_reducible refine Below.alloc ?_ ?_ _ | with_reducible refine Below.setCell ?_ ?_ _ | with_reducible refine Below.step ?_ he2 ?_ | with_reducible refine Below.step ?_ he1 ?_ | (first | exact nl | omega | (simp; done) | (simp; omega) | (unfold World.setCell; simp; done) | (unfold World.setCell; simp; omega)))))); rintro e t1 ⟨⟨ng5,ao5,n5,cap5,rfl,HV5⟩,he1⟩; have HT1:Below wy.heap.size wy t1:=(by (repeat' (first | with_reducible assumption | with_reducible exact br | with_reducible refine Below.drew ?_ | with_reducible refine Below.alloc ?_ ?_ _ | with_reducible refine Below.setCell ?_ ?_ _ | with_reducible refine Below.step ?_ he2 ?_ | with_reducible refine Below.step ?_ he1 ?_ | (first | exact nl | omega | (simp; done) | (simp; omega) | (unfold World.setCell; simp; done) | (unfold World.setCell; simp; omega))))); have ht1:=HT1.size; have hX1:=X1.mono HT1; obtain ⟨_,_,_,_⟩:=id hX1)
   | (go_at_call 40; ((with_reducible refine (eqI_eq _ _ (r.den:Int) 1 false _ HC (HV2.out.mono ?_) (HV5.out.mono ?_)).mono ?_); ((repeat' (first | with_reducible assumption | with_reducible exact br | with_reducible refine Below.drew ?_ | with_reducible refine Below.alloc ?_ ?_ _ | with_reducible refine Below.setCell ?_ ?_ _ | with_reducible refine Below.step ?_ he2 ?_ | with_reducible refine Below.step ?_ he1 ?_ | (first | exact nl | omega | (simp; done) | (simp; omega) | (unfold World.setCell; simp; done) | (unfold World.setCell; simp; omega))))); ((repeat' (first | with_reducible assumption | with_reducible exact br | with_reducible refine Below.drew ?_ | with_reducible refine Below.alloc ?_ ?_ _ | with_reducible refine Below.setCell ?_ ?_ _ | with_reducible refine Below.step ?_ he2 ?_ | with_reducible refine Below.step ?_ he1 ?_ | (first | exact nl | omega | (simp; done) | (simp; omega) | (unfold World.setCell; simp; done) | (unfold World.setCell; simp; omega)))))); rintro e t2 ⟨rfl,he2⟩; have HT2:Below wy.heap.size wy t2:=(by (repeat' (first | with_reducible assumption | with_reducible exact br | with_reducible refine Below.drew ?_ | with_reducible refine Below.alloc ?_ ?_ _ | with_reducible refine Below.setCell ?_ ?_ _ | with_reducible refine Below.step ?_ he2 ?_ | with_reducible refine Below.step ?_ he1 ?_ | (first | exact nl | omega | (simp; done) | (simp; omega) | (unfold World.setCell; simp; done) | (unfold World.setCell; simp; omega))))); have ht2:=HT2.size))
  all_goals (go_wp2_with fail; go_meet; exact ⟨rfl,HT2⟩)
 case rest =>
  obtain ⟨rfl,hb⟩:=hcut;have HV2:=hii (HV2.out.mono hb);have X1:=X1.mono hb;have hbw:=bu hbw hb;clear hb;obtain ⟨x1a,x1b,x1c,x1d,_,_,_,_⟩:=id X1;go_wp2_with (go_at_call 49; (with_reducible refine (rFormat_eq _ (r.den:Int) s2 _ HS2 HV2.out).mono ?_); rintro e w9 ⟨rfl,hb⟩)
  all_goals first | (exfalso; simp at *; omega) | (go_ret2; exact ⟨ret_text (by rw [HT.out]; simp),bu hbw hb⟩)
theorem rFormatQ_inv (v:Value) (w:World) (hqa:VQ w v false) (hE:Env w) :
  Calls Tryz.prog 21 #[v] w fun e w' => e=.returned (.tuple #[.string ⟨#[]⟩,.int .i64 1])∧Below w.heap.size w w':=by
 have hbw:=Below.refl w.heap.size w;obtain ⟨ng1,ao1,n1,cap1,ng2,ao2,n2,cap2,rfl⟩:=hqa.parts;go_enter Tryz.func21,Tryz.ntmps21;go_upto_region 1 with fail;have X1:=Box4.new w (.bool ng1) (.slice ao1 n1 cap1) (.bool ng2) (.slice ao2 n2 cap2) 26;have hb:=bA w (.cells #[.bool ng1,.slice ao1 n1 cap1,.bool ng2,.slice ao2 n2 cap2] 26);generalize w.alloc (.cells #[.bool ng1,.slice ao1 n1 cap1,.bool ng2,.slice ao2 n2 cap2] 26)=v1 at *;have hqa:=hqa.mono hb;have hE:=hE.mono hb;have hbw:=bu hbw hb;clear hb;obtain ⟨x1a,x1b,x1c,x1d,_,_,_,_⟩:=id X1;go_wp2_with fail;(with_reducible refine (rValid_v _ false v1 hqa hE).mono ?_);rintro e v2 ⟨rfl,hb⟩;have hbw:=bu hbw hb;clear hb;clear x1a x1b x1c x1d;go_wp2;go_ret2;exact ⟨rfl,hbw⟩
theorem rFormatQ (v:Value) (r:Rat) (w:World) (hr:RatV w v r) (hE:Env w) :
  Calls Tryz.prog 21 #[v] w fun e w' => e=.returned (.tuple #[.string ⟨(Rq.textQ r).toArray⟩,.int .i64 0])∧Below w.heap.size w w':=by
 by_cases h:r.den=1
 ·exact rFormatQ_one v r w hr (hii h) hE
 ·exact rFormatQ_two v r w hr (hii h) hE
def MaxV (w:World):Prop:=∃ m:Int,w.cell? ⟨0,0,none⟩=some (.int .i64 m)
theorem MaxV.mono {w w':World} (h:MaxV w) (hb:Below w.heap.size w w'):MaxV w':=by
 obtain ⟨m,hm⟩:=h;exact ⟨m,(hb.cell (p:=⟨0,0,none⟩) (cell_lt hm)).trans hm⟩
theorem Box4.set4Z {w:World} {n:Nat} {x0 x1 x2 x3:Value} (h:Box4 w n x0 x1 x2 x3) (y0 y1 y2 y3:Value):Box4 ((((w.setCell ⟨n,0,none⟩ y0).setCell ⟨n,1,none⟩ y1).setCell ⟨n,2,none⟩ y2).setCell ⟨n,3,none⟩ y3) n y0 y1 y2 y3:=by
 obtain ⟨h0,h1,h2,h3,f0,f1,f2,f3⟩:=h;exact ⟨by simp [go_sem,h0],by simp [go_sem,h1],by simp [go_sem,h2],by simp [go_sem,h3],by simp [go_sem,f0],by simp [go_sem,f1],by simp [go_sem,f2],by simp [go_sem,f3]⟩
theorem Box4.set4N {w:World} {n:Nat} (h:Box4 w n (.bool false) (.slice none 0 0) (.bool false) (.slice none 0 0)) (y0 y1 y2 y3:Value):Box4 ((((w.setCell ⟨n,0,none⟩ y0).setCell ⟨n,1,none⟩ y1).setCell ⟨n,2,none⟩ y2).setCell ⟨n,3,none⟩ y3) n y0 y1 y2 y3:=h.set4Z y0 y1 y2 y3
theorem IntV.put4N {w:World} {n:Nat} {u:Value} {z:Int} (h:IntV w u z) (hB:Box4 w n (.bool false) (.slice none 0 0) (.bool false) (.slice none 0 0)) (x0 x1 x2 x3:Value) :
  IntV ((((w.setCell ⟨n,0,none⟩ x0).setCell ⟨n,1,none⟩ x1).setCell ⟨n,2,none⟩ x2).setCell ⟨n,3,none⟩ x3) u z:=IntV.put4B hB h x0 x1 x2 x3
theorem Box4.set23 {w:World} {n:Nat} {x0 x1 x2 x3:Value} (h:Box4 w n x0 x1 x2 x3) (y2 y3:Value):Box4 ((w.setCell ⟨n,2,none⟩ y2).setCell ⟨n,3,none⟩ y3) n x0 x1 y2 y3:=by
 obtain ⟨h0,h1,h2,h3,f0,f1,f2,f3⟩:=h;exact ⟨by simp [go_sem,h0],by simp [go_sem,h1],by simp [go_sem,h2],by simp [go_sem,h3],by simp [go_sem,f0],by simp [go_sem,f1],by simp [go_sem,f2],by simp [go_sem,f3]⟩
theorem IntV.put23B {w:World} {n c2 d2:Nat} {b2:Bool} {s2:Option Addr} {x0 x1 u:Value} {z:Int} (hB:Box4 w n x0 x1 (.bool b2) (.slice s2 c2 d2)) (h:IntV w u z) (y2 y3:Value):IntV ((w.setCell ⟨n,2,none⟩ y2).setCell ⟨n,3,none⟩ y3) u z:=by
 have h2:=IntV.put (v:=y2) hB.c2 (by simp) h;have e3:(w.setCell ⟨n,2,none⟩ y2).cell? ⟨n,3,none⟩=some (.slice s2 c2 d2):=by rw [cell_next _ (by decide)]; exact hB.c3
 exact IntV.put (v:=y3) e3 (by simp) h2
theorem Box4.other23 {w:World} {n m:Nat} {x0 x1 x2 x3 u v:Value} (h:Box4 w n x0 x1 x2 x3) (hne:n ≠ m):Box4 ((w.setCell ⟨m,2,none⟩ u).setCell ⟨m,3,none⟩ v) n x0 x1 x2 x3:=by
 obtain ⟨h0,h1,h2,h3,f0,f1,f2,f3⟩:=h;exact ⟨by rw [cell_other _ hne,cell_other _ hne]; exact h0,by rw [cell_other _ hne,cell_other _ hne]; exact h1,by rw [cell_other _ hne,cell_other _ hne]; exact h2,by rw [cell_other _ hne,cell_other _ hne]; exact h3,
  by simp [go_sem,f0],by simp [go_sem,f1],by simp [go_sem,f2],by simp [go_sem,f3]⟩
theorem Box.other23 {w:World} {n m:Nat} {x y u v:Value} (h:Box w n x y) (hne:n ≠ m):Box ((w.setCell ⟨m,2,none⟩ u).setCell ⟨m,3,none⟩ v) n x y:=by
 obtain ⟨h1,h2,h3,h4⟩:=h;exact ⟨by rw [cell_other _ hne,cell_other _ hne]; exact h1,by rw [cell_other _ hne,cell_other _ hne]; exact h2,by simp [go_sem,h3],by simp [go_sem,h4]⟩
theorem Below.put23 {B:Nat} {w w':World} {n:Nat} (h:Below B w w') (hn:B≤n) (x y:Value):Below B w ((w'.setCell ⟨n,2,none⟩ x).setCell ⟨n,3,none⟩ y) :=
 (h.setCell hn _).setCell hn _
def OneB (wy wc:World) (base:Nat) (s9:Value) (ng:Bool) (ao:Option Addr) (l cap:Nat):Prop :=
 ∃ (n:Nat) (ng2:Bool) (ao2:Option Addr) (l2 cap2:Nat),s9=.pointer (some ⟨n,0,none⟩)∧base≤n∧Box4 wc n (.bool ng) (.slice ao l cap) (.bool ng2) (.slice ao2 l2 cap2)∧Hid (IntV wc (.agg #[.bool ng2,.slice ao2 l2 cap2]) 1)∧Below wy.heap.size wy wc
theorem Cut_any (s n d:List UInt8) (fnd:Bool) (w:World) (hs:s.length≤1000000) (h:Hid (Lib.cut s [47]=(n,d,fnd))) (hM:MaxV w) :
  Calls Tryz.prog 51 #[.string ⟨s.toArray⟩,.string ⟨#[47]⟩] w fun e w' => e=.returned (.tuple #[.string ⟨n.toArray⟩,.string ⟨d.toArray⟩,.bool fnd])∧Below w.heap.size w w':=by
 obtain ⟨m,hm⟩:=hM;refine (Tryz.strings_Cut ⟨s.toArray⟩ ⟨#[47]⟩ m w (by simp [ByteArray.size]; omega) hm).mono ?_;rintro e w' ⟨he,k,rfl⟩;refine ⟨?_,below_drewN br k⟩;rw [he]
 show Ending.returned (.tuple #[.string ⟨(Lib.cut s [47]).1.toArray⟩,.string ⟨(Lib.cut s [47]).2.1.toArray⟩,.bool (Lib.cut s [47]).2.2])=_
 rw [h.out]
def PRes (o:Option Rat) (w':World) (e:Ending):Prop :=
 match o with
 | some r => GotQ w' r e
 | none => NoQ 2 e
def PCase (fnd:Bool) (d:List UInt8) (z:Int) (o:Option Rat):Prop :=
 (fnd=false∧∃ r:Rat,o=some r∧Hid (r.num=z)∧Hid ((r.den:Int)=1)) ∨
 (fnd=true∧o=none∧Hid (¬ GoodT d)) ∨
 (fnd=true∧o=none∧Hid (GoodT d)∧∃ q:Int,Hid (q=sgn (Lib.hasPrefix d [45]) (Bi.decVal (Lib.trimPrefix d [45])))∧Hid (q≤1)) ∨
 (fnd=true∧o=none∧Hid (GoodT d)∧∃ q:Int,Hid (q=sgn (Lib.hasPrefix d [45]) (Bi.decVal (Lib.trimPrefix d [45])))∧Hid (1 < q∧Int.gcd z q ≠ 1)) ∨
 (fnd=true∧Hid (GoodT d)∧∃ (q:Int) (r:Rat),o=some r∧Hid (q=sgn (Lib.hasPrefix d [45]) (Bi.decVal (Lib.trimPrefix d [45])))∧Hid (1 < q)∧Hid (r.num=z)∧Hid ((r.den:Int)=q))
theorem ParseQ_bad1 (s n d:List UInt8) (fnd:Bool) (w:World) (hs:s.length≤1000000) (hn:n.length≤1000000) (hc:Hid (Lib.cut s [47]=(n,d,fnd))) (hg:Hid (¬ GoodT n)) (hE:Env w) (hM:MaxV w) :
  Calls Tryz.prog 24 #[.string ⟨s.toArray⟩] w fun e w' => NoQ 2 e∧Below w.heap.size w w':=by
 have hbw:=Below.refl w.heap.size w;go_enter Tryz.func24,Tryz.ntmps24;go_upto_region 1 with fail;have X2:=Box4.new w (.bool false) (.slice none 0 0) (.bool false) (.slice none 0 0) 26;have hb:=bA w (.cells #[.bool false,.slice none 0 0,.bool false,.slice none 0 0] 26);generalize w.alloc (.cells #[.bool false,.slice none 0 0,.bool false,.slice none 0 0] 26)=v1 at *;have hM:=hM.mono hb;have hE:=hE.mono hb;have hbw:=bu hbw hb;clear hb;go_wp2_with fail;(with_reducible refine (Cut_any s n d fnd v1 hs hc hM).mono ?_);rintro e v2 ⟨rfl,hb⟩;have X2:=X2.mono hb;have hE:=hE.mono hb;have hbw:=bu hbw hb;clear hb;go_wp2_with fail;(with_reducible refine (Parse_none n v2 hn hE hg).mono ?_);rintro e v3 ⟨rfl,hb⟩;have X2:=X2.mono hb;have hbw:=bu hbw hb;clear hb;go_upto_region 3 with fail;have lX7X2:=X2.lt;have X7:=Box.new v3 (.bool false) (.slice none 0 0) 24;have hb:=bA v3 (.cells #[.bool false,.slice none 0 0] 24);generalize v3.alloc (.cells #[.bool false,.slice none 0 0] 24)=v4 at *;have X2:=X2.mono hb;have hbw:=bu hbw hb;clear hb;obtain ⟨x2a,x2b,x2c,x2d,_,_,_,_⟩:=id X2;go_wp2;refine bodyPost_ret (v:=.tuple #[.agg #[.bool false,.slice none 0 0,.bool false,.slice none 0 0],.int .i64 2]) (by simp [results,Tryz.results24,go_sem,x2a,x2b,x2c,x2d]) rfl ⟨rfl,Below.put4 hbw (by omega) (.bool false) (.slice none 0 0) (.bool false) (.slice none 0 0)⟩
theorem ParseQ_tail (s n d:List UInt8) (fnd:Bool) (z:Int) (o:Option Rat) (w:World) (hs:s.length≤1000000) (hn:n.length≤1000000) (hd:d.length≤1000000) (hc:Hid (Lib.cut s [47]=(n,d,fnd))) (hg:Hid (GoodT n)) (hz:Hid (z=sgn (Lib.hasPrefix n [45]) (Bi.decVal (Lib.trimPrefix n [45])))) (hp:PCase fnd d z o) (hE:Env w) (hM:MaxV w) :
  Calls Tryz.prog 24 #[.string ⟨s.toArray⟩] w fun e w' => PRes o w' e∧Below w.heap.size w w':=by
 have hE0:=hE;have hbw:=Below.refl w.heap.size w;go_enter Tryz.func24,Tryz.ntmps24;have hM0:=hM;go_upto_region 1 with fail;have X2:=Box4.new w (.bool false) (.slice none 0 0) (.bool false) (.slice none 0 0) 26;have hb:=bA w (.cells #[.bool false,.slice none 0 0,.bool false,.slice none 0 0] 26);generalize w.alloc (.cells #[.bool false,.slice none 0 0,.bool false,.slice none 0 0] 26)=v1 at *;have hM:=hM.mono hb;have hE:=hE.mono hb;have hbw:=bu hbw hb;clear hb;go_wp2_with fail;(with_reducible refine (Cut_any s n d fnd v1 hs hc hM).mono ?_);rintro e v2 ⟨rfl,hb⟩;have hM:=hM.mono hb;have X2:=X2.mono hb;have hE:=hE.mono hb;have hbw:=bu hbw hb;clear hb;go_wp2_with fail;(with_reducible refine (Parse_good n z hz v2 hn hE hg).mono ?_);rintro e v3 ⟨⟨ng1,ao1,n1,cap1,rfl,HV1⟩,hb⟩;have hM:=hM.mono hb;have X2:=X2.mono hb;have hE:=hE.mono hb;have hbw:=bu hbw hb;clear hb;go_upto_region 3 with fail;have lX7X2:=X2.lt;have X7:=Box.new v3 (.bool ng1) (.slice ao1 n1 cap1) 24;have hb:=bA v3 (.cells #[.bool ng1,.slice ao1 n1 cap1] 24);generalize v3.alloc (.cells #[.bool ng1,.slice ao1 n1 cap1] 24)=v4 at *;have hM:=hM.mono hb;have X2:=X2.mono hb;have HV1:=hii (HV1.out.mono hb);have hE:=hE.mono hb;have hbw:=bu hbw hb;clear hb;go_upto_region 5 with fail;obtain ⟨wy,rfl⟩:∃ wy:World,wy=v4:=⟨_,rfl⟩;have l5X7:=X7.lt;have l5X2:=X2.lt;go_cut [9] (fun s9 wc => OneB wy wc wy.heap.size s9 ng1 ao1 n1 cap1)
 case first =>
  obtain ⟨_,_,_,_⟩:=id X7;go_region_with (go_at_call 53; ((with_reducible refine (one_any _ (hE.mono ?_)).mono ?_); ((repeat' (first | with_reducible assumption | with_reducible exact br | with_reducible refine Below.drew ?_ | with_reducible refine Below.alloc ?_ ?_ _ | with_reducible refine Below.setCell ?_ ?_ _ | with_reducible refine Below.step ?_ he2 ?_ | with_reducible refine Below.step ?_ he1 ?_ | (first | exact nl | omega | (simp; done) | (simp; omega) | (unfold World.setCell; simp; done) | (unfold World.setCell; simp; omega)))))); rintro e t1 ⟨⟨ng5,ao5,n5,cap5,rfl,HV5⟩,he1⟩; have HT1:Below wy.heap.size wy t1:=(by (repeat' (first | with_reducible assumption | with_reducible exact br | with_reducible refine Below.drew ?_ | with_reducible refine Below.alloc ?_ ?_ _ | with_reducible refine Below.setCell ?_ ?_ _ | with_reducible refine Below.step ?_ he2 ?_ | with_reducible refine Below.step ?_ he1 ?_ | (first | exact nl | omega | (simp; done) | (simp; omega) | (unfold World.setCell; simp; done) | (unfold World.setCell; simp; omega))))); have ht1:=HT1.size; have hX7:=X7.mono HT1; have lt7:=hX7.lt; obtain ⟨_,_,_,_⟩:=id hX7; (try ((have hY4:Box4 t1 wy.heap.size (.bool false) (.slice none 0 0) (.bool false) (.slice none 0 0):=?_); rotate_left; (· (refine Box4.mono ?_ he1; (repeat' (first | with_reducible assumption | with_reducible exact Box4.new _ _ _ _ _ _ | with_reducible refine Box4.set4N ?_ _ _ _ _ | with_reducible refine Box4.mono ?_ he1 | with_reducible refine Box4.mono ?_ (bA _ _) | with_reducible refine Box4.mono ?_ (Below.drew br))); done)); obtain ⟨_,_,_,_,_,_,_,_⟩:=id hY4)))
  all_goals (go_wp2_with fail; go_meet; exact ⟨_,ng5,ao5,n5,cap5,rfl,(by first | exact nl | omega),by (repeat' (first | with_reducible assumption | with_reducible exact Box4.new _ _ _ _ _ _ | with_reducible refine Box4.set4N ?_ _ _ _ _ | with_reducible refine Box4.mono ?_ he1 | with_reducible refine Box4.mono ?_ (bA _ _) | with_reducible refine Box4.mono ?_ (Below.drew br))),hii (by (repeat' (first | with_reducible exact HV5.out | with_reducible refine IntV.mono ?_ (bA _ _) | with_reducible refine IntV.mono ?_ (Below.drew br) | with_reducible refine IntV.put4N ?_ ?_ _ _ _ _ | with_reducible assumption | repeat' (first | with_reducible assumption | with_reducible exact Box4.new _ _ _ _ _ _ | with_reducible refine Box4.set4N ?_ _ _ _ _ | with_reducible refine Box4.mono ?_ he1 | with_reducible refine Box4.mono ?_ (bA _ _) | with_reducible refine Box4.mono ?_ (Below.drew br))))),by (repeat' (first | with_reducible assumption | with_reducible exact br | with_reducible refine Below.drew ?_ | with_reducible refine Below.alloc ?_ ?_ _ | with_reducible refine Below.setCell ?_ ?_ _ | with_reducible refine Below.step ?_ he2 ?_ | with_reducible refine Below.step ?_ he1 ?_ | (first | exact nl | omega | (simp; done) | (simp; omega) | (unfold World.setCell; simp; done) | (unfold World.setCell; simp; omega))))⟩)
 case rest =>
  obtain ⟨g9,ng2,ao2,n2,cap2,rfl,hg9,X9,HV2,hb⟩:=hcut;have l9X2:=X2.lt;have l9X7:=X7.lt;have hM:=hM.mono hb;have X2:=X2.mono hb;have HV1:=hii (HV1.out.mono hb);have X7:=X7.mono hb;have hE:=hE.mono hb;have hbw:=bu hbw hb;clear hb;rcases hp with ⟨rfl,r,rfl,hr1,hr2⟩ | ⟨rfl,rfl,hg2⟩ | ⟨rfl,rfl,hg2,q,hz2,hq⟩ | ⟨rfl,rfl,hg2,q,hz2,hq⟩ | ⟨rfl,hg2,q,r,rfl,hz2,hq,hr1,hr2⟩
  ·rw [← hr1.out] at HV1;rw [← hr2.out] at HV2;obtain ⟨x9a,x9b,x9c,x9d,_,_,_,_⟩:=id X9;go_wp2_with fail;(with_reducible refine (Valid_true _ r wc (RatV.mk' HV1 HV2) hE).mono ?_);rintro e v5 ⟨rfl,hb⟩;have X2:=X2.mono hb;have HV1:=hii (HV1.out.mono hb);have X9:=X9.mono hb;have HV2:=hii (HV2.out.mono hb);have hbw:=bu hbw hb;clear hb;clear x9a x9b x9c x9d;obtain ⟨x9a,x9b,x9c,x9d,_,_,_,_⟩:=id X9;obtain ⟨x2a,x2b,x2c,x2d,_,_,_,_⟩:=id X2;go_wp2;refine bodyPost_ret (v:=.tuple #[.agg #[.bool ng1,.slice ao1 n1 cap1,.bool ng2,.slice ao2 n2 cap2],.int .i64 0]) (by simp [results,Tryz.results24,go_sem,x2a,x2b,x2c,x2d]) rfl ⟨⟨ng1,ao1,n1,cap1,ng2,ao2,n2,cap2,rfl,hii (HV1.out.put4B X2 (.bool ng1) (.slice ao1 n1 cap1) (.bool ng2) (.slice ao2 n2 cap2)),hii (HV2.out.put4B X2 (.bool ng1) (.slice ao1 n1 cap1) (.bool ng2) (.slice ao2 n2 cap2))⟩,Below.put4 hbw (by omega) (.bool ng1) (.slice ao1 n1 cap1) (.bool ng2) (.slice ao2 n2 cap2)⟩
  ·go_wp2_with fail;(with_reducible refine (Parse_none d wc hd hE hg2).mono ?_);rintro e v5 ⟨rfl,hb⟩;have hM:=hM.mono hb;have X2:=X2.mono hb;have HV1:=hii (HV1.out.mono hb);have X7:=X7.mono hb;have X9:=X9.mono hb;have HV2:=hii (HV2.out.mono hb);have hE:=hE.mono hb;have hbw:=bu hbw hb;clear hb;obtain ⟨x9a,x9b,x9c,x9d,_,_,_,_⟩:=id X9;go_upto_region 8 with fail;clear x9a x9b x9c x9d;have X2:=X2.other23 (u:=.bool false) (v:=.slice none 0 0) (show w.heap.size ≠ g9 by omega);have HV1:=hii (HV1.out.put23B X9 (.bool false) (.slice none 0 0));have X7:=X7.other23 (u:=.bool false) (v:=.slice none 0 0) (show v3.heap.size ≠ g9 by omega);have HV2:=hii (HV2.out.put23B X9 (.bool false) (.slice none 0 0));have X9:=X9.set23 (.bool false) (.slice none 0 0);have hbw:=Below.put23 hbw (n:=g9) (by omega) (.bool false) (.slice none 0 0);have hE:=hE0.mono hbw;have hM:=hM0.mono hbw;generalize (v5.setCell ⟨g9,2,none⟩ (.bool false)).setCell ⟨g9,3,none⟩ (.slice none 0 0)=v6 at *;clear HV2;obtain ⟨wz,rfl⟩:∃ wz:World,wz=v6:=⟨_,rfl⟩;go_cut [42] (fun s42 wc => s42=.bool true∧Below wz.heap.size wz wc)
   case first =>
    go_quiet (fail)
    all_goals (go_wp2_with fail; go_meet; exact ⟨rfl,below_drewN br _⟩)
   case rest =>
    obtain ⟨rfl,hb⟩:=hcut;have X2:=X2.mono hb;have hbw:=bu hbw hb;clear hb;obtain ⟨x2a,x2b,x2c,x2d,_,_,_,_⟩:=id X2;go_wp2;refine bodyPost_ret (v:=.tuple #[.agg #[.bool false,.slice none 0 0,.bool false,.slice none 0 0],.int .i64 2]) (by simp [results,Tryz.results24,go_sem,x2a,x2b,x2c,x2d]) rfl ⟨rfl,Below.put4 hbw (by omega) (.bool false) (.slice none 0 0) (.bool false) (.slice none 0 0)⟩
  ·go_wp2_with fail;(with_reducible refine (Parse_good d q hz2 wc hd hE hg2).mono ?_);rintro e v5 ⟨⟨ng3,ao3,n3,cap3,rfl,HV3⟩,hb⟩;have hM:=hM.mono hb;have X2:=X2.mono hb;have HV1:=hii (HV1.out.mono hb);have X7:=X7.mono hb;have X9:=X9.mono hb;have HV2:=hii (HV2.out.mono hb);have hE:=hE.mono hb;have hbw:=bu hbw hb;clear hb;obtain ⟨x9a,x9b,x9c,x9d,_,_,_,_⟩:=id X9;go_upto_region 8 with fail;clear x9a x9b x9c x9d;have X2:=X2.other23 (u:=.bool ng3) (v:=.slice ao3 n3 cap3) (show w.heap.size ≠ g9 by omega);have HV1:=hii (HV1.out.put23B X9 (.bool ng3) (.slice ao3 n3 cap3));have X7:=X7.other23 (u:=.bool ng3) (v:=.slice ao3 n3 cap3) (show v3.heap.size ≠ g9 by omega);have HV2:=hii (HV2.out.put23B X9 (.bool ng3) (.slice ao3 n3 cap3));have HV3:=hii (HV3.out.put23B X9 (.bool ng3) (.slice ao3 n3 cap3));have X9:=X9.set23 (.bool ng3) (.slice ao3 n3 cap3);have hbw:=Below.put23 hbw (n:=g9) (by omega) (.bool ng3) (.slice ao3 n3 cap3);have hE:=hE0.mono hbw;have hM:=hM0.mono hbw;generalize (v5.setCell ⟨g9,2,none⟩ (.bool ng3)).setCell ⟨g9,3,none⟩ (.slice ao3 n3 cap3)=v6 at *;clear HV2;obtain ⟨cv,hcv,hc0⟩:∃ cv:Int,cmpZ q 1=cv∧(decide (cv≤0))=true:=⟨_,rfl,by have:=hq.out; unfold cmpZ; split <;> (try split) <;> simp <;> omega⟩;have HC:=hii hcv;clear hcv;obtain ⟨wz,rfl⟩:∃ wz:World,wz=v6:=⟨_,rfl⟩;go_cut [42] (fun s42 wc => s42=.bool true∧Below wz.heap.size wz wc)
   case first =>
    obtain ⟨_,_,_,_,_,_,_,_⟩:=id X9;go_region_with (first
     | (go_at_call 53; ((with_reducible refine (one_any _ (hE.mono ?_)).mono ?_); ((repeat' (first | with_reducible assumption | with_reducible exact br | with_reducible refine Below.drew ?_ | with_reducible refine Below.alloc ?_ ?_ _ | with_reducible refine Below.setCell ?_ ?_ _ | with_reducible refine Below.step ?_ he2 ?_ | with_reducible refine Below.step ?_ he1 ?_ | (first | exact nl | omega | (simp; done) | (simp; omega) | (unfold World.setCell; simp; done) | (unfold World.setCell; simp; omega)))))); rintro e t1 ⟨⟨ng5,ao5,n5,cap5,rfl,HV5⟩,he1⟩; have HT1:Below wz.heap.size wz t1:=(by (repeat' (first | with_reducible assumption | with_reducible exact br | with_reducible refine Below.drew ?_ | with_reducible refine Below.alloc ?_ ?_ _ | with_reducible refine Below.setCell ?_ ?_ _ | with_reducible refine Below.step ?_ he2 ?_ | with_reducible refine Below.step ?_ he1 ?_ | (first | exact nl | omega | (simp; done) | (simp; omega) | (unfold World.setCell; simp; done) | (unfold World.setCell; simp; omega))))); have ht1:=HT1.size; have hX9:=X9.mono HT1; obtain ⟨_,_,_,_,_,_,_,_⟩:=id hX9)
     | (go_at_call 54; ((with_reducible refine (Cmp_eq _ _ q 1 cv _ HC (HV3.out.mono ?_) (HV5.out.mono ?_) (hE.mono ?_)).mono ?_); ((repeat' (first | with_reducible assumption | with_reducible exact br | with_reducible refine Below.drew ?_ | with_reducible refine Below.alloc ?_ ?_ _ | with_reducible refine Below.setCell ?_ ?_ _ | with_reducible refine Below.step ?_ he2 ?_ | with_reducible refine Below.step ?_ he1 ?_ | (first | exact nl | omega | (simp; done) | (simp; omega) | (unfold World.setCell; simp; done) | (unfold World.setCell; simp; omega))))); ((repeat' (first | with_reducible assumption | with_reducible exact br | with_reducible refine Below.drew ?_ | with_reducible refine Below.alloc ?_ ?_ _ | with_reducible refine Below.setCell ?_ ?_ _ | with_reducible refine Below.step ?_ he2 ?_ | with_reducible refine Below.step ?_ he1 ?_ | (first | exact nl | omega | (simp; done) | (simp; omega) | (unfold World.setCell; simp; done) | (unfold World.setCell; simp; omega))))); ((repeat' (first | with_reducible assumption | with_reducible exact br | with_reducible refine Below.drew ?_ | with_reducible refine Below.alloc ?_ ?_ _ | with_reducible refine Below.setCell ?_ ?_ _ | with_reducible refine Below.step ?_ he2 ?_ | with_reducible refine Below.step ?_ he1 ?_ | (first | exact nl | omega | (simp; done) | (simp; omega) | (unfold World.setCell; simp; done) | (unfold World.setCell; simp; omega)))))); rintro e t2 ⟨rfl,he2⟩; have HT2:Below wz.heap.size wz t2:=(by (repeat' (first | with_reducible assumption | with_reducible exact br | with_reducible refine Below.drew ?_ | with_reducible refine Below.alloc ?_ ?_ _ | with_reducible refine Below.setCell ?_ ?_ _ | with_reducible refine Below.step ?_ he2 ?_ | with_reducible refine Below.step ?_ he1 ?_ | (first | exact nl | omega | (simp; done) | (simp; omega) | (unfold World.setCell; simp; done) | (unfold World.setCell; simp; omega))))); have ht2:=HT2.size))
    all_goals (go_wp2_with fail; go_meet; exact ⟨rfl,HT2⟩)
   case rest =>
    obtain ⟨rfl,hb⟩:=hcut;have X2:=X2.mono hb;have hbw:=bu hbw hb;clear hb;obtain ⟨x2a,x2b,x2c,x2d,_,_,_,_⟩:=id X2;go_wp2;refine bodyPost_ret (v:=.tuple #[.agg #[.bool false,.slice none 0 0,.bool false,.slice none 0 0],.int .i64 2]) (by simp [results,Tryz.results24,go_sem,x2a,x2b,x2c,x2d]) rfl ⟨rfl,Below.put4 hbw (by omega) (.bool false) (.slice none 0 0) (.bool false) (.slice none 0 0)⟩
  ·go_wp2_with fail;(with_reducible refine (Parse_good d q hz2 wc hd hE hg2).mono ?_);rintro e v5 ⟨⟨ng3,ao3,n3,cap3,rfl,HV3⟩,hb⟩;have hM:=hM.mono hb;have X2:=X2.mono hb;have HV1:=hii (HV1.out.mono hb);have X7:=X7.mono hb;have X9:=X9.mono hb;have HV2:=hii (HV2.out.mono hb);have hE:=hE.mono hb;have hbw:=bu hbw hb;clear hb;obtain ⟨x9a,x9b,x9c,x9d,_,_,_,_⟩:=id X9;go_upto_region 8 with fail;clear x9a x9b x9c x9d;have X2:=X2.other23 (u:=.bool ng3) (v:=.slice ao3 n3 cap3) (show w.heap.size ≠ g9 by omega);have HV1:=hii (HV1.out.put23B X9 (.bool ng3) (.slice ao3 n3 cap3));have X7:=X7.other23 (u:=.bool ng3) (v:=.slice ao3 n3 cap3) (show v3.heap.size ≠ g9 by omega);have HV2:=hii (HV2.out.put23B X9 (.bool ng3) (.slice ao3 n3 cap3));have HV3:=hii (HV3.out.put23B X9 (.bool ng3) (.slice ao3 n3 cap3));have X9:=X9.set23 (.bool ng3) (.slice ao3 n3 cap3);have hbw:=Below.put23 hbw (n:=g9) (by omega) (.bool ng3) (.slice ao3 n3 cap3);have hE:=hE0.mono hbw;have hM:=hM0.mono hbw;generalize (v5.setCell ⟨g9,2,none⟩ (.bool ng3)).setCell ⟨g9,3,none⟩ (.slice ao3 n3 cap3)=v6 at *;clear HV2;obtain ⟨cv,hcv,hc0⟩:∃ cv:Int,cmpZ q 1=cv∧(decide (cv≤0))=false:=⟨_,rfl,by have:=hq.out.1; unfold cmpZ; split <;> (try split) <;> simp <;> omega⟩;have HC:=hii hcv;clear hcv;obtain ⟨wz,rfl⟩:∃ wz:World,wz=v6:=⟨_,rfl⟩;go_cut [42] (fun s42 wc => s42=.bool false∧Below wz.heap.size wz wc)
   case first =>
    obtain ⟨_,_,_,_,_,_,_,_⟩:=id X9;go_region_with (first
     | (go_at_call 53; ((with_reducible refine (one_any _ (hE.mono ?_)).mono ?_); ((repeat' (first | with_reducible assumption | with_reducible exact br | with_reducible refine Below.drew ?_ | with_reducible refine Below.alloc ?_ ?_ _ | with_reducible refine Below.setCell ?_ ?_ _ | with_reducible refine Below.step ?_ he2 ?_ | with_reducible refine Below.step ?_ he1 ?_ | (first | exact nl | omega | (simp; done) | (simp; omega) | (unfold World.setCell; simp; done) | (unfold World.setCell; simp; omega)))))); rintro e t1 ⟨⟨ng5,ao5,n5,cap5,rfl,HV5⟩,he1⟩; have HT1:Below wz.heap.size wz t1:=(by (repeat' (first | with_reducible assumption | with_reducible exact br | with_reducible refine Below.drew ?_ | with_reducible refine Below.alloc ?_ ?_ _ | with_reducible refine Below.setCell ?_ ?_ _ | with_reducible refine Below.step ?_ he2 ?_ | with_reducible refine Below.step ?_ he1 ?_ | (first | exact nl | omega | (simp; done) | (simp; omega) | (unfold World.setCell; simp; done) | (unfold World.setCell; simp; omega))))); have ht1:=HT1.size; have hX9:=X9.mono HT1; obtain ⟨_,_,_,_,_,_,_,_⟩:=id hX9)
     | (go_at_call 54; ((with_reducible refine (Cmp_eq _ _ q 1 cv _ HC (HV3.out.mono ?_) (HV5.out.mono ?_) (hE.mono ?_)).mono ?_); ((repeat' (first | with_reducible assumption | with_reducible exact br | with_reducible refine Below.drew ?_ | with_reducible refine Below.alloc ?_ ?_ _ | with_reducible refine Below.setCell ?_ ?_ _ | with_reducible refine Below.step ?_ he2 ?_ | with_reducible refine Below.step ?_ he1 ?_ | (first | exact nl | omega | (simp; done) | (simp; omega) | (unfold World.setCell; simp; done) | (unfold World.setCell; simp; omega))))); ((repeat' (first | with_reducible assumption | with_reducible exact br | with_reducible refine Below.drew ?_ | with_reducible refine Below.alloc ?_ ?_ _ | with_reducible refine Below.setCell ?_ ?_ _ | with_reducible refine Below.step ?_ he2 ?_ | with_reducible refine Below.step ?_ he1 ?_ | (first | exact nl | omega | (simp; done) | (simp; omega) | (unfold World.setCell; simp; done) | (unfold World.setCell; simp; omega))))); ((repeat' (first | with_reducible assumption | with_reducible exact br | with_reducible refine Below.drew ?_ | with_reducible refine Below.alloc ?_ ?_ _ | with_reducible refine Below.setCell ?_ ?_ _ | with_reducible refine Below.step ?_ he2 ?_ | with_reducible refine Below.step ?_ he1 ?_ | (first | exact nl | omega | (simp; done) | (simp; omega) | (unfold World.setCell; simp; done) | (unfold World.setCell; simp; omega)))))); rintro e t2 ⟨rfl,he2⟩; have HT2:Below wz.heap.size wz t2:=(by (repeat' (first | with_reducible assumption | with_reducible exact br | with_reducible refine Below.drew ?_ | with_reducible refine Below.alloc ?_ ?_ _ | with_reducible refine Below.setCell ?_ ?_ _ | with_reducible refine Below.step ?_ he2 ?_ | with_reducible refine Below.step ?_ he1 ?_ | (first | exact nl | omega | (simp; done) | (simp; omega) | (unfold World.setCell; simp; done) | (unfold World.setCell; simp; omega))))); have ht2:=HT2.size))
    all_goals (go_wp2_with fail; go_meet; exact ⟨rfl,HT2⟩)
   case rest =>
    obtain ⟨rfl,hb⟩:=hcut;have X2:=X2.mono hb;have HV1:=hii (HV1.out.mono hb);have X9:=X9.mono hb;have HV3:=hii (HV3.out.mono hb);have hE:=hE.mono hb;have hbw:=bu hbw hb;clear hb;obtain ⟨x9a,x9b,x9c,x9d,_,_,_,_⟩:=id X9;go_wp2_with fail;(with_reducible refine (Valid_gcd z q wc (hii ⟨by have:=hq.out.1; omega,hq.out.2⟩) HV1.out HV3.out hE).mono ?_);rintro e v7 ⟨rfl,hb⟩;have X2:=X2.mono hb;have hbw:=bu hbw hb;clear hb;clear x9a x9b x9c x9d;obtain ⟨x2a,x2b,x2c,x2d,_,_,_,_⟩:=id X2;go_wp2;refine bodyPost_ret (v:=.tuple #[.agg #[.bool false,.slice none 0 0,.bool false,.slice none 0 0],.int .i64 2]) (by simp [results,Tryz.results24,go_sem,x2a,x2b,x2c,x2d]) rfl ⟨rfl,Below.put4 hbw (by omega) (.bool false) (.slice none 0 0) (.bool false) (.slice none 0 0)⟩
  ·go_wp2_with fail;(with_reducible refine (Parse_good d q hz2 wc hd hE hg2).mono ?_);rintro e v5 ⟨⟨ng3,ao3,n3,cap3,rfl,HV3⟩,hb⟩;have hM:=hM.mono hb;have X2:=X2.mono hb;have HV1:=hii (HV1.out.mono hb);have X7:=X7.mono hb;have X9:=X9.mono hb;have HV2:=hii (HV2.out.mono hb);have hE:=hE.mono hb;have hbw:=bu hbw hb;clear hb;obtain ⟨x9a,x9b,x9c,x9d,_,_,_,_⟩:=id X9;go_upto_region 8 with fail;clear x9a x9b x9c x9d;have X2:=X2.other23 (u:=.bool ng3) (v:=.slice ao3 n3 cap3) (show w.heap.size ≠ g9 by omega);have HV1:=hii (HV1.out.put23B X9 (.bool ng3) (.slice ao3 n3 cap3));have X7:=X7.other23 (u:=.bool ng3) (v:=.slice ao3 n3 cap3) (show v3.heap.size ≠ g9 by omega);have HV2:=hii (HV2.out.put23B X9 (.bool ng3) (.slice ao3 n3 cap3));have HV3:=hii (HV3.out.put23B X9 (.bool ng3) (.slice ao3 n3 cap3));have X9:=X9.set23 (.bool ng3) (.slice ao3 n3 cap3);have hbw:=Below.put23 hbw (n:=g9) (by omega) (.bool ng3) (.slice ao3 n3 cap3);have hE:=hE0.mono hbw;have hM:=hM0.mono hbw;generalize (v5.setCell ⟨g9,2,none⟩ (.bool ng3)).setCell ⟨g9,3,none⟩ (.slice ao3 n3 cap3)=v6 at *;clear HV2;obtain ⟨cv,hcv,hc0⟩:∃ cv:Int,cmpZ q 1=cv∧(decide (cv≤0))=false:=⟨_,rfl,by have:=hq.out; unfold cmpZ; split <;> (try split) <;> simp <;> omega⟩;have HC:=hii hcv;clear hcv;obtain ⟨wz,rfl⟩:∃ wz:World,wz=v6:=⟨_,rfl⟩;go_cut [42] (fun s42 wc => s42=.bool false∧Below wz.heap.size wz wc)
   case first =>
    obtain ⟨_,_,_,_,_,_,_,_⟩:=id X9;go_region_with (first
     | (go_at_call 53; ((with_reducible refine (one_any _ (hE.mono ?_)).mono ?_); ((repeat' (first | with_reducible assumption | with_reducible exact br | with_reducible refine Below.drew ?_ | with_reducible refine Below.alloc ?_ ?_ _ | with_reducible refine Below.setCell ?_ ?_ _ | with_reducible refine Below.step ?_ he2 ?_ | with_reducible refine Below.step ?_ he1 ?_ | (first | exact nl | omega | (simp; done) | (simp; omega) | (unfold World.setCell; simp; done) | (unfold World.setCell; simp; omega)))))); rintro e t1 ⟨⟨ng5,ao5,n5,cap5,rfl,HV5⟩,he1⟩; have HT1:Below wz.heap.size wz t1:=(by (repeat' (first | with_reducible assumption | with_reducible exact br | with_reducible refine Below.drew ?_ | with_reducible refine Below.alloc ?_ ?_ _ | with_reducible refine Below.setCell ?_ ?_ _ | with_reducible refine Below.step ?_ he2 ?_ | with_reducible refine Below.step ?_ he1 ?_ | (first | exact nl | omega | (simp; done) | (simp; omega) | (unfold World.setCell; simp; done) | (unfold World.setCell; simp; omega))))); have ht1:=HT1.size; have hX9:=X9.mono HT1; obtain ⟨_,_,_,_,_,_,_,_⟩:=id hX9)
     | (go_at_call 54; ((with_reducible refine (Cmp_eq _ _ q 1 cv _ HC (HV3.out.mono ?_) (HV5.out.mono ?_) (hE.mono ?_)).mono ?_); ((repeat' (first | with_reducible assumption | with_reducible exact br | with_reducible refine Below.drew ?_ | with_reducible refine Below.alloc ?_ ?_ _ | with_reducible refine Below.setCell ?_ ?_ _ | with_reducible refine Below.step ?_ he2 ?_ | with_reducible refine Below.step ?_ he1 ?_ | (first | exact nl | omega | (simp; done) | (simp; omega) | (unfold World.setCell; simp; done) | (unfold World.setCell; simp; omega))))); ((repeat' (first | with_reducible assumption | with_reducible exact br | with_reducible refine Below.drew ?_ | with_reducible refine Below.alloc ?_ ?_ _ | with_reducible refine Below.setCell ?_ ?_ _ | with_reducible refine Below.step ?_ he2 ?_ | with_reducible refine Below.step ?_ he1 ?_ | (first | exact nl | omega | (simp; done) | (simp; omega) | (unfold World.setCell; simp; done) | (unfold World.setCell; simp; omega))))); ((repeat' (first | with_reducible assumption | with_reducible exact br | with_reducible refine Below.drew ?_ | with_reducible refine Below.alloc ?_ ?_ _ | with_reducible refine Below.setCell ?_ ?_ _ | with_reducible refine Below.step ?_ he2 ?_ | with_reducible refine Below.step ?_ he1 ?_ | (first | exact nl | omega | (simp; done) | (simp; omega) | (unfold World.setCell; simp; done) | (unfold World.setCell; simp; omega)))))); rintro e t2 ⟨rfl,he2⟩; have HT2:Below wz.heap.size wz t2:=(by (repeat' (first | with_reducible assumption | with_reducible exact br | with_reducible refine Below.drew ?_ | with_reducible refine Below.alloc ?_ ?_ _ | with_reducible refine Below.setCell ?_ ?_ _ | with_reducible refine Below.step ?_ he2 ?_ | with_reducible refine Below.step ?_ he1 ?_ | (first | exact nl | omega | (simp; done) | (simp; omega) | (unfold World.setCell; simp; done) | (unfold World.setCell; simp; omega))))); have ht2:=HT2.size))
    all_goals (go_wp2_with fail; go_meet; exact ⟨rfl,HT2⟩)
   case rest =>
    obtain ⟨rfl,hb⟩:=hcut;have X2:=X2.mono hb;have HV1:=hii (HV1.out.mono hb);have X9:=X9.mono hb;have HV3:=hii (HV3.out.mono hb);have hE:=hE.mono hb;have hbw:=bu hbw hb;clear hb;rw [← hr1.out] at HV1;rw [← hr2.out] at HV3;obtain ⟨x9a,x9b,x9c,x9d,_,_,_,_⟩:=id X9;go_wp2_with fail;(with_reducible refine (Valid_true _ r wc (RatV.mk' HV1 HV3) hE).mono ?_);rintro e v7 ⟨rfl,hb⟩;have X2:=X2.mono hb;have HV1:=hii (HV1.out.mono hb);have X9:=X9.mono hb;have HV3:=hii (HV3.out.mono hb);have hbw:=bu hbw hb;clear hb;clear x9a x9b x9c x9d;obtain ⟨x9a,x9b,x9c,x9d,_,_,_,_⟩:=id X9;obtain ⟨x2a,x2b,x2c,x2d,_,_,_,_⟩:=id X2;go_wp2;refine bodyPost_ret (v:=.tuple #[.agg #[.bool ng1,.slice ao1 n1 cap1,.bool ng3,.slice ao3 n3 cap3],.int .i64 0]) (by simp [results,Tryz.results24,go_sem,x2a,x2b,x2c,x2d]) rfl ⟨⟨ng1,ao1,n1,cap1,ng3,ao3,n3,cap3,rfl,hii (HV1.out.put4B X2 (.bool ng1) (.slice ao1 n1 cap1) (.bool ng3) (.slice ao3 n3 cap3)),hii (HV3.out.put4B X2 (.bool ng1) (.slice ao1 n1 cap1) (.bool ng3) (.slice ao3 n3 cap3))⟩,Below.put4 hbw (by omega) (.bool ng1) (.slice ao1 n1 cap1) (.bool ng3) (.slice ao3 n3 cap3)⟩
end Go.Proofs.YtaedmaifkfhpfaaGreatDoor
namespace Rq
open Go
end Rq
namespace Go.Proofs.YtaedmaifkfhpfaaGreatDoor
open Go.RowKit
theorem Slot.at {W:World} {base:Nat} {st:Prop} {p:Value} {z:Int} (h:Slot W base (fun W v => IntV W v z) st p) (hs:st) :
  ∃ (g:Nat) (ng:Bool) (ao:Option Addr) (l cap:Nat),p=.pointer (some ⟨g,0,none⟩)∧base≤g∧Box W g (.bool ng) (.slice ao l cap)∧IntV W (.agg #[.bool ng,.slice ao l cap]) z:=by
 obtain ⟨b,e,hb,_,h3,_⟩:=h;obtain ⟨x,y,B,hr⟩:=h3 hs;obtain ⟨ng,ao,n,cap,e2⟩:=hr.parts;simp only [Value.agg.injEq,Array.mk.injEq,List.cons.injEq,and_true] at e2;obtain ⟨rfl,rfl⟩:=e2;exact ⟨b,ng,ao,n,cap,e,hb,B,hr⟩
def GotR (w':World) (r:Rat) (e:Ending):Prop :=
 ∃ (n1:Bool) (a1:Option Addr) (l1 c1:Nat) (n2:Bool) (a2:Option Addr) (l2 c2:Nat),e=.returned (.agg #[.bool n1,.slice a1 l1 c1,.bool n2,.slice a2 l2 c2]) ∧
  Hid (IntV w' (.agg #[.bool n1,.slice a1 l1 c1]) r.num)∧Hid (IntV w' (.agg #[.bool n2,.slice a2 l2 c2]) (r.den:Int))
theorem sm_of {z:Int} (h1:-9223372036854775808≤z) (h2:z≤9223372036854775808):Rq.Sm z:=small_big (by omega)
theorem d1 {n:Nat} (h:n < 10):Lib.decDigits n=[UInt8.ofNat (48 + n)]:=Lib.decDigits_one h
theorem goodT_itoa {z:Int} (h:Rq.Sm z):GoodT (Lib.itoa z)∧z=sgn (Lib.hasPrefix (Lib.itoa z) [45]) (Bi.decVal (Lib.trimPrefix (Lib.itoa z) [45])):=by
 obtain ⟨neg,t,h1,h2,h3,h4,h5⟩:=Bi.itoa_parts h;have h5':sgn neg (Bi.decVal t)=z:=h5;unfold GoodT;rw [h2,h3,h5'];exact ⟨⟨h4.2.2.1,h4.1,h4.2.1,rfl⟩,rfl⟩
theorem itoa_one (n:Nat) (h:n < 10):Lib.itoa (n:Int)=[UInt8.ofNat (48 + n)]:=by
 rw [itoa_nat,Lib.decDigits_one h]
theorem Box4.putOther {w:World} {n m:Nat} {x0 x1 x2 x3 y0 y1 y2 y3:Value} (h:Box4 w n x0 x1 x2 x3) (hne:n ≠ m):Box4 ((((w.setCell ⟨m,0,none⟩ y0).setCell ⟨m,1,none⟩ y1).setCell ⟨m,2,none⟩ y2).setCell ⟨m,3,none⟩ y3) n x0 x1 x2 x3:=by
 obtain ⟨h0,h1,h2,h3,f0,f1,f2,f3⟩:=h;exact ⟨by rw [cell_other _ hne,cell_other _ hne,cell_other _ hne,cell_other _ hne]; exact h0,by rw [cell_other _ hne,cell_other _ hne,cell_other _ hne,cell_other _ hne]; exact h1,
  by rw [cell_other _ hne,cell_other _ hne,cell_other _ hne,cell_other _ hne]; exact h2,by rw [cell_other _ hne,cell_other _ hne,cell_other _ hne,cell_other _ hne]; exact h3,
  by simp [go_sem,f0],by simp [go_sem,f1],by simp [go_sem,f2],by simp [go_sem,f3]⟩
structure Stay4 (R:World→Value→Prop):Prop where
 mono:∀ {W W':World} {v:Value},R W v→Below W.heap.size W W'→R W' v
 put:∀ {W:World} {n:Nat} {v x0 x1 x2 x3:Value},R W v→Box4 W n (.bool false) (.slice none 0 0) (.bool false) (.slice none 0 0)→R ((((W.setCell ⟨n,0,none⟩ x0).setCell ⟨n,1,none⟩ x1).setCell ⟨n,2,none⟩ x2).setCell ⟨n,3,none⟩ x3) v
def Slot4 (W:World) (base:Nat) (R:World→Value→Prop) (st:Prop) (p:Value):Prop :=
 ∃ b,p=.pointer (some ⟨b,0,none⟩)∧base≤b∧b < W.heap.size∧(st→∃ x0 x1 x2 x3,Box4 W b x0 x1 x2 x3∧R W (.agg #[x0,x1,x2,x3]))∧(¬ st→Box4 W b (.bool false) (.slice none 0 0) (.bool false) (.slice none 0 0))
theorem Slot4.mono {W W':World} {base:Nat} {R:World→Value→Prop} {st:Prop} {p:Value} (hR:Stay4 R) (h:Slot4 W base R st p) (hb:Below W.heap.size W W'):Slot4 W' base R st p:=by
 obtain ⟨b,e,h1,h2,h3,h4⟩:=h;exact ⟨b,e,h1,Nat.lt_of_lt_of_le h2 hb.size,fun s => by obtain ⟨x0,x1,x2,x3,B,hr⟩:=h3 s; exact ⟨x0,x1,x2,x3,B.mono hb,hR.mono hr hb⟩,fun s => (h4 s).mono hb⟩
theorem Slot4.congr {W:World} {base:Nat} {R:World→Value→Prop} {st st':Prop} {p:Value} (h:Slot4 W base R st p) (e:st↔st'):Slot4 W base R st' p:=by
 have:st=st':=propext e;rw [← this]; exact h
theorem Slot4.new {base:Nat} {R:World→Value→Prop} {st:Prop} (W:World) (hn:¬ st) (t:TypeId) (hB:base≤W.heap.size):Slot4 (W.alloc (.cells #[.bool false,.slice none 0 0,.bool false,.slice none 0 0] t)) base R st (.pointer (some ⟨W.heap.size,0,none⟩)) :=
 ⟨_,rfl,hB,by simp,fun s => absurd s hn,fun _ => Box4.new W _ _ _ _ t⟩
theorem Slot4.open {W:World} {base:Nat} {R:World→Value→Prop} {st:Prop} {p:Value} (h:Slot4 W base R st p) (hn:¬ st):∃ b,p=.pointer (some ⟨b,0,none⟩)∧base≤b∧b < W.heap.size∧Box4 W b (.bool false) (.slice none 0 0) (.bool false) (.slice none 0 0):=by
 obtain ⟨b,e,h1,h2,_,h4⟩:=h;exact ⟨b,e,h1,h2,h4 hn⟩
theorem Slot4.stored {W:World} {base m:Nat} {R:World→Value→Prop} {st':Prop} {x0 x1 x2 x3:Value} (hR:Stay4 R) (h1:base≤m) (hB:Box4 W m (.bool false) (.slice none 0 0) (.bool false) (.slice none 0 0)) (hs:st') (hr:R W (.agg #[x0,x1,x2,x3])) :
  Slot4 ((((W.setCell ⟨m,0,none⟩ x0).setCell ⟨m,1,none⟩ x1).setCell ⟨m,2,none⟩ x2).setCell ⟨m,3,none⟩ x3) base R st' (.pointer (some ⟨m,0,none⟩)) :=
 ⟨m,rfl,h1,by simpa using hB.lt,fun _ => ⟨x0,x1,x2,x3,hB.set4N x0 x1 x2 x3,hR.put hr hB⟩,fun s => absurd hs s⟩
theorem RatV.put4N {W:World} {n:Nat} {v:Value} {r:Rat} (h:RatV W v r) (hB:Box4 W n (.bool false) (.slice none 0 0) (.bool false) (.slice none 0 0)) (x0 x1 x2 x3:Value):RatV ((((W.setCell ⟨n,0,none⟩ x0).setCell ⟨n,1,none⟩ x1).setCell ⟨n,2,none⟩ x2).setCell ⟨n,3,none⟩ x3) v r:=by
 obtain ⟨n1,a1,l1,c1,n2,a2,l2,c2,e,h1,h2⟩:=h;exact ⟨n1,a1,l1,c1,n2,a2,l2,c2,e,h1.put4N hB _ _ _ _,h2.put4N hB _ _ _ _⟩
def SomeQ (W:World) (v:Value):Prop:=∃ r,RatV W v r
theorem SomeQ.parts {W:World} {v:Value} (h:SomeQ W v):∃ (ng:Bool) (ao:Option Addr) (n cap:Nat) (ng2:Bool) (ao2:Option Addr) (n2 cap2:Nat),v=.agg #[.bool ng,.slice ao n cap,.bool ng2,.slice ao2 n2 cap2]:=by
 obtain ⟨r,h⟩:=h; exact h.parts
theorem DraftV.put2B {w:World} {n c d:Nat} {b:Bool} {s:Option Addr} {v:Value} (h:DraftV w v) (hB:Box w n (.bool b) (.slice s c d)) (x y:Value):DraftV ((w.setCell ⟨n,0,none⟩ x).setCell ⟨n,1,none⟩ y) v:=by
 obtain ⟨neg,ao,l,cap,e,h1,h2,h3⟩:=h;exact ⟨neg,ao,l,cap,e,h1,h2.put2 hB.c0 hB.c1 x y,h3⟩
theorem Slot4.at {W:World} {base:Nat} {R:World→Value→Prop} {st:Prop} {p:Value} (h:Slot4 W base R st p) (hs:st) (hV:∀ v,R W v→SomeQ W v) :
  ∃ (g:Nat) (n1:Bool) (a1:Option Addr) (l1 c1:Nat) (n2:Bool) (a2:Option Addr) (l2 c2:Nat),p=.pointer (some ⟨g,0,none⟩)∧base≤g∧Box4 W g (.bool n1) (.slice a1 l1 c1) (.bool n2) (.slice a2 l2 c2)∧R W (.agg #[.bool n1,.slice a1 l1 c1,.bool n2,.slice a2 l2 c2]):=by
 obtain ⟨b,e,h1,_,h3,_⟩:=h;obtain ⟨x0,x1,x2,x3,B,hr⟩:=h3 hs;obtain ⟨ng,ao,n,cap,ng2,ao2,n2,cap2,e2⟩:=(hV _ hr).parts;simp only [Value.agg.injEq,Array.mk.injEq,List.cons.injEq,and_true] at e2;obtain ⟨rfl,rfl,rfl,rfl⟩:=e2;exact ⟨b,ng,ao,n,cap,ng2,ao2,n2,cap2,e,h1,B,hr⟩
abbrev Qo:=Option Rat
def QV (w:World) (v:Value):Option Rat→Prop
 | some r => RatV w v r
 | none => VQ w v false
theorem QV.mono {w w':World} {v:Value} {o:Option Rat} (h:QV w v o) (hb:Below w.heap.size w w'):QV w' v o:=by
 cases o
 ·exact VQ.mono h hb
 ·exact RatV.mono h hb
theorem QV.parts {w:World} {v:Value} {o:Option Rat} (h:QV w v o):∃ (ng:Bool) (ao:Option Addr) (n cap:Nat) (ng2:Bool) (ao2:Option Addr) (n2 cap2:Nat),v=.agg #[.bool ng,.slice ao n cap,.bool ng2,.slice ao2 n2 cap2]:=by
 cases o
 ·exact VQ.parts h
 ·exact RatV.parts h
theorem QV.vq {w:World} {v:Value} {o:Option Rat} (h:QV w v o):VQ w v o.isSome:=by
 cases o
 ·exact h
 ·exact RatV.vq h
structure Four (w:World) (b o:Nat) (x0 x1 x2 x3:Value):Prop where
 c0:w.cell? ⟨b,o,none⟩=some x0
 c1:w.cell? ⟨b,o + 1,none⟩=some x1
 c2:w.cell? ⟨b,o + 2,none⟩=some x2
 c3:w.cell? ⟨b,o + 3,none⟩=some x3
 f0:True
 f1:True
 f2:True
 f3:True
theorem Four.lt {w:World} {b o:Nat} {x0 x1 x2 x3:Value} (h:Four w b o x0 x1 x2 x3):b < w.heap.size:=cell_lt h.c0
theorem Four.mono {w w':World} {b o:Nat} {x0 x1 x2 x3:Value} (h:Four w b o x0 x1 x2 x3) (hb:Below w.heap.size w w'):Four w' b o x0 x1 x2 x3 :=
 ⟨(hb.cell (p:=⟨b,o,none⟩) h.lt).trans h.c0,(hb.cell (p:=⟨b,o + 1,none⟩) h.lt).trans h.c1,(hb.cell (p:=⟨b,o + 2,none⟩) h.lt).trans h.c2,(hb.cell (p:=⟨b,o + 3,none⟩) h.lt).trans h.c3,trivial,trivial,trivial,trivial⟩
def UQ (w:World) (ao:Option Addr) (l:List (Option Rat)):Prop :=
 ∀ i o,l[i]?=some o→∃ (b off:Nat) (n1:Bool) (a1:Option Addr) (l1 c1:Nat) (n2:Bool) (a2:Option Addr) (l2 c2:Nat),ao=some ⟨b,off,none⟩ ∧
  Four w b (off + i * 4) (.bool n1) (.slice a1 l1 c1) (.bool n2) (.slice a2 l2 c2) ∧
  QV w (.agg #[.bool n1,.slice a1 l1 c1,.bool n2,.slice a2 l2 c2]) o
theorem UQ.mono {w w':World} {ao:Option Addr} {l:List (Option Rat)} (h:UQ w ao l) (hb:Below w.heap.size w w'):UQ w' ao l:=by
 intro i o hi;obtain ⟨b,off,n1,a1,l1,c1,n2,a2,l2,c2,e,h0,hq⟩:=h i o hi;exact ⟨b,off,n1,a1,l1,c1,n2,a2,l2,c2,e,h0.mono hb,hq.mono hb⟩
theorem UQ.nil (w:World) (ao:Option Addr):UQ w ao []:=fun i o h => by simp at h
def DotS:Rat→List Rat→List Rat→Option Rat→Prop
 | acc,a :: l,b :: m,o => (MulS a b∧AddS acc (a * b)∧DotS (acc + a * b) l m o)∨(¬ (MulS a b∧AddS acc (a * b))∧o=none)
 | acc,_,_,o => o=some acc
theorem dotS_ex:∀ (la lb:List Rat) (acc:Rat),∃ o,DotS acc la lb o
 | [],_,acc => ⟨some acc,rfl⟩
 | _ :: _,[],acc => ⟨some acc,rfl⟩
 | a :: l,b :: m,acc => by
  by_cases h:MulS a b∧AddS acc (a * b)
  ·obtain ⟨o,ho⟩:=dotS_ex l m (acc + a * b);exact ⟨o,.inl ⟨h.1,h.2,ho⟩⟩
  ·exact ⟨none,.inr ⟨h,rfl⟩⟩
def DotP (o:Option Rat) (w':World) (e:Ending):Prop :=
 match o with
 | some r => GotQ w' r e
 | none => NoQ 3 e
theorem DotP.got {w':World} {e:Ending} {r:Rat} {o:Option Rat} (ho:Hid (o=some r)) (h:GotQ w' r e):DotP o w' e:=by rw [ho.out]; exact h
theorem DotP.no {w':World} {e:Ending} {o:Option Rat} (ho:Hid (o=none)) (h:NoQ 3 e):DotP o w' e:=by rw [ho.out]; exact h
theorem drop_at {α:Type} {l:List α} {k:Nat} {a:α} (h:l[k]?=some a):l.drop k=a :: l.drop (k + 1):=by
 obtain ⟨hk,rfl⟩:=List.getElem?_eq_some_iff.1 h;exact List.drop_eq_getElem_cons hk
theorem Box4.put4I {w:World} {n:Nat} {x0 x1 x2 x3:Value} (h:Box4 w n x0 x1 x2 x3) (y0 y1 y2 y3:Value):Box4 ((((w.setCell ⟨n,0,none⟩ y0).setCell ⟨n,1,none⟩ y1).setCell ⟨n,2,none⟩ y2).setCell ⟨n,3,none⟩ y3) n y0 y1 y2 y3:=h.set4Z y0 y1 y2 y3
def IsV4 (u:Value) (_:World) (v:Value):Prop:=v=u
theorem IsV4.parts {W:World} {v:Value} (h:IsV4 (.agg #[.bool false,.slice none 0 0,.bool false,.slice none 0 0]) W v):∃ (ng:Bool) (ao:Option Addr) (n cap:Nat) (ng2:Bool) (ao2:Option Addr) (n2 cap2:Nat),v=.agg #[.bool ng,.slice ao n cap,.bool ng2,.slice ao2 n2 cap2]:=⟨_,_,_,_,_,_,_,_,h⟩
theorem limbs_inj {a b:Nat} (h:Bi.limbs a=Bi.limbs b):a=b:=by
 have:=congrArg Bi.val h
 rwa [Bi.val_limbs,Bi.val_limbs] at this
theorem vq_of {w:World} {ng1:Bool} {ao1:Option Addr} {n1 cap1:Nat} {ng2:Bool} {ao2:Option Addr} {n2 cap2:Nat} {z q:Int} (b:Bool) (h1:IntV w (.agg #[.bool ng1,.slice ao1 n1 cap1]) z) (h2:IntV w (.agg #[.bool ng2,.slice ao2 n2 cap2]) q) (hb:b=true↔Rq.VP z q) :
  VQ w (.agg #[.bool ng1,.slice ao1 n1 cap1,.bool ng2,.slice ao2 n2 cap2]) b:=by
 obtain ⟨m1,b1,L1,d1,e1,Hn1,HL1,HB1,hk1,hl1,hU1⟩:=h1;obtain ⟨m2,b2,L2,d2,e2,Hn2,HL2,HB2,hk2,hl2,hU2⟩:=h2;simp only [Value.agg.injEq,Array.mk.injEq,List.cons.injEq,Value.bool.injEq,Value.slice.injEq,and_true] at e1 e2;obtain ⟨rfl,rfl,rfl,rfl⟩:=e1;obtain ⟨rfl,rfl,rfl,rfl⟩:=e2;refine ⟨ng1,ng2,L1,L2,ao1,ao2,cap1,cap2,rfl,by omega,by omega,hk1,hk2,hU1,hU2,hii (hb.trans ⟨fun h => validR_of Hn1.out HL1.out HB1.out Hn2.out HL2.out HB2.out h,?_⟩)⟩;rintro ⟨r,x1,x2,_,x4,x5,_⟩;have a1:=limbs_inj (x2.symm.trans HL1.out);have a2:=limbs_inj (x5.symm.trans HL2.out);have a3:decide (r.num < 0)=decide (z < 0):=x1.symm.trans Hn1.out;have a4:decide (q < 0)=false:=Hn2.out.symm.trans x4;have a5:(r.num < 0↔z < 0):=by simpa using a3
 have a6:¬ q < 0:=by simpa using a4
 have ez:r.num=z:=by omega
 have eq:(r.den:Int)=q:=by omega
 rw [← ez,← eq];exact Rq.vp_rat r
def SplitT (s n d:List UInt8):Prop:=((47:UInt8) ∉ s∧n=s∧d=[49])∨(s=n ++ 47 :: d∧(47:UInt8) ∉ n)
theorem split_at {s n d:List UInt8} {i:Nat} (h:SplitT s n d) (hi:i < s.length) (h1:s[i]=47) (h2:(47:UInt8) ∉ s.take i):n=s.take i∧d=s.drop (i + 1):=by
 have e:s=s.take i ++ 47 :: s.drop (i + 1):=by
  rw [← h1,← List.drop_eq_getElem_cons hi,List.take_append_drop]
 rcases h with ⟨h3,_,_⟩ | ⟨h3,h4⟩
 ·exact absurd (by rw [← h1]; exact List.getElem_mem hi) h3
 ·obtain ⟨a,b⟩:=Rq.split_inj (h3.symm.trans e) h4 h2;exact ⟨a,b⟩
theorem split_end {s n d:List UInt8} (h:SplitT s n d) (h2:(47:UInt8) ∉ s):n=s∧d=[49]:=by
 rcases h with ⟨_,h3,h4⟩ | ⟨h3,_⟩
 ·exact ⟨h3,h4⟩
 ·exact absurd (by rw [h3]; simp) h2
theorem take_none {s:List UInt8} {i:Nat} (hi:i < s.length) (h1:s[i] ≠ 47) (h2:(47:UInt8) ∉ s.take i):(47:UInt8) ∉ s.take (i + 1):=by
 rw [List.take_succ_eq_append_getElem hi];simp only [List.mem_append,List.mem_singleton,not_or];exact ⟨h2,fun h => h1 h.symm⟩
def RCase (s n d:List UInt8) (o:Option Rat):Prop :=
 (o=none∧Hid (¬ GoodT n)∧Hid (GoodT d)∧∃ q:Int,Hid (q=sgn (Lib.hasPrefix d [45]) (Bi.decVal (Lib.trimPrefix d [45])))) ∨
 (o=none∧Hid (¬ GoodT n)∧Hid (¬ GoodT d)) ∨
 (o=none∧Hid (GoodT n)∧(∃ z:Int,Hid (z=sgn (Lib.hasPrefix n [45]) (Bi.decVal (Lib.trimPrefix n [45]))))∧Hid (¬ GoodT d)) ∨
 (o=none∧Hid (GoodT n)∧Hid (GoodT d)∧∃ z q:Int,Hid (z=sgn (Lib.hasPrefix n [45]) (Bi.decVal (Lib.trimPrefix n [45])))∧Hid (q=sgn (Lib.hasPrefix d [45]) (Bi.decVal (Lib.trimPrefix d [45])))∧Hid (¬ Rq.VP z q)) ∨
 (o=none∧Hid (GoodT n)∧Hid (GoodT d)∧∃ (z q:Int) (r:Rat),Hid (z=sgn (Lib.hasPrefix n [45]) (Bi.decVal (Lib.trimPrefix n [45])))∧Hid (q=sgn (Lib.hasPrefix d [45]) (Bi.decVal (Lib.trimPrefix d [45])))∧Hid (r.num=z)∧Hid ((r.den:Int)=q)∧Hid (Rq.textQ r ≠ s)) ∨
 (Hid (GoodT n)∧Hid (GoodT d)∧∃ (z q:Int) (r:Rat),o=some r∧Hid (z=sgn (Lib.hasPrefix n [45]) (Bi.decVal (Lib.trimPrefix n [45])))∧Hid (q=sgn (Lib.hasPrefix d [45]) (Bi.decVal (Lib.trimPrefix d [45])))∧Hid (r.num=z)∧Hid ((r.den:Int)=q)∧Hid (Rq.textQ r=s))
theorem bytes_eq {a b:ByteArray} (h:a=b):Value.string a=.string b:=by rw [h]
theorem ext_take (s:List UInt8) (i:Nat):(⟨s.toArray⟩:ByteArray).extract 0 i=⟨(s.take i).toArray⟩:=by
 apply ByteArray.ext
 simp only [ByteArray.data_extract]
 apply Array.toList_inj.1
 simp
theorem ext_drop (s:List UInt8) (i:Nat):(⟨s.toArray⟩:ByteArray).extract i s.length=⟨(s.drop i).toArray⟩:=by
 apply ByteArray.ext
 simp only [ByteArray.data_extract]
 apply Array.toList_inj.1
 simp;exact List.take_of_length_le (by simp)
theorem rFormatQ_eq (v:Value) (r:Rat) (t:List UInt8) (w:World) (ht:Hid (Rq.textQ r=t)) (hr:RatV w v r) (hE:Env w) :
  Calls Tryz.prog 21 #[v] w fun e w' => e=.returned (.tuple #[.string ⟨t.toArray⟩,.int .i64 0])∧Below w.heap.size w w':=by
 rw [← ht.out]; exact rFormatQ v r w hr hE
theorem rParseQ_case (s n d:List UInt8) (o:Option Rat) (w:World) (hs:s.length≤1000000) (hn:n.length≤1000000) (hd:d.length≤1000000) (hsplit:Hid (SplitT s n d)) (hp:RCase s n d o) (hE:Env w) :
  Calls Tryz.prog 28 #[.string ⟨s.toArray⟩] w fun e w' => PRes o w' e∧Below w.heap.size w w':=by
 have hbw:=Below.refl w.heap.size w;go_enter Tryz.func28,Tryz.ntmps28;go_upto_region 1 with fail;have X2:=Box4.new w (.bool false) (.slice none 0 0) (.bool false) (.slice none 0 0) 26;have hb:=bA w (.cells #[.bool false,.slice none 0 0,.bool false,.slice none 0 0] 26);generalize w.alloc (.cells #[.bool false,.slice none 0 0,.bool false,.slice none 0 0] 26)=v1 at *;have hE:=hE.mono hb;have hbw:=bu hbw hb;clear hb;go_upto_block 0 with fail;obtain ⟨wy,rfl⟩:∃ wy:World,wy=v1:=⟨_,rfl⟩;go_cut [4,5] (fun s4 s5 wc => s4=.string ⟨n.toArray⟩∧s5=.string ⟨d.toArray⟩∧Below wy.heap.size wy wc)
 case first =>
  clear X2 hE hbw;go_wp2_with fail;go_loopg [4,5,6] s.length (fun gk s4 s5 s6 wr => ∃ i:Nat,s4=.string ⟨s.toArray⟩∧s5=.string ⟨#[49]⟩∧i≤s.length∧gk=s.length - i∧s6=.int .i64 i∧Hid ((47:UInt8) ∉ s.take i)∧Below wy.heap.size wy wr)
  case atStart => exact ⟨0,rfl,rfl,by omega,by omega,rfl,hii (by simp),br⟩
  case round =>
   obtain ⟨i,rfl,rfl,hi,rfl,rfl,HI,hbr⟩:=hrel
   by_cases hlt:i < s.length
   ·obtain ⟨x,hx⟩:∃ x,s[i]=x:=⟨_,rfl⟩;have hidx:∀ h:i < (⟨s.toArray⟩:ByteArray).size,(⟨s.toArray⟩:ByteArray)[i]'h=x:=fun h => hx
    have HX:=hii hx;clear hx
    by_cases h47:x=47
    ·have hsp:=split_at hsplit.out hlt (by rw [HX.out]; exact h47) HI.out;have HSP:=hii hsp;clear hsp;have hxb:((x.toNat:Int) == 47)=true:=by rw [h47]; rfl
     have ha:(0:Int)≤(i:Int) + 1:=by omega
     have hbb:(i:Int) + 1≤(s.length:Int):=by omega
     have hw1:IntKind.i64.wrap ((i:Int) + 1)=(i:Int) + 1:=IntWalk.i64_in _ (by omega);have hn1:((i:Int) + 1).toNat=i + 1:=by omega
     clear h47;go_wp2_with fail;go_quiet (fail);clear hw1 hn1 hidx;go_wp2_with fail;go_meet;exact ⟨bytes_eq (by rw [HSP.out.1,ext_take]),bytes_eq (by rw [HSP.out.2,ext_drop]),below_drewN hbr _⟩
    ·have hxb:((x.toNat:Int) == 47)=false:=by
      rw [beq_eq_false_iff_ne];intro h;exact h47 (UInt8.toNat_inj.1 (by have:(47:UInt8).toNat=47:=rfl; omega))
     have HN:=take_none hlt (by rw [HX.out]; exact h47) HI.out;have HN:=hii HN;clear h47;go_wp2;go_roundg (s.length - (i + 1))
     case measure => omega
     case rel => exact ⟨i + 1,rfl,rfl,by omega,rfl,by go_num,HN,hbr⟩
   ·obtain rfl:i=s.length:=by omega
    have hsp:=split_end hsplit.out (by have:=HI.out; rwa [List.take_length] at this);have HSP:=hii hsp;clear hsp;go_wp2_with fail;go_meet;exact ⟨by rw [HSP.out.1],by rw [HSP.out.2],hbr⟩
 case rest =>
  obtain ⟨rfl,rfl,hb⟩:=hcut;have X2:=X2.mono hb;have hE:=hE.mono hb;have hbw:=bu hbw hb;clear hb;rcases hp with ⟨rfl,hg1,hg2,q,hz2⟩ | ⟨rfl,hg1,hg2⟩ | ⟨rfl,hg1,⟨z,hz1⟩,hg2⟩ | ⟨rfl,hg1,hg2,z,q,hz1,hz2,hv⟩ | ⟨rfl,hg1,hg2,z,q,r,hz1,hz2,hr1,hr2,ht⟩ | ⟨hg1,hg2,z,q,r,rfl,hz1,hz2,hr1,hr2,ht⟩
  ·go_wp2_with fail;(with_reducible refine (rParse_none n wc hn hg1).mono ?_);rintro e v2 ⟨rfl,hb⟩;have X2:=X2.mono hb;have hbw:=bu hbw hb;clear hb;go_upto_region 8 with fail;have lX7X2:=X2.lt;have X7:=Box.new v2 (.bool false) (.slice none 0 0) 24;have hb:=bA v2 (.cells #[.bool false,.slice none 0 0] 24);generalize v2.alloc (.cells #[.bool false,.slice none 0 0] 24)=v3 at *;have X2:=X2.mono hb;have hbw:=bu hbw hb;clear hb;go_wp2_with fail;(with_reducible refine (rParse_good d q hz2 v3 hd hg2).mono ?_);rintro e v4 ⟨⟨ng2,ao2,n2,cap2,rfl,HV2⟩,hb⟩;have X2:=X2.mono hb;have X7:=X7.mono hb;have hbw:=bu hbw hb;clear hb;go_upto_region 9 with fail;have lX9X2:=X2.lt;have lX9X7:=X7.lt;have X9:=Box.new v4 (.bool ng2) (.slice ao2 n2 cap2) 24;have hb:=bA v4 (.cells #[.bool ng2,.slice ao2 n2 cap2] 24);generalize v4.alloc (.cells #[.bool ng2,.slice ao2 n2 cap2] 24)=v5 at *;have X2:=X2.mono hb;have hbw:=bu hbw hb;clear hb;obtain ⟨x2a,x2b,x2c,x2d,_,_,_,_⟩:=id X2;go_wp2;refine bodyPost_ret (v:=.tuple #[.agg #[.bool false,.slice none 0 0,.bool false,.slice none 0 0],.int .i64 2]) (by simp [results,Tryz.results28,go_sem,x2a,x2b,x2c,x2d]) rfl ⟨rfl,Below.put4 hbw (by omega) (.bool false) (.slice none 0 0) (.bool false) (.slice none 0 0)⟩
  ·go_wp2_with fail;(with_reducible refine (rParse_none n wc hn hg1).mono ?_);rintro e v2 ⟨rfl,hb⟩;have X2:=X2.mono hb;have hbw:=bu hbw hb;clear hb;go_upto_region 8 with fail;have lX7X2:=X2.lt;have X7:=Box.new v2 (.bool false) (.slice none 0 0) 24;have hb:=bA v2 (.cells #[.bool false,.slice none 0 0] 24);generalize v2.alloc (.cells #[.bool false,.slice none 0 0] 24)=v3 at *;have X2:=X2.mono hb;have hbw:=bu hbw hb;clear hb;go_wp2_with fail;(with_reducible refine (rParse_none d v3 hd hg2).mono ?_);rintro e v4 ⟨rfl,hb⟩;have X2:=X2.mono hb;have X7:=X7.mono hb;have hbw:=bu hbw hb;clear hb;go_upto_region 9 with fail;have lX9X2:=X2.lt;have lX9X7:=X7.lt;have X9:=Box.new v4 (.bool false) (.slice none 0 0) 24;have hb:=bA v4 (.cells #[.bool false,.slice none 0 0] 24);generalize v4.alloc (.cells #[.bool false,.slice none 0 0] 24)=v5 at *;have X2:=X2.mono hb;have hbw:=bu hbw hb;clear hb;obtain ⟨x2a,x2b,x2c,x2d,_,_,_,_⟩:=id X2;go_wp2;refine bodyPost_ret (v:=.tuple #[.agg #[.bool false,.slice none 0 0,.bool false,.slice none 0 0],.int .i64 2]) (by simp [results,Tryz.results28,go_sem,x2a,x2b,x2c,x2d]) rfl ⟨rfl,Below.put4 hbw (by omega) (.bool false) (.slice none 0 0) (.bool false) (.slice none 0 0)⟩
  ·go_wp2_with fail;(with_reducible refine (rParse_good n z hz1 wc hn hg1).mono ?_);rintro e v2 ⟨⟨ng1,ao1,n1,cap1,rfl,HV1⟩,hb⟩;have X2:=X2.mono hb;have hbw:=bu hbw hb;clear hb;go_upto_region 8 with fail;have lX7X2:=X2.lt;have X7:=Box.new v2 (.bool ng1) (.slice ao1 n1 cap1) 24;have hb:=bA v2 (.cells #[.bool ng1,.slice ao1 n1 cap1] 24);generalize v2.alloc (.cells #[.bool ng1,.slice ao1 n1 cap1] 24)=v3 at *;have X2:=X2.mono hb;have hbw:=bu hbw hb;clear hb;go_wp2_with fail;(with_reducible refine (rParse_none d v3 hd hg2).mono ?_);rintro e v4 ⟨rfl,hb⟩;have X2:=X2.mono hb;have X7:=X7.mono hb;have hbw:=bu hbw hb;clear hb;go_upto_region 9 with fail;have lX9X2:=X2.lt;have lX9X7:=X7.lt;have X9:=Box.new v4 (.bool false) (.slice none 0 0) 24;have hb:=bA v4 (.cells #[.bool false,.slice none 0 0] 24);generalize v4.alloc (.cells #[.bool false,.slice none 0 0] 24)=v5 at *;have X2:=X2.mono hb;have hbw:=bu hbw hb;clear hb;obtain ⟨x2a,x2b,x2c,x2d,_,_,_,_⟩:=id X2;go_wp2;refine bodyPost_ret (v:=.tuple #[.agg #[.bool false,.slice none 0 0,.bool false,.slice none 0 0],.int .i64 2]) (by simp [results,Tryz.results28,go_sem,x2a,x2b,x2c,x2d]) rfl ⟨rfl,Below.put4 hbw (by omega) (.bool false) (.slice none 0 0) (.bool false) (.slice none 0 0)⟩
  ·go_wp2_with fail;(with_reducible refine (rParse_good n z hz1 wc hn hg1).mono ?_);rintro e v2 ⟨⟨ng1,ao1,n1,cap1,rfl,HV1⟩,hb⟩;have X2:=X2.mono hb;have hE:=hE.mono hb;have hbw:=bu hbw hb;clear hb;go_upto_region 8 with fail;have lX7X2:=X2.lt;have X7:=Box.new v2 (.bool ng1) (.slice ao1 n1 cap1) 24;have hb:=bA v2 (.cells #[.bool ng1,.slice ao1 n1 cap1] 24);generalize v2.alloc (.cells #[.bool ng1,.slice ao1 n1 cap1] 24)=v3 at *;have X2:=X2.mono hb;have HV1:=hii (HV1.out.mono hb);have hE:=hE.mono hb;have hbw:=bu hbw hb;clear hb;go_wp2_with fail;(with_reducible refine (rParse_good d q hz2 v3 hd hg2).mono ?_);rintro e v4 ⟨⟨ng2,ao2,n2,cap2,rfl,HV2⟩,hb⟩;have X2:=X2.mono hb;have HV1:=hii (HV1.out.mono hb);have X7:=X7.mono hb;have hE:=hE.mono hb;have hbw:=bu hbw hb;clear hb;go_upto_region 9 with fail;have lX9X2:=X2.lt;have lX9X7:=X7.lt;have X9:=Box.new v4 (.bool ng2) (.slice ao2 n2 cap2) 24;have hb:=bA v4 (.cells #[.bool ng2,.slice ao2 n2 cap2] 24);generalize v4.alloc (.cells #[.bool ng2,.slice ao2 n2 cap2] 24)=v5 at *;have X2:=X2.mono hb;have HV1:=hii (HV1.out.mono hb);have X7:=X7.mono hb;have HV2:=hii (HV2.out.mono hb);have hE:=hE.mono hb;have hbw:=bu hbw hb;clear hb;obtain ⟨x7a,x7b,_,_⟩:=id X7;obtain ⟨x9a,x9b,_,_⟩:=id X9;go_upto_region 12 with fail;clear x7a x7b x9a x9b;have lX8X2:=X2.lt;have lX8X7:=X7.lt;have lX8X9:=X9.lt;have X8:=Box4.new v5 (.bool ng1) (.slice ao1 n1 cap1) (.bool ng2) (.slice ao2 n2 cap2) 26;have hb:=bA v5 (.cells #[.bool ng1,.slice ao1 n1 cap1,.bool ng2,.slice ao2 n2 cap2] 26);generalize v5.alloc (.cells #[.bool ng1,.slice ao1 n1 cap1,.bool ng2,.slice ao2 n2 cap2] 26)=v6 at *;have X2:=X2.mono hb;have HV1:=hii (HV1.out.mono hb);have HV2:=hii (HV2.out.mono hb);have hE:=hE.mono hb;have hbw:=bu hbw hb;clear hb;obtain ⟨x8a,x8b,x8c,x8d,_,_,_,_⟩:=id X8;go_wp2_with fail;(with_reducible refine (rFormatQ_inv _ v6 (vq_of false HV1.out HV2.out (by simp [hv.out])) hE).mono ?_);rintro e v7 ⟨rfl,hb⟩;have X2:=X2.mono hb;have hbw:=bu hbw hb;clear hb;clear x8a x8b x8c x8d;obtain ⟨x2a,x2b,x2c,x2d,_,_,_,_⟩:=id X2;go_wp2;refine bodyPost_ret (v:=.tuple #[.agg #[.bool false,.slice none 0 0,.bool false,.slice none 0 0],.int .i64 2]) (by simp [results,Tryz.results28,go_sem,x2a,x2b,x2c,x2d]) rfl ⟨rfl,Below.put4 hbw (by omega) (.bool false) (.slice none 0 0) (.bool false) (.slice none 0 0)⟩
  ·go_wp2_with fail;(with_reducible refine (rParse_good n z hz1 wc hn hg1).mono ?_);rintro e v2 ⟨⟨ng1,ao1,n1,cap1,rfl,HV1⟩,hb⟩;have X2:=X2.mono hb;have hE:=hE.mono hb;have hbw:=bu hbw hb;clear hb;go_upto_region 8 with fail;have lX7X2:=X2.lt;have X7:=Box.new v2 (.bool ng1) (.slice ao1 n1 cap1) 24;have hb:=bA v2 (.cells #[.bool ng1,.slice ao1 n1 cap1] 24);generalize v2.alloc (.cells #[.bool ng1,.slice ao1 n1 cap1] 24)=v3 at *;have X2:=X2.mono hb;have HV1:=hii (HV1.out.mono hb);have hE:=hE.mono hb;have hbw:=bu hbw hb;clear hb;go_wp2_with fail;(with_reducible refine (rParse_good d q hz2 v3 hd hg2).mono ?_);rintro e v4 ⟨⟨ng2,ao2,n2,cap2,rfl,HV2⟩,hb⟩;have X2:=X2.mono hb;have HV1:=hii (HV1.out.mono hb);have X7:=X7.mono hb;have hE:=hE.mono hb;have hbw:=bu hbw hb;clear hb;go_upto_region 9 with fail;have lX9X2:=X2.lt;have lX9X7:=X7.lt;have X9:=Box.new v4 (.bool ng2) (.slice ao2 n2 cap2) 24;have hb:=bA v4 (.cells #[.bool ng2,.slice ao2 n2 cap2] 24);generalize v4.alloc (.cells #[.bool ng2,.slice ao2 n2 cap2] 24)=v5 at *;have X2:=X2.mono hb;have HV1:=hii (HV1.out.mono hb);have X7:=X7.mono hb;have HV2:=hii (HV2.out.mono hb);have hE:=hE.mono hb;have hbw:=bu hbw hb;clear hb;obtain ⟨x7a,x7b,_,_⟩:=id X7;obtain ⟨x9a,x9b,_,_⟩:=id X9;go_upto_region 12 with fail;clear x7a x7b x9a x9b;have lX8X2:=X2.lt;have lX8X7:=X7.lt;have lX8X9:=X9.lt;have X8:=Box4.new v5 (.bool ng1) (.slice ao1 n1 cap1) (.bool ng2) (.slice ao2 n2 cap2) 26;have hb:=bA v5 (.cells #[.bool ng1,.slice ao1 n1 cap1,.bool ng2,.slice ao2 n2 cap2] 26);generalize v5.alloc (.cells #[.bool ng1,.slice ao1 n1 cap1,.bool ng2,.slice ao2 n2 cap2] 26)=v6 at *;have X2:=X2.mono hb;have HV1:=hii (HV1.out.mono hb);have HV2:=hii (HV2.out.mono hb);have hE:=hE.mono hb;have hbw:=bu hbw hb;clear hb;rw [← hr1.out] at HV1;rw [← hr2.out] at HV2;obtain ⟨tx,htx⟩:∃ tx,tx=Rq.textQ r:=⟨_,rfl⟩;have HTX:=hii htx.symm;have hne:(tx == s)=false:=by rw [beq_eq_false_iff_ne,htx]; exact ht.out
   have hne2:(tx != s)=true:=by simp [bne,hne]
   clear htx;obtain ⟨x8a,x8b,x8c,x8d,_,_,_,_⟩:=id X8;go_wp2_with fail;(with_reducible refine (rFormatQ_eq _ r tx v6 HTX (RatV.mk' HV1 HV2) hE).mono ?_);rintro e v7 ⟨rfl,hb⟩;have X2:=X2.mono hb;have hbw:=bu hbw hb;clear hb;clear x8a x8b x8c x8d;obtain ⟨x2a,x2b,x2c,x2d,_,_,_,_⟩:=id X2;go_wp2;refine bodyPost_ret (v:=.tuple #[.agg #[.bool false,.slice none 0 0,.bool false,.slice none 0 0],.int .i64 2]) (by simp [results,Tryz.results28,go_sem,x2a,x2b,x2c,x2d]) rfl ⟨rfl,Below.put4 hbw (by omega) (.bool false) (.slice none 0 0) (.bool false) (.slice none 0 0)⟩
  ·go_wp2_with fail;(with_reducible refine (rParse_good n z hz1 wc hn hg1).mono ?_);rintro e v2 ⟨⟨ng1,ao1,n1,cap1,rfl,HV1⟩,hb⟩;have X2:=X2.mono hb;have hE:=hE.mono hb;have hbw:=bu hbw hb;clear hb;go_upto_region 8 with fail;have lX7X2:=X2.lt;have X7:=Box.new v2 (.bool ng1) (.slice ao1 n1 cap1) 24;have hb:=bA v2 (.cells #[.bool ng1,.slice ao1 n1 cap1] 24);generalize v2.alloc (.cells #[.bool ng1,.slice ao1 n1 cap1] 24)=v3 at *;have X2:=X2.mono hb;have HV1:=hii (HV1.out.mono hb);have hE:=hE.mono hb;have hbw:=bu hbw hb;clear hb;go_wp2_with fail;(with_reducible refine (rParse_good d q hz2 v3 hd hg2).mono ?_);rintro e v4 ⟨⟨ng2,ao2,n2,cap2,rfl,HV2⟩,hb⟩;have X2:=X2.mono hb;have HV1:=hii (HV1.out.mono hb);have X7:=X7.mono hb;have hE:=hE.mono hb;have hbw:=bu hbw hb;clear hb;go_upto_region 9 with fail;have lX9X2:=X2.lt;have lX9X7:=X7.lt;have X9:=Box.new v4 (.bool ng2) (.slice ao2 n2 cap2) 24;have hb:=bA v4 (.cells #[.bool ng2,.slice ao2 n2 cap2] 24);generalize v4.alloc (.cells #[.bool ng2,.slice ao2 n2 cap2] 24)=v5 at *;have X2:=X2.mono hb;have HV1:=hii (HV1.out.mono hb);have X7:=X7.mono hb;have HV2:=hii (HV2.out.mono hb);have hE:=hE.mono hb;have hbw:=bu hbw hb;clear hb;obtain ⟨x7a,x7b,_,_⟩:=id X7;obtain ⟨x9a,x9b,_,_⟩:=id X9;go_upto_region 12 with fail;clear x7a x7b x9a x9b;have lX8X2:=X2.lt;have lX8X7:=X7.lt;have lX8X9:=X9.lt;have X8:=Box4.new v5 (.bool ng1) (.slice ao1 n1 cap1) (.bool ng2) (.slice ao2 n2 cap2) 26;have hb:=bA v5 (.cells #[.bool ng1,.slice ao1 n1 cap1,.bool ng2,.slice ao2 n2 cap2] 26);generalize v5.alloc (.cells #[.bool ng1,.slice ao1 n1 cap1,.bool ng2,.slice ao2 n2 cap2] 26)=v6 at *;have X2:=X2.mono hb;have HV1:=hii (HV1.out.mono hb);have HV2:=hii (HV2.out.mono hb);have hE:=hE.mono hb;have hbw:=bu hbw hb;clear hb;rw [← hr1.out] at HV1;rw [← hr2.out] at HV2;obtain ⟨tx,htx⟩:∃ tx,tx=Rq.textQ r:=⟨_,rfl⟩;have HTX:=hii htx.symm;obtain rfl:tx=s:=htx.trans ht.out;clear htx;obtain ⟨x8a,x8b,x8c,x8d,_,_,_,_⟩:=id X8;go_wp2_with fail;(with_reducible refine (rFormatQ_eq _ r tx v6 HTX (RatV.mk' HV1 HV2) hE).mono ?_);rintro e v7 ⟨rfl,hb⟩;have X2:=X2.mono hb;have HV1:=hii (HV1.out.mono hb);have HV2:=hii (HV2.out.mono hb);have X8:=X8.mono hb;have hbw:=bu hbw hb;clear hb;clear x8a x8b x8c x8d;obtain ⟨x8a,x8b,x8c,x8d,_,_,_,_⟩:=id X8;obtain ⟨x2a,x2b,x2c,x2d,_,_,_,_⟩:=id X2;go_wp2;refine bodyPost_ret (v:=.tuple #[.agg #[.bool ng1,.slice ao1 n1 cap1,.bool ng2,.slice ao2 n2 cap2],.int .i64 0]) (by simp [results,Tryz.results28,go_sem,x2a,x2b,x2c,x2d]) rfl ⟨⟨ng1,ao1,n1,cap1,ng2,ao2,n2,cap2,rfl,hii (HV1.out.put4B X2 (.bool ng1) (.slice ao1 n1 cap1) (.bool ng2) (.slice ao2 n2 cap2)),hii (HV2.out.put4B X2 (.bool ng1) (.slice ao1 n1 cap1) (.bool ng2) (.slice ao2 n2 cap2))⟩,Below.put4 hbw (by omega) (.bool ng1) (.slice ao1 n1 cap1) (.bool ng2) (.slice ao2 n2 cap2)⟩
theorem good1:GoodT [49]∧(1:Int)=sgn (Lib.hasPrefix [49] [45]) (Bi.decVal (Lib.trimPrefix [49] [45])):=by
 have:=goodT_itoa (z:=1) (sm_of (by decide) (by decide))
 rwa [show ((1:Int))=((1:Nat):Int) from rfl,itoa_one 1 (by decide)] at this
theorem parse_both (s:List UInt8) (hs:s.length≤1000000):∃ o:Option Rat,
  (∀ w:World,Env w→MaxV w→Calls Tryz.prog 24 #[.string ⟨s.toArray⟩] w fun e w' => PRes o w' e∧Below w.heap.size w w') ∧
  (∀ w:World,Env w→Calls Tryz.prog 28 #[.string ⟨s.toArray⟩] w fun e w' => PRes o w' e∧Below w.heap.size w w'):=by
 rcases Rq.slash_cases s with h47 | ⟨n,d,rfl,h47⟩
 ·have hc:Hid (Lib.cut s [47]=(s,[],false)):=hii (Rq.cut_none h47);have hsp:Hid (SplitT s s [49]):=hii (.inl ⟨h47,rfl,rfl⟩)
  by_cases hg:GoodT s
  ·obtain ⟨z,hz⟩:∃ z,z=sgn (Lib.hasPrefix s [45]) (Bi.decVal (Lib.trimPrefix s [45])):=⟨_,rfl⟩;refine ⟨some (z:Rat),fun w hE hM => ParseQ_tail s s [] false z _ w hs hs (by simp) hc (hii hg) (hii hz) (.inl ⟨rfl,(z:Rat),rfl,hii rfl,hii rfl⟩) hE hM,
    fun w hE => rParseQ_case s s [49] _ w hs hs (by simp) hsp (.inr (.inr (.inr (.inr (.inr ⟨hii hg,hii good1.1,z,1,(z:Rat),rfl,hii hz,hii good1.2,hii rfl,hii rfl,hii ?_⟩))))) hE⟩
   rw [Rq.textQ_one rfl]
   show Lib.itoa z=s
   rw [hz]; exact hg.2.2.2
  ·exact ⟨none,fun w hE hM => ParseQ_bad1 s s [] false w hs hs hc (hii hg) hE hM,fun w hE => rParseQ_case s s [49] _ w hs hs (by simp) hsp (.inl ⟨rfl,hii hg,hii good1.1,1,hii good1.2⟩) hE⟩
 ·have hc:Hid (Lib.cut (n ++ 47 :: d) [47]=(n,d,true)):=hii (Rq.cut_split h47);have hsp:Hid (SplitT (n ++ 47 :: d) n d):=hii (.inr ⟨rfl,h47⟩);have hn:n.length≤1000000:=by simp at hs; omega
  have hd:d.length≤1000000:=by simp at hs; omega
  obtain ⟨z,hz⟩:∃ z,z=sgn (Lib.hasPrefix n [45]) (Bi.decVal (Lib.trimPrefix n [45])):=⟨_,rfl⟩;obtain ⟨q,hq⟩:∃ q,q=sgn (Lib.hasPrefix d [45]) (Bi.decVal (Lib.trimPrefix d [45])):=⟨_,rfl⟩
  by_cases hg:GoodT n
  ·by_cases hg2:GoodT d
   ·by_cases hq1:q≤1
    ·refine ⟨none,fun w hE hM => ParseQ_tail _ n d true z _ w hs hn hd hc (hii hg) (hii hz) (.inr (.inr (.inl ⟨rfl,rfl,hii hg2,q,hii hq,hii hq1⟩))) hE hM,?_⟩
     by_cases hv:Rq.VP z q
     ·obtain ⟨r,hr1,hr2⟩:=hv.rat;have hone:r.den=1:=by have:=hv.1; omega
      refine fun w hE => rParseQ_case _ n d _ w hs hn hd hsp (.inr (.inr (.inr (.inr (.inl ⟨rfl,hii hg,hii hg2,z,q,r,hii hz,hii hq,hii hr1,hii hr2,hii ?_⟩))))) hE
      rw [Rq.textQ_one hone,hr1,hz,hg.2.2.2];intro h;exact h47 (by rw [h]; simp)
     ·exact fun w hE => rParseQ_case _ n d _ w hs hn hd hsp (.inr (.inr (.inr (.inl ⟨rfl,hii hg,hii hg2,z,q,hii hz,hii hq,hii hv⟩)))) hE
    ·by_cases hgcd:Int.gcd z q=1
     ·obtain ⟨r,hr1,hr2⟩:=Rq.VP.rat (p:=z) (d:=q) ⟨by omega,hgcd⟩;refine ⟨some r,fun w hE hM => ParseQ_tail _ n d true z _ w hs hn hd hc (hii hg) (hii hz) (.inr (.inr (.inr (.inr ⟨rfl,hii hg2,q,r,rfl,hii hq,hii (by omega),hii hr1,hii hr2⟩)))) hE hM,
       fun w hE => rParseQ_case _ n d _ w hs hn hd hsp (.inr (.inr (.inr (.inr (.inr ⟨hii hg,hii hg2,z,q,r,rfl,hii hz,hii hq,hii hr1,hii hr2,hii ?_⟩))))) hE⟩
      rw [Rq.textQ_two (by omega),hr1,hr2,hz,hq,hg.2.2.2,hg2.2.2.2]
     ·exact ⟨none,fun w hE hM => ParseQ_tail _ n d true z _ w hs hn hd hc (hii hg) (hii hz) (.inr (.inr (.inr (.inl ⟨rfl,rfl,hii hg2,q,hii hq,hii ⟨by omega,hgcd⟩⟩)))) hE hM,
       fun w hE => rParseQ_case _ n d _ w hs hn hd hsp (.inr (.inr (.inr (.inl ⟨rfl,hii hg,hii hg2,z,q,hii hz,hii hq,hii fun h => hgcd h.2⟩)))) hE⟩
   ·exact ⟨none,fun w hE hM => ParseQ_tail _ n d true z _ w hs hn hd hc (hii hg) (hii hz) (.inr (.inl ⟨rfl,rfl,hii hg2⟩)) hE hM,
     fun w hE => rParseQ_case _ n d _ w hs hn hd hsp (.inr (.inr (.inl ⟨rfl,hii hg,⟨z,hii hz⟩,hii hg2⟩))) hE⟩
  ·refine ⟨none,fun w hE hM => ParseQ_bad1 _ n d true w hs hn hc (hii hg) hE hM,?_⟩
   by_cases hg2:GoodT d
   ·exact fun w hE => rParseQ_case _ n d _ w hs hn hd hsp (.inl ⟨rfl,hii hg,hii hg2,q,hii hq⟩) hE
   ·exact fun w hE => rParseQ_case _ n d _ w hs hn hd hsp (.inr (.inl ⟨rfl,hii hg,hii hg2⟩)) hE
def ResP (w':World) (k p d:Int) (e:Ending):Prop :=
 ∃ (n1:Bool) (a1:Option Addr) (l1 c1:Nat) (n2:Bool) (a2:Option Addr) (l2 c2:Nat),e=.returned (.tuple #[.agg #[.bool n1,.slice a1 l1 c1,.bool n2,.slice a2 l2 c2],.int .i64 k]) ∧
  Hid (IntV w' (.agg #[.bool n1,.slice a1 l1 c1]) p)∧Hid (IntV w' (.agg #[.bool n2,.slice a2 l2 c2]) d)
theorem PRes.parts {o:Option Rat}:∃ k p d:Int,∀ (w':World) (e:Ending),PRes o w' e→ResP w' k p d e:=by
 cases o with
 | none => exact ⟨2,0,0,fun w' e h => ⟨false,none,0,0,false,none,0,0,h,hii (IntV.zero _),hii (IntV.zero _)⟩⟩
 | some r => exact ⟨0,r.num,r.den,fun w' e h => h⟩
end Go.Proofs.YtaedmaifkfhpfaaGreatDoor
