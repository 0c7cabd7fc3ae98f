/-
  The statement DualTexts.
-/
import Derived.Test.YtaedmaifkfhpfaaGreatDoorDpD
import Derived.Test.YtaedmaifkfhpfaaGreatDoorDpA
set_option linter.unusedVariables false
set_option linter.unusedSimpArgs false
set_option maxRecDepth 100000
set_option maxHeartbeats 25600000
namespace Go.Proofs.YtaedmaifkfhpfaaGreatDoor
open Go.RowKit
theorem joinT_snoc (sep:List UInt8) (l:List (List UInt8)) (t:List UInt8) (h:l ≠ []):joinT sep (l ++ [t])=joinT sep l ++ sep ++ t:=by
 cases l with
 | nil => exact absurd rfl h
 | cons a r => simp [joinT]
theorem joinT_one (sep t:List UInt8):joinT sep ([] ++ [t])=t:=by simp [joinT]
theorem bytes_app (a b:List UInt8):(⟨a.toArray⟩:ByteArray) ++ ⟨b.toArray⟩=⟨(a ++ b).toArray⟩:=by
 apply ByteArray.ext
 simp
theorem rtexts14_any (l:List Qo) (aa:Option Addr) (ca:Nat) (w:World) (hl:l.length≤50) (ua:UQ w aa l) (hE:Env w) :
  Calls Tryz.prog 22 #[.slice aa l.length ca] w fun e w' => e=.returned (.tuple #[.string ⟨(txT l).toArray⟩,.int .i64 (txE l)])∧Below w.heap.size w w':=by
 obtain ⟨T,hT⟩:∃ T,T=txT l:=⟨_,rfl⟩;obtain ⟨K,hK⟩:∃ K,K=txE l:=⟨_,rfl⟩;rw [← hT,← hK];have HT:=hii hT;have HK:=hii hK;clear hT hK;have HSh:=hii ua.short;have hbw:=Below.refl w.heap.size w;go_enter Tryz.func22,Tryz.ntmps22;go_wp2_with fail;go_loopw [4,5] (fun s c wr => ∃ (k:Nat) (t:List UInt8),k≤l.length∧c=.int .i64 (k:Nat)∧s=.string ⟨t.toArray⟩∧Hid (t=joinT [32] ((l.take k).map textO))∧Hid (∀ x∈l.take k,x.isNone=false)∧Below w.heap.size w wr) (fun _ c _ => l.length - (intOf c).toNat)
 case atStart => exact ⟨0,[],Nat.zero_le _,rfl,rfl,hii rfl,hii (by simp),hbw⟩
 case round =>
  clear hbw;obtain ⟨k,t,hk,rfl,rfl,Ht,HN,hbw⟩:=hrel
  by_cases hlt:k < l.length
  ·obtain ⟨o,ho⟩:∃ x,l[k]?=some x:=⟨l[k],gE hlt⟩;obtain ⟨b1,off1,ngp,aop,np,capp,ngq,aoq,nq,capq,ea,FA,HVA⟩:=(ua.mono hbw) k o ho;have HM:=hii (map_take ho);have HTk:=hii (fun h => take_all ho HN.out h);have HO:=hii ho;have hEr:=hE.mono hbw;clear ho;subst ea;obtain ⟨c0,c1,c2,c3,_,_,_,_⟩:=id FA
   cases o with
   | none =>
    have HVA:VQ wr _ false:=HVA;go_wp2_with fail;(with_reducible refine (rFormatQ_inv _ wr HVA hEr).mono ?_);rintro e v2 ⟨rfl,hb⟩;have hbw:=bu hbw hb;clear hb c0 c1 c2 c3 FA;have hbad:=badQ_snoc HO.out rfl;have HT1:Hid (T=[]):=hii (by rw [HT.out]; unfold txT; rw [hbad]; rfl);have HK1:Hid (K=1):=hii (by rw [HK.out]; unfold txE; rw [hbad]; rfl);clear hbad;go_wp2;go_ret2;exact ⟨by rw [HT1.out,HK1.out]; rfl,hbw⟩
   | some r =>
    have HVA:RatV wr _ r:=HVA;go_wp2_with fail;(with_reducible refine (rFormatQ _ r wr HVA hEr).mono ?_);rintro e v2 ⟨rfl,hb⟩;have hbw:=bu hbw hb;clear hb c0 c1 c2 c3 FA;have hts:t.length≤40000:=by
     rw [Ht.out];have g1:=joinT_len [32] ((l.take k).map textO);have g2:=(show ShortT (l.take k) from fun o ho => HSh.out o (List.mem_of_mem_take ho)).sum;simp only [List.length_cons,List.length_nil,List.length_map,List.length_take] at g1 g2;omega
    have hqs:(Rq.textQ r).length≤700:=HSh.out (some r) (List.mem_of_getElem? HO.out)
    by_cases hk0:0 < k
    ·have Ht2:Hid (t ++ [32] ++ Rq.textQ r=joinT [32] ((l.take (k + 1)).map textO)):=hii (by
      rw [HM.out,joinT_snoc _ _ _ (by intro e; have:=congrArg List.length e; rw [List.length_map,List.length_take,List.length_nil] at this; omega),← Ht.out]; rfl)
     have ea1:=bytes_app t [32];have ea2:(⟨(t ++ [32]).toArray⟩:ByteArray) ++ ⟨(Rq.textQ r).toArray⟩=⟨(t ++ 32 :: Rq.textQ r).toArray⟩:=by rw [bytes_app]; simp
     go_wp2_with fail
     all_goals try (exfalso; omega)
     go_roundw
     case rel => exact ⟨k + 1,_,by omega,by go_num,rfl,hii (by simpa using Ht2.out),hii (HTk.out rfl),hbw⟩
     case measure => simp [intOf]; omega
    ·have hkz:k=0:=by omega
     have Ht2:Hid (t ++ Rq.textQ r=joinT [32] ((l.take (k + 1)).map textO)):=hii (by
      rw [HM.out,Ht.out,hkz]; simp [joinT,textO])
     have ea2:=bytes_app t (Rq.textQ r);clear hkz;go_wp2_with fail
     all_goals try (exfalso; omega)
     go_roundw
     case rel => exact ⟨k + 1,_,by omega,by go_num,rfl,hii (by simpa using Ht2.out),hii (HTk.out rfl),hbw⟩
     case measure => simp [intOf]; omega
  ·have hke:k=l.length:=by omega
   have HN:Hid (∀ x∈l,x.isNone=false):=hii fun x hx => HN.out x (by rw [hke,List.take_length]; exact hx)
   have hbad:=badQ_of HN.out;have HT1:Hid (T=t):=hii (by rw [HT.out,Ht.out,hke,List.take_length]; unfold txT; rw [hbad]; rfl);have HK1:Hid (K=0):=hii (by rw [HK.out]; unfold txE; rw [hbad]; rfl);clear hbad hke;go_wp2;go_ret2;exact ⟨by rw [HT1.out,HK1.out]; rfl,hbw⟩
theorem rfmt_any (v:Value) (o:Qo) (w:World) (hv:QV w v o) (hE:Env w) :
  Calls Tryz.prog 21 #[v] w fun e w' => e=.returned (.tuple #[.string ⟨(textO o).toArray⟩,.int .i64 (if o.isNone then 1 else 0)])∧Below w.heap.size w w':=by
 cases o with
 | none => exact rFormatQ_inv v w hv hE
 | some r => exact rFormatQ v r w hv hE
theorem rfmt_eq (v:Value) (o:Qo) (t:List UInt8) (k:Int) (w:World) (ht:Hid (textO o=t)) (hk:Hid ((if o.isNone then 1 else 0:Int)=k)) (hv:QV w v o) (hE:Env w) :
  Calls Tryz.prog 21 #[v] w fun e w' => e=.returned (.tuple #[.string ⟨t.toArray⟩,.int .i64 k])∧Below w.heap.size w w':=by
 rw [← ht.out,← hk.out]; exact rfmt_any v o w hv hE
theorem rtexts14_eq (l:List Qo) (t:List UInt8) (k:Nat) (aa:Option Addr) (ca:Nat) (w:World) (ht:Hid (txT l=t)) (hk:Hid (txE l=k)) (hl:l.length≤50) (ua:UQ w aa l) (hE:Env w) :
  Calls Tryz.prog 22 #[.slice aa l.length ca] w fun e w' => e=.returned (.tuple #[.string ⟨t.toArray⟩,.int .i64 k])∧Below w.heap.size w w':=by
 rw [← ht.out,← hk.out]; exact rtexts14_any l aa ca w hl ua hE
theorem qv_short {w:World} {u:Value} {v:Qo} (h:QV w u v):ShortT [v]:=by
 intro o ho;simp only [List.mem_cons,List.not_mem_nil,or_false] at ho;subst ho
 cases o with
 | none => simp [textO]
 | some r => exact Rq.textQ_len (RatV.sm (h:RatV _ _ r)).1 (RatV.sm (h:RatV _ _ r)).2
theorem fm_bad {v:Qo} {x y:List Qo} (h:v.isNone=true∨badQ x=true∨badQ y=true):fmT v x y=[]∧fmE v x y=1:=by
 have e:[[v],x,y].any badQ=true:=by
  rw [List.any_eq_true];rcases h with h | h | h
  ·exact ⟨[v],by simp,by simp [badQ,h]⟩
  ·exact ⟨x,by simp,h⟩
  ·exact ⟨y,by simp,h⟩
 unfold fmT fmE;rw [if_pos e,if_pos e];exact ⟨rfl,rfl⟩
theorem fm_good {v:Qo} {x y:List Qo} (h0:v.isNone=false) (h1:badQ x=false) (h2:badQ y=false):fmT v x y=textO v ++ [59,32] ++ txT x ++ [59,32] ++ txT y∧fmE v x y=0:=by
 have e:¬ [[v],x,y].any badQ=true:=by
  rw [List.any_eq_true];rintro ⟨l,hl,hb⟩;simp only [List.mem_cons,List.not_mem_nil,or_false] at hl;rcases hl with rfl | rfl | rfl
  ·simp [badQ,h0] at hb
  ·rw [h1] at hb; cases hb
  ·rw [h2] at hb; cases hb
 unfold fmT fmE;rw [if_neg e,if_neg e];refine ⟨?_,rfl⟩;have ev:txT [v]=textO v:=by
  unfold txT;rw [if_neg (by simp [badQ,h0])];simp [joinT]
 simp [joinT,ev]
theorem rFormat14_any (v:Qo) (x y:List Qo) (vo:Value) (w:World) (hx:x.length≤30) (hy:y.length≤30) (ho:OptV w vo v x y) (hE:Env w) :
  Calls Tryz.prog 7 #[vo] w fun e w' => e=.returned (.tuple #[.string ⟨(fmT v x y).toArray⟩,.int .i64 (fmE v x y)])∧Below w.heap.size w w':=by
 obtain ⟨T,hT⟩:∃ T,T=fmT v x y:=⟨_,rfl⟩;obtain ⟨K,hK⟩:∃ K,K=fmE v x y:=⟨_,rfl⟩;rw [← hT,← hK];have HT:=hii hT;have HK:=hii hK;clear hT hK;obtain ⟨ng1,ao1,n1,cap1,nh1,ap1,m1,caq1,ax,cx,ay,cy,rfl,hv,ux,uy⟩:=ho;have Hlen:Hid (T.length≤65536):=hii (by
  rw [HT.out]
  cases hb:[[v],x,y].any badQ with
  | true => unfold fmT; rw [if_pos hb]; simp
  | false => have:=fmT_len (qv_short hv) ux.short uy.short hx hy; unfold fmT; rw [if_neg (by rw [hb]; decide)]; omega)
 obtain ⟨tv,htv⟩:∃ t,textO v=t:=⟨_,rfl⟩;obtain ⟨tx,htx⟩:∃ t,txT x=t:=⟨_,rfl⟩;obtain ⟨ty,hty⟩:∃ t,txT y=t:=⟨_,rfl⟩;obtain ⟨kv,hkv⟩:∃ k:Int,(if v.isNone then 1 else 0:Int)=k:=⟨_,rfl⟩;obtain ⟨kx,hkx⟩:∃ k:Nat,txE x=k:=⟨_,rfl⟩;obtain ⟨ky,hky⟩:∃ k:Nat,txE y=k:=⟨_,rfl⟩;have Htv:=hii htv;have Htx:=hii htx;have Hty:=hii hty;have Hkv:=hii hkv;have Hkx:=hii hkx;have Hky:=hii hky;clear htv htx hty hkv hkx hky;go_enter Tryz.func7,Tryz.ntmps7;go_upto_region 1 with fail;have hb:=bA w (.cells #[.bool ng1,.slice ao1 n1 cap1,.bool nh1,.slice ap1 m1 caq1,.slice ax x.length cx,.slice ay y.length cy] 30);have rO:Row (w.alloc (.cells #[.bool ng1,.slice ao1 n1 cap1,.bool nh1,.slice ap1 m1 caq1,.slice ax x.length cx,.slice ay y.length cy] 30)) w.heap.size 30 [.bool ng1,.slice ao1 n1 cap1,.bool nh1,.slice ap1 m1 caq1,.slice ax x.length cx,.slice ay y.length cy]:=heap_alloc_new _ _;obtain ⟨g,hg⟩:∃ g,g=w.heap.size:=⟨_,rfl⟩;rw [← hg] at rO ⊢;clear hg;generalize w.alloc (.cells #[.bool ng1,.slice ao1 n1 cap1,.bool nh1,.slice ap1 m1 caq1,.slice ax x.length cx,.slice ay y.length cy] 30)=w1 at *;have hv:=hv.mono hb;have ux:=ux.mono hb;have uy:=uy.mono hb;have hE:=hE.mono hb;have hbw:=hb;clear hb;obtain ⟨y0,y1,y2,y3,y4,y5⟩:=rO.n6;go_wp2_with fail;(with_reducible refine (rfmt_eq _ v tv kv w1 Htv Hkv hv hE).mono ?_);rintro e w2 ⟨rfl,hb⟩;have ux:=ux.mono hb;have uy:=uy.mono hb;have hE:=hE.mono hb;have rO:=rO.below hb;have hbw:=bu hbw hb;clear hb y0 y1 y2 y3 y4 y5 hv;obtain ⟨y0,y1,y2,y3,y4,y5⟩:=rO.n6;go_wp2_with fail;(with_reducible refine (rtexts14_eq x tx kx ax cx w2 Htx Hkx (by omega) ux hE).mono ?_);rintro e w3 ⟨rfl,hb⟩;have uy:=uy.mono hb;have hE:=hE.mono hb;have rO:=rO.below hb;have hbw:=bu hbw hb;clear hb y0 y1 y2 y3 y4 y5 ux;obtain ⟨y0,y1,y2,y3,y4,y5⟩:=rO.n6;go_wp2_with fail;(with_reducible refine (rtexts14_eq y ty ky ay cy w3 Hty Hky (by omega) uy hE).mono ?_);rintro e w4 ⟨rfl,hb⟩;have hbw:=bu hbw hb;clear hb y0 y1 y2 y3 y4 y5 uy rO hE;have bad:v.isNone=true∨badQ x=true∨badQ y=true→Hid (T=[]∧K=1):=fun h => hii ⟨HT.out.trans (fm_bad h).1,HK.out.trans (fm_bad h).2⟩
 cases h0:v.isNone with
 | true =>
  have HB:=bad (.inl h0);obtain rfl:kv=1:=by rw [← Hkv.out,h0]; rfl
  clear bad HT HK Hkv Hkx Hky Htv Htx Hty Hlen h0;go_wp2;go_ret2;exact ⟨by rw [HB.out.1,HB.out.2]; rfl,hbw⟩
 | false =>
  obtain rfl:kv=0:=by rw [← Hkv.out,h0]; rfl
  cases h1:badQ x with
  | true =>
   obtain rfl:kx=1:=by rw [← Hkx.out]; unfold txE; rw [h1]; rfl
   have HB:=bad (.inr (.inl h1));clear bad HT HK Hkv Hkx Hky Htv Htx Hty Hlen h0 h1;go_wp2;go_ret2;exact ⟨by rw [HB.out.1,HB.out.2]; rfl,hbw⟩
  | false =>
   obtain rfl:kx=0:=by rw [← Hkx.out]; unfold txE; rw [h1]; rfl
   cases h2:badQ y with
   | true =>
    obtain rfl:ky=1:=by rw [← Hky.out]; unfold txE; rw [h2]; rfl
    have HB:=bad (.inr (.inr h2));clear bad HT HK Hkv Hkx Hky Htv Htx Hty Hlen h0 h1 h2;go_wp2;go_ret2;exact ⟨by rw [HB.out.1,HB.out.2]; rfl,hbw⟩
   | false =>
    obtain rfl:ky=0:=by rw [← Hky.out]; unfold txE; rw [h2]; rfl
    have HG:=hii (fm_good h0 h1 h2);have HT1:Hid (T=tv ++ [59,32] ++ tx ++ [59,32] ++ ty):=hii (by rw [HT.out,HG.out.1,Htv.out,Htx.out,Hty.out]);have HK1:Hid (K=0):=hii (HK.out.trans HG.out.2);have hlen:=Hlen.out;have hlen2:tv.length + 2 + tx.length + 2 + ty.length=T.length:=by rw [HT1.out]; simp only [List.length_append,List.length_cons,List.length_nil]
    clear bad HT HK HG Hkv Hkx Hky Htv Htx Hty Hlen h0 h1 h2;have ea1:=bytes_app tv [59,32];have ea2:(⟨(tv ++ [59,32]).toArray⟩:ByteArray) ++ ⟨tx.toArray⟩=⟨(tv ++ 59 :: 32 :: tx).toArray⟩:=by rw [bytes_app]; simp
    have ea3:(⟨(tv ++ 59 :: 32 :: tx).toArray⟩:ByteArray) ++ ⟨#[59,32]⟩=⟨(tv ++ 59 :: 32 :: (tx ++ [59,32])).toArray⟩:=by
     have:=bytes_app (tv ++ 59 :: 32 :: tx) [59,32];rw [this]; simp
    have ea4:(⟨(tv ++ 59 :: 32 :: (tx ++ [59,32])).toArray⟩:ByteArray) ++ ⟨ty.toArray⟩=⟨T.toArray⟩:=by rw [bytes_app,HT1.out]; simp
    go_wp2_with fail
    all_goals try (exfalso; omega)
    go_ret2;exact ⟨by rw [HK1.out]; rfl,hbw⟩
theorem pls_txT {l:List Rat} (h:SmL l) (hs:(txT (l.map some)).length≤65536):PLs 25 (txT (l.map some)) (some l):=by
 have hw:=Sp.split_num (txT (l.map some)) [32] (by decide)
 by_cases he:l=[]
 ·subst he;have:=dlist_any (txT (([]:List Rat).map some)) [] (by omega) (hii (by omega)) (hii fun hne => absurd rfl hne);exact this
 ·have hne:txT (l.map some) ≠ []:=fun e => he (txT_empty h e)
  have hb:=badQ_some l;have e1:lstO (txT (l.map some)) (l.map some)=some l:=by
   rw [lstO_ok hne hb,List.map_map]
   congr 1
   conv => rhs; rw [← List.map_id l]
   rfl
  rw [← e1];refine dlist_any _ (l.map some) (by omega) (hii (by omega)) (hii fun _ => ?_);rw [txT_words h he];refine ⟨by simp,fun i s o h1 h2 => ?_⟩;rw [List.getElem?_map] at h1 h2
  cases hr:l[i]? with
  | none => rw [hr] at h1; cases h1
  | some r =>
   rw [hr] at h1 h2;simp only [Option.map_some,Option.some.injEq] at h1 h2;subst h1 h2;have:=h r (List.mem_of_getElem? hr);exact pt_text this.1 this.2
theorem UQ.smL {w:World} {ao:Option Addr} {l:List Rat} (h:UQ w ao (l.map some)):SmL l:=by
 intro r hr;obtain ⟨i,hi⟩:=List.getElem?_of_mem hr;obtain ⟨_,_,_,_,_,_,_,_,_,_,_,_,hq⟩:=h i (some r) (by rw [List.getElem?_map,hi]; rfl);exact RatV.sm (hq:RatV _ _ r)
theorem parse_fmt (r:Rat) (x y:List Rat) (hr:SmL [r]) (hx:SmL x) (hy:SmL y) (hl:(fmT (some r) (x.map some) (y.map some)).length≤65536) (w:World) (hE:Env w) (hM:MaxV w) :
  Calls Tryz.prog 8 #[.string ⟨(fmT (some r) (x.map some) (y.map some)).toArray⟩] w fun e w' => OptR (some (r,x,y)) w' e∧Below w.heap.size w w':=by
 have hsp:=fmT_parts hr hx hy;have hlen:=Sp.split_len (fmT (some r) (x.map some) (y.map some)) [59,32] (by decide);rw [hsp] at hlen;have l1:=hlen (txT (x.map some)) (by simp);have l2:=hlen (txT (y.map some)) (by simp);exact dparse_ok _ _ _ _ (some r) (some x) (some y) hl (hii hsp) (hii (pt_text (hr r (by simp)).1 (hr r (by simp)).2)) (hii (pls_txT hx (by omega))) (hii (pls_txT hy (by omega))) w hE hM
theorem dualTexts_low (v:Qo) (x y:List Qo) {ng1:Bool} {ao1:Option Addr} {n1 cap1:Nat} {nh1:Bool} {ap1:Option Addr} {m1 caq1:Nat} (ax ay:Option Addr) (cx cy:Nat) (w:World) (hx:x.length≤10) (hy:y.length≤10) (hv:QV w (.agg #[.bool ng1,.slice ao1 n1 cap1,.bool nh1,.slice ap1 m1 caq1]) v) (ux:UQ w ax x) (uy:UQ w ay y) (hE:Env w) (hM:MaxV w) :
  Calls Tryz.prog 3 #[.agg #[.bool ng1,.slice ao1 n1 cap1,.bool nh1,.slice ap1 m1 caq1],.slice ax x.length cx,.slice ay y.length cy] w fun e w' => e=.returned (.bool true)∧Below w.heap.size w w':=by
 have hxl:decide ((10:Int) < (x.length:Int))=false:=decide_eq_false (by omega);have hyl:decide ((10:Int) < (y.length:Int))=false:=decide_eq_false (by omega);go_enter Tryz.func3,Tryz.ntmps3;go_upto_region 1 with fail;have hb:=bA w (.cells #[.bool ng1,.slice ao1 n1 cap1,.bool nh1,.slice ap1 m1 caq1] 26);have rV:Row (w.alloc (.cells #[.bool ng1,.slice ao1 n1 cap1,.bool nh1,.slice ap1 m1 caq1] 26)) w.heap.size 26 [.bool ng1,.slice ao1 n1 cap1,.bool nh1,.slice ap1 m1 caq1]:=heap_alloc_new _ _;obtain ⟨gV,hg⟩:∃ gV,gV=w.heap.size:=⟨_,rfl⟩;rw [← hg] at rV ⊢;clear hg;generalize w.alloc (.cells #[.bool ng1,.slice ao1 n1 cap1,.bool nh1,.slice ap1 m1 caq1] 26)=w1 at *;have hv:=hv.mono hb;have ux:=ux.mono hb;have uy:=uy.mono hb;have hE:=hE.mono hb;have hM:=hM.mono hb;have hbw:=hb;clear hb;go_wp2_with fail;(with_reducible refine (awake14 w1 hE).mono ?_);rintro e w2 ⟨rfl,hb⟩;have hv:=hv.mono hb;have ux:=ux.mono hb;have uy:=uy.mono hb;have hE:=hE.mono hb;have hM:=hM.mono hb;have rV:=rV.below hb;have hbw:=bu hbw hb;clear hb;obtain ⟨z0,z1,z2,z3⟩:=rV.n4;go_upto_region 4 with fail;have hb:=bA w2 (.cells #[.bool ng1,.slice ao1 n1 cap1,.bool nh1,.slice ap1 m1 caq1,.slice ax x.length cx,.slice ay y.length cy] 30);have rO:Row (w2.alloc (.cells #[.bool ng1,.slice ao1 n1 cap1,.bool nh1,.slice ap1 m1 caq1,.slice ax x.length cx,.slice ay y.length cy] 30)) w2.heap.size 30 [.bool ng1,.slice ao1 n1 cap1,.bool nh1,.slice ap1 m1 caq1,.slice ax x.length cx,.slice ay y.length cy]:=heap_alloc_new _ _;obtain ⟨gO,hg⟩:∃ gO,gO=w2.heap.size:=⟨_,rfl⟩;rw [← hg] at rO ⊢;clear hg;generalize w2.alloc (.cells #[.bool ng1,.slice ao1 n1 cap1,.bool nh1,.slice ap1 m1 caq1,.slice ax x.length cx,.slice ay y.length cy] 30)=w3 at *;have hv:=hv.mono hb;have ux:=ux.mono hb;have uy:=uy.mono hb;have hE:=hE.mono hb;have hM:=hM.mono hb;have hbw:=bu hbw hb;clear hb z0 z1 z2 z3 rV;have HF1:=dFormat_any v x y (.agg #[.bool ng1,.slice ao1 n1 cap1,.bool nh1,.slice ap1 m1 caq1,.slice ax x.length cx,.slice ay y.length cy]) w3 (by omega) (by omega) ⟨_,_,_,_,_,_,_,_,_,_,_,_,rfl,hv,ux,uy⟩ hE;obtain ⟨T,hT⟩:∃ T,fmT v x y=T:=⟨_,rfl⟩;obtain ⟨K,hK⟩:∃ K,fmE v x y=K:=⟨_,rfl⟩;rw [hT,hK] at HF1;have HT:=hii hT;have HK:=hii hK;clear hT hK;obtain ⟨y0,y1,y2,y3,y4,y5⟩:=rO.n6;go_wp2_with fail;(with_reducible refine HF1.mono ?_);rintro e w4 ⟨rfl,hb⟩;have hv:=hv.mono hb;have ux:=ux.mono hb;have uy:=uy.mono hb;have hE:=hE.mono hb;have hM:=hM.mono hb;have rO:=rO.below hb;have hbw:=bu hbw hb;clear hb HF1 y0 y1 y2 y3 y4 y5;have HF2:=rFormat14_any v x y (.agg #[.bool ng1,.slice ao1 n1 cap1,.bool nh1,.slice ap1 m1 caq1,.slice ax x.length cx,.slice ay y.length cy]) w4 (by omega) (by omega) ⟨_,_,_,_,_,_,_,_,_,_,_,_,rfl,hv,ux,uy⟩ hE;rw [HT.out,HK.out] at HF2;obtain ⟨y0,y1,y2,y3,y4,y5⟩:=rO.n6;go_wp2_with fail;(with_reducible refine HF2.mono ?_);rintro e w5 ⟨rfl,hb⟩;have hv:=hv.mono hb;have ux:=ux.mono hb;have uy:=uy.mono hb;have hE:=hE.mono hb;have hM:=hM.mono hb;have rO:=rO.below hb;have hbw:=bu hbw hb;clear hb HF2 y0 y1 y2 y3 y4 y5
 by_cases hbad:v.isNone=true∨badQ x=true∨badQ y=true
 ·obtain rfl:K=1:=by rw [← HK.out]; exact (fm_bad hbad).2
  clear hbad HT HK hv ux uy hM rO;go_wp2;go_ret;exact ⟨rfl,hbw⟩
 ·have h0:v.isNone=false:=Bool.eq_false_iff.2 fun h => hbad (.inl h)
  have h1:badQ x=false:=Bool.eq_false_iff.2 fun h => hbad (.inr (.inl h))
  have h2:badQ y=false:=Bool.eq_false_iff.2 fun h => hbad (.inr (.inr h))
  obtain rfl:K=0:=by rw [← HK.out]; exact (fm_good h0 h1 h2).2
  obtain ⟨r,rfl⟩:∃ r,v=some r:=by cases v with
   | none => cases h0
   | some r => exact ⟨r,rfl⟩
  obtain ⟨xs,rfl⟩:∃ xs:List Rat,x=xs.map some:=⟨_,(nbad_get h1).symm⟩;obtain ⟨ys,rfl⟩:∃ ys:List Rat,y=ys.map some:=⟨_,(nbad_get h2).symm⟩;have hv:RatV w5 _ r:=hv;have hTl:T.length≤65536:=by
   rw [← HT.out];have hn:¬ ([[(some r:Qo)],xs.map some,ys.map some].any badQ=true):=by
    rw [List.any_eq_true];rintro ⟨l,hl,hb⟩;simp only [List.mem_cons,List.not_mem_nil,or_false] at hl;rcases hl with rfl | rfl | rfl
    ·simp [badQ] at hb
    ·rw [h1] at hb; cases hb
    ·rw [h2] at hb; cases hb
   have:=fmT_len (qv_short (show QV w5 _ (some r) from hv)) ux.short uy.short (by omega) (by omega);unfold fmT;rw [if_neg hn];omega
  have HP:=parse_fmt r xs ys (fun q hq => by simp only [List.mem_cons,List.not_mem_nil,or_false] at hq; subst hq; exact hv.sm) ux.smL uy.smL (by rw [HT.out]; exact hTl) w5 hE hM;rw [HT.out] at HP;rw [List.length_map] at hx hy;have Hx:=hii hx;have Hy:=hii hy;clear hbad HT HK h0 h1 h2 hTl hM hx hy hxl hyl;go_wp2_with fail;(with_reducible refine HP.mono ?_);rintro e w6 ⟨hR,hb⟩;have hv:=hv.mono hb;have ux:=ux.mono hb;have uy:=uy.mono hb;have hE:=hE.mono hb;have rO:=rO.below hb;have hbw:=bu hbw hb;clear hb HP;rcases hR with ⟨hO2,rfl⟩ | ⟨r',x',y',hO2,ng2,ao2,n2,cap2,nh2,ap2,m2,caq2,az,caz,au,cau,rfl,hv2,ux2,uy2⟩
  ·cases hO2
  simp only [Option.some.injEq,Prod.mk.injEq] at hO2;obtain ⟨rfl,rfl,rfl⟩:=hO2;go_upto_region 9 with fail;have hb:=bA w6 (.cells #[.bool ng2,.slice ao2 n2 cap2,.bool nh2,.slice ap2 m2 caq2,.slice az xs.length caz,.slice au ys.length cau] 30);have rB:Row (w6.alloc (.cells #[.bool ng2,.slice ao2 n2 cap2,.bool nh2,.slice ap2 m2 caq2,.slice az xs.length caz,.slice au ys.length cau] 30)) w6.heap.size 30 [.bool ng2,.slice ao2 n2 cap2,.bool nh2,.slice ap2 m2 caq2,.slice az xs.length caz,.slice au ys.length cau]:=heap_alloc_new _ _;obtain ⟨gB,hg⟩:∃ gB,gB=w6.heap.size:=⟨_,rfl⟩;rw [← hg] at rB ⊢;clear hg;generalize w6.alloc (.cells #[.bool ng2,.slice ao2 n2 cap2,.bool nh2,.slice ap2 m2 caq2,.slice az xs.length caz,.slice au ys.length cau] 30)=w7 at *;have hv:=hv.mono hb;have ux:=ux.mono hb;have uy:=uy.mono hb;have hv2:=hv2.mono hb;have ux2:=ux2.mono hb;have uy2:=uy2.mono hb;have hE:=hE.mono hb;have rO:=rO.below hb;have hbw:=bu hbw hb;clear hb;have HS:=same14_yes r xs ys (by have:=Hx.out; omega) (by have:=Hy.out; omega) az au ax ay caz cau cx cy w7 hE hv2 hv ux2 ux uy2 uy;rw [List.length_map,List.length_map] at rO;obtain ⟨y0,y1,y2,y3,y4,y5⟩:=rO.n6;obtain ⟨x0,x1,x2,x3,x4,x5⟩:=rB.n6;go_wp2_with fail;(with_reducible refine HS.mono ?_);rintro e w8 ⟨rfl,hb⟩;have hbw:=bu hbw hb;clear hb HS;go_wp2;go_ret;exact ⟨rfl,hbw⟩
end Go.Proofs.YtaedmaifkfhpfaaGreatDoor
