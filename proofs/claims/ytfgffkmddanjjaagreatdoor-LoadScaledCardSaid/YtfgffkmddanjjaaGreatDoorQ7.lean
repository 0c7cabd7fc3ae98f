/-
  Texts of fractions, plain.
-/
import Derived.Test.YtfgffkmddanjjaaGreatDoorQ5
import Derived.Test.YtfgffkmddanjjaaGreatDoorI8
import Derived.Test.YtfgffkmddanjjaaGreatDoorQ1
import Derived.Lib.IndexMore
set_option linter.unusedVariables false
set_option linter.unusedSimpArgs false
set_option maxRecDepth 100000
set_option maxHeartbeats 25600000
namespace Go.Proofs.YtfgffkmddanjjaaGreatDoor
open _root_.Go.Proofs.Tryz
open Go.RowKit
theorem zmA (va vb:Value) (a b:Rat) (k:Int) (w:World) (ha:zac w va a) (hb:zac w vb b) (hs:Hid (KQ k (zdH a b))) (hE:Env w) :
  Calls Tryz.prog 11 #[va,vb] w λ e w' => PK k (a * b) w' e/\BH w w':=by
 obtain ⟨k1,h_k1⟩:=KQ.ex (Rq.Sm (a.num * b.num));have H_k1:=hii h_k1;clear h_k1;obtain ⟨k2,h_k2⟩:=KQ.ex (Rq.Sm ((a.den:Int) * (b.den:Int)));have H_k2:=hii h_k2;clear h_k2;have HNE:Hid (((a.den:Int) * (b.den:Int)) ≠ 0):=hii (zlG a b);have hbw:=Below.refl w.heap.size w;obtain ⟨J1,ao1,n1,Y1,J2,ao2,n2,Y2,rfl,h1,h2⟩:=ha;have HV1:=hii h1;have HV2:=hii h2;clear h1 h2;obtain ⟨J3,ao3,n3,Y3,J4,ao4,n4,Y4,rfl,h1,h2⟩:=hb;have HV3:=hii h1;have HV4:=hii h2;clear h1 h2;go_enter func11,ntmps11;go_upto_region 1 with fail;obtain ⟨wx,hwx,hszx,X1,X2,X3,hb⟩:=zbC w (.bool J1) (.slice ao1 n1 Y1) (.bool J2) (.slice ao2 n2 Y2) 32 (.bool J3) (.slice ao3 n3 Y3) (.bool J4) (.slice ao4 n4 Y4) 32 (.bool false) (.slice none 0 0) (.bool false) (.slice none 0 0) 32;rw [<- hwx];clear hwx;obtain ⟨v1,rfl⟩:=exi wx;have HV1:=hup HV1 hb;have HV2:=hup HV2 hb;have HV3:=hup HV3 hb;have HV4:=hup HV4 hb;have hE:=hE.mono hb;have hbw:=bu hbw hb;clear hb;obtain ⟨x1a,x1b,x1c,x1d,_,_,_,_⟩:=id X1;go_wp2_with fail;go_fit (zdn _ a v1 (zac.mk' HV1 HV2) hE);rintro e v2 ⟨rfl,hb⟩;have HV1:=hup HV1 hb;have HV2:=hup HV2 hb;have HV3:=hup HV3 hb;have HV4:=hup HV4 hb;have X1:=X1.mono hb;have X2:=X2.mono hb;have X3:=X3.mono hb;have hE:=hE.mono hb;have hbw:=bu hbw hb;clear hb;clear x1a x1b x1c x1d;obtain ⟨x2a,x2b,x2c,x2d,_,_,_,_⟩:=id X2;go_wp2_with fail;go_fit (zdn _ b v2 (zac.mk' HV3 HV4) hE);rintro e v3 ⟨rfl,hb⟩;have HV1:=hup HV1 hb;have HV2:=hup HV2 hb;have HV3:=hup HV3 hb;have HV4:=hup HV4 hb;have X1:=X1.mono hb;have X2:=X2.mono hb;have X3:=X3.mono hb;have hE:=hE.mono hb;have hbw:=bu hbw hb;clear hb;clear x2a x2b x2c x2d;obtain ⟨x1a,x1b,x1c,x1d,_,_,_,_⟩:=id X1;obtain ⟨x2a,x2b,x2c,x2d,_,_,_,_⟩:=id X2;go_wp2_with fail;go_fit (zih _ _ a.num b.num k1 v3 HV1.out HV3.out H_k1 hE);rintro e v4 ⟨⟨J5,ao5,n5,Y5,rfl,HV5⟩,hb⟩;have HV2:=hup HV2 hb;have HV4:=hup HV4 hb;have X1:=X1.mono hb;have X2:=X2.mono hb;have X3:=X3.mono hb;have hE:=hE.mono hb;have hbw:=bu hbw hb;clear hb;clear x1a x1b x1c x1d x2a x2b x2c x2d;go_upto_region 4 with fail;have lX5X1:=X1.lt;have lX5X2:=X2.lt;have lX5X3:=X3.lt;have X5:=Box.new v4 (.bool J5) (.slice ao5 n5 Y5) 30;have hb:=bA v4 (.cells #[.bool J5,.slice ao5 n5 Y5] 30);generalize v4.alloc (.cells #[.bool J5,.slice ao5 n5 Y5] 30)=v5 at *;have HV2:=hup HV2 hb;have HV4:=hup HV4 hb;have X1:=X1.mono hb;have X2:=X2.mono hb;have X3:=X3.mono hb;have HV5:=hup HV5 hb;have hE:=hE.mono hb;have hbw:=bu hbw hb;clear hb;obtain ⟨x1a,x1b,x1c,x1d,_,_,_,_⟩:=id X1;obtain ⟨x2a,x2b,x2c,x2d,_,_,_,_⟩:=id X2;go_wp2_with fail;go_fit (zih _ _ (a.den:Int) (b.den:Int) k2 v5 HV2.out HV4.out H_k2 hE);rintro e v6 ⟨⟨J6,ao6,n6,Y6,rfl,HV6⟩,hb⟩;have X1:=X1.mono hb;have X2:=X2.mono hb;have X3:=X3.mono hb;have HV5:=hup HV5 hb;have X5:=X5.mono hb;have hE:=hE.mono hb;have hbw:=bu hbw hb;clear hb;clear x1a x1b x1c x1d x2a x2b x2c x2d;go_upto_region 5 with fail;have lX6X1:=X1.lt;have lX6X2:=X2.lt;have lX6X3:=X3.lt;have lX6X5:=X5.lt;have X6:=Box.new v6 (.bool J6) (.slice ao6 n6 Y6) 30;have hb:=bA v6 (.cells #[.bool J6,.slice ao6 n6 Y6] 30);generalize v6.alloc (.cells #[.bool J6,.slice ao6 n6 Y6] 30)=v7 at *;have X3:=X3.mono hb;have HV5:=hup HV5 hb;have X5:=X5.mono hb;have HV6:=hup HV6 hb;have hE:=hE.mono hb;have hbw:=bu hbw hb;clear hb;rcases H_k1.out with ⟨rfl,h_k1⟩ | ⟨rfl,h_k1⟩
 ·have G_k1:=hii h_k1;clear h_k1;rw [zdF] at HV5;rcases H_k2.out with ⟨rfl,h_k2⟩ | ⟨rfl,h_k2⟩
  ·have G_k2:=hii h_k2;clear h_k2;rw [zdF] at HV6;obtain rfl:k=0:=hs.out.yes ⟨G_k1.out,G_k2.out⟩;obtain ⟨x5a,x5b,_,_⟩:=id X5;obtain ⟨x6a,x6b,_,_⟩:=id X6;go_wp2_with fail;go_fit (zgG _ _ (a.num * b.num) ((a.den:Int) * (b.den:Int)) v7 HV5.out HV6.out HNE hE);rintro e v8 ⟨⟨J7,ao7,n7,Y7,J8,ao8,n8,Y8,rfl,HV7,HV8⟩,hb⟩;have X3:=X3.mono hb;have hbw:=bu hbw hb;clear hb;clear x5a x5b x6a x6b;rw [Rq.mul_eq] at HV7 HV8;obtain ⟨x3a,x3b,x3c,x3d,_,_,_,_⟩:=id X3;go_wp2;refine bodyPost_ret (v:=.tuple #[.agg #[.bool J7,.slice ao7 n7 Y7,.bool J8,.slice ao8 n8 Y8],.int .i64 0]) (by simp [results,Tryz.results11,go_sem,x3a,x3b,x3c,x3d]) rfl ⟨PK.of ⟨J7,ao7,n7,Y7,J8,ao8,n8,Y8,rfl,hii (HV7.out.put4B X3 (.bool J7) (.slice ao7 n7 Y7) (.bool J8) (.slice ao8 n8 Y8)),hii (HV8.out.put4B X3 (.bool J7) (.slice ao7 n7 Y7) (.bool J8) (.slice ao8 n8 Y8))⟩,Below.put4 hbw (by omega) (.bool J7) (.slice ao7 n7 Y7) (.bool J8) (.slice ao8 n8 Y8)⟩
  ·have G_k2:=hii h_k2;clear h_k2;obtain rfl:k=3:=hs.out.no (λ h => G_k2.out h.2);obtain ⟨x3a,x3b,x3c,x3d,_,_,_,_⟩:=id X3;go_wp2;refine bodyPost_ret (v:=.tuple #[.agg #[.bool false,.slice none 0 0,.bool false,.slice none 0 0],.int .i64 3]) (by simp [results,Tryz.results11,go_sem,x3a,x3b,x3c,x3d]) rfl ⟨PK.err _ _,Below.put4 hbw (by omega) (.bool false) (.slice none 0 0) (.bool false) (.slice none 0 0)⟩
 ·have G_k1:=hii h_k1;clear h_k1;obtain rfl:k=3:=hs.out.no (λ h => G_k1.out h.1);obtain ⟨x3a,x3b,x3c,x3d,_,_,_,_⟩:=id X3;go_wp2;refine bodyPost_ret (v:=.tuple #[.agg #[.bool false,.slice none 0 0,.bool false,.slice none 0 0],.int .i64 3]) (by simp [results,Tryz.results11,go_sem,x3a,x3b,x3c,x3d]) rfl ⟨PK.err _ _,Below.put4 hbw (by omega) (.bool false) (.slice none 0 0) (.bool false) (.slice none 0 0)⟩
theorem zkH (va vb:Value) (a b:Rat) (w:World) (ha:zac w va a) (hb:zac w vb b) (hs:Hid (zdH a b)) (hE:Env w) :
  Calls Tryz.prog 11 #[va,vb] w λ e w' => zcL w' (a * b) e/\BH w w':=(zmA va vb a b 0 w ha hb (hii (.inl ⟨rfl,hs.out⟩)) hE).mono λ _ _ ⟨h,hb⟩ => ⟨h.got,hb⟩
end Go.Proofs.YtfgffkmddanjjaaGreatDoor
namespace Rq
open Go
end Rq
namespace Go.Proofs.YtfgffkmddanjjaaGreatDoor
open _root_.Go.Proofs.Tryz
open Go.RowKit
def znS (w:World):Prop:=∃ m:Int,w.cell? ⟨1,0,none⟩=some (.int .i64 m)
theorem znS.mono {w w':World} (h:znS w) (hb:BH w w'):znS w':=by
 obtain ⟨m,hm⟩:=h;exact ⟨m,(hb.cell (p:=⟨1,0,none⟩) (zag hm)).trans hm⟩
theorem zaX.set4Z {w:World} {n:Nat} {x0 x1 x2 x3:Value} (h:zaX w n x0 x1 x2 x3) (y0 y1 y2 y3:Value):zaX ((((w.setCell ⟨n,0,none⟩ y0).setCell ⟨n,1,none⟩ y1).setCell ⟨n,2,none⟩ y2).setCell ⟨n,3,none⟩ y3) n y0 y1 y2 y3:=by
 obtain ⟨h0,h1,h2,h3,f0,f1,f2,f3⟩:=h;exact ⟨by simp [go_sem,h0],by simp [go_sem,h1],by simp [go_sem,h2],by simp [go_sem,h3],by simp [go_sem,f0],by simp [go_sem,f1],by simp [go_sem,f2],by simp [go_sem,f3]⟩
end Go.Proofs.YtfgffkmddanjjaaGreatDoor
namespace Rq
open Go
end Rq
namespace Go.Proofs.YtfgffkmddanjjaaGreatDoor
open _root_.Go.Proofs.Tryz
open Go.RowKit
theorem zm7.at {W:World} {base:Nat} {st:Prop} {p:Value} {z:Int} (h:zm7 W base (λ W v => zai W v z) st p) (hs:st) :
  ∃ (g:Nat) (ng:Bool) (ao:Option Addr) (l cap:Nat),p=.pointer (some ⟨g,0,none⟩)/\base<=g/\Box W g (.bool ng) (.slice ao l cap)/\zai W (.agg #[.bool ng,.slice ao l cap]) z:=by
 obtain ⟨b,e,hb,_,h3,_⟩:=h;obtain ⟨x,y,B,hr⟩:=h3 hs;obtain ⟨ng,ao,n,cap,e2⟩:=hr.parts;simp only [Value.agg.injEq,Array.mk.injEq,List.cons.injEq,and_true] at e2;obtain ⟨rfl,rfl⟩:=e2;exact ⟨b,ng,ao,n,cap,e,hb,B,hr⟩
def zfF (w':World) (r:Rat) (e:Ending):Prop :=
 ∃ (n1:Bool) (a1:Option Addr) (l1 c1:Nat) (n2:Bool) (a2:Option Addr) (l2 c2:Nat),e=.returned (.agg #[.bool n1,.slice a1 l1 c1,.bool n2,.slice a2 l2 c2]) /\
  Hid (zai w' (.agg #[.bool n1,.slice a1 l1 c1]) r.num)/\Hid (zai w' (.agg #[.bool n2,.slice a2 l2 c2]) (r.den:Int))
theorem d1 {n:Nat} (h:n < 10):Lib.decDigits n=[UInt8.ofNat (48 + n)]:=Lib.decDigits_one h
theorem zaX.putOther {w:World} {n m:Nat} {x0 x1 x2 x3 y0 y1 y2 y3:Value} (h:zaX w n x0 x1 x2 x3) (hne:n ≠ m):zaX ((((w.setCell ⟨m,0,none⟩ y0).setCell ⟨m,1,none⟩ y1).setCell ⟨m,2,none⟩ y2).setCell ⟨m,3,none⟩ y3) n x0 x1 x2 x3:=by
 obtain ⟨h0,h1,h2,h3,f0,f1,f2,f3⟩:=h;exact ⟨by rw [zak _ hne,zak _ hne,zak _ hne,zak _ hne]; exact h0,by rw [zak _ hne,zak _ hne,zak _ hne,zak _ hne]; exact h1,
  by rw [zak _ hne,zak _ hne,zak _ hne,zak _ hne]; exact h2,by rw [zak _ hne,zak _ hne,zak _ hne,zak _ hne]; exact h3,
  by simp [go_sem,f0],by simp [go_sem,f1],by simp [go_sem,f2],by simp [go_sem,f3]⟩
structure znL (R:World->Value->Prop):Prop where
 mono:∀ {W W':World} {v:Value},R W v->BH W W'->R W' v
 put:∀ {W:World} {n:Nat} {v x0 x1 x2 x3:Value},R W v->zaX W n (.bool false) (.slice none 0 0) (.bool false) (.slice none 0 0)->R ((((W.setCell ⟨n,0,none⟩ x0).setCell ⟨n,1,none⟩ x1).setCell ⟨n,2,none⟩ x2).setCell ⟨n,3,none⟩ x3) v
def zjj (W:World) (base:Nat) (R:World->Value->Prop) (st:Prop) (p:Value):Prop :=
 ∃ b,p=.pointer (some ⟨b,0,none⟩)/\base<=b/\b < W.heap.size/\(st->∃ x0 x1 x2 x3,zaX W b x0 x1 x2 x3/\R W (.agg #[x0,x1,x2,x3]))/\(¬ st->zaX W b (.bool false) (.slice none 0 0) (.bool false) (.slice none 0 0))
theorem zjj.mono {W W':World} {base:Nat} {R:World->Value->Prop} {st:Prop} {p:Value} (hR:znL R) (h:zjj W base R st p) (hb:BH W W'):zjj W' base R st p:=by
 obtain ⟨b,e,h1,h2,h3,h4⟩:=h;exact ⟨b,e,h1,Nat.lt_of_lt_of_le h2 hb.size,λ s => by obtain ⟨x0,x1,x2,x3,B,hr⟩:=h3 s; exact ⟨x0,x1,x2,x3,B.mono hb,hR.mono hr hb⟩,λ s => (h4 s).mono hb⟩
def zl3 (W:World) (v:Value):Prop:=∃ r,zac W v r
theorem zl3.parts {W:World} {v:Value} (h:zl3 W v):∃ (ng:Bool) (ao:Option Addr) (n cap:Nat) (J2:Bool) (ao2:Option Addr) (n2 Y2:Nat),v=.agg #[.bool ng,.slice ao n cap,.bool J2,.slice ao2 n2 Y2]:=by
 obtain ⟨r,h⟩:=h; exact h.parts
theorem zjj.at {W:World} {base:Nat} {R:World->Value->Prop} {st:Prop} {p:Value} (h:zjj W base R st p) (hs:st) (hV:∀ v,R W v->zl3 W v) :
  ∃ (g:Nat) (n1:Bool) (a1:Option Addr) (l1 c1:Nat) (n2:Bool) (a2:Option Addr) (l2 c2:Nat),p=.pointer (some ⟨g,0,none⟩)/\base<=g/\zaX W g (.bool n1) (.slice a1 l1 c1) (.bool n2) (.slice a2 l2 c2)/\R W (.agg #[.bool n1,.slice a1 l1 c1,.bool n2,.slice a2 l2 c2]):=by
 obtain ⟨b,e,h1,_,h3,_⟩:=h;obtain ⟨x0,x1,x2,x3,B,hr⟩:=h3 hs;obtain ⟨ng,ao,n,cap,J2,ao2,n2,Y2,e2⟩:=(hV _ hr).parts;simp only [Value.agg.injEq,Array.mk.injEq,List.cons.injEq,and_true] at e2;obtain ⟨rfl,rfl,rfl,rfl⟩:=e2;exact ⟨b,ng,ao,n,cap,J2,ao2,n2,Y2,e,h1,B,hr⟩
abbrev Qo:=Option Rat
def QV (w:World) (v:Value):Option Rat->Prop
 | some r => zac w v r
 | none => VQ w v false
theorem QV.mono {w w':World} {v:Value} {o:Option Rat} (h:QV w v o) (hb:BH w w'):QV w' v o:=by
 cases o
 ·exact VQ.mono h hb
 ·exact zac.mono h hb
theorem QV.vq {w:World} {v:Value} {o:Option Rat} (h:QV w v o):VQ w v o.isSome:=by
 cases o
 ·exact h
 ·exact zac.vq h
structure zeP (w:World) (b o:Nat) (x0 x1 x2 x3:Value):Prop where
 c0:w.cell? ⟨b,o,none⟩=some x0
 c1:w.cell? ⟨b,o + 1,none⟩=some x1
 c2:w.cell? ⟨b,o + 2,none⟩=some x2
 c3:w.cell? ⟨b,o + 3,none⟩=some x3
 f0:True
 f1:True
 f2:True
 f3:True
theorem zeP.lt {w:World} {b o:Nat} {x0 x1 x2 x3:Value} (h:zeP w b o x0 x1 x2 x3):b < w.heap.size:=zag h.c0
theorem zeP.mono {w w':World} {b o:Nat} {x0 x1 x2 x3:Value} (h:zeP w b o x0 x1 x2 x3) (hb:BH w w'):zeP w' b o x0 x1 x2 x3 :=
 ⟨(hb.cell (p:=⟨b,o,none⟩) h.lt).trans h.c0,(hb.cell (p:=⟨b,o + 1,none⟩) h.lt).trans h.c1,(hb.cell (p:=⟨b,o + 2,none⟩) h.lt).trans h.c2,(hb.cell (p:=⟨b,o + 3,none⟩) h.lt).trans h.c3,trivial,trivial,trivial,trivial⟩
def UQ (w:World) (ao:Option Addr) (l:List (Option Rat)):Prop :=
 ∀ i o,l[i]?=some o->∃ (b off:Nat) (n1:Bool) (a1:Option Addr) (l1 c1:Nat) (n2:Bool) (a2:Option Addr) (l2 c2:Nat),ao=some ⟨b,off,none⟩ /\
  zeP w b (off + i * 4) (.bool n1) (.slice a1 l1 c1) (.bool n2) (.slice a2 l2 c2) /\
  QV w (.agg #[.bool n1,.slice a1 l1 c1,.bool n2,.slice a2 l2 c2]) o
theorem UQ.mono {w w':World} {ao:Option Addr} {l:List (Option Rat)} (h:UQ w ao l) (hb:BH w w'):UQ w' ao l:=by
 intro i o hi;obtain ⟨b,off,n1,a1,l1,c1,n2,a2,l2,c2,e,h0,hq⟩:=h i o hi;exact ⟨b,off,n1,a1,l1,c1,n2,a2,l2,c2,e,h0.mono hb,hq.mono hb⟩
theorem UQ.nil (w:World) (ao:Option Addr):UQ w ao []:=λ i o h => by simp at h
def zhP:Rat->List Rat->List Rat->Option Rat->Prop
 | acc,a :: l,b :: m,o => (zdH a b/\zeb acc (a * b)/\zhP (acc + a * b) l m o)\/(¬ (zdH a b/\zeb acc (a * b))/\o=none)
 | acc,_,_,o => o=some acc
def zkZ (o:Option Rat) (w':World) (e:Ending):Prop :=
 match o with
 | some r => zcL w' r e
 | none => NoQ 3 e
theorem zkZ.got {w':World} {e:Ending} {r:Rat} {o:Option Rat} (ho:Hid (o=some r)) (h:zcL w' r e):zkZ o w' e:=by rw [ho.out]; exact h
theorem zkZ.no {w':World} {e:Ending} {o:Option Rat} (ho:Hid (o=none)) (h:NoQ 3 e):zkZ o w' e:=by rw [ho.out]; exact h
theorem ziK {α:Type} {l:List α} {k:Nat} {a:α} (h:l[k]?=some a):l.drop k=a :: l.drop (k + 1):=by
 obtain ⟨hk,rfl⟩:=List.getElem?_eq_some_iff.1 h;exact List.drop_eq_getElem_cons hk
theorem zaX.put4I {w:World} {n:Nat} {x0 x1 x2 x3:Value} (h:zaX w n x0 x1 x2 x3) (y0 y1 y2 y3:Value):zaX ((((w.setCell ⟨n,0,none⟩ y0).setCell ⟨n,1,none⟩ y1).setCell ⟨n,2,none⟩ y2).setCell ⟨n,3,none⟩ y3) n y0 y1 y2 y3:=h.set4Z y0 y1 y2 y3
end Go.Proofs.YtfgffkmddanjjaaGreatDoor
