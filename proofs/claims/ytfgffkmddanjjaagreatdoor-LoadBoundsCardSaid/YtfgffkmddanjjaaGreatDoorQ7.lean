/-
  Texts of fractions, plain.
-/
import Derived.Test.YtfgffkmddanjjaaGreatDoorQ5
import Derived.Test.YtfgffkmddanjjaaGreatDoorI8
import Derived.Test.YtfgffkmddanjjaaGreatDoorQ1
import Derived.Lib.IndexMore
set_option linter.unusedVariables false
set_option linter.unusedSimpArgs false
namespace Go.Proofs.YtfgffkmddanjjaaGreatDoor
open Go.RowKit
end Go.Proofs.YtfgffkmddanjjaaGreatDoor
namespace Rq
open Go
end Rq
namespace Go.Proofs.YtfgffkmddanjjaaGreatDoor
open Go.RowKit
def GoodT (s:List UInt8):Prop :=
 (∀ b∈Lib.trimPrefix s [45],Bi.isDig b)/\Lib.trimPrefix s [45] ≠ []/\(Lib.trimPrefix s [45]).length<=300/\Lib.itoa (sgn (Lib.hasPrefix s [45]) (Bi.decVal (Lib.trimPrefix s [45])))=s
theorem RParse.bad {w':World} {s:List UInt8} {e:Ending} (h:RParse w' (Lib.hasPrefix s [45]) (Lib.trimPrefix s [45]) s e) (hg:¬ GoodT s):e=.returned (.tuple #[.agg #[.bool false,.slice none 0 0],.int .i64 2]):=by
 obtain ⟨ng,ao,n,cap,k,rfl,H⟩:=h;rcases H.out with ⟨h1,h2,h3,h4,_,_⟩ | ⟨_,rfl,rfl,rfl,rfl,rfl⟩
 ·exact absurd ⟨h1,h2,h3,h4⟩ hg
 ·rfl
def MaxV (w:World):Prop:=∃ m:Int,w.cell? ⟨1,0,none⟩=some (.int .i64 m)
theorem MaxV.mono {w w':World} (h:MaxV w) (hb:BH w w'):MaxV w':=by
 obtain ⟨m,hm⟩:=h;exact ⟨m,(hb.cell (p:=⟨1,0,none⟩) (cell_lt hm)).trans hm⟩
theorem Box4.set4Z {w:World} {n:Nat} {x0 x1 x2 x3:Value} (h:Box4 w n x0 x1 x2 x3) (y0 y1 y2 y3:Value):Box4 ((((w.setCell ⟨n,0,none⟩ y0).setCell ⟨n,1,none⟩ y1).setCell ⟨n,2,none⟩ y2).setCell ⟨n,3,none⟩ y3) n y0 y1 y2 y3:=by
 obtain ⟨h0,h1,h2,h3,f0,f1,f2,f3⟩:=h;exact ⟨by simp [go_sem,h0],by simp [go_sem,h1],by simp [go_sem,h2],by simp [go_sem,h3],by simp [go_sem,f0],by simp [go_sem,f1],by simp [go_sem,f2],by simp [go_sem,f3]⟩
theorem Box4.set4N {w:World} {n:Nat} (h:Box4 w n (.bool false) (.slice none 0 0) (.bool false) (.slice none 0 0)) (y0 y1 y2 y3:Value):Box4 ((((w.setCell ⟨n,0,none⟩ y0).setCell ⟨n,1,none⟩ y1).setCell ⟨n,2,none⟩ y2).setCell ⟨n,3,none⟩ y3) n y0 y1 y2 y3:=h.set4Z y0 y1 y2 y3
end Go.Proofs.YtfgffkmddanjjaaGreatDoor
namespace Rq
open Go
end Rq
namespace Go.Proofs.YtfgffkmddanjjaaGreatDoor
open Go.RowKit
theorem Slot.at {W:World} {base:Nat} {st:Prop} {p:Value} {z:Int} (h:Slot W base (λ W v => IntV W v z) st p) (hs:st) :
  ∃ (g:Nat) (ng:Bool) (ao:Option Addr) (l cap:Nat),p=.pointer (some ⟨g,0,none⟩)/\base<=g/\Box W g (.bool ng) (.slice ao l cap)/\IntV W (.agg #[.bool ng,.slice ao l cap]) z:=by
 obtain ⟨b,e,hb,_,h3,_⟩:=h;obtain ⟨x,y,B,hr⟩:=h3 hs;obtain ⟨ng,ao,n,cap,e2⟩:=hr.parts;simp only [Value.agg.injEq,Array.mk.injEq,List.cons.injEq,and_true] at e2;obtain ⟨rfl,rfl⟩:=e2;exact ⟨b,ng,ao,n,cap,e,hb,B,hr⟩
def GotR (w':World) (r:Rat) (e:Ending):Prop :=
 ∃ (n1:Bool) (a1:Option Addr) (l1 c1:Nat) (n2:Bool) (a2:Option Addr) (l2 c2:Nat),e=.returned (.agg #[.bool n1,.slice a1 l1 c1,.bool n2,.slice a2 l2 c2]) /\
  Hid (IntV w' (.agg #[.bool n1,.slice a1 l1 c1]) r.num)/\Hid (IntV w' (.agg #[.bool n2,.slice a2 l2 c2]) (r.den:Int))
theorem d1 {n:Nat} (h:n < 10):Lib.decDigits n=[UInt8.ofNat (48 + n)]:=Lib.decDigits_one h
theorem Box4.putOther {w:World} {n m:Nat} {x0 x1 x2 x3 y0 y1 y2 y3:Value} (h:Box4 w n x0 x1 x2 x3) (hne:n ≠ m):Box4 ((((w.setCell ⟨m,0,none⟩ y0).setCell ⟨m,1,none⟩ y1).setCell ⟨m,2,none⟩ y2).setCell ⟨m,3,none⟩ y3) n x0 x1 x2 x3:=by
 obtain ⟨h0,h1,h2,h3,f0,f1,f2,f3⟩:=h;exact ⟨by rw [cell_other _ hne,cell_other _ hne,cell_other _ hne,cell_other _ hne]; exact h0,by rw [cell_other _ hne,cell_other _ hne,cell_other _ hne,cell_other _ hne]; exact h1,
  by rw [cell_other _ hne,cell_other _ hne,cell_other _ hne,cell_other _ hne]; exact h2,by rw [cell_other _ hne,cell_other _ hne,cell_other _ hne,cell_other _ hne]; exact h3,
  by simp [go_sem,f0],by simp [go_sem,f1],by simp [go_sem,f2],by simp [go_sem,f3]⟩
structure Stay4 (R:World->Value->Prop):Prop where
 mono:∀ {W W':World} {v:Value},R W v->BH W W'->R W' v
 put:∀ {W:World} {n:Nat} {v x0 x1 x2 x3:Value},R W v->Box4 W n (.bool false) (.slice none 0 0) (.bool false) (.slice none 0 0)->R ((((W.setCell ⟨n,0,none⟩ x0).setCell ⟨n,1,none⟩ x1).setCell ⟨n,2,none⟩ x2).setCell ⟨n,3,none⟩ x3) v
def Slot4 (W:World) (base:Nat) (R:World->Value->Prop) (st:Prop) (p:Value):Prop :=
 ∃ b,p=.pointer (some ⟨b,0,none⟩)/\base<=b/\b < W.heap.size/\(st->∃ x0 x1 x2 x3,Box4 W b x0 x1 x2 x3/\R W (.agg #[x0,x1,x2,x3]))/\(¬ st->Box4 W b (.bool false) (.slice none 0 0) (.bool false) (.slice none 0 0))
theorem Slot4.mono {W W':World} {base:Nat} {R:World->Value->Prop} {st:Prop} {p:Value} (hR:Stay4 R) (h:Slot4 W base R st p) (hb:BH W W'):Slot4 W' base R st p:=by
 obtain ⟨b,e,h1,h2,h3,h4⟩:=h;exact ⟨b,e,h1,Nat.lt_of_lt_of_le h2 hb.size,λ s => by obtain ⟨x0,x1,x2,x3,B,hr⟩:=h3 s; exact ⟨x0,x1,x2,x3,B.mono hb,hR.mono hr hb⟩,λ s => (h4 s).mono hb⟩
theorem Slot4.congr {W:World} {base:Nat} {R:World->Value->Prop} {st st':Prop} {p:Value} (h:Slot4 W base R st p) (e:st↔st'):Slot4 W base R st' p:=by
 have:st=st':=propext e;rw [<- this]; exact h
theorem Slot4.new {base:Nat} {R:World->Value->Prop} {st:Prop} (W:World) (hn:¬ st) (t:TypeId) (hB:base<=W.heap.size):Slot4 (W.alloc (.cells #[.bool false,.slice none 0 0,.bool false,.slice none 0 0] t)) base R st (.pointer (some ⟨W.heap.size,0,none⟩)) :=
 ⟨_,rfl,hB,by simp,λ s => absurd s hn,λ _ => Box4.new W _ _ _ _ t⟩
theorem Slot4.open {W:World} {base:Nat} {R:World->Value->Prop} {st:Prop} {p:Value} (h:Slot4 W base R st p) (hn:¬ st):∃ b,p=.pointer (some ⟨b,0,none⟩)/\base<=b/\b < W.heap.size/\Box4 W b (.bool false) (.slice none 0 0) (.bool false) (.slice none 0 0):=by
 obtain ⟨b,e,h1,h2,_,h4⟩:=h;exact ⟨b,e,h1,h2,h4 hn⟩
theorem Slot4.stored {W:World} {base m:Nat} {R:World->Value->Prop} {st':Prop} {x0 x1 x2 x3:Value} (hR:Stay4 R) (h1:base<=m) (hB:Box4 W m (.bool false) (.slice none 0 0) (.bool false) (.slice none 0 0)) (hs:st') (hr:R W (.agg #[x0,x1,x2,x3])) :
  Slot4 ((((W.setCell ⟨m,0,none⟩ x0).setCell ⟨m,1,none⟩ x1).setCell ⟨m,2,none⟩ x2).setCell ⟨m,3,none⟩ x3) base R st' (.pointer (some ⟨m,0,none⟩)) :=
 ⟨m,rfl,h1,by simpa using hB.lt,λ _ => ⟨x0,x1,x2,x3,hB.set4N x0 x1 x2 x3,hR.put hr hB⟩,λ s => absurd hs s⟩
def SomeQ (W:World) (v:Value):Prop:=∃ r,RatV W v r
theorem SomeQ.parts {W:World} {v:Value} (h:SomeQ W v):∃ (ng:Bool) (ao:Option Addr) (n cap:Nat) (J2:Bool) (ao2:Option Addr) (n2 Y2:Nat),v=.agg #[.bool ng,.slice ao n cap,.bool J2,.slice ao2 n2 Y2]:=by
 obtain ⟨r,h⟩:=h; exact h.parts
theorem DraftV.put2B {w:World} {n c d:Nat} {b:Bool} {s:Option Addr} {v:Value} (h:DraftV w v) (hB:Box w n (.bool b) (.slice s c d)) (x y:Value):DraftV ((w.setCell ⟨n,0,none⟩ x).setCell ⟨n,1,none⟩ y) v:=by
 obtain ⟨neg,ao,l,cap,e,h1,h2,h3⟩:=h;exact ⟨neg,ao,l,cap,e,h1,h2.put2 hB.c0 hB.c1 x y,h3⟩
theorem Slot4.at {W:World} {base:Nat} {R:World->Value->Prop} {st:Prop} {p:Value} (h:Slot4 W base R st p) (hs:st) (hV:∀ v,R W v->SomeQ W v) :
  ∃ (g:Nat) (n1:Bool) (a1:Option Addr) (l1 c1:Nat) (n2:Bool) (a2:Option Addr) (l2 c2:Nat),p=.pointer (some ⟨g,0,none⟩)/\base<=g/\Box4 W g (.bool n1) (.slice a1 l1 c1) (.bool n2) (.slice a2 l2 c2)/\R W (.agg #[.bool n1,.slice a1 l1 c1,.bool n2,.slice a2 l2 c2]):=by
 obtain ⟨b,e,h1,_,h3,_⟩:=h;obtain ⟨x0,x1,x2,x3,B,hr⟩:=h3 hs;obtain ⟨ng,ao,n,cap,J2,ao2,n2,Y2,e2⟩:=(hV _ hr).parts;simp only [Value.agg.injEq,Array.mk.injEq,List.cons.injEq,and_true] at e2;obtain ⟨rfl,rfl,rfl,rfl⟩:=e2;exact ⟨b,ng,ao,n,cap,J2,ao2,n2,Y2,e,h1,B,hr⟩
abbrev Qo:=Option Rat
def QV (w:World) (v:Value):Option Rat->Prop
 | some r => RatV w v r
 | none => VQ w v false
theorem QV.mono {w w':World} {v:Value} {o:Option Rat} (h:QV w v o) (hb:BH w w'):QV w' v o:=by
 cases o
 ·exact VQ.mono h hb
 ·exact RatV.mono h hb
theorem QV.parts {w:World} {v:Value} {o:Option Rat} (h:QV w v o):∃ (ng:Bool) (ao:Option Addr) (n cap:Nat) (J2:Bool) (ao2:Option Addr) (n2 Y2:Nat),v=.agg #[.bool ng,.slice ao n cap,.bool J2,.slice ao2 n2 Y2]:=by
 cases o
 ·exact VQ.parts h
 ·exact RatV.parts h
theorem QV.vq {w:World} {v:Value} {o:Option Rat} (h:QV w v o):VQ w v o.isSome:=by
 cases o
 ·exact h
 ·exact RatV.vq h
structure Four (w:World) (b o:Nat) (x0 x1 x2 x3:Value):Prop where
 c0:w.cell? ⟨b,o,none⟩=some x0
 c1:w.cell? ⟨b,o + 1,none⟩=some x1
 c2:w.cell? ⟨b,o + 2,none⟩=some x2
 c3:w.cell? ⟨b,o + 3,none⟩=some x3
 f0:True
 f1:True
 f2:True
 f3:True
theorem Four.lt {w:World} {b o:Nat} {x0 x1 x2 x3:Value} (h:Four w b o x0 x1 x2 x3):b < w.heap.size:=cell_lt h.c0
theorem Four.mono {w w':World} {b o:Nat} {x0 x1 x2 x3:Value} (h:Four w b o x0 x1 x2 x3) (hb:BH w w'):Four w' b o x0 x1 x2 x3 :=
 ⟨(hb.cell (p:=⟨b,o,none⟩) h.lt).trans h.c0,(hb.cell (p:=⟨b,o + 1,none⟩) h.lt).trans h.c1,(hb.cell (p:=⟨b,o + 2,none⟩) h.lt).trans h.c2,(hb.cell (p:=⟨b,o + 3,none⟩) h.lt).trans h.c3,trivial,trivial,trivial,trivial⟩
def UQ (w:World) (ao:Option Addr) (l:List (Option Rat)):Prop :=
 ∀ i o,l[i]?=some o->∃ (b off:Nat) (n1:Bool) (a1:Option Addr) (l1 c1:Nat) (n2:Bool) (a2:Option Addr) (l2 c2:Nat),ao=some ⟨b,off,none⟩ /\
  Four w b (off + i * 4) (.bool n1) (.slice a1 l1 c1) (.bool n2) (.slice a2 l2 c2) /\
  QV w (.agg #[.bool n1,.slice a1 l1 c1,.bool n2,.slice a2 l2 c2]) o
theorem UQ.mono {w w':World} {ao:Option Addr} {l:List (Option Rat)} (h:UQ w ao l) (hb:BH w w'):UQ w' ao l:=by
 intro i o hi;obtain ⟨b,off,n1,a1,l1,c1,n2,a2,l2,c2,e,h0,hq⟩:=h i o hi;exact ⟨b,off,n1,a1,l1,c1,n2,a2,l2,c2,e,h0.mono hb,hq.mono hb⟩
theorem UQ.nil (w:World) (ao:Option Addr):UQ w ao []:=λ i o h => by simp at h
def DotS:Rat->List Rat->List Rat->Option Rat->Prop
 | acc,a :: l,b :: m,o => (MulS a b/\AddS acc (a * b)/\DotS (acc + a * b) l m o)\/(¬ (MulS a b/\AddS acc (a * b))/\o=none)
 | acc,_,_,o => o=some acc
def DotP (o:Option Rat) (w':World) (e:Ending):Prop :=
 match o with
 | some r => GotQ w' r e
 | none => NoQ 3 e
theorem DotP.got {w':World} {e:Ending} {r:Rat} {o:Option Rat} (ho:Hid (o=some r)) (h:GotQ w' r e):DotP o w' e:=by rw [ho.out]; exact h
theorem DotP.no {w':World} {e:Ending} {o:Option Rat} (ho:Hid (o=none)) (h:NoQ 3 e):DotP o w' e:=by rw [ho.out]; exact h
theorem drop_at {α:Type} {l:List α} {k:Nat} {a:α} (h:l[k]?=some a):l.drop k=a :: l.drop (k + 1):=by
 obtain ⟨hk,rfl⟩:=List.getElem?_eq_some_iff.1 h;exact List.drop_eq_getElem_cons hk
theorem Box4.put4I {w:World} {n:Nat} {x0 x1 x2 x3:Value} (h:Box4 w n x0 x1 x2 x3) (y0 y1 y2 y3:Value):Box4 ((((w.setCell ⟨n,0,none⟩ y0).setCell ⟨n,1,none⟩ y1).setCell ⟨n,2,none⟩ y2).setCell ⟨n,3,none⟩ y3) n y0 y1 y2 y3:=h.set4Z y0 y1 y2 y3
def IsV4 (u:Value) (_:World) (v:Value):Prop:=v=u
theorem IsV4.parts {W:World} {v:Value} (h:IsV4 (.agg #[.bool false,.slice none 0 0,.bool false,.slice none 0 0]) W v):∃ (ng:Bool) (ao:Option Addr) (n cap:Nat) (J2:Bool) (ao2:Option Addr) (n2 Y2:Nat),v=.agg #[.bool ng,.slice ao n cap,.bool J2,.slice ao2 n2 Y2]:=⟨_,_,_,_,_,_,_,_,h⟩
end Go.Proofs.YtfgffkmddanjjaaGreatDoor
