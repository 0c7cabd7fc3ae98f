/-
  The simplex method: exchanges until the target cannot be improved, or a variable can grow without a bound.
-/
import Derived.Test.YtfgffkmddanjjaaGreatDoorSg
import Derived.Test.YtfgffkmddanjjaaGreatDoorSxA
import Derived.Deep.LoopGhost
set_option linter.unusedVariables false
set_option linter.unusedSimpArgs false
set_option maxRecDepth 100000
set_option maxHeartbeats 25600000
namespace Go.Proofs.YtfgffkmddanjjaaGreatDoor
open _root_.Go.Proofs.Tryz
open Go.RowKit
theorem zfa (r:Rat):zgM (some r)=true↔r < 0:=by
 show decide (r.num < 0)=true↔_
 rw [decide_eq_true_iff];exact zll.symm
theorem ziJ (L:Nat->Nat->Rat) (m q:Nat) {z:Int} (h:zgS zgM (zbf L m q)=z):(z=-1/\∀ j,j < q->0<=L m j)\/∃ k:Nat,z=(k:Int)/\k < q/\L m k < 0/\∀ j,j < k->0<=L m j:=by
 unfold zgS at h;have key:∀ j,zgM (some (L m j))=false->0<=L m j:=λ j hj => Rat.not_lt.1 λ hn => by
  rw [(zfa _).2 hn] at hj; cases hj
 cases hf:(zbf L m q).findIdx? zgM with
 | none =>
  rw [hf] at h;refine .inl ⟨h.symm,λ j hj => key j ?_⟩;rw [List.findIdx?_eq_none_iff] at hf;exact hf _ (List.mem_of_getElem? (zbs hj))
 | some k =>
  rw [hf] at h;rw [List.findIdx?_eq_some_iff_getElem] at hf;obtain ⟨hk,h1,h2⟩:=hf;rw [zal] at hk;have e:∀ j (hj:j < (zbf L m q).length),(zbf L m q)[j]=some (L m j):=λ j hj => by
   have:=zbs (L:=L) (i:=m) (k:=q) (j:=j) (by rw [zal] at hj; exact hj);rw [gE hj] at this;exact Option.some.inj this
  refine .inr ⟨k,h.symm,hk,(zfa _).1 (by rw [<- e k (by rw [zal]; exact hk)]; exact h1),λ j hj => key j ?_⟩;have:=h2 j hj;rw [e] at this
  simpa using this
def znM (d:Sx.Dat) (m q:Nat) (z:Int) (L:Nat->Nat->Rat) (bs:Nat->Nat):Prop :=
 Sx.Feas d L bs/\((z=-1/\∀ j,j < q->0<=L m j)\/∃ k:Nat,z=(k:Int)/\k < q/\L m k < 0/\∀ t,t < m->L t k<=0)
structure SzD (d:Sx.Dat) (m n q:Nat):Prop where
 hm:d.m=m
 hn:d.n=n
 hw:d.w=q
 sz:∀ L bs,Sx.Feas d L bs->∀ i,i<=m->∀ j,j < q + 1->Kb 1 (L i j)
theorem zk9 {d:Sx.Dat} {m n q k r:Nat} {L M:Nat->Nat->Rat} {bs cs:Nat->Nat} (hd:SzD d m n q) (hk:k < q) (h1:L m k < 0) (h2:∀ j,j < k->0<=L m j) (hr:r < m) (hp:0 < L r k)
  (hl:∀ t,t < m->0 < L t k->L r q / L r k < L t q / L t k\/(L r q / L r k=L t q / L t k/\bs r<=bs t)) (hv:znt m q r k L bs M cs):Sx.Step d L bs k r M cs:=by
 obtain ⟨rfl,rfl,rfl,_⟩:=hd;obtain ⟨h3,h4,rfl⟩:=hv;exact ⟨⟨hk,h1,h2⟩,⟨hr,hp,hl⟩,⟨λ j hj => h3 j (by omega),λ t ht hne j hj => h4 t ht hne j (by omega),if_pos rfl,λ t _ hne => if_neg hne⟩⟩
theorem zmz {B g ga ca gb cb m n q:Nat} {rr cr:Nat->Nat} {L:Nat->Nat->Rat} {bs:Nat->Nat} (d:Sx.Dat) (hd:Hid (SzD d m n q)) (w:World) (h:TB w B g ga ca gb cb m n q rr cr L bs) (hF:Hid (Sx.Feas d L bs)) :
  Calls Tryz.prog 116 #[.pointer (some ⟨g,0,none⟩)] w λ e w' => (∃ (z:Int) (M:Nat->Nat->Rat) (cs:Nat->Nat),e=.returned (.tuple #[.int .i64 z,.int .i64 0])/\Hid (znM d m q z M cs)/\TB w' B g ga ca gb cb m n q rr cr M cs)/\Below B w w':=by
 have hbw:=Below.refl B w;obtain ⟨gn,hgn⟩:∃ gn,gn=Sx.left d bs:=⟨_,rfl⟩;have Hgn:=hii hgn;clear hgn;go_enter func116,ntmps116;go_wp2_with fail;go_loopg [] gn (λ gg wr => ∃ (L:Nat->Nat->Rat) (bs:Nat->Nat),Hid (gg=Sx.left d bs)/\Hid (Sx.Feas d L bs)/\TB wr B g ga ca gb cb m n q rr cr L bs/\Below B w wr)
 case atStart => exact ⟨L,bs,Hgn,hF,h,hbw⟩
 case round =>
  clear h hF hbw Hgn;obtain ⟨L,bs,Hgg,HF,h,hbw⟩:=hrel;have HS:=hii (hd.out.sz L bs HF.out);obtain ⟨z,hz⟩:∃ z,zgS zgM (zbf L m q)=z:=⟨_,rfl⟩;have HE:=hii (zf6 wr h);rw [hz] at HE;have HZ:=hii (ziJ L m q hz);clear hz;go_wp2_with fail;go_fit (HE.out);rintro e w2 ⟨rfl,hb⟩;have hbw:=Below.step' hbw hb h.size;have h:=h.mono hb;clear hb HE;rcases HZ.out with ⟨rfl,hz⟩ | ⟨k,rfl,hk,h1,h2⟩
  ·have HR:Hid (znM d m q (-1) L bs):=hii ⟨HF.out,.inl ⟨rfl,hz⟩⟩;clear hz HZ;go_wp2;go_ret2;exact ⟨⟨-1,L,bs,rfl,HR,h⟩,hbw⟩
  ·have H1:=hii h1;have H2:=hii h2;have gk:decide ((k:Int) < 0)=false:=decide_eq_false (by omega);clear h1 h2 HZ;go_wp2_with fail;go_fit (zhz k w2 h hk HS);rintro e w3 ⟨⟨z2,rfl,HZ2⟩,hb⟩;have hbw:=Below.step' hbw hb h.size;have h:=h.mono hb;clear hb;obtain ⟨x0,x1,x2,x3,x4⟩:=h.box.n5;rcases HZ2.out with ⟨rfl,hno⟩ | ⟨r,rfl,hr,hp,hl⟩
   ·have HR:Hid (znM d m q (k:Int) L bs):=hii ⟨HF.out,.inr ⟨k,rfl,hk,H1.out,λ t ht => Rat.not_lt.1 (hno t ht)⟩⟩;clear hno HZ2;go_wp2;go_ret2;exact ⟨⟨k,L,bs,rfl,HR,h⟩,hbw⟩
   ·have Hp:=hii hp;have Hl:=hii hl;have Hne:Hid ((L r k).num ≠ 0):=hii (by have:=zep.1 hp; omega);have gr:decide ((r:Int) < 0)=false:=decide_eq_false (by omega);clear hp hl HZ2;go_wp2_with fail;go_fit (zjZ r k w3 h hr hk HS Hne);rintro e w4 ⟨⟨rfl,M,cs,hP,h4⟩,hb⟩;have hbw:=hbw.trans hb;have HST:=hii (zk9 hd.out hk H1.out H2.out hr Hp.out Hl.out hP);clear hb hP x0 x1 x2 x3 x4 h;have h:=h4;clear h4;obtain ⟨x0,x1,x2,x3,x4⟩:=h.box.n5;go_wp2;go_roundg (Sx.left d cs)
    case measure => rw [Hgg.out]; exact Sx.left_step HF.out HST.out
    case rel => exact ⟨M,cs,hii rfl,hii (HST.out.feas HF.out),h,hbw⟩
end Go.Proofs.YtfgffkmddanjjaaGreatDoor
