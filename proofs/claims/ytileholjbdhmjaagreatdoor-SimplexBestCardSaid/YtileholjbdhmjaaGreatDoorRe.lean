/-
  The laws of chapter 13: copies of lists; integers; the region of a copied row.
-/
import Derived.Test.YtileholjbdhmjaaGreatDoorRd
import Derived.Test.YtileholjbdhmjaaGreatDoorSi
set_option linter.unusedVariables false
set_option linter.unusedSimpArgs false
set_option maxRecDepth 100000
set_option maxHeartbeats 25600000
namespace Go.Proofs.YtileholjbdhmjaaGreatDoor
open Go.RowKit
section
variable {ops : Array Oper} {rest : List Oper} {o : Oper} {a : Act} {Q : Exit → Act → World → Prop}
theorem app_e (w:World) {g c:Nat} {ad:Addr} (hgd:o.guard=none) (s x:Operand) (ho:o.op=.call { callee:=.builtin .append,args:=#[s,x],argTypes:=#[28,28] }) (hs:a.eval s=.slice (some ⟨g,0,none⟩) 0 0) (hx:a.eval x=.slice (some ad) 0 c)
  (hK:wpList Tryz.prog ops Q rest (a.put o.dst (.slice (some ⟨g,0,none⟩) 0 0)) w):wpList Tryz.prog ops Q (o :: rest) a w:=by
 obtain ⟨i0,hi,hz0,hz1,hz2⟩:=info_parts Tryz.info38;have hr:=run_append_room_cells (P:=Tryz.prog) (ty:=o.type) w 28 38 i0 Tryz.underlying28 hi g 0 0 0 ad 0 c [] (by simp) (by intro j u h; simp at h) (by intro u h; simp at h) nl (by intro j h; simp at h) (by intro j h; simp at h);refine wpList_plain hgd λ K hK' => ?_
 exact oper_append s x ho hs hx (by simpa [World.setCells] using hr) (hK' _ _ hK)
end
theorem qclone_o (l:List Qo) (ao:Option Addr) (c:Nat) (w:World) (hl:Hid (l.length<=100000)) (u:UQ w ao l) :
  Calls Tryz.prog 30 #[.slice ao l.length c] w λ e w' => (∃ v,e=.returned v/\OwnO w' w.heap.size v l)/\Below w.heap.size w w':=by
 cases l with
 | cons x r =>
  obtain ⟨b,off,_,_,_,_,_,_,_,_,ea,_⟩:=u 0 x rfl;subst ea;exact qclone_any _ _ b off c w (hii rfl) hl (hii (by simp)) u
 | nil =>
  have q27:∀ (w:World) (a:Option Addr) (n c n' c':Nat),(binOp .eql 28 (.slice a n c) (.slice none n' c')).run Tryz.prog w=.ok (.bool a.isNone) w:=λ w a n c n' c' => Lib.run_eql_slice_nil w _ _ a n c n' c' Tryz.underlying28
  simp only [List.length_nil];clear u hl
  cases ao with
  | none =>
   go_enter Tryz.func30,Tryz.ntmps30;go_wp2;go_ret;exact ⟨⟨_,rfl,OwnO.nil _ _⟩,br⟩
  | some ad =>
   have hba:=bA w (.cells #[] 38);have hm:=ownO_made w;go_enter Tryz.func30,Tryz.ntmps30;go_wp2_with (at_builtin; go_loud (refine app_e _ rfl _ _ rfl rfl rfl ?_));go_ret;exact ⟨⟨_,rfl,hm⟩,hba⟩
def Iz (w:World) (ao:Option Addr) (l:List Int):Prop:=∀ (k:Nat) (z:Int),l[k]?=some z->∃ b off,ao=some ⟨b,off,none⟩/\w.cell? ⟨b,off + k,none⟩=some (.int .i64 z)
theorem Iz.mono {w w':World} {ao:Option Addr} {l:List Int} (h:Iz w ao l) (hb:Below w.heap.size w w'):Iz w' ao l:=λ k z hk => by
 obtain ⟨b,off,e,hc⟩:=h k z hk;exact ⟨b,off,e,(hb.cell (cell_lt hc)).trans hc⟩
theorem nums13 (l:List Int) (hl:Hid (l.length<=100000/\∀ z∈l,-1000<=z/\z<=1000)) (ao:Option Addr) (cap:Nat) (w:World) (hU:Iz w ao l) (hE:Env w) :
  Calls Tryz.prog 27 #[.slice ao l.length cap] w λ e w' => ColP w' (l.map (λ z:Int => (z:Rat))) e/\Below w.heap.size w w':=by
 go_enter Tryz.func27,Tryz.ntmps27;go_wp2_with fail;go_loopw [3,8] (λ s c wr => ∃ k:Nat,k<=l.length/\c=.int .i64 k/\OwnQ wr w.heap.size s ((l.take k).map (λ z:Int => (z:Rat)))/\Below w.heap.size w wr) (λ _ c _ => l.length - (intOf c).toNat)
 case atStart => exact ⟨0,Nat.zero_le _,rfl,OwnQ.nil _ _,br⟩
 case round =>
  obtain ⟨k,hk,rfl,hown,hbr⟩:=hrel;have hl1:=hl.out.1
  by_cases hlt:k < l.length
  ·obtain ⟨z,hz⟩:∃ z,l[k]?=some z:=⟨l[k],gE hlt⟩;obtain ⟨b0,off0,ea,hc⟩:=(hU.mono hbr) k z hz;have hzb:=hl.out.2 z (List.mem_of_getElem? hz);have HC:Hid ((l.take (k + 1)).map (λ z:Int => (z:Rat))=(l.take k).map (λ z:Int => (z:Rat)) ++ [(z:Rat)]):=hii (by rw [List.take_add_one,hz]; simp);have HL:Hid (((l.take k).map (λ z:Int => (z:Rat))).length<=1000000):=hii (by simp; omega);have HR:=hii (rnum_any z (by omega) (by omega) wr (hE.mono hbr));subst ea;clear hz hzb;go_wp2_with fail;(with_reducible refine HR.out.mono ?_);rintro e w2 ⟨hz,hb⟩;obtain ⟨_,_,_,_,_,_,_,_,rfl,hV1,hV2⟩:=hz;have hown:=hown.mono hb;have hbr:=hbr.trans (hb.mono hbr.size);have hsz:=hbr.size;clear hb HR hc;go_wp2_with (at_builtin; refine app_q _ rfl _ _ rfl w w.heap.size _ ((l.take k).map (λ z:Int => (z:Rat))) rfl hown hsz hbr hV1 hV2 rfl HL.out ?_; intro v2 w2 hown2 hbel2 hsz2);go_roundw
   case rel => exact ⟨k + 1,by omega,by go_num,by rw [HC.out]; exact hown2,hbel2⟩
   case measure => simp [intOf]; omega
  ·obtain rfl:k=l.length:=by omega
   rw [List.take_length] at hown;obtain ⟨ao',cap',rfl,hU'⟩:=hown.read;clear hk;go_wp2;go_ret;exact ⟨⟨ao',cap',rfl,hU'⟩,hbr⟩
def FO (B:Nat) (l:List Qo) (G:Nat->Prop) (W:World) (v:Value):Prop:=(∃ a n c,v=.slice a n c)/\OwnO W B v l/\∀ k,v.ownBlock=some k->¬ G k
theorem FO.stay {B:Nat} {l:List Qo} {G G':Nat->Prop} {W W':World} {v:Value} (h:FO B l G W v) (hk:Kept G W W') (hn:NoG G W) (hg:∀ b,b < W.heap.size->G' b->G b):FO B l G' W' v :=
 ⟨h.1,h.2.1.kept hk hn h.2.2,λ k e hh => h.2.2 k e (hg k (h.2.1.lt k e).2 hh)⟩
structure OW (W:World) (B0 B g:Nat) (vA vB vC:Value) (ow:List (Value × List Qo)) (b C:List Qo):Prop where
 t:TG W B g vA (.slice none 0 0) [] ow
 r:Row W g 30 [vA,vB,vC]
 oB:OwnO W B0 vB b
 oC:OwnO W B0 vC C
 lB:∀ k,vB.ownBlock=some k->k < B/\k ≠ g
 lC:∀ k,vC.ownBlock=some k->k < B/\k ≠ g
 sep:Sep vB vC
 gl:g < B
 sz:B<=W.heap.size
theorem OW.mono {W W':World} {B0 B g:Nat} {vA vB vC:Value} {ow:List (Value × List Qo)} {b C:List Qo} (h:OW W B0 B g vA vB vC ow b C) (hb:Below W.heap.size W W'):OW W' B0 B g vA vB vC ow b C :=
 ⟨h.t.mono hb,h.r.below hb,h.oB.mono hb,h.oC.mono hb,h.lB,h.lC,h.sep,h.gl,Nat.le_trans h.sz hb.size⟩
theorem noInt_sl {v:Value} (h:∃ a n c,v=.slice a n c):NoInt v:=by
 obtain ⟨_,_,_,rfl⟩:=h;intro k z e
 cases e
theorem ow5 {Q:Exit->Act->World->Prop} {B0 B g cr:Nat} {vA vB vC:Value} {ow:List (Value × List Qo)} {b C l:List Qo} {ar:Option Addr} {w0 w:World} {x0 x1 x2 x4 x6 x7 x8 x9 x10 x11 x12 x13 x14 x15 x16 x17 x18 x19 x20 x21 x22 x23 x24 x25 x26 x27 x28:Value}
  (hw0:Below w0.heap.size w0 w) (hwg:w0.heap.size<=g) (h:OW w B0 B g vA vB vC ow b C) (hu:UQ w ar l) (hl:Hid (l.length<=100000)) (how:ow.length<=1000000)
  (hQ:∀ (T:Nat->Value) (W:World) (x vA2:Value),OW W B0 B g vA2 vB vC (ow ++ [(x,l)]) b C->Below w0.heap.size w0 W->Q .normal { tmps:=List.toArray (x0::x1::x2::(.pointer (some ⟨g,0,none⟩))::x4::(.slice ar l.length cr)::x6::x7::x8::x9::x10::x11::x12::x13::x14::x15::x16::x17::x18::x19::(T 20)::(T 21)::(T 22)::(T 23)::(T 24)::(T 25)::(T 26)::x27::x28::[]),defers:=[] } W) :
  Code.wp Tryz.prog (rgn Tryz.f13 5) Q { tmps:=List.toArray (x0::x1::x2::(.pointer (some ⟨g,0,none⟩))::x4::(.slice ar l.length cr)::x6::x7::x8::x9::x10::x11::x12::x13::x14::x15::x16::x17::x18::x19::x20::x21::x22::x23::x24::x25::x26::x27::x28::[]),defers:=[] } w:=by
 have HQ0:=hii hQ;clear hQ
 conv => arg 2; whnf
 refine wp_region_seq (wx:=w0) [(λ _ v => v=.pointer (some ⟨g,0,none⟩)),(λ _ v => v=vA),(λ _ v => v=.slice ar l.length cr),(λ W v => ∃ ar nn cr,v=.slice ar nn cr/\OwnO W w.heap.size (.slice ar nn cr) l),(λ W v => ∃ nb ar nn cr,v=.slice (some ⟨nb,0,none⟩) 1 1/\W.cell? ⟨nb,0,none⟩=some (.slice ar nn cr)/\OwnO W w.heap.size (.slice ar nn cr) l),(λ _ v => ∃ a n c,v=.slice a n c),(λ _ v => v=.pointer (some ⟨g,0,none⟩)),(λ _ _ => True)] [some 20,some 21,some 22,some 23,some 24,some 25,some 26,none] [20,21,22,23,24,25,26] [5,7] [[0,1],[0],[0,1],[0],[0],[0],[1],[1]] [none,none,none,some 0,some 0,none,none,none] (λ p T W => match p with | 0 => Below w.heap.size w W | 1 => ∃ x,TG W B g (T 25) (.slice none 0 0) [] (ow ++ [(x,l)])/\Row W g 30 [vA,vB,vC]/\OwnO W B0 vB b/\OwnO W B0 vC C/\B<=W.heap.size | _ + 2 => ∃ x vA2,OW W B0 B g vA2 vB vC (ow ++ [(x,l)]) b C) (by kernel_rfl) (by kernel_rfl) (by kernel_rfl) (by kernel_rfl) (of_decide_eq_true (by kernel_rfl)) (of_decide_eq_true (by kernel_rfl)) (by kernel_rfl) (by kernel_rfl) (λ T => br.drew) (λ p T W W' h hb => match p,h with | 0,h => bu h hb | 1,h => h.elim λ x h => ⟨x,h.1.mono hb,h.2.1.below hb,h.2.2.1.mono hb,h.2.2.2.1.mono hb,Nat.le_trans h.2.2.2.2 hb.size⟩ | _ + 2,h => h.elim λ x h => h.elim λ v h => ⟨x,v,h.mono hb⟩) (λ p T T' W hT h => match p,hT,h with | 0,_,h => h | 1,hT,h => (by have e:T' 25=T 25:=hT 0 (by decide); have h:∃ x,TG W B g (T 25) (.slice none 0 0) [] (ow ++ [(x,l)])/\Row W g 30 [vA,vB,vC]/\OwnO W B0 vB b/\OwnO W B0 vC C/\B<=W.heap.size:=h; show ∃ x,TG W B g (T' 25) (.slice none 0 0) [] (ow ++ [(x,l)])/\Row W g 30 [vA,vB,vC]/\OwnO W B0 vB b/\OwnO W B0 vC C/\B<=W.heap.size; rw [e]; exact h) | _ + 2,_,h => h) (hw0) ⟨stayS_val _ _,stayS_val _ _,stayS_val _ _,λ _ _ _ ⟨ar,nn,cr,e,h⟩ hb => ⟨ar,nn,cr,e,h.mono hb⟩,λ _ _ _ ⟨nb,ar,nn,cr,e,h1,h2⟩ hb => ⟨nb,ar,nn,cr,e,(hb.cell (p:=⟨nb,0,none⟩) (cell_lt h1)).trans h1,h2.mono hb⟩,λ _ _ _ h _ => h,stayS_val _ _,(λ _ _ _ h _ => h),trivial⟩ ⟨?s0,?s1,?s2,?s3,?s4,?s5,?s6,?s7,trivial⟩ ?he
 case' s0 | s1 | s2 | s3 | s4 | s5 | s6 | s7 =>
  rintro T W p hb hp hS hA K hK
 case' s0 | s2 =>
  clear hS;simp only [ovr,Act.put,sT,sZ,sS] at hK |-
 case' s1 =>
  obtain rfl:p=0:=by simpa using hp
  have hS:Below w.heap.size w W:=hS;have e0:T 20=.pointer (some ⟨g,0,none⟩):=hA.1 rfl;have r9:=h.r.below hS;obtain ⟨x0,x1,x2⟩:=r9.n3;simp only [ovr,Act.put,sT,sZ,sS,e0] at hK |-
 case' s6 =>
  obtain rfl:p=1:=by simpa using hp
  clear hS;have e0:T 20=.pointer (some ⟨g,0,none⟩):=hA.1 rfl;have e1:T 21=vA:=hA.2.1 rfl;have e2:T 22=.slice ar l.length cr:=hA.2.2.1 rfl;have r5:((λ _ v => ∃ a n c,v=.slice a n c):World->Value->Prop) W (T 25):=hA.2.2.2.2.2.1 rfl;simp only [ovr,Act.put,sT,sZ,sS,e0,e1,e2] at hK |-
 case s0 | s1 | s2 | s6 =>
  have HK:=hii hK;clear hK hA;refine wO rfl (by rfl) ?_;go_simp;exact HK.out _ _ ⟨λ _ => br,λ h => absurd h (seq_ne (by decide) (by decide))⟩ (rfl)
 case s3 =>
  obtain rfl:p=0:=by simpa using hp
  have hS:Below w.heap.size w W:=hS;have e2:T 22=.slice ar l.length cr:=hA.1 rfl;simp only [ovr,Act.put,sT,sZ,sS,e2] at hK |-;have HK:=hii hK;clear hK hA;refine wO rfl (by rfl) ?_;go_simp;(with_reducible refine (qclone_o l ar cr W hl (hu.mono hS)).mono ?_);rintro e w1 ⟨⟨v,rfl,ho⟩,hb1⟩;obtain ⟨a9,n9,c9,rfl⟩:=ho.sl
  try dsimp only
  exact HK.out _ _ ⟨λ _ => hb1,λ h => absurd h (seq_ne (by decide) (by decide))⟩ (⟨_,_,_,rfl,ho.base hS.size⟩)
 case s4 =>
  obtain rfl:p=0:=by simpa using hp
  clear hS;have r3:((λ W v => ∃ ar nn cr,v=.slice ar nn cr/\OwnO W w.heap.size (.slice ar nn cr) l):World->Value->Prop) W (T 23):=hA.1 (by decide);obtain ⟨a3,n3,c3,e3,ho⟩:=r3;simp only [ovr,Act.put,sT,sZ,sS,e3] at hK |-;have HK:=hii hK;clear hK hA;refine wO rfl (by rfl) ?_;go_simp;obtain ⟨w1,hw1⟩:∃ w1,w1=W.alloc (.cells #[.slice a3 n3 c3] 28):=⟨_,rfl⟩;have hb1:Below W.heap.size W w1:=by rw [hw1]; exact bA W _
  have hcw:w1.cell? ⟨W.heap.size,0,none⟩=some (.slice a3 n3 c3):=by rw [hw1]; simp [go_sem]
  rw [<- hw1]
  try dsimp only
  exact HK.out _ _ ⟨λ _ => hb1,λ h => absurd h (seq_ne (by decide) (by decide))⟩ (⟨_,_,_,_,rfl,hcw,ho.mono hb1⟩)
 case s5 =>
  obtain rfl:p=0:=by simpa using hp
  have hS:Below w.heap.size w W:=hS;have e1:T 21=vA:=hA.1 rfl;have r4:((λ W v => ∃ nb ar nn cr,v=.slice (some ⟨nb,0,none⟩) 1 1/\W.cell? ⟨nb,0,none⟩=some (.slice ar nn cr)/\OwnO W w.heap.size (.slice ar nn cr) l):World->Value->Prop) W (T 24):=hA.2.1 (by decide);have r3:((λ W v => ∃ ar nn cr,v=.slice ar nn cr/\OwnO W w.heap.size (.slice ar nn cr) l):World->Value->Prop) W (T 23):=hA.2.2.1 (by decide);simp only [ovr,Act.put,sT,sZ,sS,e1] at hK |-;have HK:=hii hK;clear hK hA;obtain ⟨nb,ar,nn,cr,e4,hc,hox⟩:=r4;have hRo:=h.r.below hS;obtain ⟨v1,w1,hr,ht,hbb,gr⟩:=h.t.appA (X:=W) hS hox h.sz br 27 hc how;rw [<- e4] at hr;refine wO rfl (by rfl) ?_;refine oper_append _ _ rfl rfl rfl hr ?_;simp only [Act.put,List.setIfInBounds_toArray,List.set_cons_zero,List.set_cons_succ];exact HK.out _ _ ⟨λ h => absurd rfl h,λ _ => ⟨⟨_,ht,hRo.under hbb h.gl,(h.oB.mono hS).kept gr.kept gr.noG (λ k e e2 => by have:=(h.lB k e).1; have:=(h.t.oA.lt k e2).1; omega),(h.oC.mono hS).kept gr.kept gr.noG (λ k e e2 => by have:=(h.lC k e).1; have:=(h.t.oA.lt k e2).1; omega),Nat.le_trans h.sz (Nat.le_trans hS.size gr.grown.size)⟩,hbb.mono (by have:=h.gl; omega)⟩⟩ (ht.slA)
 case s7 =>
  obtain rfl:p=1:=by simpa using hp
  have hS:∃ x,TG W B g (T 25) (.slice none 0 0) [] (ow ++ [(x,l)])/\Row W g 30 [vA,vB,vC]/\OwnO W B0 vB b/\OwnO W B0 vC C/\B<=W.heap.size:=hS;have e6:T 26=.pointer (some ⟨g,0,none⟩):=hA.1 rfl;have r5:((λ _ v => ∃ a n c,v=.slice a n c):World->Value->Prop) W (T 25):=hA.2.1 rfl;have e0:T 20=.pointer (some ⟨g,0,none⟩):=hA.2.2.2.1 rfl;have e1:T 21=vA:=hA.2.2.2.2.1 rfl;have e2:T 22=.slice ar l.length cr:=hA.2.2.2.2.2.1 rfl;obtain ⟨x,hT2,hR2,hB2,hC2,hsz⟩:=hS;obtain ⟨a9,n9,c9,e5⟩:=r5;rw [e5] at hT2;obtain ⟨y0,y1,y2⟩:=hR2.n3;have fz:=hR2.free 0;have hno:=hR2.noG' (by intro u hu; simp only [List.mem_cons,List.not_mem_nil,or_false] at hu; rcases hu with e | e | e <;> rw [e] <;> first | exact noInt_sl h.t.slA | exact noInt_sl h.oB.sl | exact noInt_sl h.oC.sl);have hkp:=((Kept.refl W:Kept (λ b => b=g) W W).setCell (p:=⟨g,0,none⟩) rfl (.slice a9 n9 c9));simp only [ovr,Act.put,sT,sZ,sS,e6,e0,e1,e2,e5] at hK |-;have HK:=hii hK;clear hK hA;refine wO rfl (by rfl) ?_;go_simp;exact HK.out undef _ ⟨λ h => absurd rfl h,λ _ => ⟨⟨x,.slice a9 n9 c9,hT2.keptg hkp hno.u,hR2.set 0 _,hB2.kept hkp hno (λ k e e2 => (h.lB k e).2 e2),hC2.kept hkp hno (λ k e e2 => (h.lC k e).2 e2),h.lB,h.lC,h.sep,h.gl,by simpa using hsz⟩,(Below.refl _ W).setCell (p:=⟨g,0,none⟩) (by show _<=g; omega) _⟩⟩ (trivial)
 case he =>
  rintro T W hb hS hA;have hS:∃ x vA2,OW W B0 B g vA2 vB vC (ow ++ [(x,l)]) b C:=hS;obtain ⟨x,vA2,hW⟩:=hS;simp only [ovr,sT,sZ,sS];exact HQ0.out T W x vA2 hW hb
def OwnP (B0:Nat) (w':World) (A:List (List Qo)) (b C:List Qo) (e:Ending):Prop :=
 ∃ vA vB vC B g ow,e=.returned (.agg #[vA,vB,vC])/\OW w' B0 B g vA vB vC ow b C/\ow.map (·.2)=A/\B0<=B
theorem UM.take_snoc {A:List (List Qo)} {k:Nat} {l:List Qo} {ow:List (Value × List Qo)} {x:Value} (h:ow.map (·.2)=A.take k) (hk:A[k]?=some l):(ow ++ [(x,l)]).map (·.2)=A.take (k + 1):=by
 rw [List.map_append,h,List.take_add_one,hk]
 rfl
theorem OW.put3 {W:World} {B0 B g g2 N:Nat} {E:TypeId} {vA vB vC:Value} {ow:List (Value × List Qo)} {b C:List Qo} (h:OW W B0 B g vA vB vC ow b C) (r:Row W g2 E [.slice none 0 0,.slice none 0 0,.slice none 0 0]) (hg:B0<=g) (hg2:g2 < B0) (hN:N<=B0) (x y z:Value) :
  OW (((W.setCell ⟨g2,0,none⟩ x).setCell ⟨g2,1,none⟩ y).setCell ⟨g2,2,none⟩ z) N B g vA vB vC ow b C:=by
 have hk:=(((Kept.refl W:Kept (λ b => b=g2) W W).setCell (p:=⟨g2,0,none⟩) rfl x).setCell (p:=⟨g2,1,none⟩) rfl y).setCell (p:=⟨g2,2,none⟩) rfl z;have hn:=r.noG' (by intro u hu; simp only [List.mem_cons,List.not_mem_nil,or_false] at hu; rcases hu with e | e | e <;> rw [e] <;> exact noInt_sl ⟨_,_,_,rfl⟩);have hgl:=h.gl;exact ⟨h.t.kept hk hn.u (λ k e e2 => by have:=(h.t.oA.lt k e).1; omega) (λ k e e2 => by simp [Value.ownBlock] at e) (λ p hp k e e2 => by have:=((h.t.o p hp).1.lt k e).1; omega),((h.r.oth (by omega) x).oth (by omega) y).oth (by omega) z,(h.oB.kept hk hn (λ k e e2 => by have:=(h.oB.lt k e).1; omega)).base hN,(h.oC.kept hk hn (λ k e e2 => by have:=(h.oC.lt k e).1; omega)).base hN,h.lB,h.lC,h.sep,h.gl,by simpa using h.sz⟩
theorem own13 (A:List (List Qo)) (b C:List Qo) (hA:Hid (A.length<=100000/\∀ r∈A,r.length<=100000)) (hBC:Hid (b.length<=100000/\C.length<=100000)) (aA aB aC:Option Addr) (cA cB cC:Nat) (w:World) (uA:UM w aA A) (uB:UQ w aB b) (uC:UQ w aC C) :
  Calls Tryz.prog 13 #[.agg #[.slice aA A.length cA,.slice aB b.length cB,.slice aC C.length cC]] w λ e w' => OwnP w.heap.size w' A b C e/\Below w.heap.size w w':=by
 have hlA:=hA.out.1;go_enter Tryz.func13,Tryz.ntmps13;go_upto_region 1 with fail;obtain ⟨wx,hwx,r1,r2,hb⟩:=two_rows w 30 30 [.slice aA A.length cA,.slice aB b.length cB,.slice aC C.length cC] [.slice none 0 0,.slice none 0 0,.slice none 0 0];simp only [List.toArray] at hwx;rw [<- hwx];clear hwx;obtain ⟨g2,hg2⟩:=exi (w.heap.size + 1);have hg2':=hg2;rw [<- hg2] at r2 |-;clear hg2;obtain ⟨g1,hg1⟩:=exi (w.heap.size);have hg1':=hg1;rw [<- hg1] at r1 |-;clear hg1;obtain ⟨w1,rfl⟩:=exi wx;have hbw:=hb;have uA1:=uA.mono hb;have uB1:=uB.mono hb;have uC1:=uC.mono hb;have hgg:Hid (w.heap.size<=g1/\w.heap.size<=g2/\g2 < w1.heap.size):=hii ⟨by omega,by omega,r2.lt⟩;clear hb hg1' hg2';refine wp_region_newx (wx:=w1) (λ _ => False) [(λ _ X _ => X 0=.pointer (some ⟨g1,1,none⟩)),(λ _ X _ => X 1=.slice aB b.length cB),(λ G X W => ((FO w1.heap.size b):(Nat->Prop)->World->Value->Prop) G W (X 2)),(λ _ X _ => X 3=.pointer (some ⟨g1,2,none⟩)),(λ _ X _ => X 4=.slice aC C.length cC),(λ G X W => FO w1.heap.size C G W (X 5)/\Sep (X 2) (X 5)),(λ G X W => FO w1.heap.size b G W (X 2)/\FO w1.heap.size C G W (X 5)/\Sep (X 2) (X 5)/\∃ a2 n2 c2 a5 n5 c5,X 2=.slice a2 n2 c2/\X 5=.slice a5 n5 c5/\X 6=.agg #[.slice none 0 0,.slice a2 n2 c2,.slice a5 n5 c5]),(λ _ _ _ => True),(λ _ _ _ => True)] [some 6,some 7,some 8,some 9,some 10,some 11,some 12,some 3,none] [none,none,none,none,none,none,none,some ⟨8,6,30,[.slice none 0 0,.slice none 0 0,.slice none 0 0]⟩,none] [6,7,8,9,10,11,12,3] (by kernel_rfl) (by kernel_rfl) (by kernel_rfl) (by kernel_rfl) (of_decide_eq_true (by kernel_rfl)) (by kernel_rfl) ⟨(by intro u hu k z e; subst e; simp at hu),trivial⟩ (λ b h => h) br ⟨adjX_val _ _ _,adjX_val _ _ _,(adjX_own (F:=FO w1.heap.size b) (λ G G' W W' v h hk hn hg => h.stay hk hn hg)),adjX_val _ _ _,adjX_val _ _ _,(λ G G' X X' W W' h hk hn hg hX => by have e5:=hX 5 (of_decide_eq_true (by kernel_rfl)); have e2:=hX 2 (of_decide_eq_true (by kernel_rfl)); show FO _ _ _ _ (X' 5)/\Sep (X' 2) (X' 5); rw [e5,e2]; exact ⟨h.1.stay hk hn hg,h.2⟩),(λ G G' X X' W W' h hk hn hg hX => by have e5:=hX 5 (of_decide_eq_true (by kernel_rfl)); have e2:=hX 2 (of_decide_eq_true (by kernel_rfl)); have e6:=hX 6 (of_decide_eq_true (by kernel_rfl)); show FO _ _ _ _ (X' 2)/\FO _ _ _ _ (X' 5)/\Sep (X' 2) (X' 5)/\∃ a2 n2 c2 a5 n5 c5,X' 2=.slice a2 n2 c2/\X' 5=.slice a5 n5 c5/\X' 6=.agg #[.slice none 0 0,.slice a2 n2 c2,.slice a5 n5 c5]; rw [e5,e2,e6]; exact ⟨h.1.stay hk hn hg,h.2.1.stay hk hn hg,h.2.2⟩),adjX_true _,adjX_true _,trivial⟩ ⟨⟨λ _ _ _ => trivial,λ _ _ _ => trivial⟩,trivial⟩ ⟨?s0,?s1,?s2,?s3,?s4,?s5,?s6,?s7,?s8,trivial⟩ ⟨?b7,trivial⟩ ?he
 case' s0 | s1 | s2 | s3 | s4 | s5 | s6 =>
  rintro - G T W hb hHG hGW hGo hNG hA K hK
 case' s0 | s3 =>
  simp only [ovr,Act.put,sT,sZ,sS] at hK |-
 case' s1 =>
  have e0:T 6=.pointer (some ⟨g1,1,none⟩):=hA.1;obtain ⟨x0,x1,x2⟩:=(r1.below hb).n3;simp only [ovr,Act.put,sT,sZ,sS,e0] at hK |-
 case' s4 =>
  have e3:T 9=.pointer (some ⟨g1,2,none⟩):=hA.1;obtain ⟨x0,x1,x2⟩:=(r1.below hb).n3;simp only [ovr,Act.put,sT,sZ,sS,e3] at hK |-
 case s0 | s1 | s3 | s4 =>
  have HK:=hii hK;clear hK hA;refine wO rfl (by rfl) ?_;go_simp;exact HK.out _ _ br λ X hX _ => hX
 case s2 =>
  have e1:T 7=.slice aB b.length cB:=hA.1;simp only [ovr,Act.put,sT,sZ,sS,e1] at hK |-;have HK:=hii hK;clear hK hA;refine wO rfl (by rfl) ?_;go_simp;(with_reducible refine (qclone_o b aB cB W (hii hBC.out.1) (uB1.mono hb)).mono ?_);rintro e w1' ⟨⟨v,rfl,ho⟩,hb1⟩
  try dsimp only
  exact HK.out _ _ (hb1) λ X hX _ => by
   show ((FO w1.heap.size b):(Nat->Prop)->World->Value->Prop) G _ (X 2)
   rw [hX];exact ⟨ho.sl,ho.base hb.size,λ k e hh => by have:=hGW k hh; have:=(ho.lt k e).1; omega⟩
 case s5 =>
  have e4:T 10=.slice aC C.length cC:=hA.1;have r2:((FO w1.heap.size b):(Nat->Prop)->World->Value->Prop) G W (T 8):=hA.2.1;have r2:FO w1.heap.size b G W (T 8):=r2;have hlt2:∀ k,(T 8).ownBlock=some k->k < W.heap.size:=λ k e => (r2.2.1.lt k e).2
  simp only [ovr,Act.put,sT,sZ,sS,e4] at hK |-;have HK:=hii hK;clear hK hA;refine wO rfl (by rfl) ?_;go_simp;(with_reducible refine (qclone_o C aC cC W (hii hBC.out.2) (uC1.mono hb)).mono ?_);rintro e w1' ⟨⟨v,rfl,ho⟩,hb1⟩
  try dsimp only
  refine HK.out _ _ (hb1) λ X hX hXo => ?_
  have e2:X 2=T 8:=hXo 2 (by decide)
  show FO _ _ _ _ (X 5)/\Sep (X 2) (X 5)
  rw [hX,e2];exact ⟨⟨ho.sl,ho.base hb.size,λ k e hh => by have:=hGW k hh; have:=(ho.lt k e).1; omega⟩,λ k e e2 => by have:=hlt2 k e; have:=(ho.lt k e2).1; omega⟩
 case s6 =>
  have r2:((FO w1.heap.size b):(Nat->Prop)->World->Value->Prop) G W (T 8):=hA.1;have r5:((λ G X W => FO w1.heap.size C G W (X 5)/\Sep (X 2) (X 5)):FactG) G (dv [some 6,some 7,some 8,some 9,some 10,some 11,some 12,some 3,none] T) W:=hA.2.1;have r2:FO w1.heap.size b G W (T 8):=r2;have r5:FO w1.heap.size C G W (T 11)/\Sep (T 8) (T 11):=r5;obtain ⟨a2,n2,c2,e2⟩:=r2.1;obtain ⟨a5,n5,c5,e5⟩:=r5.1.1;simp only [ovr,Act.put,sT,sZ,sS,e2,e5] at hK |-;have HK:=hii hK;clear hK hA;refine wO rfl (by rfl) ?_;go_simp;refine HK.out _ _ br λ X hX hXo => ?_
  have x2:X 2=T 8:=hXo 2 (by decide);have x5:X 5=T 11:=hXo 5 (by decide)
  show FO _ _ _ _ (X 2)/\FO _ _ _ _ (X 5)/\Sep (X 2) (X 5)/\∃ a2 n2 c2 a5 n5 c5,X 2=.slice a2 n2 c2/\X 5=.slice a5 n5 c5/\X 6=.agg #[.slice none 0 0,.slice a2 n2 c2,.slice a5 n5 c5]
  rw [hX,x2,x5];exact ⟨r2,r5.1,r5.2,_,_,_,_,_,_,e2,e5,rfl⟩
 case s7 => exact λ h => absurd h (by decide)
 case s8 => exact λ h => absurd h (by decide)
 case b7 =>
  refine ⟨?_,?_⟩
  ·rintro o ho T W K hK;obtain rfl:=Option.some.inj ho;simp only [ovr,Act.put,sT,sZ,sS] at hK |-;have HK:=hii hK;clear hK ho;refine wO rfl (by rfl) ?_;go_simp;exact HK.out
  ·rintro o ho G T W nb hA hp hrow K hK;obtain rfl:=Option.some.inj ho;have ep:T 3=.pointer (some ⟨nb,0,none⟩):=hp;have r6:((λ G X W => FO w1.heap.size b G W (X 2)/\FO w1.heap.size C G W (X 5)/\Sep (X 2) (X 5)/\∃ a2 n2 c2 a5 n5 c5,X 2=.slice a2 n2 c2/\X 5=.slice a5 n5 c5/\X 6=.agg #[.slice none 0 0,.slice a2 n2 c2,.slice a5 n5 c5]):FactG) G (dv [some 6,some 7,some 8,some 9,some 10,some 11,some 12,some 3,none] T) W:=hA.2.1;obtain ⟨_,_,_,a2,n2,c2,a5,n5,c5,_,_,e6⟩:=r6;have e6:T 12=.agg #[.slice none 0 0,.slice a2 n2 c2,.slice a5 n5 c5]:=e6;have hK:=hK [.slice none 0 0,.slice a2 n2 c2,.slice a5 n5 c5] (.inl e6) rfl (by intro u hu k z e; subst e; simp at hu);simp only [ovr,sT,sZ,sS,ep,e6] at hK |-;have HK:=hii hK;clear hK hA ho;have q0:=hrow.cell (k:=0) (by simp);have f0:=hrow.free 0;have q1:=hrow.cell (k:=1) (by simp);have f1:=hrow.free 1;have q2:=hrow.cell (k:=2) (by simp);have f2:=hrow.free 2;simp only [List.getElem_cons_zero,List.getElem_cons_succ] at q0 q1 q2;refine wO rfl (by rfl) ?_;go_simp;exact HK.out
 case he =>
  rintro GG N T W hb hHG hGW hGo hbox hNG hne hA;obtain ⟨ep,hG7,hge,vs,hsto,hrow⟩:=hbox 7 _ rfl;have ep:T 3=.pointer (some ⟨N 7,0,none⟩):=ep;have f6:FO w1.heap.size b GG W (T 8)/\FO w1.heap.size C GG W (T 11)/\Sep (T 8) (T 11)/\∃ a2 n2 c2 a5 n5 c5,T 8=.slice a2 n2 c2/\T 11=.slice a5 n5 c5/\T 12=.agg #[.slice none 0 0,.slice a2 n2 c2,.slice a5 n5 c5]:=hA.at 6 (by decide);obtain ⟨hFB,hFC,hsep,a2,n2,c2,a5,n5,c5,e8,e11,e12⟩:=f6;have hvs:vs=[.slice none 0 0,.slice a2 n2 c2,.slice a5 n5 c5]:=by
   rcases hsto.1 with h1 | h1
   ·have h1:T 12=.agg vs.toArray:=h1;rw [e12] at h1;simp only [Value.agg.injEq] at h1;have:=congrArg Array.toList h1
    simpa using this.symm
   ·have:=hsto.2;rw [h1] at this;simp at this
  rw [hvs] at hrow;rw [e8] at hFB hsep;rw [e11] at hFC hsep;clear hsto hvs hA hbox hHG hGo hNG hne;obtain ⟨g,hg⟩:∃ g,g=N 7:=⟨_,rfl⟩;rw [<- hg] at ep hrow hG7 hge;simp only [ovr,sT,sZ,sS,ep];have hOW:OW W w1.heap.size W.heap.size g (.slice none 0 0) (.slice a2 n2 c2) (.slice a5 n5 c5) [] b C :=
   ⟨TG.nil (hGW g hG7),hrow,hFB.2.1,hFC.2.1,λ k e => ⟨(hFB.2.1.lt k e).2,λ h => hFB.2.2 k e (h ▸ hG7)⟩,λ k e => ⟨(hFC.2.1.lt k e).2,λ h => hFC.2.2 k e (h ▸ hG7)⟩,hsep,hGW g hG7,nl⟩
  have Hgg:Hid (w1.heap.size<=g/\w.heap.size<=g2/\g2 < w1.heap.size):=hii ⟨hge,hgg.out.2⟩;have r20:=r2;have r1:=r1.below hb;have hbw0:=hbw;have hbw:=hb;clear hFB hFC hsep e8 e11 e12 ep hrow hG7 hge hg hGW hb hgg uB1 uC1 r2;obtain ⟨w2,rfl⟩:=exi W;obtain ⟨B,hB⟩:=exi (w2.heap.size);rw [<- hB] at hOW;clear hB;obtain ⟨x0,x1,x2⟩:=r1.n3;go_wp2_with fail;clear x0 x1 x2;go_loopw [16] (λ s wr => ∃ (k:Nat) (vA:Value) (ow:List (Value × List Qo)),k<=A.length/\s=.int .i64 (k:Nat)/\OW wr w1.heap.size B g vA (.slice a2 n2 c2) (.slice a5 n5 c5) ow b C/\Hid (ow.map (·.2)=A.take k)/\Below w1.heap.size w1 wr) (λ s _ => A.length - (intOf s).toNat)
  case atStart => exact ⟨0,_,_,Nat.zero_le _,rfl,hOW,hii rfl,hbw⟩
  case round =>
   clear hbw hOW r1;obtain ⟨k,vA,ow,hk,rfl,hOW,HO,hbw⟩:=hrel
   by_cases hlt:k < A.length
   ·obtain ⟨l,hl⟩:∃ l,A[k]?=some l:=⟨A[k],gE hlt⟩;obtain ⟨b0,off0,ar,cr,ea,hc,ur⟩:=(uA1.mono hbw) k l hl;have Hl:Hid (l.length<=100000):=hii (hA.out.2 l (List.mem_of_getElem? hl));have HK:Hid (A[k]?=some l):=hii hl;have how:ow.length<=1000000:=by have:=congrArg List.length HO.out; simp only [List.length_map,List.length_take] at this; omega
    subst ea;clear hl;go_upto_region 5 with fail;refine ow5 (w0:=w1) hbw Hgg.out.1 hOW ur Hl how ?_;rintro T w3 x vA2 hOW2 hb3;have HO2:Hid ((ow ++ [(x,l)]).map (·.2)=A.take (k + 1)):=hii (UM.take_snoc HO.out HK.out);clear hOW HO hbw hc ur how;go_wp2;go_roundw
    case rel => exact ⟨k + 1,vA2,_,by omega,by go_num,hOW2,HO2,hb3⟩
    case measure => simp [intOf]; omega
   ·have hke:k=A.length:=by omega
    have HOA:Hid (ow.map (·.2)=A):=hii (by rw [HO.out,hke,List.take_length]);have r2:=r20.under hbw Hgg.out.2.2;clear hke hk HO r20 uA1;obtain ⟨y0,y1,y2⟩:=hOW.r.n3;obtain ⟨z0,z1,z2⟩:=r2.n3;have f0:=r2.free 0;have f1:=r2.free 1;have f2:=r2.free 2;obtain ⟨a9,n9,c9,e9⟩:=hOW.t.slA;subst e9;go_wp2;refine bodyPost_ret (v:=.agg #[.slice a9 n9 c9,.slice a2 n2 c2,.slice a5 n5 c5]) (by simp [results,Tryz.results13,go_sem,z0,z1,z2]) rfl ⟨⟨_,_,_,B,g,ow,rfl,hOW.put3 r2 Hgg.out.1 Hgg.out.2.2 hbw0.size _ _ _,HOA.out,by have:=hOW.gl; have:=Hgg.out; omega⟩,Below.put3 (hbw0.trans (hbw.mono hbw0.size)) Hgg.out.2.1 _ _ _⟩
end Go.Proofs.YtileholjbdhmjaaGreatDoor
