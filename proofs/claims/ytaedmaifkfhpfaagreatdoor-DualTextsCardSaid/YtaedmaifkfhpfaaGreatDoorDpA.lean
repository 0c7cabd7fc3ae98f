/-
  Texts that are parted at a separator, plain: what strings.Split returns, what the reference's split computes, and that the parts of a joined text are the parts.
-/
import Derived.Test.YtaedmaifkfhpfaaGreatDoorI1
import Derived.Lib.Split
import Derived.Lib.IndexMore
import Derived.Lib.CountLaws
import Derived.Lib.SplitLaws
import Derived.Test.YtaedmaifkfhpfaaGreatDoorQ7
import Derived.Test.YtaedmaifkfhpfaaGreatDoorDuV
import Derived.Test.YtaedmaifkfhpfaaGreatDoorShelfD
import Derived.Shelf.Strings.PiecesUse
set_option linter.unusedVariables false
set_option linter.unusedSimpArgs false
namespace Sp
open Go.Lib
section
variable {s sep a rest : List UInt8} {c : UInt8} {t : List UInt8} {b i n : Nat} {out : List (List UInt8)}
theorem split_miss (h:index s sep=-1):split s sep=[s]:=by
 unfold split;rw [count_miss h]; rfl
theorem split_hit (hs:sep ≠ []) (h:index s sep=(i:Int)):split s sep=s.take i :: split (s.drop (i + sep.length)) sep:=by
 unfold split;rw [count_hit hs h,Nat.add_comm 1,splitK,if_neg (by rw [h]; simp only [beq_iff_eq]; omega),h,Int.toNat_natCast,Nat.add_zero]
theorem occ_no (hc:c ∉ a) (rest:List UInt8) {j:Nat} (hj:j < a.length):occAt (a ++ rest) (c :: t) j=false:=by
 unfold occAt;rw [List.drop_append_of_le_length (by omega),List.drop_eq_getElem_cons hj,List.cons_append];have hne:c ≠ a[j]:=fun e => hc (e ▸ List.getElem_mem hj)
 simp [List.isPrefixOf,hne]
theorem occ_past {j:Nat} (hs:sep ≠ []) (h:s.length < j + sep.length):occAt s sep j=false:=by
 unfold occAt;rw [Bool.eq_false_iff];intro he;have:=(List.isPrefixOf_iff_prefix.1 he).length_le;rw [List.length_drop] at this;rcases Nat.lt_or_ge j s.length with h1 | h1
 ·omega
 ·exact hs (List.length_eq_zero_iff.1 (by omega))
theorem index_at (hc:c ∉ a) (rest:List UInt8):index (a ++ (c :: t ++ rest)) (c :: t)=(a.length:Int):=by
 refine index_first (by simp) ?_ fun j hj => occ_no hc _ hj
 unfold occAt;rw [List.drop_left];exact List.isPrefixOf_iff_prefix.2 (List.prefix_append _ _)
theorem index_no (hc:c ∉ a):index a (c :: t)=-1:=by
 refine index_none fun j hj => ?_
 rcases Nat.lt_or_ge j a.length with h | h
 ·have:=occ_no (t:=t) hc [] h
  rwa [List.append_nil] at this
 ·exact occ_past (by simp) (by simp only [List.length_cons]; omega)
theorem split_join:∀ (r:List (List UInt8)) (a:List UInt8),c ∉ a→(∀ p∈r,c ∉ p)→split (a ++ (r.map ((c :: t) ++ ·)).flatten) (c :: t)=a :: r
 | [],a,h,_ => by
  rw [List.map_nil,List.flatten_nil,List.append_nil];exact split_miss (index_no h)
 | p :: r,a,h,hr => by
  rw [List.map_cons,List.flatten_cons,List.append_assoc,split_hit (by simp) (index_at h _),List.take_left]
  congr 1
  have e:(a ++ (c :: t ++ (p ++ (r.map ((c :: t) ++ ·)).flatten))).drop (a.length + (c :: t).length)=p ++ (r.map ((c :: t) ++ ·)).flatten:=by
   rw [← List.append_assoc a (c :: t),← List.length_append,List.drop_left]
  rw [e];exact split_join r p (hr p (by simp)) fun q hq => hr q (by simp [hq])
structure SpI (s sep:List UInt8) (out:List (List UInt8)) (b i:Nat):Prop where
 eq:out ++ split (s.drop b) sep=split s sep
 le:b≤s.length
 no:∀ j,b≤j→j < i→occAt s sep j=false
theorem SpI.start (s sep:List UInt8):SpI s sep [] 0 0:=⟨rfl,Nat.zero_le _,fun j _ h => by omega⟩
theorem SpI.skip (h:SpI s sep out b i) (hi:i < b):SpI s sep out b (i + 1):=⟨h.eq,h.le,fun j h1 h2 => by omega⟩
theorem SpI.miss (h:SpI s sep out b i) (ho:occAt s sep i=false):SpI s sep out b (i + 1):=⟨h.eq,h.le,fun j h1 h2 => by
 by_cases e:j=i
 ·rw [e]; exact ho
 ·exact h.no j h1 (by omega)⟩
theorem occ_drop (s sep:List UInt8) (b j:Nat):occAt (s.drop b) sep j=occAt s sep (b + j):=by
 unfold occAt;rw [List.drop_drop]
theorem SpI.hit (h:SpI s sep out b i) (hs:sep ≠ []) (hb:b≤i) (hi:i + sep.length≤s.length) (ho:occAt s sep i=true):SpI s sep (out ++ [(s.drop b).take (i - b)]) (i + sep.length) (i + 1):=by
 have hx:index (s.drop b) sep=((i - b:Nat):Int):=by
  refine index_first (by rw [List.length_drop]; omega) ?_ fun j hj => ?_
  ·rw [occ_drop,show b + (i - b)=i by omega]; exact ho
  ·rw [occ_drop]; exact h.no _ (by omega) (by omega)
 refine ⟨?_,hi,fun j h1 h2 => ?_⟩
 ·rw [← h.eq,split_hit hs hx,List.drop_drop,show b + (i - b + sep.length)=i + sep.length by omega,List.append_assoc]; rfl
 ·have:=List.length_pos_iff.2 hs;omega
theorem SpI.done (h:SpI s sep out b i) (hs:sep ≠ []) (hi:s.length < i + sep.length):out ++ [s.drop b]=split s sep:=by
 rw [← h.eq]
 congr 1
 refine (split_miss (index_none fun j hj => ?_)).symm;rw [occ_drop];rcases Nat.lt_or_ge (b + j) i with h1 | h1
 ·exact h.no _ (by omega) h1
 ·exact occ_past hs (by omega)
theorem occ_slice:occAt s sep i=decide ((s.drop i).take sep.length=sep):=by
 unfold occAt;rw [Bool.eq_iff_iff,List.isPrefixOf_iff_prefix,decide_eq_true_iff,List.prefix_iff_eq_take];exact ⟨fun h => h.symm,fun h => h.symm⟩
theorem split_pos (s sep:List UInt8):split s sep ≠ []:=by
 unfold split
 cases count s sep with
 | zero => simp [splitK]
 | succ k => unfold splitK; split <;> simp
end
theorem extract_eq (s:List UInt8) (b i:Nat):(⟨s.toArray⟩:ByteArray).extract b i=⟨((s.drop b).take (i - b)).toArray⟩:=by
 apply ByteArray.ext
 apply Array.ext'
 rw [extract_data]
theorem split_bytes (s sep:List UInt8):splitB ⟨sep.toArray⟩ 0 (countB ⟨s.toArray⟩ ⟨sep.toArray⟩) ⟨s.toArray⟩=(split s sep).map fun p => ⟨p.toArray⟩:=by
 have h:=splitB_data ⟨sep.toArray⟩ 0 (countB ⟨s.toArray⟩ ⟨sep.toArray⟩) ⟨s.toArray⟩;have e:countB ⟨s.toArray⟩ ⟨sep.toArray⟩=count s sep:=rfl;unfold split;rw [e] at h ⊢;have e2:splitK sep 0 (count s sep) s=(splitB ⟨sep.toArray⟩ 0 (count s sep) ⟨s.toArray⟩).map (·.data.toList):=h.symm;rw [e2,List.map_map]
 conv => lhs; rw [← List.map_id (splitB _ _ _ _)]
 refine List.map_congr_left fun x _ => ?_
 rfl
theorem split_count (s sep:List UInt8) (h:sep ≠ []):(split s sep).length=countB ⟨s.toArray⟩ ⟨sep.toArray⟩ + 1:=by
 have:=splitB_all ⟨sep.toArray⟩ (by have:=List.length_pos_iff.2 h; show 1≤sep.toArray.size; rw [List.size_toArray]; omega) 0 _ ⟨s.toArray⟩ rfl;rw [split_bytes,List.length_map] at this;exact this
theorem split_len (s sep:List UInt8) (h:sep ≠ []):∀ p∈split s sep,p.length≤s.length:=by
 have key:∀ n,∀ s:List UInt8,s.length≤n→∀ p∈split s sep,p.length≤s.length:=by
  intro n
  induction n with
  | zero =>
   intro s hs p hp;rcases index_spec s sep with ⟨h1,_⟩ | ⟨i,h1,h2,_⟩
   ·rw [split_miss h1] at hp; simp at hp; rw [hp]; exact nl
   ·have h3:=index_room s sep (by omega);have h4:=List.length_pos_iff.2 h;omega
  | succ n ih =>
   intro s hs p hp;rcases index_spec s sep with ⟨h1,_⟩ | ⟨i,h1,h2,_⟩
   ·rw [split_miss h1] at hp; simp at hp; rw [hp]; exact nl
   ·have h3:=index_room s sep (by omega);have h4:=List.length_pos_iff.2 h;rw [split_hit h h1] at hp;rcases List.mem_cons.1 hp with hp | hp
    ·rw [hp,List.length_take]; omega
    ·have:=ih _ (by rw [List.length_drop]; omega) p hp;rw [List.length_drop] at this;omega
 exact key s.length s nl
theorem split_num (s sep:List UInt8) (h:sep ≠ []):(split s sep).length≤s.length + 2:=by
 rw [split_count s sep h];have:=count_le s sep;have e:countB ⟨s.toArray⟩ ⟨sep.toArray⟩=count s sep:=rfl;omega
end Sp
namespace Go.Proofs.YtaedmaifkfhpfaaGreatDoor
open Go.RowKit
theorem Parse_text (r:Rat) (s:List UInt8) (w:World) (hs:Hid (Rq.textQ r=s)) (h1:Rq.Sm r.num) (h2:Rq.Sm (r.den:Int)) (hE:Env w) (hM:MaxV w) :
  Calls Tryz.prog 24 #[.string ⟨s.toArray⟩] w fun e w' => GotQ w' r e∧Below w.heap.size w w':=by
 rw [← hs.out];have hl:=Rq.textQ_len h1 h2;obtain ⟨g1,g2⟩:=goodT_itoa h1
 by_cases hd:r.den=1
 ·rw [Rq.textQ_one hd] at hl ⊢;exact ParseQ_tail (Lib.itoa r.num) (Lib.itoa r.num) [] false r.num (some r) w (by omega) (by omega) (by simp) (hii (Rq.cut_none (Rq.itoa_noslash h1))) (hii g1) (hii g2) (.inl ⟨rfl,r,rfl,hii rfl,hii (by rw [hd]; rfl)⟩) hE hM
 ·rw [Rq.textQ_two hd] at hl ⊢;obtain ⟨g3,g4⟩:=goodT_itoa h2;simp at hl;exact ParseQ_tail _ (Lib.itoa r.num) (Lib.itoa (r.den:Int)) true r.num (some r) w (by simp; omega) (by omega) (by omega) (hii (Rq.cut_split (Rq.itoa_noslash h1))) (hii g1) (hii g2)
   (.inr (.inr (.inr (.inr ⟨rfl,hii g3,(r.den:Int),r,rfl,hii g4,hii (by have:=Rq.den_gt r; omega),hii rfl,hii rfl⟩)))) hE hM
def PT (s:List UInt8) (o:Option Rat):Prop:=∀ w:World,Env w→MaxV w→Calls Tryz.prog 24 #[.string ⟨s.toArray⟩] w fun e w' => PRes o w' e∧Below w.heap.size w w'
def PTr (s:List UInt8) (o:Option Rat):Prop:=∀ w:World,Env w→Calls Tryz.prog 28 #[.string ⟨s.toArray⟩] w fun e w' => PRes o w' e∧Below w.heap.size w w'
theorem pt_both (s:List UInt8) (hs:s.length≤1000000):∃ o,PT s o∧PTr s o:=parse_both s hs
theorem pt_text {r:Rat} (h1:Rq.Sm r.num) (h2:Rq.Sm (r.den:Int)):PT (Rq.textQ r) (some r):=fun w hE hM => Parse_text r _ w (hii rfl) h1 h2 hE hM
def PTs (f:List UInt8→Option Rat→Prop) (ws:List (List UInt8)) (os:List (Option Rat)):Prop:=ws.length=os.length∧∀ (i:Nat) (s:List UInt8) (o:Option Rat),ws[i]?=some s→os[i]?=some o→f s o
theorem pts_both:∀ (ws:List (List UInt8)),(∀ s∈ws,s.length≤1000000)→∃ os,PTs PT ws os∧PTs PTr ws os
 | [],_ => ⟨[],⟨rfl,fun i s o h => by simp at h⟩,⟨rfl,fun i s o h => by simp at h⟩⟩
 | s :: ws,h => by
  obtain ⟨o,h1,h2⟩:=pt_both s (h s (by simp));obtain ⟨os,⟨l1,k1⟩,⟨l2,k2⟩⟩:=pts_both ws fun t ht => h t (by simp [ht])
  refine ⟨o :: os,⟨by simp [l1],fun i t u ht hu => ?_⟩,⟨by simp [l2],fun i t u ht hu => ?_⟩⟩
  ·cases i with
   | zero => simp at ht hu; subst ht hu; exact h1
   | succ i => simp at ht hu; exact k1 i t u ht hu
  ·cases i with
   | zero => simp at ht hu; subst ht hu; exact h2
   | succ i => simp at ht hu; exact k2 i t u ht hu
def lstO (s:List UInt8) (os:List Qo):Option (List Rat):=if s=[] then some [] else if badQ os then none else some (os.map (·.getD 0))
def ListP (B:Nat) (o:Option (List Rat)) (w':World) (e:Ending):Prop :=
 (o=none∧e=.returned (.tuple #[.slice none 0 0,.bool false]))∨∃ l,o=some l∧∃ ao cap,e=.returned (.tuple #[.slice ao l.length cap,.bool true])∧UQ w' ao (l.map some)∧∀ a,ao=some a→B≤a.block
def OptR (o:Option (Rat × List Rat × List Rat)) (w':World) (e:Ending):Prop :=
 (o=none∧e=.returned (.tuple #[.agg #[.bool false,.slice none 0 0,.bool false,.slice none 0 0,.slice none 0 0,.slice none 0 0],.int .i64 2])) ∨
 ∃ v x y,o=some (v,x,y)∧∃ ng1 ao1 n1 cap1 nh1 ap1 m1 caq1 ax cx ay cy,e=.returned (.tuple #[.agg #[.bool ng1,.slice ao1 n1 cap1,.bool nh1,.slice ap1 m1 caq1,.slice ax x.length cx,.slice ay y.length cy],.int .i64 0]) ∧
  RatV w' (.agg #[.bool ng1,.slice ao1 n1 cap1,.bool nh1,.slice ap1 m1 caq1]) v∧UQ w' ax (x.map some)∧UQ w' ay (y.map some)
def optO (o:Qo) (x y:Option (List Rat)):Option (Rat × List Rat × List Rat):=match o,x,y with
 | some v,some x,some y => some (v,x,y)
 | _,_,_ => none
theorem nbad_get {os:List Qo} (h:badQ os=false):(os.map (·.getD 0)).map some=os:=by
 rw [List.map_map]
 conv => rhs; rw [← List.map_id os]
 refine List.map_congr_left fun o ho => ?_
 unfold badQ at h;rw [List.any_eq_false] at h;have:=h o ho
 cases o with
 | none => simp at this
 | some r => rfl
theorem lstO_nil (os:List Qo):lstO [] os=some []:=if_pos rfl
theorem lstO_bad {s:List UInt8} {os:List Qo} (hs:s ≠ []) (h:badQ os=true):lstO s os=none:=by unfold lstO; rw [if_neg hs,if_pos h]
theorem lstO_ok {s:List UInt8} {os:List Qo} (hs:s ≠ []) (h:badQ os=false):lstO s os=some (os.map (·.getD 0)):=by unfold lstO; rw [if_neg hs,if_neg (by rw [h]; decide)]
theorem Split_any (s sep:List UInt8) (w:World) (hs:s.length≤1000000) (h1:1≤sep.length) (hM:MaxV w) :
  Calls Tryz.prog 23 #[.string ⟨s.toArray⟩,.string ⟨sep.toArray⟩] w fun e w' => (∃ ao cap,e=.returned (.slice ao (Lib.split s sep).length cap)∧US w' ao (Lib.split s sep))∧Below w.heap.size w w':=by
 obtain ⟨m,hm⟩:=hM;have hne:sep ≠ []:=fun e => by rw [e] at h1; simp at h1
 refine (Tryz.strings_Split ⟨s.toArray⟩ ⟨sep.toArray⟩ m w (by simp [ByteArray.size]; omega) hm (by simpa [ByteArray.size] using h1)).mono ?_;rintro e w' ⟨rfl,rfl⟩;rw [Sp.split_bytes];refine ⟨⟨some ⟨w.heap.size,0,none⟩,Lib.countB ⟨s.toArray⟩ ⟨sep.toArray⟩ + 1,by rw [Sp.split_count s sep hne],fun i t hi => ⟨w.heap.size,0,rfl,?_⟩⟩,bA w _⟩;exact Lib.pieces_cell w _ _ i ⟨t.toArray⟩ (by rw [List.getElem?_map,hi]; rfl)
theorem itoa_no {z:Int} (h:Rq.Sm z) {c:UInt8} (hc:c ≠ 45) (hd:c.toNat < 48∨57 < c.toNat):c ∉ Lib.itoa z:=by
 obtain ⟨neg,t,h1,_,_,h4,_⟩:=Bi.itoa_parts h;intro hm;rw [h1] at hm;rcases List.mem_append.1 hm with hm | hm
 ·cases neg <;> simp at hm
  exact hc hm
 ·have:=h4.2.2.1 _ hm;unfold Bi.isDig at this;omega
theorem textQ_no {r:Rat} (h1:Rq.Sm r.num) (h2:Rq.Sm (r.den:Int)) {c:UInt8} (hc:c ≠ 45) (h47:c ≠ 47) (hd:c.toNat < 48∨57 < c.toNat):c ∉ Rq.textQ r:=by
 by_cases e:r.den=1
 ·rw [Rq.textQ_one e]; exact itoa_no h1 hc hd
 ·rw [Rq.textQ_two e];intro hm;rcases List.mem_append.1 hm with hm | hm
  ·exact itoa_no h1 hc hd hm
  ·rcases List.mem_cons.1 hm with hm | hm
   ·exact h47 hm
   ·exact itoa_no h2 hc hd hm
def SmL (l:List Rat):Prop:=∀ r∈l,Rq.Sm r.num∧Rq.Sm (r.den:Int)
theorem itoa_ne {z:Int} (h:Rq.Sm z):Lib.itoa z ≠ []:=by
 obtain ⟨neg,t,h1,_,_,h4,_⟩:=Bi.itoa_parts h;rw [h1];intro e;exact h4.1 (List.append_eq_nil_iff.1 e).2
theorem textQ_ne {r:Rat} (h:Rq.Sm r.num):Rq.textQ r ≠ []:=by
 by_cases e:r.den=1
 ·rw [Rq.textQ_one e]; exact itoa_ne h
 ·rw [Rq.textQ_two e]; simp
section
variable {v : Rat} {l x y : List Rat}
theorem badQ_some (l:List Rat):badQ (l.map some)=false:=by simp [badQ]
theorem txT_some (l:List Rat):txT (l.map some)=joinT [32] (l.map Rq.textQ):=by
 unfold txT;rw [badQ_some,List.map_map]; rfl
theorem fmT_some (v:Rat) (x y:List Rat):fmT (some v) (x.map some) (y.map some)=joinT [59,32] [txT ([v].map some),txT (x.map some),txT (y.map some)]:=by
 unfold fmT;rw [if_neg (by simp [badQ])]; rfl
theorem joinT_mem {sep:List UInt8} {c:UInt8}:∀ {l:List (List UInt8)},c ∉ sep→(∀ t∈l,c ∉ t)→c ∉ joinT sep l
 | [],_,_ => by simp [joinT]
 | a :: r,hs,h => by
  rw [joinT];intro hm;rcases List.mem_append.1 hm with hm | hm
  ·exact h a (by simp) hm
  ·obtain ⟨t,ht,hc⟩:=List.mem_flatten.1 hm;obtain ⟨u,hu,rfl⟩:=List.mem_map.1 ht;rcases List.mem_append.1 hc with hc | hc
   ·exact hs hc
   ·exact h u (by simp [hu]) hc
theorem txT_no59 (h:SmL l):(59:UInt8) ∉ txT (l.map some):=by
 rw [txT_some];refine joinT_mem (by decide) fun t ht => ?_
 obtain ⟨r,hr,rfl⟩:=List.mem_map.1 ht;exact textQ_no (h r hr).1 (h r hr).2 (by decide) (by decide) (by decide)
theorem txT_words (h:SmL l) (hl:l ≠ []):Lib.split (txT (l.map some)) [32]=l.map Rq.textQ:=by
 rw [txT_some];have hno:∀ r∈l,(32:UInt8) ∉ Rq.textQ r:=fun r hr => textQ_no (h r hr).1 (h r hr).2 (by decide) (by decide) (by decide)
 cases l with
 | nil => exact absurd rfl hl
 | cons a r =>
  rw [List.map_cons,joinT];refine Sp.split_join (c:=32) (t:=[]) _ _ (hno a (by simp)) fun p hp => ?_
  obtain ⟨u,hu,rfl⟩:=List.mem_map.1 hp;exact hno u (by simp [hu])
theorem fmT_parts (hv:SmL [v]) (hx:SmL x) (hy:SmL y):Lib.split (fmT (some v) (x.map some) (y.map some)) [59,32]=[Rq.textQ v,txT (x.map some),txT (y.map some)]:=by
 rw [fmT_some,joinT];have e:txT ([v].map some)=Rq.textQ v:=by rw [txT_some]; simp [joinT]
 rw [e];refine Sp.split_join (c:=59) (t:=[32]) _ _ (textQ_no (hv v (by simp)).1 (hv v (by simp)).2 (by decide) (by decide) (by decide)) fun p hp => ?_
 simp only [List.mem_cons,List.not_mem_nil,or_false] at hp;rcases hp with rfl | rfl
 ·exact txT_no59 hx
 ·exact txT_no59 hy
theorem txT_nil:txT (([]:List Rat).map some)=[]:=rfl
theorem txT_empty (hs:SmL l) (h:txT (l.map some)=[]):l=[]:=by
 rw [txT_some] at h
 cases l with
 | nil => rfl
 | cons a r =>
  rw [List.map_cons,joinT,List.append_eq_nil_iff] at h;exact absurd h.1 (textQ_ne (hs a (by simp)).1)
end
end Go.Proofs.YtaedmaifkfhpfaaGreatDoor
