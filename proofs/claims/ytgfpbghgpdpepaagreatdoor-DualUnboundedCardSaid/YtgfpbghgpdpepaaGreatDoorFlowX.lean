/-
  A drawn region in which boxes are made and written, each by one store; in the boxes there are no integers.
-/
import Derived.Test.YtgfpbghgpdpepaaGreatDoorMQ
import Derived.Test.YtgfpbghgpdpepaaGreatDoorDF
set_option linter.unusedVariables false
set_option linter.unusedSimpArgs false
namespace Go.Proofs.YtgfpbghgpdpepaaGreatDoor
open Go.RowKit
section
variable {P : Program} {ops : Array Oper} {Q : Exit → Act → World → Prop}
theorem NoG.below {G : Nat → Prop} {W W' : World} (h : NoG G W) (hg : ∀ b, G b → b < W.heap.size) (hb : Below W.heap.size W W') : NoG G W' :=
 fun g hG cur t fr hc => h g hG cur t fr ((hb.block g (hg g hG)).symm.trans hc)
def AdjX (sup : List Nat) (F : FactG) : Prop := ∀ (G G' : Nat → Prop) (X X' : Nat → Value) (W W' : World), F G X W → Kept G W W' → NoG G W → (∀ b, b < W.heap.size → G' b → G b) → (∀ j ∈ sup, X' j = X j) → F G' X' W'
theorem adjX_val (k : Nat) (r : List Nat) (u : Value) : AdjX (k :: r) (fun _ X _ => X k = u) := fun _ _ _ _ _ _ h _ _ _ hX => (hX k (by simp)).trans h
theorem adjX_true (sup : List Nat) : AdjX sup (fun _ _ _ => True) := fun _ _ _ _ _ _ h _ _ _ _ => h
theorem adjX_own {ops : Array Oper} {k : Nat} {F : (Nat → Prop) → World → Value → Prop} (h : ∀ (G G' : Nat → Prop) (W W' : World) (v : Value), F G W v → Kept G W W' → NoG G W → (∀ b, b < W.heap.size → G' b → G b) → F G' W' v) : AdjX (supOf ops k) (fun G X W => F G W (X k)) :=
 fun G G' X X' W W' hf hk hn hg hX => by
  have := h G G' W W' _ hf hk hn hg
  show F G' W' (X' k)
  rw [hX k (by simp [supOf])]; exact this
def AllX (ops : Array Oper) : Nat → List FactG → Prop
 | _, [] => True
 | k, F :: r => AdjX (supOf ops k) F ∧ AllX ops (k + 1) r
theorem AllX.get {ops : Array Oper} : ∀ {l : List FactG} (j k : Nat), AllX ops j l → AdjX (supOf ops (j + k)) (l.getD k fun _ _ _ => True)
 | [], _, _, _ => adjX_true _
 | _ :: _, _, 0, h => h.1
 | _ :: r, j, k + 1, h => by have := AllX.get (l := r) (j + 1) k h.2; rw [show j + (k + 1) = j + 1 + k by omega]; exact this
def StoL (v : Value) (n : Nat) (vs : List Value) : Prop := Sto v vs ∧ vs.length = n
theorem StoL.frac {W : World} {v : Value} {r : Rat} {vs : List Value} (h : StoL v 4 vs) (hr : RatV W v r) : ∃ (n1 : Bool) (a1 : Option Addr) (l1 c1 : Nat) (n2 : Bool) (a2 : Option Addr) (l2 c2 : Nat), vs = [.bool n1, .slice a1 l1 c1, .bool n2, .slice a2 l2 c2] ∧ v = .agg #[.bool n1, .slice a1 l1 c1, .bool n2, .slice a2 l2 c2] := by
 obtain ⟨n1, a1, l1, c1, n2, a2, l2, c2, e⟩ := hr.parts;refine ⟨n1, a1, l1, c1, n2, a2, l2, c2, ?_, e⟩;rcases h.1 with h1 | h1
 ·rw [e] at h1;simp only [Value.agg.injEq] at h1;have := congrArg Array.toList h1
  simpa using this.symm
 ·have := h.2;rw [h1] at this;simp at this
def FQ (r : Rat) (_ : Nat → Prop) (W : World) (v : Value) : Prop := RatV W v r
theorem adjX_fq {ops : Array Oper} {k : Nat} (r : Rat) : AdjX (supOf ops k) (fun G X W => FQ r G W (X k)) := adjX_own fun G G' W W' v (h : RatV W v r) hk hn _ => h.kept hk hn
def FL (l : List Qo) (G : Nat → Prop) (W : World) (v : Value) : Prop := ∃ ao cap, v = .slice ao l.length cap ∧ (∀ a, ao = some a → a.block < W.heap.size ∧ ¬ G a.block) ∧ UQ W ao l
theorem adjX_fl {ops : Array Oper} {k : Nat} (l : List Qo) : AdjX (supOf ops k) (fun G X W => FL l G W (X k)) := adjX_own fun G G' W W' v h hk hn hg => by
 obtain ⟨ao, cap, e, ha, hu⟩ := h;exact ⟨ao, cap, e, fun a h => ⟨Nat.lt_of_lt_of_le (ha a h).1 hk.size, fun hh => (ha a h).2 (hg _ (ha a h).1 hh)⟩, hu.kept hk hn fun a h => (ha a h).2⟩
theorem wp_region_newx {id : Nat} {a : Act} {w wx : World} (H : Nat → Prop) (Fs : List FactG) (ds : List (Option Nat)) (al : List (Option Fb)) (dl : List Nat)
  (hm : P.follows .mixedOrders = true) (ht : topo .any ops = true) (hd : ops.toList.map (·.dst) = ds) (hdl : ds.filterMap (fun x => x) = dl) (hnd : dl.Nodup) (hok : okNew al ops = true)
  (hz : EachBox (fun _ fb => ∀ u ∈ fb.z, NoInt u) 0 al) (hH0 : ∀ b, ¬ H b) (hw : Below wx.heap.size wx w) (hS : AllX ops 0 Fs)
  (hT : EachBox (fun i fb => (∀ G X W, (Fs.getD i fun _ _ _ => True) G X W) ∧ ∀ G X W, (Fs.getD fb.st fun _ _ _ => True) G X W) 0 al)
  (hs : EachOp (fun i o => ordB al i = true → ∀ (G : Nat → Prop) (T : Nat → Value) (W : World), Below wx.heap.size wx W → (∀ b, H b → G b) → (∀ b, G b → b < W.heap.size) → (∀ b, b < wx.heap.size → G b → H b) → NoG G W → AllG Fs G (dv ds T) W (waits .any o) →
   ∀ K : Act → World → Prop, (∀ v W', Below W.heap.size W W' → (∀ X : Nat → Value, X i = (o.dst.map fun _ => v).getD undef → (∀ j, j ≠ i → X j = dv ds T j) → (Fs.getD i fun _ _ _ => True) G X W') → K (({ a with tmps := ovr a.tmps T dl } : Act).put o.dst v) W') →
    wpOp P ops Q i K { a with tmps := ovr a.tmps T dl } W) 0 ops.toList)
  (hB : EachBox (fun j fb => (∀ o, ops[j]? = some o → ∀ (T : Nat → Value) (W : World) (K : Act → World → Prop), K (({ a with tmps := ovr a.tmps T dl } : Act).put o.dst (.pointer (some ⟨W.heap.size, 0, none⟩))) (W.alloc (.cells fb.z.toArray fb.E)) → wpOp P ops Q j K { a with tmps := ovr a.tmps T dl } W) ∧
   (∀ o, ops[fb.st]? = some o → ∀ (G : Nat → Prop) (T : Nat → Value) (W : World) (n : Nat), AllG Fs G (dv ds T) W (waits .any o) → dv ds T j = .pointer (some ⟨n, 0, none⟩) → Row W n fb.E fb.z → ∀ K : Act → World → Prop, (∀ vs, Sto (dv ds T fb.src) vs → vs.length = fb.z.length → (∀ u ∈ vs, NoInt u) → K { a with tmps := ovr a.tmps T dl } (putN W n 0 vs)) → wpOp P ops Q fb.st K { a with tmps := ovr a.tmps T dl } W)) 0 al)
  (he : ∀ (G : Nat → Prop) (N : Nat → Nat) T W, Below wx.heap.size wx W → (∀ b, H b → G b) → (∀ b, G b → b < W.heap.size) → (∀ b, b < wx.heap.size → G b → H b) →
   (∀ i fb, al.getD i none = some fb → dv ds T i = .pointer (some ⟨N i, 0, none⟩) ∧ G (N i) ∧ wx.heap.size ≤ N i ∧ ∃ vs, StoL (dv ds T fb.src) fb.z.length vs ∧ Row W (N i) fb.E vs) →
   NoG G W → (∀ i j fb fc, al.getD i none = some fb → al.getD j none = some fc → i ≠ j → N i ≠ N j) → AllG Fs G (dv ds T) W (List.range ops.size) → Q .normal { a with tmps := ovr a.tmps T dl } W) : (Code.region id ops true).wp P Q a w := by
 have hnd' : (ds.filterMap _root_.id).Nodup := by
  have : ds.filterMap _root_.id = dl := hdl;rw [this]; exact hnd
 have hdst : ∀ (i : Nat) (o : Oper), ops[i]? = some o → i < ops.size ∧ o.dst = ds.getD i none := by
  intro i o ho;have hi : i < ops.size := (Array.getElem?_eq_some_iff.1 ho).1;refine ⟨hi, ?_⟩;have h1 : (ops.toList.map (·.dst))[i]? = some o.dst := by simp [ho]
  rw [hd] at h1;rw [List.getD_eq_getElem?_getD, h1]; rfl
 refine wp_region_flow (fun L T W => ∃ (G : Nat → Prop) (N : Nat → Nat), (∀ b, G b → b < W.heap.size) ∧ (∀ b, H b → G b) ∧ (∀ b, b < wx.heap.size → G b → H b) ∧ NoG G W ∧ Below wx.heap.size wx W ∧
  (∀ i fb, al.getD i none = some fb → L i → dv ds T i = .pointer (some ⟨N i, 0, none⟩) ∧ G (N i) ∧ wx.heap.size ≤ N i ∧ N i < W.heap.size ∧ (¬ L fb.st → Row W (N i) fb.E fb.z) ∧ (L fb.st → L fb.src ∧ ∃ vs, StoL (dv ds T fb.src) fb.z.length vs ∧ Row W (N i) fb.E vs)) ∧
  (∀ i j fb fc, al.getD i none = some fb → al.getD j none = some fc → L i → L j → i ≠ j → N i ≠ N j) ∧
  (∀ i fb, al.getD i none = some fb → L fb.st → L i) ∧
  (∀ k o, ops[k]? = some o → L k → ∀ j ∈ waits .any o, L j) ∧
  ∀ k, k < ops.size → L k → (Fs.getD k fun _ _ _ => True) G (dv ds T) W) dl hm ht ?_
  (fun T => ⟨H, fun _ => 0, fun b hb => absurd hb (hH0 b), fun _ h => h, fun _ _ h => h, fun b hb => absurd hb (hH0 b), hw.drew, fun _ _ _ h => h.elim, fun _ _ _ _ _ _ h => h.elim, fun _ _ _ h => h.elim, fun _ _ _ h => h.elim, fun k _ h => h.elim⟩) ?_ ?_ ?_
 ·unfold dsts;rw [← hdl, ← hd];simp [List.filterMap_map]
  rfl
 ·refine EachOp.imp ops.toList 0 (fun k o ho h => ?_) hs;rw [Nat.zero_add] at h ⊢;have hko : ops[k]? = some o := by simpa using ho
  rintro L T W hL hn ⟨G, N, g1, g2, g3, hG, hb, hN, hD, hLL, hW, hJ⟩ K hK;obtain ⟨hkl, hkd⟩ := hdst k o hko;have hall : ∀ d, d ∈ waits .any o → L d := by
   have : ∀ l : List Nat, AllL L l → ∀ d, d ∈ l → L d := by
    intro l
    induction l with
    | nil => intro _ d hd; simp at hd
    | cons x r ih =>
     intro h d hd;rcases List.mem_cons.1 hd with rfl | hd
     ·exact h.1
     ·exact ih h.2 d hd
   exact this _ hL
  have hA : AllG Fs G (dv ds T) W (waits .any o) := AllG.mem fun d hdw => hJ d (Nat.lt_trans (topo_lt ht hko hdw) hkl) (hall d hdw)
  have same : ∀ v j, j ≠ k → dv ds (updO T o.dst v) j = dv ds T j := by
   intro v j hjk;unfold dv
   cases hdj : ds.getD j none with
   | none => rfl
   | some d =>
    cases hdo : o.dst with
    | none => rfl
    | some d' =>
     have hne : d ≠ d' := fun e => by
      rw [hdo] at hkd;exact hjk (nodup_some hnd' hdj (by rw [← hkd, e]))
     simp [updO, upd, hne]
  have own : ∀ v, dv ds (updO T o.dst v) k = (o.dst.map fun _ => v).getD undef := by
   intro v;unfold dv;rw [← hkd]
   cases hdo : o.dst with
   | none => rfl
   | some d => simp [updO, upd]
  have hS' : ∀ j, AdjX (supOf ops j) (Fs.getD j fun _ _ _ => True) := fun j => by have := hS.get 0 j; rwa [Nat.zero_add] at this
  have hsup : ∀ v j, j < ops.size → L j → ∀ x ∈ supOf ops j, dv ds (updO T o.dst v) x = dv ds T x := by
   intro v j hj hLj x hx;refine same v x fun e => hn (e ▸ ?_)
   rcases List.mem_cons.1 hx with rfl | hx
   ·exact hLj
   ·rw [Array.getElem?_eq_getElem hj] at hx;exact hW j _ (Array.getElem?_eq_getElem hj) hLj x hx
  have hWn : ∀ (v : Value) i o', ops[i]? = some o' → (i = k ∨ L i) → ∀ j ∈ waits .any o', j = k ∨ L j := by
   rintro v i o' ho' (rfl | hLi) j hj
   ·rw [hko] at ho'; cases ho'; exact .inr (hall j hj)
   ·exact .inr (hW i o' ho' hLi j hj)
  by_cases hst : ∃ j fb, al.getD j none = some fb ∧ fb.st = k
  ·-- a store
   obtain ⟨j, fb, hj, rfl⟩ := hst;obtain ⟨q1, q2, q3, q4, q5, q6, q7, q8⟩ := okNew.get hok hj;obtain ⟨w1, w2, w3⟩ := q4 o hko;obtain ⟨p1, p2, p3, p4, p5, p6⟩ := hN j fb hj (hall j w1);refine (hB.get hj).2 o hko G T W (N j) hA p1 (p5 hn) K fun vs hvs hvl hvn => ?_
   have hrow := putN_row vs fb.z [] W (p5 hn) hvl;have hkp := putN_kept (N j) vs 0 W;have hkG : Kept G W (putN W (N j) 0 vs) := hkp.wide fun b e => e ▸ p2
   have hKK := hK undef (putN W (N j) 0 vs);rw [w3] at hKK;have hGn : NoG G (putN W (N j) 0 vs) := by
    intro g hg cur t fr hc
    by_cases hgj : g = N j
    ·rw [hgj] at hc;have := hrow.symm.trans hc;simp only [List.nil_append, Option.some.injEq, Obj.cells.injEq] at this;obtain ⟨rfl, _, _⟩ := this;exact hvn
    ·exact hG g hg cur t fr ((hkp.block g (g1 g hg) hgj).symm.trans hc)
   refine hKK ⟨G, N, fun b hb' => Nat.lt_of_lt_of_le (g1 b hb') hkp.size, g2, g3, hGn, hb.trans (hkp.below (fun b e => e ▸ p3) hb.size), ?_, ?_, ?_, ?_, ?_⟩
   ·intro i fc hi hLi;have hLi' : L i := hLi.resolve_left fun e => by rw [e] at hi; rw [q6] at hi; cases hi
    obtain ⟨r1, r2, r3, r4, r5, r6⟩ := hN i fc hi hLi';have e : ∀ x, dv ds (updO T none undef) x = dv ds T x := fun x => rfl
    refine ⟨r1, r2, r3, Nat.lt_of_lt_of_le r4 hkp.size, ?_, ?_⟩
    ·intro hns;have hij : i ≠ j := fun e => by
      subst e; rw [hj] at hi; cases hi; exact hns (.inl rfl)
     exact (r5 fun h => hns (.inr h)).mono hkp (hD i j fc fb hi hj hLi' (hall j w1) hij)
    ·rintro (hs' | hs')
     ·have hij : i = j := Classical.byContradiction fun hne => (okNew.get hok hi).2.2.2.2.2.2.2 j fb hj hne hs'
      subst hij;rw [hj] at hi; cases hi;exact ⟨.inr (hall _ w2), vs, ⟨hvs, hvl⟩, by simpa using hrow⟩
     ·have hij : i ≠ j := fun e => by subst e; rw [hj] at hi; cases hi; exact hn hs'
      obtain ⟨z1, vs', z2, z3⟩ := r6 hs';exact ⟨.inr z1, vs', z2, z3.mono hkp (hD i j fc fb hi hj hLi' (hall j w1) hij)⟩
   ·intro i i' fc fd hi hi' hLi hLi';exact hD i i' fc fd hi hi' (hLi.resolve_left fun e => by rw [e] at hi; rw [q6] at hi; cases hi) (hLi'.resolve_left fun e => by rw [e] at hi'; rw [q6] at hi'; cases hi')
   ·rintro i fc hi (hs' | hs')
    ·have hij : i = j := Classical.byContradiction fun hne => (okNew.get hok hi).2.2.2.2.2.2.2 j fb hj hne hs'
     subst hij; exact .inr (hall _ w1)
    ·exact .inr (hLL i fc hi hs')
   ·exact fun i o' ho' hLi => hWn undef i o' ho' hLi
   ·rintro x hx (rfl | hLx)
    ·exact (hT.get hj).2 _ _ _
    ·exact hS' x G G _ _ W _ (hJ x hx hLx) hkG hG (fun _ _ h => h) fun _ _ => rfl
  ·cases hak : al.getD k none with
   | some fb =>
    obtain ⟨q1, q2, q3, q4, ⟨p, q5⟩, q6, q7, q8⟩ := okNew.get hok hak;have hop := q5 o hko;refine (hB.get hak).1 o hko T W K ?_;have hba := bA W (.cells fb.z.toArray fb.E);have hsz : (W.alloc (.cells fb.z.toArray fb.E)).heap.size = W.heap.size + 1 := by simp
    have hKb : Kept G W (W.alloc (.cells fb.z.toArray fb.E)) := Kept.of_below hba;have hL' : ∀ b, b < W.heap.size → (G b ∨ b = W.heap.size) → G b := fun b hlt hh => hh.resolve_right (by omega)
    obtain ⟨N', hNk, hNo⟩ : ∃ N' : Nat → Nat, N' k = W.heap.size ∧ ∀ x, x ≠ k → N' x = N x := ⟨fun x => if x = k then W.heap.size else N x, if_pos rfl, fun x hx => if_neg hx⟩;have hGn : NoG (fun b => G b ∨ b = W.heap.size) (W.alloc (.cells fb.z.toArray fb.E)) := by
     rintro g (hg | rfl) cur t fr hc
     ·exact hG g hg cur t fr ((hba.block g (g1 g hg)).symm.trans hc)
     ·have := (heap_alloc_new W (.cells fb.z.toArray fb.E)).symm.trans hc;simp only [Option.some.injEq, Obj.cells.injEq] at this;obtain ⟨rfl, _, _⟩ := this;exact hz.get hak
    refine hK _ _ ⟨fun b => G b ∨ b = W.heap.size, N', ?_, fun b hb' => .inl (g2 b hb'), fun b hlt hh => g3 b hlt (hh.resolve_right (by have := hb.size; omega)), hGn, bu hb hba, ?_, ?_, ?_, ?_, ?_⟩
    ·rintro b (hb' | rfl)
     ·have := g1 b hb'; omega
     ·omega
    ·intro i fc hi hLi
     by_cases hik : i = k
     ·subst hik;rw [hak] at hi; cases hi;refine ⟨by rw [own, hop, hNk]; rfl, .inr hNk, by rw [hNk]; exact hb.size, by rw [hNk]; omega, fun _ => ?_, fun hs' => ?_⟩
      ·rw [hNk];exact heap_alloc_new _ _
      ·rcases hs' with hs' | hs'
       ·rw [hs'] at q6; rw [hak] at q6; cases q6
       ·exact absurd (hLL _ _ hak hs') hn
     ·have hLi' := hLi.resolve_left hik;obtain ⟨r1, r2, r3, r4, r5, r6⟩ := hN i fc hi hLi';obtain ⟨_, _, _, _, _, s6, s7, _⟩ := okNew.get hok hi;have hstk : fc.st ≠ k := fun e => by rw [e] at s6; rw [hak] at s6; cases s6
      have hsrck : fc.src ≠ k := fun e => by rw [e] at s7; rw [hak] at s7; cases s7
      refine ⟨by rw [same _ _ hik, hNo _ hik]; exact r1, .inl (by rw [hNo _ hik]; exact r2), by rw [hNo _ hik]; exact r3, by rw [hNo _ hik]; omega, fun hns => ?_, fun hs' => ?_⟩
      ·rw [hNo _ hik];exact (r5 fun h => hns (.inr h)).below hba
      ·obtain ⟨z1, vs', z2, z3⟩ := r6 (hs'.resolve_left hstk);rw [hNo _ hik];exact ⟨.inr z1, vs', by rw [same _ _ hsrck]; exact z2, z3.below hba⟩
    ·intro i j fc fd hi hj hLi hLj hij
     by_cases hik : i = k
     ·have hjk : j ≠ k := fun e => hij (hik.trans e.symm)
      rw [hik, hNk, hNo _ hjk];have := (hN j fd hj (hLj.resolve_left hjk)).2.2.2.1;omega
     ·rw [hNo _ hik];have h4 := (hN i fc hi (hLi.resolve_left hik)).2.2.2.1
      by_cases hjk : j = k
      ·rw [hjk, hNk]; omega
      ·rw [hNo _ hjk];exact hD i j fc fd hi hj (hLi.resolve_left hik) (hLj.resolve_left hjk) hij
    ·intro i fc hi hs';obtain ⟨_, _, _, _, _, s6, _, _⟩ := okNew.get hok hi;have hstk : fc.st ≠ k := fun e => by rw [e] at s6; rw [hak] at s6; cases s6
     exact .inr (hLL i fc hi (hs'.resolve_left hstk))
    ·exact fun i o' ho' hLi => hWn (.bool false) i o' ho' hLi
    ·intro x hx hLx
     by_cases hxk : x = k
     ·subst hxk; exact (hT.get hak).1 _ _ _
     ·exact hS' x G _ _ _ W _ (hJ x hx (hLx.resolve_left hxk)) hKb hG hL' (hsup _ x hx (hLx.resolve_left hxk))
   | none =>
    refine h (ordB.mk hak fun j fb hj e => hst ⟨j, fb, hj, e⟩) G T W hb g2 g1 g3 hG hA K fun v W' hb' hv => hK v W' ⟨G, N, fun b h => Nat.lt_of_lt_of_le (g1 b h) hb'.size, g2, g3, hG.below g1 hb', Below.step hb hb' nl, ?_, ?_, ?_, ?_, ?_⟩
    ·intro i fc hi hLi;have hik : i ≠ k := fun e => by rw [e] at hi; rw [hak] at hi; cases hi
     have hLi' := hLi.resolve_left hik;obtain ⟨r1, r2, r3, r4, r5, r6⟩ := hN i fc hi hLi';have hstk : fc.st ≠ k := fun e => hst ⟨i, fc, hi, e⟩
     refine ⟨by rw [same _ _ hik]; exact r1, r2, r3, Nat.lt_of_lt_of_le r4 hb'.size, fun hns => (r5 fun h => hns (.inr h)).below hb', fun hs' => ?_⟩;obtain ⟨z1, vs', z2, z3⟩ := r6 (hs'.resolve_left hstk);have hsrck : fc.src ≠ k := fun e => hn (e ▸ z1)
     exact ⟨.inr z1, vs', by rw [same _ _ hsrck]; exact z2, z3.below hb'⟩
    ·intro i j fc fd hi hj hLi hLj hij;have hik : i ≠ k := fun e => by rw [e] at hi; rw [hak] at hi; cases hi
     have hjk : j ≠ k := fun e => by rw [e] at hj; rw [hak] at hj; cases hj
     exact hD i j fc fd hi hj (hLi.resolve_left hik) (hLj.resolve_left hjk) hij
    ·intro i fc hi hs';have hstk : fc.st ≠ k := fun e => hst ⟨i, fc, hi, e⟩
     exact .inr (hLL i fc hi (hs'.resolve_left hstk))
    ·exact fun i o' ho' hLi => hWn v i o' ho' hLi
    ·intro x hx hLx
     by_cases hxk : x = k
     ·subst hxk; exact hv _ (own v) fun j hj => same v j hj
     ·exact hS' x G G _ _ W W' (hJ x hx (hLx.resolve_left hxk)) (Kept.of_below hb') hG (fun _ _ h => h) (hsup _ x hx (hLx.resolve_left hxk))
 ·rintro T W ⟨G, N, g1, g2, g3, hG, hb, hN, hD, hLL, hW, hJ⟩;refine he G N T W hb g2 g1 g3 ?_ hG ?_ (AllG.mem fun k hk => hJ k (by simpa using hk) (by simpa using hk))
  ·intro i fb hi;obtain ⟨q1, q2, q3, _⟩ := okNew.get hok hi;obtain ⟨r1, r2, r3, r4, r5, r6⟩ := hN i fb hi q1;exact ⟨r1, r2, r3, (r6 q2).2⟩
  ·intro i j fb fc hi hj hij;exact hD i j fb fc hi hj (okNew.get hok hi).1 (okNew.get hok hj).1 hij
 ·rintro L T W hL ⟨G, N, g1, g2, g3, hG, hb, hN, hD, hLL, hW, hJ⟩;refine ⟨G, N, g1, g2, g3, hG, hb, ?_, ?_, fun i fb hi _ => (okNew.get hok hi).1, fun k o hk _ j hj => Nat.lt_trans (topo_lt ht hk hj) (Array.getElem?_eq_some_iff.1 hk).1, fun k hk _ => hJ k hk (hL k hk)⟩
  ·intro i fb hi _;obtain ⟨q1, q2, q3, _⟩ := okNew.get hok hi;obtain ⟨r1, r2, r3, r4, r5, r6⟩ := hN i fb hi (hL i q1);exact ⟨r1, r2, r3, r4, fun h => absurd q2 h, fun _ => ⟨q3, (r6 (hL _ q2)).2⟩⟩
  ·intro i j fb fc hi hj _ _ hij;exact hD i j fb fc hi hj (hL i (okNew.get hok hi).1) (hL j (okNew.get hok hj).1) hij
end
end Go.Proofs.YtgfpbghgpdpepaaGreatDoor
