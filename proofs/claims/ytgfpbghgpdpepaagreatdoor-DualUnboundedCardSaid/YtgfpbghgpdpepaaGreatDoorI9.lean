/-
  A region that draws its order, by an invariant: each operation is met once, under the flags of those that have been carried out.
  The conditions: the region's operations wait only for earlier ones (topo); the invariant J speaks of the flags, of the values that the operations have left, and of the world.
-/
import Derived.Test.YtgfpbghgpdpepaaGreatDoorI8
import Derived.Test.YtgfpbghgpdpepaaGreatDoorProg
import Derived.WalkKit
import Derived.RegionTactic
import Derived.Below
namespace Go.Proofs.YtgfpbghgpdpepaaGreatDoor
open Go.RowKit
def DraftV (w : World) (v : Value) : Prop :=
 ∃ (neg : Bool) (ao : Option Addr) (l : List Nat) (cap : Nat), v = .agg #[.bool neg, .slice ao l.length cap] ∧ l.length ≤ 9223372036854775807 ∧ U w ao l ∧ Hid (∀ x ∈ l, x < 4294967296)
theorem DraftV.mono {w w' : World} {v : Value} (h : DraftV w v) (hb : Below w.heap.size w w') : DraftV w' v := by
 obtain ⟨neg, ao, l, cap, e, h1, h2, h3⟩ := h;exact ⟨neg, ao, l, cap, e, h1, h2.mono hb, h3⟩
theorem IntV.parts {w : World} {v : Value} {z : Int} (h : IntV w v z) : ∃ (ng : Bool) (ao : Option Addr) (n cap : Nat), v = .agg #[.bool ng, .slice ao n cap] := by
 obtain ⟨neg, ao, L, cap, e, _⟩ := h;exact ⟨neg, ao, _, cap, e⟩
theorem validV (v : Value) (z : Int) (w : World) (h : IntV w v z) (hE : Env w) :
  Calls Tryz.prog 155 #[v] w fun e w' => e = .returned (.bool true) ∧ Below w.heap.size w w' := by
 obtain ⟨n1, ao1, L1, c1, rfl, Hn1, HL1, HB1, hc1, hl1, hU1⟩ := h;refine (valid_any n1 L1 ao1 c1 w (by omega) hU1 hE).mono ?_;rintro e w' ⟨⟨r, HR, rfl⟩, hb⟩;exact ⟨by rw [HR.out.2 (validP_of z n1 L1 Hn1.out HL1.out HB1.out)], hb⟩
theorem ResK.some {w : World} {z : Int} {v : Value} {k : Int} (h : ResK w z v k) : ∃ y, IntV w v y ∧ (y = if z.natAbs < Bi.Big then z else 0) ∧ k = if z.natAbs < Bi.Big then 0 else 3 := by
 rcases h with ⟨h1, h2, h3⟩ | ⟨h1, h2, h3⟩
 ·exact ⟨z, h3, by rw [if_pos h1], by rw [if_pos h1]; exact h2⟩
 ·exact ⟨0, by rw [h3]; exact IntV.zero _, by rw [if_neg h1], by rw [if_neg h1]; exact h2⟩
theorem IntV.putN {w : World} {p : Addr} {v u : Value} {z : Int} (h : IntV w u z) (hp : w.cell? p = some (.slice none 0 0)) : IntV (w.setCell p v) u z := IntV.put hp (by simp) h
theorem Box.set2 {w : World} {n : Nat} {x y : Value} (h : Box w n x y) (u v : Value) : Box ((w.setCell ⟨n, 0, none⟩ u).setCell ⟨n, 1, none⟩ v) n u v := by
 have h0 := h.c0;have h1 := h.c1;have h2 := h.f0;have h3 := h.f1;exact ⟨by simp [h0, go_sem], by simp [h1, go_sem], by simp [h2, go_sem], by simp [h3, go_sem]⟩
end Go.Proofs.YtgfpbghgpdpepaaGreatDoor
namespace Go.Proofs.YtgfpbghgpdpepaaGreatDoor
open Go.RowKit
theorem IntV.small {w : World} {v : Value} {z : Int} (h : IntV w v z) : z.natAbs < Bi.Big := by
 obtain ⟨_, _, _, _, _, _, _, hB, _⟩ := h;exact hB.out
theorem ResK.fits {w : World} {z : Int} {v : Value} {k : Int} (h : ResK w z v k) (hz : z.natAbs < Bi.Big) : k = 0 ∧ IntV w v z := by
 rcases h with ⟨_, h2, h3⟩ | ⟨h1, _⟩
 ·exact ⟨h2, h3⟩
 ·exact absurd hz h1
theorem gcd_small {x y : Int} (hx : x.natAbs < Bi.Big) (hy : y.natAbs < Bi.Big) : (((Int.gcd x y : Nat) : Int)).natAbs < Bi.Big := by
 rw [Int.natAbs_natCast];exact gcd_big hx hy
end Go.Proofs.YtgfpbghgpdpepaaGreatDoor
namespace Go.Proofs.YtgfpbghgpdpepaaGreatDoor
open Go.RowKit
theorem Cmp_eq (a b : Value) (x y c : Int) (w : World) (hc : Hid (cmpZ x y = c)) (ha : IntV w a x) (hb : IntV w b y) (hE : Env w) :
  Calls Tryz.prog 148 #[a, b] w fun e w' => e = .returned (.int .i64 c) ∧ Below w.heap.size w w' := by
 rw [← hc.out]; exact Cmp_any a b x y w ha hb hE
theorem rCmp_eq (a b : Value) (x y c : Int) (w : World) (hc : Hid (cmpZ x y = c)) (ha : IntV w a x) (hb : IntV w b y) :
  Calls Tryz.prog 160 #[a, b] w fun e w' => e = .returned (.int .i64 c) ∧ Below w.heap.size w w' := by
 rw [← hc.out]; exact rCmp_any a b x y w ha hb
end Go.Proofs.YtgfpbghgpdpepaaGreatDoor
namespace Go
open Go.RowKit
section
variable {P : Program} {ops : Array Oper} {Q : Exit → Act → World → Prop} {md : Region.Mode}
def AllL (L : Nat → Prop) : List Nat → Prop
 | [] => True
 | d :: r => L d ∧ AllL L r
theorem AllL.mem {L : Nat → Prop} : ∀ {l : List Nat}, (∀ d ∈ l, L d) → AllL L l
 | [], _ => trivial
 | d :: r, h => ⟨h d (by simp), AllL.mem fun x hx => h x (by simp [hx])⟩
def waits (md : Region.Mode) (o : Oper) : List Nat := o.after.toList.filterMap fun e => if Region.binds md e then some e.on else none
def topo (md : Region.Mode) (ops : Array Oper) : Bool := (List.range ops.size).all fun i => ((ops[i]?).map fun o => (waits md o).all (fun d => decide (d < i))).getD true
def EachOp (p : Nat → Oper → Prop) : Nat → List Oper → Prop
 | _, [] => True
 | k, o :: r => p k o ∧ EachOp p (k + 1) r
theorem EachOp.get {p : Nat → Oper → Prop} : ∀ {l : List Oper} {k i : Nat} {o : Oper}, EachOp p k l → l[i]? = some o → p (k + i) o
 | [], _, _, _, _, h => by simp at h
 | x :: r, k, 0, o, h, h' => by simp at h'; subst h'; exact h.1
 | x :: r, k, i + 1, o, h, h' => by
  have := EachOp.get (k := k + 1) (i := i) h.2 (by simpa using h');rw [show k + (i + 1) = k + 1 + i by omega]; exact this
def On (listed : Array Bool) (i : Nat) : Prop := listed.getD i false = true
theorem left_set : ∀ (l : List Bool) (i : Nat), l[i]? = some false → ((l.set i true).filter (fun b => !b)).length + 1 = (l.filter (fun b => !b)).length
 | [], _, h => by simp at h
 | x :: r, 0, h => by simp at h; subst h; simp
 | x :: r, i + 1, h => by
  have := left_set r i (by simpa using h)
  cases x <;> simp <;> omega
theorem left_none : ∀ (l : List Bool), (l.filter (fun b => !b)).length = 0 → ∀ i, i < l.length → l[i]? = some true
 | [], _, i, h => by simp at h
 | x :: r, h, i, hi => by
  cases x
  ·simp at h
  ·cases i with
   | zero => rfl
   | succ i => simpa using left_none r (by simpa using h) i (by simpa using hi)
theorem mem_waits {o : Oper} {d : Nat} : d ∈ waits md o ↔ ∃ e ∈ o.after, Region.binds md e = true ∧ e.on = d := by
 unfold waits;simp only [List.mem_filterMap, Array.mem_toList_iff]
 constructor
 ·rintro ⟨e, he, h⟩
  cases hb : Region.binds md e <;> simp [hb] at h
  exact ⟨e, he, hb, h⟩
 ·rintro ⟨e, he, hb, h⟩;exact ⟨e, he, by simp [hb, h]⟩
theorem topo_lt (ht : topo md ops = true) {i : Nat} {o : Oper} (ho : ops[i]? = some o) {d : Nat} (hd : d ∈ waits md o) : d < i := by
 have hlt : i < ops.size := (Array.getElem?_eq_some_iff.1 ho).1;have := (List.all_eq_true.1 ht) i (by simpa using hlt);rw [ho] at this;simp at this;exact this d hd
theorem wpAny_flow {I : (Nat → Prop) → Act → World → Prop} (ht : topo md ops = true)
  (hs : EachOp (fun i o => ∀ L a w, AllL L (waits md o) → ¬ L i → I L a w → wpOp P ops Q i (I (fun j => j = i ∨ L j)) a w) 0 ops.toList)
  (he : ∀ L a w, (∀ i, i < ops.size → L i) → I L a w → Q .normal a w) :
  ∀ (fuel : Nat) (listed : Array Bool) (a : Act) (w : World), listed.size = ops.size → (listed.toList.filter (fun b => !b)).length ≤ fuel → I (On listed) a w → wpAny P md ops Q fuel listed a w := by
 have all : ∀ (listed : Array Bool), listed.size = ops.size → Region.ready md ops listed = [] → ∀ i, i < ops.size → On listed i := by
  intro listed hsz hr i
  induction i using Nat.strongRecOn with
  | ind i ih =>
   intro hi
   cases hb : listed.getD i false with
   | true => exact hb
   | false =>
    exfalso
    have : i ∈ Region.ready md ops listed := by
     rw [mem_ready];refine ⟨?_, ops[i], by simp [hi], ?_⟩
     ·have : i < listed.size := by omega
      simp [this] at hb ⊢; exact hb
     ·intro e he hbe;have hlt := topo_lt (md := md) ht (i := i) (o := ops[i]) (by simp [hi]) (mem_waits.2 ⟨e, he, hbe, rfl⟩);exact ih e.on hlt (by omega)
    rw [hr] at this
    cases this
 intro fuel
 induction fuel with
 | zero =>
  intro listed a w hsz hl h;have hall : ∀ i, i < ops.size → On listed i := by
   intro i hi;have := left_none listed.toList (by omega) i (by simpa [hsz] using hi);unfold On;have hi' : i < listed.size := by omega
   simp [hi'] at this ⊢;exact this
  refine ⟨?_, he _ a w hall h⟩
  cases hr : Region.ready md ops listed with
  | nil => rfl
  | cons x r =>
   have hx : x ∈ Region.ready md ops listed := by rw [hr]; simp
   rw [mem_ready] at hx;obtain ⟨h0, o, ho, _⟩ := hx;have hlt : x < ops.size := (Array.getElem?_eq_some_iff.1 ho).1;have := hall x hlt;unfold On at this;have hi' : x < listed.size := by omega
   simp [hi'] at this h0;rw [this] at h0; cases h0
 | succ fuel ih =>
  intro listed a w hsz hl h;refine ⟨fun hr => he _ a w (all listed hsz hr) h, fun i hi => ?_⟩;rw [mem_ready] at hi;obtain ⟨h0, o, ho, hw⟩ := hi;have hlt : i < ops.size := (Array.getElem?_eq_some_iff.1 ho).1;have hi' : i < listed.size := by omega
  have hget : listed.toList[i]? = some false := by
   simp [hi'] at h0 ⊢; exact h0
  have h1 := EachOp.get (i := i) (o := o) hs (by simpa using ho);rw [Nat.zero_add] at h1;have h2 := h1 (On listed) a w (AllL.mem fun d hd => by
   obtain ⟨e, he1, hb, rfl⟩ := mem_waits.1 hd;exact hw e he1 hb) (by unfold On; simp [hi'] at h0 ⊢; exact h0) h
  refine wpOp_mono (fun a' w' h3 => ih _ a' w' (by simpa using hsz) ?_ ?_) h2
  ·have := left_set listed.toList i hget;rw [Array.toList_setIfInBounds];omega
  ·have : (fun j => j = i ∨ On listed j) = On (listed.setIfInBounds i true) := by
    funext j
    apply propext
    unfold On
    by_cases hji : j = i
    ·subst hji; simp [hi']
    ·rw [getD_set_ne false (Ne.symm hji)]; simp [hji]
   rw [← this]; exact h3
def ovr (t : Array Value) (T : Nat → Value) : List Nat → Array Value
 | [] => t
 | d :: r => (ovr t T r).setIfInBounds d (T d)
def upd (T : Nat → Value) (d : Nat) (v : Value) : Nat → Value := fun k => if k = d then v else T k
def updO (T : Nat → Value) (d : Option Nat) (v : Value) : Nat → Value :=
 match d with
 | none => T
 | some d => upd T d v
theorem ovr_notin (t : Array Value) (T : Nat → Value) (d : Nat) (v : Value) : ∀ (l : List Nat), d ∉ l → ovr t (upd T d v) l = ovr t T l
 | [], _ => rfl
 | x :: r, h => by
  simp only [ovr];rw [ovr_notin t T d v r (fun h' => h (by simp [h']))];have : x ≠ d := fun e => h (by simp [e])
  simp [upd, this]
theorem ovr_set (t : Array Value) (T : Nat → Value) (d : Nat) (v : Value) : ∀ (l : List Nat), d ∈ l → (ovr t T l).setIfInBounds d v = ovr t (upd T d v) l
 | [], h => by simp at h
 | x :: r, h => by
  simp only [ovr]
  by_cases hx : x = d
  ·subst hx
   by_cases hr : x ∈ r
   ·rw [← ovr_set t T x v r hr]; simp [upd]
   ·rw [ovr_notin t T x v r hr]; simp [upd]
  ·have hr : d ∈ r := by simpa [Ne.symm hx] using h
   rw [Array.setIfInBounds_comm _ _ hx, ovr_set t T d v r hr];simp [upd, hx]
theorem ovr_self (t : Array Value) : ∀ (l : List Nat), ovr t (fun k => t.getD k undef) l = t
 | [] => rfl
 | x :: r => by
  simp only [ovr];rw [ovr_self t r]
  apply Array.ext
  ·simp
  ·intro i h1 h2;rw [Array.getElem_setIfInBounds]
   ·by_cases hx : x = i
    ·subst hx; simp [h2]
    ·simp [hx]
   ·exact h2
def dsts (ops : Array Oper) : List Nat := ops.toList.filterMap (·.dst)
theorem wp_region_flow {id : Nat} {a : Act} {w : World} (J : (Nat → Prop) → (Nat → Value) → World → Prop) (ds : List Nat)
  (hm : P.follows .mixedOrders = true) (ht : topo .any ops = true) (hd : dsts ops = ds)
  (h0 : ∀ T, J (fun _ => False) T { w with drawn := w.drawn + 1 })
  (hs : EachOp (fun i o => ∀ (L : Nat → Prop) (T : Nat → Value) (w : World), AllL L (waits .any o) → ¬ L i → J L T w →
   ∀ K : Act → World → Prop, (∀ v w', J (fun j => j = i ∨ L j) (updO T o.dst v) w' → K (({ a with tmps := ovr a.tmps T ds } : Act).put o.dst v) w') →
    wpOp P ops Q i K { a with tmps := ovr a.tmps T ds } w) 0 ops.toList)
  (he : ∀ T w, J (fun i => i < ops.size) T w → Q .normal { a with tmps := ovr a.tmps T ds } w)
  (hmono : ∀ L T w, (∀ i, i < ops.size → L i) → J L T w → J (fun i => i < ops.size) T w) : (Code.region id ops true).wp P Q a w := by
 refine wp_region_any hm (wpAny_flow (I := fun L a' w' => ∃ T, a' = { a with tmps := ovr a.tmps T ds } ∧ J L T w') ht ?_ ?_ _ _ _ _ (by simp) (by simp) ?_)
 ·have key : ∀ (l : List Oper) (k : Nat), (∀ o ∈ l, ∀ d, o.dst = some d → d ∈ ds) →
    EachOp (fun i o => ∀ (L : Nat → Prop) (T : Nat → Value) (w : World), AllL L (waits .any o) → ¬ L i → J L T w →
     ∀ K : Act → World → Prop, (∀ v w', J (fun j => j = i ∨ L j) (updO T o.dst v) w' → K (({ a with tmps := ovr a.tmps T ds } : Act).put o.dst v) w') →
      wpOp P ops Q i K { a with tmps := ovr a.tmps T ds } w) k l →
    EachOp (fun i o => ∀ L a' w, AllL L (waits .any o) → ¬ L i → (∃ T, a' = { a with tmps := ovr a.tmps T ds } ∧ J L T w) →
     wpOp P ops Q i (fun a' w' => ∃ T, a' = { a with tmps := ovr a.tmps T ds } ∧ J (fun j => j = i ∨ L j) T w') a' w) k l := by
   intro l
   induction l with
   | nil => intro k _ _; trivial
   | cons o r ih =>
    intro k hin h;refine ⟨?_, ih (k + 1) (fun o ho => hin o (by simp [ho])) h.2⟩;rintro L a' w hL hn ⟨T, rfl, hJ⟩;refine h.1 L T w hL hn hJ _ (fun v w' hJ' => ⟨updO T o.dst v, ?_, hJ'⟩)
    cases hdo : o.dst with
    | none => rfl
    | some d =>
     have := hin o (by simp) d hdo;simp only [Act.put, updO];rw [ovr_set _ _ _ _ _ this]
  refine key ops.toList 0 ?_ hs;intro o ho d hdo;rw [← hd];exact List.mem_filterMap.2 ⟨o, ho, hdo⟩
 ·rintro L a' w hL ⟨T, rfl, hJ⟩;exact he T w (hmono L T w hL hJ)
 ·refine ⟨fun k => a.tmps.getD k undef, by rw [ovr_self], ?_⟩;have : On (Array.replicate ops.size false) = fun _ => False := by
   funext i
   unfold On
   by_cases h : i < ops.size <;> simp [h]
  rw [this];exact h0 _
theorem wO {i : Nat} {o : Oper} {K : Act → World → Prop} {a : Act} {w : World} (hi : ops[i]? = some o) (hw : Region.wanted o (yielded ops a.tmps) = true) (h : o.wp P a w K Q) : wpOp P ops Q i K a w := by
 unfold Go.wpOp;simp only [hi, hw, if_true];exact .inl h
def AllF (Fs : List (World → Value → Prop)) (ds : List Nat) (T : Nat → Value) (W : World) : List Nat → Prop
 | [] => True
 | k :: r => (Fs.getD k fun _ _ => True) W (T (ds.getD k 0)) ∧ AllF Fs ds T W r
theorem AllF.mem {Fs : List (World → Value → Prop)} {ds : List Nat} {T : Nat → Value} {W : World} : ∀ {l : List Nat}, (∀ k ∈ l, (Fs.getD k fun _ _ => True) W (T (ds.getD k 0))) → AllF Fs ds T W l
 | [], _ => trivial
 | k :: r, h => ⟨h k (by simp), AllF.mem fun x hx => h x (by simp [hx])⟩
theorem AllF.of {Fs : List (World → Value → Prop)} {ds : List Nat} {T : Nat → Value} {W : World} : ∀ {l : List Nat} (k : Nat), AllF Fs ds T W l → k ∈ l → (Fs.getD k fun _ _ => True) W (T (ds.getD k 0))
 | [], _, _, h => by simp at h
 | x :: r, k, h, hk => by
  rcases List.mem_cons.1 hk with rfl | hk
  ·exact h.1
  ·exact AllF.of k h.2 hk
theorem AllF.at {Fs : List (World → Value → Prop)} {ds : List Nat} {T : Nat → Value} {W : World} {n : Nat} (k : Nat) (h : AllF Fs ds T W (List.range n)) (hk : k < n) : (Fs.getD k fun _ _ => True) W (T (ds.getD k 0)) :=
 AllF.of k h (by simpa using hk)
def StayB (F : World → Value → Prop) : Prop := ∀ (W W' : World) (v : Value), F W v → Below W.heap.size W W' → F W' v
theorem sV (u : Value) : StayB (fun _ v => v = u) := fun _ _ _ h _ => h
def AllS : List (World → Value → Prop) → Prop
 | [] => True
 | F :: r => StayB F ∧ AllS r
theorem AllS.get : ∀ {l : List (World → Value → Prop)} (k : Nat), AllS l → StayB (l.getD k fun _ _ => True)
 | [], _, _ => fun _ _ _ _ _ => trivial
 | _ :: _, 0, h => h.1
 | _ :: r, k + 1, h => AllS.get (l := r) k h.2
theorem nodup_getD : ∀ {ds : List Nat} (_ : ds.Nodup) {i k : Nat} (_ : i < ds.length) (_ : k < ds.length) (_ : ds.getD i 0 = ds.getD k 0), i = k := by
 intro ds hnd i k hi hk h;rw [List.getD_eq_getElem?_getD, List.getD_eq_getElem?_getD, gE hi, gE hk] at h;simp only [Option.getD_some] at h;exact (List.getElem_inj hnd).1 h
theorem wp_region_vals {id : Nat} {a : Act} {w wx : World} (Fs : List (World → Value → Prop)) (ds : List Nat)
  (hm : P.follows .mixedOrders = true) (ht : topo .any ops = true) (hd : ops.toList.map (·.dst) = ds.map some) (hnd : ds.Nodup)
  (hw : Below wx.heap.size wx w) (hS : AllS Fs)
  (hs : EachOp (fun i o => ∀ (T : Nat → Value) (W : World), Below wx.heap.size wx W → AllF Fs ds T W (waits .any o) →
   ∀ K : Act → World → Prop, (∀ v W', Below W.heap.size W W' → (Fs.getD i fun _ _ => True) W' v → K (({ a with tmps := ovr a.tmps T ds } : Act).put o.dst v) W') →
    wpOp P ops Q i K { a with tmps := ovr a.tmps T ds } W) 0 ops.toList)
  (he : ∀ T W, Below wx.heap.size wx W → AllF Fs ds T W (List.range ops.size) → Q .normal { a with tmps := ovr a.tmps T ds } W) : (Code.region id ops true).wp P Q a w := by
 have hlen : ds.length = ops.size := by
  have := congrArg List.length hd;simp at this;exact this.symm
 have hdst : ∀ (i : Nat) (o : Oper), ops[i]? = some o → i < ds.length ∧ o.dst = some (ds.getD i 0) := by
  intro i o ho;have hi : i < ops.size := (Array.getElem?_eq_some_iff.1 ho).1;refine ⟨by omega, ?_⟩;have h1 : (ops.toList.map (·.dst))[i]? = some o.dst := by simp [ho]
  rw [hd, List.getElem?_map, gE (by omega)] at h1;simp only [Option.map_some, Option.some.injEq] at h1;rw [← h1, List.getD_eq_getElem?_getD, gE (by omega)]
  rfl
 refine wp_region_flow (fun L T W => Below wx.heap.size wx W ∧ ∀ k, k < ops.size → L k → (Fs.getD k fun _ _ => True) W (T (ds.getD k 0))) ds hm ht ?_ (fun T => ⟨hw.drew, fun k _ h => h.elim⟩) ?_ ?_ ?_
 ·unfold dsts;have : ∀ (l : List Oper) (ds : List Nat), l.map (·.dst) = ds.map some → l.filterMap (·.dst) = ds := by
   intro l
   induction l with
   | nil => intro ds h; cases ds <;> simp_all
   | cons o r ih =>
    intro ds h
    cases ds with
    | nil => simp at h
    | cons d ds =>
     simp only [List.map_cons, List.cons.injEq] at h;rw [List.filterMap_cons_some h.1, ih ds h.2]
  exact this _ _ hd
 ·have key : ∀ (l : List Oper) (k : Nat), (∀ j o, l[j]? = some o → ops[k + j]? = some o) →
    EachOp (fun i o => ∀ (T : Nat → Value) (W : World), Below wx.heap.size wx W → AllF Fs ds T W (waits .any o) →
     ∀ K : Act → World → Prop, (∀ v W', Below W.heap.size W W' → (Fs.getD i fun _ _ => True) W' v → K (({ a with tmps := ovr a.tmps T ds } : Act).put o.dst v) W') →
      wpOp P ops Q i K { a with tmps := ovr a.tmps T ds } W) k l →
    EachOp (fun i o => ∀ (L : Nat → Prop) (T : Nat → Value) (w : World), AllL L (waits .any o) → ¬ L i → (Below wx.heap.size wx w ∧ ∀ k, k < ops.size → L k → (Fs.getD k fun _ _ => True) w (T (ds.getD k 0))) →
     ∀ K : Act → World → Prop, (∀ v w', (Below wx.heap.size wx w' ∧ ∀ k, k < ops.size → (k = i ∨ L k) → (Fs.getD k fun _ _ => True) w' (updO T o.dst v (ds.getD k 0))) → K (({ a with tmps := ovr a.tmps T ds } : Act).put o.dst v) w') →
      wpOp P ops Q i K { a with tmps := ovr a.tmps T ds } w) k l := by
   intro l
   induction l with
   | nil => intro k _ _; trivial
   | cons o r ih =>
    intro k hin h;refine ⟨?_, ih (k + 1) (fun j o' ho => by have := hin (j + 1) o' (by simpa using ho); rw [show k + 1 + j = k + (j + 1) by omega]; exact this) h.2⟩;rintro L T W hL hn ⟨hb, hJ⟩ K hK;have hko : ops[k]? = some o := by simpa using hin 0 o rfl
    obtain ⟨hkl, hkd⟩ := hdst k o hko;have hall : ∀ d, d ∈ waits .any o → L d := by
     have : ∀ l : List Nat, AllL L l → ∀ d, d ∈ l → L d := by
      intro l
      induction l with
      | nil => intro _ d hd; simp at hd
      | cons x r ih =>
       intro h d hd;rcases List.mem_cons.1 hd with rfl | hd
       ·exact h.1
       ·exact ih h.2 d hd
     exact this _ hL
    refine h.1 T W hb (AllF.mem fun d hdw => hJ d (Nat.lt_trans (topo_lt ht hko hdw) (by omega)) (hall d hdw)) K fun v W' hb' hv => hK v W' ⟨hb.trans (hb'.mono hb.size), ?_⟩
    rintro j hj (rfl | hLj)
    ·rw [hkd];simp only [updO, upd, if_true];exact hv
    ·have hne : ds.getD j 0 ≠ ds.getD k 0 := fun e => by
      have := nodup_getD hnd (by omega) hkl e;subst this;exact hn hLj
     rw [hkd];simp only [updO, upd, if_neg hne];exact hS.get j _ _ _ (hJ j hj hLj) hb'
  exact key ops.toList 0 (fun j o ho => by simpa using ho) hs
 ·rintro T W ⟨hb, hJ⟩;exact he T W hb (AllF.mem fun k hk => hJ k (by simpa using hk) (by simpa using hk))
 ·rintro L T W hL ⟨hb, hJ⟩;exact ⟨hb, fun k hk _ => hJ k hk (hL k hk)⟩
end
end Go
namespace Go.Proofs.YtgfpbghgpdpepaaGreatDoor
open Go.RowKit
theorem Box.putOther {w : World} {n m : Nat} {x y u v : Value} (h : Box w n x y) (hne : n ≠ m) : Box ((w.setCell ⟨m, 0, none⟩ u).setCell ⟨m, 1, none⟩ v) n x y := by
 obtain ⟨h1, h2, h3, h4⟩ := h;have hne' := Ne.symm hne;refine ⟨?_, ?_, ?_, ?_⟩
 ·rw [World.cell?_setCell_other _ _ _ _ (fun e => hne' (congrArg Addr.block e)), World.cell?_setCell_other _ _ _ _ (fun e => hne' (congrArg Addr.block e))]; exact h1
 ·rw [World.cell?_setCell_other _ _ _ _ (fun e => hne' (congrArg Addr.block e)), World.cell?_setCell_other _ _ _ _ (fun e => hne' (congrArg Addr.block e))]; exact h2
 ·simp [go_sem, h3]
 ·simp [go_sem, h4]
structure Stay (R : World → Value → Prop) : Prop where
 mono : ∀ {W W' : World} {v : Value}, R W v → Below W.heap.size W W' → R W' v
 put : ∀ {W : World} {n : Nat} {v x y : Value}, R W v → Box W n (.bool false) (.slice none 0 0) → R ((W.setCell ⟨n, 0, none⟩ x).setCell ⟨n, 1, none⟩ y) v
def Slot (W : World) (base : Nat) (R : World → Value → Prop) (st : Prop) (p : Value) : Prop :=
 ∃ b, p = .pointer (some ⟨b, 0, none⟩) ∧ base ≤ b ∧ b < W.heap.size ∧ (st → ∃ x y, Box W b x y ∧ R W (.agg #[x, y])) ∧ (¬ st → Box W b (.bool false) (.slice none 0 0))
theorem Slot.mono {W W' : World} {base : Nat} {R : World → Value → Prop} {st : Prop} {p : Value} (hR : Stay R) (h : Slot W base R st p) (hb : Below W.heap.size W W') : Slot W' base R st p := by
 obtain ⟨b, e, h1, h2, h3, h4⟩ := h;exact ⟨b, e, h1, Nat.lt_of_lt_of_le h2 hb.size, fun s => by obtain ⟨x, y, B, hr⟩ := h3 s; exact ⟨x, y, B.mono hb, hR.mono hr hb⟩, fun s => (h4 s).mono hb⟩
theorem Slot.congr {W : World} {base : Nat} {R : World → Value → Prop} {st st' : Prop} {p : Value} (h : Slot W base R st p) (e : st ↔ st') : Slot W base R st' p := by
 have : st = st' := propext e;rw [← this]; exact h
theorem Slot.new {base : Nat} {R : World → Value → Prop} {st : Prop} (W : World) (hn : ¬ st) (t : TypeId) (hB : base ≤ W.heap.size) : Slot (W.alloc (.cells #[.bool false, .slice none 0 0] t)) base R st (.pointer (some ⟨W.heap.size, 0, none⟩)) :=
 ⟨_, rfl, hB, by simp, fun s => absurd s hn, fun _ => Box.new W _ _ t⟩
theorem Slot.open {W : World} {base : Nat} {R : World → Value → Prop} {st : Prop} {p : Value} (h : Slot W base R st p) (hn : ¬ st) : ∃ b, p = .pointer (some ⟨b, 0, none⟩) ∧ base ≤ b ∧ b < W.heap.size ∧ Box W b (.bool false) (.slice none 0 0) := by
 obtain ⟨b, e, h1, h2, _, h4⟩ := h;exact ⟨b, e, h1, h2, h4 hn⟩
theorem Slot.stored {W : World} {base m : Nat} {R : World → Value → Prop} {st' : Prop} {x y : Value} (hR : Stay R) (h1 : base ≤ m) (hB : Box W m (.bool false) (.slice none 0 0)) (hs : st') (hr : R W (.agg #[x, y])) : Slot ((W.setCell ⟨m, 0, none⟩ x).setCell ⟨m, 1, none⟩ y) base R st' (.pointer (some ⟨m, 0, none⟩)) :=
 ⟨m, rfl, h1, by simpa using hB.lt, fun _ => ⟨x, y, hB.set2 x y, hR.put hr hB⟩, fun s => absurd hs s⟩
def SomeI (W : World) (v : Value) : Prop := ∃ z, IntV W v z
theorem SomeI.parts {W : World} {v : Value} (h : SomeI W v) : ∃ (ng : Bool) (ao : Option Addr) (n cap : Nat), v = .agg #[.bool ng, .slice ao n cap] := by obtain ⟨z, h⟩ := h; exact h.parts
end Go.Proofs.YtgfpbghgpdpepaaGreatDoor
