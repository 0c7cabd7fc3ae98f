/-
  A region that draws its order, by an invariant: each operation is met once, under the flags of those that have been carried out.
  The conditions: the region's operations wait only for earlier ones (topo); the invariant J speaks of the flags, of the values that the operations have left, and of the world.
-/
import Derived.Test.YtackeigdehfmmaaGreatDoorProg
import Derived.WalkKit
import Derived.RegionTactic
import Derived.Below
import Derived.Test.YtackeigdehfmmaaGreatDoorG2
namespace Go
open Go.RowKit
section
variable {P : Program} {ops : Array Oper} {Q : Exit → Act → World → Prop} {md : Region.Mode}

def AllL (L : Nat → Prop) : List Nat → Prop
  | [] => True
  | d :: r => L d ∧ AllL L r

theorem AllL.mem {L : Nat → Prop} : ∀ {l : List Nat}, (∀ d ∈ l, L d) → AllL L l
  | [], _ => trivial
  | d :: r, h => ⟨h d (by simp), AllL.mem fun x hx => h x (by simp [hx])⟩

/-- for which operations one waits -/
def waits (md : Region.Mode) (o : Oper) : List Nat := o.after.toList.filterMap fun e => if Region.binds md e then some e.on else none

def topo (md : Region.Mode) (ops : Array Oper) : Bool := (List.range ops.size).all fun i => ((ops[i]?).map fun o => (waits md o).all (fun d => decide (d < i))).getD true

def EachOp (p : Nat → Oper → Prop) : Nat → List Oper → Prop
  | _, [] => True
  | k, o :: r => p k o ∧ EachOp p (k + 1) r

theorem EachOp.get {p : Nat → Oper → Prop} : ∀ {l : List Oper} {k i : Nat} {o : Oper}, EachOp p k l → l[i]? = some o → p (k + i) o
  | [], _, _, _, _, h => by simp at h
  | x :: r, k, 0, o, h, h' => by simp at h'; subst h'; exact h.1
  | x :: r, k, i + 1, o, h, h' => by
    have := EachOp.get (k := k + 1) (i := i) h.2 (by simpa using h')
    rw [show k + (i + 1) = k + 1 + i by omega]; exact this

def On (listed : Array Bool) (i : Nat) : Prop := listed.getD i false = true

theorem left_set : ∀ (l : List Bool) (i : Nat), l[i]? = some false → ((l.set i true).filter (fun b => !b)).length + 1 = (l.filter (fun b => !b)).length
  | [], _, h => by simp at h
  | x :: r, 0, h => by simp at h; subst h; simp
  | x :: r, i + 1, h => by
    have := left_set r i (by simpa using h)
    cases x <;> simp <;> omega

theorem left_none : ∀ (l : List Bool), (l.filter (fun b => !b)).length = 0 → ∀ i, i < l.length → l[i]? = some true
  | [], _, i, h => by simp at h
  | x :: r, h, i, hi => by
    cases x
    · simp at h
    · cases i with
      | zero => rfl
      | succ i => simpa using left_none r (by simpa using h) i (by simpa using hi)

theorem mem_waits {o : Oper} {d : Nat} : d ∈ waits md o ↔ ∃ e ∈ o.after, Region.binds md e = true ∧ e.on = d := by
  unfold waits
  simp only [List.mem_filterMap, Array.mem_toList_iff]
  constructor
  · rintro ⟨e, he, h⟩
    cases hb : Region.binds md e <;> simp [hb] at h
    exact ⟨e, he, hb, h⟩
  · rintro ⟨e, he, hb, h⟩
    exact ⟨e, he, by simp [hb, h]⟩

theorem topo_lt (ht : topo md ops = true) {i : Nat} {o : Oper} (ho : ops[i]? = some o) {d : Nat} (hd : d ∈ waits md o) : d < i := by
  have hlt : i < ops.size := (Array.getElem?_eq_some_iff.1 ho).1
  have := (List.all_eq_true.1 ht) i (by simpa using hlt)
  rw [ho] at this
  simp at this
  exact this d hd

theorem wpAny_flow {I : (Nat → Prop) → Act → World → Prop} (ht : topo md ops = true)
    (hs : EachOp (fun i o => ∀ L a w, AllL L (waits md o) → ¬ L i → I L a w → wpOp P ops Q i (I (fun j => j = i ∨ L j)) a w) 0 ops.toList)
    (he : ∀ L a w, (∀ i, i < ops.size → L i) → I L a w → Q .normal a w) :
    ∀ (fuel : Nat) (listed : Array Bool) (a : Act) (w : World), listed.size = ops.size → (listed.toList.filter (fun b => !b)).length ≤ fuel → I (On listed) a w → wpAny P md ops Q fuel listed a w := by
  have all : ∀ (listed : Array Bool), listed.size = ops.size → Region.ready md ops listed = [] → ∀ i, i < ops.size → On listed i := by
    intro listed hsz hr i
    induction i using Nat.strongRecOn with
    | ind i ih =>
      intro hi
      cases hb : listed.getD i false with
      | true => exact hb
      | false =>
        exfalso
        have : i ∈ Region.ready md ops listed := by
          rw [mem_ready]
          refine ⟨?_, ops[i], by simp [hi], ?_⟩
          · have : i < listed.size := by omega
            simp [this] at hb ⊢; exact hb
          · intro e he hbe
            have hlt := topo_lt (md := md) ht (i := i) (o := ops[i]) (by simp [hi]) (mem_waits.2 ⟨e, he, hbe, rfl⟩)
            exact ih e.on hlt (by omega)
        rw [hr] at this
        cases this
  intro fuel
  induction fuel with
  | zero =>
    intro listed a w hsz hl h
    have hall : ∀ i, i < ops.size → On listed i := by
      intro i hi
      have := left_none listed.toList (by omega) i (by simpa [hsz] using hi)
      unfold On
      have hi' : i < listed.size := by omega
      simp [hi'] at this ⊢
      exact this
    refine ⟨?_, he _ a w hall h⟩
    cases hr : Region.ready md ops listed with
    | nil => rfl
    | cons x r =>
      have hx : x ∈ Region.ready md ops listed := by rw [hr]; simp
      rw [mem_ready] at hx
      obtain ⟨h0, o, ho, _⟩ := hx
      have hlt : x < ops.size := (Array.getElem?_eq_some_iff.1 ho).1
      have := hall x hlt
      unfold On at this
      have hi' : x < listed.size := by omega
      simp [hi'] at this h0
      rw [this] at h0; cases h0
  | succ fuel ih =>
    intro listed a w hsz hl h
    refine ⟨fun hr => he _ a w (all listed hsz hr) h, fun i hi => ?_⟩
    rw [mem_ready] at hi
    obtain ⟨h0, o, ho, hw⟩ := hi
    have hlt : i < ops.size := (Array.getElem?_eq_some_iff.1 ho).1
    have hi' : i < listed.size := by omega
    have hget : listed.toList[i]? = some false := by
      simp [hi'] at h0 ⊢; exact h0
    have h1 := EachOp.get (i := i) (o := o) hs (by simpa using ho)
    rw [Nat.zero_add] at h1
    have h2 := h1 (On listed) a w (AllL.mem fun d hd => by
      obtain ⟨e, he1, hb, rfl⟩ := mem_waits.1 hd
      exact hw e he1 hb) (by unfold On; simp [hi'] at h0 ⊢; exact h0) h
    refine wpOp_mono (fun a' w' h3 => ih _ a' w' (by simpa using hsz) ?_ ?_) h2
    · have := left_set listed.toList i hget
      rw [Array.toList_setIfInBounds]
      omega
    · have : (fun j => j = i ∨ On listed j) = On (listed.setIfInBounds i true) := by
        funext j
        apply propext
        unfold On
        by_cases hji : j = i
        · subst hji; simp [hi']
        · rw [getD_set_ne false (Ne.symm hji)]; simp [hji]
      rw [← this]; exact h3

/-- the temporaries of a list, laid anew -/
def ovr (t : Array Value) (T : Nat → Value) : List Nat → Array Value
  | [] => t
  | d :: r => (ovr t T r).setIfInBounds d (T d)

def upd (T : Nat → Value) (d : Nat) (v : Value) : Nat → Value := fun k => if k = d then v else T k
def updO (T : Nat → Value) (d : Option Nat) (v : Value) : Nat → Value :=
  match d with
  | none => T
  | some d => upd T d v

theorem ovr_notin (t : Array Value) (T : Nat → Value) (d : Nat) (v : Value) : ∀ (l : List Nat), d ∉ l → ovr t (upd T d v) l = ovr t T l
  | [], _ => rfl
  | x :: r, h => by
    simp only [ovr]
    rw [ovr_notin t T d v r (fun h' => h (by simp [h']))]
    have : x ≠ d := fun e => h (by simp [e])
    simp [upd, this]

theorem ovr_set (t : Array Value) (T : Nat → Value) (d : Nat) (v : Value) : ∀ (l : List Nat), d ∈ l → (ovr t T l).setIfInBounds d v = ovr t (upd T d v) l
  | [], h => by simp at h
  | x :: r, h => by
    simp only [ovr]
    by_cases hx : x = d
    · subst hx
      by_cases hr : x ∈ r
      · rw [← ovr_set t T x v r hr]; simp [upd]
      · rw [ovr_notin t T x v r hr]; simp [upd]
    · have hr : d ∈ r := by simpa [Ne.symm hx] using h
      rw [Array.setIfInBounds_comm _ _ hx, ovr_set t T d v r hr]
      simp [upd, hx]

theorem ovr_self (t : Array Value) : ∀ (l : List Nat), ovr t (fun k => t.getD k undef) l = t
  | [] => rfl
  | x :: r => by
    simp only [ovr]
    rw [ovr_self t r]
    apply Array.ext
    · simp
    · intro i h1 h2
      rw [Array.getElem_setIfInBounds]
      · by_cases hx : x = i
        · subst hx; simp [h2]
        · simp [hx]
      · exact h2

def dsts (ops : Array Oper) : List Nat := ops.toList.filterMap (·.dst)

/-- **the region by an invariant** -/
theorem wp_region_flow {id : Nat} {a : Act} {w : World} (J : (Nat → Prop) → (Nat → Value) → World → Prop) (ds : List Nat)
    (hm : P.follows .mixedOrders = true) (ht : topo .any ops = true) (hd : dsts ops = ds)
    (h0 : ∀ T, J (fun _ => False) T { w with drawn := w.drawn + 1 })
    (hs : EachOp (fun i o => ∀ (L : Nat → Prop) (T : Nat → Value) (w : World), AllL L (waits .any o) → ¬ L i → J L T w →
      ∀ K : Act → World → Prop, (∀ v w', J (fun j => j = i ∨ L j) (updO T o.dst v) w' → K (({ a with tmps := ovr a.tmps T ds } : Act).put o.dst v) w') →
        wpOp P ops Q i K { a with tmps := ovr a.tmps T ds } w) 0 ops.toList)
    (he : ∀ T w, J (fun i => i < ops.size) T w → Q .normal { a with tmps := ovr a.tmps T ds } w)
    (hmono : ∀ L T w, (∀ i, i < ops.size → L i) → J L T w → J (fun i => i < ops.size) T w) : (Code.region id ops true).wp P Q a w := by
  refine wp_region_any hm (wpAny_flow (I := fun L a' w' => ∃ T, a' = { a with tmps := ovr a.tmps T ds } ∧ J L T w') ht ?_ ?_ _ _ _ _ (by simp) (by simp) ?_)
  · have key : ∀ (l : List Oper) (k : Nat), (∀ o ∈ l, ∀ d, o.dst = some d → d ∈ ds) →
        EachOp (fun i o => ∀ (L : Nat → Prop) (T : Nat → Value) (w : World), AllL L (waits .any o) → ¬ L i → J L T w →
          ∀ K : Act → World → Prop, (∀ v w', J (fun j => j = i ∨ L j) (updO T o.dst v) w' → K (({ a with tmps := ovr a.tmps T ds } : Act).put o.dst v) w') →
            wpOp P ops Q i K { a with tmps := ovr a.tmps T ds } w) k l →
        EachOp (fun i o => ∀ L a' w, AllL L (waits .any o) → ¬ L i → (∃ T, a' = { a with tmps := ovr a.tmps T ds } ∧ J L T w) →
          wpOp P ops Q i (fun a' w' => ∃ T, a' = { a with tmps := ovr a.tmps T ds } ∧ J (fun j => j = i ∨ L j) T w') a' w) k l := by
      intro l
      induction l with
      | nil => intro k _ _; trivial
      | cons o r ih =>
        intro k hin h
        refine ⟨?_, ih (k + 1) (fun o ho => hin o (by simp [ho])) h.2⟩
        rintro L a' w hL hn ⟨T, rfl, hJ⟩
        refine h.1 L T w hL hn hJ _ (fun v w' hJ' => ⟨updO T o.dst v, ?_, hJ'⟩)
        cases hdo : o.dst with
        | none => rfl
        | some d =>
          have := hin o (by simp) d hdo
          simp only [Act.put, updO]
          rw [ovr_set _ _ _ _ _ this]
    refine key ops.toList 0 ?_ hs
    intro o ho d hdo
    rw [← hd]
    exact List.mem_filterMap.2 ⟨o, ho, hdo⟩
  · rintro L a' w hL ⟨T, rfl, hJ⟩
    exact he T w (hmono L T w hL hJ)
  · refine ⟨fun k => a.tmps.getD k undef, by rw [ovr_self], ?_⟩
    have : On (Array.replicate ops.size false) = fun _ => False := by
      funext i
      unfold On
      by_cases h : i < ops.size <;> simp [h]
    rw [this]
    exact h0 _

/-- an operation that is wanted -/
theorem wpOp_want {i : Nat} {o : Oper} {K : Act → World → Prop} {a : Act} {w : World} (hi : ops[i]? = some o) (hw : Region.wanted o (yielded ops a.tmps) = true) (h : o.wp P a w K Q) : wpOp P ops Q i K a w := by
  unfold Go.wpOp
  simp only [hi, hw, if_true]
  exact .inl h
/-- an operation that is not wanted -/
theorem wpOp_pass {i : Nat} {o : Oper} {K : Act → World → Prop} {a : Act} {w : World} (hi : ops[i]? = some o) (hw : Region.wanted o (yielded ops a.tmps) = false) (h : K (a.put o.dst undef) w) : wpOp P ops Q i K a w := by
  unfold Go.wpOp
  simp only [hi, hw]
  exact h
/-- what is known of the values that the operations of a list have left -/
def AllF (Fs : List (World → Value → Prop)) (ds : List Nat) (T : Nat → Value) (W : World) : List Nat → Prop
  | [] => True
  | k :: r => (Fs.getD k fun _ _ => True) W (T (ds.getD k 0)) ∧ AllF Fs ds T W r

theorem AllF.mem {Fs : List (World → Value → Prop)} {ds : List Nat} {T : Nat → Value} {W : World} : ∀ {l : List Nat}, (∀ k ∈ l, (Fs.getD k fun _ _ => True) W (T (ds.getD k 0))) → AllF Fs ds T W l
  | [], _ => trivial
  | k :: r, h => ⟨h k (by simp), AllF.mem fun x hx => h x (by simp [hx])⟩

theorem AllF.of {Fs : List (World → Value → Prop)} {ds : List Nat} {T : Nat → Value} {W : World} : ∀ {l : List Nat} (k : Nat), AllF Fs ds T W l → k ∈ l → (Fs.getD k fun _ _ => True) W (T (ds.getD k 0))
  | [], _, _, h => by simp at h
  | x :: r, k, h, hk => by
    rcases List.mem_cons.1 hk with rfl | hk
    · exact h.1
    · exact AllF.of k h.2 hk

theorem AllF.at {Fs : List (World → Value → Prop)} {ds : List Nat} {T : Nat → Value} {W : World} {n : Nat} (k : Nat) (h : AllF Fs ds T W (List.range n)) (hk : k < n) : (Fs.getD k fun _ _ => True) W (T (ds.getD k 0)) :=
  AllF.of k h (by simpa using hk)

/-- it stays when memory is made -/
def StayB (F : World → Value → Prop) : Prop := ∀ (W W' : World) (v : Value), F W v → Below W.heap.size W W' → F W' v

theorem stayB_val (u : Value) : StayB (fun _ v => v = u) := fun _ _ _ h _ => h

def AllS : List (World → Value → Prop) → Prop
  | [] => True
  | F :: r => StayB F ∧ AllS r

theorem AllS.get : ∀ {l : List (World → Value → Prop)} (k : Nat), AllS l → StayB (l.getD k fun _ _ => True)
  | [], _, _ => fun _ _ _ _ _ => trivial
  | _ :: _, 0, h => h.1
  | _ :: r, k + 1, h => AllS.get (l := r) k h.2

theorem nodup_getD : ∀ {ds : List Nat} (_ : ds.Nodup) {i k : Nat} (_ : i < ds.length) (_ : k < ds.length) (_ : ds.getD i 0 = ds.getD k 0), i = k := by
  intro ds hnd i k hi hk h
  rw [List.getD_eq_getElem?_getD, List.getD_eq_getElem?_getD, List.getElem?_eq_getElem hi, List.getElem?_eq_getElem hk] at h
  simp only [Option.getD_some] at h
  exact (List.getElem_inj hnd).1 h

/-- **a region whose operations only leave values, and make memory**: of each value is said what stays -/
theorem wp_region_vals {id : Nat} {a : Act} {w wx : World} (Fs : List (World → Value → Prop)) (ds : List Nat)
    (hm : P.follows .mixedOrders = true) (ht : topo .any ops = true) (hd : ops.toList.map (·.dst) = ds.map some) (hnd : ds.Nodup)
    (hw : Below wx.heap.size wx w) (hS : AllS Fs)
    (hs : EachOp (fun i o => ∀ (T : Nat → Value) (W : World), Below wx.heap.size wx W → AllF Fs ds T W (waits .any o) →
      ∀ K : Act → World → Prop, (∀ v W', Below W.heap.size W W' → (Fs.getD i fun _ _ => True) W' v → K (({ a with tmps := ovr a.tmps T ds } : Act).put o.dst v) W') →
        wpOp P ops Q i K { a with tmps := ovr a.tmps T ds } W) 0 ops.toList)
    (he : ∀ T W, Below wx.heap.size wx W → AllF Fs ds T W (List.range ops.size) → Q .normal { a with tmps := ovr a.tmps T ds } W) : (Code.region id ops true).wp P Q a w := by
  have hlen : ds.length = ops.size := by
    have := congrArg List.length hd
    simp at this
    exact this.symm
  have hdst : ∀ (i : Nat) (o : Oper), ops[i]? = some o → i < ds.length ∧ o.dst = some (ds.getD i 0) := by
    intro i o ho
    have hi : i < ops.size := (Array.getElem?_eq_some_iff.1 ho).1
    refine ⟨by omega, ?_⟩
    have h1 : (ops.toList.map (·.dst))[i]? = some o.dst := by simp [ho]
    rw [hd, List.getElem?_map, List.getElem?_eq_getElem (by omega)] at h1
    simp only [Option.map_some, Option.some.injEq] at h1
    rw [← h1, List.getD_eq_getElem?_getD, List.getElem?_eq_getElem (by omega)]
    rfl
  refine wp_region_flow (fun L T W => Below wx.heap.size wx W ∧ ∀ k, k < ops.size → L k → (Fs.getD k fun _ _ => True) W (T (ds.getD k 0))) ds hm ht ?_ (fun T => ⟨hw.drew, fun k _ h => h.elim⟩) ?_ ?_ ?_
  · unfold dsts
    have : ∀ (l : List Oper) (ds : List Nat), l.map (·.dst) = ds.map some → l.filterMap (·.dst) = ds := by
      intro l
      induction l with
      | nil => intro ds h; cases ds <;> simp_all
      | cons o r ih =>
        intro ds h
        cases ds with
        | nil => simp at h
        | cons d ds =>
          simp only [List.map_cons, List.cons.injEq] at h
          rw [List.filterMap_cons_some h.1, ih ds h.2]
    exact this _ _ hd
  · have key : ∀ (l : List Oper) (k : Nat), (∀ j o, l[j]? = some o → ops[k + j]? = some o) →
        EachOp (fun i o => ∀ (T : Nat → Value) (W : World), Below wx.heap.size wx W → AllF Fs ds T W (waits .any o) →
          ∀ K : Act → World → Prop, (∀ v W', Below W.heap.size W W' → (Fs.getD i fun _ _ => True) W' v → K (({ a with tmps := ovr a.tmps T ds } : Act).put o.dst v) W') →
            wpOp P ops Q i K { a with tmps := ovr a.tmps T ds } W) k l →
        EachOp (fun i o => ∀ (L : Nat → Prop) (T : Nat → Value) (w : World), AllL L (waits .any o) → ¬ L i → (Below wx.heap.size wx w ∧ ∀ k, k < ops.size → L k → (Fs.getD k fun _ _ => True) w (T (ds.getD k 0))) →
          ∀ K : Act → World → Prop, (∀ v w', (Below wx.heap.size wx w' ∧ ∀ k, k < ops.size → (k = i ∨ L k) → (Fs.getD k fun _ _ => True) w' (updO T o.dst v (ds.getD k 0))) → K (({ a with tmps := ovr a.tmps T ds } : Act).put o.dst v) w') →
            wpOp P ops Q i K { a with tmps := ovr a.tmps T ds } w) k l := by
      intro l
      induction l with
      | nil => intro k _ _; trivial
      | cons o r ih =>
        intro k hin h
        refine ⟨?_, ih (k + 1) (fun j o' ho => by have := hin (j + 1) o' (by simpa using ho); rw [show k + 1 + j = k + (j + 1) by omega]; exact this) h.2⟩
        rintro L T W hL hn ⟨hb, hJ⟩ K hK
        have hko : ops[k]? = some o := by simpa using hin 0 o rfl
        obtain ⟨hkl, hkd⟩ := hdst k o hko
        have hall : ∀ d, d ∈ waits .any o → L d := by
          have : ∀ l : List Nat, AllL L l → ∀ d, d ∈ l → L d := by
            intro l
            induction l with
            | nil => intro _ d hd; simp at hd
            | cons x r ih =>
              intro h d hd
              rcases List.mem_cons.1 hd with rfl | hd
              · exact h.1
              · exact ih h.2 d hd
          exact this _ hL
        refine h.1 T W hb (AllF.mem fun d hdw => hJ d (Nat.lt_trans (topo_lt ht hko hdw) (by omega)) (hall d hdw)) K fun v W' hb' hv => hK v W' ⟨hb.trans (hb'.mono hb.size), ?_⟩
        rintro j hj (rfl | hLj)
        · rw [hkd]
          simp only [updO, upd, if_true]
          exact hv
        · have hne : ds.getD j 0 ≠ ds.getD k 0 := fun e => by
            have := nodup_getD hnd (by omega) hkl e
            subst this
            exact hn hLj
          rw [hkd]
          simp only [updO, upd, if_neg hne]
          exact hS.get j _ _ _ (hJ j hj hLj) hb'
    exact key ops.toList 0 (fun j o ho => by simpa using ho) hs
  · rintro T W ⟨hb, hJ⟩
    exact he T W hb (AllF.mem fun k hk => hJ k (by simpa using hk) (by simpa using hk))
  · rintro L T W hL ⟨hb, hJ⟩
    exact ⟨hb, fun k hk _ => hJ k hk (hL k hk)⟩
end
end Go

/-
  A region that draws its order, whose operations leave values and make memory, and one of which stores an aggregate of three into a box.
-/
namespace Go.Proofs.YtackeigdehfmmaaGreatDoor
open Go.RowKit
section
variable {P : Program} {ops : Array Oper} {Q : Exit → Act → World → Prop}

/-- three cells of a box that can be written -/
def Bx (W : World) (n : Nat) : Prop := ∀ j, j < 3 → (∃ u, W.cell? ⟨n, j, none⟩ = some u) ∧ W.frozen? ⟨n, j, none⟩ = false

/-- what stays when memory is made, and block n is written -/
def StayK (n : Nat) (F : World → Value → Prop) : Prop := ∀ (W W' : World) (v : Value), F W v → Kept (fun b => b = n) W W' → F W' v
theorem stayK_val (n : Nat) (u : Value) : StayK n (fun _ v => v = u) := fun _ _ _ h _ => h
def AllK (n : Nat) : List (World → Value → Prop) → Prop
  | [] => True
  | F :: r => StayK n F ∧ AllK n r
theorem AllK.get {n : Nat} : ∀ {l : List (World → Value → Prop)} (k : Nat), AllK n l → StayK n (l.getD k fun _ _ => True)
  | [], _, _ => fun _ _ _ _ _ => trivial
  | _ :: _, 0, h => h.1
  | _ :: r, k + 1, h => AllK.get (l := r) k h.2

theorem Bx.below {W W' : World} {n : Nat} (h : Bx W n) (hb : Below W.heap.size W W') : Bx W' n := fun j hj => by
  obtain ⟨⟨u, hu⟩, hf⟩ := h j hj
  exact ⟨⟨u, (hb.cell (cell_lt hu)).trans hu⟩, (hb.frozen (p := ⟨n, j, none⟩) (cell_lt hu)).trans hf⟩

def Cells3 (W : World) (n : Nat) (v0 v1 v2 : Value) : Prop := W.cell? ⟨n, 0, none⟩ = some v0 ∧ W.cell? ⟨n, 1, none⟩ = some v1 ∧ W.cell? ⟨n, 2, none⟩ = some v2

theorem Cells3.below {W W' : World} {n : Nat} {v0 v1 v2 : Value} (h : Cells3 W n v0 v1 v2) (hb : Below W.heap.size W W') : Cells3 W' n v0 v1 v2 :=
  ⟨(hb.cell (cell_lt h.1)).trans h.1, (hb.cell (cell_lt h.2.1)).trans h.2.1, (hb.cell (cell_lt h.2.2)).trans h.2.2⟩

/-- the box is written -/
def put3 (W : World) (n : Nat) (v0 v1 v2 : Value) : World := ((W.setCell ⟨n, 0, none⟩ v0).setCell ⟨n, 1, none⟩ v1).setCell ⟨n, 2, none⟩ v2

theorem put3_cells {W : World} {n : Nat} (h : Bx W n) (v0 v1 v2 : Value) : Cells3 (put3 W n v0 v1 v2) n v0 v1 v2 ∧ Bx (put3 W n v0 v1 v2) n := by
  obtain ⟨⟨u0, h0⟩, f0⟩ := h 0 (by omega)
  obtain ⟨⟨u1, h1⟩, f1⟩ := h 1 (by omega)
  obtain ⟨⟨u2, h2⟩, f2⟩ := h 2 (by omega)
  have c : Cells3 (put3 W n v0 v1 v2) n v0 v1 v2 := by
    unfold Cells3 put3
    refine ⟨by simp [go_sem, h0], by simp [go_sem, h1], by simp [go_sem, h2]⟩
  refine ⟨c, fun j hj => ?_⟩
  have hf : (put3 W n v0 v1 v2).frozen? ⟨n, j, none⟩ = W.frozen? ⟨n, j, none⟩ := by unfold put3; simp [go_sem]
  rw [hf]
  match j, hj with
  | 0, _ => exact ⟨⟨_, c.1⟩, f0⟩
  | 1, _ => exact ⟨⟨_, c.2.1⟩, f1⟩
  | 2, _ => exact ⟨⟨_, c.2.2⟩, f2⟩

theorem put3_kept (W : World) (n : Nat) (v0 v1 v2 : Value) : Kept (fun b => b = n) W (put3 W n v0 v1 v2) :=
  (((Kept.refl W).setCell (G := fun b => b = n) (p := ⟨n, 0, none⟩) rfl v0).setCell (p := ⟨n, 1, none⟩) rfl v1).setCell (p := ⟨n, 2, none⟩) rfl v2

theorem wp_region_box {id : Nat} {a : Act} {w wx : World} (n m q : Nat) (Fs : List (World → Value → Prop)) (ds I : List Nat)
    (hm : P.follows .mixedOrders = true) (ht : topo .any ops = true) (hd : dsts ops = ds) (hdm : (ops.toList.take m).map (·.dst) = ds.map some) (hsz : ops.size = m + 1) (hlast : (ops[m]?).map (·.dst) = some none) (hnd : ds.Nodup)
    (hqw : ((ops[m]?).map fun o => decide (q ∈ waits .any o)) = some true) (hw : Kept (fun b => b = n) wx w) (hS : AllK n Fs)
    (hI : ∀ k ∈ I, k < m ∧ ∀ W v, (Fs.getD k fun _ _ => True) W v → ∃ g, v.ownBlock = some g ∧ g < W.heap.size)
    (hagg : ∀ W v, (Fs.getD q fun _ _ => True) W v → ∃ v0 v1 v2, v = .agg #[v0, v1, v2]) (hbox : Bx w n)
    (hs : EachOp (fun i o => (i < m → ∀ (T : Nat → Value) (W : World), Kept (fun b => b = n) wx W → Bx W n → AllF Fs ds T W (waits .any o) → (∀ k ∈ I, ∀ l ∈ I, k ≠ l → k ∈ waits .any o → l ∈ waits .any o → (T (ds.getD k 0)).ownBlock ≠ (T (ds.getD l 0)).ownBlock) →
        ∀ K : Act → World → Prop, (∀ v W', Below W.heap.size W W' → (Fs.getD i fun _ _ => True) W' v → (i ∈ I → ∃ g, v.ownBlock = some g ∧ W.heap.size ≤ g) → K (({ a with tmps := ovr a.tmps T ds } : Act).put o.dst v) W') →
          wpOp P ops Q i K { a with tmps := ovr a.tmps T ds } W) ∧
      (i = m → ∀ (T : Nat → Value) (W : World) (v0 v1 v2 : Value), T (ds.getD q 0) = .agg #[v0, v1, v2] → Bx W n → AllF Fs ds T W (waits .any o) →
        ∀ K : Act → World → Prop, (K { a with tmps := ovr a.tmps T ds } (put3 W n v0 v1 v2)) → wpOp P ops Q i K { a with tmps := ovr a.tmps T ds } W)) 0 ops.toList)
    (he : ∀ T W v0 v1 v2, Kept (fun b => b = n) wx W → AllF Fs ds T W (List.range m) → T (ds.getD q 0) = .agg #[v0, v1, v2] → Cells3 W n v0 v1 v2 → Q .normal { a with tmps := ovr a.tmps T ds } W) :
    (Code.region id ops true).wp P Q a w := by
  have hlen : ds.length = m := by
    have := congrArg List.length hdm
    simp [hsz] at this
    omega
  have hdst : ∀ (i : Nat) (o : Oper), i < m → ops[i]? = some o → o.dst = some (ds.getD i 0) := by
    intro i o hi ho
    have h1 : ((ops.toList.take m).map (·.dst))[i]? = some o.dst := by
      rw [List.getElem?_map, List.getElem?_take_of_lt hi]
      simp [ho]
    rw [hdm, List.getElem?_map, List.getElem?_eq_getElem (by omega)] at h1
    simp only [Option.map_some, Option.some.injEq] at h1
    rw [← h1, List.getD_eq_getElem?_getD, List.getElem?_eq_getElem (by omega)]
    rfl
  have hql : ∀ o, ops[m]? = some o → q < m ∧ q ∈ waits .any o := by
    intro o ho
    rw [ho] at hqw
    simp at hqw
    exact ⟨topo_lt ht ho hqw, hqw⟩
  refine wp_region_flow (fun L T W => Kept (fun b => b = n) wx W ∧ Bx W n ∧ (∀ k, k < m → L k → (Fs.getD k fun _ _ => True) W (T (ds.getD k 0))) ∧ (L m → L q ∧ ∃ v0 v1 v2, T (ds.getD q 0) = .agg #[v0, v1, v2] ∧ Cells3 W n v0 v1 v2) ∧ (∀ k ∈ I, ∀ l ∈ I, k ≠ l → L k → L l → (T (ds.getD k 0)).ownBlock ≠ (T (ds.getD l 0)).ownBlock)) ds hm ht hd ?_ ?_ ?_ ?_
  · intro T
    exact ⟨hw.drew, hbox, fun k _ h => h.elim, fun h => h.elim, fun k _ l _ _ h => h.elim⟩
  · have all : ∀ {L : Nat → Prop} (l : List Nat), AllL L l → ∀ d, d ∈ l → L d := by
      intro L l
      induction l with
      | nil => intro _ d hd; simp at hd
      | cons x r ih =>
        intro h d hd
        rcases List.mem_cons.1 hd with rfl | hd
        · exact h.1
        · exact ih h.2 d hd
    have key : ∀ (l : List Oper) (k : Nat), (∀ j o, l[j]? = some o → ops[k + j]? = some o) →
        EachOp (fun i o => (i < m → ∀ (T : Nat → Value) (W : World), Kept (fun b => b = n) wx W → Bx W n → AllF Fs ds T W (waits .any o) → (∀ k ∈ I, ∀ l ∈ I, k ≠ l → k ∈ waits .any o → l ∈ waits .any o → (T (ds.getD k 0)).ownBlock ≠ (T (ds.getD l 0)).ownBlock) →
            ∀ K : Act → World → Prop, (∀ v W', Below W.heap.size W W' → (Fs.getD i fun _ _ => True) W' v → (i ∈ I → ∃ g, v.ownBlock = some g ∧ W.heap.size ≤ g) → K (({ a with tmps := ovr a.tmps T ds } : Act).put o.dst v) W') →
              wpOp P ops Q i K { a with tmps := ovr a.tmps T ds } W) ∧
          (i = m → ∀ (T : Nat → Value) (W : World) (v0 v1 v2 : Value), T (ds.getD q 0) = .agg #[v0, v1, v2] → Bx W n → AllF Fs ds T W (waits .any o) →
            ∀ K : Act → World → Prop, (K { a with tmps := ovr a.tmps T ds } (put3 W n v0 v1 v2)) → wpOp P ops Q i K { a with tmps := ovr a.tmps T ds } W)) k l →
        EachOp (fun i o => ∀ (L : Nat → Prop) (T : Nat → Value) (w : World), AllL L (waits .any o) → ¬ L i →
          (Kept (fun b => b = n) wx w ∧ Bx w n ∧ (∀ k, k < m → L k → (Fs.getD k fun _ _ => True) w (T (ds.getD k 0))) ∧ (L m → L q ∧ ∃ v0 v1 v2, T (ds.getD q 0) = .agg #[v0, v1, v2] ∧ Cells3 w n v0 v1 v2) ∧ (∀ k ∈ I, ∀ l ∈ I, k ≠ l → L k → L l → (T (ds.getD k 0)).ownBlock ≠ (T (ds.getD l 0)).ownBlock)) →
          ∀ K : Act → World → Prop, (∀ v w', (Kept (fun b => b = n) wx w' ∧ Bx w' n ∧ (∀ k, k < m → (k = i ∨ L k) → (Fs.getD k fun _ _ => True) w' (updO T o.dst v (ds.getD k 0))) ∧ ((m = i ∨ L m) → (q = i ∨ L q) ∧ ∃ v0 v1 v2, updO T o.dst v (ds.getD q 0) = .agg #[v0, v1, v2] ∧ Cells3 w' n v0 v1 v2) ∧ (∀ k ∈ I, ∀ l ∈ I, k ≠ l → (k = i ∨ L k) → (l = i ∨ L l) → (updO T o.dst v (ds.getD k 0)).ownBlock ≠ (updO T o.dst v (ds.getD l 0)).ownBlock)) →
            K (({ a with tmps := ovr a.tmps T ds } : Act).put o.dst v) w') →
            wpOp P ops Q i K { a with tmps := ovr a.tmps T ds } w) k l := by
      intro l
      induction l with
      | nil => intro k _ _; trivial
      | cons o r ih =>
        intro k hin h
        refine ⟨?_, ih (k + 1) (fun j o' ho => by have := hin (j + 1) o' (by simpa using ho); rw [show k + 1 + j = k + (j + 1) by omega]; exact this) h.2⟩
        rintro L T W hL hn ⟨hb, hx, hJ, hC, hP⟩ K hK
        have hko : ops[k]? = some o := by simpa using hin 0 o rfl
        have hklt : k < ops.size := (Array.getElem?_eq_some_iff.1 hko).1
        have hall := all _ hL
        by_cases hkm : k < m
        · have hkd := hdst k o hkm hko
          refine h.1.1 hkm T W hb hx (AllF.mem fun d hdw => hJ d (Nat.lt_trans (topo_lt ht hko hdw) hkm) (hall d hdw)) (fun x hx1 y hy1 hxy hxw hyw => hP x hx1 y hy1 hxy (hall x hxw) (hall y hyw)) K fun v W' hb' hv hnew => hK v W' ⟨hb.trans (Kept.of_below hb'), hx.below hb', ?_, ?_, ?_⟩
          · rintro j hj (rfl | hLj)
            · rw [hkd]
              simp only [updO, upd, if_true]
              exact hv
            · have hne : ds.getD j 0 ≠ ds.getD k 0 := fun e => by
                have := nodup_getD hnd (by omega) (by omega) e
                subst this
                exact hn hLj
              rw [hkd]
              simp only [updO, upd, if_neg hne]
              exact hS.get j _ _ _ (hJ j hj hLj) (Kept.of_below hb')
          · rintro (rfl | hLm)
            · omega
            · obtain ⟨hq1, v0, v1, v2, hv0, hc⟩ := hC hLm
              obtain ⟨om, hom⟩ : ∃ om, ops[m]? = some om := ⟨_, Array.getElem?_eq_getElem (by omega)⟩
              have hqm := (hql om hom).1
              have hne : ds.getD q 0 ≠ ds.getD k 0 := fun e => by
                have := nodup_getD hnd (by omega) (by omega) e
                subst this
                exact hn hq1
              refine ⟨.inr hq1, v0, v1, v2, ?_, hc.below hb'⟩
              rw [hkd]
              simp only [updO, upd, if_neg hne]
              exact hv0
          · intro x hx1 y hy1 hxy hxL hyL
            have hxm := (hI x hx1).1
            have hym := (hI y hy1).1
            have old : ∀ j, j < m → L j → j ≠ k → updO T o.dst v (ds.getD j 0) = T (ds.getD j 0) := by
              intro j hj _ hjk
              have hne : ds.getD j 0 ≠ ds.getD k 0 := fun e => hjk (nodup_getD hnd (by omega) (by omega) e)
              rw [hkd]
              simp only [updO, upd, if_neg hne]
            have new : updO T o.dst v (ds.getD k 0) = v := by rw [hkd]; simp only [updO, upd, if_true]
            have lt : ∀ j, j ∈ I → L j → ∃ g, (T (ds.getD j 0)).ownBlock = some g ∧ g < W.heap.size := fun j hj hLj => (hI j hj).2 _ _ (hJ j (hI j hj).1 hLj)
            rcases hxL with rfl | hxL
            · rcases hyL with rfl | hyL
              · exact absurd rfl hxy
              · obtain ⟨g, hg, hgl⟩ := hnew hx1
                obtain ⟨g', hg', hgl'⟩ := lt y hy1 hyL
                rw [new, old y hym hyL (Ne.symm hxy), hg, hg']
                intro e
                have := Option.some.inj e
                omega
            · rcases hyL with rfl | hyL
              · obtain ⟨g, hg, hgl⟩ := hnew hy1
                obtain ⟨g', hg', hgl'⟩ := lt x hx1 hxL
                rw [new, old x hxm hxL hxy, hg, hg']
                intro e
                have := Option.some.inj e
                omega
              · rw [old x hxm hxL (fun e => hn (e ▸ hxL)), old y hym hyL (fun e => hn (e ▸ hyL))]
                exact hP x hx1 y hy1 hxy hxL hyL
        · obtain rfl : k = m := by omega
          obtain ⟨hqm, hqw'⟩ := hql o hko
          have hFq := hJ q hqm (hall q hqw')
          obtain ⟨v0, v1, v2, hv0⟩ := hagg _ _ hFq
          have hod : o.dst = none := by rw [hko] at hlast; simpa using hlast
          obtain ⟨hc3, hx3⟩ := put3_cells hx v0 v1 v2
          refine h.1.2 rfl T W v0 v1 v2 hv0 hx (AllF.mem fun d hdw => hJ d (topo_lt ht hko hdw) (hall d hdw)) K ?_
          have := hK undef (put3 W n v0 v1 v2) ⟨hb.trans (put3_kept W n v0 v1 v2), hx3, ?_, ?_, ?_⟩
          · rw [hod] at this; exact this
          · rintro j hj (rfl | hLj)
            · omega
            · rw [hod]
              exact hS.get j _ _ _ (hJ j hj hLj) (put3_kept W n v0 v1 v2)
          · intro _
            refine ⟨.inr (hall q hqw'), v0, v1, v2, ?_, hc3⟩
            rw [hod]; exact hv0
          · intro x hx1 y hy1 hxy hxL hyL
            have hxm := (hI x hx1).1
            have hym := (hI y hy1).1
            rw [hod]
            exact hP x hx1 y hy1 hxy (hxL.resolve_left (by omega)) (hyL.resolve_left (by omega))
    exact key ops.toList 0 (fun j o ho => by simpa using ho) hs
  · rintro T W ⟨hb, hx, hJ, hC, _⟩
    obtain ⟨_, v0, v1, v2, hv0, hc⟩ := hC (by omega)
    exact he T W v0 v1 v2 hb (AllF.mem fun k hk => hJ k (by simpa using hk) (by simp at hk; omega)) hv0 hc
  · rintro L T W hL ⟨hb, hx, hJ, hC, hP⟩
    refine ⟨hb, hx, fun k hk _ => hJ k hk (hL k (by omega)), fun _ => ?_, fun x hx1 y hy1 hxy _ _ => hP x hx1 y hy1 hxy (hL x (by have := (hI x hx1).1; omega)) (hL y (by have := (hI y hy1).1; omega))⟩
    obtain ⟨hq, h⟩ := hC (hL m (by omega))
    obtain ⟨om, hom⟩ : ∃ om, ops[m]? = some om := ⟨_, Array.getElem?_eq_getElem (by omega)⟩
    exact ⟨by have := (hql om hom).1; omega, h⟩
end
end Go.Proofs.YtackeigdehfmmaaGreatDoor

/-
  A region that draws its order, whose operations leave values, make memory, and store into boxes that there were before; each box is stored into at most once.
-/
namespace Go.Proofs.YtackeigdehfmmaaGreatDoor
open Go.RowKit
section
variable {P : Program} {ops : Array Oper} {Q : Exit → Act → World → Prop}

theorem Kept.wide {G H : Nat → Prop} {w w' : World} (h : Kept G w w') (hG : ∀ b, G b → H b) : Kept H w w' := ⟨h.os, h.tape, h.output, h.size, fun k hk hn => h.block k hk fun hg => hn (hG k hg)⟩

/-- the value that an operation has left -/
def dv (ds : List (Option Nat)) (T : Nat → Value) (k : Nat) : Value := ((ds.getD k none).map T).getD undef

def AllD (Fs : List (World → Value → Prop)) (ds : List (Option Nat)) (T : Nat → Value) (W : World) : List Nat → Prop
  | [] => True
  | k :: r => (Fs.getD k fun _ _ => True) W (dv ds T k) ∧ AllD Fs ds T W r
theorem AllD.mem {Fs : List (World → Value → Prop)} {ds : List (Option Nat)} {T : Nat → Value} {W : World} : ∀ {l : List Nat}, (∀ k ∈ l, (Fs.getD k fun _ _ => True) W (dv ds T k)) → AllD Fs ds T W l
  | [], _ => trivial
  | k :: r, h => ⟨h k (by simp), AllD.mem fun x hx => h x (by simp [hx])⟩
theorem AllD.of {Fs : List (World → Value → Prop)} {ds : List (Option Nat)} {T : Nat → Value} {W : World} : ∀ {l : List Nat} (k : Nat), AllD Fs ds T W l → k ∈ l → (Fs.getD k fun _ _ => True) W (dv ds T k)
  | [], _, _, h => by simp at h
  | x :: r, k, h, hk => by
    rcases List.mem_cons.1 hk with rfl | hk
    · exact h.1
    · exact AllD.of k h.2 hk
theorem AllD.at {Fs : List (World → Value → Prop)} {ds : List (Option Nat)} {T : Nat → Value} {W : World} {n : Nat} (k : Nat) (h : AllD Fs ds T W (List.range n)) (hk : k < n) : (Fs.getD k fun _ _ => True) W (dv ds T k) :=
  AllD.of k h (by simpa using hk)

/-- the boxes into which operations other than k store -/
def Oth (es : Nat → Option Nat) (k : Nat) (b : Nat) : Prop := ∃ i, i ≠ k ∧ es i = some b
/-- the boxes into which operations store -/
def Any (es : Nat → Option Nat) (b : Nat) : Prop := ∃ i, es i = some b
theorem Oth.any {es : Nat → Option Nat} {k b : Nat} (h : Oth es k b) : Any es b := by obtain ⟨i, _, h⟩ := h; exact ⟨i, h⟩
/-- one store: operation k into box n -/
def es1 (k n : Nat) : Nat → Option Nat := fun i => if i = k then some n else none
/-- two stores -/
def es2 (k n l m : Nat) : Nat → Option Nat := fun i => if i = k then some n else if i = l then some m else none
theorem any1 {k n b : Nat} (h : Any (es1 k n) b) : b = n := by
  obtain ⟨i, h⟩ := h; unfold es1 at h; split at h
  · exact (Option.some.inj h).symm
  · cases h
theorem any2 {k n l m b : Nat} (h : Any (es2 k n l m) b) : b = n ∨ b = m := by
  obtain ⟨i, h⟩ := h; unfold es2 at h; split at h
  · exact .inl (Option.some.inj h).symm
  · split at h
    · exact .inr (Option.some.inj h).symm
    · cases h
theorem oth1 {k n b : Nat} (h : Oth (es1 k n) k b) : False := by
  obtain ⟨i, hi, h⟩ := h; unfold es1 at h; rw [if_neg hi] at h; cases h
theorem oth2a {k n l m b : Nat} (h : Oth (es2 k n l m) k b) : b = m := by
  obtain ⟨i, hi, h⟩ := h; unfold es2 at h; rw [if_neg hi] at h; split at h
  · exact (Option.some.inj h).symm
  · cases h
theorem oth2b {k n l m b : Nat} (h : Oth (es2 k n l m) l b) : b = n := by
  obtain ⟨i, hi, h⟩ := h; unfold es2 at h; split at h
  · exact (Option.some.inj h).symm
  · first | (rw [if_neg hi] at h; cases h) | cases h
def StayP (H : Nat → Prop) (F : World → Value → Prop) : Prop := ∀ (W W' : World) (v : Value), F W v → Kept H W W' → F W' v
theorem stayP_val (H : Nat → Prop) (u : Value) : StayP H (fun _ v => v = u) := fun _ _ _ h _ => h
def AllP (es : Nat → Option Nat) : Nat → List (World → Value → Prop) → Prop
  | _, [] => True
  | k, F :: r => StayP (Oth es k) F ∧ AllP es (k + 1) r
theorem AllP.get {es : Nat → Option Nat} : ∀ {l : List (World → Value → Prop)} (j k : Nat), AllP es j l → StayP (Oth es (j + k)) (l.getD k fun _ _ => True)
  | [], _, _, _ => fun _ _ _ _ _ => trivial
  | _ :: _, _, 0, h => h.1
  | _ :: r, j, k + 1, h => by have := AllP.get (l := r) (j + 1) k h.2; rw [show j + (k + 1) = j + 1 + k by omega]; exact this

theorem nodup_some : ∀ {ds : List (Option Nat)}, (ds.filterMap id).Nodup → ∀ {i k d : Nat}, ds.getD i none = some d → ds.getD k none = some d → i = k
  | [], _, i, k, d, h, _ => by simp at h
  | none :: r, hn, i, k, d, h1, h2 => by
    have hn' : (r.filterMap id).Nodup := by simpa using hn
    match i, k with
    | 0, _ => simp at h1
    | _, 0 => simp at h2
    | i + 1, k + 1 => rw [nodup_some hn' (i := i) (k := k) (by simpa using h1) (by simpa using h2)]
  | some x :: r, hn, i, k, d, h1, h2 => by
    have hn' : x ∉ r.filterMap id ∧ (r.filterMap id).Nodup := by simpa using hn
    have mem : ∀ j, r.getD j none = some d → d ∈ r.filterMap id := by
      intro j hj
      refine List.mem_filterMap.2 ⟨some d, ?_, rfl⟩
      rw [List.getD_eq_getElem?_getD] at hj
      cases hg : r[j]? with
      | none => rw [hg] at hj; simp at hj
      | some y => rw [hg] at hj; simp at hj; subst hj; exact List.mem_of_getElem? hg
    match i, k with
    | 0, 0 => rfl
    | 0, k + 1 =>
      simp at h1; subst h1
      exact absurd (mem k (by simpa using h2)) hn'.1
    | i + 1, 0 =>
      simp at h2; subst h2
      exact absurd (mem i (by simpa using h1)) hn'.1
    | i + 1, k + 1 => rw [nodup_some hn'.2 (i := i) (k := k) (by simpa using h1) (by simpa using h2)]

theorem wp_region_puts {id : Nat} {a : Act} {w wx : World} (Fs : List (World → Value → Prop)) (Ps : List (World → Prop)) (ds : List (Option Nat)) (es : Nat → Option Nat) (dl : List Nat)
    (hm : P.follows .mixedOrders = true) (ht : topo .any ops = true) (hd : ops.toList.map (·.dst) = ds) (hdl : ds.filterMap (fun x => x) = dl) (hnd : dl.Nodup)
    (hw : Kept (Any es) wx w) (hS : AllP es 0 Fs) (hPs : AllP es 0 (Ps.map fun p W _ => p W)) (hP0 : ∀ k, (Ps.getD k fun _ => True) w.drew)
    (hs : EachOp (fun i o => ∀ (T : Nat → Value) (W : World), Kept (Any es) wx W → (Ps.getD i fun _ => True) W → AllD Fs ds T W (waits .any o) →
      ∀ K : Act → World → Prop, (∀ v W', Kept (fun b => es i = some b) W W' → (Fs.getD i fun _ _ => True) W' ((o.dst.map fun _ => v).getD undef) → K (({ a with tmps := ovr a.tmps T dl } : Act).put o.dst v) W') →
        wpOp P ops Q i K { a with tmps := ovr a.tmps T dl } W) 0 ops.toList)
    (he : ∀ T W, Kept (Any es) wx W → AllD Fs ds T W (List.range ops.size) → Q .normal { a with tmps := ovr a.tmps T dl } W) : (Code.region id ops true).wp P Q a w := by
  have hnd' : (ds.filterMap _root_.id).Nodup := by
    have : ds.filterMap _root_.id = dl := hdl
    rw [this]; exact hnd
  have hdst : ∀ (i : Nat) (o : Oper), ops[i]? = some o → i < ops.size ∧ o.dst = ds.getD i none := by
    intro i o ho
    have hi : i < ops.size := (Array.getElem?_eq_some_iff.1 ho).1
    refine ⟨hi, ?_⟩
    have h1 : (ops.toList.map (·.dst))[i]? = some o.dst := by simp [ho]
    rw [hd] at h1
    rw [List.getD_eq_getElem?_getD, h1]; rfl
  have hes : ∀ i b, es i = some b → Any es b := fun i b h => ⟨i, h⟩
  have hPget : ∀ k W W', (Ps.getD k fun _ => True) W → Kept (Oth es k) W W' → (Ps.getD k fun _ => True) W' := by
    intro k W W' h hk
    have := hPs.get 0 k
    rw [Nat.zero_add] at this
    by_cases hkl : k < Ps.length
    · have e : (Ps.map fun p (W : World) (_ : Value) => p W).getD k (fun _ _ => True) = fun W _ => (Ps.getD k fun _ => True) W := by
        rw [List.getD_eq_getElem?_getD, List.getElem?_map, List.getD_eq_getElem?_getD, List.getElem?_eq_getElem hkl]; rfl
      rw [e] at this
      exact this W W' undef h hk
    · rw [List.getD_eq_getElem?_getD, List.getElem?_eq_none (by omega)]; trivial
  refine wp_region_flow (fun L T W => Kept (Any es) wx W ∧ (∀ k, k < ops.size → ¬ L k → (Ps.getD k fun _ => True) W) ∧ ∀ k, k < ops.size → L k → (Fs.getD k fun _ _ => True) W (dv ds T k)) dl hm ht ?_ (fun T => ⟨hw.drew, fun k _ _ => hP0 k, fun k _ h => h.elim⟩) ?_ ?_ ?_
  · unfold dsts
    rw [← hdl, ← hd]
    simp [List.filterMap_map]
    rfl
  · have key : ∀ (l : List Oper) (k : Nat), (∀ j o, l[j]? = some o → ops[k + j]? = some o) →
        EachOp (fun i o => ∀ (T : Nat → Value) (W : World), Kept (Any es) wx W → (Ps.getD i fun _ => True) W → AllD Fs ds T W (waits .any o) →
          ∀ K : Act → World → Prop, (∀ v W', Kept (fun b => es i = some b) W W' → (Fs.getD i fun _ _ => True) W' ((o.dst.map fun _ => v).getD undef) → K (({ a with tmps := ovr a.tmps T dl } : Act).put o.dst v) W') →
            wpOp P ops Q i K { a with tmps := ovr a.tmps T dl } W) k l →
        EachOp (fun i o => ∀ (L : Nat → Prop) (T : Nat → Value) (w : World), AllL L (waits .any o) → ¬ L i → (Kept (Any es) wx w ∧ (∀ k, k < ops.size → ¬ L k → (Ps.getD k fun _ => True) w) ∧ ∀ k, k < ops.size → L k → (Fs.getD k fun _ _ => True) w (dv ds T k)) →
          ∀ K : Act → World → Prop, (∀ v w', (Kept (Any es) wx w' ∧ (∀ k, k < ops.size → ¬ (k = i ∨ L k) → (Ps.getD k fun _ => True) w') ∧ ∀ k, k < ops.size → (k = i ∨ L k) → (Fs.getD k fun _ _ => True) w' (dv ds (updO T o.dst v) k)) → K (({ a with tmps := ovr a.tmps T dl } : Act).put o.dst v) w') →
            wpOp P ops Q i K { a with tmps := ovr a.tmps T dl } w) k l := by
      intro l
      induction l with
      | nil => intro k _ _; trivial
      | cons o r ih =>
        intro k hin h
        refine ⟨?_, ih (k + 1) (fun j o' ho => by have := hin (j + 1) o' (by simpa using ho); rw [show k + 1 + j = k + (j + 1) by omega]; exact this) h.2⟩
        rintro L T W hL hn ⟨hb, hQ, hJ⟩ K hK
        have hko : ops[k]? = some o := by simpa using hin 0 o rfl
        obtain ⟨hkl, hkd⟩ := hdst k o hko
        have hall : ∀ d, d ∈ waits .any o → L d := by
          have : ∀ l : List Nat, AllL L l → ∀ d, d ∈ l → L d := by
            intro l
            induction l with
            | nil => intro _ d hd; simp at hd
            | cons x r ih =>
              intro h d hd
              rcases List.mem_cons.1 hd with rfl | hd
              · exact h.1
              · exact ih h.2 d hd
          exact this _ hL
        refine h.1 T W hb (hQ k hkl hn) (AllD.mem fun d hdw => hJ d (Nat.lt_trans (topo_lt ht hko hdw) hkl) (hall d hdw)) K fun v W' hb' hv => hK v W' ⟨hb.trans (hb'.wide fun b h => hes k b h), ?_, ?_⟩
        · intro j hjs hj
          exact hPget j W W' (hQ j hjs fun h => hj (.inr h)) (hb'.wide fun b h => ⟨k, fun e => hj (.inl e.symm), h⟩)
        · rintro j hj (rfl | hLj)
          · have : dv ds (updO T o.dst v) j = (o.dst.map fun _ => v).getD undef := by
              unfold dv
              rw [← hkd]
              cases hdo : o.dst with
              | none => rfl
              | some d => simp [updO, upd]
            rw [this]; exact hv
          · have hjk : j ≠ k := fun e => hn (e ▸ hLj)
            have : dv ds (updO T o.dst v) j = dv ds T j := by
              unfold dv
              cases hdj : ds.getD j none with
              | none => rfl
              | some d =>
                cases hdo : o.dst with
                | none => rfl
                | some d' =>
                  have hne : d ≠ d' := fun e => by
                    rw [hdo] at hkd
                    exact hjk (nodup_some hnd' hdj (by rw [← hkd, e]))
                  simp [updO, upd, hne]
            rw [this]
            have hst := hS.get 0 j
            rw [Nat.zero_add] at hst
            exact hst _ _ _ (hJ j hj hLj) (hb'.wide fun b h => ⟨k, fun e => hjk e.symm, h⟩)
    exact key ops.toList 0 (fun j o ho => by simpa using ho) hs
  · rintro T W ⟨hb, _, hJ⟩
    exact he T W hb (AllD.mem fun k hk => hJ k (by simpa using hk) (by simpa using hk))
  · rintro L T W hL ⟨hb, hQ, hJ⟩
    exact ⟨hb, fun k hk h => absurd hk h, fun k hk _ => hJ k hk (hL k hk)⟩
end
end Go.Proofs.YtackeigdehfmmaaGreatDoor

/-
  A region that draws its order, whose operations leave values, make memory, and in which boxes are made and written, each by one store of an aggregate.
-/
namespace Go.Proofs.YtackeigdehfmmaaGreatDoor
open Go.RowKit
section
variable {P : Program} {ops : Array Oper} {Q : Exit → Act → World → Prop}

/-- cells of a box are written, one behind the other -/
def putN (W : World) (n : Nat) : Nat → List Value → World
  | _, [] => W
  | k, v :: r => putN (W.setCell ⟨n, k, none⟩ v) n (k + 1) r

theorem putN_kept (n : Nat) : ∀ (vs : List Value) (k : Nat) (W : World), Kept (fun b => b = n) W (putN W n k vs)
  | [], _, W => Kept.refl W
  | v :: r, k, W => ((Kept.refl W).setCell (G := fun b => b = n) (p := ⟨n, k, none⟩) rfl v).trans (putN_kept n r (k + 1) _)

theorem putN_row {n : Nat} {E : TypeId} : ∀ (vs xs pre : List Value) (W : World), Row W n E (pre ++ xs) → vs.length = xs.length → Row (putN W n pre.length vs) n E (pre ++ vs)
  | [], xs, pre, W, h, hl => by
    have : xs = [] := List.eq_nil_of_length_eq_zero hl.symm
    subst this; exact h
  | v :: r, [], pre, W, h, hl => by simp at hl
  | v :: r, x :: xs, pre, W, h, hl => by
    have h1 := h.set pre.length v
    have e : (pre ++ x :: xs).set pre.length v = (pre ++ [v]) ++ xs := by simp
    rw [e] at h1
    have := putN_row r xs (pre ++ [v]) _ h1 (by simpa using hl)
    simp only [List.length_append, List.length_singleton, List.append_assoc, List.singleton_append] at this
    exact this

/-- a box made in the region: the store, the operation whose value is stored, the type and the first cells -/
structure Fb where
  st : Nat
  src : Nat
  E : TypeId
  z : List Value

/-- a fact about the values that the operations have left, outside the blocks of G -/
abbrev FactG := (Nat → Prop) → (Nat → Value) → World → Prop
/-- it stays: it speaks of the values of the operations in sup only -/
def Adj (sup : List Nat) (F : FactG) : Prop := ∀ (G G' : Nat → Prop) (X X' : Nat → Value) (W W' : World), F G X W → Kept G W W' → (∀ b, b < W.heap.size → G' b → G b) → (∀ j ∈ sup, X' j = X j) → F G' X' W'
theorem adj_val (k : Nat) (r : List Nat) (u : Value) : Adj (k :: r) (fun _ X _ => X k = u) := fun _ _ _ _ _ _ h _ _ hX => (hX k (by simp)).trans h
theorem adj_true (sup : List Nat) : Adj sup (fun _ _ _ => True) := fun _ _ _ _ _ _ h _ _ _ => h
/-- a fact about the own value alone -/
theorem adj_own {k : Nat} {r : List Nat} {F : (Nat → Prop) → World → Value → Prop} (h : ∀ (G G' : Nat → Prop) (W W' : World) (v : Value), F G W v → Kept G W W' → (∀ b, b < W.heap.size → G' b → G b) → F G' W' v) : Adj (k :: r) (fun G X W => F G W (X k)) :=
  fun G G' X X' W W' hf hk hg hX => by
    have := h G G' W W' _ hf hk hg
    show F G' W' (X' k)
    rw [hX k (by simp)]; exact this
def supOf (ops : Array Oper) (k : Nat) : List Nat := k :: ((ops[k]?).map fun o => waits .any o).getD []
theorem adj_own' {ops : Array Oper} {k : Nat} {F : (Nat → Prop) → World → Value → Prop} (h : ∀ (G G' : Nat → Prop) (W W' : World) (v : Value), F G W v → Kept G W W' → (∀ b, b < W.heap.size → G' b → G b) → F G' W' v) : Adj (supOf ops k) (fun G X W => F G W (X k)) := adj_own h
def AllA (ops : Array Oper) : Nat → List FactG → Prop
  | _, [] => True
  | k, F :: r => Adj (supOf ops k) F ∧ AllA ops (k + 1) r
theorem AllA.get {ops : Array Oper} : ∀ {l : List FactG} (j k : Nat), AllA ops j l → Adj (supOf ops (j + k)) (l.getD k fun _ _ _ => True)
  | [], _, _, _ => adj_true _
  | _ :: _, _, 0, h => h.1
  | _ :: r, j, k + 1, h => by have := AllA.get (l := r) (j + 1) k h.2; rw [show j + (k + 1) = j + 1 + k by omega]; exact this

def AllG (Fs : List FactG) (G : Nat → Prop) (X : Nat → Value) (W : World) : List Nat → Prop
  | [] => True
  | k :: r => (Fs.getD k fun _ _ _ => True) G X W ∧ AllG Fs G X W r
theorem AllG.mem {Fs : List FactG} {G : Nat → Prop} {X : Nat → Value} {W : World} : ∀ {l : List Nat}, (∀ k ∈ l, (Fs.getD k fun _ _ _ => True) G X W) → AllG Fs G X W l
  | [], _ => trivial
  | k :: r, h => ⟨h k (by simp), AllG.mem fun x hx => h x (by simp [hx])⟩
theorem AllG.of {Fs : List FactG} {G : Nat → Prop} {X : Nat → Value} {W : World} : ∀ {l : List Nat} (k : Nat), AllG Fs G X W l → k ∈ l → (Fs.getD k fun _ _ _ => True) G X W
  | [], _, _, h => by simp at h
  | x :: r, k, h, hk => by
    rcases List.mem_cons.1 hk with rfl | hk
    · exact h.1
    · exact AllG.of k h.2 hk
theorem AllG.at {Fs : List FactG} {G : Nat → Prop} {X : Nat → Value} {W : World} {n : Nat} (k : Nat) (h : AllG Fs G X W (List.range n)) (hk : k < n) : (Fs.getD k fun _ _ _ => True) G X W :=
  AllG.of k h (by simpa using hk)

/-- what the boxes are like: each store waits for its box and its value, and leaves none; no two boxes share a store -/
def okNew (al : List (Option Fb)) (ops : Array Oper) : Bool :=
  (List.range al.length).all fun i => match al.getD i none with
    | none => true
    | some fb => decide (i < ops.size) && decide (fb.st < ops.size) && decide (fb.src < ops.size) && ((ops[fb.st]?).map fun o => (waits .any o).contains i && (waits .any o).contains fb.src && o.dst.isNone).getD false &&
        ((ops[i]?).map fun o => o.dst.isSome).getD false && (al.getD fb.st none).isNone && (al.getD fb.src none).isNone &&
        (List.range al.length).all fun j => match al.getD j none with
          | none => true
          | some fc => decide (i = j) || decide (fb.st ≠ fc.st)

theorem getD_lt {al : List (Option Fb)} {i : Nat} {fb : Fb} (h : al.getD i none = some fb) : i < al.length := by
  by_cases hi : i < al.length
  · exact hi
  · rw [List.getD_eq_getElem?_getD, List.getElem?_eq_none (by omega)] at h; cases h

theorem okNew.get {al : List (Option Fb)} {ops : Array Oper} (h : okNew al ops = true) {i : Nat} {fb : Fb} (hi : al.getD i none = some fb) :
    i < ops.size ∧ fb.st < ops.size ∧ fb.src < ops.size ∧ (∀ o, ops[fb.st]? = some o → i ∈ waits .any o ∧ fb.src ∈ waits .any o ∧ o.dst = none) ∧ (∃ p, ∀ o, ops[i]? = some o → o.dst = some p) ∧ al.getD fb.st none = none ∧ al.getD fb.src none = none ∧
      ∀ j fc, al.getD j none = some fc → i ≠ j → fb.st ≠ fc.st := by
  have h1 := List.all_eq_true.1 h i (by simpa using getD_lt hi)
  rw [hi] at h1
  simp only [Bool.and_eq_true, decide_eq_true_eq] at h1
  obtain ⟨⟨⟨⟨⟨⟨⟨h1, h2⟩, h3⟩, h4⟩, h5⟩, h6⟩, h7⟩, h8⟩ := h1
  refine ⟨h1, h2, h3, fun o ho => ?_, ?_, by simpa using h6, by simpa using h7, fun j fc hj hij => ?_⟩
  · rw [ho] at h4
    simp at h4
    exact ⟨h4.1.1, h4.1.2, h4.2⟩
  · rw [Array.getElem?_eq_getElem h1] at h5
    simp at h5
    obtain ⟨p, hp⟩ := Option.isSome_iff_exists.1 h5
    refine ⟨p, fun o ho => ?_⟩
    rw [Array.getElem?_eq_getElem h1] at ho
    cases ho; exact hp
  · have h9 := List.all_eq_true.1 h8 j (by simpa using getD_lt hj)
    rw [hj] at h9
    simp only [Bool.or_eq_true, decide_eq_true_eq] at h9
    exact h9.resolve_left hij

/-- neither makes a box nor writes one -/
def ordB (al : List (Option Fb)) (i : Nat) : Bool := (al.getD i none).isNone && al.all fun x => match x with
  | none => true
  | some fb => fb.st != i
theorem ordB.mk {al : List (Option Fb)} {i : Nat} (h : al.getD i none = none) (h2 : ∀ j fb, al.getD j none = some fb → fb.st ≠ i) : ordB al i = true := by
  unfold ordB
  rw [h]
  simp only [Option.isNone_none, Bool.true_and, List.all_eq_true]
  intro x hx
  cases x with
  | none => rfl
  | some fb =>
    obtain ⟨j, hj, e⟩ := List.getElem_of_mem hx
    have := h2 j fb (by rw [List.getD_eq_getElem?_getD, List.getElem?_eq_getElem hj, e]; rfl)
    simpa using this
def EachBox (p : Nat → Fb → Prop) : Nat → List (Option Fb) → Prop
  | _, [] => True
  | k, none :: r => EachBox p (k + 1) r
  | k, some fb :: r => p k fb ∧ EachBox p (k + 1) r
theorem EachBox.at {p : Nat → Fb → Prop} : ∀ {al : List (Option Fb)} {k j : Nat} {fb : Fb}, EachBox p k al → al.getD j none = some fb → p (k + j) fb
  | [], _, j, _, _, h => by simp at h
  | none :: r, k, 0, _, _, h => by simp at h
  | some x :: r, k, 0, fb, hp, h => by simp at h; subst h; exact hp.1
  | none :: r, k, j + 1, fb, hp, h => by
    have := EachBox.at (al := r) (k := k + 1) (j := j) (fb := fb) hp (by simpa using h)
    rw [show k + (j + 1) = k + 1 + j by omega]; exact this
  | some x :: r, k, j + 1, fb, hp, h => by
    have := EachBox.at (al := r) (k := k + 1) (j := j) (fb := fb) hp.2 (by simpa using h)
    rw [show k + (j + 1) = k + 1 + j by omega]; exact this
theorem EachBox.get {p : Nat → Fb → Prop} {al : List (Option Fb)} {j : Nat} {fb : Fb} (h : EachBox p 0 al) (hj : al.getD j none = some fb) : p j fb := by
  have := h.at hj
  rw [Nat.zero_add] at this; exact this

theorem EachOp.imp {p q : Nat → Oper → Prop} : ∀ (l : List Oper) (k : Nat), (∀ j o, l[j]? = some o → p (k + j) o → q (k + j) o) → EachOp p k l → EachOp q k l
  | [], _, _, _ => trivial
  | o :: r, k, h, hp => ⟨by have := h 0 o rfl hp.1; exact this, EachOp.imp r (k + 1) (fun j o' ho hp' => by have := h (j + 1) o' (by simpa using ho) (by rw [show k + (j + 1) = k + 1 + j by omega]; exact hp'); rw [show k + 1 + j = k + (j + 1) by omega]; exact this) hp.2⟩

theorem wp_region_news {id : Nat} {a : Act} {w wx : World} (H : Nat → Prop) (Fs : List FactG) (ds : List (Option Nat)) (al : List (Option Fb)) (dl : List Nat)
    (hm : P.follows .mixedOrders = true) (ht : topo .any ops = true) (hd : ops.toList.map (·.dst) = ds) (hdl : ds.filterMap (fun x => x) = dl) (hnd : dl.Nodup) (hok : okNew al ops = true)
    (hH : ∀ b, H b → b < wx.heap.size) (hw : Below wx.heap.size wx w) (hS : AllA ops 0 Fs)
    (hT : EachBox (fun i fb => (∀ G X W, (Fs.getD i fun _ _ _ => True) G X W) ∧ ∀ G X W, (Fs.getD fb.st fun _ _ _ => True) G X W) 0 al)
    (hs : EachOp (fun i o => ordB al i = true → ∀ (G : Nat → Prop) (T : Nat → Value) (W : World), Below wx.heap.size wx W → (∀ b, H b → G b) → (∀ b, G b → b < W.heap.size) → (∀ b, b < wx.heap.size → G b → H b) → AllG Fs G (dv ds T) W (waits .any o) →
      ∀ K : Act → World → Prop, (∀ v W', Below W.heap.size W W' → (∀ X : Nat → Value, X i = (o.dst.map fun _ => v).getD undef → (∀ j, j ≠ i → X j = dv ds T j) → (Fs.getD i fun _ _ _ => True) G X W') → K (({ a with tmps := ovr a.tmps T dl } : Act).put o.dst v) W') →
        wpOp P ops Q i K { a with tmps := ovr a.tmps T dl } W) 0 ops.toList)
    (hB : EachBox (fun j fb => (∀ o, ops[j]? = some o → ∀ (T : Nat → Value) (W : World) (K : Act → World → Prop), K (({ a with tmps := ovr a.tmps T dl } : Act).put o.dst (.pointer (some ⟨W.heap.size, 0, none⟩))) (W.alloc (.cells fb.z.toArray fb.E)) → wpOp P ops Q j K { a with tmps := ovr a.tmps T dl } W) ∧
      (∀ o, ops[fb.st]? = some o → ∀ (G : Nat → Prop) (T : Nat → Value) (W : World) (n : Nat), AllG Fs G (dv ds T) W (waits .any o) → dv ds T j = .pointer (some ⟨n, 0, none⟩) → Row W n fb.E fb.z → ∀ K : Act → World → Prop, (∀ vs, dv ds T fb.src = .agg vs.toArray → vs.length = fb.z.length → K { a with tmps := ovr a.tmps T dl } (putN W n 0 vs)) → wpOp P ops Q fb.st K { a with tmps := ovr a.tmps T dl } W)) 0 al)
    (he : ∀ (G : Nat → Prop) (N : Nat → Nat) T W, Below wx.heap.size wx W → (∀ b, H b → G b) → (∀ b, G b → b < W.heap.size) → (∀ b, b < wx.heap.size → G b → H b) →
      (∀ i fb, al.getD i none = some fb → dv ds T i = .pointer (some ⟨N i, 0, none⟩) ∧ G (N i) ∧ wx.heap.size ≤ N i ∧ ∃ vs, dv ds T fb.src = .agg vs.toArray ∧ Row W (N i) fb.E vs) →
      (∀ i j fb fc, al.getD i none = some fb → al.getD j none = some fc → i ≠ j → N i ≠ N j) → AllG Fs G (dv ds T) W (List.range ops.size) → Q .normal { a with tmps := ovr a.tmps T dl } W) : (Code.region id ops true).wp P Q a w := by
  have hnd' : (ds.filterMap _root_.id).Nodup := by
    have : ds.filterMap _root_.id = dl := hdl
    rw [this]; exact hnd
  have hdst : ∀ (i : Nat) (o : Oper), ops[i]? = some o → i < ops.size ∧ o.dst = ds.getD i none := by
    intro i o ho
    have hi : i < ops.size := (Array.getElem?_eq_some_iff.1 ho).1
    refine ⟨hi, ?_⟩
    have h1 : (ops.toList.map (·.dst))[i]? = some o.dst := by simp [ho]
    rw [hd] at h1
    rw [List.getD_eq_getElem?_getD, h1]; rfl
  refine wp_region_flow (fun L T W => ∃ (G : Nat → Prop) (N : Nat → Nat), (∀ b, G b → b < W.heap.size) ∧ (∀ b, H b → G b) ∧ (∀ b, b < wx.heap.size → G b → H b) ∧ Below wx.heap.size wx W ∧
    (∀ i fb, al.getD i none = some fb → L i → dv ds T i = .pointer (some ⟨N i, 0, none⟩) ∧ G (N i) ∧ wx.heap.size ≤ N i ∧ N i < W.heap.size ∧ (¬ L fb.st → Row W (N i) fb.E fb.z) ∧ (L fb.st → L fb.src ∧ ∃ vs, dv ds T fb.src = .agg vs.toArray ∧ Row W (N i) fb.E vs)) ∧
    (∀ i j fb fc, al.getD i none = some fb → al.getD j none = some fc → L i → L j → i ≠ j → N i ≠ N j) ∧
    (∀ i fb, al.getD i none = some fb → L fb.st → L i) ∧
    (∀ k o, ops[k]? = some o → L k → ∀ j ∈ waits .any o, L j) ∧
    ∀ k, k < ops.size → L k → (Fs.getD k fun _ _ _ => True) G (dv ds T) W) dl hm ht ?_
    (fun T => ⟨H, fun _ => 0, fun b hb => Nat.lt_of_lt_of_le (hH b hb) hw.size, fun _ h => h, fun _ _ h => h, hw.drew, fun _ _ _ h => h.elim, fun _ _ _ _ _ _ h => h.elim, fun _ _ _ h => h.elim, fun _ _ _ h => h.elim, fun k _ h => h.elim⟩) ?_ ?_ ?_
  · unfold dsts
    rw [← hdl, ← hd]
    simp [List.filterMap_map]
    rfl
  · refine EachOp.imp ops.toList 0 (fun k o ho h => ?_) hs
    rw [Nat.zero_add] at h ⊢
    have hko : ops[k]? = some o := by simpa using ho
    rintro L T W hL hn ⟨G, N, g1, g2, g3, hb, hN, hD, hLL, hW, hJ⟩ K hK
    obtain ⟨hkl, hkd⟩ := hdst k o hko
    have hall : ∀ d, d ∈ waits .any o → L d := by
      have : ∀ l : List Nat, AllL L l → ∀ d, d ∈ l → L d := by
        intro l
        induction l with
        | nil => intro _ d hd; simp at hd
        | cons x r ih =>
          intro h d hd
          rcases List.mem_cons.1 hd with rfl | hd
          · exact h.1
          · exact ih h.2 d hd
      exact this _ hL
    have hA : AllG Fs G (dv ds T) W (waits .any o) := AllG.mem fun d hdw => hJ d (Nat.lt_trans (topo_lt ht hko hdw) hkl) (hall d hdw)
    have same : ∀ v j, j ≠ k → dv ds (updO T o.dst v) j = dv ds T j := by
      intro v j hjk
      unfold dv
      cases hdj : ds.getD j none with
      | none => rfl
      | some d =>
        cases hdo : o.dst with
        | none => rfl
        | some d' =>
          have hne : d ≠ d' := fun e => by
            rw [hdo] at hkd
            exact hjk (nodup_some hnd' hdj (by rw [← hkd, e]))
          simp [updO, upd, hne]
    have own : ∀ v, dv ds (updO T o.dst v) k = (o.dst.map fun _ => v).getD undef := by
      intro v
      unfold dv
      rw [← hkd]
      cases hdo : o.dst with
      | none => rfl
      | some d => simp [updO, upd]
    have hS' : ∀ j, Adj (supOf ops j) (Fs.getD j fun _ _ _ => True) := fun j => by have := hS.get 0 j; rwa [Nat.zero_add] at this
    have hsup : ∀ v j, j < ops.size → L j → ∀ x ∈ supOf ops j, dv ds (updO T o.dst v) x = dv ds T x := by
      intro v j hj hLj x hx
      refine same v x fun e => hn (e ▸ ?_)
      rcases List.mem_cons.1 hx with rfl | hx
      · exact hLj
      · rw [Array.getElem?_eq_getElem hj] at hx
        exact hW j _ (Array.getElem?_eq_getElem hj) hLj x hx
    have hWn : ∀ (v : Value) i o', ops[i]? = some o' → (i = k ∨ L i) → ∀ j ∈ waits .any o', j = k ∨ L j := by
      rintro v i o' ho' (rfl | hLi) j hj
      · rw [hko] at ho'; cases ho'; exact .inr (hall j hj)
      · exact .inr (hW i o' ho' hLi j hj)
    by_cases hst : ∃ j fb, al.getD j none = some fb ∧ fb.st = k
    · -- a store
      obtain ⟨j, fb, hj, rfl⟩ := hst
      obtain ⟨q1, q2, q3, q4, q5, q6, q7, q8⟩ := okNew.get hok hj
      obtain ⟨w1, w2, w3⟩ := q4 o hko
      obtain ⟨p1, p2, p3, p4, p5, p6⟩ := hN j fb hj (hall j w1)
      refine (hB.get hj).2 o hko G T W (N j) hA p1 (p5 hn) K fun vs hvs hvl => ?_
      have hrow := putN_row vs fb.z [] W (p5 hn) hvl
      have hkp := putN_kept (N j) vs 0 W
      have hkG : Kept G W (putN W (N j) 0 vs) := hkp.wide fun b e => e ▸ p2
      have hKK := hK undef (putN W (N j) 0 vs)
      rw [w3] at hKK
      refine hKK ⟨G, N, fun b hb' => Nat.lt_of_lt_of_le (g1 b hb') hkp.size, g2, g3, hb.trans (hkp.below (fun b e => e ▸ p3) hb.size), ?_, ?_, ?_, ?_, ?_⟩
      · intro i fc hi hLi
        have hLi' : L i := hLi.resolve_left fun e => by rw [e] at hi; rw [q6] at hi; cases hi
        obtain ⟨r1, r2, r3, r4, r5, r6⟩ := hN i fc hi hLi'
        have e : ∀ x, dv ds (updO T none undef) x = dv ds T x := fun x => rfl
        refine ⟨r1, r2, r3, Nat.lt_of_lt_of_le r4 hkp.size, ?_, ?_⟩
        · intro hns
          have hij : i ≠ j := fun e => by
            subst e; rw [hj] at hi; cases hi; exact hns (.inl rfl)
          exact (r5 fun h => hns (.inr h)).mono hkp (hD i j fc fb hi hj hLi' (hall j w1) hij)
        · rintro (hs' | hs')
          · have hij : i = j := Classical.byContradiction fun hne => (okNew.get hok hi).2.2.2.2.2.2.2 j fb hj hne hs'
            subst hij
            rw [hj] at hi; cases hi
            exact ⟨.inr (hall _ w2), vs, hvs, by simpa using hrow⟩
          · have hij : i ≠ j := fun e => by subst e; rw [hj] at hi; cases hi; exact hn hs'
            obtain ⟨z1, vs', z2, z3⟩ := r6 hs'
            exact ⟨.inr z1, vs', z2, z3.mono hkp (hD i j fc fb hi hj hLi' (hall j w1) hij)⟩
      · intro i i' fc fd hi hi' hLi hLi'
        exact hD i i' fc fd hi hi' (hLi.resolve_left fun e => by rw [e] at hi; rw [q6] at hi; cases hi) (hLi'.resolve_left fun e => by rw [e] at hi'; rw [q6] at hi'; cases hi')
      · rintro i fc hi (hs' | hs')
        · have hij : i = j := Classical.byContradiction fun hne => (okNew.get hok hi).2.2.2.2.2.2.2 j fb hj hne hs'
          subst hij; exact .inr (hall _ w1)
        · exact .inr (hLL i fc hi hs')
      · exact fun i o' ho' hLi => hWn undef i o' ho' hLi
      · rintro x hx (rfl | hLx)
        · exact (hT.get hj).2 _ _ _
        · exact hS' x G G _ _ W _ (hJ x hx hLx) hkG (fun _ _ h => h) fun _ _ => rfl
    · cases hak : al.getD k none with
      | some fb =>
        -- a new box
        obtain ⟨q1, q2, q3, q4, ⟨p, q5⟩, q6, q7, q8⟩ := okNew.get hok hak
        have hop := q5 o hko
        refine (hB.get hak).1 o hko T W K ?_
        have hba := below_alloc W (.cells fb.z.toArray fb.E)
        have hsz : (W.alloc (.cells fb.z.toArray fb.E)).heap.size = W.heap.size + 1 := by simp
        have hKb : Kept G W (W.alloc (.cells fb.z.toArray fb.E)) := Kept.of_below hba
        have hL' : ∀ b, b < W.heap.size → (G b ∨ b = W.heap.size) → G b := fun b hlt hh => hh.resolve_right (by omega)
        obtain ⟨N', hNk, hNo⟩ : ∃ N' : Nat → Nat, N' k = W.heap.size ∧ ∀ x, x ≠ k → N' x = N x := ⟨fun x => if x = k then W.heap.size else N x, if_pos rfl, fun x hx => if_neg hx⟩
        refine hK _ _ ⟨fun b => G b ∨ b = W.heap.size, N', ?_, fun b hb' => .inl (g2 b hb'), fun b hlt hh => g3 b hlt (hh.resolve_right (by have := hb.size; omega)), Below.step hb hba (Nat.le_refl _), ?_, ?_, ?_, ?_, ?_⟩
        · rintro b (hb' | rfl)
          · have := g1 b hb'; omega
          · omega
        · intro i fc hi hLi
          by_cases hik : i = k
          · subst hik
            rw [hak] at hi; cases hi
            refine ⟨by rw [own, hop, hNk]; rfl, .inr hNk, by rw [hNk]; exact hb.size, by rw [hNk]; omega, fun _ => ?_, fun hs' => ?_⟩
            · rw [hNk]
              exact heap_alloc_new _ _
            · rcases hs' with hs' | hs'
              · rw [hs'] at q6; rw [hak] at q6; cases q6
              · exact absurd (hLL _ _ hak hs') hn
          · have hLi' := hLi.resolve_left hik
            obtain ⟨r1, r2, r3, r4, r5, r6⟩ := hN i fc hi hLi'
            obtain ⟨_, _, _, _, _, s6, s7, _⟩ := okNew.get hok hi
            have hstk : fc.st ≠ k := fun e => by rw [e] at s6; rw [hak] at s6; cases s6
            have hsrck : fc.src ≠ k := fun e => by rw [e] at s7; rw [hak] at s7; cases s7
            refine ⟨by rw [same _ _ hik, hNo _ hik]; exact r1, .inl (by rw [hNo _ hik]; exact r2), by rw [hNo _ hik]; exact r3, by rw [hNo _ hik]; omega, fun hns => ?_, fun hs' => ?_⟩
            · rw [hNo _ hik]
              exact (r5 fun h => hns (.inr h)).below hba
            · obtain ⟨z1, vs', z2, z3⟩ := r6 (hs'.resolve_left hstk)
              rw [hNo _ hik]
              exact ⟨.inr z1, vs', by rw [same _ _ hsrck]; exact z2, z3.below hba⟩
        · intro i j fc fd hi hj hLi hLj hij
          by_cases hik : i = k
          · have hjk : j ≠ k := fun e => hij (hik.trans e.symm)
            rw [hik, hNk, hNo _ hjk]
            have := (hN j fd hj (hLj.resolve_left hjk)).2.2.2.1
            omega
          · rw [hNo _ hik]
            have h4 := (hN i fc hi (hLi.resolve_left hik)).2.2.2.1
            by_cases hjk : j = k
            · rw [hjk, hNk]; omega
            · rw [hNo _ hjk]
              exact hD i j fc fd hi hj (hLi.resolve_left hik) (hLj.resolve_left hjk) hij
        · intro i fc hi hs'
          obtain ⟨_, _, _, _, _, s6, _, _⟩ := okNew.get hok hi
          have hstk : fc.st ≠ k := fun e => by rw [e] at s6; rw [hak] at s6; cases s6
          exact .inr (hLL i fc hi (hs'.resolve_left hstk))
        · exact fun i o' ho' hLi => hWn (.bool false) i o' ho' hLi
        · intro x hx hLx
          by_cases hxk : x = k
          · subst hxk; exact (hT.get hak).1 _ _ _
          · exact hS' x G _ _ _ W _ (hJ x hx (hLx.resolve_left hxk)) hKb hL' (hsup _ x hx (hLx.resolve_left hxk))
      | none =>
        refine h (ordB.mk hak fun j fb hj e => hst ⟨j, fb, hj, e⟩) G T W hb g2 g1 g3 hA K fun v W' hb' hv => hK v W' ⟨G, N, fun b h => Nat.lt_of_lt_of_le (g1 b h) hb'.size, g2, g3, Below.step hb hb' (Nat.le_refl _), ?_, ?_, ?_, ?_, ?_⟩
        · intro i fc hi hLi
          have hik : i ≠ k := fun e => by rw [e] at hi; rw [hak] at hi; cases hi
          have hLi' := hLi.resolve_left hik
          obtain ⟨r1, r2, r3, r4, r5, r6⟩ := hN i fc hi hLi'
          have hstk : fc.st ≠ k := fun e => hst ⟨i, fc, hi, e⟩
          refine ⟨by rw [same _ _ hik]; exact r1, r2, r3, Nat.lt_of_lt_of_le r4 hb'.size, fun hns => (r5 fun h => hns (.inr h)).below hb', fun hs' => ?_⟩
          obtain ⟨z1, vs', z2, z3⟩ := r6 (hs'.resolve_left hstk)
          have hsrck : fc.src ≠ k := fun e => hn (e ▸ z1)
          exact ⟨.inr z1, vs', by rw [same _ _ hsrck]; exact z2, z3.below hb'⟩
        · intro i j fc fd hi hj hLi hLj hij
          have hik : i ≠ k := fun e => by rw [e] at hi; rw [hak] at hi; cases hi
          have hjk : j ≠ k := fun e => by rw [e] at hj; rw [hak] at hj; cases hj
          exact hD i j fc fd hi hj (hLi.resolve_left hik) (hLj.resolve_left hjk) hij
        · intro i fc hi hs'
          have hstk : fc.st ≠ k := fun e => hst ⟨i, fc, hi, e⟩
          exact .inr (hLL i fc hi (hs'.resolve_left hstk))
        · exact fun i o' ho' hLi => hWn v i o' ho' hLi
        · intro x hx hLx
          by_cases hxk : x = k
          · subst hxk; exact hv _ (own v) fun j hj => same v j hj
          · exact hS' x G G _ _ W W' (hJ x hx (hLx.resolve_left hxk)) (Kept.of_below hb') (fun _ _ h => h) (hsup _ x hx (hLx.resolve_left hxk))
  · rintro T W ⟨G, N, g1, g2, g3, hb, hN, hD, hLL, hW, hJ⟩
    refine he G N T W hb g2 g1 g3 ?_ ?_ (AllG.mem fun k hk => hJ k (by simpa using hk) (by simpa using hk))
    · intro i fb hi
      obtain ⟨q1, q2, q3, _⟩ := okNew.get hok hi
      obtain ⟨r1, r2, r3, r4, r5, r6⟩ := hN i fb hi q1
      exact ⟨r1, r2, r3, (r6 q2).2⟩
    · intro i j fb fc hi hj hij
      exact hD i j fb fc hi hj (okNew.get hok hi).1 (okNew.get hok hj).1 hij
  · rintro L T W hL ⟨G, N, g1, g2, g3, hb, hN, hD, hLL, hW, hJ⟩
    refine ⟨G, N, g1, g2, g3, hb, ?_, ?_, fun i fb hi _ => (okNew.get hok hi).1, fun k o hk _ j hj => Nat.lt_trans (topo_lt ht hk hj) (Array.getElem?_eq_some_iff.1 hk).1, fun k hk _ => hJ k hk (hL k hk)⟩
    · intro i fb hi _
      obtain ⟨q1, q2, q3, _⟩ := okNew.get hok hi
      obtain ⟨r1, r2, r3, r4, r5, r6⟩ := hN i fb hi (hL i q1)
      exact ⟨r1, r2, r3, r4, fun h => absurd q2 h, fun _ => ⟨q3, (r6 (hL _ q2)).2⟩⟩
    · intro i j fb fc hi hj _ _ hij
      exact hD i j fb fc hi hj (hL i (okNew.get hok hi).1) (hL j (okNew.get hok hj).1) hij
end
end Go.Proofs.YtackeigdehfmmaaGreatDoor
