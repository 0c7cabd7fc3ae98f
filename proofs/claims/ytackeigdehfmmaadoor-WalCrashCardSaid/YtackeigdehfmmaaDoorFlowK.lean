import Derived.Test.YtackeigdehfmmaaDoorFlow
import Derived.Test.YtackeigdehfmmaaDoorWB
/-
  A region that draws its order, whose operations leave values and make memory, and one of which stores an aggregate of three into a box.
-/
namespace Go.Proofs.YtackeigdehfmmaaDoor
open Go.RowKit
section
variable {P : Program} {ops : Array Oper} {Q : Exit → Act → World → Prop}

/-- three cells of a box that can be written -/
def Bx (W : World) (n : Nat) : Prop := ∀ j, j < 3 → (∃ u, W.cell? ⟨n, j, none⟩ = some u) ∧ W.frozen? ⟨n, j, none⟩ = false

/-- what stays when memory is made, and block n is written -/
def StayK (n : Nat) (F : World → Value → Prop) : Prop := ∀ (W W' : World) (v : Value), F W v → Kept (fun b => b = n) W W' → F W' v
theorem stayK_val (n : Nat) (u : Value) : StayK n (fun _ v => v = u) := fun _ _ _ h _ => h
def AllK (n : Nat) : List (World → Value → Prop) → Prop
  | [] => True
  | F :: r => StayK n F ∧ AllK n r
theorem AllK.get {n : Nat} : ∀ {l : List (World → Value → Prop)} (k : Nat), AllK n l → StayK n (l.getD k fun _ _ => True)
  | [], _, _ => fun _ _ _ _ _ => trivial
  | _ :: _, 0, h => h.1
  | _ :: r, k + 1, h => AllK.get (l := r) k h.2

theorem Bx.below {W W' : World} {n : Nat} (h : Bx W n) (hb : Below W.heap.size W W') : Bx W' n := fun j hj => by
  obtain ⟨⟨u, hu⟩, hf⟩ := h j hj
  exact ⟨⟨u, (hb.cell (cell_lt hu)).trans hu⟩, (hb.frozen (p := ⟨n, j, none⟩) (cell_lt hu)).trans hf⟩

def Cells3 (W : World) (n : Nat) (v0 v1 v2 : Value) : Prop := W.cell? ⟨n, 0, none⟩ = some v0 ∧ W.cell? ⟨n, 1, none⟩ = some v1 ∧ W.cell? ⟨n, 2, none⟩ = some v2

theorem Cells3.below {W W' : World} {n : Nat} {v0 v1 v2 : Value} (h : Cells3 W n v0 v1 v2) (hb : Below W.heap.size W W') : Cells3 W' n v0 v1 v2 :=
  ⟨(hb.cell (cell_lt h.1)).trans h.1, (hb.cell (cell_lt h.2.1)).trans h.2.1, (hb.cell (cell_lt h.2.2)).trans h.2.2⟩

/-- the box is written -/
def put3 (W : World) (n : Nat) (v0 v1 v2 : Value) : World := ((W.setCell ⟨n, 0, none⟩ v0).setCell ⟨n, 1, none⟩ v1).setCell ⟨n, 2, none⟩ v2

theorem put3_cells {W : World} {n : Nat} (h : Bx W n) (v0 v1 v2 : Value) : Cells3 (put3 W n v0 v1 v2) n v0 v1 v2 ∧ Bx (put3 W n v0 v1 v2) n := by
  obtain ⟨⟨u0, h0⟩, f0⟩ := h 0 (by omega)
  obtain ⟨⟨u1, h1⟩, f1⟩ := h 1 (by omega)
  obtain ⟨⟨u2, h2⟩, f2⟩ := h 2 (by omega)
  have c : Cells3 (put3 W n v0 v1 v2) n v0 v1 v2 := by
    unfold Cells3 put3
    refine ⟨by simp [go_sem, h0], by simp [go_sem, h1], by simp [go_sem, h2]⟩
  refine ⟨c, fun j hj => ?_⟩
  have hf : (put3 W n v0 v1 v2).frozen? ⟨n, j, none⟩ = W.frozen? ⟨n, j, none⟩ := by unfold put3; simp [go_sem]
  rw [hf]
  match j, hj with
  | 0, _ => exact ⟨⟨_, c.1⟩, f0⟩
  | 1, _ => exact ⟨⟨_, c.2.1⟩, f1⟩
  | 2, _ => exact ⟨⟨_, c.2.2⟩, f2⟩

theorem put3_kept (W : World) (n : Nat) (v0 v1 v2 : Value) : Kept (fun b => b = n) W (put3 W n v0 v1 v2) :=
  (((Kept.refl W).setCell (G := fun b => b = n) (p := ⟨n, 0, none⟩) rfl v0).setCell (p := ⟨n, 1, none⟩) rfl v1).setCell (p := ⟨n, 2, none⟩) rfl v2

theorem wp_region_box {id : Nat} {a : Act} {w wx : World} (n m q : Nat) (Fs : List (World → Value → Prop)) (ds I : List Nat)
    (hm : P.follows .mixedOrders = true) (ht : topo .any ops = true) (hd : dsts ops = ds) (hdm : (ops.toList.take m).map (·.dst) = ds.map some) (hsz : ops.size = m + 1) (hlast : (ops[m]?).map (·.dst) = some none) (hnd : ds.Nodup)
    (hqw : ((ops[m]?).map fun o => decide (q ∈ waits .any o)) = some true) (hw : Kept (fun b => b = n) wx w) (hS : AllK n Fs)
    (hI : ∀ k ∈ I, k < m ∧ ∀ W v, (Fs.getD k fun _ _ => True) W v → ∃ g, v.ownBlock = some g ∧ g < W.heap.size)
    (hagg : ∀ W v, (Fs.getD q fun _ _ => True) W v → ∃ v0 v1 v2, v = .agg #[v0, v1, v2]) (hbox : Bx w n)
    (hs : EachOp (fun i o => (i < m → ∀ (T : Nat → Value) (W : World), Kept (fun b => b = n) wx W → Bx W n → AllF Fs ds T W (waits .any o) → (∀ k ∈ I, ∀ l ∈ I, k ≠ l → k ∈ waits .any o → l ∈ waits .any o → (T (ds.getD k 0)).ownBlock ≠ (T (ds.getD l 0)).ownBlock) →
        ∀ K : Act → World → Prop, (∀ v W', Below W.heap.size W W' → (Fs.getD i fun _ _ => True) W' v → (i ∈ I → ∃ g, v.ownBlock = some g ∧ W.heap.size ≤ g) → K (({ a with tmps := ovr a.tmps T ds } : Act).put o.dst v) W') →
          wpOp P ops Q i K { a with tmps := ovr a.tmps T ds } W) ∧
      (i = m → ∀ (T : Nat → Value) (W : World) (v0 v1 v2 : Value), T (ds.getD q 0) = .agg #[v0, v1, v2] → Bx W n → AllF Fs ds T W (waits .any o) →
        ∀ K : Act → World → Prop, (K { a with tmps := ovr a.tmps T ds } (put3 W n v0 v1 v2)) → wpOp P ops Q i K { a with tmps := ovr a.tmps T ds } W)) 0 ops.toList)
    (he : ∀ T W v0 v1 v2, Kept (fun b => b = n) wx W → AllF Fs ds T W (List.range m) → T (ds.getD q 0) = .agg #[v0, v1, v2] → Cells3 W n v0 v1 v2 → Q .normal { a with tmps := ovr a.tmps T ds } W) :
    (Code.region id ops true).wp P Q a w := by
  have hlen : ds.length = m := by
    have := congrArg List.length hdm
    simp [hsz] at this
    omega
  have hdst : ∀ (i : Nat) (o : Oper), i < m → ops[i]? = some o → o.dst = some (ds.getD i 0) := by
    intro i o hi ho
    have h1 : ((ops.toList.take m).map (·.dst))[i]? = some o.dst := by
      rw [List.getElem?_map, List.getElem?_take_of_lt hi]
      simp [ho]
    rw [hdm, List.getElem?_map, List.getElem?_eq_getElem (by omega)] at h1
    simp only [Option.map_some, Option.some.injEq] at h1
    rw [← h1, List.getD_eq_getElem?_getD, List.getElem?_eq_getElem (by omega)]
    rfl
  have hql : ∀ o, ops[m]? = some o → q < m ∧ q ∈ waits .any o := by
    intro o ho
    rw [ho] at hqw
    simp at hqw
    exact ⟨topo_lt ht ho hqw, hqw⟩
  refine wp_region_flow (fun L T W => Kept (fun b => b = n) wx W ∧ Bx W n ∧ (∀ k, k < m → L k → (Fs.getD k fun _ _ => True) W (T (ds.getD k 0))) ∧ (L m → L q ∧ ∃ v0 v1 v2, T (ds.getD q 0) = .agg #[v0, v1, v2] ∧ Cells3 W n v0 v1 v2) ∧ (∀ k ∈ I, ∀ l ∈ I, k ≠ l → L k → L l → (T (ds.getD k 0)).ownBlock ≠ (T (ds.getD l 0)).ownBlock)) ds hm ht hd ?_ ?_ ?_ ?_
  · intro T
    exact ⟨hw.drew, hbox, fun k _ h => h.elim, fun h => h.elim, fun k _ l _ _ h => h.elim⟩
  · have all : ∀ {L : Nat → Prop} (l : List Nat), AllL L l → ∀ d, d ∈ l → L d := by
      intro L l
      induction l with
      | nil => intro _ d hd; simp at hd
      | cons x r ih =>
        intro h d hd
        rcases List.mem_cons.1 hd with rfl | hd
        · exact h.1
        · exact ih h.2 d hd
    have key : ∀ (l : List Oper) (k : Nat), (∀ j o, l[j]? = some o → ops[k + j]? = some o) →
        EachOp (fun i o => (i < m → ∀ (T : Nat → Value) (W : World), Kept (fun b => b = n) wx W → Bx W n → AllF Fs ds T W (waits .any o) → (∀ k ∈ I, ∀ l ∈ I, k ≠ l → k ∈ waits .any o → l ∈ waits .any o → (T (ds.getD k 0)).ownBlock ≠ (T (ds.getD l 0)).ownBlock) →
            ∀ K : Act → World → Prop, (∀ v W', Below W.heap.size W W' → (Fs.getD i fun _ _ => True) W' v → (i ∈ I → ∃ g, v.ownBlock = some g ∧ W.heap.size ≤ g) → K (({ a with tmps := ovr a.tmps T ds } : Act).put o.dst v) W') →
              wpOp P ops Q i K { a with tmps := ovr a.tmps T ds } W) ∧
          (i = m → ∀ (T : Nat → Value) (W : World) (v0 v1 v2 : Value), T (ds.getD q 0) = .agg #[v0, v1, v2] → Bx W n → AllF Fs ds T W (waits .any o) →
            ∀ K : Act → World → Prop, (K { a with tmps := ovr a.tmps T ds } (put3 W n v0 v1 v2)) → wpOp P ops Q i K { a with tmps := ovr a.tmps T ds } W)) k l →
        EachOp (fun i o => ∀ (L : Nat → Prop) (T : Nat → Value) (w : World), AllL L (waits .any o) → ¬ L i →
          (Kept (fun b => b = n) wx w ∧ Bx w n ∧ (∀ k, k < m → L k → (Fs.getD k fun _ _ => True) w (T (ds.getD k 0))) ∧ (L m → L q ∧ ∃ v0 v1 v2, T (ds.getD q 0) = .agg #[v0, v1, v2] ∧ Cells3 w n v0 v1 v2) ∧ (∀ k ∈ I, ∀ l ∈ I, k ≠ l → L k → L l → (T (ds.getD k 0)).ownBlock ≠ (T (ds.getD l 0)).ownBlock)) →
          ∀ K : Act → World → Prop, (∀ v w', (Kept (fun b => b = n) wx w' ∧ Bx w' n ∧ (∀ k, k < m → (k = i ∨ L k) → (Fs.getD k fun _ _ => True) w' (updO T o.dst v (ds.getD k 0))) ∧ ((m = i ∨ L m) → (q = i ∨ L q) ∧ ∃ v0 v1 v2, updO T o.dst v (ds.getD q 0) = .agg #[v0, v1, v2] ∧ Cells3 w' n v0 v1 v2) ∧ (∀ k ∈ I, ∀ l ∈ I, k ≠ l → (k = i ∨ L k) → (l = i ∨ L l) → (updO T o.dst v (ds.getD k 0)).ownBlock ≠ (updO T o.dst v (ds.getD l 0)).ownBlock)) →
            K (({ a with tmps := ovr a.tmps T ds } : Act).put o.dst v) w') →
            wpOp P ops Q i K { a with tmps := ovr a.tmps T ds } w) k l := by
      intro l
      induction l with
      | nil => intro k _ _; trivial
      | cons o r ih =>
        intro k hin h
        refine ⟨?_, ih (k + 1) (fun j o' ho => by have := hin (j + 1) o' (by simpa using ho); rw [show k + 1 + j = k + (j + 1) by omega]; exact this) h.2⟩
        rintro L T W hL hn ⟨hb, hx, hJ, hC, hP⟩ K hK
        have hko : ops[k]? = some o := by simpa using hin 0 o rfl
        have hklt : k < ops.size := (Array.getElem?_eq_some_iff.1 hko).1
        have hall := all _ hL
        by_cases hkm : k < m
        · have hkd := hdst k o hkm hko
          refine h.1.1 hkm T W hb hx (AllF.mem fun d hdw => hJ d (Nat.lt_trans (topo_lt ht hko hdw) hkm) (hall d hdw)) (fun x hx1 y hy1 hxy hxw hyw => hP x hx1 y hy1 hxy (hall x hxw) (hall y hyw)) K fun v W' hb' hv hnew => hK v W' ⟨hb.trans (Kept.of_below hb'), hx.below hb', ?_, ?_, ?_⟩
          · rintro j hj (rfl | hLj)
            · rw [hkd]
              simp only [updO, upd, if_true]
              exact hv
            · have hne : ds.getD j 0 ≠ ds.getD k 0 := fun e => by
                have := nodup_getD hnd (by omega) (by omega) e
                subst this
                exact hn hLj
              rw [hkd]
              simp only [updO, upd, if_neg hne]
              exact hS.get j _ _ _ (hJ j hj hLj) (Kept.of_below hb')
          · rintro (rfl | hLm)
            · omega
            · obtain ⟨hq1, v0, v1, v2, hv0, hc⟩ := hC hLm
              obtain ⟨om, hom⟩ : ∃ om, ops[m]? = some om := ⟨_, Array.getElem?_eq_getElem (by omega)⟩
              have hqm := (hql om hom).1
              have hne : ds.getD q 0 ≠ ds.getD k 0 := fun e => by
                have := nodup_getD hnd (by omega) (by omega) e
                subst this
                exact hn hq1
              refine ⟨.inr hq1, v0, v1, v2, ?_, hc.below hb'⟩
              rw [hkd]
              simp only [updO, upd, if_neg hne]
              exact hv0
          · intro x hx1 y hy1 hxy hxL hyL
            have hxm := (hI x hx1).1
            have hym := (hI y hy1).1
            have old : ∀ j, j < m → L j → j ≠ k → updO T o.dst v (ds.getD j 0) = T (ds.getD j 0) := by
              intro j hj _ hjk
              have hne : ds.getD j 0 ≠ ds.getD k 0 := fun e => hjk (nodup_getD hnd (by omega) (by omega) e)
              rw [hkd]
              simp only [updO, upd, if_neg hne]
            have new : updO T o.dst v (ds.getD k 0) = v := by rw [hkd]; simp only [updO, upd, if_true]
            have lt : ∀ j, j ∈ I → L j → ∃ g, (T (ds.getD j 0)).ownBlock = some g ∧ g < W.heap.size := fun j hj hLj => (hI j hj).2 _ _ (hJ j (hI j hj).1 hLj)
            rcases hxL with rfl | hxL
            · rcases hyL with rfl | hyL
              · exact absurd rfl hxy
              · obtain ⟨g, hg, hgl⟩ := hnew hx1
                obtain ⟨g', hg', hgl'⟩ := lt y hy1 hyL
                rw [new, old y hym hyL (Ne.symm hxy), hg, hg']
                intro e
                have := Option.some.inj e
                omega
            · rcases hyL with rfl | hyL
              · obtain ⟨g, hg, hgl⟩ := hnew hy1
                obtain ⟨g', hg', hgl'⟩ := lt x hx1 hxL
                rw [new, old x hxm hxL hxy, hg, hg']
                intro e
                have := Option.some.inj e
                omega
              · rw [old x hxm hxL (fun e => hn (e ▸ hxL)), old y hym hyL (fun e => hn (e ▸ hyL))]
                exact hP x hx1 y hy1 hxy hxL hyL
        · obtain rfl : k = m := by omega
          obtain ⟨hqm, hqw'⟩ := hql o hko
          have hFq := hJ q hqm (hall q hqw')
          obtain ⟨v0, v1, v2, hv0⟩ := hagg _ _ hFq
          have hod : o.dst = none := by rw [hko] at hlast; simpa using hlast
          obtain ⟨hc3, hx3⟩ := put3_cells hx v0 v1 v2
          refine h.1.2 rfl T W v0 v1 v2 hv0 hx (AllF.mem fun d hdw => hJ d (topo_lt ht hko hdw) (hall d hdw)) K ?_
          have := hK undef (put3 W n v0 v1 v2) ⟨hb.trans (put3_kept W n v0 v1 v2), hx3, ?_, ?_, ?_⟩
          · rw [hod] at this; exact this
          · rintro j hj (rfl | hLj)
            · omega
            · rw [hod]
              exact hS.get j _ _ _ (hJ j hj hLj) (put3_kept W n v0 v1 v2)
          · intro _
            refine ⟨.inr (hall q hqw'), v0, v1, v2, ?_, hc3⟩
            rw [hod]; exact hv0
          · intro x hx1 y hy1 hxy hxL hyL
            have hxm := (hI x hx1).1
            have hym := (hI y hy1).1
            rw [hod]
            exact hP x hx1 y hy1 hxy (hxL.resolve_left (by omega)) (hyL.resolve_left (by omega))
    exact key ops.toList 0 (fun j o ho => by simpa using ho) hs
  · rintro T W ⟨hb, hx, hJ, hC, _⟩
    obtain ⟨_, v0, v1, v2, hv0, hc⟩ := hC (by omega)
    exact he T W v0 v1 v2 hb (AllF.mem fun k hk => hJ k (by simpa using hk) (by simp at hk; omega)) hv0 hc
  · rintro L T W hL ⟨hb, hx, hJ, hC, hP⟩
    refine ⟨hb, hx, fun k hk _ => hJ k hk (hL k (by omega)), fun _ => ?_, fun x hx1 y hy1 hxy _ _ => hP x hx1 y hy1 hxy (hL x (by have := (hI x hx1).1; omega)) (hL y (by have := (hI y hy1).1; omega))⟩
    obtain ⟨hq, h⟩ := hC (hL m (by omega))
    obtain ⟨om, hom⟩ : ∃ om, ops[m]? = some om := ⟨_, Array.getElem?_eq_getElem (by omega)⟩
    exact ⟨by have := (hql om hom).1; omega, h⟩
end
end Go.Proofs.YtackeigdehfmmaaDoor
