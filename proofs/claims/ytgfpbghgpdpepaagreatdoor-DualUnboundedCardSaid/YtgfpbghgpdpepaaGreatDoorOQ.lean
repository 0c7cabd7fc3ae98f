import Derived.Test.YtgfpbghgpdpepaaGreatDoorQW
set_option linter.unusedVariables false
set_option linter.unusedSimpArgs false
namespace Go.Proofs.YtgfpbghgpdpepaaGreatDoor
open Go.RowKit
def NoInt (u : Value) : Prop := ∀ k z, u ≠ .int k z
def NoI (w : World) (v : Value) : Prop := ∀ g, v.ownBlock = some g → ∀ cur t fr, w.heap[g]? = some (.cells cur t fr) → ∀ u ∈ cur.toList, NoInt u
theorem zero_mem {z : Array Value} {n : Nat} {u : Value} (h : u ∈ (Builtin.zeroCells z n).toList) : u ∈ z.toList := by
 unfold Builtin.zeroCells at h;simp only [Array.toList_map, List.mem_map] at h;obtain ⟨i, hi, rfl⟩ := h;have hpos : 0 < z.size := by
  simp at hi;rcases Nat.eq_zero_or_pos z.size with h0 | h0
  ·rw [h0] at hi; omega
  ·exact h0
 have hlt := Nat.mod_lt i hpos;rw [getElem!_pos z _ hlt];exact Array.mem_toList_iff.2 (Array.getElem_mem hlt)
theorem noI_alloc (w : World) (cur : Array Value) (e : TypeId) (n c : Nat) (h : ∀ u ∈ cur.toList, NoInt u) : NoI (w.alloc (.cells cur e)) (.slice (some ⟨w.heap.size, 0, none⟩) n c) := by
 intro g hg cur' t fr hc;simp only [Value.ownBlock, Option.some.injEq] at hg;subst hg;rw [heap_alloc_new] at hc;simp only [Option.some.injEq, Obj.cells.injEq] at hc;obtain ⟨rfl, _, _⟩ := hc;exact h
section
variable {P : Program} {ops : Array Oper} {rest : List Oper} {o : Oper} {a : Act} {Q : Exit → Act → World → Prop}
theorem run_append_noI (w : World) (base : Nat) (t ty e : TypeId) (i : TypeInfo) (z : Value) (ht : P.underlying t = some (.slice e)) (hi : P.info? e = some i) (hz : i.zero = some z)
  (hzs : z.cells.size = i.size) (hsz : 0 < i.size) (v : Value) (n : Nat) (xs : List Value) (hown : w.ownsRow base e i.size v n xs) (hp : NoI w v)
  (a : Addr) (m c : Nat) (news : List Value) (hl : news.length = m * i.size) (hnews : ∀ j u, news[j]? = some u → w.cell? (a.add j) = some u) (h1 : ∀ u ∈ news, u.oneCell' = true)
  (h63 : n + m ≤ maxLen) (hbytes : (n + m) * i.bytes ≤ 140737488355328) (hbase : base ≤ w.heap.size) (hm : 0 < m) (hzn : ∀ u ∈ z.cells.toList, NoInt u) (hnn : ∀ u ∈ news, NoInt u) :
  ∃ v' w', (Builtin.append_ #[t, t] ty #[v, .slice (some a) m c]).run P w = .ok v' w' ∧ w'.ownsRow base e i.size v' (n + m) (xs ++ news) ∧ w.grownBy w' v.ownBlock ∧ NoI w' v' := by
 obtain ⟨v', w', hr, h2, h3, h4⟩ := run_append_own (P := P) w base t ty e i z i.size i.bytes ht hi hz rfl rfl hzs hsz v n xs hown a m c news hl hnews h1 h63 hbytes hbase;refine ⟨v', w', hr, h2, h3, ?_⟩;have hm63 : n + m ≤ 9223372036854775807 := by simp only [maxLen] at h63; omega
 rcases hown.2 with ⟨rfl, rfl⟩ | ⟨g, cap, cur, rfl, hbg, hg, hnc, hcm, hcs, htake⟩
 ·have hr2 := run_append_nil (P := P) w t ty e i z ht hi hz a m c news hl hnews hm (by omega) (by have hb := hbytes; simp only [Nat.zero_add] at hb; omega);have he := hr.symm.trans hr2;simp only [Result.ok.injEq] at he;obtain ⟨rfl, rfl⟩ := he;refine noI_alloc w.drew _ e _ _ fun u hu => ?_
  simp only [Array.toList_append, List.mem_append] at hu;rcases hu with hu | hu
  ·exact hnn u (by simpa using hu)
  ·exact hzn u (zero_mem hu)
 ·by_cases hroom : n + m ≤ cap
  ·have hfit : n * i.size + news.length ≤ cur.size := by rw [hl, hcs, ← Nat.add_mul]; exact Nat.mul_le_mul_right _ hroom
   have hr2 := run_append_room (P := P) w t ty e i ht hi g n cap cur hg a m c news hl hnews h1 hroom hfit;have he := hr.symm.trans hr2;simp only [Result.ok.injEq] at he;obtain ⟨rfl, rfl⟩ := he;intro g' hg' cur' t' fr' hc';simp only [Value.ownBlock, Option.some.injEq] at hg';subst hg';rw [setRow_heap w g cur _ e _ hg] at hc';simp only [Option.some.injEq, Obj.cells.injEq] at hc';obtain ⟨rfl, _, _⟩ := hc';have hcur := hp g rfl cur e _ hg;intro u hu;simp only [List.mem_append] at hu;rcases hu with (hu | hu) | hu
   ·exact hcur u (List.mem_of_mem_take hu)
   ·exact hnn u hu
   ·exact hcur u (List.mem_of_mem_drop hu)
  ·have holds : ∀ j u, xs[j]? = some u → w.cell? ((⟨g, 0, none⟩ : Addr).add j) = some u := hown.cells (g := g) rfl;have hr2 := run_append_grow (P := P) w t ty e i z ht hi hz ⟨g, 0, none⟩ n cap xs hown.1 holds a m c news hl hnews (by omega) (by omega) (growslice_fits (by omega) hbytes);have he := hr.symm.trans hr2;simp only [Result.ok.injEq] at he;obtain ⟨rfl, rfl⟩ := he;have hcur := hp g rfl cur e _ hg;refine noI_alloc w.drew _ e _ _ fun u hu => ?_
   simp only [Array.toList_append, List.mem_append] at hu;rcases hu with (hu | hu) | hu
   ·have : u ∈ xs := by simpa using hu
    rw [← htake] at this;exact hcur u (List.mem_of_mem_take this)
   ·exact hnn u (by simpa using hu)
   ·exact hzn u (zero_mem hu)
end
theorem U.grown {w w' : World} {v : Value} {ao : Option Addr} {l : List Nat} (h : U w ao l) (hg : w.grownBy w' v.ownBlock) (hp : NoI w v) : U w' ao l := by
 intro i hi;obtain ⟨b, off, e, hc⟩ := h i hi;refine ⟨b, off, e, ?_⟩;have hlt : b < w.heap.size := cell_lt hc
 by_cases hb : v.ownBlock = some b
 ·exfalso
  unfold World.cell? at hc;simp only at hc
  cases ho : w.heap[b]? with
  | none => rw [ho] at hc; simp at hc
  | some ob =>
   rw [ho] at hc
   cases ob with
   | cells cur t fr =>
    simp only [Option.isSome_none, Bool.false_eq_true, if_false] at hc;exact hp b hb cur t fr ho _ (by have := Array.mem_of_getElem? hc; exact Array.mem_toList_iff.2 this) _ _ rfl
   | _ => simp at hc
 ·exact hg.cell (a := ⟨b, off + i, none⟩) hc (fun e => hb e.symm)
theorem IntV.grown {w w' : World} {v u : Value} {z : Int} (h : IntV w u z) (hg : w.grownBy w' v.ownBlock) (hp : NoI w v) : IntV w' u z := by
 obtain ⟨n1, ao1, L1, c1, rfl, Hn1, HL1, HB1, hc1, hl1, hU1⟩ := h;exact ⟨n1, ao1, L1, c1, rfl, Hn1, HL1, HB1, hc1, hl1, hU1.grown hg hp⟩
theorem RatV.grown {w w' : World} {v u : Value} {r : Rat} (h : RatV w u r) (hg : w.grownBy w' v.ownBlock) (hp : NoI w v) : RatV w' u r := by
 obtain ⟨n1, a1, l1, c1, n2, a2, l2, c2, e, h1, h2⟩ := h;exact ⟨n1, a1, l1, c1, n2, a2, l2, c2, e, h1.grown hg hp, h2.grown hg hp⟩
def OwnQ (w : World) (B : Nat) (v : Value) (l : List Rat) : Prop :=
 ∃ xs : List Value, w.ownsRow B 34 4 v l.length xs ∧ NoI w v ∧
  ∀ (i : Nat) (r : Rat), l[i]? = some r → ∃ (n1 : Bool) (a1 : Option Addr) (l1 c1 : Nat) (n2 : Bool) (a2 : Option Addr) (l2 c2 : Nat),
   xs[i * 4]? = some (.bool n1) ∧ xs[i * 4 + 1]? = some (.slice a1 l1 c1) ∧ xs[i * 4 + 2]? = some (.bool n2) ∧ xs[i * 4 + 3]? = some (.slice a2 l2 c2) ∧ RatV w (.agg #[.bool n1, .slice a1 l1 c1, .bool n2, .slice a2 l2 c2]) r
theorem OwnQ.nil (w : World) (B : Nat) : OwnQ w B (.slice none 0 0) [] :=
 ⟨[], World.ownsRow_nil _ _ _ _, fun g hg => by simp [Value.ownBlock] at hg, fun i r h => by simp at h⟩
theorem ownsRow_below {w w' : World} {B e size n : Nat} {v : Value} {xs : List Value} (h : w.ownsRow B e size v n xs) (hb : Below w.heap.size w w') : w'.ownsRow B e size v n xs := by
 refine ⟨h.1, h.2.imp id ?_⟩;rintro ⟨g, cap, cur, hv, hB, hg, r⟩;have hlt : g < w.heap.size := (Array.getElem?_eq_some_iff.1 hg).1;exact ⟨g, cap, cur, hv, hB, (hb.block _ hlt).trans hg, r⟩
theorem OwnQ.mono {w w' : World} {B : Nat} {v : Value} {l : List Rat} (h : OwnQ w B v l) (hb : Below w.heap.size w w') : OwnQ w' B v l := by
 obtain ⟨xs, h1, h2, h3⟩ := h;refine ⟨xs, ownsRow_below h1 hb, ?_, ?_⟩
 ·intro g hg cur t fr hc;have hlt := (h1.lt g hg).2;exact h2 g hg cur t fr ((hb.block _ hlt).symm.trans hc)
 ·intro i r hi;obtain ⟨n1, a1, l1, c1, n2, a2, l2, c2, e0, e1, e2, e3, hr⟩ := h3 i r hi;exact ⟨n1, a1, l1, c1, n2, a2, l2, c2, e0, e1, e2, e3, hr.mono hb⟩
theorem OwnQ.read {w : World} {B : Nat} {v : Value} {l : List Rat} (h : OwnQ w B v l) : ∃ ao cap, v = .slice ao l.length cap ∧ UQ w ao (l.map some) := by
 obtain ⟨xs, h1, h2, h3⟩ := h;rcases h1.2 with ⟨rfl, hn⟩ | ⟨g, cap, cur, rfl, hB, hg, hnc, hcm, hcs, htake⟩
 ·have : l = [] := List.eq_nil_of_length_eq_zero hn;subst this;exact ⟨none, 0, rfl, UQ.nil _ _⟩
 ·refine ⟨some ⟨g, 0, none⟩, cap, rfl, ?_⟩;intro i o hi;rw [List.getElem?_map] at hi;obtain ⟨r, hr, rfl⟩ := Option.map_eq_some_iff.1 hi;obtain ⟨n1, a1, l1, c1, n2, a2, l2, c2, e0, e1, e2, e3, hq⟩ := h3 i r hr;have hc : ∀ j u, xs[j]? = some u → w.cell? ⟨g, 0 + j, none⟩ = some u := by
   intro j u hu;have := h1.cells (g := g) rfl j u hu;have ha : (⟨g, 0, none⟩ : Addr).add j = ⟨g, 0 + j, none⟩ := by
    unfold Addr.add; split
    ·subst j; rfl
    ·rfl
   rw [ha] at this; exact this
  exact ⟨g, 0, n1, a1, l1, c1, n2, a2, l2, c2, rfl, ⟨hc _ _ e0, hc _ _ e1, hc _ _ e2, hc _ _ e3, trivial, trivial, trivial, trivial⟩, hq⟩
theorem Tryz.info34 : (Tryz.prog.info? 34).map (fun i => (i.zero, i.size, i.bytes)) = some (some (.agg #[.bool false, .slice none 0 0, .bool false, .slice none 0 0]), 4, 64) := by kernel_rfl
section
variable {ops : Array Oper} {rest : List Oper} {o : Oper} {a : Act} {Q : Exit → Act → World → Prop}
theorem app_q (w : World) {n1 : Bool} {a1 : Option Addr} {l1 c1 : Nat} {n2 : Bool} {a2 : Option Addr} {l2 c2 : Nat} {r : Rat} (hgd : o.guard = none) (s x : Operand) (ho : o.op = .call { callee := .builtin .append, args := #[s, x], argTypes := #[27, 27] })
  (W : World) (B : Nat) (v : Value) (l : List Rat) (hs : a.eval s = v) (hown : OwnQ w B v l) (hB : B ≤ w.heap.size) (hb : Below B W w)
  (h1 : Hid (IntV w (.agg #[.bool n1, .slice a1 l1 c1]) r.num)) (h2 : Hid (IntV w (.agg #[.bool n2, .slice a2 l2 c2]) (r.den : Int)))
  (hx : a.eval x = .slice (some ⟨w.heap.size, 0, none⟩) 1 1) (hl : l.length ≤ 1000000)
  (hK : ∀ v' w', OwnQ w' B v' (l ++ [r]) → Below B W w' → w.heap.size ≤ w'.heap.size → wpList Tryz.prog ops Q rest (a.put o.dst v') w') :
  wpList Tryz.prog ops Q (o :: rest) a (w.alloc (.cells #[.bool n1, .slice a1 l1 c1, .bool n2, .slice a2 l2 c2] 34)) := by
 obtain ⟨i0, hi, hz0, hz1, hz2⟩ := info_parts Tryz.info34;obtain ⟨xs, hrow, hno, hel⟩ := hown;have hno' : NoI (w.alloc (.cells #[.bool n1, .slice a1 l1 c1, .bool n2, .slice a2 l2 c2] 34)) v := by
  intro g hg cur t fr hc;have hlt := (hrow.lt g hg).2;rw [heap_alloc_old _ _ hlt] at hc;exact hno g hg cur t fr hc
 have hba := bA w (.cells #[.bool n1, .slice a1 l1 c1, .bool n2, .slice a2 l2 c2] 34);obtain ⟨v', w', hr, h3, h4, h5⟩ := run_append_noI (P := Tryz.prog) (w.alloc (.cells #[.bool n1, .slice a1 l1 c1, .bool n2, .slice a2 l2 c2] 34)) B 27 o.type 34 i0 (.agg #[.bool false, .slice none 0 0, .bool false, .slice none 0 0]) Tryz.underlying27 hi hz0
  (by rw [hz1]; rfl) (by rw [hz1]; decide) v l.length xs (by rw [hz1]; exact World.ownsRow.alloc hrow _) hno' ⟨w.heap.size, 0, none⟩ 1 1 [.bool n1, .slice a1 l1 c1, .bool n2, .slice a2 l2 c2] (by rw [hz1]; rfl)
  (by
   intro j u hj
   match j, hj with
   | 0, hj => simp at hj; subst hj; simp [Addr.add, go_sem]
   | 1, hj => simp at hj; subst hj; simp [Addr.add, go_sem]
   | 2, hj => simp at hj; subst hj; simp [Addr.add, go_sem]
   | 3, hj => simp at hj; subst hj; simp [Addr.add, go_sem]
   | j + 4, hj => simp at hj)
  (by intro u hu; simp at hu; rcases hu with rfl | rfl | rfl | rfl <;> rfl) (by unfold maxLen; omega) (by rw [hz2]; omega) (by simp; omega) (by omega)
  (by intro u hu k z e; simp [Value.cells] at hu; rcases hu with rfl | rfl | rfl | rfl <;> cases e)
  (by intro u hu k z e; simp at hu; rcases hu with rfl | rfl | rfl | rfl <;> cases e)
 refine wpList_plain hgd fun K hK' => ?_
 unfold Oper.wp;simp [execOp, ho, resolve, invoke, builtin, hs, hx, hr, Result.andThen];refine hK' _ _ (hK v' w' ⟨xs ++ [.bool n1, .slice a1 l1 c1, .bool n2, .slice a2 l2 c2], ?_, h5, ?_⟩ ?_ ?_)
 ·rw [List.length_append]; rw [hz1] at h3; exact h3
 ·have hxl : xs.length = l.length * 4 := hrow.1;intro i q hq;rcases Nat.lt_or_ge i l.length with hi' | hi'
  ·rw [List.getElem?_append_left hi'] at hq;obtain ⟨m1, b1, k1, d1, m2, b2, k2, d2, e0, e1, e2, e3, hr'⟩ := hel i q hq;refine ⟨m1, b1, k1, d1, m2, b2, k2, d2, ?_, ?_, ?_, ?_, (hr'.mono hba).grown h4 hno'⟩
   ·rw [List.getElem?_append_left (by omega)]; exact e0
   ·rw [List.getElem?_append_left (by omega)]; exact e1
   ·rw [List.getElem?_append_left (by omega)]; exact e2
   ·rw [List.getElem?_append_left (by omega)]; exact e3
  ·rw [List.getElem?_append_right hi'] at hq;have hil : i = l.length := by
    obtain ⟨hlt, _⟩ := List.getElem?_eq_some_iff.1 hq;simp at hlt; omega
   subst hil;simp at hq;subst hq;refine ⟨n1, a1, l1, c1, n2, a2, l2, c2, ?_, ?_, ?_, ?_, ⟨_, _, _, _, _, _, _, _, rfl, (h1.out.mono hba).grown h4 hno', (h2.out.mono hba).grown h4 hno'⟩⟩
   ·rw [List.getElem?_append_right (by omega), show l.length * 4 - xs.length = 0 by omega]; rfl
   ·rw [List.getElem?_append_right (by omega), show l.length * 4 + 1 - xs.length = 1 by omega]; rfl
   ·rw [List.getElem?_append_right (by omega), show l.length * 4 + 2 - xs.length = 2 by omega]; rfl
   ·rw [List.getElem?_append_right (by omega), show l.length * 4 + 3 - xs.length = 3 by omega]; rfl
 ·refine (hb.alloc hB _).grown h4 (by simp; omega) ?_;intro k hk;exact (hrow.lt k hk).1
 ·have := h4.size; simp at this; omega
end
end Go.Proofs.YtgfpbghgpdpepaaGreatDoor
namespace Go.Proofs.YtgfpbghgpdpepaaGreatDoor
open Go.RowKit
theorem heap_lt {w : World} {g : Nat} {o : Obj} (h : w.heap[g]? = some o) : g < w.heap.size := by
 by_cases hb : g < w.heap.size
 ·exact hb
 ·rw [Array.getElem?_eq_none (by omega)] at h; cases h
structure Kept (G : Nat → Prop) (w w' : World) : Prop where
 os : w'.os = w.os
 tape : w'.tape = w.tape
 output : w'.output = w.output
 size : w.heap.size ≤ w'.heap.size
 block : ∀ k, k < w.heap.size → ¬ G k → w'.heap[k]? = w.heap[k]?
section
variable {G : Nat → Prop}
theorem Kept.refl (w : World) : Kept G w w := ⟨rfl, rfl, rfl, nl, fun _ _ _ => rfl⟩
theorem Kept.trans {a b c : World} (h : Kept G a b) (k : Kept G b c) : Kept G a c :=
 ⟨k.os.trans h.os, k.tape.trans h.tape, k.output.trans h.output, Nat.le_trans h.size k.size, fun i hi hg => (k.block i (Nat.lt_of_lt_of_le hi h.size) hg).trans (h.block i hi hg)⟩
theorem Kept.of_below {w w' : World} (h : Below w.heap.size w w') : Kept G w w' := ⟨h.os, h.tape, h.output, h.size, fun k hk _ => h.block k hk⟩
theorem Kept.drew {a w : World} (h : Kept G a w) : Kept G a w.drew := ⟨h.os, h.tape, h.output, h.size, h.block⟩
theorem Kept.alloc {a w : World} (h : Kept G a w) (o : Obj) : Kept G a (w.alloc o) := h.trans (.of_below (bA w o))
theorem Kept.setCell {a w : World} (h : Kept G a w) {p : Addr} (hp : G p.block) (u : Value) : Kept G a (w.setCell p u) :=
 h.trans ⟨rfl, rfl, rfl, by simp [World.setCell], fun k _ hg => Below.heap_setCell _ _ _ _ (fun e => hg (e ▸ hp))⟩
theorem Kept.setRow {a w : World} (h : Kept G a w) {g : Nat} (hp : G g) (cs : Array Value) : Kept G a (w.setRow g cs) :=
 h.trans ⟨rfl, rfl, rfl, by simp [World.setRow], fun k _ hg => setRow_other w g k cs (fun e => hg (e ▸ hp))⟩
theorem Kept.below {B : Nat} {w w' : World} (h : Kept G w w') (hG : ∀ b, G b → B ≤ b) (hB : B ≤ w.heap.size) : Below B w w' :=
 ⟨h.os, h.tape, h.output, h.size, fun k hk => h.block k (by omega) (fun hg => by have := hG k hg; omega)⟩
theorem Kept.to {w w' : World} (h : Kept (fun _ => False) w w') : Below w.heap.size w w' := ⟨h.os, h.tape, h.output, h.size, fun k hk => h.block k hk (fun h => h)⟩
theorem Kept.cell {w w' : World} (h : Kept G w w') {p : Addr} {v : Value} (hc : w.cell? p = some v) (hp : ¬ G p.block) : w'.cell? p = some v :=
 (World.cell?_of_block (w := w) (h.block p.block (cell_lt hc) hp)).trans hc
theorem Kept.heap {w w' : World} (h : Kept G w w') {g : Nat} {o : Obj} (hc : w.heap[g]? = some o) (hp : ¬ G g) : w'.heap[g]? = some o :=
 (h.block g (heap_lt hc) hp).trans hc
end
def Row (w : World) (g : Nat) (E : TypeId) (xs : List Value) : Prop := w.heap[g]? = some (.cells xs.toArray E (0, 0))
theorem Row.lt {w : World} {g : Nat} {E : TypeId} {xs : List Value} (h : Row w g E xs) : g < w.heap.size := heap_lt h
theorem Row.mono {w w' : World} {G : Nat → Prop} {g : Nat} {E : TypeId} {xs : List Value} (h : Row w g E xs) (hk : Kept G w w') (hg : ¬ G g) : Row w' g E xs := hk.heap h hg
theorem Row.below {w w' : World} {g : Nat} {E : TypeId} {xs : List Value} (h : Row w g E xs) (hk : Below w.heap.size w w') : Row w' g E xs := (hk.block g h.lt).trans h
theorem Row.drew {w : World} {g : Nat} {E : TypeId} {xs : List Value} (h : Row w g E xs) : Row w.drew g E xs := h
theorem Row.cell {w : World} {g : Nat} {E : TypeId} {xs : List Value} (h : Row w g E xs) {k : Nat} (hk : k < xs.length) : w.cell? ⟨g, k, none⟩ = some xs[k] := by
 unfold Row at h;simp [World.cell?, h, hk]
theorem Row.free {w : World} {g : Nat} {E : TypeId} {xs : List Value} (h : Row w g E xs) (k : Nat) : w.frozen? ⟨g, k, none⟩ = false := by
 unfold Row at h;simp [World.frozen?, h]
theorem Row.set {w : World} {g : Nat} {E : TypeId} {xs : List Value} (h : Row w g E xs) (k : Nat) (x : Value) : Row (w.setCell ⟨g, k, none⟩ x) g E (xs.set k x) := by
 unfold Row at *;rw [setCell_eq_setRow w g k _ E (0, 0) x h, setRow_heap w g _ _ E _ h];simp
theorem Row.n3 {w : World} {g : Nat} {E : TypeId} {x y z : Value} (h : Row w g E [x, y, z]) : w.cell? ⟨g, 0, none⟩ = some x ∧ w.cell? ⟨g, 1, none⟩ = some y ∧ w.cell? ⟨g, 2, none⟩ = some z :=
 ⟨h.cell (k := 0) (by simp), h.cell (k := 1) (by simp), h.cell (k := 2) (by simp)⟩
theorem Row.n4 {w : World} {g : Nat} {E : TypeId} {x y z u : Value} (h : Row w g E [x, y, z, u]) : w.cell? ⟨g, 0, none⟩ = some x ∧ w.cell? ⟨g, 1, none⟩ = some y ∧ w.cell? ⟨g, 2, none⟩ = some z ∧ w.cell? ⟨g, 3, none⟩ = some u :=
 ⟨h.cell (k := 0) (by simp), h.cell (k := 1) (by simp), h.cell (k := 2) (by simp), h.cell (k := 3) (by simp)⟩
end Go.Proofs.YtgfpbghgpdpepaaGreatDoor
