import Derived.Test.YtgenhkakcbedaaaGreatDoorWitQ
import Derived.Test.YtgenhkakcbedaaaGreatDoorQE
namespace Go.Proofs.YtgenhkakcbedaaaGreatDoor
open Go.ChangeShapes Go.WideShapes Go.ChangeAt Go.RowKit Go.Deep

theorem okWide_arr {P : Program} {w : World} {r : Reach} {b0 : Nat} {t e : TypeId} {n : Nat} {v : Value} (ht : P.underlying t = some (.array n e)) (h : Value.okWide P w r b0 t v) : ∃ cs, v = .agg cs ∧ cs.size = P.cellsOf t := by
  simp only [Value.okWide, ht] at h
  obtain ⟨cs, h1, h2, _⟩ := h
  exact ⟨cs, h1, h2⟩

theorem array_three {cs : Array Value} (h : cs.size = 3) : ∃ x0 x1 x2, cs = #[x0, x1, x2] := by
  rcases cs with ⟨cs⟩
  simp only [List.size_toArray] at h
  match cs, h with
  | [x0, x1, x2], _ => exact ⟨x0, x1, x2, rfl⟩
theorem array_four {cs : Array Value} (h : cs.size = 4) : ∃ x0 x1 x2 x3, cs = #[x0, x1, x2, x3] := by
  rcases cs with ⟨cs⟩
  simp only [List.size_toArray] at h
  match cs, h with
  | [x0, x1, x2, x3], _ => exact ⟨x0, x1, x2, x3, rfl⟩
theorem list_two {α : Type} {l : List α} (h : l.length = 2) : ∃ x y, l = [x, y] := by
  match l, h with
  | [x, y], _ => exact ⟨x, y, rfl⟩
theorem list_three {α : Type} {l : List α} (h : l.length = 3) : ∃ x y z, l = [x, y, z] := by
  match l, h with
  | [x, y, z], _ => exact ⟨x, y, z, rfl⟩

set_option maxRecDepth 100000 in
/-- an array of three integers, opened -/
theorem open_arr3 {H : Type} {enc : TypeId × Value → H} {r : Reach} {b0 : Nat} {W : World} {t e : TypeId} {k : IntKind} {v : Value} {d : DataW H} {p : List MemPlace} (ht : Tryz.prog.underlying t = some (.array 3 e)) (he : Tryz.prog.underlying e = some (.int k))
    (hC : Tryz.prog.cellsOf t = 3) (hc : Tryz.prog.cellsOf e = 1) (hv : Value.okWide Tryz.prog W r b0 t v) (h : DataW.Trod enc Tryz.prog W 0 (fun _ => true) true t v d p) :
    ∃ a b c : Int, v = .agg #[.int k a, .int k b, .int k c] ∧ (Lit.int k a).wf = true ∧ (Lit.int k b).wf = true ∧ (Lit.int k c).wf = true := by
  obtain ⟨cs, rfl, hsz⟩ := okWide_arr ht hv
  have l : cs.size = 3 := hsz.trans hC
  obtain ⟨x0, x1, x2, rfl⟩ := array_three l
  obtain ⟨fuel, hf⟩ := h
  obtain ⟨xs, m, _, _, _, hl, hx⟩ := DataW.trod_array ht hf
  obtain ⟨y0, y1, y2, rfl⟩ := list_three hl
  have h0 := hx 0 (by decide)
  have h1 := hx 1 (by decide)
  have h2 := hx 2 (by decide)
  simp only [hc, Value.cells, Nat.zero_mul, Nat.one_mul] at h0 h1 h2
  obtain ⟨a, ea, _, wa⟩ := DataW.trod_int he h0
  obtain ⟨b, eb, _, wb⟩ := DataW.trod_int he h1
  obtain ⟨c, ec, _, wc⟩ := DataW.trod_int he h2
  simp at ea eb ec
  subst ea eb ec
  exact ⟨a, b, c, rfl, wa, wb, wc⟩

theorem wf_i16 {n : Int} (h : (Lit.int .i16 n).wf = true) : -32768 ≤ n ∧ n ≤ 32767 := by
  simp [Lit.wf, IntKind.min, IntKind.max, IntKind.signed, IntKind.bits] at h
  omega
theorem wf_u8 {n : Int} (h : (Lit.int .u8 n).wf = true) : 0 ≤ n ∧ n ≤ 255 := by
  simp [Lit.wf, IntKind.min, IntKind.max, IntKind.signed, IntKind.bits] at h
  omega

set_option maxRecDepth 100000 in
/-- the cells of a Boolean and limbs -/
theorem bu_cells {H : Type} {enc : TypeId × Value → H} {W : World} {t : TypeId} {f0 f1 : Field} {c0 c1 : Value} {n : Nat} {x : DataW H × List MemPlace} (hs : Tryz.prog.underlying t = some (.struct #[f0, f1])) (o0 : f0.offset = 0) (o1 : f1.offset = 1)
    (k0 : Tryz.prog.cellsOf f0.type = 1) (k1 : Tryz.prog.cellsOf f1.type = 1) (h0 : Tryz.prog.underlying f0.type = some .bool) (h1 : Tryz.prog.underlying f1.type = some (.slice 96))
    (h : DataW.trod enc Tryz.prog W 0 (fun _ => true) true n t [c0, c1] = some x) : DraftV W (.agg #[c0, c1]) := by
  obtain ⟨xs, m, _, _, _, hl, hx⟩ := DataW.trod_struct hs h
  obtain ⟨y0, y1, rfl⟩ := list_two hl
  have t0 := hx 0 f0 rfl
  have t1 := hx 1 f1 rfl
  rw [o0, k0] at t0
  rw [o1, k1] at t1
  simp only [List.drop_zero, List.take_succ_cons, List.take_zero, List.drop_succ_cons, List.getElem?_cons_zero, List.getElem?_cons_succ] at t0 t1
  obtain ⟨b, hc, _⟩ := DataW.trod_bool h0 t0
  simp only [List.cons.injEq, and_true] at hc
  subst hc
  rcases open_ints h1 Tryz.underlying96 cellsU32 t1 with ⟨hcs, _⟩ | ⟨a, len, cap, zs, hcs, _, hl, hm, hz, _, hcell, hwz⟩
  · simp only [List.cons.injEq, and_true] at hcs
    subst hcs
    exact ⟨b, none, [], 0, rfl, by simp, U.nil _ _, Lib.hid (by simp)⟩
  · simp only [List.cons.injEq, and_true] at hcs
    subst hcs
    rw [if_pos rfl] at hz
    have hlen : ((zs.take len).map Int.toNat).length = len := by simp; omega
    refine ⟨b, some a, (zs.take len).map Int.toNat, cap, by rw [hlen], ?_, ?_, Lib.hid ?_⟩
    · rw [hlen]; unfold maxLen at hm; omega
    · intro i hi
      rw [hlen] at hi
      have c0 := hcell 0 (by omega)
      have ci := hcell i (by omega)
      have hsp : a.spot = none := by
        have : a.add 0 = a := by simp [Addr.add]
        rw [this] at c0
        unfold World.cell? at c0
        cases hsp : a.spot with
        | none => rfl
        | some k => rw [hsp] at c0; simp at c0; split at c0 <;> simp at c0
      obtain ⟨bb, off, sp⟩ := a
      simp only at hsp
      subst hsp
      refine ⟨bb, off, rfl, ?_⟩
      have e : (⟨bb, off, none⟩ : Addr).add i = ⟨bb, off + i, none⟩ := by
        unfold Addr.add; split
        · subst i; rfl
        · rfl
      rw [e] at ci
      rw [ci]
      have hm' : zs[i]'(by omega) ∈ zs := List.getElem_mem _
      have hw := wf_u32 (hwz _ hm')
      simp only [List.getElem_map, List.getElem_take]
      rw [List.getD_eq_getElem?_getD, List.getElem?_eq_getElem (by omega)]
      simp only [Option.getD_some]
      congr 2
      omega
    · intro x hx
      obtain ⟨y, hy, rfl⟩ := List.mem_map.1 hx
      have := wf_u32 (hwz y (List.mem_of_mem_take hy))
      omega

set_option maxRecDepth 100000 in
/-- the description of a fraction, opened -/
theorem open_draftQ {H : Type} {enc : TypeId × Value → H} {r : Reach} {b0 : Nat} {W : World} {v : Value} {d : DataW H} {p : List MemPlace} (hv : Value.okWide Tryz.prog W r b0 39 v) (h : DataW.Trod enc Tryz.prog W 0 (fun _ => true) true 39 v d p) : DraftQ W v := by
  obtain ⟨cs, rfl, hsz⟩ := okWide_struct Tryz.underlying39 hv
  have h4 : Tryz.prog.cellsOf 39 = 4 := by kernel_rfl
  obtain ⟨x0, x1, x2, x3, rfl⟩ := array_four (hsz.trans h4)
  obtain ⟨fuel, hf⟩ := h
  obtain ⟨xs, m, _, _, _, hl, hx⟩ := DataW.trod_struct Tryz.underlying39 hf
  obtain ⟨y0, y1, rfl⟩ := list_two hl
  have t0 := hx 0 _ rfl
  have t1 := hx 1 _ rfl
  simp only [Value.cells, List.getElem?_cons_zero, List.getElem?_cons_succ] at t0 t1
  have D0 := bu_cells Tryz.underlying37 rfl rfl (by kernel_rfl) (by kernel_rfl) (by kernel_rfl) (by kernel_rfl) t0
  have D1 := bu_cells Tryz.underlying37 rfl rfl (by kernel_rfl) (by kernel_rfl) (by kernel_rfl) (by kernel_rfl) t1
  obtain ⟨n1, a1, l1, c1, e1, _⟩ := id D0
  obtain ⟨n2, a2, l2, c2, e2, _⟩ := id D1
  simp only [Value.agg.injEq, Array.mk.injEq, List.cons.injEq, and_true] at e1 e2
  obtain ⟨rfl, rfl⟩ := e1
  obtain ⟨rfl, rfl⟩ := e2
  exact ⟨n1, a1, _, c1, n2, a2, _, c2, rfl, D0, D1⟩

end Go.Proofs.YtgenhkakcbedaaaGreatDoor
