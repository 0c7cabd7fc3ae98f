import Derived.Test.YtgenhkakcbedaaaGreatDoorWitR
import Derived.Test.YtgenhkakcbedaaaGreatDoorQK
namespace Go.Proofs.YtgenhkakcbedaaaGreatDoor
open Go.ChangeShapes Go.WideShapes Go.ChangeAt Go.RowKit Go.Deep

set_option maxRecDepth 100000 in
/-- the cells of a Boolean and limbs -/
theorem raw_cells {H : Type} {enc : TypeId × Value → H} {W : World} {t : TypeId} {f0 f1 : Field} {c0 c1 : Value} {n : Nat} {x : DataW H × List MemPlace} (hs : Tryz.prog.underlying t = some (.struct #[f0, f1])) (o0 : f0.offset = 0) (o1 : f1.offset = 1)
    (k0 : Tryz.prog.cellsOf f0.type = 1) (k1 : Tryz.prog.cellsOf f1.type = 1) (h0 : Tryz.prog.underlying f0.type = some .bool) (h1 : Tryz.prog.underlying f1.type = some (.slice 96))
    (h : DataW.trod enc Tryz.prog W 0 (fun _ => true) true n t [c0, c1] = some x) : RawC W (.agg #[c0, c1]) := by
  obtain ⟨xs, m, _, _, _, hl, hx⟩ := DataW.trod_struct hs h
  obtain ⟨y0, y1, rfl⟩ := list_two hl
  have t0 := hx 0 f0 rfl
  have t1 := hx 1 f1 rfl
  rw [o0, k0] at t0
  rw [o1, k1] at t1
  simp only [List.drop_zero, List.take_succ_cons, List.take_zero, List.drop_succ_cons, List.getElem?_cons_zero, List.getElem?_cons_succ] at t0 t1
  obtain ⟨b, hc, _⟩ := DataW.trod_bool h0 t0
  simp only [List.cons.injEq, and_true] at hc
  subst hc
  rcases open_ints h1 Tryz.underlying96 cellsU32 t1 with ⟨hcs, _⟩ | ⟨a, len, cap, zs, hcs, _, hlc, hm, hz, _, hcell, hwz⟩
  · simp only [List.cons.injEq, and_true] at hcs
    subst hcs
    exact ⟨b, none, [], 0, rfl, by simp, U.nil _ _⟩
  · simp only [List.cons.injEq, and_true] at hcs
    subst hcs
    rw [if_pos rfl] at hz
    have hlen : ((zs.take len).map Int.toNat).length = len := by simp; omega
    refine ⟨b, some a, (zs.take len).map Int.toNat, cap, by rw [hlen], ?_, ?_⟩
    · rw [hlen]; omega
    · intro i hi
      rw [hlen] at hi
      have c0 := hcell 0 (by omega)
      have ci := hcell i (by omega)
      have hsp : a.spot = none := by
        have : a.add 0 = a := by simp [Addr.add]
        rw [this] at c0
        unfold World.cell? at c0
        cases hsp : a.spot with
        | none => rfl
        | some k => rw [hsp] at c0; simp at c0; split at c0 <;> simp at c0
      obtain ⟨bb, off, sp⟩ := a
      simp only at hsp
      subst hsp
      refine ⟨bb, off, rfl, ?_⟩
      have e : (⟨bb, off, none⟩ : Addr).add i = ⟨bb, off + i, none⟩ := by
        unfold Addr.add; split
        · subst i; rfl
        · rfl
      rw [e] at ci
      rw [ci]
      have hm' : zs[i]'(by omega) ∈ zs := List.getElem_mem _
      have hw := wf_u32 (hwz _ hm')
      simp only [List.getElem_map, List.getElem_take]
      rw [List.getD_eq_getElem?_getD, List.getElem?_eq_getElem (by omega)]
      simp only [Option.getD_some]
      congr 2
      omega

theorem array_two {cs : Array Value} (h : cs.size = 2) : ∃ x0 x1, cs = #[x0, x1] := by
  rcases cs with ⟨cs⟩
  simp only [List.size_toArray] at h
  match cs, h with
  | [x0, x1], _ => exact ⟨x0, x1, rfl⟩

set_option maxRecDepth 100000 in
/-- an integer as it came in, opened -/
theorem open_rawC {H : Type} {enc : TypeId × Value → H} {r : Reach} {b0 : Nat} {W : World} {v : Value} {d : DataW H} {p : List MemPlace} (hv : Value.okWide Tryz.prog W r b0 24 v) (h : DataW.Trod enc Tryz.prog W 0 (fun _ => true) true 24 v d p) : RawC W v := by
  obtain ⟨cs, rfl, hsz⟩ := okWide_struct Tryz.underlying24 hv
  obtain ⟨x0, x1, rfl⟩ := array_two (hsz.trans (show Tryz.prog.cellsOf 24 = 2 by kernel_rfl))
  obtain ⟨fuel, hf⟩ := h
  exact raw_cells Tryz.underlying24 rfl rfl (by kernel_rfl) (by kernel_rfl) (by kernel_rfl) (by kernel_rfl) hf

set_option maxRecDepth 100000 in
/-- an array of two integers, opened -/
theorem open_arr2 {H : Type} {enc : TypeId × Value → H} {r : Reach} {b0 : Nat} {W : World} {t e : TypeId} {k : IntKind} {v : Value} {d : DataW H} {p : List MemPlace} (ht : Tryz.prog.underlying t = some (.array 2 e)) (he : Tryz.prog.underlying e = some (.int k))
    (hC : Tryz.prog.cellsOf t = 2) (hc : Tryz.prog.cellsOf e = 1) (hv : Value.okWide Tryz.prog W r b0 t v) (h : DataW.Trod enc Tryz.prog W 0 (fun _ => true) true t v d p) :
    ∃ a b : Int, v = .agg #[.int k a, .int k b] ∧ (Lit.int k a).wf = true ∧ (Lit.int k b).wf = true := by
  obtain ⟨cs, rfl, hsz⟩ := okWide_arr ht hv
  obtain ⟨x0, x1, rfl⟩ := array_two (hsz.trans hC)
  obtain ⟨fuel, hf⟩ := h
  obtain ⟨xs, m, _, _, _, hl, hx⟩ := DataW.trod_array ht hf
  obtain ⟨y0, y1, rfl⟩ := list_two hl
  have h0 := hx 0 (by decide)
  have h1 := hx 1 (by decide)
  simp only [hc, Value.cells, Nat.zero_mul, Nat.one_mul] at h0 h1
  obtain ⟨a, ea, _, wa⟩ := DataW.trod_int he h0
  obtain ⟨b, eb, _, wb⟩ := DataW.trod_int he h1
  simp at ea eb
  subst ea eb
  exact ⟨a, b, rfl, wa, wb⟩

theorem wf_i64' {n : Int} (h : (Lit.int .i64 n).wf = true) : -9223372036854775808 ≤ n ∧ n ≤ 9223372036854775807 := by
  simp [Lit.wf, IntKind.min, IntKind.max, IntKind.signed, IntKind.bits] at h
  omega

end Go.Proofs.YtgenhkakcbedaaaGreatDoor
