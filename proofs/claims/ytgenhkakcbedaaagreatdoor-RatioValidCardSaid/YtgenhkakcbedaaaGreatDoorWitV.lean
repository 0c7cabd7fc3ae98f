import Derived.Test.YtgenhkakcbedaaaGreatDoorWitR
import Derived.Test.YtgenhkakcbedaaaGreatDoorQM
namespace Go.Proofs.YtgenhkakcbedaaaGreatDoor
open Go.ChangeShapes Go.WideShapes Go.ChangeAt Go.RowKit Go.Deep

/-- an integer as it came in -/
def RawI (w : World) (v : Value) : Prop :=
  ∃ (neg : Bool) (ao : Option Addr) (l : List Nat) (cap : Nat), v = .agg #[.bool neg, .slice ao l.length cap] ∧ l.length ≤ cap ∧ U w ao l

set_option maxRecDepth 100000 in
/-- the cells of a Boolean and limbs -/
theorem raw_cellsV {H : Type} {enc : TypeId × Value → H} {W : World} {t : TypeId} {f0 f1 : Field} {c0 c1 : Value} {n : Nat} {x : DataW H × List MemPlace} (hs : Tryz.prog.underlying t = some (.struct #[f0, f1])) (o0 : f0.offset = 0) (o1 : f1.offset = 1)
    (k0 : Tryz.prog.cellsOf f0.type = 1) (k1 : Tryz.prog.cellsOf f1.type = 1) (h0 : Tryz.prog.underlying f0.type = some .bool) (h1 : Tryz.prog.underlying f1.type = some (.slice 96))
    (h : DataW.trod enc Tryz.prog W 0 (fun _ => true) true n t [c0, c1] = some x) : RawI W (.agg #[c0, c1]) := by
  obtain ⟨xs, m, _, _, _, hl, hx⟩ := DataW.trod_struct hs h
  obtain ⟨y0, y1, rfl⟩ := list_two hl
  have t0 := hx 0 f0 rfl
  have t1 := hx 1 f1 rfl
  rw [o0, k0] at t0
  rw [o1, k1] at t1
  simp only [List.drop_zero, List.take_succ_cons, List.take_zero, List.drop_succ_cons, List.getElem?_cons_zero, List.getElem?_cons_succ] at t0 t1
  obtain ⟨b, hc, _⟩ := DataW.trod_bool h0 t0
  simp only [List.cons.injEq, and_true] at hc
  subst hc
  rcases open_ints h1 Tryz.underlying96 cellsU32 t1 with ⟨hcs, _⟩ | ⟨a, len, cap, zs, hcs, _, hlc, hm, hz, _, hcell, hwz⟩
  · simp only [List.cons.injEq, and_true] at hcs
    subst hcs
    exact ⟨b, none, [], 0, rfl, by simp, U.nil _ _⟩
  · simp only [List.cons.injEq, and_true] at hcs
    subst hcs
    rw [if_pos rfl] at hz
    have hlen : ((zs.take len).map Int.toNat).length = len := by simp; omega
    refine ⟨b, some a, (zs.take len).map Int.toNat, cap, by rw [hlen], ?_, ?_⟩
    · rw [hlen]; omega
    · intro i hi
      rw [hlen] at hi
      have c0 := hcell 0 (by omega)
      have ci := hcell i (by omega)
      have hsp : a.spot = none := by
        have : a.add 0 = a := by simp [Addr.add]
        rw [this] at c0
        unfold World.cell? at c0
        cases hsp : a.spot with
        | none => rfl
        | some k => rw [hsp] at c0; simp at c0; split at c0 <;> simp at c0
      obtain ⟨bb, off, sp⟩ := a
      simp only at hsp
      subst hsp
      refine ⟨bb, off, rfl, ?_⟩
      have e : (⟨bb, off, none⟩ : Addr).add i = ⟨bb, off + i, none⟩ := by
        unfold Addr.add; split
        · subst i; rfl
        · rfl
      rw [e] at ci
      rw [ci]
      have hm' : zs[i]'(by omega) ∈ zs := List.getElem_mem _
      have hw := wf_u32 (hwz _ hm')
      simp only [List.getElem_map, List.getElem_take]
      rw [List.getD_eq_getElem?_getD, List.getElem?_eq_getElem (by omega)]
      simp only [Option.getD_some]
      congr 2
      omega

set_option maxRecDepth 100000 in
/-- a fraction, opened -/
theorem open_rawQ {H : Type} {enc : TypeId × Value → H} {r : Reach} {b0 : Nat} {W : World} {v : Value} {d : DataW H} {p : List MemPlace} (hv : Value.okWide Tryz.prog W r b0 29 v) (h : DataW.Trod enc Tryz.prog W 0 (fun _ => true) true 29 v d p) : RawQ W v := by
  obtain ⟨cs, rfl, hsz⟩ := okWide_struct Tryz.underlying29 hv
  have h4 : Tryz.prog.cellsOf 29 = 4 := by kernel_rfl
  obtain ⟨x0, x1, x2, x3, rfl⟩ := array_four (hsz.trans h4)
  obtain ⟨fuel, hf⟩ := h
  obtain ⟨xs, m, _, _, _, hl, hx⟩ := DataW.trod_struct Tryz.underlying29 hf
  obtain ⟨y0, y1, rfl⟩ := list_two hl
  have t0 := hx 0 _ rfl
  have t1 := hx 1 _ rfl
  simp only [Value.cells, List.getElem?_cons_zero, List.getElem?_cons_succ] at t0 t1
  have D0 := raw_cellsV Tryz.underlying24 rfl rfl (by kernel_rfl) (by kernel_rfl) (by kernel_rfl) (by kernel_rfl) t0
  have D1 := raw_cellsV Tryz.underlying24 rfl rfl (by kernel_rfl) (by kernel_rfl) (by kernel_rfl) (by kernel_rfl) t1
  obtain ⟨n1, a1, l1, c1, e1, k1, u1⟩ := D0
  obtain ⟨n2, a2, l2, c2, e2, k2, u2⟩ := D1
  simp only [Value.agg.injEq, Array.mk.injEq, List.cons.injEq, and_true] at e1 e2
  obtain ⟨rfl, rfl⟩ := e1
  obtain ⟨rfl, rfl⟩ := e2
  exact ⟨n1, n2, l1, l2, a1, a2, c1, c2, rfl, k1, k2, u1, u2⟩

end Go.Proofs.YtgenhkakcbedaaaGreatDoor
