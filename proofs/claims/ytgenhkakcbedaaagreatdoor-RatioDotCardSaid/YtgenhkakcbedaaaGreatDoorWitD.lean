import Derived.Test.YtgenhkakcbedaaaGreatDoorWitR
import Derived.Test.YtgenhkakcbedaaaGreatDoorQN
import Derived.Deep.Slices
namespace Go.Proofs.YtgenhkakcbedaaaGreatDoor
open Go.ChangeShapes Go.WideShapes Go.ChangeAt Go.RowKit Go.Deep

theorem spot_none {w : World} {a : Addr} {v : Value} (h : w.cell? a = some v) : a.spot = none := by
  unfold World.cell? at h
  cases hsp : a.spot with
  | none => rfl
  | some k => rw [hsp] at h; simp at h; split at h <;> simp at h

theorem add_plain' (b off i : Nat) : (⟨b, off, none⟩ : Addr).add i = ⟨b, off + i, none⟩ := by
  unfold Addr.add; split
  · subst i; rfl
  · rfl

set_option maxRecDepth 100000 in
/-- a slice of descriptions, opened -/
theorem open_draftsQ {H : Type} {enc : TypeId × Value → H} {r : Reach} {b0 : Nat} {W : World} {v : Value} {d : DataW H} {p : List MemPlace} (hv : Value.okWide Tryz.prog W r b0 58 v) (h : DataW.Trod enc Tryz.prog W 0 (fun _ => true) true 58 v d p) : DraftsQ W v := by
  obtain ⟨a0, len0, cap0, rfl⟩ := okWide_slice Tryz.underlying58 hv
  obtain ⟨fuel, hf⟩ := h
  have hC : Tryz.prog.cellsOf 39 = 4 := by kernel_rfl
  rcases open_slice Tryz.underlying58 hf with ⟨hcs, _⟩ | ⟨a, len, cap, m, n, D, Pl, hcs, _, hl, hm, hmm, _, hi⟩
  · simp only [Value.cells, List.cons.injEq, Value.slice.injEq, and_true] at hcs
    obtain ⟨rfl, rfl, rfl⟩ := hcs
    exact ⟨none, 0, 0, rfl, fun i h => absurd h (by omega)⟩
  · simp only [Value.cells, List.cons.injEq, Value.slice.injEq, and_true] at hcs
    obtain ⟨rfl, rfl, rfl⟩ := hcs
    rw [if_pos rfl] at hmm
    subst hmm
    refine ⟨some a, _, _, rfl, fun i hlt => ?_⟩
    obtain ⟨cs', hc, ht⟩ := hi i (by omega)
    rw [hC] at hc
    obtain ⟨_, hcl, hat⟩ := World.cells?_some hc
    obtain ⟨x0, x1, x2, x3, rfl⟩ : ∃ x0 x1 x2 x3, cs' = [x0, x1, x2, x3] := by
      match cs', hcl with
      | [x0, x1, x2, x3], _ => exact ⟨x0, x1, x2, x3, rfl⟩
    have g0 := hat 0 (by omega)
    have g1 := hat 1 (by omega)
    have g2 := hat 2 (by omega)
    have g3 := hat 3 (by omega)
    have hsp : a.spot = none := by
      obtain ⟨cs0, hc0, _⟩ := hi 0 (by omega)
      rw [hC] at hc0
      obtain ⟨_, hcl0, hat0⟩ := World.cells?_some hc0
      have g := hat0 0 (by omega)
      have e1 : ∀ x : Addr, x.add 0 = x := fun x => by simp [Addr.add]
      rw [Nat.zero_mul, e1, e1, List.getElem?_eq_getElem (by omega)] at g
      exact spot_none g
    obtain ⟨b, off, sp⟩ := a
    simp only at hsp
    subst hsp
    rw [add_plain', add_plain'] at g0 g1 g2 g3
    simp only [List.getElem?_cons_zero, List.getElem?_cons_succ, Nat.add_zero] at g0 g1 g2 g3
    obtain ⟨xs, m', _, _, _, hl2, hx⟩ := DataW.trod_struct Tryz.underlying39 ht
    obtain ⟨y0, y1, rfl⟩ := list_two hl2
    have t0 := hx 0 _ rfl
    have t1 := hx 1 _ rfl
    simp only [List.getElem?_cons_zero, List.getElem?_cons_succ] at t0 t1
    have D0 := bu_cells Tryz.underlying37 rfl rfl (by kernel_rfl) (by kernel_rfl) (by kernel_rfl) (by kernel_rfl) t0
    have D1 := bu_cells Tryz.underlying37 rfl rfl (by kernel_rfl) (by kernel_rfl) (by kernel_rfl) (by kernel_rfl) t1
    obtain ⟨n1, a1, l1, c1, e1, _⟩ := id D0
    obtain ⟨n2, a2, l2, c2, e2, _⟩ := id D1
    simp only [Value.agg.injEq, Array.mk.injEq, List.cons.injEq, and_true] at e1 e2
    obtain ⟨rfl, rfl⟩ := e1
    obtain ⟨rfl, rfl⟩ := e2
    exact ⟨b, off, n1, a1, _, c1, n2, a2, _, c2, rfl, ⟨g0, g1, g2, g3, trivial, trivial, trivial, trivial⟩, ⟨n1, a1, _, c1, n2, a2, _, c2, rfl, D0, D1⟩⟩

end Go.Proofs.YtgenhkakcbedaaaGreatDoor
