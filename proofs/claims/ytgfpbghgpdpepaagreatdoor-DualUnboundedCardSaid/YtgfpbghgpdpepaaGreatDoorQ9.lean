import Derived.Test.YtgfpbghgpdpepaaGreatDoorQ8
import Derived.Test.YtgfpbghgpdpepaaGreatDoorShelfC
set_option linter.unusedVariables false
set_option linter.unusedSimpArgs false
namespace Go.Proofs.YtgfpbghgpdpepaaGreatDoor
open Go.RowKit
def MaxV (w : World) : Prop := ∃ m : Int, w.cell? ⟨0, 0, none⟩ = some (.int .i64 m)
theorem MaxV.mono {w w' : World} (h : MaxV w) (hb : Below w.heap.size w w') : MaxV w' := by
 obtain ⟨m, hm⟩ := h;exact ⟨m, (hb.cell (p := ⟨0, 0, none⟩) (cell_lt hm)).trans hm⟩
theorem Box4.set4Z {w : World} {n : Nat} {x0 x1 x2 x3 : Value} (h : Box4 w n x0 x1 x2 x3) (y0 y1 y2 y3 : Value) : Box4 ((((w.setCell ⟨n, 0, none⟩ y0).setCell ⟨n, 1, none⟩ y1).setCell ⟨n, 2, none⟩ y2).setCell ⟨n, 3, none⟩ y3) n y0 y1 y2 y3 := by
 obtain ⟨h0, h1, h2, h3, f0, f1, f2, f3⟩ := h;exact ⟨by simp [go_sem, h0], by simp [go_sem, h1], by simp [go_sem, h2], by simp [go_sem, h3], by simp [go_sem, f0], by simp [go_sem, f1], by simp [go_sem, f2], by simp [go_sem, f3]⟩
theorem Box4.set4N {w : World} {n : Nat} (h : Box4 w n (.bool false) (.slice none 0 0) (.bool false) (.slice none 0 0)) (y0 y1 y2 y3 : Value) : Box4 ((((w.setCell ⟨n, 0, none⟩ y0).setCell ⟨n, 1, none⟩ y1).setCell ⟨n, 2, none⟩ y2).setCell ⟨n, 3, none⟩ y3) n y0 y1 y2 y3 := h.set4Z y0 y1 y2 y3
theorem IntV.put4N {w : World} {n : Nat} {u : Value} {z : Int} (h : IntV w u z) (hB : Box4 w n (.bool false) (.slice none 0 0) (.bool false) (.slice none 0 0)) (x0 x1 x2 x3 : Value) :
  IntV ((((w.setCell ⟨n, 0, none⟩ x0).setCell ⟨n, 1, none⟩ x1).setCell ⟨n, 2, none⟩ x2).setCell ⟨n, 3, none⟩ x3) u z := IntV.put4B hB h x0 x1 x2 x3
end Go.Proofs.YtgfpbghgpdpepaaGreatDoor
