import Derived.Test.YtijjagofingpdaaGreatDoorApi2
import Derived.Test.YtijjagofingpdaaGreatDoorSmall
namespace Go.Proofs.YtijjagofingpdaaGreatDoor
open Go.RowKit

set_option maxHeartbeats 800000 in
theorem Add_inv (n1 n2 : Bool) (l1 l2 : List Nat) (a1 a2 : Option Addr) (c1 c2 : Nat) (w : World) (h1 : U w a1 l1) (h2 : U w a2 l2) (m1 : l1.length ≤ 1000000000) (m2 : l2.length ≤ 1000000000) (hbad : Hid (¬ (validP n1 l1 ∧ validP n2 l2))) (hE : Env w) :
    Calls Tryz.prog 16 #[.agg #[.bool n1, .slice a1 l1.length c1], .agg #[.bool n2, .slice a2 l2.length c2]] w fun e w' => e = .returned (.tuple #[.agg #[.bool false, .slice none 0 0], .int .i64 1]) ∧ Below w.heap.size w w' := by
  go_enter Tryz.func16, Tryz.ntmps16
  go_wp2_with fail
  obtain ⟨wx, hwx, hsz, B1, B2, B3, hbx⟩ := boxes3 w (.bool n1) (.slice a1 l1.length c1) (.bool n2) (.slice a2 l2.length c2) (.bool false) (.slice none 0 0) 25
  rw [← hwx]
  clear hwx
  (with_reducible refine (check2 wx _ hsz n1 n2 a1 a2 l1 l2 c1 c2 (h1.mono hbx) (h2.mono hbx) m1 m2 (hE.mono hbx)).mono ?_)
  rintro e w1 ⟨⟨r, HR, HR2, rfl⟩, hb1'⟩
  obtain rfl : r = 1 := by
    rcases HR2.out with h | h
    · exact absurd (HR.out.1 h) hbad.out
    · exact h
  have B3 := B3.mono hb1'
  have hbw := Below.step hbx hb1' (Nat.le_refl _)
  clear HR HR2 h1 h2 hE hsz
  obtain ⟨p0, p1, q0, q1⟩ := B3
  go_wp2
  refine bodyPost_ret (v := .tuple #[.agg #[.bool false, .slice none 0 0], .int .i64 1]) (by simp [results, Tryz.results16, go_sem, p0, p1]) rfl ⟨rfl, Below.put2 hbw (by omega) _ _⟩
set_option maxHeartbeats 800000 in
theorem Sub_inv (n1 n2 : Bool) (l1 l2 : List Nat) (a1 a2 : Option Addr) (c1 c2 : Nat) (w : World) (h1 : U w a1 l1) (h2 : U w a2 l2) (m1 : l1.length ≤ 1000000000) (m2 : l2.length ≤ 1000000000) (hbad : Hid (¬ (validP n1 l1 ∧ validP n2 l2))) (hE : Env w) :
    Calls Tryz.prog 17 #[.agg #[.bool n1, .slice a1 l1.length c1], .agg #[.bool n2, .slice a2 l2.length c2]] w fun e w' => e = .returned (.tuple #[.agg #[.bool false, .slice none 0 0], .int .i64 1]) ∧ Below w.heap.size w w' := by
  go_enter Tryz.func17, Tryz.ntmps17
  go_wp2_with fail
  obtain ⟨wx, hwx, hsz, B1, B2, B3, hbx⟩ := boxes3 w (.bool n1) (.slice a1 l1.length c1) (.bool n2) (.slice a2 l2.length c2) (.bool false) (.slice none 0 0) 25
  rw [← hwx]
  clear hwx
  (with_reducible refine (check2 wx _ hsz n1 n2 a1 a2 l1 l2 c1 c2 (h1.mono hbx) (h2.mono hbx) m1 m2 (hE.mono hbx)).mono ?_)
  rintro e w1 ⟨⟨r, HR, HR2, rfl⟩, hb1'⟩
  obtain rfl : r = 1 := by
    rcases HR2.out with h | h
    · exact absurd (HR.out.1 h) hbad.out
    · exact h
  have B3 := B3.mono hb1'
  have hbw := Below.step hbx hb1' (Nat.le_refl _)
  clear HR HR2 h1 h2 hE hsz
  obtain ⟨p0, p1, q0, q1⟩ := B3
  go_wp2
  refine bodyPost_ret (v := .tuple #[.agg #[.bool false, .slice none 0 0], .int .i64 1]) (by simp [results, Tryz.results17, go_sem, p0, p1]) rfl ⟨rfl, Below.put2 hbw (by omega) _ _⟩
set_option maxHeartbeats 800000 in
theorem Mul_inv (n1 n2 : Bool) (l1 l2 : List Nat) (a1 a2 : Option Addr) (c1 c2 : Nat) (w : World) (h1 : U w a1 l1) (h2 : U w a2 l2) (m1 : l1.length ≤ 1000000000) (m2 : l2.length ≤ 1000000000) (hbad : Hid (¬ (validP n1 l1 ∧ validP n2 l2))) (hE : Env w) :
    Calls Tryz.prog 18 #[.agg #[.bool n1, .slice a1 l1.length c1], .agg #[.bool n2, .slice a2 l2.length c2]] w fun e w' => e = .returned (.tuple #[.agg #[.bool false, .slice none 0 0], .int .i64 1]) ∧ Below w.heap.size w w' := by
  go_enter Tryz.func18, Tryz.ntmps18
  go_wp2_with fail
  obtain ⟨wx, hwx, hsz, B1, B2, B3, hbx⟩ := boxes3 w (.bool n1) (.slice a1 l1.length c1) (.bool n2) (.slice a2 l2.length c2) (.bool false) (.slice none 0 0) 25
  rw [← hwx]
  clear hwx
  (with_reducible refine (check2 wx _ hsz n1 n2 a1 a2 l1 l2 c1 c2 (h1.mono hbx) (h2.mono hbx) m1 m2 (hE.mono hbx)).mono ?_)
  rintro e w1 ⟨⟨r, HR, HR2, rfl⟩, hb1'⟩
  obtain rfl : r = 1 := by
    rcases HR2.out with h | h
    · exact absurd (HR.out.1 h) hbad.out
    · exact h
  have B3 := B3.mono hb1'
  have hbw := Below.step hbx hb1' (Nat.le_refl _)
  clear HR HR2 h1 h2 hE hsz
  obtain ⟨p0, p1, q0, q1⟩ := B3
  go_wp2
  refine bodyPost_ret (v := .tuple #[.agg #[.bool false, .slice none 0 0], .int .i64 1]) (by simp [results, Tryz.results18, go_sem, p0, p1]) rfl ⟨rfl, Below.put2 hbw (by omega) _ _⟩
set_option maxHeartbeats 800000 in
theorem Gcd_inv (n1 n2 : Bool) (l1 l2 : List Nat) (a1 a2 : Option Addr) (c1 c2 : Nat) (w : World) (h1 : U w a1 l1) (h2 : U w a2 l2) (m1 : l1.length ≤ 1000000000) (m2 : l2.length ≤ 1000000000) (hbad : Hid (¬ (validP n1 l1 ∧ validP n2 l2))) (hE : Env w) :
    Calls Tryz.prog 20 #[.agg #[.bool n1, .slice a1 l1.length c1], .agg #[.bool n2, .slice a2 l2.length c2]] w fun e w' => e = .returned (.tuple #[.agg #[.bool false, .slice none 0 0], .int .i64 1]) ∧ Below w.heap.size w w' := by
  go_enter Tryz.func20, Tryz.ntmps20
  go_wp2_with fail
  obtain ⟨wx, hwx, hsz, B1, B2, B3, hbx⟩ := boxes3 w (.bool n1) (.slice a1 l1.length c1) (.bool n2) (.slice a2 l2.length c2) (.bool false) (.slice none 0 0) 25
  rw [← hwx]
  clear hwx
  (with_reducible refine (check2 wx _ hsz n1 n2 a1 a2 l1 l2 c1 c2 (h1.mono hbx) (h2.mono hbx) m1 m2 (hE.mono hbx)).mono ?_)
  rintro e w1 ⟨⟨r, HR, HR2, rfl⟩, hb1'⟩
  obtain rfl : r = 1 := by
    rcases HR2.out with h | h
    · exact absurd (HR.out.1 h) hbad.out
    · exact h
  have B3 := B3.mono hb1'
  have hbw := Below.step hbx hb1' (Nat.le_refl _)
  clear HR HR2 h1 h2 hE hsz
  obtain ⟨p0, p1, q0, q1⟩ := B3
  go_wp2
  refine bodyPost_ret (v := .tuple #[.agg #[.bool false, .slice none 0 0], .int .i64 1]) (by simp [results, Tryz.results20, go_sem, p0, p1]) rfl ⟨rfl, Below.put2 hbw (by omega) _ _⟩

/-- four boxes -/
theorem boxes4 (w : World) (a b c d x y z u : Value) (t : TypeId) : ∃ wx, wx = (((w.alloc (.cells #[a, b] t)).alloc (.cells #[c, d] t)).alloc (.cells #[x, y] t)).alloc (.cells #[z, u] t) ∧ wx.heap.size = w.heap.size + 1 + 1 + 1 + 1 ∧
    Box wx w.heap.size a b ∧ Box wx (w.heap.size + 1) c d ∧ Box wx (w.heap.size + 1 + 1) x y ∧ Box wx (w.heap.size + 1 + 1 + 1) z u ∧ Below w.heap.size w wx := by
  obtain ⟨wy, hwy, hsz, B1, B2, B3, hb⟩ := boxes3 w a b c d x y t
  refine ⟨_, rfl, by simp, ?_⟩
  rw [← hwy]
  refine ⟨B1.mono (below_alloc _ _), B2.mono (below_alloc _ _), B3.mono (below_alloc _ _), ?_, hb.alloc hb.size _⟩
  have := Box.new wy z u t
  rwa [hsz] at this

theorem Box.put2 {w : World} {n m : Nat} {x y : Value} (h : Box w n x y) (hne : n ≠ m) (u v : Value) : Box ((w.setCell ⟨m, 0, none⟩ u).setCell ⟨m, 1, none⟩ v) n x y := by
  have ne (i j : Nat) : (⟨m, j, none⟩ : Addr) ≠ ⟨n, i, none⟩ := fun h => hne (congrArg Addr.block h).symm
  refine ⟨?_, ?_, ?_, ?_⟩
  · rw [World.cell?_setCell_other _ _ _ _ (ne 0 1), World.cell?_setCell_other _ _ _ _ (ne 0 0)]; exact h.c0
  · rw [World.cell?_setCell_other _ _ _ _ (ne 1 1), World.cell?_setCell_other _ _ _ _ (ne 1 0)]; exact h.c1
  · simpa [go_sem] using h.f0
  · simpa [go_sem] using h.f1

set_option maxHeartbeats 800000 in
theorem Div_inv (n1 n2 : Bool) (l1 l2 : List Nat) (a1 a2 : Option Addr) (c1 c2 : Nat) (w : World) (h1 : U w a1 l1) (h2 : U w a2 l2) (m1 : l1.length ≤ 1000000000) (m2 : l2.length ≤ 1000000000) (hbad : Hid (¬ (validP n1 l1 ∧ validP n2 l2))) (hE : Env w) :
    Calls Tryz.prog 19 #[.agg #[.bool n1, .slice a1 l1.length c1], .agg #[.bool n2, .slice a2 l2.length c2]] w fun e w' => e = .returned (.tuple #[.agg #[.bool false, .slice none 0 0], .agg #[.bool false, .slice none 0 0], .int .i64 1]) ∧ Below w.heap.size w w' := by
  go_enter Tryz.func19, Tryz.ntmps19
  go_wp2_with fail
  obtain ⟨wx, hwx, hsz, B1, B2, B3, B4, hbx⟩ := boxes4 w (.bool n1) (.slice a1 l1.length c1) (.bool n2) (.slice a2 l2.length c2) (.bool false) (.slice none 0 0) (.bool false) (.slice none 0 0) 25
  rw [← hwx]
  clear hwx
  (with_reducible refine (check2 wx _ hsz n1 n2 a1 a2 l1 l2 c1 c2 (h1.mono hbx) (h2.mono hbx) m1 m2 (hE.mono hbx)).mono ?_)
  rintro e w1 ⟨⟨r, HR, HR2, rfl⟩, hb1'⟩
  obtain rfl : r = 1 := by
    rcases HR2.out with h | h
    · exact absurd (HR.out.1 h) hbad.out
    · exact h
  have B3 := B3.mono hb1'
  have B4 := B4.mono hb1'
  have hbw := Below.step hbx hb1' (Nat.le_refl _)
  clear HR HR2 h1 h2 hE hsz
  obtain ⟨p0, p1, q0, q1⟩ := B3
  obtain ⟨x0, x1, y0, y1⟩ := B4
  go_wp2
  refine bodyPost_ret (v := .tuple #[.agg #[.bool false, .slice none 0 0], .agg #[.bool false, .slice none 0 0], .int .i64 1]) (by simp [results, Tryz.results19, go_sem, p0, p1, x0, x1]) rfl ⟨rfl, Below.put2 (Below.put2 hbw (by omega) _ _) (by omega) _ _⟩

theorem Cmp_inv (n1 n2 : Bool) (l1 l2 : List Nat) (a1 a2 : Option Addr) (c1 c2 : Nat) (w : World) (h1 : U w a1 l1) (h2 : U w a2 l2) (m1 : l1.length ≤ 1000000000) (m2 : l2.length ≤ 1000000000) (hbad : Hid (¬ (validP n1 l1 ∧ validP n2 l2))) (hE : Env w) :
    Calls Tryz.prog 34 #[.agg #[.bool n1, .slice a1 l1.length c1], .agg #[.bool n2, .slice a2 l2.length c2]] w fun e w' => e = .returned (.int .i64 0) ∧ Below w.heap.size w w' := by
  go_enter Tryz.func34, Tryz.ntmps34
  go_wp2_with fail
  obtain ⟨wx, hwx, hsz, B1, B2, hbx⟩ := boxes2 w (.bool n1) (.slice a1 l1.length c1) (.bool n2) (.slice a2 l2.length c2) 25
  rw [← hwx]
  clear hwx
  (with_reducible refine (check2 wx _ hsz n1 n2 a1 a2 l1 l2 c1 c2 (h1.mono hbx) (h2.mono hbx) m1 m2 (hE.mono hbx)).mono ?_)
  rintro e w1 ⟨⟨r, HR, HR2, rfl⟩, hb1'⟩
  obtain rfl : r = 1 := by
    rcases HR2.out with h | h
    · exact absurd (HR.out.1 h) hbad.out
    · exact h
  clear HR HR2 h1 h2 hE hsz
  go_wp2
  go_ret
  exact ⟨rfl, Below.step hbx hb1' (Nat.le_refl _)⟩

theorem Small_inv (n1 : Bool) (l1 : List Nat) (a1 : Option Addr) (c1 : Nat) (w : World) (h1 : U w a1 l1) (m1 : l1.length ≤ 1000000000) (hbad : Hid (¬ validP n1 l1)) (hE : Env w) :
    Calls Tryz.prog 10 #[.agg #[.bool n1, .slice a1 l1.length c1]] w fun e w' => e = .returned (.tuple #[.int .i64 0, .int .i64 1]) ∧ Below w.heap.size w w' := by
  go_enter Tryz.func10, Tryz.ntmps10
  go_wp2_with fail
  have hbx := below_alloc w (.cells #[.bool n1, .slice a1 l1.length c1] 25)
  have hsz : (w.alloc (.cells #[.bool n1, .slice a1 l1.length c1] 25)).heap.size = w.heap.size + 1 := by simp
  have hUx := h1.mono hbx
  have hEx := hE.mono hbx
  clear h1 hE
  generalize w.alloc (.cells #[.bool n1, .slice a1 l1.length c1] 25) = wx at *
  (with_reducible refine (check1 wx _ hsz n1 a1 l1 c1 hUx m1 hEx).mono ?_)
  rintro e w1 ⟨⟨r, HR, HR2, rfl⟩, hb1'⟩
  obtain rfl : r = 1 := by
    rcases HR2.out with h | h
    · exact absurd (HR.out.1 h) hbad.out
    · exact h
  clear HR HR2 hUx hEx hsz
  go_wp2
  go_ret2
  exact ⟨rfl, Below.step hbx hb1' (Nat.le_refl _)⟩

end Go.Proofs.YtijjagofingpdaaGreatDoor
