import Derived.Test.YtijjagofingpdaaDoorApi2
import Derived.Test.YtijjagofingpdaaDoorSmall
namespace Go.Proofs.YtijjagofingpdaaDoor
open Go.RowKit

set_option maxHeartbeats 800000 in
theorem Add_inv (n1 n2 : Bool) (l1 l2 : List Nat) (a1 a2 : Option Addr) (c1 c2 : Nat) (w : World) (h1 : U w a1 l1) (h2 : U w a2 l2) (m1 : l1.length ≤ 1000000000) (m2 : l2.length ≤ 1000000000) (hbad : Hid (¬ (validP n1 l1 ∧ validP n2 l2))) (hE : Env w) :
    Calls Tryd.prog 29 #[.agg #[.bool n1, .slice a1 l1.length c1], .agg #[.bool n2, .slice a2 l2.length c2]] w fun e w' => e = .returned (.tuple #[.agg #[.bool false, .slice none 0 0], .int .i64 1]) ∧ Below w.heap.size w w' := by
  go_enter Tryd.func29, Tryd.ntmps29
  go_wp2_with fail
  obtain ⟨wx, hwx, hsz, B1, B2, B3, hbx⟩ := boxes3 w (.bool n1) (.slice a1 l1.length c1) (.bool n2) (.slice a2 l2.length c2) (.bool false) (.slice none 0 0) 25
  rw [← hwx]
  clear hwx
  (with_reducible refine (check2 wx _ hsz n1 n2 a1 a2 l1 l2 c1 c2 (h1.mono hbx) (h2.mono hbx) m1 m2 (hE.mono hbx)).mono ?_)
  rintro e w1 ⟨⟨r, HR, HR2, rfl⟩, hb1'⟩
  obtain rfl : r = 1 := by
    rcases HR2.out with h | h
    · exact absurd (HR.out.1 h) hbad.out
    · exact h
  have B3 := B3.mono hb1'
  have hbw := Below.step hbx hb1' (Nat.le_refl _)
  clear HR HR2 h1 h2 hE hsz
  obtain ⟨p0, p1, q0, q1⟩ := B3
  go_wp2
  refine bodyPost_ret (v := .tuple #[.agg #[.bool false, .slice none 0 0], .int .i64 1]) (by simp [results, Tryd.results29, go_sem, p0, p1]) rfl ⟨rfl, Below.put2 hbw (by omega) _ _⟩
set_option maxHeartbeats 800000 in
theorem Sub_inv (n1 n2 : Bool) (l1 l2 : List Nat) (a1 a2 : Option Addr) (c1 c2 : Nat) (w : World) (h1 : U w a1 l1) (h2 : U w a2 l2) (m1 : l1.length ≤ 1000000000) (m2 : l2.length ≤ 1000000000) (hbad : Hid (¬ (validP n1 l1 ∧ validP n2 l2))) (hE : Env w) :
    Calls Tryd.prog 31 #[.agg #[.bool n1, .slice a1 l1.length c1], .agg #[.bool n2, .slice a2 l2.length c2]] w fun e w' => e = .returned (.tuple #[.agg #[.bool false, .slice none 0 0], .int .i64 1]) ∧ Below w.heap.size w w' := by
  go_enter Tryd.func31, Tryd.ntmps31
  go_wp2_with fail
  obtain ⟨wx, hwx, hsz, B1, B2, B3, hbx⟩ := boxes3 w (.bool n1) (.slice a1 l1.length c1) (.bool n2) (.slice a2 l2.length c2) (.bool false) (.slice none 0 0) 25
  rw [← hwx]
  clear hwx
  (with_reducible refine (check2 wx _ hsz n1 n2 a1 a2 l1 l2 c1 c2 (h1.mono hbx) (h2.mono hbx) m1 m2 (hE.mono hbx)).mono ?_)
  rintro e w1 ⟨⟨r, HR, HR2, rfl⟩, hb1'⟩
  obtain rfl : r = 1 := by
    rcases HR2.out with h | h
    · exact absurd (HR.out.1 h) hbad.out
    · exact h
  have B3 := B3.mono hb1'
  have hbw := Below.step hbx hb1' (Nat.le_refl _)
  clear HR HR2 h1 h2 hE hsz
  obtain ⟨p0, p1, q0, q1⟩ := B3
  go_wp2
  refine bodyPost_ret (v := .tuple #[.agg #[.bool false, .slice none 0 0], .int .i64 1]) (by simp [results, Tryd.results31, go_sem, p0, p1]) rfl ⟨rfl, Below.put2 hbw (by omega) _ _⟩
set_option maxHeartbeats 800000 in
theorem Mul_inv (n1 n2 : Bool) (l1 l2 : List Nat) (a1 a2 : Option Addr) (c1 c2 : Nat) (w : World) (h1 : U w a1 l1) (h2 : U w a2 l2) (m1 : l1.length ≤ 1000000000) (m2 : l2.length ≤ 1000000000) (hbad : Hid (¬ (validP n1 l1 ∧ validP n2 l2))) (hE : Env w) :
    Calls Tryd.prog 22 #[.agg #[.bool n1, .slice a1 l1.length c1], .agg #[.bool n2, .slice a2 l2.length c2]] w fun e w' => e = .returned (.tuple #[.agg #[.bool false, .slice none 0 0], .int .i64 1]) ∧ Below w.heap.size w w' := by
  go_enter Tryd.func22, Tryd.ntmps22
  go_wp2_with fail
  obtain ⟨wx, hwx, hsz, B1, B2, B3, hbx⟩ := boxes3 w (.bool n1) (.slice a1 l1.length c1) (.bool n2) (.slice a2 l2.length c2) (.bool false) (.slice none 0 0) 25
  rw [← hwx]
  clear hwx
  (with_reducible refine (check2 wx _ hsz n1 n2 a1 a2 l1 l2 c1 c2 (h1.mono hbx) (h2.mono hbx) m1 m2 (hE.mono hbx)).mono ?_)
  rintro e w1 ⟨⟨r, HR, HR2, rfl⟩, hb1'⟩
  obtain rfl : r = 1 := by
    rcases HR2.out with h | h
    · exact absurd (HR.out.1 h) hbad.out
    · exact h
  have B3 := B3.mono hb1'
  have hbw := Below.step hbx hb1' (Nat.le_refl _)
  clear HR HR2 h1 h2 hE hsz
  obtain ⟨p0, p1, q0, q1⟩ := B3
  go_wp2
  refine bodyPost_ret (v := .tuple #[.agg #[.bool false, .slice none 0 0], .int .i64 1]) (by simp [results, Tryd.results22, go_sem, p0, p1]) rfl ⟨rfl, Below.put2 hbw (by omega) _ _⟩
set_option maxHeartbeats 800000 in
theorem Gcd_inv (n1 n2 : Bool) (l1 l2 : List Nat) (a1 a2 : Option Addr) (c1 c2 : Nat) (w : World) (h1 : U w a1 l1) (h2 : U w a2 l2) (m1 : l1.length ≤ 1000000000) (m2 : l2.length ≤ 1000000000) (hbad : Hid (¬ (validP n1 l1 ∧ validP n2 l2))) (hE : Env w) :
    Calls Tryd.prog 14 #[.agg #[.bool n1, .slice a1 l1.length c1], .agg #[.bool n2, .slice a2 l2.length c2]] w fun e w' => e = .returned (.tuple #[.agg #[.bool false, .slice none 0 0], .int .i64 1]) ∧ Below w.heap.size w w' := by
  go_enter Tryd.func14, Tryd.ntmps14
  go_wp2_with fail
  obtain ⟨wx, hwx, hsz, B1, B2, B3, hbx⟩ := boxes3 w (.bool n1) (.slice a1 l1.length c1) (.bool n2) (.slice a2 l2.length c2) (.bool false) (.slice none 0 0) 25
  rw [← hwx]
  clear hwx
  (with_reducible refine (check2 wx _ hsz n1 n2 a1 a2 l1 l2 c1 c2 (h1.mono hbx) (h2.mono hbx) m1 m2 (hE.mono hbx)).mono ?_)
  rintro e w1 ⟨⟨r, HR, HR2, rfl⟩, hb1'⟩
  obtain rfl : r = 1 := by
    rcases HR2.out with h | h
    · exact absurd (HR.out.1 h) hbad.out
    · exact h
  have B3 := B3.mono hb1'
  have hbw := Below.step hbx hb1' (Nat.le_refl _)
  clear HR HR2 h1 h2 hE hsz
  obtain ⟨p0, p1, q0, q1⟩ := B3
  go_wp2
  refine bodyPost_ret (v := .tuple #[.agg #[.bool false, .slice none 0 0], .int .i64 1]) (by simp [results, Tryd.results14, go_sem, p0, p1]) rfl ⟨rfl, Below.put2 hbw (by omega) _ _⟩

/-- four boxes -/
theorem boxes4 (w : World) (a b c d x y z u : Value) (t : TypeId) : ∃ wx, wx = (((w.alloc (.cells #[a, b] t)).alloc (.cells #[c, d] t)).alloc (.cells #[x, y] t)).alloc (.cells #[z, u] t) ∧ wx.heap.size = w.heap.size + 1 + 1 + 1 + 1 ∧
    Box wx w.heap.size a b ∧ Box wx (w.heap.size + 1) c d ∧ Box wx (w.heap.size + 1 + 1) x y ∧ Box wx (w.heap.size + 1 + 1 + 1) z u ∧ Below w.heap.size w wx := by
  obtain ⟨wy, hwy, hsz, B1, B2, B3, hb⟩ := boxes3 w a b c d x y t
  refine ⟨_, rfl, by simp, ?_⟩
  rw [← hwy]
  refine ⟨B1.mono (below_alloc _ _), B2.mono (below_alloc _ _), B3.mono (below_alloc _ _), ?_, hb.alloc hb.size _⟩
  have := Box.new wy z u t
  rwa [hsz] at this

theorem Box.put2 {w : World} {n m : Nat} {x y : Value} (h : Box w n x y) (hne : n ≠ m) (u v : Value) : Box ((w.setCell ⟨m, 0, none⟩ u).setCell ⟨m, 1, none⟩ v) n x y := by
  have ne (i j : Nat) : (⟨m, j, none⟩ : Addr) ≠ ⟨n, i, none⟩ := fun h => hne (congrArg Addr.block h).symm
  refine ⟨?_, ?_, ?_, ?_⟩
  · rw [World.cell?_setCell_other _ _ _ _ (ne 0 1), World.cell?_setCell_other _ _ _ _ (ne 0 0)]; exact h.c0
  · rw [World.cell?_setCell_other _ _ _ _ (ne 1 1), World.cell?_setCell_other _ _ _ _ (ne 1 0)]; exact h.c1
  · simpa [go_sem] using h.f0
  · simpa [go_sem] using h.f1

set_option maxHeartbeats 800000 in
theorem Div_inv (n1 n2 : Bool) (l1 l2 : List Nat) (a1 a2 : Option Addr) (c1 c2 : Nat) (w : World) (h1 : U w a1 l1) (h2 : U w a2 l2) (m1 : l1.length ≤ 1000000000) (m2 : l2.length ≤ 1000000000) (hbad : Hid (¬ (validP n1 l1 ∧ validP n2 l2))) (hE : Env w) :
    Calls Tryd.prog 20 #[.agg #[.bool n1, .slice a1 l1.length c1], .agg #[.bool n2, .slice a2 l2.length c2]] w fun e w' => e = .returned (.tuple #[.agg #[.bool false, .slice none 0 0], .agg #[.bool false, .slice none 0 0], .int .i64 1]) ∧ Below w.heap.size w w' := by
  go_enter Tryd.func20, Tryd.ntmps20
  go_wp2_with fail
  obtain ⟨wx, hwx, hsz, B1, B2, B3, B4, hbx⟩ := boxes4 w (.bool n1) (.slice a1 l1.length c1) (.bool n2) (.slice a2 l2.length c2) (.bool false) (.slice none 0 0) (.bool false) (.slice none 0 0) 25
  rw [← hwx]
  clear hwx
  (with_reducible refine (check2 wx _ hsz n1 n2 a1 a2 l1 l2 c1 c2 (h1.mono hbx) (h2.mono hbx) m1 m2 (hE.mono hbx)).mono ?_)
  rintro e w1 ⟨⟨r, HR, HR2, rfl⟩, hb1'⟩
  obtain rfl : r = 1 := by
    rcases HR2.out with h | h
    · exact absurd (HR.out.1 h) hbad.out
    · exact h
  have B3 := B3.mono hb1'
  have B4 := B4.mono hb1'
  have hbw := Below.step hbx hb1' (Nat.le_refl _)
  clear HR HR2 h1 h2 hE hsz
  obtain ⟨p0, p1, q0, q1⟩ := B3
  obtain ⟨x0, x1, y0, y1⟩ := B4
  go_wp2
  refine bodyPost_ret (v := .tuple #[.agg #[.bool false, .slice none 0 0], .agg #[.bool false, .slice none 0 0], .int .i64 1]) (by simp [results, Tryd.results20, go_sem, p0, p1, x0, x1]) rfl ⟨rfl, Below.put2 (Below.put2 hbw (by omega) _ _) (by omega) _ _⟩

/-- Sign of any integer -/
theorem Sign_any (a : Value) (x : Int) (w : World) (ha : IntV w a x) (hE : Env w) :
    Calls Tryd.prog 21 #[a] w fun e w' => e = .returned (.int .i64 (sgnI x)) ∧ Below w.heap.size w w' := by
  obtain ⟨n1, ao1, L1, c1, rfl, Hn1, HL1, HB1, hc1, hl1, hU1⟩ := ha
  go_enter Tryd.func21, Tryd.ntmps21
  go_wp2_with fail
  have B1 := Box.new w (.bool n1) (.slice ao1 L1.length c1) 25
  have hbx := below_alloc w (.cells #[.bool n1, .slice ao1 L1.length c1] 25)
  have hUx := hU1.mono hbx
  have hEx := hE.mono hbx
  clear hU1 hE
  generalize w.alloc (.cells #[.bool n1, .slice ao1 L1.length c1] 25) = wx at *
  (with_reducible refine (valid_any n1 L1 ao1 c1 wx ?_ hUx hEx).mono ?_)
  · omega
  rintro e w1 ⟨⟨q, HQ, rfl⟩, hb1⟩
  obtain rfl : q = true := HQ.out.2 (validP_of x n1 L1 Hn1.out HL1.out HB1.out)
  clear HQ
  have hV : IntV w1 (.agg #[.bool n1, .slice ao1 L1.length c1]) x := ⟨n1, ao1, L1, c1, rfl, Hn1, HL1, HB1, hc1, hl1, hUx.mono hb1⟩
  obtain ⟨p0, p1, _, _⟩ := B1.mono hb1
  have hbw := Below.step hbx hb1 (Nat.le_refl _)
  clear hUx hEx
  go_wp2_with fail
  (with_reducible refine (sign_any _ x w1 hV).mono ?_)
  rintro e w2 ⟨rfl, hb2⟩
  go_wp2
  go_ret
  exact ⟨rfl, Below.step hbw hb2 (Nat.le_refl _)⟩

theorem Sign_inv (n1 : Bool) (l1 : List Nat) (a1 : Option Addr) (c1 : Nat) (w : World) (h1 : U w a1 l1) (m1 : l1.length ≤ 1000000000) (hbad : Hid (¬ validP n1 l1)) (hE : Env w) :
    Calls Tryd.prog 21 #[.agg #[.bool n1, .slice a1 l1.length c1]] w fun e w' => e = .returned (.int .i64 0) ∧ Below w.heap.size w w' := by
  go_enter Tryd.func21, Tryd.ntmps21
  go_wp2_with fail
  have hbx := below_alloc w (.cells #[.bool n1, .slice a1 l1.length c1] 25)
  have hUx := h1.mono hbx
  have hEx := hE.mono hbx
  clear h1 hE
  generalize w.alloc (.cells #[.bool n1, .slice a1 l1.length c1] 25) = wx at *
  (with_reducible refine (valid_any n1 l1 a1 c1 wx m1 hUx hEx).mono ?_)
  rintro e w1 ⟨⟨q, HQ, rfl⟩, hb1⟩
  obtain rfl : q = false := by
    cases q with
    | false => rfl
    | true => exact absurd (HQ.out.1 rfl) hbad.out
  clear HQ
  go_wp2
  go_ret
  exact ⟨rfl, Below.step hbx hb1 (Nat.le_refl _)⟩

theorem Cmp_inv (n1 n2 : Bool) (l1 l2 : List Nat) (a1 a2 : Option Addr) (c1 c2 : Nat) (w : World) (h1 : U w a1 l1) (h2 : U w a2 l2) (m1 : l1.length ≤ 1000000000) (m2 : l2.length ≤ 1000000000) (hbad : Hid (¬ (validP n1 l1 ∧ validP n2 l2))) (hE : Env w) :
    Calls Tryd.prog 25 #[.agg #[.bool n1, .slice a1 l1.length c1], .agg #[.bool n2, .slice a2 l2.length c2]] w fun e w' => e = .returned (.int .i64 0) ∧ Below w.heap.size w w' := by
  go_enter Tryd.func25, Tryd.ntmps25
  go_wp2_with fail
  obtain ⟨wx, hwx, hsz, B1, B2, hbx⟩ := boxes2 w (.bool n1) (.slice a1 l1.length c1) (.bool n2) (.slice a2 l2.length c2) 25
  rw [← hwx]
  clear hwx
  (with_reducible refine (check2 wx _ hsz n1 n2 a1 a2 l1 l2 c1 c2 (h1.mono hbx) (h2.mono hbx) m1 m2 (hE.mono hbx)).mono ?_)
  rintro e w1 ⟨⟨r, HR, HR2, rfl⟩, hb1'⟩
  obtain rfl : r = 1 := by
    rcases HR2.out with h | h
    · exact absurd (HR.out.1 h) hbad.out
    · exact h
  clear HR HR2 h1 h2 hE hsz
  go_wp2
  go_ret
  exact ⟨rfl, Below.step hbx hb1' (Nat.le_refl _)⟩

theorem Small_inv (n1 : Bool) (l1 : List Nat) (a1 : Option Addr) (c1 : Nat) (w : World) (h1 : U w a1 l1) (m1 : l1.length ≤ 1000000000) (hbad : Hid (¬ validP n1 l1)) (hE : Env w) :
    Calls Tryd.prog 27 #[.agg #[.bool n1, .slice a1 l1.length c1]] w fun e w' => e = .returned (.tuple #[.int .i64 0, .int .i64 1]) ∧ Below w.heap.size w w' := by
  go_enter Tryd.func27, Tryd.ntmps27
  go_wp2_with fail
  have hbx := below_alloc w (.cells #[.bool n1, .slice a1 l1.length c1] 25)
  have hsz : (w.alloc (.cells #[.bool n1, .slice a1 l1.length c1] 25)).heap.size = w.heap.size + 1 := by simp
  have hUx := h1.mono hbx
  have hEx := hE.mono hbx
  clear h1 hE
  generalize w.alloc (.cells #[.bool n1, .slice a1 l1.length c1] 25) = wx at *
  (with_reducible refine (check1 wx _ hsz n1 a1 l1 c1 hUx m1 hEx).mono ?_)
  rintro e w1 ⟨⟨r, HR, HR2, rfl⟩, hb1'⟩
  obtain rfl : r = 1 := by
    rcases HR2.out with h | h
    · exact absurd (HR.out.1 h) hbad.out
    · exact h
  clear HR HR2 hUx hEx hsz
  go_wp2
  go_ret2
  exact ⟨rfl, Below.step hbx hb1' (Nat.le_refl _)⟩

end Go.Proofs.YtijjagofingpdaaDoor
