import Derived.Test.YtijjagofingpdaaGreatDoorCheck
namespace Go.Proofs.YtijjagofingpdaaGreatDoor
open Go.RowKit

/-- an integer, read raw -/
def RawV (w : World) (v : Value) (x : Bool × List Nat) : Prop := ∃ ao cap, v = .agg #[.bool x.1, .slice ao x.2.length cap] ∧ U w ao x.2 ∧ x.2.length ≤ 1000000000

theorem RawV.mono {w w' : World} {v : Value} {x : Bool × List Nat} (h : RawV w v x) (hb : Below w.heap.size w w') : RawV w' v x := by
  obtain ⟨ao, cap, e, h1, h2⟩ := h
  exact ⟨ao, cap, e, h1.mono hb, h2⟩

theorem IntV.raw {w : World} {v : Value} {z : Int} (h : IntV w v z) : RawV w v (decide (z < 0), Bi.limbs z.natAbs) := by
  obtain ⟨n, ao, L, c, e, h1, h2, h3, h4, h5, h6⟩ := h
  obtain rfl := h1.out
  obtain rfl := h2.out
  exact ⟨ao, c, e, h6, by simp only; omega⟩

theorem check2 (w : World) (g : Nat) (hg : w.heap.size = g) (n1 n2 : Bool) (a1 a2 : Option Addr) (l1 l2 : List Nat) (c1 c2 : Nat) (h1 : U w a1 l1) (h2 : U w a2 l2) (m1 : l1.length ≤ 1000000000) (m2 : l2.length ≤ 1000000000) (hE : Env w) :
    Calls Tryz.prog 24 #[.slice (some ⟨g, 0, none⟩) 2 2] (w.alloc (.cells #[.bool n1, .slice a1 l1.length c1, .bool n2, .slice a2 l2.length c2] 25)) fun e w' =>
      (∃ r : Int, Hid (r = 0 ↔ validP n1 l1 ∧ validP n2 l2) ∧ Hid (r = 0 ∨ r = 1) ∧ e = .returned (.int .i64 r)) ∧ Below w.heap.size w w' := by
  subst hg
  refine (check_any [(n1, l1), (n2, l2)] _ 2 _ (by simp) (Raws.two w n1 n2 a1 a2 l1 l2 c1 c2 25 h1 h2 m1 m2) (hE.mono (below_alloc _ _))).mono ?_
  rintro e w1 ⟨⟨r, HR, HR2, he⟩, hb1⟩
  refine ⟨⟨r, Lib.hid ?_, HR2, he⟩, (below_alloc w _).trans (hb1.mono (below_alloc w _).size)⟩
  rw [HR.out]; simp

theorem check1 (w : World) (g : Nat) (hg : w.heap.size = g) (n1 : Bool) (a1 : Option Addr) (l1 : List Nat) (c1 : Nat) (h1 : U w a1 l1) (m1 : l1.length ≤ 1000000000) (hE : Env w) :
    Calls Tryz.prog 24 #[.slice (some ⟨g, 0, none⟩) 1 1] (w.alloc (.cells #[.bool n1, .slice a1 l1.length c1] 25)) fun e w' =>
      (∃ r : Int, Hid (r = 0 ↔ validP n1 l1) ∧ Hid (r = 0 ∨ r = 1) ∧ e = .returned (.int .i64 r)) ∧ Below w.heap.size w w' := by
  subst hg
  refine (check_any [(n1, l1)] _ 1 _ (by simp) (Raws.one w n1 a1 l1 c1 25 h1 m1) (hE.mono (below_alloc _ _))).mono ?_
  rintro e w1 ⟨⟨r, HR, HR2, he⟩, hb1⟩
  refine ⟨⟨r, Lib.hid ?_, HR2, he⟩, (below_alloc w _).trans (hb1.mono (below_alloc w _).size)⟩
  rw [HR.out]; simp

set_option maxHeartbeats 800000 in
theorem Add_any (a b : Value) (x y : Int) (w : World) (ha : IntV w a x) (hb : IntV w b y) (hE : Env w) :
    Calls Tryz.prog 16 #[a, b] w fun e w' => ResZ w' (x + y) e ∧ Below w.heap.size w w' := by
  obtain ⟨n1, ao1, L1, c1, rfl, Hn1, HL1, HB1, hc1, hl1, hU1⟩ := ha
  obtain ⟨n2, ao2, L2, c2, rfl, Hn2, HL2, HB2, hc2, hl2, hU2⟩ := hb
  go_enter Tryz.func16, Tryz.ntmps16
  go_wp2_with fail
  obtain ⟨wx, hwx, hsz, B1, B2, B3, hbx⟩ := boxes3 w (.bool n1) (.slice ao1 L1.length c1) (.bool n2) (.slice ao2 L2.length c2) (.bool false) (.slice none 0 0) 25
  rw [← hwx]
  clear hwx
  (with_reducible refine (check2 wx _ hsz n1 n2 ao1 ao2 L1 L2 c1 c2 (hU1.mono hbx) (hU2.mono hbx) ?_ ?_ (hE.mono hbx)).mono ?_)
  · omega
  · omega
  rintro e w1 ⟨⟨r, HR, HR2, rfl⟩, hb1'⟩
  obtain rfl : r = 0 := HR.out.2 ⟨validP_of x n1 L1 Hn1.out HL1.out HB1.out, validP_of y n2 L2 Hn2.out HL2.out HB2.out⟩
  clear HR HR2
  have B1 := B1.mono hb1'
  have B2 := B2.mono hb1'
  have B3 := B3.mono hb1'
  have hbw := Below.step hbx hb1' (Nat.le_refl _)
  have hV1 : IntV w1 (.agg #[.bool n1, .slice ao1 L1.length c1]) x := ⟨n1, ao1, L1, c1, rfl, Hn1, HL1, HB1, hc1, hl1, hU1.mono hbw⟩
  have hV2 : IntV w1 (.agg #[.bool n2, .slice ao2 L2.length c2]) y := ⟨n2, ao2, L2, c2, rfl, Hn2, HL2, HB2, hc2, hl2, hU2.mono hbw⟩
  have hE1 := hE.mono hbw
  clear hU1 hU2 hE hsz
  obtain ⟨a0, a1, _, _⟩ := B1
  obtain ⟨b0, b1, _, _⟩ := B2
  go_wp2_with fail
  (with_reducible refine (add_any _ _ x y w1 hV1 hV2 hE1).mono ?_)
  rintro e w2 ⟨⟨ng, ao3, n3, cap3, k3, rfl, HR⟩, hb2⟩
  obtain ⟨p0, p1, q0, q1⟩ := B3.mono hb2
  go_wp2
  refine bodyPost_ret (v := .tuple #[.agg #[.bool ng, .slice ao3 n3 cap3], .int .i64 k3]) (by simp [results, Tryz.results16, go_sem, p0, p1]) rfl ⟨⟨ng, ao3, n3, cap3, k3, rfl, Lib.hid (HR.out.put2 p0 p1 _ _)⟩, ?_⟩
  exact Below.put2 (Below.step hbw hb2 (Nat.le_refl _)) (by omega) _ _

end Go.Proofs.YtijjagofingpdaaGreatDoor
