import Derived.Test.YtijjagofingpdaaGreatDoorMake
import Derived.Deep.RegionHeld3
namespace Go.Proofs.YtijjagofingpdaaGreatDoor
open Go.RowKit

/-- a box of two cells -/
structure Box (w : World) (n : Nat) (x y : Value) : Prop where
  c0 : w.cell? ⟨n, 0, none⟩ = some x
  c1 : w.cell? ⟨n, 1, none⟩ = some y
  f0 : w.frozen? ⟨n, 0, none⟩ = false
  f1 : w.frozen? ⟨n, 1, none⟩ = false

theorem Box.lt {w : World} {n : Nat} {x y : Value} (h : Box w n x y) : n < w.heap.size := cell_lt h.c0

theorem Box.mono {w w' : World} {n : Nat} {x y : Value} (h : Box w n x y) (hb : Below w.heap.size w w') : Box w' n x y :=
  ⟨(hb.cell (p := ⟨n, 0, none⟩) h.lt).trans h.c0, (hb.cell (p := ⟨n, 1, none⟩) h.lt).trans h.c1, (hb.frozen (p := ⟨n, 0, none⟩) h.lt).trans h.f0, (hb.frozen (p := ⟨n, 1, none⟩) h.lt).trans h.f1⟩

theorem Box.new (w : World) (x y : Value) (t : TypeId) : Box (w.alloc (.cells #[x, y] t)) w.heap.size x y := ⟨by simp [go_sem], by simp [go_sem], by simp [go_sem], by simp [go_sem]⟩

theorem below_alloc (w : World) (o : Obj) : Below w.heap.size w (w.alloc o) := (Below.refl _ _).alloc (Nat.le_refl _) o

/-- three boxes -/
theorem boxes3 (w : World) (a b c d x y : Value) (t : TypeId) : ∃ wx, wx = ((w.alloc (.cells #[a, b] t)).alloc (.cells #[c, d] t)).alloc (.cells #[x, y] t) ∧ wx.heap.size = w.heap.size + 1 + 1 + 1 ∧
    Box wx w.heap.size a b ∧ Box wx (w.heap.size + 1) c d ∧ Box wx (w.heap.size + 1 + 1) x y ∧ Below w.heap.size w wx := by
  refine ⟨_, rfl, by simp, ?_, ?_, ?_, ?_⟩
  · exact ((Box.new w a b t).mono (below_alloc _ _)).mono (below_alloc _ _)
  · have := (Box.new (w.alloc (.cells #[a, b] t)) c d t).mono (below_alloc _ (.cells #[x, y] t))
    simpa using this
  · have := Box.new ((w.alloc (.cells #[a, b] t)).alloc (.cells #[c, d] t)) x y t
    simpa using this
  · exact (((Below.refl _ _).alloc (Nat.le_refl _) _).alloc (by simp) _).alloc (by simp; omega) _

theorem U.put {w : World} {p : Addr} {x v : Value} {ao : Option Addr} {l : List Nat} (hp : w.cell? p = some x) (hx : ∀ n, x ≠ .int .u32 n) (hU : U w ao l) : U (w.setCell p v) ao l := by
  intro i h
  obtain ⟨b, off, e, hc⟩ := hU i h
  refine ⟨b, off, e, ?_⟩
  rw [World.cell?_setCell_other w p ⟨b, off + i, none⟩ v (fun h => by rw [h, hc] at hp; exact hx _ (Option.some.inj hp).symm)]
  exact hc

theorem IntV.put {w : World} {p : Addr} {x v u : Value} {z : Int} (hp : w.cell? p = some x) (hx : ∀ n, x ≠ .int .u32 n) (h : IntV w u z) : IntV (w.setCell p v) u z := by
  obtain ⟨neg, ao, L, cap, e, h1, h2, h3, h4, h5, h6⟩ := h
  exact ⟨neg, ao, L, cap, e, h1, h2, h3, h4, h5, h6.put hp hx⟩

theorem IntV.put2 {w : World} {n c d : Nat} {b : Bool} {s : Option Addr} {u : Value} {z : Int} (p0 : w.cell? ⟨n, 0, none⟩ = some (.bool b)) (p1 : w.cell? ⟨n, 1, none⟩ = some (.slice s c d)) (h : IntV w u z) (x y : Value) :
    IntV ((w.setCell ⟨n, 0, none⟩ x).setCell ⟨n, 1, none⟩ y) u z :=
  IntV.put (x := .slice s c d) (by rw [World.cell?_setCell_other _ _ _ _ (by simp)]; exact p1) (by simp) (IntV.put p0 (by simp) h)

theorem ResK.put2 {w : World} {n c d : Nat} {b : Bool} {s : Option Addr} {u : Value} {z k : Int} (p0 : w.cell? ⟨n, 0, none⟩ = some (.bool b)) (p1 : w.cell? ⟨n, 1, none⟩ = some (.slice s c d)) (h : ResK w z u k) (x y : Value) :
    ResK ((w.setCell ⟨n, 0, none⟩ x).setCell ⟨n, 1, none⟩ y) z u k :=
  h.imp (fun ⟨a, b, c⟩ => ⟨a, b, c.put2 p0 p1 x y⟩) id

theorem Below.put2 {B : Nat} {w w' : World} {n : Nat} (h : Below B w w') (hn : B ≤ n) (x y : Value) : Below B w ((w'.setCell ⟨n, 0, none⟩ x).setCell ⟨n, 1, none⟩ y) :=
  (h.setCell hn _).setCell hn _

set_option maxHeartbeats 1600000 in
theorem add_same (n : Bool) (ao1 ao2 : Option Addr) (L1 L2 : List Nat) (c1 c2 : Nat) (w : World) (Ho1 : Hid (Bi.Ok L1)) (Ho2 : Hid (Bi.Ok L2)) (hl1 : L1.length ≤ 34) (hl2 : L2.length ≤ 34)
    (hU1 : U w ao1 L1) (hU2 : U w ao2 L2) (hE : Env w) :
    Calls Tryz.prog 38 #[.agg #[.bool n, .slice ao1 L1.length c1], .agg #[.bool n, .slice ao2 L2.length c2]] w fun e w' => ResZ w' (sgn n (Bi.val L1 + Bi.val L2)) e ∧ Below w.heap.size w w' := by
  have hnn : (n == n) = true := by simp
  go_enter Tryz.func38, Tryz.ntmps38
  go_wp2_with fail
  obtain ⟨wx, hwx, hsz, B1, B2, B3, hbx⟩ := boxes3 w (.bool n) (.slice ao1 L1.length c1) (.bool n) (.slice ao2 L2.length c2) (.bool false) (.slice none 0 0) 25
  rw [← hwx]
  clear hwx
  have hbd : Below w.heap.size w wx.drew := hbx.drew
  have hX1 := hU1.mono hbd
  have hX2 := hU2.mono hbd
  have hEx := hE.mono hbd
  have B3 := B3.mono ((Below.refl wx.heap.size wx).drew)
  clear hU1 hU2 hE
  have B1 := B1.mono ((Below.refl wx.heap.size wx).drew)
  have B2 := B2.mono ((Below.refl wx.heap.size wx).drew)
  go_region_held3 (fun w' => w'.cell? ⟨w.heap.size, 0, none⟩ = some (.bool n) ∧ w'.cell? ⟨w.heap.size, 1, none⟩ = some (.slice ao1 L1.length c1) ∧ w'.cell? ⟨w.heap.size + 1, 1, none⟩ = some (.slice ao2 L2.length c2)) (first | (with_reducible exact ⟨B1.c0, B1.c1, B2.c1⟩) | (with_reducible exact ⟨A1.c0, A1.c1, A2.c1⟩) | (with_reducible exact ⟨C1.c0, C1.c1, C2.c1⟩) | (simp [C1.c0, C1.c1, C2.c1, go_sem]; done))
    (first
      | (go_at_call 66; ((with_reducible refine (plus_any L1 L2 _ _ _ _ _ ?_ ?_ Ho1.out Ho2.out hX1 hX2).mono ?_); (omega); (omega)); rintro e w1 ⟨ao, L, cap, rfl, hcap, hoL, hvL, hlL, hUL, hb1⟩; have HV := Lib.hid hvL; clear hvL; have A1 := B1.mono hb1; have A2 := B2.mono hb1; have A3 := B3.mono hb1)
      | (go_at_call 33; refine (result_any n _ _ _ _ (by omega) hcap hUL (Lib.hid hoL) (hEx.mono hb1)).mono ?_; rintro e w2 ⟨⟨ng, ao3, n3, cap3, k3, rfl, HR⟩, hb2⟩; have C1 := A1.mono hb2; have C2 := A2.mono hb2; obtain ⟨p0, p1, q0, q1⟩ := A3.mono hb2))
  go_wp2
  refine bodyPost_ret (v := .tuple #[.agg #[.bool ng, .slice ao3 n3 cap3], .int .i64 k3]) (by simp [results, Tryz.results38, go_sem, p0, p1]) rfl ⟨⟨ng, ao3, n3, cap3, k3, rfl, Lib.hid ?_⟩, ?_⟩
  · have := HR.out.put2 p0 p1 (.bool ng) (.slice ao3 n3 cap3)
    rw [HV.out] at this
    exact this
  · exact Below.put2 (hbd.trans ((hb1.mono hbd.size).trans (hb2.mono (Nat.le_trans hbd.size hb1.size)))) (by omega) _ _

theorem minus_val (n1 n2 : Bool) (v1 v2 : Nat) (h : n1 ≠ n2) (hle : v2 ≤ v1) : sgn n1 (v1 - v2) = sgn n1 v1 + sgn n2 v2 := by
  unfold sgn
  cases n1 <;> cases n2 <;> simp_all <;> omega

set_option maxHeartbeats 1600000 in
theorem add_ge (n1 n2 : Bool) (hnn : (n1 == n2) = false) (m1 m2 : Nat) (hle : Hid (m2 ≤ m1)) (ao1 ao2 : Option Addr) (L1 L2 : List Nat) (c1 c2 : Nat) (w : World) (HL1 : Hid (L1 = Bi.limbs m1)) (HL2 : Hid (L2 = Bi.limbs m2)) (hl1 : L1.length ≤ 34) (hl2 : L2.length ≤ 34)
    (hU1 : U w ao1 L1) (hU2 : U w ao2 L2) (hE : Env w) :
    Calls Tryz.prog 38 #[.agg #[.bool n1, .slice ao1 L1.length c1], .agg #[.bool n2, .slice ao2 L2.length c2]] w fun e w' => ResZ w' (sgn n1 m1 + sgn n2 m2) e ∧ Below w.heap.size w w' := by
  go_enter Tryz.func38, Tryz.ntmps38
  go_wp2_with fail
  obtain ⟨wx, hwx, hsz, B1, B2, B3, hbx⟩ := boxes3 w (.bool n1) (.slice ao1 L1.length c1) (.bool n2) (.slice ao2 L2.length c2) (.bool false) (.slice none 0 0) 25
  rw [← hwx]
  clear hwx
  (with_reducible refine (compare_any m1 m2 L1 L2 HL1 HL2 ao1 ao2 c1 c2 wx ?_ ?_ (hU1.mono hbx) (hU2.mono hbx)).mono ?_)
  · omega
  · omega
  rintro e w0 ⟨rfl, hb0⟩
  have hcmp : 0 ≤ cmpN m1 m2 := by have := hle.out; unfold cmpN; rw [if_neg (by omega)]; split <;> omega
  have hb0' := Below.step hbx hb0 (Nat.le_refl _)
  have hbd : Below w.heap.size w w0.drew := hb0'.drew
  have hX1 := hU1.mono hbd
  have hX2 := hU2.mono hbd
  have hEx := hE.mono hbd
  have B1 := (B1.mono hb0).mono ((Below.refl w0.heap.size w0).drew)
  have B2 := (B2.mono hb0).mono ((Below.refl w0.heap.size w0).drew)
  have B3 := (B3.mono hb0).mono ((Below.refl w0.heap.size w0).drew)
  obtain ⟨z0, z1, _, _⟩ := B1
  obtain ⟨y0, y1, _, _⟩ := B2
  have B1 : Box w0.drew w.heap.size (.bool n1) (.slice ao1 L1.length c1) := ⟨z0, z1, ‹_›, ‹_›⟩
  have B2 : Box w0.drew (w.heap.size + 1) (.bool n2) (.slice ao2 L2.length c2) := ⟨y0, y1, ‹_›, ‹_›⟩
  have Ho1 : Hid (Bi.Ok L1) := Lib.hid (by rw [HL1.out]; exact Bi.limbs_ok _)
  have Ho2 : Hid (Bi.Ok L2) := Lib.hid (by rw [HL2.out]; exact Bi.limbs_ok _)
  have hvl : Hid (Bi.val L1 = m1 ∧ Bi.val L2 = m2) := Lib.hid (by rw [HL1.out, HL2.out, Bi.val_limbs, Bi.val_limbs]; exact ⟨rfl, rfl⟩)
  have hll : L2.length ≤ L1.length := by
    apply Nat.le_of_not_lt; intro h
    rw [HL1.out, HL2.out] at h
    have := Bi.val_lt_of_length h
    have := hle.out
    omega
  clear hU1 hU2 hE
  go_wp2_with fail
  go_region_held3 (fun w' => w'.cell? ⟨w.heap.size, 0, none⟩ = some (.bool n1) ∧ w'.cell? ⟨w.heap.size, 1, none⟩ = some (.slice ao1 L1.length c1) ∧ w'.cell? ⟨w.heap.size + 1, 1, none⟩ = some (.slice ao2 L2.length c2)) (first | (with_reducible exact ⟨B1.c0, B1.c1, B2.c1⟩) | (with_reducible exact ⟨AB1.c0, AB1.c1, AB2.c1⟩) | (with_reducible exact ⟨CB1.c0, CB1.c1, CB2.c1⟩) | (simp [CB1.c0, CB1.c1, CB2.c1, go_sem]; done))
    (first
      | (go_at_call 67; ((with_reducible refine (minus_any L1 L2 _ _ _ _ _ ?_ hll (Lib.hid ?_) Ho1.out Ho2.out hX1 hX2).mono ?_); (omega); (rw [hvl.out.1, hvl.out.2]; have := hle.out; omega)); rintro e w1 ⟨ao, L, cap, hL, rfl, hcap, hlL, hUL, hb1⟩; have HL := Lib.hid hL; clear hL; have AB1 := B1.mono hb1; have AB2 := B2.mono hb1; have A3 := B3.mono hb1)
      | (go_at_call 33; ((with_reducible refine (result_any n1 _ _ _ _ ?_ hcap hUL (Lib.hid ?_) (hEx.mono hb1)).mono ?_); (omega); (rw [HL.out]; exact Bi.limbs_ok _)); rintro e w2 ⟨⟨ng, ao3, n3, cap3, k3, rfl, HR⟩, hb2⟩; have CB1 := AB1.mono hb2; have CB2 := AB2.mono hb2; obtain ⟨p0, p1, q0, q1⟩ := A3.mono hb2))
  go_wp2
  refine bodyPost_ret (v := .tuple #[.agg #[.bool ng, .slice ao3 n3 cap3], .int .i64 k3]) (by simp [results, Tryz.results38, go_sem, p0, p1]) rfl ⟨⟨ng, ao3, n3, cap3, k3, rfl, Lib.hid ?_⟩, ?_⟩
  · have := HR.out.put2 p0 p1 (.bool ng) (.slice ao3 n3 cap3)
    rw [HL.out, Bi.val_limbs, hvl.out.1, hvl.out.2] at this
    have h3 := hle.out
    have h4 : sgn n1 (m1 - m2) = sgn n1 m1 + sgn n2 m2 := by
      exact minus_val n1 n2 m1 m2 (by rintro rfl; simp at hnn) h3
    rw [h4] at this
    exact this
  · exact Below.put2 (hbd.trans ((hb1.mono hbd.size).trans (hb2.mono (Nat.le_trans hbd.size hb1.size)))) (by omega) _ _

set_option maxHeartbeats 1600000 in
theorem add_lt (n1 n2 : Bool) (hnn : (n1 == n2) = false) (m1 m2 : Nat) (hle : Hid (m1 < m2)) (ao1 ao2 : Option Addr) (L1 L2 : List Nat) (c1 c2 : Nat) (w : World) (HL1 : Hid (L1 = Bi.limbs m1)) (HL2 : Hid (L2 = Bi.limbs m2)) (hl1 : L1.length ≤ 34) (hl2 : L2.length ≤ 34)
    (hU1 : U w ao1 L1) (hU2 : U w ao2 L2) (hE : Env w) :
    Calls Tryz.prog 38 #[.agg #[.bool n1, .slice ao1 L1.length c1], .agg #[.bool n2, .slice ao2 L2.length c2]] w fun e w' => ResZ w' (sgn n1 m1 + sgn n2 m2) e ∧ Below w.heap.size w w' := by
  go_enter Tryz.func38, Tryz.ntmps38
  go_wp2_with fail
  obtain ⟨wx, hwx, hsz, B1, B2, B3, hbx⟩ := boxes3 w (.bool n1) (.slice ao1 L1.length c1) (.bool n2) (.slice ao2 L2.length c2) (.bool false) (.slice none 0 0) 25
  rw [← hwx]
  clear hwx
  (with_reducible refine (compare_any m1 m2 L1 L2 HL1 HL2 ao1 ao2 c1 c2 wx ?_ ?_ (hU1.mono hbx) (hU2.mono hbx)).mono ?_)
  · omega
  · omega
  rintro e w0 ⟨rfl, hb0⟩
  have hcmp : cmpN m1 m2 < 0 := by have := hle.out; unfold cmpN; rw [if_pos this]; decide
  have hb0' := Below.step hbx hb0 (Nat.le_refl _)
  have hbd : Below w.heap.size w w0.drew := hb0'.drew
  have hX1 := hU1.mono hbd
  have hX2 := hU2.mono hbd
  have hEx := hE.mono hbd
  have B1 := (B1.mono hb0).mono ((Below.refl w0.heap.size w0).drew)
  have B2 := (B2.mono hb0).mono ((Below.refl w0.heap.size w0).drew)
  have B3 := (B3.mono hb0).mono ((Below.refl w0.heap.size w0).drew)
  obtain ⟨z0, z1, _, _⟩ := B1
  obtain ⟨y0, y1, _, _⟩ := B2
  have B1 : Box w0.drew w.heap.size (.bool n1) (.slice ao1 L1.length c1) := ⟨z0, z1, ‹_›, ‹_›⟩
  have B2 : Box w0.drew (w.heap.size + 1) (.bool n2) (.slice ao2 L2.length c2) := ⟨y0, y1, ‹_›, ‹_›⟩
  have Ho1 : Hid (Bi.Ok L1) := Lib.hid (by rw [HL1.out]; exact Bi.limbs_ok _)
  have Ho2 : Hid (Bi.Ok L2) := Lib.hid (by rw [HL2.out]; exact Bi.limbs_ok _)
  have hvl : Hid (Bi.val L1 = m1 ∧ Bi.val L2 = m2) := Lib.hid (by rw [HL1.out, HL2.out, Bi.val_limbs, Bi.val_limbs]; exact ⟨rfl, rfl⟩)
  have hll : L1.length ≤ L2.length := by
    apply Nat.le_of_not_lt; intro h
    rw [HL1.out, HL2.out] at h
    have := Bi.val_lt_of_length h
    have := hle.out
    omega
  clear hU1 hU2 hE
  go_wp2_with fail
  go_region_held3 (fun w' => w'.cell? ⟨w.heap.size + 1, 0, none⟩ = some (.bool n2) ∧ w'.cell? ⟨w.heap.size + 1, 1, none⟩ = some (.slice ao2 L2.length c2) ∧ w'.cell? ⟨w.heap.size, 1, none⟩ = some (.slice ao1 L1.length c1)) (first | (with_reducible exact ⟨B2.c0, B2.c1, B1.c1⟩) | (with_reducible exact ⟨AB2.c0, AB2.c1, AB1.c1⟩) | (with_reducible exact ⟨CB2.c0, CB2.c1, CB1.c1⟩) | (simp [CB2.c0, CB2.c1, CB1.c1, go_sem]; done))
    (first
      | (go_at_call 67; ((with_reducible refine (minus_any L2 L1 _ _ _ _ _ ?_ hll (Lib.hid ?_) Ho2.out Ho1.out hX2 hX1).mono ?_); (omega); (rw [hvl.out.1, hvl.out.2]; have := hle.out; omega)); rintro e w1 ⟨ao, L, cap, hL, rfl, hcap, hlL, hUL, hb1⟩; have HL := Lib.hid hL; clear hL; have AB1 := B1.mono hb1; have AB2 := B2.mono hb1; have A3 := B3.mono hb1)
      | (go_at_call 33; ((with_reducible refine (result_any n2 _ _ _ _ ?_ hcap hUL (Lib.hid ?_) (hEx.mono hb1)).mono ?_); (omega); (rw [HL.out]; exact Bi.limbs_ok _)); rintro e w2 ⟨⟨ng, ao3, n3, cap3, k3, rfl, HR⟩, hb2⟩; have CB1 := AB1.mono hb2; have CB2 := AB2.mono hb2; obtain ⟨p0, p1, q0, q1⟩ := A3.mono hb2))
  go_wp2
  refine bodyPost_ret (v := .tuple #[.agg #[.bool ng, .slice ao3 n3 cap3], .int .i64 k3]) (by simp [results, Tryz.results38, go_sem, p0, p1]) rfl ⟨⟨ng, ao3, n3, cap3, k3, rfl, Lib.hid ?_⟩, ?_⟩
  · have := HR.out.put2 p0 p1 (.bool ng) (.slice ao3 n3 cap3)
    rw [HL.out, Bi.val_limbs, hvl.out.1, hvl.out.2] at this
    have h3 := hle.out
    have h4 : sgn n2 (m2 - m1) = sgn n1 m1 + sgn n2 m2 := by
      rw [Int.add_comm]; exact minus_val n2 n1 m2 m1 (by rintro rfl; simp at hnn) (by omega)
    rw [h4] at this
    exact this
  · exact Below.put2 (hbd.trans ((hb1.mono hbd.size).trans (hb2.mono (Nat.le_trans hbd.size hb1.size)))) (by omega) _ _

theorem sgn_of (z : Int) (n : Bool) (h : n = decide (z < 0)) : sgn n z.natAbs = z := by
  subst h; unfold sgn
  by_cases h : z < 0
  · simp [h]; omega
  · simp [h]; omega

theorem sgn_add (n : Bool) (a b : Nat) : sgn n (a + b) = sgn n a + sgn n b := by unfold sgn; cases n <;> simp <;> omega

theorem add_any (a b : Value) (x y : Int) (w : World) (ha : IntV w a x) (hb : IntV w b y) (hE : Env w) :
    Calls Tryz.prog 38 #[a, b] w fun e w' => ResZ w' (x + y) e ∧ Below w.heap.size w w' := by
  obtain ⟨n1, ao1, L1, c1, rfl, Hn1, HL1, HB1, hc1, hl1, hU1⟩ := ha
  obtain ⟨n2, ao2, L2, c2, rfl, Hn2, HL2, HB2, hc2, hl2, hU2⟩ := hb
  have e1 := sgn_of x n1 Hn1.out
  have e2 := sgn_of y n2 Hn2.out
  have hv1 : Bi.val L1 = x.natAbs := by rw [HL1.out, Bi.val_limbs]
  have hv2 : Bi.val L2 = y.natAbs := by rw [HL2.out, Bi.val_limbs]
  by_cases hn : n1 = n2
  · subst hn
    have := add_same n1 ao1 ao2 L1 L2 c1 c2 w (Lib.hid (by rw [HL1.out]; exact Bi.limbs_ok _)) (Lib.hid (by rw [HL2.out]; exact Bi.limbs_ok _)) hl1 hl2 hU1 hU2 hE
    rwa [hv1, hv2, sgn_add, e1, e2] at this
  · have hnn : (n1 == n2) = false := by simpa using hn
    rcases Nat.lt_or_ge x.natAbs y.natAbs with h | h
    · have := add_lt n1 n2 hnn x.natAbs y.natAbs (Lib.hid h) ao1 ao2 L1 L2 c1 c2 w HL1 HL2 hl1 hl2 hU1 hU2 hE
      rwa [e1, e2] at this
    · have := add_ge n1 n2 hnn x.natAbs y.natAbs (Lib.hid h) ao1 ao2 L1 L2 c1 c2 w HL1 HL2 hl1 hl2 hU1 hU2 hE
      rwa [e1, e2] at this

end Go.Proofs.YtijjagofingpdaaGreatDoor
