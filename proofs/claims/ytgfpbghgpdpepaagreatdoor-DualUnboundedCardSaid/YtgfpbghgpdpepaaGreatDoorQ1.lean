/-
  Fractions in lowest terms, plain: the ways of the program and of the reference to them are those of Rat.
-/
import Derived.Test.YtgfpbghgpdpepaaGreatDoorI2
import Derived.Test.YtgfpbghgpdpepaaGreatDoorI9
import Derived.RegionTactic
import Derived.BigRegion
namespace Rq
def Sm (z : Int) : Prop := z.natAbs < Bi.Big
theorem sm_neg {z : Int} (h : z.natAbs < Bi.Big) : Sm (0 - z) := by unfold Sm; rw [Int.zero_sub, Int.natAbs_neg]; exact h
def gS (p q : Int) : Int := if q < 0 then 0 - (Int.gcd p q : Int) else Int.gcd p q
theorem gcd_pos {p q : Int} (hq : q ≠ 0) : 0 < (Int.gcd p q : Int) := by
 have := Int.gcd_pos_of_ne_zero_right p hq;omega
theorem num_of {p q : Int} (hq : q ≠ 0) : p.tdiv (gS p q) = (Rat.divInt p q).num := by
 have hd : (Int.gcd p q : Int) ∣ p := Int.gcd_dvd_left p q;have hg := gcd_pos (p := p) hq;rw [Rat.num_divInt, Int.gcd_comm q p];unfold gS
 split
 ·rename_i h
  rw [Int.sign_eq_neg_one_of_neg h, Int.zero_sub, Int.tdiv_neg, Int.tdiv_eq_ediv_of_dvd hd, Int.neg_mul, Int.one_mul, Int.neg_ediv_of_dvd hd]
 ·rename_i h
  rw [Int.sign_eq_one_of_pos (by omega), Int.one_mul, Int.tdiv_eq_ediv_of_dvd hd]
theorem den_of {p q : Int} (hq : q ≠ 0) : q.tdiv (gS p q) = ((Rat.divInt p q).den : Int) := by
 have hd : (Int.gcd p q : Int) ∣ q := Int.gcd_dvd_right p q;rw [Rat.den_divInt, if_neg hq, Int.gcd_comm q p];unfold gS;rw [Int.natCast_ediv]
 split
 ·rename_i h
  rw [Int.zero_sub, Int.tdiv_neg, Int.tdiv_eq_ediv_of_dvd hd, show ((q.natAbs : Nat) : Int) = -q by omega, Int.neg_ediv_of_dvd hd]
 ·rename_i h
  rw [Int.tdiv_eq_ediv_of_dvd hd, show ((q.natAbs : Nat) : Int) = q by omega]
theorem rnum_of {p q : Int} (hq : q < 0) : (-p).tdiv (Int.gcd (-p) (-q) : Int) = (Rat.divInt p q).num := by
 rw [← Rat.neg_divInt_neg, ← num_of (by omega)];unfold gS;rw [if_neg (by omega)]
theorem rden_of {p q : Int} (hq : q < 0) : (-q).tdiv (Int.gcd (-p) (-q) : Int) = ((Rat.divInt p q).den : Int) := by
 rw [← Rat.neg_divInt_neg, ← den_of (by omega)];unfold gS;rw [if_neg (by omega)]
theorem num_pos {p q : Int} (hq : 0 < q) : p.tdiv (Int.gcd p q : Int) = (Rat.divInt p q).num := by
 rw [← num_of (by omega)]; unfold gS; rw [if_neg (by omega)]
theorem den_pos {p q : Int} (hq : 0 < q) : q.tdiv (Int.gcd p q : Int) = ((Rat.divInt p q).den : Int) := by
 rw [← den_of (by omega)]; unfold gS; rw [if_neg (by omega)]
def VP (p d : Int) : Prop := 0 < d ∧ Int.gcd p d = 1
theorem VP.rat {p d : Int} (h : VP p d) : ∃ r : Rat, r.num = p ∧ (r.den : Int) = d := by
 obtain ⟨h1, h2⟩ := h;refine ⟨⟨p, d.natAbs, by omega, ?_⟩, rfl, by simp only; omega⟩;unfold Nat.Coprime;exact h2
theorem vp_rat (r : Rat) : VP r.num (r.den : Int) := by
 refine ⟨by have := r.den_pos; omega, ?_⟩;have := r.reduced;unfold Nat.Coprime at this
 simpa [Int.gcd] using this
theorem den_ne (r : Rat) : ((r.den : Nat) : Int) ≠ 0 := by have := r.den_pos; omega
theorem den_gt (r : Rat) : 0 < ((r.den : Nat) : Int) := by have := r.den_pos; omega
theorem add_eq (a b : Rat) : Rat.divInt (a.num * b.den + b.num * a.den) (a.den * b.den) = a + b := by
 rw [Rat.add_def', ← Rat.divInt_ofNat, Int.natCast_mul]
theorem sub_eq (a b : Rat) : Rat.divInt (a.num * b.den - b.num * a.den) (a.den * b.den) = a - b := by
 rw [Rat.sub_def', ← Rat.divInt_ofNat, Int.natCast_mul]
theorem mul_eq (a b : Rat) : Rat.divInt (a.num * b.num) (a.den * b.den) = a * b := by
 rw [Rat.mul_def', ← Rat.divInt_ofNat, Int.natCast_mul]
def cmpQ (a b : Rat) : Int := if a < b then -1 else if b < a then 1 else 0
theorem cmp_eq (a b : Rat) : (if a.num * b.den < b.num * a.den then (-1 : Int) else if b.num * a.den < a.num * b.den then 1 else 0) = cmpQ a b := by
 unfold cmpQ;simp only [Rat.lt_iff]
end Rq
namespace Go.Proofs.YtgfpbghgpdpepaaGreatDoor
open Go.RowKit
theorem valid_parts {neg : Bool} {l : List Nat} (hv : validP neg l) : ∃ z : Int, neg = decide (z < 0) ∧ l = Bi.limbs z.natAbs ∧ z.natAbs < Bi.Big ∧ l.length ≤ 34 := by
 unfold validP at hv
 by_cases h0 : l = []
 ·rw [if_pos h0] at hv;subst h0 hv;exact ⟨0, rfl, rfl, big_small (by decide), by simp⟩
 ·rw [if_neg h0] at hv;obtain ⟨h1, h2, h3⟩ := hv;have hL : l = Bi.limbs (Bi.val l) := (Bi.canon_limbs h1 h2).symm;have hne : Bi.val l ≠ 0 := by
   intro h; rw [h] at hL; exact h0 hL
  refine ⟨sgn neg (Bi.val l), ?_, by rw [sgn_natAbs]; exact hL, by rw [sgn_natAbs]; exact h3, ?_⟩
  ·unfold sgn; cases neg
   ·simp
   ·simp; omega
  ·rw [hL]; exact limbs_len34 h3
theorem valid_yes (neg : Bool) (l : List Nat) (ao : Option Addr) (cap : Nat) (w : World) (hm : l.length ≤ 1000000000) (hv : Hid (validP neg l)) (hU : U w ao l) (hE : Env w) :
  Calls Tryz.prog 155 #[.agg #[.bool neg, .slice ao l.length cap]] w fun e w' => e = .returned (.bool true) ∧ Below w.heap.size w w' := by
 refine (valid_any neg l ao cap w hm hU hE).mono ?_;rintro e w' ⟨⟨r, HR, rfl⟩, hb⟩;refine ⟨ret_bool ?_, hb⟩;have h := HR.out;have hv := hv.out
 cases r <;> simp_all
theorem rvalid_yes (neg : Bool) (l : List Nat) (ao : Option Addr) (cap : Nat) (w : World) (hm : l.length ≤ 1000000000) (hv : Hid (validP neg l)) (hU : U w ao l) :
  Calls Tryz.prog 114 #[.agg #[.bool neg, .slice ao l.length cap]] w fun e w' => e = .returned (.bool true) ∧ Below w.heap.size w w' := by
 refine (rValid_any neg l ao cap w hm hU).mono ?_;rintro e w' ⟨⟨r, HR, rfl⟩, hb⟩;refine ⟨ret_bool ?_, hb⟩;have h := HR.out;have hv := hv.out
 cases r <;> simp_all
theorem valid_no (neg : Bool) (l : List Nat) (ao : Option Addr) (cap : Nat) (w : World) (hm : l.length ≤ 1000000000) (hv : Hid (¬ validP neg l)) (hU : U w ao l) (hE : Env w) :
  Calls Tryz.prog 155 #[.agg #[.bool neg, .slice ao l.length cap]] w fun e w' => e = .returned (.bool false) ∧ Below w.heap.size w w' := by
 refine (valid_any neg l ao cap w hm hU hE).mono ?_;rintro e w' ⟨⟨r, HR, rfl⟩, hb⟩;refine ⟨ret_bool ?_, hb⟩;have h := HR.out;have hv := hv.out
 cases r <;> simp_all
theorem rvalid_no (neg : Bool) (l : List Nat) (ao : Option Addr) (cap : Nat) (w : World) (hm : l.length ≤ 1000000000) (hv : Hid (¬ validP neg l)) (hU : U w ao l) :
  Calls Tryz.prog 114 #[.agg #[.bool neg, .slice ao l.length cap]] w fun e w' => e = .returned (.bool false) ∧ Below w.heap.size w w' := by
 refine (rValid_any neg l ao cap w hm hU).mono ?_;rintro e w' ⟨⟨r, HR, rfl⟩, hb⟩;refine ⟨ret_bool ?_, hb⟩;have h := HR.out;have hv := hv.out
 cases r <;> simp_all
theorem IntV.mk' {w : World} {neg : Bool} {ao : Option Addr} {L : List Nat} {cap : Nat} {z : Int} (h1 : Hid (neg = decide (z < 0))) (h2 : Hid (L = Bi.limbs z.natAbs)) (h3 : Hid (z.natAbs < Bi.Big)) (hc : L.length ≤ cap) (hl : L.length ≤ 34) (hU : U w ao L) :
  IntV w (.agg #[.bool neg, .slice ao L.length cap]) z := ⟨neg, ao, L, cap, rfl, h1, h2, h3, hc, hl, hU⟩
theorem rSign_raw (neg : Bool) (l : List Nat) (ao : Option Addr) (cap : Nat) (x : Int) (w : World) (Hn1 : Hid (neg = decide (x < 0))) (HL1 : Hid (l = Bi.limbs x.natAbs)) :
  Calls Tryz.prog 78 #[.agg #[.bool neg, .slice ao l.length cap]] w fun e w' => e = .returned (.int .i64 (sgnI x)) ∧ Below w.heap.size w w' := by
 by_cases h0 : l = []
 ·have hx : Hid (sgnI x = 0) := hii (by
   have h := HL1.out; rw [h0] at h; have := Bi.limbs_eq_nil.1 h.symm; unfold sgnI; rw [if_pos (by omega)])
  subst h0;go_enter Tryz.func78, Tryz.ntmps78;go_wp2;go_ret;exact ⟨ret_int hx.out.symm, br.alloc nl _⟩
 ·have hL : 0 < l.length := List.length_pos_iff.2 h0;have hx0 : x ≠ 0 := by rintro rfl; exact h0 (by rw [HL1.out]; rfl)
  have hLz : ((l.length : Int) == 0) = false := by rw [beq_eq_false_iff_ne]; omega
  have hx : Hid (sgnI x = if neg then -1 else 1) := hii (by unfold sgnI; rw [if_neg hx0, Hn1.out]; by_cases h : x < 0 <;> simp [h])
  cases neg
  all_goals
   go_enter Tryz.func78, Tryz.ntmps78;go_wp2;go_ret;exact ⟨ret_int hx.out.symm, br.alloc nl _⟩
end Go.Proofs.YtgfpbghgpdpepaaGreatDoor
namespace Go.Proofs.YtgfpbghgpdpepaaGreatDoor
open Go.RowKit
structure Box4 (w : World) (n : Nat) (x0 x1 x2 x3 : Value) : Prop where
 c0 : w.cell? ⟨n, 0, none⟩ = some x0
 c1 : w.cell? ⟨n, 1, none⟩ = some x1
 c2 : w.cell? ⟨n, 2, none⟩ = some x2
 c3 : w.cell? ⟨n, 3, none⟩ = some x3
 f0 : w.frozen? ⟨n, 0, none⟩ = false
 f1 : w.frozen? ⟨n, 1, none⟩ = false
 f2 : w.frozen? ⟨n, 2, none⟩ = false
 f3 : w.frozen? ⟨n, 3, none⟩ = false
theorem Box4.lt {w : World} {n : Nat} {x0 x1 x2 x3 : Value} (h : Box4 w n x0 x1 x2 x3) : n < w.heap.size := cell_lt h.c0
theorem Box4.mono {w w' : World} {n : Nat} {x0 x1 x2 x3 : Value} (h : Box4 w n x0 x1 x2 x3) (hb : Below w.heap.size w w') : Box4 w' n x0 x1 x2 x3 :=
 ⟨(hb.cell (p := ⟨n, 0, none⟩) h.lt).trans h.c0, (hb.cell (p := ⟨n, 1, none⟩) h.lt).trans h.c1, (hb.cell (p := ⟨n, 2, none⟩) h.lt).trans h.c2, (hb.cell (p := ⟨n, 3, none⟩) h.lt).trans h.c3,
  (hb.frozen (p := ⟨n, 0, none⟩) h.lt).trans h.f0, (hb.frozen (p := ⟨n, 1, none⟩) h.lt).trans h.f1, (hb.frozen (p := ⟨n, 2, none⟩) h.lt).trans h.f2, (hb.frozen (p := ⟨n, 3, none⟩) h.lt).trans h.f3⟩
theorem Box4.new (w : World) (x0 x1 x2 x3 : Value) (t : TypeId) : Box4 (w.alloc (.cells #[x0, x1, x2, x3] t)) w.heap.size x0 x1 x2 x3 :=
 ⟨by simp [go_sem], by simp [go_sem], by simp [go_sem], by simp [go_sem], by simp [go_sem], by simp [go_sem], by simp [go_sem], by simp [go_sem]⟩
theorem boxes_22 (w : World) (a0 b0 : Value) (t0 : TypeId) (c0 d0 : Value) (t1 : TypeId) : ∃ wx, wx = ((w.alloc (.cells #[a0, b0] t0)).alloc (.cells #[c0, d0] t1)) ∧ wx.heap.size = w.heap.size + 1 + 1 ∧ Box wx w.heap.size a0 b0 ∧ Box wx (w.heap.size + 1) c0 d0 ∧ Below w.heap.size w wx := by
 refine ⟨_, rfl, by simp, ?_, ?_, ?_⟩
 ·exact (Box.new w a0 b0 t0).mono (bA _ (.cells #[c0, d0] t1))
 ·have := Box.new (w.alloc (.cells #[a0, b0] t0)) c0 d0 t1
  simpa using this
 ·exact ((br.alloc (by simp) _).alloc (by simp) _)
theorem boxes_44 (w : World) (a0 b0 c0 d0 : Value) (t0 : TypeId) (e0 f0 g0 h0 : Value) (t1 : TypeId) : ∃ wx, wx = ((w.alloc (.cells #[a0, b0, c0, d0] t0)).alloc (.cells #[e0, f0, g0, h0] t1)) ∧ wx.heap.size = w.heap.size + 1 + 1 ∧ Box4 wx w.heap.size a0 b0 c0 d0 ∧ Box4 wx (w.heap.size + 1) e0 f0 g0 h0 ∧ Below w.heap.size w wx := by
 refine ⟨_, rfl, by simp, ?_, ?_, ?_⟩
 ·exact (Box4.new w a0 b0 c0 d0 t0).mono (bA _ (.cells #[e0, f0, g0, h0] t1))
 ·have := Box4.new (w.alloc (.cells #[a0, b0, c0, d0] t0)) e0 f0 g0 h0 t1
  simpa using this
 ·exact ((br.alloc (by simp) _).alloc (by simp) _)
theorem boxes_444 (w : World) (a0 b0 c0 d0 : Value) (t0 : TypeId) (e0 f0 g0 h0 : Value) (t1 : TypeId) (i0 j0 k0 l0 : Value) (t2 : TypeId) : ∃ wx, wx = (((w.alloc (.cells #[a0, b0, c0, d0] t0)).alloc (.cells #[e0, f0, g0, h0] t1)).alloc (.cells #[i0, j0, k0, l0] t2)) ∧ wx.heap.size = w.heap.size + 1 + 1 + 1 ∧ Box4 wx w.heap.size a0 b0 c0 d0 ∧ Box4 wx (w.heap.size + 1) e0 f0 g0 h0 ∧ Box4 wx (w.heap.size + 1 + 1) i0 j0 k0 l0 ∧ Below w.heap.size w wx := by
 refine ⟨_, rfl, by simp, ?_, ?_, ?_, ?_⟩
 ·exact ((Box4.new w a0 b0 c0 d0 t0).mono (bA _ (.cells #[e0, f0, g0, h0] t1))).mono (bA _ (.cells #[i0, j0, k0, l0] t2))
 ·have := (Box4.new (w.alloc (.cells #[a0, b0, c0, d0] t0)) e0 f0 g0 h0 t1).mono (bA _ (.cells #[i0, j0, k0, l0] t2))
  simpa using this
 ·have := Box4.new ((w.alloc (.cells #[a0, b0, c0, d0] t0)).alloc (.cells #[e0, f0, g0, h0] t1)) i0 j0 k0 l0 t2
  simpa using this
 ·exact (((br.alloc (by simp) _).alloc (by simp) _).alloc (by simp; omega) _)
theorem boxes_224 (w : World) (a0 b0 : Value) (t0 : TypeId) (c0 d0 : Value) (t1 : TypeId) (e0 f0 g0 h0 : Value) (t2 : TypeId) : ∃ wx, wx = (((w.alloc (.cells #[a0, b0] t0)).alloc (.cells #[c0, d0] t1)).alloc (.cells #[e0, f0, g0, h0] t2)) ∧ wx.heap.size = w.heap.size + 1 + 1 + 1 ∧ Box wx w.heap.size a0 b0 ∧ Box wx (w.heap.size + 1) c0 d0 ∧ Box4 wx (w.heap.size + 1 + 1) e0 f0 g0 h0 ∧ Below w.heap.size w wx := by
 refine ⟨_, rfl, by simp, ?_, ?_, ?_, ?_⟩
 ·exact ((Box.new w a0 b0 t0).mono (bA _ (.cells #[c0, d0] t1))).mono (bA _ (.cells #[e0, f0, g0, h0] t2))
 ·have := (Box.new (w.alloc (.cells #[a0, b0] t0)) c0 d0 t1).mono (bA _ (.cells #[e0, f0, g0, h0] t2))
  simpa using this
 ·have := Box4.new ((w.alloc (.cells #[a0, b0] t0)).alloc (.cells #[c0, d0] t1)) e0 f0 g0 h0 t2
  simpa using this
 ·exact (((br.alloc (by simp) _).alloc (by simp) _).alloc (by simp; omega) _)
theorem boxes_22224 (w : World) (a0 b0 : Value) (t0 : TypeId) (c0 d0 : Value) (t1 : TypeId) (e0 f0 : Value) (t2 : TypeId) (g0 h0 : Value) (t3 : TypeId) (i0 j0 k0 l0 : Value) (t4 : TypeId) : ∃ wx, wx = (((((w.alloc (.cells #[a0, b0] t0)).alloc (.cells #[c0, d0] t1)).alloc (.cells #[e0, f0] t2)).alloc (.cells #[g0, h0] t3)).alloc (.cells #[i0, j0, k0, l0] t4)) ∧ wx.heap.size = w.heap.size + 1 + 1 + 1 + 1 + 1 ∧ Box wx w.heap.size a0 b0 ∧ Box wx (w.heap.size + 1) c0 d0 ∧ Box wx (w.heap.size + 1 + 1) e0 f0 ∧ Box wx (w.heap.size + 1 + 1 + 1) g0 h0 ∧ Box4 wx (w.heap.size + 1 + 1 + 1 + 1) i0 j0 k0 l0 ∧ Below w.heap.size w wx := by
 refine ⟨_, rfl, by simp, ?_, ?_, ?_, ?_, ?_, ?_⟩
 ·exact ((((Box.new w a0 b0 t0).mono (bA _ (.cells #[c0, d0] t1))).mono (bA _ (.cells #[e0, f0] t2))).mono (bA _ (.cells #[g0, h0] t3))).mono (bA _ (.cells #[i0, j0, k0, l0] t4))
 ·have := (((Box.new (w.alloc (.cells #[a0, b0] t0)) c0 d0 t1).mono (bA _ (.cells #[e0, f0] t2))).mono (bA _ (.cells #[g0, h0] t3))).mono (bA _ (.cells #[i0, j0, k0, l0] t4))
  simpa using this
 ·have := ((Box.new ((w.alloc (.cells #[a0, b0] t0)).alloc (.cells #[c0, d0] t1)) e0 f0 t2).mono (bA _ (.cells #[g0, h0] t3))).mono (bA _ (.cells #[i0, j0, k0, l0] t4))
  simpa using this
 ·have := (Box.new (((w.alloc (.cells #[a0, b0] t0)).alloc (.cells #[c0, d0] t1)).alloc (.cells #[e0, f0] t2)) g0 h0 t3).mono (bA _ (.cells #[i0, j0, k0, l0] t4))
  simpa using this
 ·have := Box4.new ((((w.alloc (.cells #[a0, b0] t0)).alloc (.cells #[c0, d0] t1)).alloc (.cells #[e0, f0] t2)).alloc (.cells #[g0, h0] t3)) i0 j0 k0 l0 t4
  simpa using this
 ·exact (((((br.alloc (by simp) _).alloc (by simp) _).alloc (by simp; omega) _).alloc (by simp; omega) _).alloc (by simp; omega) _)
theorem boxes_4422 (w : World) (a0 b0 c0 d0 : Value) (t0 : TypeId) (e0 f0 g0 h0 : Value) (t1 : TypeId) (i0 j0 : Value) (t2 : TypeId) (k0 l0 : Value) (t3 : TypeId) : ∃ wx, wx = ((((w.alloc (.cells #[a0, b0, c0, d0] t0)).alloc (.cells #[e0, f0, g0, h0] t1)).alloc (.cells #[i0, j0] t2)).alloc (.cells #[k0, l0] t3)) ∧ wx.heap.size = w.heap.size + 1 + 1 + 1 + 1 ∧ Box4 wx w.heap.size a0 b0 c0 d0 ∧ Box4 wx (w.heap.size + 1) e0 f0 g0 h0 ∧ Box wx (w.heap.size + 1 + 1) i0 j0 ∧ Box wx (w.heap.size + 1 + 1 + 1) k0 l0 ∧ Below w.heap.size w wx := by
 refine ⟨_, rfl, by simp, ?_, ?_, ?_, ?_, ?_⟩
 ·exact (((Box4.new w a0 b0 c0 d0 t0).mono (bA _ (.cells #[e0, f0, g0, h0] t1))).mono (bA _ (.cells #[i0, j0] t2))).mono (bA _ (.cells #[k0, l0] t3))
 ·have := ((Box4.new (w.alloc (.cells #[a0, b0, c0, d0] t0)) e0 f0 g0 h0 t1).mono (bA _ (.cells #[i0, j0] t2))).mono (bA _ (.cells #[k0, l0] t3))
  simpa using this
 ·have := (Box.new ((w.alloc (.cells #[a0, b0, c0, d0] t0)).alloc (.cells #[e0, f0, g0, h0] t1)) i0 j0 t2).mono (bA _ (.cells #[k0, l0] t3))
  simpa using this
 ·have := Box.new (((w.alloc (.cells #[a0, b0, c0, d0] t0)).alloc (.cells #[e0, f0, g0, h0] t1)).alloc (.cells #[i0, j0] t2)) k0 l0 t3
  simpa using this
 ·exact ((((br.alloc (by simp) _).alloc (by simp) _).alloc (by simp; omega) _).alloc (by simp; omega) _)
theorem boxes_44222 (w : World) (a0 b0 c0 d0 : Value) (t0 : TypeId) (e0 f0 g0 h0 : Value) (t1 : TypeId) (i0 j0 : Value) (t2 : TypeId) (k0 l0 : Value) (t3 : TypeId) (m0 n0 : Value) (t4 : TypeId) : ∃ wx, wx = (((((w.alloc (.cells #[a0, b0, c0, d0] t0)).alloc (.cells #[e0, f0, g0, h0] t1)).alloc (.cells #[i0, j0] t2)).alloc (.cells #[k0, l0] t3)).alloc (.cells #[m0, n0] t4)) ∧ wx.heap.size = w.heap.size + 1 + 1 + 1 + 1 + 1 ∧ Box4 wx w.heap.size a0 b0 c0 d0 ∧ Box4 wx (w.heap.size + 1) e0 f0 g0 h0 ∧ Box wx (w.heap.size + 1 + 1) i0 j0 ∧ Box wx (w.heap.size + 1 + 1 + 1) k0 l0 ∧ Box wx (w.heap.size + 1 + 1 + 1 + 1) m0 n0 ∧ Below w.heap.size w wx := by
 refine ⟨_, rfl, by simp, ?_, ?_, ?_, ?_, ?_, ?_⟩
 ·exact ((((Box4.new w a0 b0 c0 d0 t0).mono (bA _ (.cells #[e0, f0, g0, h0] t1))).mono (bA _ (.cells #[i0, j0] t2))).mono (bA _ (.cells #[k0, l0] t3))).mono (bA _ (.cells #[m0, n0] t4))
 ·have := (((Box4.new (w.alloc (.cells #[a0, b0, c0, d0] t0)) e0 f0 g0 h0 t1).mono (bA _ (.cells #[i0, j0] t2))).mono (bA _ (.cells #[k0, l0] t3))).mono (bA _ (.cells #[m0, n0] t4))
  simpa using this
 ·have := ((Box.new ((w.alloc (.cells #[a0, b0, c0, d0] t0)).alloc (.cells #[e0, f0, g0, h0] t1)) i0 j0 t2).mono (bA _ (.cells #[k0, l0] t3))).mono (bA _ (.cells #[m0, n0] t4))
  simpa using this
 ·have := (Box.new (((w.alloc (.cells #[a0, b0, c0, d0] t0)).alloc (.cells #[e0, f0, g0, h0] t1)).alloc (.cells #[i0, j0] t2)) k0 l0 t3).mono (bA _ (.cells #[m0, n0] t4))
  simpa using this
 ·have := Box.new ((((w.alloc (.cells #[a0, b0, c0, d0] t0)).alloc (.cells #[e0, f0, g0, h0] t1)).alloc (.cells #[i0, j0] t2)).alloc (.cells #[k0, l0] t3)) m0 n0 t4
  simpa using this
 ·exact (((((br.alloc (by simp) _).alloc (by simp) _).alloc (by simp; omega) _).alloc (by simp; omega) _).alloc (by simp; omega) _)
theorem boxes_222 (w : World) (a0 b0 : Value) (t0 : TypeId) (c0 d0 : Value) (t1 : TypeId) (e0 f0 : Value) (t2 : TypeId) : ∃ wx, wx = (((w.alloc (.cells #[a0, b0] t0)).alloc (.cells #[c0, d0] t1)).alloc (.cells #[e0, f0] t2)) ∧ wx.heap.size = w.heap.size + 1 + 1 + 1 ∧ Box wx w.heap.size a0 b0 ∧ Box wx (w.heap.size + 1) c0 d0 ∧ Box wx (w.heap.size + 1 + 1) e0 f0 ∧ Below w.heap.size w wx := by
 refine ⟨_, rfl, by simp, ?_, ?_, ?_, ?_⟩
 ·exact ((Box.new w a0 b0 t0).mono (bA _ (.cells #[c0, d0] t1))).mono (bA _ (.cells #[e0, f0] t2))
 ·have := (Box.new (w.alloc (.cells #[a0, b0] t0)) c0 d0 t1).mono (bA _ (.cells #[e0, f0] t2))
  simpa using this
 ·have := Box.new ((w.alloc (.cells #[a0, b0] t0)).alloc (.cells #[c0, d0] t1)) e0 f0 t2
  simpa using this
 ·exact (((br.alloc (by simp) _).alloc (by simp) _).alloc (by simp; omega) _)
theorem cell_other {w : World} {n m i j : Nat} (v : Value) (h : n ≠ m) : (w.setCell ⟨m, j, none⟩ v).cell? ⟨n, i, none⟩ = w.cell? ⟨n, i, none⟩ :=
 World.cell?_setCell_other _ _ _ _ (fun e => h (congrArg Addr.block e).symm)
theorem cell_next {w : World} {n i j : Nat} (v : Value) (h : i ≠ j) : (w.setCell ⟨n, j, none⟩ v).cell? ⟨n, i, none⟩ = w.cell? ⟨n, i, none⟩ :=
 World.cell?_setCell_other _ _ _ _ (fun e => h (by simpa using e.symm))
theorem Box.other2 {w : World} {n m : Nat} {x y u v : Value} (h : Box w n x y) (hne : n ≠ m) : Box ((w.setCell ⟨m, 0, none⟩ u).setCell ⟨m, 1, none⟩ v) n x y := by
 obtain ⟨h1, h2, h3, h4⟩ := h;exact ⟨by rw [cell_other _ hne, cell_other _ hne]; exact h1, by rw [cell_other _ hne, cell_other _ hne]; exact h2, by simp [go_sem, h3], by simp [go_sem, h4]⟩
theorem Box4.other2 {w : World} {n m : Nat} {x0 x1 x2 x3 u v : Value} (h : Box4 w n x0 x1 x2 x3) (hne : n ≠ m) : Box4 ((w.setCell ⟨m, 0, none⟩ u).setCell ⟨m, 1, none⟩ v) n x0 x1 x2 x3 := by
 obtain ⟨h0, h1, h2, h3, f0, f1, f2, f3⟩ := h;exact ⟨by rw [cell_other _ hne, cell_other _ hne]; exact h0, by rw [cell_other _ hne, cell_other _ hne]; exact h1, by rw [cell_other _ hne, cell_other _ hne]; exact h2, by rw [cell_other _ hne, cell_other _ hne]; exact h3,
  by simp [go_sem, f0], by simp [go_sem, f1], by simp [go_sem, f2], by simp [go_sem, f3]⟩
theorem Box.set2I {w : World} {n : Nat} {x y : Value} (h : Box w n x y) (u v : Value) : Box ((w.setCell ⟨n, 0, none⟩ u).setCell ⟨n, 1, none⟩ v) n u v := h.set2 u v
theorem IntV.put2B {w : World} {n c d : Nat} {b : Bool} {s : Option Addr} {u : Value} {z : Int} (hB : Box w n (.bool b) (.slice s c d)) (h : IntV w u z) (x y : Value) :
  IntV ((w.setCell ⟨n, 0, none⟩ x).setCell ⟨n, 1, none⟩ y) u z := h.put2 hB.c0 hB.c1 x y
theorem IntV.put4B {w : World} {n c1 d1 c2 d2 : Nat} {b1 b2 : Bool} {s1 s2 : Option Addr} {u : Value} {z : Int} (hB : Box4 w n (.bool b1) (.slice s1 c1 d1) (.bool b2) (.slice s2 c2 d2)) (h : IntV w u z) (x0 x1 x2 x3 : Value) :
  IntV ((((w.setCell ⟨n, 0, none⟩ x0).setCell ⟨n, 1, none⟩ x1).setCell ⟨n, 2, none⟩ x2).setCell ⟨n, 3, none⟩ x3) u z := by
 have h1 := h.put2 hB.c0 hB.c1 x0 x1;have e2 : ((w.setCell ⟨n, 0, none⟩ x0).setCell ⟨n, 1, none⟩ x1).cell? ⟨n, 2, none⟩ = some (.bool b2) := by rw [cell_next _ (by decide), cell_next _ (by decide)]; exact hB.c2
 have h2 := IntV.put (v := x2) e2 (by simp) h1;have e3 : (((w.setCell ⟨n, 0, none⟩ x0).setCell ⟨n, 1, none⟩ x1).setCell ⟨n, 2, none⟩ x2).cell? ⟨n, 3, none⟩ = some (.slice s2 c2 d2) := by rw [cell_next _ (by decide), cell_next _ (by decide), cell_next _ (by decide)]; exact hB.c3
 exact IntV.put (v := x3) e3 (by simp) h2
theorem Below.put4 {B : Nat} {w w' : World} {n : Nat} (h : Below B w w') (hn : B ≤ n) (x0 x1 x2 x3 : Value) : Below B w ((((w'.setCell ⟨n, 0, none⟩ x0).setCell ⟨n, 1, none⟩ x1).setCell ⟨n, 2, none⟩ x2).setCell ⟨n, 3, none⟩ x3) :=
 (((h.setCell hn _).setCell hn _).setCell hn _).setCell hn _
def RatV (w : World) (v : Value) (r : Rat) : Prop :=
 ∃ (n1 : Bool) (a1 : Option Addr) (l1 c1 : Nat) (n2 : Bool) (a2 : Option Addr) (l2 c2 : Nat), v = .agg #[.bool n1, .slice a1 l1 c1, .bool n2, .slice a2 l2 c2] ∧ IntV w (.agg #[.bool n1, .slice a1 l1 c1]) r.num ∧ IntV w (.agg #[.bool n2, .slice a2 l2 c2]) (r.den : Int)
theorem RatV.mono {w w' : World} {v : Value} {r : Rat} (h : RatV w v r) (hb : Below w.heap.size w w') : RatV w' v r := by
 obtain ⟨n1, a1, l1, c1, n2, a2, l2, c2, e, h1, h2⟩ := h;exact ⟨n1, a1, l1, c1, n2, a2, l2, c2, e, h1.mono hb, h2.mono hb⟩
def GotQ (w' : World) (r : Rat) (e : Ending) : Prop :=
 ∃ (n1 : Bool) (a1 : Option Addr) (l1 c1 : Nat) (n2 : Bool) (a2 : Option Addr) (l2 c2 : Nat), e = .returned (.tuple #[.agg #[.bool n1, .slice a1 l1 c1, .bool n2, .slice a2 l2 c2], .int .i64 0]) ∧
  Hid (IntV w' (.agg #[.bool n1, .slice a1 l1 c1]) r.num) ∧ Hid (IntV w' (.agg #[.bool n2, .slice a2 l2 c2]) (r.den : Int))
def NoQ (k : Int) (e : Ending) : Prop := e = .returned (.tuple #[.agg #[.bool false, .slice none 0 0, .bool false, .slice none 0 0], .int .i64 k])
def GotI (w' : World) (z : Int) (e : Ending) : Prop :=
 ∃ (ng : Bool) (ao : Option Addr) (n cap : Nat), e = .returned (.tuple #[.agg #[.bool ng, .slice ao n cap], .int .i64 0]) ∧ Hid (IntV w' (.agg #[.bool ng, .slice ao n cap]) z)
theorem ResZ.got {w' : World} {z : Int} {e : Ending} (h : ResZ w' z e) (hz : Rq.Sm z) : GotI w' z e := by
 obtain ⟨ng, ao, n, cap, k, he, HK⟩ := h;obtain ⟨rfl, hV⟩ := HK.out.fits hz;exact ⟨ng, ao, n, cap, he, hii hV⟩
theorem ResZ.big {w' : World} {z : Int} {e : Ending} (h : ResZ w' z e) (hz : ¬ Rq.Sm z) : e = .returned (.tuple #[.agg #[.bool false, .slice none 0 0], .int .i64 3]) := by
 obtain ⟨ng, ao, n, cap, k, he, HK⟩ := h;rcases HK.out with ⟨h1, _⟩ | ⟨_, rfl, h3⟩
 ·exact absurd h1 hz
 ·rw [he, h3]
theorem Add_ok (a b : Value) (x y : Int) (w : World) (ha : IntV w a x) (hb : IntV w b y) (hs : Hid (Rq.Sm (x + y))) (hE : Env w) :
  Calls Tryz.prog 163 #[a, b] w fun e w' => GotI w' (x + y) e ∧ Below w.heap.size w w' := (Add_any a b x y w ha hb hE).mono fun _ _ ⟨h, hb⟩ => ⟨h.got hs.out, hb⟩
theorem Add_big (a b : Value) (x y : Int) (w : World) (ha : IntV w a x) (hb : IntV w b y) (hs : Hid (¬ Rq.Sm (x + y))) (hE : Env w) :
  Calls Tryz.prog 163 #[a, b] w fun e w' => e = .returned (.tuple #[.agg #[.bool false, .slice none 0 0], .int .i64 3]) ∧ Below w.heap.size w w' := (Add_any a b x y w ha hb hE).mono fun _ _ ⟨h, hb⟩ => ⟨h.big hs.out, hb⟩
theorem Sub_ok (a b : Value) (x y : Int) (w : World) (ha : IntV w a x) (hb : IntV w b y) (hs : Hid (Rq.Sm (x - y))) (hE : Env w) :
  Calls Tryz.prog 122 #[a, b] w fun e w' => GotI w' (x - y) e ∧ Below w.heap.size w w' := (Sub_any a b x y w ha hb hE).mono fun _ _ ⟨h, hb⟩ => ⟨h.got hs.out, hb⟩
theorem Sub_big (a b : Value) (x y : Int) (w : World) (ha : IntV w a x) (hb : IntV w b y) (hs : Hid (¬ Rq.Sm (x - y))) (hE : Env w) :
  Calls Tryz.prog 122 #[a, b] w fun e w' => e = .returned (.tuple #[.agg #[.bool false, .slice none 0 0], .int .i64 3]) ∧ Below w.heap.size w w' := (Sub_any a b x y w ha hb hE).mono fun _ _ ⟨h, hb⟩ => ⟨h.big hs.out, hb⟩
theorem Mul_ok (a b : Value) (x y : Int) (w : World) (ha : IntV w a x) (hb : IntV w b y) (hs : Hid (Rq.Sm (x * y))) (hE : Env w) :
  Calls Tryz.prog 164 #[a, b] w fun e w' => GotI w' (x * y) e ∧ Below w.heap.size w w' := (Mul_any a b x y w ha hb hE).mono fun _ _ ⟨h, hb⟩ => ⟨h.got hs.out, hb⟩
theorem Mul_big (a b : Value) (x y : Int) (w : World) (ha : IntV w a x) (hb : IntV w b y) (hs : Hid (¬ Rq.Sm (x * y))) (hE : Env w) :
  Calls Tryz.prog 164 #[a, b] w fun e w' => e = .returned (.tuple #[.agg #[.bool false, .slice none 0 0], .int .i64 3]) ∧ Below w.heap.size w w' := (Mul_any a b x y w ha hb hE).mono fun _ _ ⟨h, hb⟩ => ⟨h.big hs.out, hb⟩
theorem rMul_ok (a b : Value) (x y : Int) (w : World) (ha : IntV w a x) (hb : IntV w b y) (hs : Hid (Rq.Sm (x * y))) :
  Calls Tryz.prog 151 #[a, b] w fun e w' => GotI w' (x * y) e ∧ Below w.heap.size w w' := (rMul_any a b x y w ha hb).mono fun _ _ ⟨h, hb⟩ => ⟨h.got hs.out, hb⟩
theorem rMul_big (a b : Value) (x y : Int) (w : World) (ha : IntV w a x) (hb : IntV w b y) (hs : Hid (¬ Rq.Sm (x * y))) :
  Calls Tryz.prog 151 #[a, b] w fun e w' => e = .returned (.tuple #[.agg #[.bool false, .slice none 0 0], .int .i64 3]) ∧ Below w.heap.size w w' := (rMul_any a b x y w ha hb).mono fun _ _ ⟨h, hb⟩ => ⟨h.big hs.out, hb⟩
theorem rAdd_ok (a b : Value) (x y : Int) (w : World) (ha : IntV w a x) (hb : IntV w b y) (hs : Hid (Rq.Sm (x + y))) :
  Calls Tryz.prog 154 #[a, b] w fun e w' => GotI w' (x + y) e ∧ Below w.heap.size w w' := (rAdd_any a b x y w ha hb).mono fun _ _ ⟨h, hb⟩ => ⟨h.got hs.out, hb⟩
theorem rAdd_big (a b : Value) (x y : Int) (w : World) (ha : IntV w a x) (hb : IntV w b y) (hs : Hid (¬ Rq.Sm (x + y))) :
  Calls Tryz.prog 154 #[a, b] w fun e w' => e = .returned (.tuple #[.agg #[.bool false, .slice none 0 0], .int .i64 3]) ∧ Below w.heap.size w w' := (rAdd_any a b x y w ha hb).mono fun _ _ ⟨h, hb⟩ => ⟨h.big hs.out, hb⟩
def SubK (wy wc : World) (n : Nat) (s7 : Value) (z : Int) : Prop :=
 ∃ (w0 : World) (ng : Bool) (ao : Option Addr) (m cap : Nat), s7 = .int .i64 0 ∧ Hid (IntV w0 (.agg #[.bool ng, .slice ao m cap]) z) ∧ Below wy.heap.size wy w0 ∧ wc = (w0.setCell ⟨n, 0, none⟩ (.bool ng)).setCell ⟨n, 1, none⟩ (.slice ao m cap)
def GotD (w' : World) (z1 : Int) (e : Ending) : Prop :=
 ∃ (ng : Bool) (ao : Option Addr) (n cap : Nat) (ng2 : Bool) (ao2 : Option Addr) (n2 cap2 : Nat), e = .returned (.tuple #[.agg #[.bool ng, .slice ao n cap], .agg #[.bool ng2, .slice ao2 n2 cap2], .int .i64 0]) ∧ Hid (IntV w' (.agg #[.bool ng, .slice ao n cap]) z1)
theorem Div_ok (a b : Value) (x y : Int) (w : World) (ha : IntV w a x) (hb : IntV w b y) (hy0 : Hid (y ≠ 0)) (hE : Env w) :
  Calls Tryz.prog 199 #[a, b] w fun e w' => GotD w' (x.tdiv y) e ∧ Below w.heap.size w w' :=
 (Div_any a b x y w ha hb hy0 hE).mono fun _ _ ⟨⟨ng, ao, n, cap, ng2, ao2, n2, cap2, he, h1, _⟩, h2⟩ => ⟨⟨ng, ao, n, cap, ng2, ao2, n2, cap2, he, h1⟩, h2⟩
theorem rDiv_ok (a b : Value) (x y : Int) (w : World) (ha : IntV w a x) (hb : IntV w b y) (hy0 : Hid (y ≠ 0)) :
  Calls Tryz.prog 187 #[a, b] w fun e w' => GotD w' (x.tdiv y) e ∧ Below w.heap.size w w' :=
 (rDiv_any a b x y w ha hb hy0).mono fun _ _ ⟨⟨ng, ao, n, cap, ng2, ao2, n2, cap2, he, h1, _⟩, h2⟩ => ⟨⟨ng, ao, n, cap, ng2, ao2, n2, cap2, he, h1⟩, h2⟩
def NegK (wy wc : World) (n m : Nat) (x y : Int) : Prop :=
 ∃ (w0 : World) (ng : Bool) (ao : Option Addr) (l cap : Nat) (ng2 : Bool) (ao2 : Option Addr) (l2 cap2 : Nat), Hid (IntV w0 (.agg #[.bool ng, .slice ao l cap]) x) ∧ Hid (IntV w0 (.agg #[.bool ng2, .slice ao2 l2 cap2]) y) ∧ Below wy.heap.size wy w0 ∧
  wc = (((w0.setCell ⟨n, 0, none⟩ (.bool ng)).setCell ⟨n, 1, none⟩ (.slice ao l cap)).setCell ⟨m, 0, none⟩ (.bool ng2)).setCell ⟨m, 1, none⟩ (.slice ao2 l2 cap2)
theorem Gcd_ok (a b : Value) (x y : Int) (w : World) (ha : IntV w a x) (hb : IntV w b y) (hE : Env w) :
  Calls Tryz.prog 156 #[a, b] w fun e w' => GotI w' (Int.gcd x y : Nat) e ∧ Below w.heap.size w w' :=
 (Gcd_any a b x y w ha hb hE).mono fun _ _ ⟨h, h2⟩ => ⟨h.got (gcd_small ha.small hb.small), h2⟩
end Go.Proofs.YtgfpbghgpdpepaaGreatDoor
