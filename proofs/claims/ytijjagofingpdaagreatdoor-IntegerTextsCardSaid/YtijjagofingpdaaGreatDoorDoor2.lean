import Derived.Test.YtijjagofingpdaaGreatDoorDoor
namespace Go.Proofs.YtijjagofingpdaaGreatDoor
open Go.RowKit

/-- quotient and remainder in two boxes, and the error -/
def TwoR (w wc : World) (s1 s2 s3 : Value) (zq zr k : Int) : Prop := BoxV wc s1 zq ∧ BoxV wc s2 zr ∧ s3 = .int .i64 k ∧ Below w.heap.size w wc

theorem S1 {wx W : World} {n1 : Nat} {a b : Value} (B1 : Box wx n1 a b) (h : Below wx.heap.size wx W) : W.cell? ⟨n1, 0, none⟩ = some a ∧ W.cell? ⟨n1, 1, none⟩ = some b :=
  ⟨(B1.mono h).c0, (B1.mono h).c1⟩

theorem S7 {wx W : World} {n1 n2 n3 n4 n5 n6 n7 : Nat} {a1 b1 a2 b2 a3 b3 a4 b4 a5 b5 a6 b6 a7 b7 : Value} (B1 : Box wx n1 a1 b1) (B2 : Box wx n2 a2 b2) (B3 : Box wx n3 a3 b3) (B4 : Box wx n4 a4 b4) (B5 : Box wx n5 a5 b5) (B6 : Box wx n6 a6 b6) (B7 : Box wx n7 a7 b7) (h : Below wx.heap.size wx W) :
    W.cell? ⟨n1, 0, none⟩ = some a1 ∧ W.cell? ⟨n1, 1, none⟩ = some b1 ∧ W.cell? ⟨n2, 0, none⟩ = some a2 ∧ W.cell? ⟨n2, 1, none⟩ = some b2 ∧ W.cell? ⟨n3, 0, none⟩ = some a3 ∧ W.cell? ⟨n3, 1, none⟩ = some b3 ∧ W.cell? ⟨n4, 0, none⟩ = some a4 ∧ W.cell? ⟨n4, 1, none⟩ = some b4 ∧
    W.cell? ⟨n5, 0, none⟩ = some a5 ∧ W.cell? ⟨n5, 1, none⟩ = some b5 ∧ W.cell? ⟨n6, 0, none⟩ = some a6 ∧ W.cell? ⟨n6, 1, none⟩ = some b6 ∧ W.cell? ⟨n7, 0, none⟩ = some a7 ∧ W.cell? ⟨n7, 1, none⟩ = some b7 :=
  ⟨(B1.mono h).c0, (B1.mono h).c1, (B2.mono h).c0, (B2.mono h).c1, (B3.mono h).c0, (B3.mono h).c1, (B4.mono h).c0, (B4.mono h).c1, (B5.mono h).c0, (B5.mono h).c1, (B6.mono h).c0, (B6.mono h).c1, (B7.mono h).c0, (B7.mono h).c1⟩

theorem IntV.small {w : World} {v : Value} {z : Int} (h : IntV w v z) : z.natAbs < Bi.Big := by
  obtain ⟨_, _, _, _, _, _, _, hB, _⟩ := h
  exact hB.out

/-- a result that is not too large -/
theorem ResK.fits {w : World} {z : Int} {v : Value} {k : Int} (h : ResK w z v k) (hz : z.natAbs < Bi.Big) : k = 0 ∧ IntV w v z := by
  rcases h with ⟨_, h2, h3⟩ | ⟨h1, _⟩
  · exact ⟨h2, h3⟩
  · exact absurd hz h1

theorem tdiv_mul_small {a b : Int} {B : Nat} (h : a.natAbs < B) : (a.tdiv b * b).natAbs < B := by
  refine Nat.lt_of_le_of_lt ?_ h
  rw [Int.natAbs_mul, Int.natAbs_tdiv]
  exact Nat.div_mul_le_self _ _

theorem tmod_cmp {a b : Int} (hb : b ≠ 0) : cmpZ ((a.tmod b).natAbs : Int) (b.natAbs : Int) = -1 := by
  unfold cmpZ
  rw [if_pos]
  rw [Int.natAbs_tmod]
  have := Nat.mod_lt a.natAbs (show 0 < b.natAbs by omega)
  omega

theorem tmod_sgn {a b : Int} (h : a.tmod b ≠ 0) : sgnI (a.tmod b) = sgnI a := by
  unfold sgnI
  rw [if_neg h]
  rcases Int.lt_trichotomy a 0 with ha | ha | ha
  · have h2 : (-a).tmod b = -(a.tmod b) := Int.neg_tmod a b
    have h3 := Int.tmod_nonneg (a := -a) b (Int.le_of_lt (Int.neg_pos_of_neg ha))
    rw [h2] at h3
    clear h2
    generalize a.tmod b = r at *
    rw [if_pos (show r < 0 by omega), if_neg (show ¬ a = 0 by omega), if_pos ha]
  · subst ha; simp at h
  · have h3 := Int.tmod_nonneg (a := a) b (Int.le_of_lt ha)
    generalize a.tmod b = r at *
    rw [if_neg (show ¬ r < 0 by omega), if_neg (show ¬ a = 0 by omega), if_neg (show ¬ a < 0 by omega)]

theorem rem_sum (a b : Int) : a.tdiv b * b + a.tmod b = a := by
  have := Int.tmod_add_mul_tdiv a b
  rw [Int.mul_comm] at this
  omega

theorem S3 {wx W : World} {n1 n2 n3 : Nat} {a1 b1 a2 b2 a3 b3 : Value} (B1 : Box wx n1 a1 b1) (B2 : Box wx n2 a2 b2) (B3 : Box wx n3 a3 b3) (h : Below wx.heap.size wx W) :
    W.cell? ⟨n1, 0, none⟩ = some a1 ∧ W.cell? ⟨n1, 1, none⟩ = some b1 ∧ W.cell? ⟨n2, 0, none⟩ = some a2 ∧ W.cell? ⟨n2, 1, none⟩ = some b2 ∧ W.cell? ⟨n3, 0, none⟩ = some a3 ∧ W.cell? ⟨n3, 1, none⟩ = some b3 :=
  ⟨(B1.mono h).c0, (B1.mono h).c1, (B2.mono h).c0, (B2.mono h).c1, (B3.mono h).c0, (B3.mono h).c1⟩

/-- some Boolean -/
def SomeB (e : Ending) : Prop := ∃ r : Bool, e = .returned (.bool r)

theorem fewV (v : Value) (z : Int) (k : Int) (w : World) (h : IntV w v z) :
    Calls Tryz.prog 14 #[v, .int .i64 k] w fun e w' => SomeB e ∧ Below w.heap.size w w' := by
  obtain ⟨n1, ao1, L1, c1, rfl, _⟩ := h
  refine (few_any n1 L1 k ao1 c1 w).mono ?_
  rintro e w' ⟨rfl, hb⟩
  exact ⟨⟨_, rfl⟩, hb⟩

theorem gcd_small {x y : Int} (hx : x.natAbs < Bi.Big) (hy : y.natAbs < Bi.Big) : (((Int.gcd x y : Nat) : Int)).natAbs < Bi.Big := by
  rw [Int.natAbs_natCast]
  exact gcd_big hx hy

theorem gcd_mod_left {x y : Int} : x.tmod ((Int.gcd x y : Nat) : Int) = 0 := Int.tmod_eq_zero_of_dvd (Int.gcd_dvd_left x y)
theorem gcd_mod_right {x y : Int} : y.tmod ((Int.gcd x y : Nat) : Int) = 0 := Int.tmod_eq_zero_of_dvd (Int.gcd_dvd_right x y)

end Go.Proofs.YtijjagofingpdaaGreatDoor
