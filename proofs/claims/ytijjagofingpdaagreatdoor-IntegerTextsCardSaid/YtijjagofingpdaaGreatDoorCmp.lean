import Derived.Test.YtijjagofingpdaaGreatDoorRDiv
namespace Go.Proofs.YtijjagofingpdaaGreatDoor
open Go.RowKit

theorem cmpN_bd (m n : Nat) : -1 ≤ cmpN m n ∧ cmpN m n ≤ 1 := by unfold cmpN; split <;> (try split) <;> omega
theorem sgnI_bd (z : Int) : -1 ≤ sgnI z ∧ sgnI z ≤ 1 := by unfold sgnI; split <;> (try split) <;> omega
theorem cmpZ_bd (x y : Int) : -1 ≤ cmpZ x y ∧ cmpZ x y ≤ 1 := by unfold cmpZ; split <;> (try split) <;> omega

theorem cmpZ_sgn {x y : Int} (h : sgnI x ≠ sgnI y) : cmpZ x y = if sgnI x < sgnI y then -1 else 1 := by
  unfold sgnI cmpZ at *
  by_cases h1 : x = 0 <;> by_cases h2 : y = 0 <;> by_cases h3 : x < 0 <;> by_cases h4 : y < 0 <;> by_cases h5 : x < y <;> by_cases h6 : y < x <;> simp [h1, h2, h3, h4, h5, h6] at h ⊢ <;> omega

theorem cmpZ_same {x y : Int} (h : sgnI x = sgnI y) : cmpZ x y = if x < 0 then - cmpN x.natAbs y.natAbs else cmpN x.natAbs y.natAbs := by
  have h0 : (x = 0 ↔ y = 0) ∧ (x < 0 ↔ y < 0) := by
    unfold sgnI at h
    by_cases h1 : x = 0 <;> by_cases h2 : y = 0 <;> by_cases h3 : x < 0 <;> by_cases h4 : y < 0 <;> simp [h1, h2, h3, h4] at h ⊢
  unfold cmpZ cmpN
  by_cases h3 : x < 0
  · rw [if_pos h3]
    by_cases h5 : x < y
    · rw [if_pos h5, if_neg (by omega), if_pos (by omega)]
    · rw [if_neg h5]
      by_cases h6 : y < x
      · rw [if_pos h6, if_pos (by omega)]; rfl
      · rw [if_neg h6, if_neg (by omega), if_neg (by omega)]; rfl
  · rw [if_neg h3]
    by_cases h5 : x < y
    · rw [if_pos h5, if_pos (by omega)]
    · rw [if_neg h5]
      by_cases h6 : y < x
      · rw [if_pos h6, if_neg (by omega), if_pos (by omega)]
      · rw [if_neg h6, if_neg (by omega), if_neg (by omega)]

theorem cmpZ_mul {x y : Int} (h : sgnI x = sgnI y) : sgnI x * cmpN x.natAbs y.natAbs = cmpZ x y := by
  rw [cmpZ_same h]
  by_cases h1 : x = 0
  · have h2 : y = 0 := by
      subst h1; unfold sgnI at h
      by_cases h2 : y = 0
      · exact h2
      · by_cases h4 : y < 0 <;> simp [h2, h4] at h
    subst h1 h2; decide
  · unfold sgnI
    by_cases h3 : x < 0 <;> simp [h1, h3]

set_option maxHeartbeats 1600000 in
theorem Cmp_any (a b : Value) (x y : Int) (w : World) (ha : IntV w a x) (hb : IntV w b y) (hE : Env w) :
    Calls Tryz.prog 34 #[a, b] w fun e w' => e = .returned (.int .i64 (cmpZ x y)) ∧ Below w.heap.size w w' := by
  obtain ⟨n1, ao1, L1, c1, rfl, Hn1, HL1, HB1, hc1, hl1, hU1⟩ := ha
  obtain ⟨n2, ao2, L2, c2, rfl, Hn2, HL2, HB2, hc2, hl2, hU2⟩ := hb
  go_enter Tryz.func34, Tryz.ntmps34
  go_wp2_with fail
  obtain ⟨wx, hwx, hsz, B1, B2, hbx⟩ := boxes2 w (.bool n1) (.slice ao1 L1.length c1) (.bool n2) (.slice ao2 L2.length c2) 25
  rw [← hwx]
  clear hwx
  (with_reducible refine (check2 wx _ hsz n1 n2 ao1 ao2 L1 L2 c1 c2 (hU1.mono hbx) (hU2.mono hbx) ?_ ?_ (hE.mono hbx)).mono ?_)
  · omega
  · omega
  rintro e w1 ⟨⟨r, HR, HR2, rfl⟩, hb1'⟩
  obtain rfl : r = 0 := HR.out.2 ⟨validP_of x n1 L1 Hn1.out HL1.out HB1.out, validP_of y n2 L2 Hn2.out HL2.out HB2.out⟩
  clear HR HR2
  have B1 := B1.mono hb1'
  have B2 := B2.mono hb1'
  have hbw := Below.step hbx hb1' (Nat.le_refl _)
  have hbd := hbw.drew
  have D1 := B1.mono ((Below.refl w1.heap.size w1).drew)
  have D2 := B2.mono ((Below.refl w1.heap.size w1).drew)
  have hX1 := hU1.mono hbd
  have hX2 := hU2.mono hbd
  have hV1 : IntV w1.drew (.agg #[.bool n1, .slice ao1 L1.length c1]) x := ⟨n1, ao1, L1, c1, rfl, Hn1, HL1, HB1, hc1, hl1, hX1⟩
  have hV2 : IntV w1.drew (.agg #[.bool n2, .slice ao2 L2.length c2]) y := ⟨n2, ao2, L2, c2, rfl, Hn2, HL2, HB2, hc2, hl2, hX2⟩
  clear hU1 hU2 hE hsz
  obtain ⟨a0, a1, _, _⟩ := B1
  obtain ⟨b0, b1, _, _⟩ := B2
  go_wp2_with fail
  go_region_held3 (fun w' => w'.cell? ⟨w.heap.size, 0, none⟩ = some (.bool n1) ∧ w'.cell? ⟨w.heap.size, 1, none⟩ = some (.slice ao1 L1.length c1) ∧ w'.cell? ⟨w.heap.size + 1, 0, none⟩ = some (.bool n2) ∧ w'.cell? ⟨w.heap.size + 1, 1, none⟩ = some (.slice ao2 L2.length c2))
    (first | (with_reducible exact ⟨a0, a1, b0, b1⟩) | (with_reducible exact ⟨D1.c0, D1.c1, D2.c0, D2.c1⟩) | (with_reducible exact ⟨E1.c0, E1.c1, E2.c0, E2.c1⟩) | (with_reducible exact ⟨F1.c0, F1.c1, F2.c0, F2.c1⟩) | (simp [F1.c0, F1.c1, F2.c0, F2.c1, go_sem]; done))
    (first
      | (go_at_call 62; (with_reducible refine (sign_any _ x _ hV1).mono ?_); rintro e w2 ⟨rfl, hb2⟩; have E1 := D1.mono hb2; have E2 := D2.mono hb2; have hW2 := hV2.mono hb2)
      | (go_at_call 62; (with_reducible refine (sign_any _ y _ hW2).mono ?_); rintro e w3 ⟨rfl, hb3⟩; have F1 := E1.mono hb3; have F2 := E2.mono hb3))
  have hbw3 := Below.step (Below.step hbd hb2 (Nat.le_refl _)) hb3 (Nat.le_refl _)
  have hY1 := (hX1.mono hb2).mono hb3
  have hY2 := (hX2.mono hb2).mono hb3
  clear hX1 hX2 hV1 hV2 hW2 a0 a1 b0 b1 D1 D2 E1 E2
  obtain ⟨a0, a1, _, _⟩ := F1
  obtain ⟨b0, b1, _, _⟩ := F2
  by_cases hs : sgnI x = sgnI y
  · have hsb : (sgnI x != sgnI y) = false := by rw [bne_eq_false_iff_eq]; exact hs
    have HC := Lib.hid (cmpZ_same hs)
    clear hs
    go_wp2_with fail
    (with_reducible refine (compare_any x.natAbs y.natAbs L1 L2 HL1 HL2 ao1 ao2 c1 c2 w3 ?_ ?_ hY1 hY2).mono ?_)
    · omega
    · omega
    rintro e w4 ⟨rfl, hb4⟩
    have hcb := cmpN_bd x.natAbs y.natAbs
    have a0 : w4.cell? ⟨w.heap.size, 0, none⟩ = some (.bool n1) := (hb4.cell (p := ⟨w.heap.size, 0, none⟩) (cell_lt a0)).trans a0
    have hbw4 := Below.step hbw3 hb4 (Nat.le_refl _)
    obtain ⟨hcb1, hcb2⟩ := hcb
    clear hY1 hY2 a1 b0 b1
    cases n1
    · have hx : ¬ x < 0 := by have := Hn1.out; simpa using this
      have HR : Hid (cmpZ x y = cmpN x.natAbs y.natAbs) := Lib.hid (by rw [HC.out, if_neg hx])
      clear hx
      go_wp2
      go_ret
      exact ⟨ret_int HR.out.symm, hbw4⟩
    · have hx : x < 0 := by have := Hn1.out; simpa using this
      have HR : Hid (cmpZ x y = - cmpN x.natAbs y.natAbs) := Lib.hid (by rw [HC.out, if_pos hx])
      clear hx
      go_wp2
      go_ret
      exact ⟨ret_int HR.out.symm, hbw4⟩
  · have hsb : (sgnI x != sgnI y) = true := by rw [bne_iff_ne]; exact hs
    have HC := Lib.hid (cmpZ_sgn hs)
    clear hs
    by_cases hlt : sgnI x < sgnI y
    · have HR : Hid (cmpZ x y = -1) := Lib.hid (by rw [HC.out, if_pos hlt])
      go_wp2
      go_ret
      exact ⟨ret_int HR.out.symm, hbw3⟩
    · have HR : Hid (cmpZ x y = 1) := Lib.hid (by rw [HC.out, if_neg hlt])
      go_wp2
      go_ret
      exact ⟨ret_int HR.out.symm, hbw3⟩

end Go.Proofs.YtijjagofingpdaaGreatDoor
