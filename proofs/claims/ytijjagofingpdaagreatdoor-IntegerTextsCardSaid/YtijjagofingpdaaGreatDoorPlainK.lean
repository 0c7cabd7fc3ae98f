import Derived.Test.YtijjagofingpdaaGreatDoorPlainD
namespace Bi

/-- the first guess is not too small -/
theorem guess_init {q X Y P top head x2 xl T H yl second : Nat} (hq : q * Y ≤ X) (hY : Y = T * P + yl) (hT : T = top * 1000000000 + second)
    (hX : X = H * P + xl) (hxl : xl < P) (hH : H = head * 1000000000 + x2) (hx2 : x2 < 1000000000) : q * top ≤ head := by
  have h1 : q * (T * P) ≤ q * Y := Nat.mul_le_mul_left _ (by omega)
  have h2 : X < (H + 1) * P := by rw [hX, Nat.add_mul]; omega
  have h3 : (q * T) * P < (H + 1) * P := by rw [Nat.mul_assoc]; omega
  have h4 : q * T < H + 1 := Nat.lt_of_mul_lt_mul_right h3
  have h5 : q * (top * 1000000000) ≤ q * T := Nat.mul_le_mul_left _ (by omega)
  have h6 : (q * top) * 1000000000 < (head + 1) * 1000000000 := by rw [Nat.mul_assoc]; omega
  have := Nat.lt_of_mul_lt_mul_right h6
  omega

/-- the loop's test says yes: the guess is too great -/
theorem guess_step {q g rest X Y P top head x2 xl T H yl second : Nat} (hq : q * Y ≤ X) (hXY : X < Y * 1000000000) (hY : Y = T * P + yl) (hT : T = top * 1000000000 + second)
    (hX : X = H * P + xl) (hxl : xl < P) (hH : H = head * 1000000000 + x2) (hg : g * top + rest = head)
    (hc : 1000000000 ≤ g ∨ rest * 1000000000 + x2 < g * second) : q < g := by
  rcases hc with hc | hc
  · have h1 : q * Y < 1000000000 * Y := by rw [Nat.mul_comm 1000000000]; omega
    have := Nat.lt_of_mul_lt_mul_right h1
    omega
  · apply Nat.lt_of_not_le
    intro hle
    have h0 : g * Y ≤ X := Nat.le_trans (Nat.mul_le_mul_right _ hle) hq
    have h1 : g * (T * P) ≤ g * Y := Nat.mul_le_mul_left _ (by omega)
    have h2 : X < (H + 1) * P := by rw [hX, Nat.add_mul]; omega
    have h3 : (g * T) * P < (H + 1) * P := by rw [Nat.mul_assoc]; omega
    have h4 : g * T < H + 1 := Nat.lt_of_mul_lt_mul_right h3
    have h5 : g * T = g * top * 1000000000 + g * second := by rw [hT, Nat.mul_add, Nat.mul_assoc]
    have h6 : head * 1000000000 = g * top * 1000000000 + rest * 1000000000 := by rw [← hg, Nat.add_mul]
    omega

/-- the loop has ended: the guess is at most one too great -/
theorem guess_end {g rest X Y P top head x2 xl T H yl second : Nat} (hY : Y = T * P + yl) (hyl : yl < P) (hT : T = top * 1000000000 + second) (hs : second < 1000000000) (ht : 1 ≤ top)
    (hX : X = H * P + xl) (hH : H = head * 1000000000 + x2) (hg : g * top + rest = head) (hgB : g ≤ 1000000000)
    (hc : g * second ≤ rest * 1000000000 + x2 ∨ 1000000000 ≤ rest) : (g - 1) * Y ≤ X := by
  have h5 : g * T = g * top * 1000000000 + g * second := by rw [hT, Nat.mul_add, Nat.mul_assoc]
  have h6 : head * 1000000000 = g * top * 1000000000 + rest * 1000000000 := by rw [← hg, Nat.add_mul]
  have h7 : g * T ≤ H := by
    rcases hc with hc | hc
    · omega
    · have : g * second ≤ 1000000000 * second := Nat.mul_le_mul_right _ hgB
      have : 1000000000 * 1000000000 ≤ rest * 1000000000 := Nat.mul_le_mul_right _ hc
      omega
  have h8 : Y ≤ (T + 1) * P := by rw [hY, Nat.add_mul]; omega
  have h9 : (g - 1) * Y ≤ (g - 1) * ((T + 1) * P) := Nat.mul_le_mul_left _ h8
  have h10 : (g - 1) * (T + 1) ≤ H := by
    rcases Nat.eq_zero_or_pos g with h0 | h0
    · subst h0; simp
    · obtain ⟨k, rfl⟩ : ∃ k, g = k + 1 := ⟨g - 1, by omega⟩
      simp only [Nat.add_sub_cancel, Nat.mul_add, Nat.mul_one, Nat.add_mul, Nat.one_mul] at h7 ⊢
      omega
  have h11 : (g - 1) * ((T + 1) * P) ≤ H * P := by rw [← Nat.mul_assoc]; exact Nat.mul_le_mul_right _ h10
  omega

/-- the first guess is at most the base plus one -/
theorem guess_first_le {x0 x1 top : Nat} (hx0 : x0 ≤ top) (hx1 : x1 < 1000000000) (ht : 500000000 ≤ top) : (x0 * 1000000000 + x1) / top ≤ 1000000001 := by
  apply Nat.le_of_lt_succ
  rw [Nat.div_lt_iff_lt_mul (by omega)]
  omega

theorem take_set_drop {zs : List Nat} {off k d : Nat} : ((zs.set (off + k) d).drop off).take k = (zs.drop off).take k := by
  apply List.ext_getElem?
  intro j
  by_cases hj : j < k
  · rw [List.getElem?_take_of_lt hj, List.getElem?_take_of_lt hj, List.getElem?_drop, List.getElem?_drop, List.getElem?_set_ne (by omega)]
  · rw [List.getElem?_take_eq_none (by omega), List.getElem?_take_eq_none (by omega)]

theorem drop_getD {zs : List Nat} {off k z : Nat} (h : zs[off + k]? = some z) : (zs.drop off).getD k 0 = z := by
  rw [List.getD_eq_getElem?_getD, List.getElem?_drop, h]; rfl

/-- a round of subtract -/
theorem sub_step {xs zs ys : List Nat} {off k z d f ca bo ca' bo' : Nat} (hz : zs[off + k]? = some z) (hxz : xs[off + k]? = some z)
    (hinv : val ((zs.drop off).take k) + f * val (ys.take k) = val ((xs.drop off).take k) + 1000000000 ^ k * (ca + bo))
    (hd : d + f * ys.getD k 0 + (ca + bo) = z + 1000000000 * (ca' + bo')) :
    val (((zs.set (off + k) d).drop off).take (k + 1)) + f * val (ys.take (k + 1)) = val ((xs.drop off).take (k + 1)) + 1000000000 ^ (k + 1) * (ca' + bo') := by
  have hlt : off + k < zs.length := (List.getElem?_eq_some_iff.1 hz).1
  rw [val_take_succ, val_take_succ, val_take_succ, take_set_drop, drop_getD hxz, drop_getD (z := d) (by rw [List.getElem?_set_self hlt]), Nat.pow_succ, Nat.mul_add f]
  have h1 : 1000000000 ^ k * d + 1000000000 ^ k * (f * ys.getD k 0) + 1000000000 ^ k * (ca + bo) = 1000000000 ^ k * z + 1000000000 ^ k * 1000000000 * (ca' + bo') := by
    rw [Nat.mul_assoc, ← Nat.mul_add, ← Nat.mul_add, ← Nat.mul_add, hd]
  have h2 : f * (1000000000 ^ k * ys.getD k 0) = 1000000000 ^ k * (f * ys.getD k 0) := by rw [← Nat.mul_assoc, Nat.mul_comm f, Nat.mul_assoc]
  rw [h2]
  omega

/-- a round of restore -/
theorem restore_step {xs zs ys : List Nat} {off k z d ca ca' : Nat} (hz : zs[off + k]? = some z) (hxz : xs[off + k]? = some z)
    (hinv : val ((zs.drop off).take k) + 1000000000 ^ k * ca = val ((xs.drop off).take k) + val (ys.take k))
    (hd : d + 1000000000 * ca' = z + ys.getD k 0 + ca) :
    val (((zs.set (off + k) d).drop off).take (k + 1)) + 1000000000 ^ (k + 1) * ca' = val ((xs.drop off).take (k + 1)) + val (ys.take (k + 1)) := by
  have hlt : off + k < zs.length := (List.getElem?_eq_some_iff.1 hz).1
  rw [val_take_succ, val_take_succ, val_take_succ, take_set_drop, drop_getD hxz, drop_getD (z := d) (by rw [List.getElem?_set_self hlt]), Nat.pow_succ]
  have h1 : 1000000000 ^ k * d + 1000000000 ^ k * 1000000000 * ca' = 1000000000 ^ k * z + 1000000000 ^ k * ys.getD k 0 + 1000000000 ^ k * ca := by
    rw [Nat.mul_assoc, ← Nat.mul_add, hd, Nat.mul_add, Nat.mul_add]
  omega

end Bi
