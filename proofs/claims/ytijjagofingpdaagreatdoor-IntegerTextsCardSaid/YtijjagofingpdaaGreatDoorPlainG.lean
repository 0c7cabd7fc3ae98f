import Derived.Test.YtijjagofingpdaaGreatDoorPlainN
namespace Bi

/-- what the guess of a digit q of the quotient needs -/
structure Guess (top second x2 head q : Nat) : Prop where
  lt : q < 1000000000
  init : q * top ≤ head
  step : ∀ g rest, g * top + rest = head → (1000000000 ≤ g ∨ rest * 1000000000 + x2 < g * second) → q < g
  fin : ∀ g rest, g * top + rest = head → g ≤ 1000000000 → (g * second ≤ rest * 1000000000 + x2 ∨ 1000000000 ≤ rest) → g ≤ q + 1

theorem head_le {x0 x1 x2 top second P xl yl X Y : Nat} (hX : X = ((x0 * 1000000000 + x1) * 1000000000 + x2) * P + xl) (hY : Y = (top * 1000000000 + second) * P + yl) (hyl : yl < P) (hs : second < 1000000000)
    (hlt : X < Y * 1000000000) : x0 ≤ top := by
  have h1 : (x0 * 1000000000 * 1000000000) * P ≤ ((x0 * 1000000000 + x1) * 1000000000 + x2) * P := Nat.mul_le_mul_right _ (by omega)
  have h2 : (top * 1000000000 + second + 1) * P ≤ ((top + 1) * 1000000000) * P := Nat.mul_le_mul_right _ (by omega)
  rw [Nat.add_mul (top * 1000000000 + second), Nat.one_mul] at h2
  have h3 : Y * 1000000000 ≤ ((top + 1) * 1000000000) * P * 1000000000 := Nat.mul_le_mul_right _ (by omega)
  rw [Nat.mul_right_comm] at h3
  have h4 : (x0 * 1000000000 * 1000000000) * P < ((top + 1) * 1000000000 * 1000000000) * P := by omega
  have := Nat.lt_of_mul_lt_mul_right h4
  omega

theorem guess_of {ss ys : List Nat} {k x0 x1 x2 top second : Nat} (hos : Ok ss) (hoy : Ok ys) (hsl : ss.length = k + 3) (hyl : ys.length = k + 2)
    (h0 : ss[k + 2]? = some x0) (h1 : ss[k + 1]? = some x1) (h2 : ss[k]? = some x2) (ht : ys[k + 1]? = some top) (hs : ys[k]? = some second) (ht1 : 1 ≤ top) (hlt : val ss < val ys * 1000000000) :
    Guess top second x2 (x0 * 1000000000 + x1) (val ss / val ys) ∧ x0 ≤ top := by
  have hX := val_three hsl h0 h1 h2
  have hY := val_two hyl ht hs
  have bxl := val_take_lt hos (k := k) (by omega)
  have byl := val_take_lt hoy (k := k) (by omega)
  have b2 := hos.at' h2
  have bs := hoy.at' hs
  have hY0 : 0 < val ys := by
    rcases Nat.eq_zero_or_pos (val ys) with h | h
    · rw [h] at hlt; omega
    · exact h
  have hq : val ss / val ys * val ys ≤ val ss := Nat.div_mul_le_self _ _
  have hq2 : val ss < (val ss / val ys + 1) * val ys := by rw [Nat.mul_comm]; exact Nat.lt_mul_div_succ _ hY0
  generalize val ss / val ys = q at *
  refine ⟨⟨?_, ?_, ?_, ?_⟩, head_le hX hY byl bs hlt⟩
  · have : q * val ys < 1000000000 * val ys := by rw [Nat.mul_comm 1000000000]; omega
    exact Nat.lt_of_mul_lt_mul_right this
  · exact guess_init hq hY rfl hX bxl rfl b2
  · intro g rest hg hc
    exact guess_step hq hlt hY rfl hX bxl rfl hg hc
  · intro g rest hg hgB hc
    have h5 := guess_end hY byl rfl bs ht1 hX rfl hg hgB hc
    have h3 : (g - 1) * val ys < (q + 1) * val ys := by omega
    have := Nat.lt_of_mul_lt_mul_right h3
    omega

theorem seg_len {zs : List Nat} {i m : Nat} (h : i + m ≤ zs.length) : ((zs.drop i).take m).length = m := by simp; omega
theorem seg_get {zs : List Nat} {i m j x : Nat} (hj : j < m) (h : zs[i + j]? = some x) : ((zs.drop i).take m)[j]? = some x := by
  rw [List.getElem?_take_of_lt hj, List.getElem?_drop]; exact h

theorem round_start {zs ys : List Nat} {i k J : Nat} (hz : i + (k + 3) ≤ zs.length) (hoy : Ok ys) (hyl : ys.length = k + 2) (hJ : J = i + 1) (hlt : val zs < val ys * 1000000000 ^ J) :
    val ((zs.drop i).take (k + 3)) < val ys * 1000000000 ∧ val (zs.drop (i + (k + 3))) = 0 := by
  subst hJ
  have h1 := val_lt hoy
  rw [hyl] at h1
  have h2 : val ys * 1000000000 ^ (i + 1) ≤ 1000000000 ^ (k + 2) * 1000000000 ^ (i + 1) := Nat.mul_le_mul_right _ (by omega)
  rw [← Nat.pow_add, show k + 2 + (i + 1) = i + (k + 3) by omega] at h2
  have h3 := seg_high hz hlt h2
  refine ⟨?_, h3⟩
  have h4 := val_seg hz
  rw [h3, Nat.mul_zero, Nat.add_zero] at h4
  have h5 : 1000000000 ^ i * val ((zs.drop i).take (k + 3)) < 1000000000 ^ i * (val ys * 1000000000) := by
    rw [Nat.pow_succ, ← Nat.mul_assoc, Nat.mul_comm (val ys), Nat.mul_assoc] at hlt
    omega
  exact Nat.lt_of_mul_lt_mul_left h5

theorem drop_set_self {qs : List Nat} {i q : Nat} (h : i < qs.length) : (qs.set i q).drop i = q :: qs.drop (i + 1) := by
  rw [List.drop_eq_getElem_cons (by simpa using h), List.getElem_set_self]
  congr 1
  exact same_drop fun j hj => List.getElem?_set_ne (by omega)

theorem round_end {zs zs' ys qs : List Nat} {i m q V J J' : Nat} (hm : i + m ≤ zs.length) (hl : zs'.length = zs.length) (hfix : ∀ j, (j < i ∨ i + m ≤ j) → zs'[j]? = zs[j]?) (hz0 : val (zs.drop (i + m)) = 0) (ho : Ok zs)
    (hX : val ((zs'.drop i).take m) + q * val ys = val ((zs.drop i).take m)) (hlt : val ((zs'.drop i).take m) < val ys) (hqi : i < qs.length) (hJ : J = i) (hJ' : J' = i + 1)
    (hI : val zs + val ys * (1000000000 ^ J' * val (qs.drop J')) = V) :
    val zs' + val ys * (1000000000 ^ J * val ((qs.set i q).drop J)) = V ∧ val zs' < val ys * 1000000000 ^ J := by
  subst hJ hJ'
  have e1 := val_seg hm
  have e2 := val_seg (l := zs') (j := J) (m := m) (by omega)
  rw [same_take (fun j hj => hfix j (.inl hj)), same_drop (fun j hj => hfix j (.inr hj))] at e2
  rw [hz0, Nat.mul_zero, Nat.add_zero] at e1 e2
  have hb := val_take_lt ho (k := J) (by omega)
  rw [drop_set_self hqi]
  generalize val (zs.take J) = A at *
  generalize val ((zs'.drop J).take m) = X' at *
  generalize val ((zs.drop J).take m) = X at *
  generalize val ys = Y at *
  generalize hT : val (qs.drop (J + 1)) = T at *
  generalize hP : 1000000000 ^ J = P at *
  have hp : 1000000000 ^ (J + 1) = P * 1000000000 := by rw [Nat.pow_succ, hP]
  rw [hp] at hI
  refine ⟨?_, ?_⟩
  · rw [val, hT]
    subst hX
    rw [e2, ← hI, e1]
    have a1 : Y * (P * (q + 1000000000 * T)) = P * (q * Y) + Y * (P * 1000000000 * T) := by
      rw [Nat.mul_add, Nat.mul_add, ← Nat.mul_assoc P 1000000000 T]
      congr 1
      rw [Nat.mul_left_comm, Nat.mul_comm Y q]
    have a2 : P * (X' + q * Y) = P * X' + P * (q * Y) := Nat.mul_add _ _ _
    rw [a1, a2]; omega
  · rw [e2]
    have : P * (X' + 1) ≤ P * Y := Nat.mul_le_mul_left _ hlt
    rw [Nat.mul_add, Nat.mul_comm P Y] at this
    omega

theorem pos_of_lt_mul {a b c : Nat} (h : a < b * c) : 0 < b := by
  rcases Nat.eq_zero_or_pos b with h0 | h0
  · subst h0; omega
  · exact h0

theorem val_lt_pow {l : List Nat} {k : Nat} (ho : Ok l) (h : l.length = k + 2) : val l < 1000000000 ^ (k + 3) := by
  have h1 := val_lt ho
  rw [h] at h1
  exact Nat.lt_of_lt_of_le h1 (Nat.pow_le_pow_right (by omega) (by omega))

theorem seg_lt {zs : List Nat} {i m : Nat} (ho : Ok zs) (h : i + m ≤ zs.length) : val ((zs.drop i).take m) < 1000000000 ^ m := by
  have := val_lt ((ho.drop i).take m)
  rwa [seg_len h] at this

/-- the guess was right -/
theorem sub_no {X X' Y g q P : Nat} (hq1 : q ≤ g) (hq : q = X / Y) (hY : 0 < Y) (h0 : X' + g * Y = X + P * 0) : g = q ∧ X' + q * Y = X ∧ X' < Y := by
  have h : X' + g * Y = X := by rw [h0]; omega
  have h1 : g ≤ q := by rw [hq, Nat.le_div_iff_mul_le hY]; omega
  obtain rfl : g = q := by omega
  have h2 : X < Y * (X / Y + 1) := Nat.lt_mul_div_succ _ hY
  rw [← hq, Nat.mul_add, Nat.mul_comm Y g] at h2
  exact ⟨rfl, h, by omega⟩

/-- the guess was one too great -/
theorem sub_yes {X X' X2 Y g q P ca : Nat} (hq1 : q ≤ g) (hq2 : g ≤ q + 1) (hq : q = X / Y) (hY : 0 < Y) (_hYP : Y < P) (hX' : X' < P) (hX2 : X2 < P) (hca : ca ≤ 1) (h0 : X' + g * Y = X + P * 1) (h2 : X2 + P * ca = X' + Y) :
    g = q + 1 ∧ X2 + q * Y = X ∧ X2 < Y := by
  have h : X' + g * Y = X + P := by rw [h0]; omega
  have h3 : X < Y * (X / Y + 1) := Nat.lt_mul_div_succ _ hY
  have h5 : q * Y ≤ X := by rw [hq]; exact Nat.div_mul_le_self _ _
  rw [← hq, Nat.mul_add, Nat.mul_comm Y q] at h3
  have h4 : g = q + 1 := by
    rcases Nat.lt_or_ge q g with h4 | h4
    · omega
    · obtain rfl : g = q := by omega
      omega
  subst h4
  rw [Nat.add_mul] at h
  rcases (show ca = 0 ∨ ca = 1 by omega) with rfl | rfl
  · omega
  · exact ⟨rfl, by omega, by omega⟩

end Bi
