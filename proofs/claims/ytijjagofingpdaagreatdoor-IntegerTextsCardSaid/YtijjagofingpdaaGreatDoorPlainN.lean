import Derived.Test.YtijjagofingpdaaGreatDoorPlainK
namespace Bi

/-- the normalised first limb is at least half of the base -/
theorem norm_top {t : Nat} (h1 : 1 ≤ t) (h2 : t < 1000000000) : 500000000 ≤ t * (1000000000 / (t + 1)) := by
  have hd : 1 ≤ 1000000000 / (t + 1) := by
    rw [Nat.le_div_iff_mul_le (by omega)]; omega
  generalize hD : 1000000000 / (t + 1) = d at *
  have h3 : 1000000000 < (d + 1) * (t + 1) := by
    have := Nat.lt_mul_div_succ 1000000000 (show 0 < t + 1 by omega)
    rw [hD] at this
    rw [Nat.mul_comm]; exact this
  rw [Nat.add_mul, Nat.one_mul, Nat.mul_add, Nat.mul_one] at h3
  have h4 : d + t ≤ d * t + 1 := by
    obtain ⟨a, rfl⟩ : ∃ a, d = a + 1 := ⟨d - 1, by omega⟩
    obtain ⟨b, rfl⟩ : ∃ b, t = b + 1 := ⟨t - 1, by omega⟩
    rw [Nat.add_mul, Nat.mul_add]
    have : 0 ≤ a * b := Nat.zero_le _
    omega
  have h5 : t * d = d * t := Nat.mul_comm _ _
  omega

theorem val_split (l : List Nat) (k : Nat) (h : k ≤ l.length) : val l = val (l.take k) + 1000000000 ^ k * val (l.drop k) := by
  have := val_append (l.take k) (l.drop k)
  rw [List.take_append_drop, List.length_take, Nat.min_eq_left h] at this
  exact this

theorem val_top {l : List Nat} {n x : Nat} (hl : l.length = n + 1) (hx : l[n]? = some x) : val l = val (l.take n) + 1000000000 ^ n * x := by
  rw [val_split l n (by omega)]
  have : l.drop n = [x] := by
    obtain ⟨h, e⟩ := List.getElem?_eq_some_iff.1 hx
    rw [List.drop_eq_getElem_cons h, e, List.drop_eq_nil_of_le (by omega)]
  rw [this]; simp [val]

theorem val_take_lt {l : List Nat} (ho : Ok l) {k : Nat} (h : k ≤ l.length) : val (l.take k) < 1000000000 ^ k := by
  have := val_lt (ho.take k)
  rwa [List.length_take, Nat.min_eq_left h] at this

/-- the divisor, scaled, keeps its length -/
theorem norm_fit {v : List Nat} {n t : Nat} (ho : Ok v) (hl : v.length = n + 1) (ht : v[n]? = some t) : val v * (1000000000 / (t + 1)) < 1000000000 ^ (n + 1) := by
  have h1 := val_take_lt ho (k := n) (by omega)
  rw [val_top hl ht, Nat.pow_succ]
  have h2 : (1000000000 / (t + 1)) * (t + 1) ≤ 1000000000 := Nat.div_mul_le_self _ _
  have hd : 1 ≤ 1000000000 / (t + 1) := by
    have := ho.at' ht
    rw [Nat.le_div_iff_mul_le (by omega)]; omega
  generalize 1000000000 / (t + 1) = d at *
  have h3 : (val (v.take n) + 1000000000 ^ n * t) * d < (1000000000 ^ n * (t + 1)) * d := by
    apply Nat.mul_lt_mul_of_pos_right _ hd
    rw [Nat.mul_add]; omega
  have h4 : (1000000000 ^ n * (t + 1)) * d ≤ 1000000000 ^ n * 1000000000 := by
    rw [Nat.mul_assoc, Nat.mul_comm (t + 1)]
    exact Nat.mul_le_mul_left _ h2
  omega

/-- and its first limb is at least half of the base -/
theorem norm_half {v ys : List Nat} {n t y : Nat} (ho : Ok v) (hoy : Ok ys) (hl : v.length = n + 1) (hly : ys.length = n + 1) (ht : v[n]? = some t) (ht0 : t ≠ 0) (hy : ys[n]? = some y) (hv : val ys = val v * (1000000000 / (t + 1))) : 500000000 ≤ y := by
  have h1 := norm_top (t := t) (by omega) (ho.at' ht)
  have h2 := val_take_lt hoy (k := n) (by omega)
  rw [val_top hly hy, val_top hl ht, Nat.add_mul] at hv
  generalize 1000000000 / (t + 1) = d at *
  have h3 : 1000000000 ^ n * (t * d) < 1000000000 ^ n * (y + 1) := by
    rw [Nat.mul_add, ← Nat.mul_assoc]; omega
  have := Nat.lt_of_mul_lt_mul_left h3
  omega

/-- a number by its lower limbs, m limbs from j on, and the rest -/
theorem val_seg {l : List Nat} {j m : Nat} (h : j + m ≤ l.length) : val l = val (l.take j) + 1000000000 ^ j * val ((l.drop j).take m) + 1000000000 ^ (j + m) * val (l.drop (j + m)) := by
  rw [val_split l j (by omega), val_split (l.drop j) m (by simp; omega), List.drop_drop, Nat.mul_add, ← Nat.mul_assoc, ← Nat.pow_add]
  omega

/-- no limb behind the m from j on -/
theorem seg_high {l : List Nat} {j m P : Nat} (h : j + m ≤ l.length) (hlt : val l < P) (hP : P ≤ 1000000000 ^ (j + m)) : val (l.drop (j + m)) = 0 := by
  have h1 := val_seg h
  rcases Nat.eq_zero_or_pos (val (l.drop (j + m))) with h0 | h0
  · exact h0
  · have : 1000000000 ^ (j + m) * 1 ≤ 1000000000 ^ (j + m) * val (l.drop (j + m)) := Nat.mul_le_mul_left _ h0
    omega

theorem same_drop {a b : List Nat} {k : Nat} (h : ∀ j, k ≤ j → a[j]? = b[j]?) : a.drop k = b.drop k := by
  apply List.ext_getElem?
  intro j
  rw [List.getElem?_drop, List.getElem?_drop]
  exact h _ (by omega)

theorem same_take {a b : List Nat} {k : Nat} (h : ∀ j, j < k → a[j]? = b[j]?) : a.take k = b.take k := by
  apply List.ext_getElem?
  intro j
  by_cases hj : j < k
  · rw [List.getElem?_take_of_lt hj, List.getElem?_take_of_lt hj]; exact h j hj
  · rw [List.getElem?_take_eq_none (by omega), List.getElem?_take_eq_none (by omega)]

/-- the three first limbs -/
theorem val_three {l : List Nat} {n x0 x1 x2 : Nat} (hl : l.length = n + 3) (h0 : l[n + 2]? = some x0) (h1 : l[n + 1]? = some x1) (h2 : l[n]? = some x2) :
    val l = ((x0 * 1000000000 + x1) * 1000000000 + x2) * 1000000000 ^ n + val (l.take n) := by
  have e := val_take_succ l n
  have e1 := val_take_succ l (n + 1)
  have e2 := val_take_succ l (n + 2)
  rw [getD_of h2] at e
  rw [getD_of h1, Nat.pow_succ] at e1
  rw [getD_of h0, Nat.pow_succ, Nat.pow_succ] at e2
  rw [List.take_of_length_le (by omega)] at e2
  rw [e2, e1, e, Nat.add_mul, Nat.add_mul, Nat.add_mul]
  have a1 : x0 * 1000000000 * 1000000000 * 1000000000 ^ n = 1000000000 ^ n * 1000000000 * 1000000000 * x0 := by
    rw [Nat.mul_comm, Nat.mul_comm x0, Nat.mul_comm (1000000000 * x0), ← Nat.mul_assoc, ← Nat.mul_assoc]
  have a2 : x1 * 1000000000 * 1000000000 ^ n = 1000000000 ^ n * 1000000000 * x1 := by
    rw [Nat.mul_comm, Nat.mul_comm x1, ← Nat.mul_assoc]
  have a3 : x2 * 1000000000 ^ n = 1000000000 ^ n * x2 := Nat.mul_comm _ _
  omega

theorem val_two {l : List Nat} {n x0 x1 : Nat} (hl : l.length = n + 2) (h0 : l[n + 1]? = some x0) (h1 : l[n]? = some x1) :
    val l = (x0 * 1000000000 + x1) * 1000000000 ^ n + val (l.take n) := by
  have e := val_take_succ l n
  have e1 := val_take_succ l (n + 1)
  rw [getD_of h1] at e
  rw [getD_of h0, Nat.pow_succ] at e1
  rw [List.take_of_length_le (by omega)] at e1
  rw [e1, e, Nat.add_mul]
  have a2 : x0 * 1000000000 * 1000000000 ^ n = 1000000000 ^ n * 1000000000 * x0 := by
    rw [Nat.mul_comm, Nat.mul_comm x0, ← Nat.mul_assoc]
  have a3 : x1 * 1000000000 ^ n = 1000000000 ^ n * x1 := Nat.mul_comm _ _
  omega

/-- the loop's bound at its start -/
theorem div_start {u v : List Nat} {k M t d : Nat} (hou : Ok u) (hul : u.length = M + (k + 2)) (hvl : v.length = k + 2) (ht : v[k + 1]? = some t) (ht0 : t ≠ 0) (hd : 1 ≤ d) : val u * d < val v * d * 1000000000 ^ (M + 1) := by
  rw [Nat.mul_assoc, Nat.mul_comm d, ← Nat.mul_assoc]
  apply Nat.mul_lt_mul_of_pos_right _ hd
  have h1 := val_lt hou
  rw [hul, show M + (k + 2) = (k + 1) + (M + 1) by omega, Nat.pow_add] at h1
  have h2 : 1000000000 ^ (k + 1) * 1 ≤ val v := by
    rw [val_top (n := k + 1) hvl ht]
    have : 1000000000 ^ (k + 1) * 1 ≤ 1000000000 ^ (k + 1) * t := Nat.mul_le_mul_left _ (by omega)
    omega
  have h3 := Nat.mul_le_mul_right (1000000000 ^ (M + 1)) h2
  rw [Nat.mul_one] at h3
  omega

theorem div_begin {xs ys : List Nat} {J L V : Nat} (hJ : L ≤ J) (hx : val xs = V) : val xs + val ys * (1000000000 ^ J * val ((List.replicate L 0).drop J)) = V := by
  rw [List.drop_eq_nil_of_le (by simpa using hJ)]
  simp [val, hx]

theorem div_start' {u v xs ys : List Nat} {k M t d J : Nat} (hou : Ok u) (hul : u.length = M + (k + 2)) (hvl : v.length = k + 2) (ht : v[k + 1]? = some t) (ht0 : t ≠ 0) (hd : 1 ≤ d) (hx : val xs = val u * d) (hy : val ys = val v * d) (hJ : J = M + 1) :
    val xs < val ys * 1000000000 ^ J := by
  rw [hx, hy, hJ]; exact div_start hou hul hvl ht ht0 hd

/-- the loop has ended: quotient and remainder -/
theorem div_end {Z Q m n d : Nat} (hd : 1 ≤ d) (h1 : Z + n * d * Q = m * d) (h2 : Z < n * d) : Q = m / n ∧ Z / d = m % n := by
  have hn : 0 < n := by
    rcases Nat.eq_zero_or_pos n with h | h
    · subst h; simp at h2
    · exact h
  have e1 : n * d * Q = (n * Q) * d := by rw [Nat.mul_assoc, Nat.mul_comm d, ← Nat.mul_assoc]
  rw [e1] at h1
  have h3 : n * Q ≤ m := by
    apply Nat.le_of_mul_le_mul_right _ (show 0 < d by omega)
    omega
  obtain ⟨r, rfl⟩ : ∃ r, m = n * Q + r := ⟨m - n * Q, by omega⟩
  rw [Nat.add_mul] at h1
  have hZ : Z = r * d := by omega
  have hr : r < n := by
    rw [hZ] at h2
    exact Nat.lt_of_mul_lt_mul_right h2
  subst hZ
  rw [Nat.mul_add_div hn, Nat.div_eq_of_lt hr, Nat.mul_add_mod, Nat.mod_eq_of_lt hr, Nat.mul_div_cancel _ (by omega)]
  exact ⟨by omega, rfl⟩

theorem val_take_small {l : List Nat} {k : Nat} (hk : k ≤ l.length) (h : val l < 1000000000 ^ k) : val (l.take k) = val l := by
  have h1 := val_split l k hk
  rcases Nat.eq_zero_or_pos (val (l.drop k)) with h0 | h0
  · rw [h0] at h1; omega
  · have : 1000000000 ^ k * 1 ≤ 1000000000 ^ k * val (l.drop k) := Nat.mul_le_mul_left _ h0
    omega

end Bi
