import Derived.Test.YtackeigdehfmmaaDoorPlain
import Derived.Lib.ItoaNum
namespace Bi
open Go.Lib (nDigits decDigits)

/-- 10^300: the least number with more than 300 digits -/
def Big : Nat := 10 ^ 150 * 10 ^ 150

theorem big_lt_limbs : Big ≤ 1000000000 ^ 34 := by
  unfold Big; decide +kernel

theorem big_ge_limbs : (1000000000 : Nat) ^ 33 ≤ Big := by
  unfold Big; decide +kernel

theorem nd_le {n k : Nat} (hn : n ≠ 0) : nDigits n ≤ k ↔ n < 10 ^ k := by
  have h1 := Go.Lib.lt_pow_nDigits n
  have h0 := Go.Lib.nDigits_pos n
  constructor
  · intro h
    exact Nat.lt_of_lt_of_le h1 (Nat.pow_le_pow_right (by decide) h)
  · intro h
    apply Nat.le_of_not_lt
    intro hk
    have h2 : 10 ^ (nDigits n - 1) ≤ n := by
      clear h h1 h0 hk
      induction n using Nat.strongRecOn with
      | _ n ih =>
        by_cases h : n < 10
        · rw [Go.Lib.nDigits_small h]; simp; omega
        · rw [Go.Lib.nDigits_big h]
          have := ih (n / 10) (by omega) (by omega)
          have hp := Go.Lib.nDigits_pos (n / 10)
          obtain ⟨j, hj⟩ : ∃ j, nDigits (n / 10) = j + 1 := ⟨nDigits (n / 10) - 1, by omega⟩
          rw [hj] at this ⊢
          simp only [Nat.add_sub_cancel] at this ⊢
          rw [Nat.pow_succ]; omega
    have h3 : 10 ^ k ≤ 10 ^ (nDigits n - 1) := Nat.pow_le_pow_right (by decide) (by omega)
    omega

theorem pow9 (m : Nat) : (1000000000 : Nat) ^ m = 10 ^ (9 * m) := by
  rw [show (1000000000 : Nat) = 10 ^ 9 from rfl, ← Nat.pow_mul]

/-- the number of digits by the last limb -/
theorem nd_limbs {l : List Nat} {x : Nat} (ho : Ok l) (hx : x ≠ 0) : nDigits (val (l ++ [x])) = 9 * l.length + nDigits x := by
  have h1 : 1 ≤ nDigits x := Go.Lib.nDigits_pos x
  have h2 := Go.Lib.lt_pow_nDigits x
  have h3 : 10 ^ (nDigits x - 1) ≤ x := by
    apply Nat.le_of_not_lt
    intro h
    have := (nd_le hx).2 h
    omega
  rw [val_snoc, pow9]
  have hv := val_lt ho
  rw [pow9] at hv
  obtain ⟨j, hj⟩ : ∃ j, nDigits x = j + 1 := ⟨nDigits x - 1, by omega⟩
  rw [hj] at h2 h3 ⊢
  simp only [Nat.add_sub_cancel] at h3
  rw [show 9 * l.length + (j + 1) = (9 * l.length + j) + 1 by omega]
  apply Go.Lib.nDigits_unique
  · rw [Nat.pow_add]
    have := Nat.mul_le_mul_left (10 ^ (9 * l.length)) h3
    omega
  · rw [Nat.add_assoc, Nat.pow_add]
    have : 10 ^ (9 * l.length) * (x + 1) ≤ 10 ^ (9 * l.length) * 10 ^ (j + 1) := Nat.mul_le_mul_left _ h2
    rw [Nat.mul_add, Nat.mul_one] at this
    omega

/-- what 'digits' answers -/
def dlen (n : Nat) : Nat := if n = 0 then 0 else nDigits n

theorem dlen_le {n : Nat} : dlen n ≤ 300 ↔ n < Big := by
  unfold dlen
  by_cases h : n = 0
  · subst h; simp [Big]
  · rw [if_neg h]
    have key : ∀ a b : Nat, nDigits n ≤ a + b ↔ n < 10 ^ a * 10 ^ b := by intro a b; rw [nd_le h, Nat.pow_add]
    exact key 150 150

theorem dlen_limbs {n : Nat} {l : List Nat} {x : Nat} (h : l ++ [x] = limbs n) : dlen n = 9 * l.length + nDigits x ∧ x ≠ 0 ∧ x < 1000000000 := by
  have hn : n ≠ 0 := by rintro rfl; rw [limbs_zero] at h; simp at h
  have ho : Ok (l ++ [x]) := by rw [h]; exact limbs_ok n
  have hc : Canon (l ++ [x]) := by rw [h]; exact limbs_canon n
  have hx : x ≠ 0 := by have := hc (by simp); simpa using this
  refine ⟨?_, hx, ho x (by simp)⟩
  unfold dlen
  rw [if_neg hn, ← nd_limbs ho.left hx, h, val_limbs]

theorem nd_small {x : Nat} (h : x < 1000000000) : nDigits x ≤ 9 := by
  by_cases h0 : x = 0
  · subst h0; rw [Go.Lib.nDigits_small (by decide)]; decide
  · rw [nd_le h0]; exact h

theorem dlen_step {y : Nat} (h : 0 < y) : dlen y = dlen (y / 10) + 1 := by
  unfold dlen
  rw [if_neg (by omega)]
  by_cases h2 : y < 10
  · rw [Go.Lib.nDigits_small h2, if_pos (by omega)]
  · rw [Go.Lib.nDigits_big h2, if_neg (by omega)]

/-! ### division -/

/-- a round of short: from above; q holds the quotient's limbs from i on -/
theorem short_step {u q : List Nat} {i v rest x : Nat} (_hv : 0 < v) (hi : i < u.length) (hql : q.length = u.length) (hx : u.getD i 0 = x) (hinv : val (q.drop (i + 1)) * v + rest = val (u.drop (i + 1))) :
    val ((q.set i ((rest * 1000000000 + x) / v)).drop i) * v + (rest * 1000000000 + x) % v = val (u.drop i) := by
  have h1 : (q.set i ((rest * 1000000000 + x) / v)).drop i = ((rest * 1000000000 + x) / v) :: q.drop (i + 1) := by
    rw [List.drop_eq_getElem_cons (by simp; omega)]
    simp only [List.getElem_set_self, List.cons.injEq, true_and]
    apply List.ext_getElem?
    intro j
    rw [List.getElem?_drop, List.getElem?_drop, List.getElem?_set_ne (by omega)]
  have h2 : u.drop i = x :: u.drop (i + 1) := by
    rw [List.drop_eq_getElem_cons hi]
    rw [List.getD_eq_getElem?_getD, List.getElem?_eq_getElem hi] at hx
    simp only [Option.getD_some] at hx
    rw [hx]
  rw [h1, h2]
  simp only [val]
  rw [← hinv, Nat.add_mul]
  have h3 := Nat.div_add_mod (rest * 1000000000 + x) v
  have h4 : (rest * 1000000000 + x) / v * v = v * ((rest * 1000000000 + x) / v) := Nat.mul_comm _ _
  have h5 : 1000000000 * val (q.drop (i + 1)) * v = 1000000000 * (val (q.drop (i + 1)) * v) := Nat.mul_assoc _ _ _
  rw [h4, h5]
  omega

theorem short_digit {rest v x : Nat} (hr : rest < v) (hv : v < 1000000000) (hx : x < 1000000000) : (rest * 1000000000 + x) / v < 1000000000 := by
  rw [Nat.div_lt_iff_lt_mul (by omega)]
  have : (rest + 1) * 1000000000 ≤ v * 1000000000 := Nat.mul_le_mul_right _ hr
  rw [Nat.mul_comm 1000000000 v]
  omega

theorem short_end {n v q r : Nat} (hr : r < v) (h : q * v + r = n) : q = n / v ∧ r = n % v := by
  have hv : 0 < v := by omega
  subst h
  constructor
  · rw [Nat.add_comm, Nat.add_mul_div_right _ _ hv, Nat.div_eq_of_lt hr]; omega
  · rw [Nat.add_comm, Nat.add_mul_mod_self_right, Nat.mod_eq_of_lt hr]

/-- a round of scaled -/
theorem scaled_step {o u : List Nat} {k c d s : Nat} (hk : k < o.length) (hs : s = c + u.getD k 0 * d) (hinv : val (o.take k) + 1000000000 ^ k * c = val (u.take k) * d) :
    val ((o.set k (s % 1000000000)).take (k + 1)) + 1000000000 ^ (k + 1) * (s / 1000000000) = val (u.take (k + 1)) * d := by
  have h1 : (o.set k (s % 1000000000)).take (k + 1) = o.take k ++ [s % 1000000000] := by
    rw [List.take_succ_eq_append_getElem (by simpa using hk)]
    simp only [List.getElem_set_self]
    congr 1
    apply List.ext_getElem?
    intro j
    by_cases hj : j < k
    · rw [List.getElem?_take_of_lt hj, List.getElem?_take_of_lt hj, List.getElem?_set_ne (by omega)]
    · rw [List.getElem?_eq_none (by simp; omega), List.getElem?_eq_none (by simp; omega)]
  rw [h1, val_snoc, val_take_succ, Nat.pow_succ, Nat.add_mul, List.length_take, Nat.min_eq_left (Nat.le_of_lt hk)]
  have h2 : 1000000000 ^ k * s = 1000000000 ^ k * (s % 1000000000) + 1000000000 ^ k * 1000000000 * (s / 1000000000) := by
    rw [Nat.mul_assoc, ← Nat.mul_add, Nat.mod_add_div]
  have h3 : 1000000000 ^ k * s = 1000000000 ^ k * c + 1000000000 ^ k * u.getD k 0 * d := by rw [hs, Nat.mul_add, Nat.mul_assoc]
  omega

end Bi
