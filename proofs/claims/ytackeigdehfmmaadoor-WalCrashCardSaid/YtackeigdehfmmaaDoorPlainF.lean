import Derived.Test.YtackeigdehfmmaaDoorPlainT
/-! the digits of an integer, limb by limb, plain -/
namespace Bi
open Go.Lib (decDigits nDigits)

/-- the last k digits of x -/
def lastD : Nat → Nat → List UInt8
  | 0, _ => []
  | k + 1, x => lastD k (x / 10) ++ [UInt8.ofNat (48 + x % 10)]

theorem lastD_length : ∀ (k x : Nat), (lastD k x).length = k
  | 0, _ => rfl
  | k + 1, x => by simp [lastD, lastD_length k]

theorem dec_split : ∀ (k n x : Nat), 0 < n → x < 10 ^ k → decDigits (n * 10 ^ k + x) = decDigits n ++ lastD k x
  | 0, n, x, _, h => by
    have : x = 0 := by simpa using h
    subst this
    simp [lastD]
  | k + 1, n, x, hn, h => by
    have h1 : 10 ≤ n * 10 ^ (k + 1) := by
      have h2 : 1 ≤ 10 ^ k := Nat.one_le_pow _ _ (by decide)
      have h3 : 1 * 10 ≤ n * 10 ^ (k + 1) := Nat.mul_le_mul hn (by rw [Nat.pow_succ]; omega)
      omega
    rw [decDigits, dif_neg (by omega)]
    have e1 : (n * 10 ^ (k + 1) + x) / 10 = n * 10 ^ k + x / 10 := by
      rw [Nat.pow_succ, ← Nat.mul_assoc]
      omega
    have e2 : (n * 10 ^ (k + 1) + x) % 10 = x % 10 := by
      rw [Nat.pow_succ, ← Nat.mul_assoc]
      omega
    rw [e1, e2, dec_split k n (x / 10) hn (by rw [Nat.pow_succ] at h; omega), List.append_assoc]
    rfl

theorem lastD_zero : ∀ (k : Nat), lastD k 0 = List.replicate k 48
  | 0 => rfl
  | k + 1 => by
    rw [lastD, Nat.zero_div, lastD_zero k, List.replicate_succ']
    rfl

theorem lastD_dec : ∀ (k x : Nat), 1 ≤ k → x < 10 ^ k → List.replicate (k - nDigits x) 48 ++ decDigits x = lastD k x
  | 0, _, h, _ => by omega
  | k + 1, x, _, h => by
    by_cases hx : x < 10
    · rw [Go.Lib.nDigits_small hx, Go.Lib.decDigits_one hx, Nat.add_sub_cancel, lastD, Nat.div_eq_of_lt hx, lastD_zero, Nat.mod_eq_of_lt hx]
    · have hk : 1 ≤ k := by
        apply Nat.le_of_not_lt; intro h0
        have : k = 0 := by omega
        subst this
        simp at h; omega
      rw [Go.Lib.nDigits_big hx, decDigits, dif_neg hx, Nat.add_sub_add_right, ← List.append_assoc, lastD_dec k (x / 10) hk (by rw [Nat.pow_succ] at h; omega)]
      rfl

theorem lastD_front : ∀ (k x : Nat), lastD (k + 1) x = UInt8.ofNat (48 + x / 10 ^ k % 10) :: lastD k x
  | 0, x => by simp [lastD]
  | k + 1, x => by
    rw [lastD, lastD_front k (x / 10)]
    have : x / 10 / 10 ^ k = x / 10 ^ (k + 1) := by rw [Nat.div_div_eq_div_mul, Nat.pow_succ, Nat.mul_comm]
    rw [this, List.cons_append]
    rfl

theorem lastD_cat : ∀ (b a x y : Nat), x < 10 ^ b → lastD (a + b) (y * 10 ^ b + x) = lastD a y ++ lastD b x
  | 0, a, x, y, h => by
    have : x = 0 := by simpa using h
    subst this
    simp [lastD]
  | b + 1, a, x, y, h => by
    have e1 : (y * 10 ^ (b + 1) + x) / 10 = y * 10 ^ b + x / 10 := by
      rw [Nat.pow_succ, ← Nat.mul_assoc]; omega
    have e2 : (y * 10 ^ (b + 1) + x) % 10 = x % 10 := by
      rw [Nat.pow_succ, ← Nat.mul_assoc]; omega
    show lastD (a + b + 1) _ = _
    rw [lastD, e1, e2, lastD_cat b a (x / 10) y (by rw [Nat.pow_succ] at h; omega), List.append_assoc]
    rfl

/-- the digits are the last k where the number has k digits -/
theorem dec_last {k x : Nat} (h1 : x / 10 ^ k = 0) (h2 : k = 0 → x = 0) (h3 : k ≠ 0 → x / 10 ^ (k - 1) ≠ 0) (hx : x ≠ 0) : decDigits x = lastD k x := by
  have hk : 1 ≤ k := by
    apply Nat.le_of_not_lt; intro h
    exact hx (h2 (by omega))
  have hlt : x < 10 ^ k := by
    have := (Nat.div_eq_zero_iff_lt (Nat.pow_pos (by decide) : 0 < 10 ^ k)).1 h1
    exact this
  have hge : 10 ^ (k - 1) ≤ x := by
    apply Nat.le_of_not_lt; intro h
    exact h3 (by omega) (Nat.div_eq_of_lt h)
  obtain ⟨j, rfl⟩ : ∃ j, k = j + 1 := ⟨k - 1, by omega⟩
  have hn := Go.Lib.nDigits_unique j x (by simpa using hge) hlt
  rw [← lastD_dec (j + 1) x (by omega) hlt, hn]
  simp

/-- from the top: one limb more -/
theorem dec_limb {n x : Nat} (hn : 0 < n) (hx : x < 1000000000) : decDigits (x + 1000000000 * n) = decDigits n ++ (List.replicate (9 - nDigits x) 48 ++ decDigits x) := by
  rw [lastD_dec 9 x (by omega) (by simpa using hx), ← dec_split 9 n x hn (by simpa using hx)]
  congr 1
  omega

/-- from below: one limb more -/
theorem low_limb {k v x : Nat} (hv : v < 1000000000 ^ k) : lastD 9 x ++ lastD (9 * k) v = lastD (9 * (k + 1)) (v + 1000000000 ^ k * x) := by
  rw [pow9] at hv ⊢
  rw [show 9 * (k + 1) = 9 + 9 * k by omega, ← lastD_cat (9 * k) 9 v x hv]
  congr 1
  rw [Nat.mul_comm, Nat.add_comm]

theorem dec_low {k v x : Nat} (hv : v < 1000000000 ^ k) (hx : 0 < x) : decDigits x ++ lastD (9 * k) v = decDigits (v + 1000000000 ^ k * x) := by
  rw [pow9] at hv ⊢
  rw [← dec_split (9 * k) x v hx hv]
  congr 1
  rw [Nat.mul_comm, Nat.add_comm]

theorem drop_cons {L : List Nat} {i x : Nat} (hi : i < L.length) (hx : L.getD i 0 = x) : val (L.drop i) = x + 1000000000 * val (L.drop (i + 1)) := by
  rw [List.drop_eq_getElem_cons hi]
  rw [List.getD_eq_getElem?_getD, List.getElem?_eq_getElem hi] at hx
  simp only [Option.getD_some] at hx
  rw [hx]
  simp [val]

theorem drop_pos {n : Nat} {L : List Nat} (h : L = limbs n) {j : Nat} (hj : j < L.length) : 0 < val (L.drop j) := by
  rcases List.eq_nil_or_concat L with h0 | ⟨r, x, h0⟩
  · subst h0; simp at hj
  · rw [List.concat_eq_append] at h0
    subst h0
    obtain ⟨_, hx, _⟩ := dlen_limbs h
    rw [List.drop_append_of_le_length (by simp at hj; omega), val_snoc]
    have : 0 < 1000000000 ^ (r.drop j).length * x := Nat.mul_pos (Nat.pow_pos (by decide)) (by omega)
    omega

/-- the digits of the limbs from j on -/
def outT (L : List Nat) (j : Nat) : List UInt8 := if j < L.length then decDigits (val (L.drop j)) else []

theorem outT_len {L : List Nat} (h : val L < Big) (j : Nat) : (outT L j).length ≤ 300 := by
  unfold outT
  split
  · rw [Go.Lib.decDigits_length]
    have h1 : val (L.drop j) ≤ val L := by
      clear h
      induction j generalizing L with
      | zero => simp
      | succ i ih =>
        cases L with
        | nil => simp
        | cons x r =>
          have := ih (L := r) (by rename_i h; simpa using h)
          simp only [List.drop_succ_cons, val]
          omega
    by_cases h0 : val (L.drop j) = 0
    · rw [h0, Go.Lib.nDigits_small (by decide)]; decide
    · have h3 : ∀ a k : Nat, k = a + a → 10 ^ a * 10 ^ a = 10 ^ k := fun a k hk => by rw [hk, Nat.pow_add]
      obtain ⟨k, hk⟩ : ∃ k : Nat, k = 300 := ⟨_, rfl⟩
      rw [← hk]
      exact (nd_le h0).2 (Nat.lt_of_le_of_lt h1 (Nat.lt_of_lt_of_eq h (h3 150 k (by omega))))
  · simp

theorem outT_last {L : List Nat} {j z : Nat} (hj : j + 1 = L.length) (hz : L.getD j 0 = z) : outT L j = outT L (j + 1) ++ decDigits z := by
  unfold outT
  rw [if_pos (by omega), if_neg (by omega), drop_cons (by omega) hz, List.drop_eq_nil_of_le (by omega)]
  simp [val]

theorem outT_step {n : Nat} {L : List Nat} (h : L = limbs n) {j z : Nat} (hj : j + 1 < L.length) (hz : L.getD j 0 = z) (hz9 : z < 1000000000) : outT L j = outT L (j + 1) ++ (List.replicate (9 - nDigits z) 48 ++ decDigits z) := by
  unfold outT
  rw [if_pos (by omega), if_pos hj, drop_cons (by omega) hz, dec_limb (drop_pos h hj) hz9]

/-- what the reference has written before limb i -/
def refT (L : List Nat) (i : Nat) : List UInt8 := if i < L.length then lastD (9 * i) (val (L.take i)) else decDigits (val L)

theorem take_val {L : List Nat} {i z : Nat} (hi : i < L.length) (hz : L.getD i 0 = z) : val (L.take (i + 1)) = val (L.take i) + 1000000000 ^ i * z := by
  rw [List.getD_eq_getElem?_getD, List.getElem?_eq_getElem hi] at hz
  simp only [Option.getD_some] at hz
  rw [List.take_succ_eq_append_getElem hi, val_snoc, hz, List.length_take, Nat.min_eq_left (by omega)]

theorem take_lt {L : List Nat} (ho : Ok L) {i : Nat} (hi : i ≤ L.length) : val (L.take i) < 1000000000 ^ i := by
  have h : Ok (L.take i) := fun x hx => ho x (List.mem_of_mem_take hx)
  have := val_lt h
  rw [List.length_take, Nat.min_eq_left hi] at this
  exact this

theorem refT_step {L : List Nat} (ho : Ok L) {i z : Nat} (hi : i + 1 < L.length) (hz : L.getD i 0 = z) : lastD 9 z ++ refT L i = refT L (i + 1) := by
  unfold refT
  rw [if_pos (by omega), if_pos hi, low_limb (take_lt ho (by omega)), take_val (by omega) hz]

theorem refT_last {n : Nat} {L : List Nat} (h : L = limbs n) (ho : Ok L) {i z k : Nat} (hi : i + 1 = L.length) (hz : L.getD i 0 = z) (h1 : z / 10 ^ k = 0) (h3 : k = 0 ∨ z / 10 ^ (k - 1) ≠ 0) : lastD k z ++ refT L i = refT L (i + 1) := by
  have hz0 : z ≠ 0 := by
    have h2 := drop_pos h (j := i) (by omega)
    rw [drop_cons (by omega) hz, List.drop_eq_nil_of_le (by omega)] at h2
    simp [val] at h2
    omega
  have hk : k = 0 → z = 0 := by
    rintro rfl
    simpa using h1
  unfold refT
  rw [if_pos (by omega), if_neg (by omega), ← dec_last h1 hk (fun hk0 => by rcases h3 with h3 | h3; exact absurd h3 hk0; exact h3) hz0, dec_low (take_lt ho (by omega)) (by omega), ← take_val (by omega) hz, hi, List.take_length]

end Bi
