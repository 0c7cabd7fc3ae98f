namespace Bi

def val : List Nat → Nat
  | [] => 0
  | x :: r => x + 1000000000 * val r

def Ok (l : List Nat) : Prop := ∀ x ∈ l, x < 1000000000

def trim : List Nat → List Nat
  | [] => []
  | x :: r => if trim r = [] then (if x = 0 then [] else [x]) else x :: trim r

def limbsF : Nat → Nat → List Nat
  | 0, _ => []
  | f + 1, n => if n = 0 then [] else (n % 1000000000) :: limbsF f (n / 1000000000)

def limbs (n : Nat) : List Nat := limbsF n n

theorem limbsF_enough : ∀ (f g n : Nat), n ≤ f → n ≤ g → limbsF f n = limbsF g n
  | 0, 0, _, _, _ => rfl
  | 0, g + 1, n, h, _ => by
    have : n = 0 := by omega
    subst this; simp [limbsF]
  | f + 1, 0, n, _, h => by
    have : n = 0 := by omega
    subst this; simp [limbsF]
  | f + 1, g + 1, n, hf, hg => by
    simp only [limbsF]
    split
    · rfl
    · rw [limbsF_enough f g (n / 1000000000) (by omega) (by omega)]

theorem limbs_zero : limbs 0 = [] := rfl

theorem limbs_pos {n : Nat} (h : n ≠ 0) : limbs n = (n % 1000000000) :: limbs (n / 1000000000) := by
  obtain ⟨m, rfl⟩ : ∃ m, n = m + 1 := ⟨n - 1, by omega⟩
  show limbsF (m + 1) (m + 1) = _
  simp only [limbsF, if_neg h]
  rw [show limbs ((m + 1) / 1000000000) = limbsF ((m + 1) / 1000000000) ((m + 1) / 1000000000) from rfl]
  rw [limbsF_enough m ((m + 1) / 1000000000) ((m + 1) / 1000000000) (by omega) (by omega)]

theorem limbs_cons {x n : Nat} (hx : x < 1000000000) (h : x + 1000000000 * n ≠ 0) : limbs (x + 1000000000 * n) = x :: limbs n := by
  rw [limbs_pos h]
  rw [show (x + 1000000000 * n) % 1000000000 = x by omega, show (x + 1000000000 * n) / 1000000000 = n by omega]

theorem Ok.nil : Ok [] := by simp [Ok]
theorem Ok.cons {x : Nat} {r : List Nat} (hx : x < 1000000000) (hr : Ok r) : Ok (x :: r) := by
  intro y hy
  rcases List.mem_cons.1 hy with rfl | hy
  · exact hx
  · exact hr y hy
theorem Ok.head {x : Nat} {r : List Nat} (h : Ok (x :: r)) : x < 1000000000 := h x (by simp)
theorem Ok.tail {x : Nat} {r : List Nat} (h : Ok (x :: r)) : Ok r := fun y hy => h y (by simp [hy])
theorem Ok.append {a b : List Nat} (ha : Ok a) (hb : Ok b) : Ok (a ++ b) := by
  intro y hy
  rcases List.mem_append.1 hy with hy | hy
  · exact ha y hy
  · exact hb y hy
theorem Ok.left {a b : List Nat} (h : Ok (a ++ b)) : Ok a := fun y hy => h y (by simp [hy])
theorem Ok.right {a b : List Nat} (h : Ok (a ++ b)) : Ok b := fun y hy => h y (by simp [hy])
theorem Ok.take {a : List Nat} (h : Ok a) (k : Nat) : Ok (a.take k) := fun y hy => h y (List.mem_of_mem_take hy)
theorem Ok.drop {a : List Nat} (h : Ok a) (k : Nat) : Ok (a.drop k) := fun y hy => h y (List.mem_of_mem_drop hy)
theorem Ok.get {a : List Nat} (h : Ok a) (k : Nat) (hk : k < a.length) : a[k] < 1000000000 := h _ (List.getElem_mem hk)
theorem Ok.at' {a : List Nat} (h : Ok a) {k x : Nat} (hk : a[k]? = some x) : x < 1000000000 := h x (List.mem_of_getElem? hk)
theorem Ok.getD {a : List Nat} (h : Ok a) (k : Nat) : a.getD k 0 < 1000000000 := by
  rw [List.getD_eq_getElem?_getD]
  by_cases hk : k < a.length
  · rw [List.getElem?_eq_getElem hk]; exact h.get k hk
  · rw [List.getElem?_eq_none (by omega)]; simp

theorem limbs_ok (n : Nat) : Ok (limbs n) := by
  induction n using Nat.strongRecOn with
  | _ n ih =>
    by_cases h : n = 0
    · subst h; exact Ok.nil
    · rw [limbs_pos h]; exact Ok.cons (by omega) (ih _ (by omega))

theorem val_limbs (n : Nat) : val (limbs n) = n := by
  induction n using Nat.strongRecOn with
  | _ n ih =>
    by_cases h : n = 0
    · subst h; rfl
    · rw [limbs_pos h, val, ih _ (by omega)]; omega

theorem trim_nil_iff {l : List Nat} : trim l = [] ↔ val l = 0 := by
  induction l with
  | nil => simp [trim, val]
  | cons x r ih =>
    simp only [trim, val]
    by_cases hr : trim r = []
    · rw [if_pos hr]
      have hv := ih.1 hr
      by_cases hx : x = 0
      · simp [hx, hv]
      · simp [hx]
    · rw [if_neg hr]
      have hv : val r ≠ 0 := fun h => hr (ih.2 h)
      simp; omega

theorem trim_eq_limbs {l : List Nat} (h : Ok l) : trim l = limbs (val l) := by
  induction l with
  | nil => rfl
  | cons x r ih =>
    have ih := ih h.tail
    have hx := h.head
    simp only [trim, val]
    by_cases hr : trim r = []
    · rw [if_pos hr]
      have hv := trim_nil_iff.1 hr
      rw [hv]
      by_cases hx0 : x = 0
      · simp [hx0, limbs_zero]
      · rw [if_neg hx0, Nat.mul_zero, Nat.add_zero]
        have := limbs_cons (n := 0) hx (by omega)
        simpa [limbs_zero] using this.symm
    · rw [if_neg hr]
      have hv : val r ≠ 0 := fun h => hr (trim_nil_iff.2 h)
      rw [limbs_cons hx (by omega), ih]

theorem val_trim {l : List Nat} (h : Ok l) : val (trim l) = val l := by rw [trim_eq_limbs h, val_limbs]
theorem trim_ok {l : List Nat} (h : Ok l) : Ok (trim l) := by rw [trim_eq_limbs h]; exact limbs_ok _
theorem trim_limbs (n : Nat) : trim (limbs n) = limbs n := by rw [trim_eq_limbs (limbs_ok n), val_limbs]

theorem val_append (a b : List Nat) : val (a ++ b) = val a + 1000000000 ^ a.length * val b := by
  induction a with
  | nil => simp [val]
  | cons x r ih =>
    simp only [List.cons_append, val, ih, List.length_cons, Nat.pow_succ]
    rw [Nat.mul_add, ← Nat.mul_assoc, Nat.mul_comm (1000000000 ^ r.length) 1000000000]
    omega

theorem val_lt {l : List Nat} (h : Ok l) : val l < 1000000000 ^ l.length := by
  induction l with
  | nil => simp [val]
  | cons x r ih =>
    have ih := ih h.tail
    have hx := h.head
    simp only [val, List.length_cons, Nat.pow_succ]
    omega

theorem val_replicate_zero (n : Nat) : val (List.replicate n 0) = 0 := by
  induction n with
  | zero => rfl
  | succ n ih => simp [List.replicate_succ, val, ih]

/-- trimming by taking -/
theorem trim_append_zeros (a : List Nat) (n : Nat) : trim (a ++ List.replicate n 0) = trim a := by
  have hz : ∀ n, trim (List.replicate n 0) = [] := by
    intro n; exact trim_nil_iff.2 (val_replicate_zero n)
  induction a with
  | nil => rw [List.nil_append, hz n]; rfl
  | cons x r ih => simp only [List.cons_append, trim, ih]

/-- canonical: no limb, or the last one is not zero -/
def Canon (l : List Nat) : Prop := ∀ (h : l ≠ []), l.getLast h ≠ 0

theorem trim_of_canon {l : List Nat} (h : Canon l) : trim l = l := by
  induction l with
  | nil => rfl
  | cons x r ih =>
    simp only [trim]
    by_cases hr : r = []
    · subst hr
      have := h (by simp)
      simp at this
      simp [trim, this]
    · have hc : Canon r := by
        intro h0
        have := h (by simp)
        rwa [List.getLast_cons h0] at this
      rw [ih hc, if_neg hr]

theorem limbs_canon (n : Nat) : Canon (limbs n) := by
  induction n using Nat.strongRecOn with
  | _ n ih =>
    by_cases h : n = 0
    · subst h; intro h0; exact absurd limbs_zero h0
    · intro h0
      have e := limbs_pos h
      by_cases hq : n / 1000000000 = 0
      · have : limbs n = [n % 1000000000] := by rw [e, hq, limbs_zero]
        simp only [this, List.getLast_singleton]
        omega
      · have hne : limbs (n / 1000000000) ≠ [] := by rw [limbs_pos hq]; simp
        have := ih (n / 1000000000) (by omega) hne
        simp only [e]
        rwa [List.getLast_cons hne]

theorem canon_limbs {l : List Nat} (ho : Ok l) (hc : Canon l) : limbs (val l) = l := by
  rw [← trim_eq_limbs ho, trim_of_canon hc]

theorem limbs_inj {a b : Nat} (h : limbs a = limbs b) : a = b := by rw [← val_limbs a, h, val_limbs]

theorem limbs_eq_nil {n : Nat} : limbs n = [] ↔ n = 0 := by
  constructor
  · intro h; have := val_limbs n; rw [h] at this; exact this.symm
  · rintro rfl; rfl

/-- the trim loop -/
theorem trim_take {l : List Nat} {k : Nat} (hk : k ≤ l.length) (hz : ∀ j, k ≤ j → j < l.length → l[j]? = some 0) (hn : k = 0 ∨ ∃ x, l[k - 1]? = some x ∧ x ≠ 0) :
    trim l = l.take k := by
  have e : l = l.take k ++ List.replicate (l.length - k) 0 := by
    apply List.ext_getElem?
    intro j
    by_cases hj : j < k
    · rw [List.getElem?_append_left (by simp; omega), List.getElem?_take_of_lt hj]
    · by_cases hj2 : j < l.length
      · rw [hz j (by omega) hj2, List.getElem?_append_right (by simp; omega)]
        rw [List.getElem?_replicate_of_lt]
        simp; omega
      · rw [List.getElem?_eq_none (by omega), List.getElem?_eq_none]
        simp; omega
  rw [e, trim_append_zeros]
  have hl : (l.take k).length = k := by simp; omega
  have h2 : (l.take k ++ List.replicate (l.length - k) 0).take k = l.take k := by rw [← e]
  rw [h2]
  apply trim_of_canon
  intro h0
  have hk0 : k ≠ 0 := by
    rintro rfl; simp at h0
  obtain ⟨x, hx, hx0⟩ := hn.resolve_left hk0
  rw [List.getLast_eq_getElem]
  have : (l.take k)[(l.take k).length - 1]? = some x := by rw [hl, List.getElem?_take_of_lt (by omega)]; exact hx
  rw [List.getElem?_eq_getElem (by omega)] at this
  simp only [Option.some.injEq] at this
  rw [this]; exact hx0

/-- comparison -/
theorem val_lt_of_length {a b : Nat} (h : (limbs a).length < (limbs b).length) : a < b := by
  have h1 := val_lt (limbs_ok a)
  rw [val_limbs] at h1
  apply Nat.lt_of_not_le
  intro hle
  have : 1000000000 ^ ((limbs b).length - 1) ≤ b := by
    have hb : limbs b ≠ [] := by intro h0; simp [h0] at h
    have hc := limbs_canon b hb
    have e := List.dropLast_concat_getLast hb
    have hv : val ((limbs b).dropLast ++ [(limbs b).getLast hb]) = b := by rw [e, val_limbs]
    rw [val_append] at hv
    simp only [val, List.length_dropLast] at hv
    have h1 : 1 ≤ (limbs b).getLast hb := by omega
    have := Nat.mul_le_mul_left (1000000000 ^ ((limbs b).length - 1)) h1
    simp only [Nat.mul_one, Nat.mul_zero, Nat.add_zero] at this hv
    omega
  have h2 : 1000000000 ^ (limbs a).length ≤ 1000000000 ^ ((limbs b).length - 1) := Nat.pow_le_pow_right (by decide) (by omega)
  omega

/-- two lists of one length, the first difference from above at i -/
theorem val_lt_of_diff : ∀ {a b : List Nat}, Ok a → Ok b → a.length = b.length → ∀ i : Nat, (∃ x y : Nat, a[i]? = some x ∧ b[i]? = some y ∧ x < y) → (∀ j, i < j → a[j]? = b[j]?) → val a < val b
  | [], b, _, _, hl, i, ⟨x, y, hx, _, _⟩, _ => by simp at hx
  | x :: r, [], _, _, hl, _, _, _ => by simp at hl
  | x :: r, y :: t, ha, hb, hl, 0, ⟨x', y', hx, hy, hxy⟩, he => by
    simp at hx hy
    subst hx; subst hy
    have : r = t := List.ext_getElem? fun j => by simpa using he (j + 1) (by omega)
    subst this
    simp only [val]; omega
  | x :: r, y :: t, ha, hb, hl, i + 1, ⟨x', y', hx, hy, hxy⟩, he => by
    have := val_lt_of_diff ha.tail hb.tail (by simpa using hl) i ⟨x', y', by simpa using hx, by simpa using hy, hxy⟩ (fun j hj => by simpa using he (j + 1) (by omega))
    have h1 := ha.head
    have h2 := hb.head
    simp only [val]; omega

theorem val_take_succ (l : List Nat) (k : Nat) : val (l.take (k + 1)) = val (l.take k) + 1000000000 ^ k * l.getD k 0 := by
  by_cases hk : k < l.length
  · rw [List.take_succ_eq_append_getElem hk, val_append]
    simp only [val, List.length_take, Nat.min_eq_left (Nat.le_of_lt hk), List.getD_eq_getElem?_getD, List.getElem?_eq_getElem hk, Option.getD_some, Nat.mul_zero, Nat.add_zero]
  · rw [List.take_of_length_le (by omega), List.take_of_length_le (by omega), List.getD_eq_getElem?_getD, List.getElem?_eq_none (by omega)]
    simp

theorem val_snoc (l : List Nat) (x : Nat) : val (l ++ [x]) = val l + 1000000000 ^ l.length * x := by
  rw [val_append]; simp [val]

/-- a round of plus -/
theorem plus_step {o x y : List Nat} {k c d c' : Nat} (hol : o.length = k) (hinv : val o + 1000000000 ^ k * c = val (x.take k) + val (y.take k))
    (hd : d + 1000000000 * c' = x.getD k 0 + y.getD k 0 + c) :
    val (o ++ [d]) + 1000000000 ^ (k + 1) * c' = val (x.take (k + 1)) + val (y.take (k + 1)) := by
  rw [val_snoc, val_take_succ, val_take_succ, hol, Nat.pow_succ]
  have h1 : 1000000000 ^ k * d + 1000000000 ^ k * 1000000000 * c' = 1000000000 ^ k * x.getD k 0 + 1000000000 ^ k * y.getD k 0 + 1000000000 ^ k * c := by
    rw [Nat.mul_assoc, ← Nat.mul_add, hd, Nat.mul_add, Nat.mul_add]
  omega

theorem Ok.snoc {l : List Nat} {x : Nat} (h : Ok l) (hx : x < 1000000000) : Ok (l ++ [x]) := h.append (Ok.cons hx Ok.nil)

theorem getD_of {l : List Nat} {k x : Nat} (h : l[k]? = some x) : l.getD k 0 = x := by
  rw [List.getD_eq_getElem?_getD, h]; rfl
theorem getD_out {l : List Nat} {k : Nat} (h : l.length ≤ k) : l.getD k 0 = 0 := by
  rw [List.getD_eq_getElem?_getD, List.getElem?_eq_none h]; rfl

/-- a round of minus -/
theorem minus_step {o x y : List Nat} {k c d c' : Nat} (hol : o.length = k) (hinv : val o + val (y.take k) = val (x.take k) + 1000000000 ^ k * c)
    (hd : d + y.getD k 0 + c = x.getD k 0 + 1000000000 * c') :
    val (o ++ [d]) + val (y.take (k + 1)) = val (x.take (k + 1)) + 1000000000 ^ (k + 1) * c' := by
  rw [val_snoc, val_take_succ, val_take_succ, hol, Nat.pow_succ]
  have h1 : 1000000000 ^ k * d + 1000000000 ^ k * y.getD k 0 + 1000000000 ^ k * c = 1000000000 ^ k * x.getD k 0 + 1000000000 ^ k * 1000000000 * c' := by
    rw [Nat.mul_assoc, ← Nat.mul_add, ← Nat.mul_add, hd, Nat.mul_add]
  omega

/-- minus ends without a borrow -/
theorem minus_end {o x y : List Nat} {c : Nat} (hoo : Ok o) (hol : o.length = x.length) (hle : val y ≤ val x) (hyl : y.length ≤ x.length)
    (hinv : val o + val (y.take x.length) = val (x.take x.length) + 1000000000 ^ x.length * c) : val o = val x - val y := by
  rw [List.take_of_length_le hyl, List.take_of_length_le (Nat.le_refl _)] at hinv
  have h1 := val_lt hoo
  rw [hol] at h1
  rcases Nat.eq_zero_or_pos c with h0 | h0
  · subst h0; omega
  · have : 1000000000 ^ x.length * 1 ≤ 1000000000 ^ x.length * c := Nat.mul_le_mul_left _ h0
    omega

theorem val_set (o : List Nat) (j d : Nat) (hj : j < o.length) : val (o.set j d) + 1000000000 ^ j * o.getD j 0 = val o + 1000000000 ^ j * d := by
  induction o generalizing j with
  | nil => simp at hj
  | cons x r ih =>
    cases j with
    | zero => simp [val]; omega
    | succ j =>
      have := ih j (by simpa using hj)
      simp only [List.set_cons_succ, val, Nat.pow_succ, List.getD_cons_succ]
      rw [Nat.mul_comm (1000000000 ^ j) 1000000000, Nat.mul_assoc, Nat.mul_assoc]
      omega

theorem Ok.set {o : List Nat} (h : Ok o) (j : Nat) {d : Nat} (hd : d < 1000000000) : Ok (o.set j d) := by
  intro y hy
  rcases List.mem_or_eq_of_mem_set hy with h1 | rfl
  · exact h y h1
  · exact hd

theorem Ok.replicate (n : Nat) : Ok (List.replicate n 0) := by
  intro y hy
  have := List.eq_of_mem_replicate hy
  omega

/-- a round of the inner loop of times -/
theorem times_step {o : List Nat} {i k c s x : Nat} {V : Nat} {y : List Nat} (hj : i + k < o.length) (hs : s = o.getD (i + k) 0 + x * y.getD k 0 + c)
    (hinv : val o + 1000000000 ^ (i + k) * c = V + 1000000000 ^ i * (x * val (y.take k))) :
    val (o.set (i + k) (s % 1000000000)) + 1000000000 ^ (i + (k + 1)) * (s / 1000000000) = V + 1000000000 ^ i * (x * val (y.take (k + 1))) := by
  have h1 := val_set o (i + k) (s % 1000000000) hj
  rw [val_take_succ, ← Nat.add_assoc, Nat.pow_succ]
  have h2 : 1000000000 ^ (i + k) * s = 1000000000 ^ (i + k) * (s % 1000000000) + 1000000000 ^ (i + k) * 1000000000 * (s / 1000000000) := by
    rw [Nat.mul_assoc, ← Nat.mul_add, Nat.mod_add_div]
  have h3 : 1000000000 ^ (i + k) * s = 1000000000 ^ (i + k) * o.getD (i + k) 0 + 1000000000 ^ (i + k) * (x * y.getD k 0) + 1000000000 ^ (i + k) * c := by
    rw [hs, Nat.mul_add, Nat.mul_add]
  have h4 : 1000000000 ^ i * (x * (val (y.take k) + 1000000000 ^ k * y.getD k 0)) = 1000000000 ^ i * (x * val (y.take k)) + 1000000000 ^ (i + k) * (x * y.getD k 0) := by
    rw [Nat.mul_add, Nat.mul_add, Nat.pow_add, Nat.mul_assoc (1000000000 ^ i)]
    congr 2
    rw [← Nat.mul_assoc, ← Nat.mul_assoc, Nat.mul_comm x]
  rw [h4]
  omega

/-- the end of a row of times -/
theorem times_row {o : List Nat} {i n c x : Nat} {V : Nat} {y : List Nat} (hn : n = y.length) (hj : i + n < o.length) (h0 : o.getD (i + n) 0 = 0)
    (hinv : val o + 1000000000 ^ (i + n) * c = V + 1000000000 ^ i * (x * val (y.take n))) :
    val (o.set (i + n) c) = V + 1000000000 ^ i * (x * val y) := by
  have h1 := val_set o (i + n) c hj
  rw [h0, Nat.mul_zero, Nat.add_zero] at h1
  rw [List.take_of_length_le (by omega)] at hinv
  omega

theorem times_outer {a : List Nat} {i n : Nat} : val (a.take i) * n + 1000000000 ^ i * (a.getD i 0 * n) = val (a.take (i + 1)) * n := by
  rw [val_take_succ, Nat.add_mul, Nat.mul_assoc]

/-- a round of the reference's times -/
theorem rtimes_step {o a : List Nat} {up k c q s : Nat} (hol : o.length = up + k) (hs : s = a.getD k 0 * q + c)
    (hinv : val o + 1000000000 ^ (up + k) * c = 1000000000 ^ up * (val (a.take k) * q)) :
    val (o ++ [s % 1000000000]) + 1000000000 ^ (up + (k + 1)) * (s / 1000000000) = 1000000000 ^ up * (val (a.take (k + 1)) * q) := by
  rw [val_snoc, val_take_succ, hol, ← Nat.add_assoc, Nat.pow_succ]
  have h2 : 1000000000 ^ (up + k) * s = 1000000000 ^ (up + k) * (s % 1000000000) + 1000000000 ^ (up + k) * 1000000000 * (s / 1000000000) := by
    rw [Nat.mul_assoc, ← Nat.mul_add, Nat.mod_add_div]
  have h3 : 1000000000 ^ (up + k) * s = 1000000000 ^ (up + k) * (a.getD k 0 * q) + 1000000000 ^ (up + k) * c := by rw [hs, Nat.mul_add]
  have h4 : 1000000000 ^ up * ((val (a.take k) + 1000000000 ^ k * a.getD k 0) * q) = 1000000000 ^ up * (val (a.take k) * q) + 1000000000 ^ (up + k) * (a.getD k 0 * q) := by
    rw [Nat.add_mul, Nat.mul_add, Nat.pow_add, Nat.mul_assoc, Nat.mul_assoc]
  rw [h4]
  omega

theorem val_take_all {l : List Nat} {k : Nat} (h : l.length ≤ k) : val (l.take k) = val l := by rw [List.take_of_length_le h]

theorem mul_lt_base {x y c : Nat} (hx : x < 1000000000) (hy : y < 1000000000) (hc : c < 1000000000) : x * y + c < 1000000000000000000 := by
  have h1 : x * y ≤ 999999999 * 999999999 := Nat.mul_le_mul (by omega) (by omega)
  omega

theorem div_lt_base {s : Nat} (h : s < 1000000000000000000) : s / 1000000000 < 1000000000 := by omega

theorem limbs_length_le {n m : Nat} (h : n < 1000000000 ^ m) : (limbs n).length ≤ m := by
  induction m generalizing n with
  | zero => simp at h; subst h; simp [limbs_zero]
  | succ m ih =>
    by_cases h0 : n = 0
    · subst h0; simp [limbs_zero]
    · rw [limbs_pos h0]
      rw [Nat.pow_succ] at h
      have := ih (n := n / 1000000000) (by omega)
      simp; omega

theorem val_mul_lt {a b : List Nat} (ha : Ok a) (hb : Ok b) : val a * val b < 1000000000 ^ (a.length + b.length) := by
  rw [Nat.pow_add]
  have h1 := val_lt ha
  have h2 := val_lt hb
  exact Nat.mul_lt_mul'' h1 h2

theorem rmul_step {a b : List Nat} {k x : Nat} (hx : x = b.getD k 0) : val a * val (b.take k) + 1000000000 ^ k * (val a * x) = val a * val (b.take (k + 1)) := by
  rw [val_take_succ, Nat.mul_add, hx]
  congr 1
  rw [← Nat.mul_assoc, ← Nat.mul_assoc, Nat.mul_comm (1000000000 ^ k)]

theorem trim_prefix (l : List Nat) : ∃ k, trim l = l.take k := by
  induction l with
  | nil => exact ⟨0, rfl⟩
  | cons x r ih =>
    obtain ⟨k, hk⟩ := ih
    simp only [trim]
    split
    · split
      · exact ⟨0, rfl⟩
      · exact ⟨1, by simp⟩
    · exact ⟨k + 1, by rw [hk]; simp⟩

end Bi
