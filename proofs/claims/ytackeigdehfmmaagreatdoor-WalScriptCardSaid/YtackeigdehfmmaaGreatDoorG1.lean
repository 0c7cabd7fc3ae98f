/-
  Written records, headers and logs, plain.
-/
import Derived.Lib.ItoaNum
import Derived.Lib.Atoi
import Derived.Lib.SlTrimSet
import Derived.Lib.Strings
import Derived.Lib.IndexMore
import Derived.Lib.AtoiTie
namespace Bi

def val : List Nat → Nat
  | [] => 0
  | x :: r => x + 1000000000 * val r

def Ok (l : List Nat) : Prop := ∀ x ∈ l, x < 1000000000

def trim : List Nat → List Nat
  | [] => []
  | x :: r => if trim r = [] then (if x = 0 then [] else [x]) else x :: trim r

def limbsF : Nat → Nat → List Nat
  | 0, _ => []
  | f + 1, n => if n = 0 then [] else (n % 1000000000) :: limbsF f (n / 1000000000)

def limbs (n : Nat) : List Nat := limbsF n n

theorem limbsF_enough : ∀ (f g n : Nat), n ≤ f → n ≤ g → limbsF f n = limbsF g n
  | 0, 0, _, _, _ => rfl
  | 0, g + 1, n, h, _ => by
    have : n = 0 := by omega
    subst this; simp [limbsF]
  | f + 1, 0, n, _, h => by
    have : n = 0 := by omega
    subst this; simp [limbsF]
  | f + 1, g + 1, n, hf, hg => by
    simp only [limbsF]
    split
    · rfl
    · rw [limbsF_enough f g (n / 1000000000) (by omega) (by omega)]

theorem limbs_zero : limbs 0 = [] := rfl

theorem limbs_pos {n : Nat} (h : n ≠ 0) : limbs n = (n % 1000000000) :: limbs (n / 1000000000) := by
  obtain ⟨m, rfl⟩ : ∃ m, n = m + 1 := ⟨n - 1, by omega⟩
  show limbsF (m + 1) (m + 1) = _
  simp only [limbsF, if_neg h]
  rw [show limbs ((m + 1) / 1000000000) = limbsF ((m + 1) / 1000000000) ((m + 1) / 1000000000) from rfl]
  rw [limbsF_enough m ((m + 1) / 1000000000) ((m + 1) / 1000000000) (by omega) (by omega)]

theorem limbs_cons {x n : Nat} (hx : x < 1000000000) (h : x + 1000000000 * n ≠ 0) : limbs (x + 1000000000 * n) = x :: limbs n := by
  rw [limbs_pos h]
  rw [show (x + 1000000000 * n) % 1000000000 = x by omega, show (x + 1000000000 * n) / 1000000000 = n by omega]

theorem Ok.nil : Ok [] := by simp [Ok]
theorem Ok.cons {x : Nat} {r : List Nat} (hx : x < 1000000000) (hr : Ok r) : Ok (x :: r) := by
  intro y hy
  rcases List.mem_cons.1 hy with rfl | hy
  · exact hx
  · exact hr y hy
theorem Ok.head {x : Nat} {r : List Nat} (h : Ok (x :: r)) : x < 1000000000 := h x (by simp)
theorem Ok.tail {x : Nat} {r : List Nat} (h : Ok (x :: r)) : Ok r := fun y hy => h y (by simp [hy])
theorem Ok.append {a b : List Nat} (ha : Ok a) (hb : Ok b) : Ok (a ++ b) := by
  intro y hy
  rcases List.mem_append.1 hy with hy | hy
  · exact ha y hy
  · exact hb y hy
theorem Ok.left {a b : List Nat} (h : Ok (a ++ b)) : Ok a := fun y hy => h y (by simp [hy])
theorem Ok.right {a b : List Nat} (h : Ok (a ++ b)) : Ok b := fun y hy => h y (by simp [hy])
theorem Ok.take {a : List Nat} (h : Ok a) (k : Nat) : Ok (a.take k) := fun y hy => h y (List.mem_of_mem_take hy)
theorem Ok.drop {a : List Nat} (h : Ok a) (k : Nat) : Ok (a.drop k) := fun y hy => h y (List.mem_of_mem_drop hy)
theorem Ok.get {a : List Nat} (h : Ok a) (k : Nat) (hk : k < a.length) : a[k] < 1000000000 := h _ (List.getElem_mem hk)
theorem Ok.at' {a : List Nat} (h : Ok a) {k x : Nat} (hk : a[k]? = some x) : x < 1000000000 := h x (List.mem_of_getElem? hk)
theorem Ok.getD {a : List Nat} (h : Ok a) (k : Nat) : a.getD k 0 < 1000000000 := by
  rw [List.getD_eq_getElem?_getD]
  by_cases hk : k < a.length
  · rw [List.getElem?_eq_getElem hk]; exact h.get k hk
  · rw [List.getElem?_eq_none (by omega)]; simp

theorem limbs_ok (n : Nat) : Ok (limbs n) := by
  induction n using Nat.strongRecOn with
  | _ n ih =>
    by_cases h : n = 0
    · subst h; exact Ok.nil
    · rw [limbs_pos h]; exact Ok.cons (by omega) (ih _ (by omega))

theorem val_limbs (n : Nat) : val (limbs n) = n := by
  induction n using Nat.strongRecOn with
  | _ n ih =>
    by_cases h : n = 0
    · subst h; rfl
    · rw [limbs_pos h, val, ih _ (by omega)]; omega

theorem trim_nil_iff {l : List Nat} : trim l = [] ↔ val l = 0 := by
  induction l with
  | nil => simp [trim, val]
  | cons x r ih =>
    simp only [trim, val]
    by_cases hr : trim r = []
    · rw [if_pos hr]
      have hv := ih.1 hr
      by_cases hx : x = 0
      · simp [hx, hv]
      · simp [hx]
    · rw [if_neg hr]
      have hv : val r ≠ 0 := fun h => hr (ih.2 h)
      simp; omega

theorem trim_eq_limbs {l : List Nat} (h : Ok l) : trim l = limbs (val l) := by
  induction l with
  | nil => rfl
  | cons x r ih =>
    have ih := ih h.tail
    have hx := h.head
    simp only [trim, val]
    by_cases hr : trim r = []
    · rw [if_pos hr]
      have hv := trim_nil_iff.1 hr
      rw [hv]
      by_cases hx0 : x = 0
      · simp [hx0, limbs_zero]
      · rw [if_neg hx0, Nat.mul_zero, Nat.add_zero]
        have := limbs_cons (n := 0) hx (by omega)
        simpa [limbs_zero] using this.symm
    · rw [if_neg hr]
      have hv : val r ≠ 0 := fun h => hr (trim_nil_iff.2 h)
      rw [limbs_cons hx (by omega), ih]

theorem val_trim {l : List Nat} (h : Ok l) : val (trim l) = val l := by rw [trim_eq_limbs h, val_limbs]
theorem trim_ok {l : List Nat} (h : Ok l) : Ok (trim l) := by rw [trim_eq_limbs h]; exact limbs_ok _
theorem trim_limbs (n : Nat) : trim (limbs n) = limbs n := by rw [trim_eq_limbs (limbs_ok n), val_limbs]

theorem val_append (a b : List Nat) : val (a ++ b) = val a + 1000000000 ^ a.length * val b := by
  induction a with
  | nil => simp [val]
  | cons x r ih =>
    simp only [List.cons_append, val, ih, List.length_cons, Nat.pow_succ]
    rw [Nat.mul_add, ← Nat.mul_assoc, Nat.mul_comm (1000000000 ^ r.length) 1000000000]
    omega

theorem val_lt {l : List Nat} (h : Ok l) : val l < 1000000000 ^ l.length := by
  induction l with
  | nil => simp [val]
  | cons x r ih =>
    have ih := ih h.tail
    have hx := h.head
    simp only [val, List.length_cons, Nat.pow_succ]
    omega

theorem val_replicate_zero (n : Nat) : val (List.replicate n 0) = 0 := by
  induction n with
  | zero => rfl
  | succ n ih => simp [List.replicate_succ, val, ih]

/-- trimming by taking -/
theorem trim_append_zeros (a : List Nat) (n : Nat) : trim (a ++ List.replicate n 0) = trim a := by
  have hz : ∀ n, trim (List.replicate n 0) = [] := by
    intro n; exact trim_nil_iff.2 (val_replicate_zero n)
  induction a with
  | nil => rw [List.nil_append, hz n]; rfl
  | cons x r ih => simp only [List.cons_append, trim, ih]

/-- canonical: no limb, or the last one is not zero -/
def Canon (l : List Nat) : Prop := ∀ (h : l ≠ []), l.getLast h ≠ 0

theorem trim_of_canon {l : List Nat} (h : Canon l) : trim l = l := by
  induction l with
  | nil => rfl
  | cons x r ih =>
    simp only [trim]
    by_cases hr : r = []
    · subst hr
      have := h (by simp)
      simp at this
      simp [trim, this]
    · have hc : Canon r := by
        intro h0
        have := h (by simp)
        rwa [List.getLast_cons h0] at this
      rw [ih hc, if_neg hr]

theorem limbs_canon (n : Nat) : Canon (limbs n) := by
  induction n using Nat.strongRecOn with
  | _ n ih =>
    by_cases h : n = 0
    · subst h; intro h0; exact absurd limbs_zero h0
    · intro h0
      have e := limbs_pos h
      by_cases hq : n / 1000000000 = 0
      · have : limbs n = [n % 1000000000] := by rw [e, hq, limbs_zero]
        simp only [this, List.getLast_singleton]
        omega
      · have hne : limbs (n / 1000000000) ≠ [] := by rw [limbs_pos hq]; simp
        have := ih (n / 1000000000) (by omega) hne
        simp only [e]
        rwa [List.getLast_cons hne]

theorem canon_limbs {l : List Nat} (ho : Ok l) (hc : Canon l) : limbs (val l) = l := by
  rw [← trim_eq_limbs ho, trim_of_canon hc]

theorem limbs_inj {a b : Nat} (h : limbs a = limbs b) : a = b := by rw [← val_limbs a, h, val_limbs]

theorem limbs_eq_nil {n : Nat} : limbs n = [] ↔ n = 0 := by
  constructor
  · intro h; have := val_limbs n; rw [h] at this; exact this.symm
  · rintro rfl; rfl

/-- the trim loop -/
theorem trim_take {l : List Nat} {k : Nat} (hk : k ≤ l.length) (hz : ∀ j, k ≤ j → j < l.length → l[j]? = some 0) (hn : k = 0 ∨ ∃ x, l[k - 1]? = some x ∧ x ≠ 0) :
    trim l = l.take k := by
  have e : l = l.take k ++ List.replicate (l.length - k) 0 := by
    apply List.ext_getElem?
    intro j
    by_cases hj : j < k
    · rw [List.getElem?_append_left (by simp; omega), List.getElem?_take_of_lt hj]
    · by_cases hj2 : j < l.length
      · rw [hz j (by omega) hj2, List.getElem?_append_right (by simp; omega)]
        rw [List.getElem?_replicate_of_lt]
        simp; omega
      · rw [List.getElem?_eq_none (by omega), List.getElem?_eq_none]
        simp; omega
  rw [e, trim_append_zeros]
  have hl : (l.take k).length = k := by simp; omega
  have h2 : (l.take k ++ List.replicate (l.length - k) 0).take k = l.take k := by rw [← e]
  rw [h2]
  apply trim_of_canon
  intro h0
  have hk0 : k ≠ 0 := by
    rintro rfl; simp at h0
  obtain ⟨x, hx, hx0⟩ := hn.resolve_left hk0
  rw [List.getLast_eq_getElem]
  have : (l.take k)[(l.take k).length - 1]? = some x := by rw [hl, List.getElem?_take_of_lt (by omega)]; exact hx
  rw [List.getElem?_eq_getElem (by omega)] at this
  simp only [Option.some.injEq] at this
  rw [this]; exact hx0

/-- comparison -/
theorem val_lt_of_length {a b : Nat} (h : (limbs a).length < (limbs b).length) : a < b := by
  have h1 := val_lt (limbs_ok a)
  rw [val_limbs] at h1
  apply Nat.lt_of_not_le
  intro hle
  have : 1000000000 ^ ((limbs b).length - 1) ≤ b := by
    have hb : limbs b ≠ [] := by intro h0; simp [h0] at h
    have hc := limbs_canon b hb
    have e := List.dropLast_concat_getLast hb
    have hv : val ((limbs b).dropLast ++ [(limbs b).getLast hb]) = b := by rw [e, val_limbs]
    rw [val_append] at hv
    simp only [val, List.length_dropLast] at hv
    have h1 : 1 ≤ (limbs b).getLast hb := by omega
    have := Nat.mul_le_mul_left (1000000000 ^ ((limbs b).length - 1)) h1
    simp only [Nat.mul_one, Nat.mul_zero, Nat.add_zero] at this hv
    omega
  have h2 : 1000000000 ^ (limbs a).length ≤ 1000000000 ^ ((limbs b).length - 1) := Nat.pow_le_pow_right (by decide) (by omega)
  omega

/-- two lists of one length, the first difference from above at i -/
theorem val_lt_of_diff : ∀ {a b : List Nat}, Ok a → Ok b → a.length = b.length → ∀ i : Nat, (∃ x y : Nat, a[i]? = some x ∧ b[i]? = some y ∧ x < y) → (∀ j, i < j → a[j]? = b[j]?) → val a < val b
  | [], b, _, _, hl, i, ⟨x, y, hx, _, _⟩, _ => by simp at hx
  | x :: r, [], _, _, hl, _, _, _ => by simp at hl
  | x :: r, y :: t, ha, hb, hl, 0, ⟨x', y', hx, hy, hxy⟩, he => by
    simp at hx hy
    subst hx; subst hy
    have : r = t := List.ext_getElem? fun j => by simpa using he (j + 1) (by omega)
    subst this
    simp only [val]; omega
  | x :: r, y :: t, ha, hb, hl, i + 1, ⟨x', y', hx, hy, hxy⟩, he => by
    have := val_lt_of_diff ha.tail hb.tail (by simpa using hl) i ⟨x', y', by simpa using hx, by simpa using hy, hxy⟩ (fun j hj => by simpa using he (j + 1) (by omega))
    have h1 := ha.head
    have h2 := hb.head
    simp only [val]; omega

theorem val_take_succ (l : List Nat) (k : Nat) : val (l.take (k + 1)) = val (l.take k) + 1000000000 ^ k * l.getD k 0 := by
  by_cases hk : k < l.length
  · rw [List.take_succ_eq_append_getElem hk, val_append]
    simp only [val, List.length_take, Nat.min_eq_left (Nat.le_of_lt hk), List.getD_eq_getElem?_getD, List.getElem?_eq_getElem hk, Option.getD_some, Nat.mul_zero, Nat.add_zero]
  · rw [List.take_of_length_le (by omega), List.take_of_length_le (by omega), List.getD_eq_getElem?_getD, List.getElem?_eq_none (by omega)]
    simp

theorem val_snoc (l : List Nat) (x : Nat) : val (l ++ [x]) = val l + 1000000000 ^ l.length * x := by
  rw [val_append]; simp [val]

/-- a round of plus -/
theorem plus_step {o x y : List Nat} {k c d c' : Nat} (hol : o.length = k) (hinv : val o + 1000000000 ^ k * c = val (x.take k) + val (y.take k))
    (hd : d + 1000000000 * c' = x.getD k 0 + y.getD k 0 + c) :
    val (o ++ [d]) + 1000000000 ^ (k + 1) * c' = val (x.take (k + 1)) + val (y.take (k + 1)) := by
  rw [val_snoc, val_take_succ, val_take_succ, hol, Nat.pow_succ]
  have h1 : 1000000000 ^ k * d + 1000000000 ^ k * 1000000000 * c' = 1000000000 ^ k * x.getD k 0 + 1000000000 ^ k * y.getD k 0 + 1000000000 ^ k * c := by
    rw [Nat.mul_assoc, ← Nat.mul_add, hd, Nat.mul_add, Nat.mul_add]
  omega

theorem Ok.snoc {l : List Nat} {x : Nat} (h : Ok l) (hx : x < 1000000000) : Ok (l ++ [x]) := h.append (Ok.cons hx Ok.nil)

theorem getD_of {l : List Nat} {k x : Nat} (h : l[k]? = some x) : l.getD k 0 = x := by
  rw [List.getD_eq_getElem?_getD, h]; rfl
theorem getD_out {l : List Nat} {k : Nat} (h : l.length ≤ k) : l.getD k 0 = 0 := by
  rw [List.getD_eq_getElem?_getD, List.getElem?_eq_none h]; rfl

/-- a round of minus -/
theorem minus_step {o x y : List Nat} {k c d c' : Nat} (hol : o.length = k) (hinv : val o + val (y.take k) = val (x.take k) + 1000000000 ^ k * c)
    (hd : d + y.getD k 0 + c = x.getD k 0 + 1000000000 * c') :
    val (o ++ [d]) + val (y.take (k + 1)) = val (x.take (k + 1)) + 1000000000 ^ (k + 1) * c' := by
  rw [val_snoc, val_take_succ, val_take_succ, hol, Nat.pow_succ]
  have h1 : 1000000000 ^ k * d + 1000000000 ^ k * y.getD k 0 + 1000000000 ^ k * c = 1000000000 ^ k * x.getD k 0 + 1000000000 ^ k * 1000000000 * c' := by
    rw [Nat.mul_assoc, ← Nat.mul_add, ← Nat.mul_add, hd, Nat.mul_add]
  omega

/-- minus ends without a borrow -/
theorem minus_end {o x y : List Nat} {c : Nat} (hoo : Ok o) (hol : o.length = x.length) (hle : val y ≤ val x) (hyl : y.length ≤ x.length)
    (hinv : val o + val (y.take x.length) = val (x.take x.length) + 1000000000 ^ x.length * c) : val o = val x - val y := by
  rw [List.take_of_length_le hyl, List.take_of_length_le (Nat.le_refl _)] at hinv
  have h1 := val_lt hoo
  rw [hol] at h1
  rcases Nat.eq_zero_or_pos c with h0 | h0
  · subst h0; omega
  · have : 1000000000 ^ x.length * 1 ≤ 1000000000 ^ x.length * c := Nat.mul_le_mul_left _ h0
    omega

theorem val_set (o : List Nat) (j d : Nat) (hj : j < o.length) : val (o.set j d) + 1000000000 ^ j * o.getD j 0 = val o + 1000000000 ^ j * d := by
  induction o generalizing j with
  | nil => simp at hj
  | cons x r ih =>
    cases j with
    | zero => simp [val]; omega
    | succ j =>
      have := ih j (by simpa using hj)
      simp only [List.set_cons_succ, val, Nat.pow_succ, List.getD_cons_succ]
      rw [Nat.mul_comm (1000000000 ^ j) 1000000000, Nat.mul_assoc, Nat.mul_assoc]
      omega

theorem Ok.set {o : List Nat} (h : Ok o) (j : Nat) {d : Nat} (hd : d < 1000000000) : Ok (o.set j d) := by
  intro y hy
  rcases List.mem_or_eq_of_mem_set hy with h1 | rfl
  · exact h y h1
  · exact hd

theorem Ok.replicate (n : Nat) : Ok (List.replicate n 0) := by
  intro y hy
  have := List.eq_of_mem_replicate hy
  omega

/-- a round of the inner loop of times -/
theorem times_step {o : List Nat} {i k c s x : Nat} {V : Nat} {y : List Nat} (hj : i + k < o.length) (hs : s = o.getD (i + k) 0 + x * y.getD k 0 + c)
    (hinv : val o + 1000000000 ^ (i + k) * c = V + 1000000000 ^ i * (x * val (y.take k))) :
    val (o.set (i + k) (s % 1000000000)) + 1000000000 ^ (i + (k + 1)) * (s / 1000000000) = V + 1000000000 ^ i * (x * val (y.take (k + 1))) := by
  have h1 := val_set o (i + k) (s % 1000000000) hj
  rw [val_take_succ, ← Nat.add_assoc, Nat.pow_succ]
  have h2 : 1000000000 ^ (i + k) * s = 1000000000 ^ (i + k) * (s % 1000000000) + 1000000000 ^ (i + k) * 1000000000 * (s / 1000000000) := by
    rw [Nat.mul_assoc, ← Nat.mul_add, Nat.mod_add_div]
  have h3 : 1000000000 ^ (i + k) * s = 1000000000 ^ (i + k) * o.getD (i + k) 0 + 1000000000 ^ (i + k) * (x * y.getD k 0) + 1000000000 ^ (i + k) * c := by
    rw [hs, Nat.mul_add, Nat.mul_add]
  have h4 : 1000000000 ^ i * (x * (val (y.take k) + 1000000000 ^ k * y.getD k 0)) = 1000000000 ^ i * (x * val (y.take k)) + 1000000000 ^ (i + k) * (x * y.getD k 0) := by
    rw [Nat.mul_add, Nat.mul_add, Nat.pow_add, Nat.mul_assoc (1000000000 ^ i)]
    congr 2
    rw [← Nat.mul_assoc, ← Nat.mul_assoc, Nat.mul_comm x]
  rw [h4]
  omega

/-- the end of a row of times -/
theorem times_row {o : List Nat} {i n c x : Nat} {V : Nat} {y : List Nat} (hn : n = y.length) (hj : i + n < o.length) (h0 : o.getD (i + n) 0 = 0)
    (hinv : val o + 1000000000 ^ (i + n) * c = V + 1000000000 ^ i * (x * val (y.take n))) :
    val (o.set (i + n) c) = V + 1000000000 ^ i * (x * val y) := by
  have h1 := val_set o (i + n) c hj
  rw [h0, Nat.mul_zero, Nat.add_zero] at h1
  rw [List.take_of_length_le (by omega)] at hinv
  omega

theorem times_outer {a : List Nat} {i n : Nat} : val (a.take i) * n + 1000000000 ^ i * (a.getD i 0 * n) = val (a.take (i + 1)) * n := by
  rw [val_take_succ, Nat.add_mul, Nat.mul_assoc]

/-- a round of the reference's times -/
theorem rtimes_step {o a : List Nat} {up k c q s : Nat} (hol : o.length = up + k) (hs : s = a.getD k 0 * q + c)
    (hinv : val o + 1000000000 ^ (up + k) * c = 1000000000 ^ up * (val (a.take k) * q)) :
    val (o ++ [s % 1000000000]) + 1000000000 ^ (up + (k + 1)) * (s / 1000000000) = 1000000000 ^ up * (val (a.take (k + 1)) * q) := by
  rw [val_snoc, val_take_succ, hol, ← Nat.add_assoc, Nat.pow_succ]
  have h2 : 1000000000 ^ (up + k) * s = 1000000000 ^ (up + k) * (s % 1000000000) + 1000000000 ^ (up + k) * 1000000000 * (s / 1000000000) := by
    rw [Nat.mul_assoc, ← Nat.mul_add, Nat.mod_add_div]
  have h3 : 1000000000 ^ (up + k) * s = 1000000000 ^ (up + k) * (a.getD k 0 * q) + 1000000000 ^ (up + k) * c := by rw [hs, Nat.mul_add]
  have h4 : 1000000000 ^ up * ((val (a.take k) + 1000000000 ^ k * a.getD k 0) * q) = 1000000000 ^ up * (val (a.take k) * q) + 1000000000 ^ (up + k) * (a.getD k 0 * q) := by
    rw [Nat.add_mul, Nat.mul_add, Nat.pow_add, Nat.mul_assoc, Nat.mul_assoc]
  rw [h4]
  omega

theorem val_take_all {l : List Nat} {k : Nat} (h : l.length ≤ k) : val (l.take k) = val l := by rw [List.take_of_length_le h]

theorem mul_lt_base {x y c : Nat} (hx : x < 1000000000) (hy : y < 1000000000) (hc : c < 1000000000) : x * y + c < 1000000000000000000 := by
  have h1 : x * y ≤ 999999999 * 999999999 := Nat.mul_le_mul (by omega) (by omega)
  omega

theorem div_lt_base {s : Nat} (h : s < 1000000000000000000) : s / 1000000000 < 1000000000 := by omega

theorem limbs_length_le {n m : Nat} (h : n < 1000000000 ^ m) : (limbs n).length ≤ m := by
  induction m generalizing n with
  | zero => simp at h; subst h; simp [limbs_zero]
  | succ m ih =>
    by_cases h0 : n = 0
    · subst h0; simp [limbs_zero]
    · rw [limbs_pos h0]
      rw [Nat.pow_succ] at h
      have := ih (n := n / 1000000000) (by omega)
      simp; omega

theorem val_mul_lt {a b : List Nat} (ha : Ok a) (hb : Ok b) : val a * val b < 1000000000 ^ (a.length + b.length) := by
  rw [Nat.pow_add]
  have h1 := val_lt ha
  have h2 := val_lt hb
  exact Nat.mul_lt_mul'' h1 h2

theorem rmul_step {a b : List Nat} {k x : Nat} (hx : x = b.getD k 0) : val a * val (b.take k) + 1000000000 ^ k * (val a * x) = val a * val (b.take (k + 1)) := by
  rw [val_take_succ, Nat.mul_add, hx]
  congr 1
  rw [← Nat.mul_assoc, ← Nat.mul_assoc, Nat.mul_comm (1000000000 ^ k)]

theorem trim_prefix (l : List Nat) : ∃ k, trim l = l.take k := by
  induction l with
  | nil => exact ⟨0, rfl⟩
  | cons x r ih =>
    obtain ⟨k, hk⟩ := ih
    simp only [trim]
    split
    · split
      · exact ⟨0, rfl⟩
      · exact ⟨1, by simp⟩
    · exact ⟨k + 1, by rw [hk]; simp⟩

end Bi

namespace Bi
open Go.Lib (nDigits decDigits)

/-- 10^300: the least number with more than 300 digits -/
def Big : Nat := 10 ^ 150 * 10 ^ 150

theorem big_lt_limbs : Big ≤ 1000000000 ^ 34 := by
  unfold Big; decide +kernel

theorem big_ge_limbs : (1000000000 : Nat) ^ 33 ≤ Big := by
  unfold Big; decide +kernel

theorem nd_le {n k : Nat} (hn : n ≠ 0) : nDigits n ≤ k ↔ n < 10 ^ k := by
  have h1 := Go.Lib.lt_pow_nDigits n
  have h0 := Go.Lib.nDigits_pos n
  constructor
  · intro h
    exact Nat.lt_of_lt_of_le h1 (Nat.pow_le_pow_right (by decide) h)
  · intro h
    apply Nat.le_of_not_lt
    intro hk
    have h2 : 10 ^ (nDigits n - 1) ≤ n := by
      clear h h1 h0 hk
      induction n using Nat.strongRecOn with
      | _ n ih =>
        by_cases h : n < 10
        · rw [Go.Lib.nDigits_small h]; simp; omega
        · rw [Go.Lib.nDigits_big h]
          have := ih (n / 10) (by omega) (by omega)
          have hp := Go.Lib.nDigits_pos (n / 10)
          obtain ⟨j, hj⟩ : ∃ j, nDigits (n / 10) = j + 1 := ⟨nDigits (n / 10) - 1, by omega⟩
          rw [hj] at this ⊢
          simp only [Nat.add_sub_cancel] at this ⊢
          rw [Nat.pow_succ]; omega
    have h3 : 10 ^ k ≤ 10 ^ (nDigits n - 1) := Nat.pow_le_pow_right (by decide) (by omega)
    omega

theorem pow9 (m : Nat) : (1000000000 : Nat) ^ m = 10 ^ (9 * m) := by
  rw [show (1000000000 : Nat) = 10 ^ 9 from rfl, ← Nat.pow_mul]

/-- the number of digits by the last limb -/
theorem nd_limbs {l : List Nat} {x : Nat} (ho : Ok l) (hx : x ≠ 0) : nDigits (val (l ++ [x])) = 9 * l.length + nDigits x := by
  have h1 : 1 ≤ nDigits x := Go.Lib.nDigits_pos x
  have h2 := Go.Lib.lt_pow_nDigits x
  have h3 : 10 ^ (nDigits x - 1) ≤ x := by
    apply Nat.le_of_not_lt
    intro h
    have := (nd_le hx).2 h
    omega
  rw [val_snoc, pow9]
  have hv := val_lt ho
  rw [pow9] at hv
  obtain ⟨j, hj⟩ : ∃ j, nDigits x = j + 1 := ⟨nDigits x - 1, by omega⟩
  rw [hj] at h2 h3 ⊢
  simp only [Nat.add_sub_cancel] at h3
  rw [show 9 * l.length + (j + 1) = (9 * l.length + j) + 1 by omega]
  apply Go.Lib.nDigits_unique
  · rw [Nat.pow_add]
    have := Nat.mul_le_mul_left (10 ^ (9 * l.length)) h3
    omega
  · rw [Nat.add_assoc, Nat.pow_add]
    have : 10 ^ (9 * l.length) * (x + 1) ≤ 10 ^ (9 * l.length) * 10 ^ (j + 1) := Nat.mul_le_mul_left _ h2
    rw [Nat.mul_add, Nat.mul_one] at this
    omega

/-- what 'digits' answers -/
def dlen (n : Nat) : Nat := if n = 0 then 0 else nDigits n

theorem dlen_le {n : Nat} : dlen n ≤ 300 ↔ n < Big := by
  unfold dlen
  by_cases h : n = 0
  · subst h; simp [Big]
  · rw [if_neg h]
    have key : ∀ a b : Nat, nDigits n ≤ a + b ↔ n < 10 ^ a * 10 ^ b := by intro a b; rw [nd_le h, Nat.pow_add]
    exact key 150 150

theorem dlen_limbs {n : Nat} {l : List Nat} {x : Nat} (h : l ++ [x] = limbs n) : dlen n = 9 * l.length + nDigits x ∧ x ≠ 0 ∧ x < 1000000000 := by
  have hn : n ≠ 0 := by rintro rfl; rw [limbs_zero] at h; simp at h
  have ho : Ok (l ++ [x]) := by rw [h]; exact limbs_ok n
  have hc : Canon (l ++ [x]) := by rw [h]; exact limbs_canon n
  have hx : x ≠ 0 := by have := hc (by simp); simpa using this
  refine ⟨?_, hx, ho x (by simp)⟩
  unfold dlen
  rw [if_neg hn, ← nd_limbs ho.left hx, h, val_limbs]

theorem nd_small {x : Nat} (h : x < 1000000000) : nDigits x ≤ 9 := by
  by_cases h0 : x = 0
  · subst h0; rw [Go.Lib.nDigits_small (by decide)]; decide
  · rw [nd_le h0]; exact h

theorem dlen_step {y : Nat} (h : 0 < y) : dlen y = dlen (y / 10) + 1 := by
  unfold dlen
  rw [if_neg (by omega)]
  by_cases h2 : y < 10
  · rw [Go.Lib.nDigits_small h2, if_pos (by omega)]
  · rw [Go.Lib.nDigits_big h2, if_neg (by omega)]

/-! ### division -/

/-- a round of short: from above; q holds the quotient's limbs from i on -/
theorem short_step {u q : List Nat} {i v rest x : Nat} (_hv : 0 < v) (hi : i < u.length) (hql : q.length = u.length) (hx : u.getD i 0 = x) (hinv : val (q.drop (i + 1)) * v + rest = val (u.drop (i + 1))) :
    val ((q.set i ((rest * 1000000000 + x) / v)).drop i) * v + (rest * 1000000000 + x) % v = val (u.drop i) := by
  have h1 : (q.set i ((rest * 1000000000 + x) / v)).drop i = ((rest * 1000000000 + x) / v) :: q.drop (i + 1) := by
    rw [List.drop_eq_getElem_cons (by simp; omega)]
    simp only [List.getElem_set_self, List.cons.injEq, true_and]
    apply List.ext_getElem?
    intro j
    rw [List.getElem?_drop, List.getElem?_drop, List.getElem?_set_ne (by omega)]
  have h2 : u.drop i = x :: u.drop (i + 1) := by
    rw [List.drop_eq_getElem_cons hi]
    rw [List.getD_eq_getElem?_getD, List.getElem?_eq_getElem hi] at hx
    simp only [Option.getD_some] at hx
    rw [hx]
  rw [h1, h2]
  simp only [val]
  rw [← hinv, Nat.add_mul]
  have h3 := Nat.div_add_mod (rest * 1000000000 + x) v
  have h4 : (rest * 1000000000 + x) / v * v = v * ((rest * 1000000000 + x) / v) := Nat.mul_comm _ _
  have h5 : 1000000000 * val (q.drop (i + 1)) * v = 1000000000 * (val (q.drop (i + 1)) * v) := Nat.mul_assoc _ _ _
  rw [h4, h5]
  omega

theorem short_digit {rest v x : Nat} (hr : rest < v) (hv : v < 1000000000) (hx : x < 1000000000) : (rest * 1000000000 + x) / v < 1000000000 := by
  rw [Nat.div_lt_iff_lt_mul (by omega)]
  have : (rest + 1) * 1000000000 ≤ v * 1000000000 := Nat.mul_le_mul_right _ hr
  rw [Nat.mul_comm 1000000000 v]
  omega

theorem short_end {n v q r : Nat} (hr : r < v) (h : q * v + r = n) : q = n / v ∧ r = n % v := by
  have hv : 0 < v := by omega
  subst h
  constructor
  · rw [Nat.add_comm, Nat.add_mul_div_right _ _ hv, Nat.div_eq_of_lt hr]; omega
  · rw [Nat.add_comm, Nat.add_mul_mod_self_right, Nat.mod_eq_of_lt hr]

/-- a round of scaled -/
theorem scaled_step {o u : List Nat} {k c d s : Nat} (hk : k < o.length) (hs : s = c + u.getD k 0 * d) (hinv : val (o.take k) + 1000000000 ^ k * c = val (u.take k) * d) :
    val ((o.set k (s % 1000000000)).take (k + 1)) + 1000000000 ^ (k + 1) * (s / 1000000000) = val (u.take (k + 1)) * d := by
  have h1 : (o.set k (s % 1000000000)).take (k + 1) = o.take k ++ [s % 1000000000] := by
    rw [List.take_succ_eq_append_getElem (by simpa using hk)]
    simp only [List.getElem_set_self]
    congr 1
    apply List.ext_getElem?
    intro j
    by_cases hj : j < k
    · rw [List.getElem?_take_of_lt hj, List.getElem?_take_of_lt hj, List.getElem?_set_ne (by omega)]
    · rw [List.getElem?_eq_none (by simp; omega), List.getElem?_eq_none (by simp; omega)]
  rw [h1, val_snoc, val_take_succ, Nat.pow_succ, Nat.add_mul, List.length_take, Nat.min_eq_left (Nat.le_of_lt hk)]
  have h2 : 1000000000 ^ k * s = 1000000000 ^ k * (s % 1000000000) + 1000000000 ^ k * 1000000000 * (s / 1000000000) := by
    rw [Nat.mul_assoc, ← Nat.mul_add, Nat.mod_add_div]
  have h3 : 1000000000 ^ k * s = 1000000000 ^ k * c + 1000000000 ^ k * u.getD k 0 * d := by rw [hs, Nat.mul_add, Nat.mul_assoc]
  omega

end Bi

/-! texts of integers, plain -/
namespace Bi
open Go

/-- the digits -/
def digs : List UInt8 := [48, 49, 50, 51, 52, 53, 54, 55, 56, 57]

def isDig (b : UInt8) : Prop := 48 ≤ b.toNat ∧ b.toNat ≤ 57

theorem digs_iff (b : UInt8) : digs.contains b = true ↔ isDig b := by
  unfold isDig digs
  simp only [List.contains_eq_mem, List.mem_cons, List.not_mem_nil, or_false, decide_eq_true_eq]
  constructor
  · rintro (h | h | h | h | h | h | h | h | h | h) <;> subst h <;> decide
  · rintro ⟨h1, h2⟩
    have : b = UInt8.ofNat b.toNat := by simp
    have h3 : b.toNat = 48 ∨ b.toNat = 49 ∨ b.toNat = 50 ∨ b.toNat = 51 ∨ b.toNat = 52 ∨ b.toNat = 53 ∨ b.toNat = 54 ∨ b.toNat = 55 ∨ b.toNat = 56 ∨ b.toNat = 57 := by omega
    rcases h3 with h | h | h | h | h | h | h | h | h | h <;> rw [h] at this <;> subst this <;> decide

theorem dropWhile_nil {α : Type} (p : α → Bool) (l : List α) : l.dropWhile p = [] ↔ ∀ x ∈ l, p x = true := by
  induction l with
  | nil => simp
  | cons a r ih =>
    rw [List.dropWhile_cons]
    by_cases h : p a = true
    · simp [h, ih]
    · simp [h]

theorem trim_digs (l : List UInt8) : Lib.trimS l digs = [] ↔ ∀ b ∈ l, isDig b := by
  unfold Lib.trimS Lib.trimLeftS Lib.trimRightS
  rw [dropWhile_nil]
  constructor
  · intro h b hb
    by_cases h0 : (l.reverse.dropWhile (digs.contains ·)) = []
    · rw [dropWhile_nil] at h0
      exact (digs_iff b).1 (h0 b (by simpa using hb))
    · have h1 := List.head_dropWhile_not (p := (digs.contains ·)) (l := l.reverse) h0
      have h2 := h _ (List.mem_reverse.2 (List.head_mem h0))
      rw [h2] at h1
      exact absurd h1 (by simp)
  · intro h b hb
    refine (digs_iff b).2 (h b ?_)
    have := (List.dropWhile_sublist (digs.contains ·) (l := l.reverse)).subset (List.mem_reverse.1 hb)
    simpa using this

/-- the value of decimal digits -/
def decVal : List UInt8 → Nat
  | [] => 0
  | b :: r => (b.toNat - 48) * 10 ^ r.length + decVal r

theorem decFrom_all : ∀ (l : List UInt8) (acc : Nat), (∀ b ∈ l, isDig b) → Lib.decFrom acc l = some (acc * 10 ^ l.length + decVal l)
  | [], acc, _ => by simp [Lib.decFrom, decVal]
  | b :: r, acc, h => by
    have hb : isDig b := h b (by simp)
    have hr := decFrom_all r (acc * 10 + (b.toNat - 48)) (fun x hx => h x (by simp [hx]))
    unfold isDig at hb
    simp only [Lib.decFrom, Lib.digitVal, hb, and_self, if_true, hr, decVal, List.length_cons, Nat.pow_succ]
    congr 1
    rw [Nat.add_mul, Nat.mul_assoc, Nat.mul_comm 10]
    omega

theorem atoi_digs {l : List UInt8} (h0 : l ≠ []) (h : ∀ b ∈ l, isDig b) : Lib.atoi l = some ((decVal l : Nat) : Int) := by
  cases l with
  | nil => exact absurd rfl h0
  | cons b r =>
    have hb : isDig b := h b (by simp)
    unfold isDig at hb
    have h1 : (b == 45) = false := by
      rw [beq_eq_false_iff_ne]; rintro rfl; simp at hb
    have h2 : (b == 43) = false := by
      rw [beq_eq_false_iff_ne]; rintro rfl; simp at hb
    have h3 : Lib.decNat (b :: r) = some (decVal (b :: r)) := by
      unfold Lib.decNat
      rw [if_neg (by simp), decFrom_all _ _ h]; simp
    simp only [Lib.atoi, h1, h2, h3, Bool.false_eq_true, if_false, Option.map_some]

theorem decVal_lt : ∀ (l : List UInt8), (∀ b ∈ l, isDig b) → decVal l < 10 ^ l.length
  | [], _ => by simp [decVal]
  | b :: r, h => by
    have hb : isDig b := h b (by simp)
    have hr := decVal_lt r (fun x hx => h x (by simp [hx]))
    unfold isDig at hb
    rw [decVal, List.length_cons, Nat.pow_succ]
    have : (b.toNat - 48) * 10 ^ r.length ≤ 9 * 10 ^ r.length := Nat.mul_le_mul_right _ (by omega)
    omega

theorem decVal_append : ∀ (a b : List UInt8), decVal (a ++ b) = decVal a * 10 ^ b.length + decVal b
  | [], b => by simp [decVal]
  | x :: a, b => by
    simp only [List.cons_append, decVal, decVal_append a b, List.length_append, Nat.pow_add, Nat.add_mul, Nat.mul_assoc]
    omega

/-- is it the text of a valid integer? t: the text behind the sign -/
def textP (neg : Bool) (t : List UInt8) : Prop := t ≠ [] ∧ t.length ≤ 300 ∧ (∀ b ∈ t, isDig b) ∧ ¬ (t.head? = some 48 ∧ (1 < t.length ∨ neg = true))

end Bi

/-! the digits of an integer, limb by limb, plain -/
namespace Bi
open Go.Lib (decDigits nDigits)

/-- the last k digits of x -/
def lastD : Nat → Nat → List UInt8
  | 0, _ => []
  | k + 1, x => lastD k (x / 10) ++ [UInt8.ofNat (48 + x % 10)]

theorem lastD_length : ∀ (k x : Nat), (lastD k x).length = k
  | 0, _ => rfl
  | k + 1, x => by simp [lastD, lastD_length k]

theorem dec_split : ∀ (k n x : Nat), 0 < n → x < 10 ^ k → decDigits (n * 10 ^ k + x) = decDigits n ++ lastD k x
  | 0, n, x, _, h => by
    have : x = 0 := by simpa using h
    subst this
    simp [lastD]
  | k + 1, n, x, hn, h => by
    have h1 : 10 ≤ n * 10 ^ (k + 1) := by
      have h2 : 1 ≤ 10 ^ k := Nat.one_le_pow _ _ (by decide)
      have h3 : 1 * 10 ≤ n * 10 ^ (k + 1) := Nat.mul_le_mul hn (by rw [Nat.pow_succ]; omega)
      omega
    rw [decDigits, dif_neg (by omega)]
    have e1 : (n * 10 ^ (k + 1) + x) / 10 = n * 10 ^ k + x / 10 := by
      rw [Nat.pow_succ, ← Nat.mul_assoc]
      omega
    have e2 : (n * 10 ^ (k + 1) + x) % 10 = x % 10 := by
      rw [Nat.pow_succ, ← Nat.mul_assoc]
      omega
    rw [e1, e2, dec_split k n (x / 10) hn (by rw [Nat.pow_succ] at h; omega), List.append_assoc]
    rfl

theorem lastD_zero : ∀ (k : Nat), lastD k 0 = List.replicate k 48
  | 0 => rfl
  | k + 1 => by
    rw [lastD, Nat.zero_div, lastD_zero k, List.replicate_succ']
    rfl

theorem lastD_dec : ∀ (k x : Nat), 1 ≤ k → x < 10 ^ k → List.replicate (k - nDigits x) 48 ++ decDigits x = lastD k x
  | 0, _, h, _ => by omega
  | k + 1, x, _, h => by
    by_cases hx : x < 10
    · rw [Go.Lib.nDigits_small hx, Go.Lib.decDigits_one hx, Nat.add_sub_cancel, lastD, Nat.div_eq_of_lt hx, lastD_zero, Nat.mod_eq_of_lt hx]
    · have hk : 1 ≤ k := by
        apply Nat.le_of_not_lt; intro h0
        have : k = 0 := by omega
        subst this
        simp at h; omega
      rw [Go.Lib.nDigits_big hx, decDigits, dif_neg hx, Nat.add_sub_add_right, ← List.append_assoc, lastD_dec k (x / 10) hk (by rw [Nat.pow_succ] at h; omega)]
      rfl

theorem lastD_front : ∀ (k x : Nat), lastD (k + 1) x = UInt8.ofNat (48 + x / 10 ^ k % 10) :: lastD k x
  | 0, x => by simp [lastD]
  | k + 1, x => by
    rw [lastD, lastD_front k (x / 10)]
    have : x / 10 / 10 ^ k = x / 10 ^ (k + 1) := by rw [Nat.div_div_eq_div_mul, Nat.pow_succ, Nat.mul_comm]
    rw [this, List.cons_append]
    rfl

theorem lastD_cat : ∀ (b a x y : Nat), x < 10 ^ b → lastD (a + b) (y * 10 ^ b + x) = lastD a y ++ lastD b x
  | 0, a, x, y, h => by
    have : x = 0 := by simpa using h
    subst this
    simp [lastD]
  | b + 1, a, x, y, h => by
    have e1 : (y * 10 ^ (b + 1) + x) / 10 = y * 10 ^ b + x / 10 := by
      rw [Nat.pow_succ, ← Nat.mul_assoc]; omega
    have e2 : (y * 10 ^ (b + 1) + x) % 10 = x % 10 := by
      rw [Nat.pow_succ, ← Nat.mul_assoc]; omega
    show lastD (a + b + 1) _ = _
    rw [lastD, e1, e2, lastD_cat b a (x / 10) y (by rw [Nat.pow_succ] at h; omega), List.append_assoc]
    rfl

/-- the digits are the last k where the number has k digits -/
theorem dec_last {k x : Nat} (h1 : x / 10 ^ k = 0) (h2 : k = 0 → x = 0) (h3 : k ≠ 0 → x / 10 ^ (k - 1) ≠ 0) (hx : x ≠ 0) : decDigits x = lastD k x := by
  have hk : 1 ≤ k := by
    apply Nat.le_of_not_lt; intro h
    exact hx (h2 (by omega))
  have hlt : x < 10 ^ k := by
    have := (Nat.div_eq_zero_iff_lt (Nat.pow_pos (by decide) : 0 < 10 ^ k)).1 h1
    exact this
  have hge : 10 ^ (k - 1) ≤ x := by
    apply Nat.le_of_not_lt; intro h
    exact h3 (by omega) (Nat.div_eq_of_lt h)
  obtain ⟨j, rfl⟩ : ∃ j, k = j + 1 := ⟨k - 1, by omega⟩
  have hn := Go.Lib.nDigits_unique j x (by simpa using hge) hlt
  rw [← lastD_dec (j + 1) x (by omega) hlt, hn]
  simp

/-- from the top: one limb more -/
theorem dec_limb {n x : Nat} (hn : 0 < n) (hx : x < 1000000000) : decDigits (x + 1000000000 * n) = decDigits n ++ (List.replicate (9 - nDigits x) 48 ++ decDigits x) := by
  rw [lastD_dec 9 x (by omega) (by simpa using hx), ← dec_split 9 n x hn (by simpa using hx)]
  congr 1
  omega

/-- from below: one limb more -/
theorem low_limb {k v x : Nat} (hv : v < 1000000000 ^ k) : lastD 9 x ++ lastD (9 * k) v = lastD (9 * (k + 1)) (v + 1000000000 ^ k * x) := by
  rw [pow9] at hv ⊢
  rw [show 9 * (k + 1) = 9 + 9 * k by omega, ← lastD_cat (9 * k) 9 v x hv]
  congr 1
  rw [Nat.mul_comm, Nat.add_comm]

theorem dec_low {k v x : Nat} (hv : v < 1000000000 ^ k) (hx : 0 < x) : decDigits x ++ lastD (9 * k) v = decDigits (v + 1000000000 ^ k * x) := by
  rw [pow9] at hv ⊢
  rw [← dec_split (9 * k) x v hx hv]
  congr 1
  rw [Nat.mul_comm, Nat.add_comm]

theorem drop_cons {L : List Nat} {i x : Nat} (hi : i < L.length) (hx : L.getD i 0 = x) : val (L.drop i) = x + 1000000000 * val (L.drop (i + 1)) := by
  rw [List.drop_eq_getElem_cons hi]
  rw [List.getD_eq_getElem?_getD, List.getElem?_eq_getElem hi] at hx
  simp only [Option.getD_some] at hx
  rw [hx]
  simp [val]

theorem drop_pos {n : Nat} {L : List Nat} (h : L = limbs n) {j : Nat} (hj : j < L.length) : 0 < val (L.drop j) := by
  rcases List.eq_nil_or_concat L with h0 | ⟨r, x, h0⟩
  · subst h0; simp at hj
  · rw [List.concat_eq_append] at h0
    subst h0
    obtain ⟨_, hx, _⟩ := dlen_limbs h
    rw [List.drop_append_of_le_length (by simp at hj; omega), val_snoc]
    have : 0 < 1000000000 ^ (r.drop j).length * x := Nat.mul_pos (Nat.pow_pos (by decide)) (by omega)
    omega

/-- the digits of the limbs from j on -/
def outT (L : List Nat) (j : Nat) : List UInt8 := if j < L.length then decDigits (val (L.drop j)) else []

theorem outT_len {L : List Nat} (h : val L < Big) (j : Nat) : (outT L j).length ≤ 300 := by
  unfold outT
  split
  · rw [Go.Lib.decDigits_length]
    have h1 : val (L.drop j) ≤ val L := by
      clear h
      induction j generalizing L with
      | zero => simp
      | succ i ih =>
        cases L with
        | nil => simp
        | cons x r =>
          have := ih (L := r) (by rename_i h; simpa using h)
          simp only [List.drop_succ_cons, val]
          omega
    by_cases h0 : val (L.drop j) = 0
    · rw [h0, Go.Lib.nDigits_small (by decide)]; decide
    · have h3 : ∀ a k : Nat, k = a + a → 10 ^ a * 10 ^ a = 10 ^ k := fun a k hk => by rw [hk, Nat.pow_add]
      obtain ⟨k, hk⟩ : ∃ k : Nat, k = 300 := ⟨_, rfl⟩
      rw [← hk]
      exact (nd_le h0).2 (Nat.lt_of_le_of_lt h1 (Nat.lt_of_lt_of_eq h (h3 150 k (by omega))))
  · simp

theorem outT_last {L : List Nat} {j z : Nat} (hj : j + 1 = L.length) (hz : L.getD j 0 = z) : outT L j = outT L (j + 1) ++ decDigits z := by
  unfold outT
  rw [if_pos (by omega), if_neg (by omega), drop_cons (by omega) hz, List.drop_eq_nil_of_le (by omega)]
  simp [val]

theorem outT_step {n : Nat} {L : List Nat} (h : L = limbs n) {j z : Nat} (hj : j + 1 < L.length) (hz : L.getD j 0 = z) (hz9 : z < 1000000000) : outT L j = outT L (j + 1) ++ (List.replicate (9 - nDigits z) 48 ++ decDigits z) := by
  unfold outT
  rw [if_pos (by omega), if_pos hj, drop_cons (by omega) hz, dec_limb (drop_pos h hj) hz9]

/-- what the reference has written before limb i -/
def refT (L : List Nat) (i : Nat) : List UInt8 := if i < L.length then lastD (9 * i) (val (L.take i)) else decDigits (val L)

theorem take_val {L : List Nat} {i z : Nat} (hi : i < L.length) (hz : L.getD i 0 = z) : val (L.take (i + 1)) = val (L.take i) + 1000000000 ^ i * z := by
  rw [List.getD_eq_getElem?_getD, List.getElem?_eq_getElem hi] at hz
  simp only [Option.getD_some] at hz
  rw [List.take_succ_eq_append_getElem hi, val_snoc, hz, List.length_take, Nat.min_eq_left (by omega)]

theorem take_lt {L : List Nat} (ho : Ok L) {i : Nat} (hi : i ≤ L.length) : val (L.take i) < 1000000000 ^ i := by
  have h : Ok (L.take i) := fun x hx => ho x (List.mem_of_mem_take hx)
  have := val_lt h
  rw [List.length_take, Nat.min_eq_left hi] at this
  exact this

theorem refT_step {L : List Nat} (ho : Ok L) {i z : Nat} (hi : i + 1 < L.length) (hz : L.getD i 0 = z) : lastD 9 z ++ refT L i = refT L (i + 1) := by
  unfold refT
  rw [if_pos (by omega), if_pos hi, low_limb (take_lt ho (by omega)), take_val (by omega) hz]

theorem refT_last {n : Nat} {L : List Nat} (h : L = limbs n) (ho : Ok L) {i z k : Nat} (hi : i + 1 = L.length) (hz : L.getD i 0 = z) (h1 : z / 10 ^ k = 0) (h3 : k = 0 ∨ z / 10 ^ (k - 1) ≠ 0) : lastD k z ++ refT L i = refT L (i + 1) := by
  have hz0 : z ≠ 0 := by
    have h2 := drop_pos h (j := i) (by omega)
    rw [drop_cons (by omega) hz, List.drop_eq_nil_of_le (by omega)] at h2
    simp [val] at h2
    omega
  have hk : k = 0 → z = 0 := by
    rintro rfl
    simpa using h1
  unfold refT
  rw [if_pos (by omega), if_neg (by omega), ← dec_last h1 hk (fun hk0 => by rcases h3 with h3 | h3; exact absurd h3 hk0; exact h3) hz0, dec_low (take_lt ho (by omega)) (by omega), ← take_val (by omega) hz, hi, List.take_length]

end Bi

/-! texts and values of integers, plain -/
namespace Bi
open Go.Lib (decDigits nDigits itoa)

theorem digit_back {b : UInt8} (h : isDig b) : UInt8.ofNat (48 + (b.toNat - 48)) = b := by
  unfold isDig at h
  rw [show 48 + (b.toNat - 48) = b.toNat by omega]
  simp

theorem decVal_pos {t : List UInt8} (h : ∀ b ∈ t, isDig b) (h0 : t ≠ []) (h48 : t.head? ≠ some 48) : 0 < decVal t := by
  cases t with
  | nil => exact absurd rfl h0
  | cons b r =>
    have hb : isDig b := h b (by simp)
    unfold isDig at hb
    have : b.toNat ≠ 48 := by
      intro e
      apply h48
      simp only [List.head?_cons, Option.some.injEq]
      exact UInt8.toNat_inj.1 e
    rw [decVal]
    have h1 : 0 < 10 ^ r.length := Nat.pow_pos (by decide)
    have : 1 * 10 ^ r.length ≤ (b.toNat - 48) * 10 ^ r.length := Nat.mul_le_mul_right _ (by omega)
    omega

/-- the digits of the value are the text, where no zero stands ahead -/
theorem dec_text : ∀ (n : Nat) (t : List UInt8), t.length = n → (∀ b ∈ t, isDig b) → t ≠ [] → ¬ (t.head? = some 48 ∧ 1 < t.length) → decDigits (decVal t) = t := by
  intro n
  induction n with
  | zero => intro t hl _ h0 _; exact absurd (List.length_eq_zero_iff.1 hl) h0
  | succ n ih =>
    intro t hl h h0 hz
    rcases List.eq_nil_or_concat t with rfl | ⟨r, d, hr⟩
    · exact absurd rfl h0
    · rw [List.concat_eq_append] at hr
      subst hr
      have hd : isDig d := h d (by simp)
      have hdb := digit_back hd
      have hdr : isDig d := hd
      unfold isDig at hd
      have hv : decVal (r ++ [d]) = decVal r * 10 + (d.toNat - 48) := by rw [decVal_append]; simp [decVal]
      by_cases hr0 : r = []
      · subst hr0
        rw [hv]
        simp only [decVal, Nat.zero_mul, Nat.zero_add, List.nil_append]
        rw [Go.Lib.decDigits_one (by omega), hdb]
      · have hpos : 0 < decVal r := decVal_pos (fun b hb => h b (by simp [hb])) hr0 (fun e => hz ⟨by
          cases r with
          | nil => exact absurd rfl hr0
          | cons a r => simpa using e, by have := List.length_pos_iff.2 hr0; simp; omega⟩)
        rw [hv, decDigits, dif_neg (by omega), show (decVal r * 10 + (d.toNat - 48)) / 10 = decVal r by omega, show (decVal r * 10 + (d.toNat - 48)) % 10 = d.toNat - 48 by omega, hdb,
          ih r (by simpa using hl) (fun b hb => h b (by simp [hb])) hr0 (fun ⟨e, _⟩ => hz ⟨by
            cases r with
            | nil => exact absurd rfl hr0
            | cons a r => simpa using e, by have := List.length_pos_iff.2 hr0; simp; omega⟩)]

theorem dec_text_no {t : List UInt8} (h : ∀ b ∈ t, isDig b) (hz : t.head? = some 48 ∧ 1 < t.length) : decDigits (decVal t) ≠ t := by
  intro e
  obtain ⟨h1, h2⟩ := hz
  cases t with
  | nil => simp at h1
  | cons b r =>
    simp only [List.head?_cons, Option.some.injEq] at h1
    subst h1
    have hv : decVal (48 :: r) = decVal r := by rw [decVal, show (48 : UInt8).toNat - 48 = 0 from rfl, Nat.zero_mul, Nat.zero_add]
    have hlen := congrArg List.length e
    rw [Go.Lib.decDigits_length, hv] at hlen
    have hlt := decVal_lt r (fun b hb => h b (by simp [hb]))
    simp only [List.length_cons] at h2 hlen
    by_cases h0 : decVal r = 0
    · rw [h0, Go.Lib.nDigits_small (by decide)] at hlen; omega
    · have := (nd_le h0).2 hlt
      omega

def sgnT (neg : Bool) (v : Nat) : Int := if neg then -(v : Int) else v

/-- which texts are those of their value -/
theorem itoa_text {neg : Bool} {t : List UInt8} (h : ∀ b ∈ t, isDig b) (h0 : t ≠ []) :
    itoa (sgnT neg (decVal t)) = (if neg = true then [45] else []) ++ t ↔ ¬ (t.head? = some 48 ∧ (1 < t.length ∨ neg = true)) := by
  have hz0 : t.head? = some 48 → t.length = 1 → decVal t = 0 := by
    intro h1 h2
    cases t with
    | nil => simp at h1
    | cons b r =>
      simp only [List.head?_cons, Option.some.injEq] at h1
      subst h1
      have : r = [] := List.length_eq_zero_iff.1 (by simpa using h2)
      subst this
      rfl
  cases neg
  · simp only [sgnT, Bool.false_eq_true, if_false, List.nil_append, or_false]
    have e1 : itoa ((decVal t : Nat) : Int) = decDigits (decVal t) := by
      unfold itoa; rw [if_neg (by omega), Int.toNat_natCast]
    rw [e1]
    constructor
    · intro e hz
      exact dec_text_no h hz e
    · intro hz
      exact dec_text _ t rfl h h0 hz
  · simp only [sgnT, if_true, or_true, and_true]
    constructor
    · intro e h1
      by_cases hv : decVal t = 0
      · rw [hv] at e
        have : itoa (-((0 : Nat) : Int)) = [48] := by
          unfold itoa
          rw [if_neg (by decide), show (-((0 : Nat) : Int)).toNat = 0 from rfl, Go.Lib.decDigits_one (by decide)]
          rfl
        rw [this] at e
        simp at e
      · have e1 : itoa (-((decVal t : Nat) : Int)) = 45 :: decDigits (decVal t) := by
          unfold itoa; rw [if_pos (by omega), show (-((decVal t : Nat) : Int)).natAbs = decVal t by omega]
        rw [e1] at e
        simp only [List.singleton_append, List.cons.injEq, true_and] at e
        refine dec_text_no h ⟨h1, ?_⟩ e
        apply Nat.lt_of_not_le
        intro hle
        have := List.length_pos_iff.2 h0
        exact hv (hz0 h1 (by omega))
    · intro h1
      have hp := decVal_pos h h0 h1
      have e1 : itoa (-((decVal t : Nat) : Int)) = 45 :: decDigits (decVal t) := by
        unfold itoa; rw [if_pos (by omega), show (-((decVal t : Nat) : Int)).natAbs = decVal t by omega]
      rw [e1, dec_text _ t rfl h h0 (fun ⟨h2, _⟩ => h1 h2)]
      rfl

theorem chunk_snoc {t : List UInt8} {i a : Nat} {z : UInt8} (h : t[i]? = some z) (ha : a ≤ i) : (t.drop a).take (i + 1 - a) = (t.drop a).take (i - a) ++ [z] := by
  rw [show i + 1 - a = (i - a) + 1 by omega, List.take_add_one]
  congr 1
  rw [List.getElem?_drop, show a + (i - a) = i by omega, h]
  rfl

theorem val_snoc_dig {c : List UInt8} {z : UInt8} : decVal (c ++ [z]) = 10 * decVal c + (z.toNat - 48) := by
  rw [decVal_append]; simp [decVal]; omega

theorem chunk_small {c : List UInt8} (h : ∀ b ∈ c, isDig b) (hl : c.length ≤ 8) : decVal c < 100000000 := by
  have h1 := decVal_lt c h
  have h2 : 10 ^ c.length ≤ 10 ^ 8 := Nat.pow_le_pow_right (by omega) hl
  omega

/-- less than the base (behind a name: the walk meets no great numeral) -/
def Sm8 (x : Nat) : Prop := x < 100000000
end Bi

/-! the digits of a number read back, plain -/
namespace Bi
open Go.Lib (decDigits nDigits itoa)

theorem dec_all (n : Nat) : (∀ b ∈ decDigits n, isDig b) ∧ decVal (decDigits n) = n ∧ decDigits n ≠ [] ∧ (n ≠ 0 → (decDigits n).head? ≠ some 48) := by
  induction n using Nat.strongRecOn with
  | ind n ih =>
    by_cases h : n < 10
    · rw [Go.Lib.decDigits_one h]
      have hb : (UInt8.ofNat (48 + n)).toNat = 48 + n := by
        rw [UInt8.toNat_ofNat']; omega
      refine ⟨fun b hb' => ?_, ?_, by simp, fun h0 => ?_⟩
      · simp only [List.mem_singleton] at hb'
        subst hb'
        unfold isDig; rw [hb]; omega
      · simp only [decVal, hb, List.length_nil, Nat.pow_zero]; omega
      · intro e
        simp only [List.head?_cons, Option.some.injEq] at e
        have := congrArg UInt8.toNat e
        rw [hb] at this
        have h48 : (48 : UInt8).toNat = 48 := rfl
        omega
    · obtain ⟨h1, h2, h3, h4⟩ := ih (n / 10) (by omega)
      have hb : (UInt8.ofNat (48 + n % 10)).toNat = 48 + n % 10 := by
        rw [UInt8.toNat_ofNat']; omega
      rw [decDigits, dif_neg h]
      refine ⟨fun b hb' => ?_, ?_, by simp, fun _ => ?_⟩
      · rcases List.mem_append.1 hb' with hb' | hb'
        · exact h1 b hb'
        · simp only [List.mem_singleton] at hb'
          subst hb'
          unfold isDig; rw [hb]; omega
      · rw [val_snoc_dig, h2, hb]; omega
      · have := h4 (by omega)
        cases hd : decDigits (n / 10) with
        | nil => exact absurd hd h3
        | cons x r =>
          rw [hd] at this
          simpa using this

theorem dec_len {n : Nat} (h : n < Big) : (decDigits n).length ≤ 300 := by
  rw [Go.Lib.decDigits_length]
  by_cases h0 : n = 0
  · rw [h0, Go.Lib.nDigits_small (by decide)]; decide
  · have h3 : ∀ a k : Nat, k = a + a → 10 ^ a * 10 ^ a = 10 ^ k := fun a k hk => by rw [hk, Nat.pow_add]
    obtain ⟨k, hk⟩ : ∃ k : Nat, k = 300 := ⟨_, rfl⟩
    rw [← hk]
    exact (nd_le h0).2 (Nat.lt_of_lt_of_eq h (h3 150 k (by omega)))

/-- the text of an integer is the text of an integer -/
theorem itoa_parts {z : Int} (h : z.natAbs < Big) : ∃ (neg : Bool) (t : List UInt8), itoa z = (if neg = true then [45] else []) ++ t ∧ Go.Lib.hasPrefix (itoa z) [45] = neg ∧ Go.Lib.trimPrefix (itoa z) [45] = t ∧ textP neg t ∧ sgnT neg (decVal t) = z := by
  obtain ⟨h1, h2, h3, h4⟩ := dec_all z.natAbs
  have hl := dec_len h
  by_cases hz : z < 0
  · have e : itoa z = 45 :: decDigits z.natAbs := by unfold itoa; rw [if_pos hz]
    have hp : Go.Lib.hasPrefix (45 :: decDigits z.natAbs) [45] = true := by simp [Go.Lib.hasPrefix]
    refine ⟨true, decDigits z.natAbs, by rw [e]; rfl, by rw [e]; exact hp, by rw [e]; unfold Go.Lib.trimPrefix; rw [if_pos hp]; rfl, ⟨h3, hl, h1, fun hh => h4 (by omega) hh.1⟩, ?_⟩
    simp only [sgnT, if_true, h2]; omega
  · have e : itoa z = decDigits z.natAbs := by unfold itoa; rw [if_neg hz, show z.toNat = z.natAbs by omega]
    have hp : Go.Lib.hasPrefix (decDigits z.natAbs) [45] = false := by
      cases hd : decDigits z.natAbs with
      | nil => exact absurd hd h3
      | cons x r =>
        have hx : isDig x := h1 x (by rw [hd]; simp)
        have hb : ((45 : UInt8) == x) = false := by
          rw [beq_eq_false_iff_ne]
          rintro rfl
          unfold isDig at hx
          have : (45 : UInt8).toNat = 45 := rfl
          omega
        unfold Go.Lib.hasPrefix
        rw [List.isPrefixOf, hb]
        rfl
    refine ⟨false, decDigits z.natAbs, by rw [e]; rfl, by rw [e]; exact hp, by rw [e]; unfold Go.Lib.trimPrefix; rw [if_neg (by rw [hp]; simp)], ⟨h3, hl, h1, fun hh => ?_⟩, ?_⟩
    · by_cases h0 : z.natAbs = 0
      · rw [h0, Go.Lib.decDigits_one (by decide)] at hh
        simp at hh
      · exact h4 h0 hh.1
    · simp only [sgnT, Bool.false_eq_true, if_false, h2]; omega
end Bi

namespace Wl
open Go

abbrev Bs := List UInt8

/-- one step of the check sum -/
def cstep (x : Nat) : Nat := if x % 2 = 1 then Nat.xor (x / 2) 3988292384 else x / 2
def csteps : Nat → Nat → Nat
  | 0, x => x
  | k + 1, x => csteps k (cstep x)
def cbyte (x b : Nat) : Nat := csteps 8 (Nat.xor x b)
def crcF (x : Nat) (l : Bs) : Nat := l.foldl (fun x b => cbyte x b.toNat) x
/-- the check sum of bytes -/
def crc (l : Bs) : Nat := 4294967295 - crcF 4294967295 l

theorem csteps_succ : ∀ (k x : Nat), csteps (k + 1) x = cstep (csteps k x)
  | 0, _ => rfl
  | k + 1, x => by rw [csteps, csteps_succ k (cstep x), csteps]

theorem xor_lt {a b : Nat} (ha : a < 4294967296) (hb : b < 4294967296) : Nat.xor a b < 4294967296 :=
  Nat.xor_lt_two_pow (n := 32) ha hb

theorem cstep_lt {x : Nat} (h : x < 4294967296) : cstep x < 4294967296 := by
  unfold cstep; split
  · exact xor_lt (by omega) (by decide)
  · omega

theorem csteps_lt : ∀ (k : Nat) {x : Nat}, x < 4294967296 → csteps k x < 4294967296
  | 0, _, h => h
  | k + 1, _, h => csteps_lt k (cstep_lt h)

theorem cbyte_lt {x : Nat} {b : UInt8} (h : x < 4294967296) : cbyte x b.toNat < 4294967296 :=
  csteps_lt 8 (xor_lt h (by have := b.toNat_lt; omega))

theorem crcF_lt : ∀ (l : Bs) {x : Nat}, x < 4294967296 → crcF x l < 4294967296
  | [], _, h => h
  | b :: l, x, h => by
    show crcF (cbyte x b.toNat) l < _
    exact crcF_lt l (cbyte_lt h)

theorem crcF_snoc (x : Nat) (l : Bs) (b : UInt8) : crcF x (l ++ [b]) = cbyte (crcF x l) b.toNat := by
  unfold crcF; rw [List.foldl_append]; rfl

theorem crc_lt (l : Bs) : crc l < 4294967296 := by unfold crc; omega

/-- a hexadecimal digit -/
def hexD (d : Nat) : UInt8 := if d < 10 then UInt8.ofNat (48 + d) else UInt8.ofNat (87 + d)
/-- the last k hexadecimal digits -/
def hexN : Nat → Nat → Bs
  | 0, _ => []
  | k + 1, x => hexN k (x / 16) ++ [hexD (x % 16)]
/-- the hexadecimal digits without superfluous zeros -/
def hexM (x : Nat) : Bs := if _h : x < 16 then [hexD x] else hexM (x / 16) ++ [hexD (x % 16)]
  termination_by x
  decreasing_by omega

theorem hexN_length : ∀ (k x : Nat), (hexN k x).length = k
  | 0, _ => rfl
  | k + 1, x => by simp [hexN, hexN_length k]

theorem hexN_zero : ∀ (k : Nat), hexN k 0 = List.replicate k 48
  | 0 => rfl
  | k + 1 => by
    rw [hexN, Nat.zero_div, hexN_zero k, List.replicate_succ']
    rfl

theorem hexM_pad : ∀ (k x : Nat), 1 ≤ k → x < 16 ^ k → (hexM x).length ≤ k ∧ List.replicate (k - (hexM x).length) 48 ++ hexM x = hexN k x
  | 0, _, h, _ => absurd h (by omega)
  | k + 1, x, _, hx => by
    rw [hexM]
    by_cases h : x < 16
    · rw [dif_pos h]
      refine ⟨by simp, ?_⟩
      rw [hexN, show x / 16 = 0 by omega, show x % 16 = x by omega, hexN_zero]
      simp
    · rw [dif_neg h]
      have hk : 1 ≤ k := by
        rcases Nat.eq_zero_or_pos k with rfl | h'
        · simp at hx; omega
        · exact h'
      obtain ⟨h1, h2⟩ := hexM_pad k (x / 16) hk (by rw [Nat.pow_succ] at hx; omega)
      refine ⟨by simp; omega, ?_⟩
      rw [hexN, ← h2]
      simp

theorem hexD_plain (d : Nat) (h : d < 16) : hexD d ≠ 10 ∧ hexD d ≠ 32 := by
  have : ∀ d : Fin 16, hexD d.val ≠ 10 ∧ hexD d.val ≠ 32 := by decide
  exact this ⟨d, h⟩

theorem hexN_plain : ∀ (k x : Nat), (10 : UInt8) ∉ hexN k x
  | 0, _ => by simp [hexN]
  | k + 1, x => by
    rw [hexN]
    simp only [List.mem_append, List.mem_singleton, not_or]
    exact ⟨hexN_plain k _, fun h => (hexD_plain (x % 16) (by omega)).1 h.symm⟩

/-- the greatest number of a record -/
def lim : Nat := 1099511627776

/-- the text of a number -/
def txt (n : Nat) : Bs := Lib.itoa (n : Int)

theorem txt_eq (n : Nat) : txt n = Lib.decDigits n := by
  unfold txt Lib.itoa; rw [if_neg (by omega), Int.toNat_natCast]

theorem txt_dig (n : Nat) : ∀ b ∈ txt n, Bi.isDig b := by rw [txt_eq]; exact (Bi.dec_all n).1
theorem txt_ne (n : Nat) : txt n ≠ [] := by rw [txt_eq]; exact (Bi.dec_all n).2.2.1
theorem txt_val (n : Nat) : Bi.decVal (txt n) = n := by rw [txt_eq]; exact (Bi.dec_all n).2.1
theorem txt_inj {a b : Nat} (h : txt a = txt b) : a = b := by rw [← txt_val a, ← txt_val b, h]
theorem txt_no {n : Nat} {c : UInt8} (h : c.toNat < 48) : c ∉ txt n := by
  intro hm
  have := txt_dig n c hm
  unfold Bi.isDig at this
  omega
theorem txt_len {n : Nat} (h : n ≤ lim) : (txt n).length ≤ 13 := by
  rw [txt_eq, Lib.decDigits_length]
  rcases Nat.eq_zero_or_pos n with rfl | h0
  · rw [Lib.nDigits_small (by decide)]; omega
  · exact (Bi.nd_le (by omega)).2 (by unfold lim at h; exact Nat.lt_of_le_of_lt h (by decide))
theorem txt_pos (n : Nat) : 0 < (txt n).length := List.length_pos_iff.2 (txt_ne n)

theorem txt_atoi {n : Nat} (h : n ≤ lim) : Lib.atoiAll (txt n) = .ok (n : Int) := by
  rw [Lib.atoiAll_short _ (by have := txt_len h; omega), Bi.atoi_digs (txt_ne n) (txt_dig n), txt_val]
  rfl

/-- the written record -/
def encB (n : Nat) (r : Bs) : Bs := 119 :: (txt n ++ 32 :: (txt r.length ++ 32 :: (hexN 8 (crc (txt n ++ 32 :: r)) ++ 10 :: r)))
/-- the written record, or nothing -/
def enc (n : Int) (r : Bs) : Bs := if n < 0 ∨ (lim : Int) < n ∨ 65000 < r.length then [] else encB n.toNat r

/-- s is the written record with number n and record r -/
structure IsRec (s : Bs) (n : Nat) (r : Bs) : Prop where
  n_le : n ≤ lim
  r_le : r.length ≤ 65000
  eq : s = encB n r

theorem encB_len {n : Nat} {r : Bs} (h : n ≤ lim) (h2 : r.length ≤ 65000) : (encB n r).length ≤ 65100 := by
  unfold encB
  have h1 := txt_len h
  have h3 : (txt r.length).length ≤ 13 := txt_len (by unfold lim; omega)
  simp [hexN_length]
  omega

theorem encB_ne (n : Nat) (r : Bs) : encB n r ≠ [] := by simp [encB]

theorem enc_rec {n : Int} {r : Bs} (h : enc n r ≠ []) : IsRec (enc n r) n.toNat r ∧ 0 ≤ n := by
  unfold enc at h ⊢
  split at h
  · exact absurd rfl h
  · rename_i hc
    rw [if_neg hc]
    exact ⟨⟨by unfold lim at *; omega, by omega, rfl⟩, by omega⟩

theorem enc_of {n : Nat} {r : Bs} (h : n ≤ lim) (h2 : r.length ≤ 65000) : enc (n : Int) r = encB n r := by
  unfold enc; rw [if_neg (by omega), Int.toNat_natCast]

theorem IsRec.enc {s : Bs} {n : Nat} {r : Bs} (h : IsRec s n r) : Wl.enc (n : Int) r = s := by rw [enc_of h.n_le h.r_le, h.eq]

theorem enc_len (n : Int) (r : Bs) : (enc n r).length ≤ 65100 := by
  by_cases h : enc n r = []
  · rw [h]; simp
  · obtain ⟨h1, _⟩ := enc_rec h
    rw [h1.eq]; exact encB_len h1.n_le h1.r_le

theorem index_none {c : UInt8} {s : Bs} (h : c ∉ s) : Lib.index s [c] = -1 := by
  induction s with
  | nil => rfl
  | cons b l ih =>
    have hb : (c == b) = false := by
      rw [beq_eq_false_iff_ne]; rintro rfl; exact h (by simp)
    have hl : c ∉ l := fun hh => h (by simp [hh])
    simp [Lib.index, List.isPrefixOf, hb, ih hl]

theorem index_split {c : UInt8} {n d : Bs} (h : c ∉ n) : Lib.index (n ++ c :: d) [c] = n.length := by
  induction n with
  | nil => simp [Lib.index, List.isPrefixOf]
  | cons b l ih =>
    have hb : (c == b) = false := by
      rw [beq_eq_false_iff_ne]; rintro rfl; exact h (by simp)
    have hl : c ∉ l := fun hh => h (by simp [hh])
    have := ih hl
    simp only [List.cons_append, Lib.index, List.isPrefixOf, hb, Bool.false_and, this]
    rw [if_neg (by simp), if_neg (by simp), List.length_cons, Int.natCast_succ]

theorem cut_none {c : UInt8} {s : Bs} (h : c ∉ s) : Lib.cut s [c] = (s, [], false) := by
  unfold Lib.cut; rw [index_none h]; rfl

theorem cut_split {c : UInt8} {n d : Bs} (h : c ∉ n) : Lib.cut (n ++ c :: d) [c] = (n, d, true) := by
  unfold Lib.cut
  rw [index_split h, if_pos (by omega)]
  simp

theorem mem_cases (c : UInt8) (s : Bs) : c ∉ s ∨ ∃ n d, s = n ++ c :: d ∧ c ∉ n := by
  induction s with
  | nil => exact .inl (by simp)
  | cons b l ih =>
    by_cases hb : b = c
    · subst hb; exact .inr ⟨[], l, rfl, by simp⟩
    · rcases ih with h | ⟨n, d, rfl, hn⟩
      · exact .inl (by simp [h]; exact fun h => hb h.symm)
      · exact .inr ⟨b :: n, d, rfl, by simp [hn]; exact fun h => hb h.symm⟩

theorem split_inj {c : UInt8} {n d n' d' : Bs} (h : n ++ c :: d = n' ++ c :: d') (hn : c ∉ n) (hn' : c ∉ n') : n = n' ∧ d = d' := by
  have h1 := cut_split (d := d) hn
  have h2 := cut_split (d := d') hn'
  rw [h, h2] at h1
  simp only [Prod.mk.injEq] at h1
  exact ⟨h1.1.symm, h1.2.1.symm⟩

/-- what stands ahead of the line feed -/
def headB (n : Nat) (r : Bs) : Bs := 119 :: (txt n ++ 32 :: (txt r.length ++ 32 :: hexN 8 (crc (txt n ++ 32 :: r))))

theorem encB_head (n : Nat) (r : Bs) : encB n r = headB n r ++ 10 :: r := by simp [encB, headB]

theorem headB_no (n : Nat) (r : Bs) : (10 : UInt8) ∉ headB n r := by
  unfold headB
  have h1 : (10 : UInt8) ∉ txt n := txt_no (by decide)
  have h2 : (10 : UInt8) ∉ txt r.length := txt_no (by decide)
  have h3 := hexN_plain 8 (crc (txt n ++ 32 :: r))
  simp [h1, h2, h3]

theorem IsRec.inj {s : Bs} {n n' : Nat} {r r' : Bs} (h : IsRec s n r) (h' : IsRec s n' r') : n = n' ∧ r = r' := by
  have e := h.eq.symm.trans h'.eq
  rw [encB_head, encB_head] at e
  obtain ⟨e1, e2⟩ := split_inj e (headB_no _ _) (headB_no _ _)
  subst e2
  unfold headB at e1
  simp only [List.cons.injEq, true_and] at e1
  exact ⟨txt_inj (split_inj e1 (txt_no (by decide)) (txt_no (by decide))).1, rfl⟩

open Classical in
/-- the number and the record of a written record -/
noncomputable def dec (s : Bs) : Option (Nat × Bs) := if h : ∃ p : Nat × Bs, IsRec s p.1 p.2 then some h.choose else none

theorem dec_some {s : Bs} {n : Nat} {r : Bs} : dec s = some (n, r) ↔ IsRec s n r := by
  unfold dec
  constructor
  · intro h
    split at h
    · rename_i hp
      have := hp.choose_spec
      simp only [Option.some.injEq] at h
      rw [h] at this
      exact this
    · cases h
  · intro h
    have hp : ∃ p : Nat × Bs, IsRec s p.1 p.2 := ⟨(n, r), h⟩
    rw [dif_pos hp]
    obtain ⟨h1, h2⟩ := hp.choose_spec.inj h
    exact congrArg some (Prod.ext h1 h2)

theorem dec_none {s : Bs} : dec s = none ↔ ∀ n r, ¬ IsRec s n r := by
  constructor
  · intro h n r hr
    rw [dec_some.2 hr] at h; cases h
  · intro h
    cases hd : dec s with
    | none => rfl
    | some p => exact absurd (dec_some.1 hd) (h p.1 p.2)

theorem dec_nil : dec [] = none := dec_none.2 fun n r h => by have := h.eq; simp [encB] at this

theorem dec_enc {n : Nat} {r : Bs} (h : n ≤ lim) (h2 : r.length ≤ 65000) : dec (enc (n : Int) r) = some (n, r) :=
  dec_some.2 ⟨h, h2, enc_of h h2⟩

/-- the first half of a written record is none -/
theorem dec_half {n : Nat} {r : Bs} : dec ((encB n r).take ((encB n r).length / 2)) = none := by
  refine dec_none.2 fun n' r' h => ?_
  have he := h.eq
  rw [encB_head n' r'] at he
  have h3 : 8 ≤ (headB n r).length := by unfold headB; simp [hexN_length]; omega
  have hlen : ((encB n r).take ((encB n r).length / 2)).length < (encB n r).length := by
    have : (encB n r).length = (headB n r).length + (r.length + 1) := by rw [encB_head]; simp
    rw [List.length_take]; omega
  have h1 := List.take_append_drop ((encB n r).length / 2) (encB n r)
  rw [he, List.append_assoc, List.cons_append] at h1
  obtain ⟨D, hD⟩ : ∃ D, D = (encB n r).drop ((encB n r).length / 2) := ⟨_, rfl⟩
  have hD2 : D.length = (encB n r).length - (encB n r).length / 2 := by rw [hD]; simp
  rw [← hD] at h1
  have hsp2 : headB n r ++ 10 :: r = headB n' r' ++ 10 :: (r' ++ D) := by rw [← encB_head, h1]
  obtain ⟨e1, e2⟩ := split_inj hsp2 (headB_no _ _) (headB_no _ _)
  unfold headB at e1
  simp only [List.cons.injEq, true_and] at e1
  obtain ⟨e3, e4⟩ := split_inj e1 (txt_no (by decide)) (txt_no (by decide))
  obtain ⟨e5, e6⟩ := split_inj e4 (txt_no (by decide)) (txt_no (by decide))
  have e7 := txt_inj e5
  have e8 := congrArg List.length e2
  rw [List.length_append] at e8
  omega

/-- the program's way to the parts of a written record -/
theorem IsRec.parts {s : Bs} {n : Nat} {r : Bs} (h : IsRec s n r) : Lib.cut s [10] = (headB n r, r, true) ∧
    Lib.cut (Lib.trimPrefix (headB n r) [119]) [32] = (txt n, txt r.length ++ 32 :: hexN 8 (crc (txt n ++ 32 :: r)), true) := by
  constructor
  · rw [h.eq, encB_head]; exact cut_split (headB_no _ _)
  · have : Lib.trimPrefix (headB n r) [119] = txt n ++ 32 :: (txt r.length ++ 32 :: hexN 8 (crc (txt n ++ 32 :: r))) := by
      unfold headB Lib.trimPrefix
      rw [if_pos (by simp [Lib.hasPrefix])]
      rfl
    rw [this]
    exact cut_split (txt_no (by decide))

/-- where something is none: no way leads to its own writing -/
theorem dec_none_ne {s : Bs} (h : dec s = none) (h0 : s ≠ []) (n : Int) (r : Bs) : s ≠ enc n r := by
  intro e
  have h1 : enc n r ≠ [] := e ▸ h0
  exact dec_none.1 h _ _ (e ▸ (enc_rec h1).1)

theorem cut_some_ne {s a b : Bs} {c : UInt8} (h : Lib.cut s [c] = (a, b, true)) : s ≠ [] := by
  rintro rfl
  rw [cut_none (by simp)] at h
  simp at h

/-- a number in decimal digits -/
def num (t : Bs) : Option Nat := if Bi.decVal t ≤ lim ∧ txt (Bi.decVal t) = t then some (Bi.decVal t) else none

theorem num_some {t : Bs} {n : Nat} : num t = some n ↔ n ≤ lim ∧ txt n = t := by
  unfold num
  constructor
  · intro h
    split at h
    · rename_i hc
      simp only [Option.some.injEq] at h
      rw [h] at hc; exact hc
    · cases h
  · rintro ⟨h1, rfl⟩
    rw [txt_val, if_pos ⟨h1, rfl⟩]

theorem num_none {t : Bs} : num t = none ↔ ∀ n, n ≤ lim → txt n ≠ t := by
  constructor
  · intro h n hn e
    rw [num_some.2 ⟨hn, e⟩] at h; cases h
  · intro h
    cases hd : num t with
    | none => rfl
    | some p => exact absurd (num_some.1 hd).2 (h p (num_some.1 hd).1)

/-- of bytes: the place of a byte, or -1 -/
theorem mem_take_succ {s : Bs} {c : UInt8} {k : Nat} (h : k < s.length) (h1 : c ∉ s.take k) (h2 : s[k] ≠ c) : c ∉ s.take (k + 1) := by
  rw [List.take_succ_eq_append_getElem h]
  simp only [List.mem_append, List.mem_singleton, not_or]
  exact ⟨h1, fun e => h2 e.symm⟩

end Wl

/-
  Logs on disks, plain.
-/
namespace Wl
open Go

/-- the sector of a record (m: the sectors for records) -/
def place (m k : Nat) : Nat := 2 + k % m

/-- what a header says: its number and the first number of the log -/
noncomputable def hdr (s : Bs) (i : Nat) : Option (Nat × Nat) :=
  match dec s with
  | some (n, r) => if n % 2 = i then (num r).map fun x => (n, x) else none
  | none => none

def hstep (st : Int × Nat) (o : Option (Nat × Nat)) : Int × Nat :=
  match o with
  | some (n, x) => if (n : Int) ≤ st.1 then st else ((n : Int), x)
  | none => st

/-- the header that counts among the first i sectors -/
noncomputable def hs (now : List Bs) : Nat → Int × Nat
  | 0 => (-1, 0)
  | i + 1 => hstep (hs now i) (hdr (now.getD i []) i)

/-- the records from number k on, f at most -/
noncomputable def recs (now : List Bs) (m : Nat) : Nat → Nat → List Bs
  | 0, _ => []
  | f + 1, k =>
    match dec (now.getD (place m k) []) with
    | some (n, r) => if n = k then r :: recs now m f (k + 1) else []
    | none => []

structure Log where
  header : Nat
  first : Nat
  recs : List Bs

/-- the log of the sectors -/
noncomputable def log (now : List Bs) : Option Log :=
  if (hs now 2).1 < 0 ∨ now.length < 4 then none else some ⟨(hs now 2).1.toNat, (hs now 2).2, recs now (now.length - 2) (now.length - 2) (hs now 2).2⟩

theorem recs_len (now : List Bs) (m : Nat) : ∀ (f k : Nat), (recs now m f k).length ≤ f
  | 0, _ => by simp [recs]
  | f + 1, k => by
    unfold recs
    split
    · split
      · simp; exact recs_len now m f (k + 1)
      · simp
    · simp

/-- one more record -/
theorem recs_more {now : List Bs} {m f k : Nat} {r : Bs} (h : dec (now.getD (place m k) []) = some (k, r)) : recs now m (f + 1) k = r :: recs now m f (k + 1) := by
  rw [recs, h]; simp
theorem recs_other {now : List Bs} {m f k n : Nat} {r : Bs} (h : dec (now.getD (place m k) []) = some (n, r)) (hn : n ≠ k) : recs now m (f + 1) k = [] := by
  rw [recs, h]; simp [hn]
theorem recs_stop {now : List Bs} {m f k : Nat} (h : dec (now.getD (place m k) []) = none) : recs now m (f + 1) k = [] := by
  rw [recs, h]

theorem num_le {t : Bs} {n : Nat} (h : num t = some n) : n ≤ lim := (num_some.1 h).1

theorem hdr_le {s : Bs} {i n x : Nat} (h : hdr s i = some (n, x)) : n ≤ lim ∧ x ≤ lim ∧ n % 2 = i := by
  unfold hdr at h
  split at h
  · rename_i n' r' hd
    split at h
    · obtain ⟨y, hy, e⟩ := Option.map_eq_some_iff.1 h
      simp only [Prod.mk.injEq] at e
      obtain ⟨rfl, rfl⟩ := e
      exact ⟨(dec_some.1 hd).n_le, num_le hy, ‹_›⟩
    · cases h
  · cases h

theorem hs_le (now : List Bs) : ∀ i, -1 ≤ (hs now i).1 ∧ (hs now i).1 ≤ lim ∧ (hs now i).2 ≤ lim
  | 0 => by simp [hs, lim]
  | i + 1 => by
    have ih := hs_le now i
    unfold hs hstep
    split
    · rename_i n x h
      have h1 := hdr_le h
      split
      · exact ih
      · exact ⟨by simp only; omega, by simp only; omega, by simp only; omega⟩
    · exact ih

theorem log_le {now : List Bs} {L : Log} (h : log now = some L) : L.header ≤ lim ∧ L.first ≤ lim ∧ L.recs.length ≤ now.length - 2 ∧ 4 ≤ now.length := by
  unfold log at h
  split at h
  · cases h
  · rename_i hc
    simp only [Option.some.injEq] at h
    subst h
    have := hs_le now 2
    exact ⟨by simp only; omega, by simp only; omega, recs_len _ _ _ _, by omega⟩

/-- a disk -/
structure Dk where
  now : List Bs
  old : List Bs
  dirty : List Bool

/-- a disk of S sectors -/
structure Dk.Ok (S : Nat) (d : Dk) : Prop where
  now : d.now.length = S
  old : d.old.length = S
  dirty : d.dirty.length = S
  small : ∀ s ∈ d.now, s.length ≤ 65536
  small' : ∀ s ∈ d.old, s.length ≤ 65536

/-- an empty disk -/
def Dk.new (S : Nat) : Dk := ⟨List.replicate S [], List.replicate S [], List.replicate S false⟩
/-- sector i is written -/
def Dk.wrt (d : Dk) (i : Nat) (s : Bs) : Dk := ⟨d.now.set i s, d.old, d.dirty.set i true⟩
/-- all is made durable -/
def Dk.syn (d : Dk) : Dk := ⟨d.now, d.now, List.replicate d.now.length false⟩

theorem mem_set_le {l : List Bs} {i : Nat} {s : Bs} {n : Nat} (h : ∀ x ∈ l, x.length ≤ n) (hs : s.length ≤ n) : ∀ x ∈ l.set i s, x.length ≤ n := by
  intro x hx
  rcases List.mem_or_eq_of_mem_set hx with h' | rfl
  · exact h x h'
  · exact hs

theorem Dk.Ok.new (S : Nat) : (Dk.new S).Ok S :=
  ⟨by simp [Dk.new], by simp [Dk.new], by simp [Dk.new], fun s h => by simp [Dk.new] at h; simp [h], fun s h => by simp [Dk.new] at h; simp [h]⟩
theorem Dk.Ok.wrt {S : Nat} {d : Dk} (h : d.Ok S) (i : Nat) {s : Bs} (hs : s.length ≤ 65536) : (d.wrt i s).Ok S :=
  ⟨by simp [Dk.wrt, h.now], h.old, by simp [Dk.wrt, h.dirty], mem_set_le h.small hs, h.small'⟩
theorem Dk.Ok.syn {S : Nat} {d : Dk} (h : d.Ok S) : d.syn.Ok S :=
  ⟨h.now, h.now, by simp [Dk.syn, h.now], h.small, h.small⟩

theorem getD_small {l : List Bs} {n : Nat} (h : ∀ x ∈ l, x.length ≤ n) (i : Nat) : (l.getD i []).length ≤ n := by
  rw [List.getD_eq_getElem?_getD]
  cases hg : l[i]? with
  | none => simp
  | some x => exact h x (List.mem_of_getElem? hg)

/-- the disk with sector i written, if it can be, and the error -/
def Dk.write (d : Dk) (i : Int) (s : Bs) : Dk × Nat :=
  if i < 0 ∨ (d.now.length : Int) ≤ i then (d, 7) else if 65536 < s.length then (d, 3) else (d.wrt i.toNat s, 0)

theorem Dk.Ok.write {S : Nat} {d : Dk} (h : d.Ok S) (i : Int) (s : Bs) : (d.write i s).1.Ok S := by
  unfold Dk.write
  split
  · exact h
  · split
    · exact h
    · exact h.wrt _ (by omega)

/-- the dirty sectors below i -/
def chg (dirty : List Bool) : Nat → List Nat
  | 0 => []
  | i + 1 => if dirty.getD i false then chg dirty i ++ [i] else chg dirty i

theorem chg_lt (dirty : List Bool) : ∀ (i k : Nat), k ∈ chg dirty i → k < i ∧ dirty.getD k false = true
  | 0, k, h => by simp [chg] at h
  | i + 1, k, h => by
    unfold chg at h
    split at h
    · rcases List.mem_append.1 h with h | h
      · have := chg_lt dirty i k h; exact ⟨by omega, this.2⟩
      · simp only [List.mem_singleton] at h; subst h; exact ⟨by omega, ‹_›⟩
    · have := chg_lt dirty i k h; exact ⟨by omega, this.2⟩

theorem chg_len (dirty : List Bool) : ∀ i, (chg dirty i).length ≤ i
  | 0 => by simp [chg]
  | i + 1 => by
    unfold chg
    have := chg_len dirty i
    split <;> simp <;> omega

theorem chg_nodup (dirty : List Bool) : ∀ i, (chg dirty i).Nodup
  | 0 => by simp [chg]
  | i + 1 => by
    unfold chg
    have ih := chg_nodup dirty i
    split
    · rw [List.nodup_append]
      refine ⟨ih, by simp, fun a ha b hb => ?_⟩
      simp only [List.mem_singleton] at hb
      have := (chg_lt dirty i a ha).1
      omega
    · exact ih

theorem chg_mem (dirty : List Bool) : ∀ (i k : Nat), k < i → dirty.getD k false = true → k ∈ chg dirty i
  | 0, k, h, _ => by omega
  | i + 1, k, h, hd => by
    unfold chg
    by_cases hk : k = i
    · subst hk; rw [if_pos hd]; simp
    · have := chg_mem dirty i k (by omega) hd
      split
      · simp [this]
      · exact this

/-- the dirty sectors -/
def Dk.changed (d : Dk) : List Nat := chg d.dirty d.dirty.length

/-- what a crash leaves of a dirty sector: by the bits of its place k -/
def bit (bits : List Nat) (k : Nat) : Nat := if k < bits.length then bits.getD k 0 % 4 else 0
def left (b : Nat) (old now : Bs) : Bs := if b = 0 then old else if b = 2 then now.take (now.length / 2) else if b = 3 then [] else now

/-- the sectors where the first k dirty ones have met the crash -/
def ap (d : Dk) (bits : List Nat) : Nat → List Bs
  | 0 => d.now
  | k + 1 => let i := d.changed.getD k 0; (ap d bits k).set i (left (bit bits k) (d.old.getD i []) (d.now.getD i []))

theorem ap_len (d : Dk) (bits : List Nat) : ∀ k, (ap d bits k).length = d.now.length
  | 0 => rfl
  | k + 1 => by simp [ap, ap_len d bits k]

/-- a sector that has not met the crash yet -/
theorem ap_other (d : Dk) (bits : List Nat) : ∀ (k j : Nat), (∀ i, i < k → d.changed.getD i 0 ≠ j) → (ap d bits k).getD j [] = d.now.getD j []
  | 0, _, _ => rfl
  | k + 1, j, h => by
    have ih := ap_other d bits k j (fun i hi => h i (by omega))
    simp only [ap]
    rw [List.getD_eq_getElem?_getD, List.getElem?_set_ne (h k (by omega)), ← List.getD_eq_getElem?_getD]
    exact ih

theorem getD_inj {l : List Nat} (h : l.Nodup) {i j : Nat} (hi : i < l.length) (hj : j < l.length) (e : l.getD i 0 = l.getD j 0) : i = j := by
  rw [List.getD_eq_getElem?_getD, List.getD_eq_getElem?_getD, List.getElem?_eq_getElem hi, List.getElem?_eq_getElem hj] at e
  exact (List.getElem_inj h).1 (by simpa using e)

theorem ap_next (d : Dk) (bits : List Nat) {k : Nat} (h : k < d.changed.length) : (ap d bits k).getD (d.changed.getD k 0) [] = d.now.getD (d.changed.getD k 0) [] :=
  ap_other d bits k _ fun i hi e => by
    have := getD_inj (chg_nodup _ _) (i := i) (j := k) (by unfold Dk.changed at h; omega) h e
    omega

/-- a sector that has met the crash -/
theorem ap_done (d : Dk) (bits : List Nat) : ∀ (k i : Nat), k ≤ d.changed.length → i < k → d.changed.getD i 0 < d.now.length →
    (ap d bits k).getD (d.changed.getD i 0) [] = left (bit bits i) (d.old.getD (d.changed.getD i 0) []) (d.now.getD (d.changed.getD i 0) [])
  | 0, i, _, h, _ => by omega
  | k + 1, i, hk, hi, hl => by
    simp only [ap]
    by_cases h : i = k
    · subst h
      rw [List.getD_eq_getElem?_getD, List.getElem?_set_self (by rw [ap_len]; exact hl)]
      rfl
    · have hne : d.changed.getD k 0 ≠ d.changed.getD i 0 := fun e => by
        have := getD_inj (chg_nodup _ _) (i := k) (j := i) (by unfold Dk.changed at hk; omega) (by unfold Dk.changed at hk; omega) e
        omega
      rw [List.getD_eq_getElem?_getD, List.getElem?_set_ne hne, ← List.getD_eq_getElem?_getD]
      exact ap_done d bits k i (by omega) (by omega) hl

theorem left_small {b n : Nat} {o s : Bs} (h : o.length ≤ n) (h2 : s.length ≤ n) : (left b o s).length ≤ n := by
  unfold left
  split
  · exact h
  · split
    · simp; omega
    · split
      · simp
      · exact h2

theorem ap_small {S : Nat} {d : Dk} (h : d.Ok S) (bits : List Nat) : ∀ k, ∀ s ∈ ap d bits k, s.length ≤ 65536
  | 0 => h.small
  | k + 1 => mem_set_le (ap_small h bits k) (left_small (getD_small h.small' _) (getD_small h.small _))

/-- the disk behind a crash -/
def Dk.crash (d : Dk) (bits : List Nat) : Dk := Dk.syn ⟨ap d bits d.changed.length, d.old, d.dirty⟩

theorem Dk.Ok.crash {S : Nat} {d : Dk} (h : d.Ok S) (bits : List Nat) : (d.crash bits).Ok S :=
  ⟨by simp [Dk.crash, Dk.syn, ap_len, h.now], by simp [Dk.crash, Dk.syn, ap_len, h.now], by simp [Dk.crash, Dk.syn, ap_len, h.now], ap_small h bits _, ap_small h bits _⟩

/-- the sectors where those below i have been emptied -/
def blank (now : List Bs) : Nat → List Bs
  | 0 => now
  | i + 1 => (blank now i).set i []

/-- a disk with an empty log -/
def Dk.fmt (d : Dk) : Dk × Nat :=
  if d.now.length < 4 then (d, 7) else
    let now := (List.replicate d.now.length ([] : Bs)).set 0 (enc 0 [48])
    (⟨now, now, List.replicate d.now.length false⟩, 0)

/-- append -/
noncomputable def Dk.app (d : Dk) (r : Bs) : Dk × Nat × Nat :=
  match log d.now with
  | none => (d, 0, 21)
  | some L =>
    if 65000 < r.length ∨ d.now.length - 2 ≤ L.recs.length ∨ lim < L.first + L.recs.length then (d, 0, 3)
    else (d.wrt (place (d.now.length - 2) (L.first + L.recs.length)) (enc ((L.first + L.recs.length : Nat) : Int) r), L.first + L.recs.length, 0)

/-- is sector j the place of one of n records from number b on? -/
def used (m b n j : Nat) : Bool := (List.range n).any fun t => place m (b + t) == j

theorem used_iff {m b n j : Nat} : used m b n j = true ↔ ∃ t, t < n ∧ place m (b + t) = j := by
  unfold used
  simp

/-- the sectors where those from 2 on and below i that hold no record are emptied -/
def swp (now : List Bs) (u : Nat → Bool) : Nat → List Bs
  | 0 => now
  | i + 1 => if 2 ≤ i ∧ u i = false then (swp now u i).set i [] else swp now u i

theorem swp_len (now : List Bs) (u : Nat → Bool) : ∀ i, (swp now u i).length = now.length
  | 0 => rfl
  | i + 1 => by unfold swp; split <;> simp [swp_len now u i]

theorem swp_above (now : List Bs) (u : Nat → Bool) : ∀ (i j : Nat), i ≤ j → (swp now u i).getD j [] = now.getD j []
  | 0, _, _ => rfl
  | i + 1, j, h => by
    unfold swp
    split
    · rw [List.getD_eq_getElem?_getD, List.getElem?_set_ne (by omega), ← List.getD_eq_getElem?_getD]
      exact swp_above now u i j (by omega)
    · exact swp_above now u i j (by omega)

theorem swp_keep (now : List Bs) (u : Nat → Bool) (j : Nat) (hu : j < 2 ∨ u j = true) : ∀ i, (swp now u i).getD j [] = now.getD j []
  | 0 => rfl
  | i + 1 => by
    unfold swp
    split
    · rename_i h
      have hne : i ≠ j := by
        rintro rfl
        rcases hu with hu | hu
        · omega
        · rw [hu] at h; exact absurd h.2 (by simp)
      rw [List.getD_eq_getElem?_getD, List.getElem?_set_ne hne, ← List.getD_eq_getElem?_getD]
      exact swp_keep now u j hu i
    · exact swp_keep now u j hu i

theorem swp_gone (now : List Bs) (u : Nat → Bool) (j : Nat) (h2 : 2 ≤ j) (hu : u j = false) : ∀ i, j < i → (swp now u i).getD j [] = []
  | 0, h => by omega
  | i + 1, h => by
    unfold swp
    by_cases hj : i = j
    · subst hj
      rw [if_pos ⟨h2, hu⟩, List.getD_eq_getElem?_getD]
      by_cases hl : i < now.length
      · rw [List.getElem?_set_self (by rw [swp_len]; exact hl)]; rfl
      · rw [List.getElem?_eq_none (by simp [swp_len]; omega)]; rfl
    · have ih := swp_gone now u j h2 hu i (by omega)
      split
      · rw [List.getD_eq_getElem?_getD, List.getElem?_set_ne hj, ← List.getD_eq_getElem?_getD]
        exact ih
      · exact ih

/-- a sector that is empty need not be written -/
theorem swp_same (now : List Bs) (u : Nat → Bool) {i : Nat} (hi : i < now.length) (h : now.getD i [] = []) : swp now u (i + 1) = swp now u i := by
  rw [swp]
  split
  · refine List.ext_getElem? fun j => ?_
    by_cases hj : i = j
    · subst hj
      have h1 := swp_above now u i i (Nat.le_refl _)
      rw [h, List.getD_eq_getElem?_getD] at h1
      have hl : i < (swp now u i).length := by rw [swp_len]; exact hi
      rw [List.getElem?_set_self hl, List.getElem?_eq_getElem hl] at *
      simp only [Option.getD_some] at h1
      rw [h1]
    · rw [List.getElem?_set_ne hj]
  · rfl

theorem swp_small {now : List Bs} (u : Nat → Bool) (h : ∀ s ∈ now, s.length ≤ 65536) : ∀ i, ∀ s ∈ swp now u i, s.length ≤ 65536
  | 0 => h
  | i + 1 => by
    unfold swp
    split
    · exact mem_set_le (swp_small u h i) (by simp)
    · exact swp_small u h i

/-- recover -/
noncomputable def Dk.rec' (d : Dk) : Dk × Option Log :=
  match log d.now with
  | none => (d, none)
  | some L => (Dk.syn ⟨swp d.now (used (d.now.length - 2) L.first L.recs.length) d.now.length, d.old, d.dirty⟩, some L)

/-- cut -/
noncomputable def Dk.cut (d : Dk) (x : Int) : Dk × Nat :=
  match log d.now with
  | none => (d, 21)
  | some L =>
    if x < L.first ∨ ((L.first + L.recs.length : Nat) : Int) < x then (d, 7)
    else ((d.wrt ((L.header + 1) % 2) (enc ((L.header + 1 : Nat) : Int) (txt x.toNat))).syn, 0)

theorem Dk.Ok.app {S : Nat} {d : Dk} (h : d.Ok S) (r : Bs) : (d.app r).1.Ok S := by
  unfold Dk.app
  split
  · exact h
  · split
    · exact h
    · exact h.wrt _ (by have := enc_len ((‹Log›.first + ‹Log›.recs.length : Nat) : Int) r; omega)

theorem Dk.Ok.rec' {S : Nat} {d : Dk} (h : d.Ok S) : d.rec'.1.Ok S := by
  unfold Dk.rec'
  split
  · exact h
  · exact ⟨by simp [Dk.syn, swp_len, h.now], by simp [Dk.syn, swp_len, h.now], by simp [Dk.syn, swp_len, h.now], swp_small _ h.small _, swp_small _ h.small _⟩

theorem Dk.Ok.cut {S : Nat} {d : Dk} (h : d.Ok S) (x : Int) : (d.cut x).1.Ok S := by
  unfold Dk.cut
  split
  · exact h
  · split
    · exact h
    · exact (h.wrt _ (by have := enc_len ((‹Log›.header + 1 : Nat) : Int) (txt x.toNat); omega)).syn

theorem Dk.Ok.fmt {S : Nat} {d : Dk} (h : d.Ok S) : d.fmt.1.Ok S := by
  unfold Dk.fmt
  split
  · exact h
  · have hl : ∀ s ∈ (List.replicate d.now.length ([] : Bs)).set 0 (enc 0 [48]), s.length ≤ 65536 :=
      mem_set_le (fun x hx => by simp at hx; simp [hx]) (by have := enc_len 0 [48]; omega)
    exact ⟨by simp [h.now], by simp [h.now], by simp [h.now], hl, hl⟩

end Wl

/-
  What recovering gives behind a crash, plain.
-/
namespace Wl
open Go

theorem place_lt {m k : Nat} (h : 0 < m) : 2 ≤ place m k ∧ place m k < m + 2 := by
  unfold place; have := Nat.mod_lt k h; omega

theorem place_inj {m a b : Nat} (h : place m a = place m b) (h1 : a ≤ b) (h2 : b < a + m) : a = b := by
  unfold place at h
  have h3 : b % m = a % m := by omega
  have h4 : (b - a) % m = 0 := by
    have e : b = a + (b - a) := by omega
    rw [e, Nat.add_mod] at h3
    have hm : 0 < m := by omega
    have ha := Nat.mod_lt a hm
    have hb := Nat.mod_lt (b - a) hm
    by_cases hs : a % m + (b - a) % m < m
    · rw [Nat.mod_eq_of_lt hs] at h3; omega
    · rw [Nat.mod_eq_sub_mod (by omega), Nat.mod_eq_of_lt (by omega)] at h3; omega
  rw [Nat.mod_eq_of_lt (by omega)] at h4
  omega

theorem log_of {now : List Bs} {h b : Nat} (h1 : hs now 2 = ((h : Int), b)) (h4 : 4 ≤ now.length) : log now = some ⟨h, b, recs now (now.length - 2) (now.length - 2) b⟩ := by
  unfold log
  rw [h1, if_neg (by simp; omega)]
  simp

theorem hs_congr {now now' : List Bs} (h0 : now'.getD 0 [] = now.getD 0 []) (h1 : now'.getD 1 [] = now.getD 1 []) : hs now' 2 = hs now 2 := by
  simp only [hs, h0, h1]

theorem log_some {now : List Bs} {L : Log} (h : log now = some L) : hs now 2 = ((L.header : Int), L.first) ∧ 4 ≤ now.length ∧ L.recs = recs now (now.length - 2) (now.length - 2) L.first := by
  unfold log at h
  split at h
  · cases h
  · rename_i hc
    simp only [Option.some.injEq] at h
    subst h
    refine ⟨Prod.ext (by simp only; omega) rfl, by omega, rfl⟩

theorem recs_swp (now : List Bs) (m b n : Nat) (hm : 0 < m) (hl : now.length = m + 2) : ∀ (f t : Nat), f + t = m → (recs now m f (b + t)).length + t = n →
    recs (swp now (used m b n) now.length) m f (b + t) = recs now m f (b + t)
  | 0, _, _, _ => rfl
  | f + 1, t, h1, h2 => by
    have hp := place_lt (k := b + t) hm
    have stop : recs now m (f + 1) (b + t) = [] → recs (swp now (used m b n) now.length) m (f + 1) (b + t) = recs now m (f + 1) (b + t) := by
      intro e
      rw [e] at h2 ⊢
      simp only [List.length_nil, Nat.zero_add] at h2
      subst h2
      refine recs_stop ?_
      rw [swp_gone now _ _ hp.1 ?_ _ (by omega)]
      · exact dec_nil
      · rw [Bool.eq_false_iff]
        intro hu
        obtain ⟨t', ht, e⟩ := used_iff.1 hu
        have := place_inj e (by omega) (by omega)
        omega
    cases hd : dec (now.getD (place m (b + t)) []) with
    | none => exact stop (recs_stop hd)
    | some p =>
      obtain ⟨k, r⟩ := p
      by_cases hk : k = b + t
      · subst hk
        have e1 := recs_more (f := f) hd
        rw [e1] at h2 ⊢
        simp only [List.length_cons] at h2
        have hu : used m b n (place m (b + t)) = true := used_iff.2 ⟨t, by omega, rfl⟩
        have hd' : dec ((swp now (used m b n) now.length).getD (place m (b + t)) []) = some (b + t, r) := by
          rw [swp_keep now _ _ (.inr hu)]; exact hd
        rw [recs_more hd']
        have := recs_swp now m b n hm hl f (t + 1) (by omega) (by rw [show b + (t + 1) = b + t + 1 from rfl]; omega)
        rw [← Nat.add_assoc] at this
        rw [this]
      · exact stop (recs_other hd hk)

theorem log_swp {now : List Bs} {L : Log} (h : log now = some L) : log (swp now (used (now.length - 2) L.first L.recs.length) now.length) = some L := by
  obtain ⟨h1, h2, h3⟩ := log_some h
  have e : hs (swp now (used (now.length - 2) L.first L.recs.length) now.length) 2 = hs now 2 := hs_congr (swp_keep _ _ _ (.inl (by omega)) _) (swp_keep _ _ _ (.inl (by omega)) _)
  rw [h1] at e
  rw [log_of e (by rw [swp_len]; exact h2), swp_len]
  have := recs_swp now (now.length - 2) L.first L.recs.length (by omega) (by omega) (now.length - 2) 0 (by omega) (by rw [h3]; rfl)
  simp only [Nat.add_zero] at this
  rw [this, ← h3]

theorem chg_clean : ∀ (n k : Nat), chg (List.replicate n false) k = []
  | _, 0 => rfl
  | n, k + 1 => by
    unfold chg
    rw [if_neg, chg_clean n k]
    rw [List.getD_eq_getElem?_getD, List.getElem?_replicate]
    split <;> simp

/-- behind a recovery: nothing is dirty, a crash changes nothing, and recovering gives the same -/
theorem again {d : Dk} {L : Log} (h : log d.now = some L) (bits : List Nat) : d.rec'.1.changed = [] ∧ (d.rec'.1.crash bits).now = d.rec'.1.now ∧ log (d.rec'.1.crash bits).now = some L := by
  have e : d.rec'.1 = Dk.syn ⟨swp d.now (used (d.now.length - 2) L.first L.recs.length) d.now.length, d.old, d.dirty⟩ := by
    unfold Dk.rec'; rw [h]
  have h1 : d.rec'.1.changed = [] := by rw [e]; exact chg_clean _ _
  have h2 : (d.rec'.1.crash bits).now = d.rec'.1.now := by
    unfold Dk.crash Dk.syn; rw [h1]; rfl
  refine ⟨h1, h2, ?_⟩
  rw [h2, e]
  exact log_swp h

/-- what the law of crashes keeps: the disk, all records that were appended, the first number, and how many were synced -/
structure St where
  d : Dk
  all : List Bs
  first : Nat
  synced : Nat

/-- c: how many operations there have been at most -/
structure CInv (S c : Nat) (s : St) : Prop where
  ok : s.d.Ok S
  S4 : 4 ≤ S
  head : ∃ h : Nat, hs s.d.now 2 = ((h : Int), s.first) ∧ h ≤ c
  clean : ∀ i, i < 2 → s.d.dirty.getD i false = false
  fs : s.first ≤ s.synced
  sa : s.synced ≤ s.all.length
  am : s.all.length ≤ s.first + (S - 2)
  ac : s.all.length ≤ c
  recAt : ∀ k, s.first ≤ k → k < s.all.length → s.d.now.getD (place (S - 2) k) [] = encB k (s.all.getD k [])
  sect : ∀ j, 2 ≤ j → j < S → s.d.now.getD j [] = [] ∨ ∃ k, k < s.all.length ∧ place (S - 2) k = j ∧ s.d.now.getD j [] = encB k (s.all.getD k [])
  old : ∀ j, 2 ≤ j → j < S → s.d.old.getD j [] = [] ∨ ∃ k, k < s.synced ∧ place (S - 2) k = j ∧ s.d.old.getD j [] = encB k (s.all.getD k [])
  safe : ∀ k, s.first ≤ k → k < s.synced → s.d.dirty.getD (place (S - 2) k) false = false
  small : ∀ x ∈ s.all, x.length ≤ 500

theorem getD_le {l : List Bs} {n : Nat} (h : ∀ x ∈ l, x.length ≤ n) (k : Nat) : (l.getD k []).length ≤ n := getD_small h k

theorem dec_encB {n : Nat} {r : Bs} (h : n ≤ lim) (h2 : r.length ≤ 65000) : dec (encB n r) = some (n, r) := by
  rw [← enc_of h h2]; exact dec_enc h h2

theorem CInv.recs {S c : Nat} {s : St} (h : CInv S c s) (hc : c ≤ 1000) : ∀ (f t : Nat), f + t = S - 2 → s.first + t ≤ s.all.length → Wl.recs s.d.now (S - 2) f (s.first + t) = s.all.drop (s.first + t)
  | 0, t, h1, h2 => by
    have := h.am
    rw [List.drop_eq_nil_of_le (by omega)]; rfl
  | f + 1, t, h1, h2 => by
    have hS := h.S4
    have hac := h.ac
    by_cases hlt : s.first + t < s.all.length
    · have hr := h.recAt _ (by omega) hlt
      have hsm := getD_le h.small (s.first + t)
      rw [recs_more (r := s.all.getD (s.first + t) []) (by rw [hr]; exact dec_encB (by unfold lim; omega) (by omega))]
      have ih := CInv.recs h hc f (t + 1) (by omega) (by omega)
      rw [← Nat.add_assoc] at ih
      rw [ih, List.getD_eq_getElem?_getD, List.getElem?_eq_getElem hlt, Option.getD_some, List.drop_eq_getElem_cons hlt]
    · rw [List.drop_eq_nil_of_le (by omega)]
      have hp := place_lt (m := S - 2) (k := s.first + t) (by omega)
      rcases h.sect _ hp.1 (by omega) with e | ⟨k, hk, _, e⟩
      · exact recs_stop (by rw [e]; exact dec_nil)
      · have hsm := getD_le h.small k
        exact recs_other (n := k) (r := s.all.getD k []) (by rw [e]; exact dec_encB (by unfold lim; omega) (by omega)) (by omega)

theorem CInv.log {S c : Nat} {s : St} (h : CInv S c s) (hc : c ≤ 1000) : ∃ hd : Nat, hd ≤ c ∧ hs s.d.now 2 = ((hd : Int), s.first) ∧ Wl.log s.d.now = some ⟨hd, s.first, s.all.drop s.first⟩ := by
  obtain ⟨hd, h1, h2⟩ := h.head
  refine ⟨hd, h2, h1, ?_⟩
  rw [log_of h1 (by rw [h.ok.now]; exact h.S4), h.ok.now]
  have := h.recs hc (S - 2) 0 (by omega) (by have := h.fs; have := h.sa; omega)
  simp only [Nat.add_zero] at this
  rw [this]

theorem getD_set_self {α : Type} {l : List α} {i : Nat} {x d : α} (h : i < l.length) : (l.set i x).getD i d = x := by
  rw [List.getD_eq_getElem?_getD, List.getElem?_set_self h]; rfl
theorem getD_set_ne {α : Type} {l : List α} {i j : Nat} {x d : α} (h : i ≠ j) : (l.set i x).getD j d = l.getD j d := by
  rw [List.getD_eq_getElem?_getD, List.getElem?_set_ne h, ← List.getD_eq_getElem?_getD]
theorem getD_append {α : Type} {l : List α} {x d : α} {i : Nat} (h : i < l.length) : (l ++ [x]).getD i d = l.getD i d := by
  rw [List.getD_eq_getElem?_getD, List.getElem?_append_left h, ← List.getD_eq_getElem?_getD]
theorem getD_last {α : Type} {l : List α} {x d : α} : (l ++ [x]).getD l.length d = x := by
  rw [List.getD_eq_getElem?_getD, List.getElem?_append_right (by omega)]; simp
theorem getD_false (n i : Nat) : (List.replicate n false).getD i false = false := by
  rw [List.getD_eq_getElem?_getD, List.getElem?_replicate]; split <;> rfl

theorem CInv.weak {S c : Nat} {s : St} (h : CInv S c s) : CInv S (c + 1) s := by
  obtain ⟨hd, h1, h2⟩ := h.head
  exact ⟨h.ok, h.S4, ⟨hd, h1, by omega⟩, h.clean, h.fs, h.sa, h.am, by have := h.ac; omega, h.recAt, h.sect, h.old, h.safe, h.small⟩

/-- syncing -/
theorem CInv.sync {S c : Nat} {s : St} (h : CInv S c s) : CInv S c ⟨s.d.syn, s.all, s.first, s.all.length⟩ :=
  ⟨h.ok.syn, h.S4, h.head, fun i _ => getD_false _ _, by have := h.fs; have := h.sa; simp only; omega, Nat.le_refl _, h.am, h.ac, h.recAt, h.sect, h.sect, fun k _ _ => getD_false _ _, h.small⟩

/-- appending -/
theorem CInv.app {S c : Nat} {s : St} (h : CInv S c s) (hc : c ≤ 1000) {r : Bs} (hr : r.length ≤ 500) :
    (s.d.app r = (s.d, 0, 3)) ∨ (∃ d', s.d.app r = (d', s.all.length, 0) ∧ CInv S (c + 1) ⟨d', s.all ++ [r], s.first, s.synced⟩) := by
  obtain ⟨hd, h1, h2, h3⟩ := h.log hc
  have hS := h.S4
  have hfs := h.fs
  have hsa := h.sa
  have hac := h.ac
  have hlen : (s.all.drop s.first).length = s.all.length - s.first := by simp
  have e : s.first + (s.all.drop s.first).length = s.all.length := by rw [hlen]; omega
  unfold Dk.app
  rw [h3]
  simp only
  split
  · exact .inl rfl
  · rename_i hcond
    rw [e, h.ok.now] at hcond
    rw [e, h.ok.now]
    refine .inr ⟨_, rfl, ?_⟩
    have hlt : s.all.length < s.first + (S - 2) := by rw [hlen] at hcond; omega
    have hp := place_lt (m := S - 2) (k := s.all.length) (by omega)
    have henc : enc ((s.all.length : Nat) : Int) r = encB s.all.length r := enc_of (by unfold lim; omega) (by omega)
    have hne : ∀ k, s.first ≤ k → k < s.all.length → place (S - 2) s.all.length ≠ place (S - 2) k := fun k h1 h2 e' => by
      have := place_inj e'.symm (by omega) (by omega); omega
    have hnl : s.d.now.length = S := h.ok.now
    refine ⟨h.ok.wrt _ (by have := enc_len ((s.all.length : Nat) : Int) r; omega), h.S4, ⟨hd, ?_, by omega⟩, ?_, h.fs, by simp; omega, by simp; omega, by simp; omega, ?_, ?_, ?_, ?_, ?_⟩
    · rw [← h2]
      refine hs_congr ?_ ?_
      · exact getD_set_ne (by omega)
      · exact getD_set_ne (by omega)
    · intro i hi
      show (s.d.dirty.set _ true).getD i false = false
      rw [getD_set_ne (by omega)]; exact h.clean i hi
    · intro k hk1 hk2
      show (s.d.now.set _ _).getD _ [] = _
      simp only [List.length_append, List.length_singleton] at hk2
      by_cases hk : k = s.all.length
      · subst hk
        rw [getD_set_self (by omega), getD_last, henc]
      · rw [getD_set_ne (hne k hk1 (by omega)), getD_append (by omega)]
        exact h.recAt k hk1 (by omega)
    · intro j hj1 hj2
      show (s.d.now.set _ _).getD _ [] = _ ∨ _
      by_cases hj : place (S - 2) s.all.length = j
      · refine .inr ⟨s.all.length, by simp, hj, ?_⟩
        show (s.d.now.set _ _).getD _ [] = _
        subst hj
        rw [getD_set_self (by omega), getD_last, henc]
      · rw [getD_set_ne hj]
        rcases h.sect j hj1 hj2 with e | ⟨k, hk, hp, e⟩
        · exact .inl e
        · refine .inr ⟨k, by simp; omega, hp, ?_⟩
          show (s.d.now.set _ _).getD _ [] = _
          rw [getD_set_ne hj, getD_append hk, e]
    · intro j hj1 hj2
      rcases h.old j hj1 hj2 with e | ⟨k, hk, hp, e⟩
      · exact .inl e
      · exact .inr ⟨k, hk, hp, by rw [getD_append (by omega)]; exact e⟩
    · intro k hk1 hk2
      show (s.d.dirty.set _ true).getD _ false = false
      rw [getD_set_ne (hne k hk1 (by simp only at hk2; omega))]
      exact h.safe k hk1 hk2
    · intro x hx
      rcases List.mem_append.1 hx with hx | hx
      · exact h.small x hx
      · simp only [List.mem_singleton] at hx; subst hx; exact hr

theorem hstep_ge (st : Int × Nat) (o : Option (Nat × Nat)) : st.1 ≤ (hstep st o).1 ∧ ∀ n x, o = some (n, x) → (n : Int) ≤ (hstep st o).1 := by
  unfold hstep
  cases o with
  | none => exact ⟨Int.le_refl _, fun _ _ h => by cases h⟩
  | some p =>
    obtain ⟨n, x⟩ := p
    simp only
    split
    · exact ⟨Int.le_refl _, fun n' x' h => by simp only [Option.some.injEq, Prod.mk.injEq] at h; omega⟩
    · exact ⟨by simp only; omega, fun n' x' h => by simp only [Option.some.injEq, Prod.mk.injEq] at h; simp only; omega⟩

theorem hdr_new {h x i : Nat} (hi : i = (h + 1) % 2) (h1 : h + 1 ≤ lim) (hx : x ≤ lim) : hdr (enc ((h + 1 : Nat) : Int) (txt x)) i = some (h + 1, x) := by
  unfold hdr
  have : (txt x).length ≤ 65000 := by have := txt_len hx; omega
  rw [dec_enc h1 this]
  simp only
  rw [if_pos hi.symm, num_some.2 ⟨hx, rfl⟩]
  rfl

/-- a new header counts -/
theorem hs_new {now : List Bs} {h b x : Nat} (hs2 : hs now 2 = ((h : Int), b)) (h1 : h + 1 ≤ lim) (hx : x ≤ lim) (hl : 2 ≤ now.length) :
    hs (now.set ((h + 1) % 2) (enc ((h + 1 : Nat) : Int) (txt x))) 2 = (((h + 1 : Nat) : Int), x) := by
  have hm : (h + 1) % 2 = 0 ∨ (h + 1) % 2 = 1 := by omega
  have g0 := hstep_ge (-1, 0) (hdr (now.getD 0 []) 0)
  have g1 := hstep_ge (hstep (-1, 0) (hdr (now.getD 0 []) 0)) (hdr (now.getD 1 []) 1)
  simp only [hs] at hs2 ⊢
  rw [hs2] at g1
  simp only at g1
  rcases hm with e | e
  · rw [e, getD_set_self (by omega), getD_set_ne (by omega), hdr_new e.symm h1 hx]
    have : hstep (-1, 0) (some (h + 1, x)) = (((h + 1 : Nat) : Int), x) := by
      unfold hstep; simp only; rw [if_neg (by omega)]
    rw [this]
    cases ho : hdr (now.getD 1 []) 1 with
    | none => rfl
    | some p =>
      obtain ⟨n, y⟩ := p
      have := g1.2 n y ho
      unfold hstep
      simp only
      rw [if_pos (by omega)]
  · rw [e, getD_set_ne (by omega), getD_set_self (by omega), hdr_new e.symm h1 hx]
    have g2 : (hstep (-1, 0) (hdr (now.getD 0 []) 0)).1 ≤ (h : Int) := g1.1
    generalize hstep (-1, 0) (hdr (now.getD 0 []) 0) = st at g2 ⊢
    unfold hstep
    simp only
    rw [if_neg (by omega)]

/-- cutting -/
theorem CInv.cut {S c : Nat} {s : St} (h : CInv S c s) (hc : c ≤ 1000) (x : Int) :
    (s.d.cut x = (s.d, 7)) ∨ (∃ d', s.d.cut x = (d', 0) ∧ 0 ≤ x ∧ CInv S (c + 1) ⟨d', s.all, x.toNat, s.all.length⟩) := by
  obtain ⟨hd, h1, h2, h3⟩ := h.log hc
  have hS := h.S4
  have hfs := h.fs
  have hsa := h.sa
  have hac := h.ac
  have ham := h.am
  have hlen : (s.all.drop s.first).length = s.all.length - s.first := by simp
  have e : s.first + (s.all.drop s.first).length = s.all.length := by rw [hlen]; omega
  unfold Dk.cut
  rw [h3]
  simp only
  split
  · exact .inl rfl
  · rename_i hcond
    rw [e] at hcond
    refine .inr ⟨_, rfl, by omega, ?_⟩
    have hnl : s.d.now.length = S := h.ok.now
    have hn := hs_new (x := x.toNat) h2 (by unfold lim; omega) (by unfold lim; omega) (by omega)
    have hne : ∀ j, 2 ≤ j → (hd + 1) % 2 ≠ j := fun j hj => by omega
    have hok : (s.d.wrt ((hd + 1) % 2) (enc ((hd + 1 : Nat) : Int) (txt x.toNat))).Ok S := h.ok.wrt _ (by have := enc_len ((hd + 1 : Nat) : Int) (txt x.toNat); omega)
    have hsect : ∀ j, 2 ≤ j → j < S → (s.d.now.set ((hd + 1) % 2) (enc ((hd + 1 : Nat) : Int) (txt x.toNat))).getD j [] = [] ∨ ∃ k, k < s.all.length ∧ place (S - 2) k = j ∧ (s.d.now.set ((hd + 1) % 2) (enc ((hd + 1 : Nat) : Int) (txt x.toNat))).getD j [] = encB k (s.all.getD k []) := by
      intro j h1 h2
      rw [getD_set_ne (hne j h1)]
      exact h.sect j h1 h2
    refine ⟨hok.syn, h.S4, ⟨hd + 1, hn, by omega⟩, fun i _ => getD_false _ _, by simp only; omega, Nat.le_refl _, by simp only; omega, by simp only; omega, ?_, hsect, hsect, fun k _ _ => getD_false _ _, h.small⟩
    intro k hk1 hk2
    have hp := place_lt (m := S - 2) (k := k) (by omega)
    show (s.d.now.set _ _).getD _ [] = _
    rw [getD_set_ne (hne _ hp.1)]
    exact h.recAt k (by simp only at hk1; omega) hk2

/-- what a crash leaves in a sector -/
theorem crash_sector (d : Dk) (bits : List Nat) (j : Nat) (hj : j < d.now.length) (hl : d.dirty.length = d.now.length) :
    (d.crash bits).now.getD j [] = d.now.getD j [] ∨ (d.dirty.getD j false = true ∧ ((d.crash bits).now.getD j [] = d.old.getD j [] ∨ (d.crash bits).now.getD j [] = (d.now.getD j []).take ((d.now.getD j []).length / 2) ∨ (d.crash bits).now.getD j [] = [])) := by
  show (ap d bits d.changed.length).getD j [] = _ ∨ _ ∧ ((ap d bits d.changed.length).getD j [] = _ ∨ (ap d bits d.changed.length).getD j [] = _ ∨ (ap d bits d.changed.length).getD j [] = _)
  by_cases hd : d.dirty.getD j false = true
  · have hm : j ∈ d.changed := chg_mem _ _ _ (by omega) hd
    obtain ⟨i, hi, e⟩ := List.getElem_of_mem hm
    have e' : d.changed.getD i 0 = j := by rw [List.getD_eq_getElem?_getD, List.getElem?_eq_getElem hi]; exact e
    have h1 := ap_done d bits d.changed.length i (Nat.le_refl _) hi (by rw [e']; exact hj)
    rw [e'] at h1
    rw [h1]
    unfold left
    split
    · exact .inr ⟨hd, .inl rfl⟩
    · split
      · exact .inr ⟨hd, .inr (.inl rfl)⟩
      · split
        · exact .inr ⟨hd, .inr (.inr rfl)⟩
        · exact .inl rfl
  · refine .inl (ap_other d bits _ j fun i hi e => hd ?_)
    have : d.changed.getD i 0 ∈ d.changed := by
      rw [List.getD_eq_getElem?_getD, List.getElem?_eq_getElem hi]; exact List.getElem_mem hi
    rw [e] at this
    exact (chg_lt _ _ _ this).2

theorem CInv.crash_recs {S c : Nat} {s : St} (h : CInv S c s) (hc : c ≤ 1000) (bits : List Nat) : ∀ (f t : Nat), f + t = S - 2 → s.first + t ≤ s.all.length →
    ∃ g, Wl.recs (s.d.crash bits).now (S - 2) f (s.first + t) = (s.all.drop (s.first + t)).take g ∧ s.first + t + g ≤ s.all.length ∧ s.synced ≤ s.first + t + g
  | 0, t, h1, h2 => ⟨0, rfl, h2, by have := h.am; have := h.sa; omega⟩
  | f + 1, t, h1, h2 => by
    have hS := h.S4
    have hac := h.ac
    have hsa := h.sa
    have hp := place_lt (m := S - 2) (k := s.first + t) (by omega)
    have hlim : ∀ k, k < s.all.length → dec (encB k (s.all.getD k [])) = some (k, s.all.getD k []) := fun k hk => dec_encB (by unfold lim; omega) (by have := getD_le h.small k; omega)
    have hcr := crash_sector s.d bits (place (S - 2) (s.first + t)) (by rw [h.ok.now]; omega) (by rw [h.ok.dirty, h.ok.now])
    have more : s.first + t < s.all.length → dec ((s.d.crash bits).now.getD (place (S - 2) (s.first + t)) []) = some (s.first + t, s.all.getD (s.first + t) []) →
        ∃ g, Wl.recs (s.d.crash bits).now (S - 2) (f + 1) (s.first + t) = (s.all.drop (s.first + t)).take g ∧ s.first + t + g ≤ s.all.length ∧ s.synced ≤ s.first + t + g := by
      intro hlt hd
      obtain ⟨g, h3, h4, h5⟩ := CInv.crash_recs h hc bits f (t + 1) (by omega) (by omega)
      refine ⟨g + 1, ?_, by omega, by omega⟩
      rw [recs_more hd]
      rw [← Nat.add_assoc] at h3
      rw [h3, List.drop_eq_getElem_cons hlt, List.take_succ_cons, List.getD_eq_getElem?_getD, List.getElem?_eq_getElem hlt, Option.getD_some]
    have stop : s.synced ≤ s.first + t → (dec ((s.d.crash bits).now.getD (place (S - 2) (s.first + t)) []) = none ∨ ∃ n r, n ≠ s.first + t ∧ dec ((s.d.crash bits).now.getD (place (S - 2) (s.first + t)) []) = some (n, r)) →
        ∃ g, Wl.recs (s.d.crash bits).now (S - 2) (f + 1) (s.first + t) = (s.all.drop (s.first + t)).take g ∧ s.first + t + g ≤ s.all.length ∧ s.synced ≤ s.first + t + g := by
      intro hs hd
      refine ⟨0, ?_, by omega, by omega⟩
      rcases hd with hd | ⟨n, r, hn, hd⟩
      · rw [recs_stop hd]; rfl
      · rw [recs_other hd hn]; rfl
    have oldc : s.synced ≤ s.first + t → (dec (s.d.old.getD (place (S - 2) (s.first + t)) []) = none ∨ ∃ n r, n ≠ s.first + t ∧ dec (s.d.old.getD (place (S - 2) (s.first + t)) []) = some (n, r)) := by
      intro hs
      rcases h.old _ hp.1 (by omega) with e | ⟨k, hk, _, e⟩
      · exact .inl (by rw [e]; exact dec_nil)
      · exact .inr ⟨k, _, by omega, by rw [e]; exact hlim k (by omega)⟩
    by_cases hlt : s.first + t < s.all.length
    · have hr := h.recAt _ (by omega) hlt
      by_cases hsy : s.first + t < s.synced
      · have hcl := h.safe _ (by omega) hsy
        rcases hcr with e | ⟨hd, _⟩
        · exact more hlt (by rw [e, hr]; exact hlim _ hlt)
        · rw [hcl] at hd; cases hd
      · rcases hcr with e | ⟨_, e | e | e⟩
        · exact more hlt (by rw [e, hr]; exact hlim _ hlt)
        · exact stop (by omega) (by rw [e]; exact oldc (by omega))
        · exact stop (by omega) (.inl (by rw [e, hr]; exact dec_half))
        · exact stop (by omega) (.inl (by rw [e]; exact dec_nil))
    · have nowc : dec (s.d.now.getD (place (S - 2) (s.first + t)) []) = none ∨ ∃ n r, n ≠ s.first + t ∧ dec (s.d.now.getD (place (S - 2) (s.first + t)) []) = some (n, r) := by
        rcases h.sect _ hp.1 (by omega) with e | ⟨k, hk, _, e⟩
        · exact .inl (by rw [e]; exact dec_nil)
        · exact .inr ⟨k, _, by omega, by rw [e]; exact hlim k hk⟩
      refine stop (by omega) ?_
      rcases hcr with e | ⟨_, e | e | e⟩
      · rw [e]; exact nowc
      · rw [e]; exact oldc (by omega)
      · refine .inl ?_
        rw [e]
        rcases h.sect _ hp.1 (by omega) with e' | ⟨k, hk, _, e'⟩
        · rw [e']; exact dec_nil
        · rw [e']; exact dec_half
      · exact .inl (by rw [e]; exact dec_nil)

/-- recovering behind a crash -/
theorem CInv.crash {S c : Nat} {s : St} (h : CInv S c s) (hc : c ≤ 1000) (bits : List Nat) :
    ∃ hd g, Wl.log (s.d.crash bits).now = some ⟨hd, s.first, (s.all.drop s.first).take g⟩ ∧ s.first + g ≤ s.all.length ∧ s.synced ≤ s.first + g := by
  obtain ⟨hd, h1, h2, _⟩ := h.log hc
  have hS := h.S4
  obtain ⟨g, h3, h4, h5⟩ := h.crash_recs hc bits (S - 2) 0 (by omega) (by have := h.fs; have := h.sa; omega)
  simp only [Nat.add_zero] at h3 h4 h5
  refine ⟨hd, g, ?_, h4, h5⟩
  have hcl : ∀ j, j < 2 → (s.d.crash bits).now.getD j [] = s.d.now.getD j [] := by
    intro j hj
    rcases crash_sector s.d bits j (by rw [h.ok.now]; omega) (by rw [h.ok.dirty, h.ok.now]) with e | ⟨hd, _⟩
    · exact e
    · rw [h.clean j hj] at hd; cases hd
  have e : hs (s.d.crash bits).now 2 = ((hd : Int), s.first) := by rw [hs_congr (hcl 0 (by omega)) (hcl 1 (by omega))]; exact h2
  have hl : (s.d.crash bits).now.length = S := (h.ok.crash bits).now
  rw [log_of e (by omega), hl, h3]

theorem CInv.start {S : Nat} (h : 4 ≤ S) (d : Dk) (hd : d.now.length = S) : CInv S 0 ⟨d.fmt.1, [], 0, 0⟩ ∧ d.fmt.2 = 0 := by
  have e : d.fmt = (⟨(List.replicate S ([] : Bs)).set 0 (enc 0 [48]), (List.replicate S ([] : Bs)).set 0 (enc 0 [48]), List.replicate S false⟩, 0) := by
    unfold Dk.fmt; rw [if_neg (by omega), hd]
  rw [e]
  have hx : ∀ j, 1 ≤ j → ((List.replicate S ([] : Bs)).set 0 (enc 0 [48])).getD j [] = [] := by
    intro j hj
    rw [getD_set_ne (by omega), List.getD_eq_getElem?_getD, List.getElem?_replicate]
    split <;> rfl
  have hsm : ∀ s ∈ (List.replicate S ([] : Bs)).set 0 (enc 0 [48]), s.length ≤ 65536 :=
    mem_set_le (fun x hx => by simp at hx; simp [hx]) (by have := enc_len 0 [48]; omega)
  refine ⟨⟨⟨by simp, by simp, by simp, hsm, hsm⟩, h, ⟨0, ?_, Nat.le_refl _⟩, fun i _ => getD_false _ _, Nat.le_refl _, Nat.le_refl _, by simp, Nat.le_refl _, fun k _ hk => by simp at hk, fun j hj _ => .inl (hx j (by omega)), fun j hj _ => .inl (hx j (by omega)), fun k _ hk => by simp at hk, fun x hx => by simp at hx⟩, rfl⟩
  have h0 : ((List.replicate S ([] : Bs)).set 0 (enc 0 [48])).getD 0 [] = enc 0 [48] := getD_set_self (by simp; omega)
  simp only [hs]
  rw [h0, hx 1 (by omega)]
  have e48 : txt 0 = [48] := by rw [txt_eq, Lib.decDigits_one (by decide)]; rfl
  have hh : hdr (enc 0 [48]) 0 = some (0, 0) := by
    unfold hdr
    have : dec (enc 0 [48]) = some (0, [48]) := dec_enc (n := 0) (by unfold lim; omega) (by simp)
    rw [this]
    simp only
    rw [if_pos (by decide), num_some.2 ⟨by unfold lim; omega, e48⟩]
    rfl
  rw [hh]
  unfold hdr
  rw [dec_nil]
  rfl

end Wl
