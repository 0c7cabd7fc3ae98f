/-
  Bounds and laws of fractions, plain.
-/
import Derived.Test.YtgfpbghgpdpepaaGreatDoorQ1
namespace Rq
theorem bd_divInt {x d : Int} (hd : d ≠ 0) : (Rat.divInt x d).num.natAbs ≤ x.natAbs ∧ (Rat.divInt x d).den ≤ d.natAbs := by
 have h1 := num_of (p := x) hd;have h2 := den_of (p := x) hd
 constructor
 ·rw [← h1, Int.natAbs_tdiv]; exact Nat.div_le_self _ _
 ·have : (Rat.divInt x d).den = (d.tdiv (gS x d)).natAbs := by rw [h2, Int.natAbs_natCast]
  rw [this, Int.natAbs_tdiv]; exact Nat.div_le_self _ _
def Bd (r : Rat) (N D : Nat) : Prop := r.num.natAbs ≤ N ∧ r.den ≤ D
theorem bd_of {x d : Int} {N D : Nat} (hd : d ≠ 0) (h1 : x.natAbs ≤ N) (h2 : d.natAbs ≤ D) : Bd (Rat.divInt x d) N D :=
 ⟨Nat.le_trans (bd_divInt hd).1 h1, Nat.le_trans (bd_divInt hd).2 h2⟩
theorem mul_bd {x y : Int} {A B : Nat} (h1 : x.natAbs ≤ A) (h2 : y.natAbs ≤ B) : (x * y).natAbs ≤ A * B := by
 rw [Int.natAbs_mul]; exact Nat.mul_le_mul h1 h2
theorem dd_ne' (a b : Rat) : (a.den : Int) * (b.den : Int) ≠ 0 := Int.mul_ne_zero (den_ne a) (den_ne b)
theorem bd_dd {a b : Rat} {N M D E : Nat} (h1 : Bd a N D) (h2 : Bd b M E) : ((a.den : Int) * (b.den : Int)).natAbs ≤ D * E :=
 mul_bd (by rw [Int.natAbs_natCast]; exact h1.2) (by rw [Int.natAbs_natCast]; exact h2.2)
theorem bd_x {a b : Rat} {N M D E : Nat} (h1 : Bd a N D) (h2 : Bd b M E) : (a.num * (b.den : Int)).natAbs ≤ N * E :=
 mul_bd h1.1 (by rw [Int.natAbs_natCast]; exact h2.2)
theorem bd_add {a b : Rat} {N M D E : Nat} (h1 : Bd a N D) (h2 : Bd b M E) : Bd (a + b) (N * E + M * D) (D * E) := by
 rw [← add_eq];refine bd_of (dd_ne' a b) ?_ (bd_dd h1 h2);have := bd_x h1 h2;have := bd_x h2 h1;omega
theorem bd_mul {a b : Rat} {N M D E : Nat} (h1 : Bd a N D) (h2 : Bd b M E) : Bd (a * b) (N * M) (D * E) := by
 rw [← mul_eq];exact bd_of (dd_ne' a b) (mul_bd h1.1 h2.1) (bd_dd h1 h2)
end Rq
namespace Du
def sm : Nat → (Nat → Rat) → Rat
 | 0, _ => 0
 | n + 1, f => sm n f + f n
theorem sm_add (n : Nat) (f g : Nat → Rat) : sm n (fun k => f k + g k) = sm n f + sm n g := by
 induction n with
 | zero => simp only [sm]; grind
 | succ n ih => simp only [sm, ih]; grind
theorem sm_sub (n : Nat) (f g : Nat → Rat) : sm n (fun k => f k - g k) = sm n f - sm n g := by
 induction n with
 | zero => simp only [sm]; grind
 | succ n ih => simp only [sm, ih]; grind
theorem sm_mul (n : Nat) (c : Rat) (f : Nat → Rat) : sm n (fun k => c * f k) = c * sm n f := by
 induction n with
 | zero => simp only [sm]; grind
 | succ n ih => simp only [sm, ih]; grind
theorem sm_zero (n : Nat) : sm n (fun _ => 0) = 0 := by
 induction n with
 | zero => rfl
 | succ n ih => simp only [sm, ih]; grind
theorem sm_congr (n : Nat) (f g : Nat → Rat) (h : ∀ k, k < n → f k = g k) : sm n f = sm n g := by
 induction n with
 | zero => rfl
 | succ n ih => simp only [sm]; rw [ih (fun k hk => h k (by omega)), h n (by omega)]
theorem sm_le (n : Nat) (f g : Nat → Rat) (h : ∀ k, k < n → f k ≤ g k) : sm n f ≤ sm n g := by
 induction n with
 | zero => simp only [sm]; grind
 | succ n ih => simp only [sm]; have := ih (fun k hk => h k (by omega)); have := h n (by omega); grind
theorem sm_nonneg (n : Nat) (f : Nat → Rat) (h : ∀ k, k < n → 0 ≤ f k) : 0 ≤ sm n f := by
 have := sm_le n (fun _ => 0) f h
 rwa [sm_zero] at this
theorem sm_eq_zero (n : Nat) (f : Nat → Rat) (h : ∀ k, k < n → 0 ≤ f k) : sm n f = 0 ↔ ∀ k, k < n → f k = 0 := by
 induction n with
 | zero => simp [sm]
 | succ n ih =>
  have h1 := sm_nonneg n f (fun k hk => h k (by omega));have h2 := h n (by omega);have ih := ih (fun k hk => h k (by omega));simp only [sm]
  constructor
  ·intro e k hk
   by_cases hkn : k = n
   ·subst hkn; grind
   ·exact ih.1 (by grind) k (by omega)
  ·intro e;rw [ih.2 (fun k hk => e k (by omega)), e n (by omega)]; grind
theorem sm_swap (m n : Nat) (y x : Nat → Rat) (A : Nat → Nat → Rat) : sm m (fun i => y i * sm n (fun k => A i k * x k)) = sm n (fun k => x k * sm m (fun i => A i k * y i)) := by
 induction m with
 | zero =>
  show (0 : Rat) = sm n (fun k => x k * 0)
  exact (sm_zero n).symm.trans (sm_congr _ _ _ fun k _ => by grind)
 | succ m ih =>
  simp only [sm];rw [ih, ← sm_mul, ← sm_add];exact sm_congr _ _ _ fun k _ => by grind
structure Sol (m n : Nat) (A : Nat → Nat → Rat) (b x : Nat → Rat) : Prop where
 pos : ∀ k, k < n → 0 ≤ x k
 row : ∀ i, i < m → sm n (fun k => A i k * x k) ≤ b i
structure Pri (m n : Nat) (A : Nat → Nat → Rat) (c y : Nat → Rat) : Prop where
 pos : ∀ i, i < m → 0 ≤ y i
 col : ∀ k, k < n → c k ≤ sm m (fun i => A i k * y i)
section
variable {m n : Nat} {A : Nat → Nat → Rat} {b c x y : Nat → Rat}
theorem gap_eq : sm m (fun i => b i * y i) - sm n (fun k => c k * x k) = sm m (fun i => y i * (b i - sm n (fun k => A i k * x k))) + sm n (fun k => x k * (sm m (fun i => A i k * y i) - c k)) := by
 have e1 : sm m (fun i => y i * (b i - sm n (fun k => A i k * x k))) = sm m (fun i => b i * y i) - sm m (fun i => y i * sm n (fun k => A i k * x k)) := by
  rw [← sm_sub]; exact sm_congr _ _ _ fun k _ => by grind
 have e2 : sm n (fun k => x k * (sm m (fun i => A i k * y i) - c k)) = sm n (fun k => x k * sm m (fun i => A i k * y i)) - sm n (fun k => c k * x k) := by
  rw [← sm_sub]; exact sm_congr _ _ _ fun k _ => by grind
 rw [e1, e2, sm_swap]
 grind
theorem row_pos (hs : Sol m n A b x) (hp : Pri m n A c y) : ∀ i, i < m → 0 ≤ y i * (b i - sm n (fun k => A i k * x k)) := fun i hi =>
 Rat.mul_nonneg (hp.pos i hi) (by have := hs.row i hi; grind)
theorem col_pos (hs : Sol m n A b x) (hp : Pri m n A c y) : ∀ k, k < n → 0 ≤ x k * (sm m (fun i => A i k * y i) - c k) := fun k hk =>
 Rat.mul_nonneg (hs.pos k hk) (by have := hp.col k hk; grind)
theorem weak (hs : Sol m n A b x) (hp : Pri m n A c y) : 0 ≤ sm m (fun i => b i * y i) - sm n (fun k => c k * x k) := by
 rw [gap_eq (A := A)];have h1 := sm_nonneg m _ (row_pos hs hp);have h2 := sm_nonneg n _ (col_pos hs hp)
 grind
theorem mul_zero_iff (a b : Rat) : a * b = 0 ↔ b = 0 ∨ a = 0 := by
 constructor
 ·intro h;rcases Rat.mul_eq_zero.1 h with h | h
  ·exact .inr h
  ·exact .inl h
 ·rintro (h | h) <;> rw [h] <;> grind
theorem gap_zero (hs : Sol m n A b x) (hp : Pri m n A c y) : sm m (fun i => b i * y i) - sm n (fun k => c k * x k) = 0 ↔
  (∀ i, i < m → sm n (fun k => A i k * x k) = b i ∨ y i = 0) ∧ ∀ k, k < n → sm m (fun i => A i k * y i) = c k ∨ x k = 0 := by
 rw [gap_eq (A := A)];have h1 := sm_nonneg m _ (row_pos hs hp);have h2 := sm_nonneg n _ (col_pos hs hp);have e1 := sm_eq_zero m _ (row_pos hs hp);have e2 := sm_eq_zero n _ (col_pos hs hp)
 constructor
 ·intro h;have h3 := e1.1 (by grind);have h4 := e2.1 (by grind);refine ⟨fun i hi => ?_, fun k hk => ?_⟩
  ·rcases (mul_zero_iff _ _).1 (h3 i hi) with h | h
   ·exact .inl (by grind)
   ·exact .inr h
  ·rcases (mul_zero_iff _ _).1 (h4 k hk) with h | h
   ·exact .inl (by grind)
   ·exact .inr h
 ·rintro ⟨h3, h4⟩;rw [e1.2 (fun i hi => (mul_zero_iff _ _).2 ((h3 i hi).imp (fun h => by grind) id)), e2.2 (fun k hk => (mul_zero_iff _ _).2 ((h4 k hk).imp (fun h => by grind) id))]
  grind
theorem ray_none (hx : ∀ k, k < n → 0 ≤ x k) (hr : ∀ i, i < m → sm n (fun k => A i k * x k) ≤ 0) (hc : 0 < sm n (fun k => c k * x k)) (hp : Pri m n A c y) : False := by
 have hs : Sol m n A (fun _ => 0) x := ⟨hx, hr⟩;have h := weak hs hp;have e : sm m (fun i => (0 : Rat) * y i) = 0 := (sm_congr m _ (fun _ => 0) fun k _ => by grind).trans (sm_zero m);rw [e] at h
 grind
end
def dotR : List Rat → List Rat → Rat
 | a :: l, b :: m => a * b + dotR l m
 | _, _ => 0
theorem sm_shift (n : Nat) (f : Nat → Rat) : sm (n + 1) f = f 0 + sm n (fun k => f (k + 1)) := by
 induction n with
 | zero => simp only [sm]; grind
 | succ n ih => rw [sm, ih]; simp only [sm]; grind
theorem dot_sm : ∀ (l m : List Rat), l.length = m.length → dotR l m = sm l.length (fun k => l.getD k 0 * m.getD k 0)
 | [], [], _ => rfl
 | a :: l, b :: m, h => by
  rw [dotR, List.length_cons, sm_shift, dot_sm l m (by simpa using h)]
  rfl
end Du
