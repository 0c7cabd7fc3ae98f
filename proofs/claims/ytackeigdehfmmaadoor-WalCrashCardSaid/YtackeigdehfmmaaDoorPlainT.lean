import Derived.Test.YtackeigdehfmmaaDoorPlainD
import Derived.Lib.Atoi
import Derived.Lib.SlTrimSet
import Derived.Lib.Strings
/-! texts of integers, plain -/
namespace Bi
open Go

/-- the digits -/
def digs : List UInt8 := [48, 49, 50, 51, 52, 53, 54, 55, 56, 57]

def isDig (b : UInt8) : Prop := 48 ≤ b.toNat ∧ b.toNat ≤ 57

theorem digs_iff (b : UInt8) : digs.contains b = true ↔ isDig b := by
  unfold isDig digs
  simp only [List.contains_eq_mem, List.mem_cons, List.not_mem_nil, or_false, decide_eq_true_eq]
  constructor
  · rintro (h | h | h | h | h | h | h | h | h | h) <;> subst h <;> decide
  · rintro ⟨h1, h2⟩
    have : b = UInt8.ofNat b.toNat := by simp
    have h3 : b.toNat = 48 ∨ b.toNat = 49 ∨ b.toNat = 50 ∨ b.toNat = 51 ∨ b.toNat = 52 ∨ b.toNat = 53 ∨ b.toNat = 54 ∨ b.toNat = 55 ∨ b.toNat = 56 ∨ b.toNat = 57 := by omega
    rcases h3 with h | h | h | h | h | h | h | h | h | h <;> rw [h] at this <;> subst this <;> decide

theorem dropWhile_nil {α : Type} (p : α → Bool) (l : List α) : l.dropWhile p = [] ↔ ∀ x ∈ l, p x = true := by
  induction l with
  | nil => simp
  | cons a r ih =>
    rw [List.dropWhile_cons]
    by_cases h : p a = true
    · simp [h, ih]
    · simp [h]

theorem trim_digs (l : List UInt8) : Lib.trimS l digs = [] ↔ ∀ b ∈ l, isDig b := by
  unfold Lib.trimS Lib.trimLeftS Lib.trimRightS
  rw [dropWhile_nil]
  constructor
  · intro h b hb
    by_cases h0 : (l.reverse.dropWhile (digs.contains ·)) = []
    · rw [dropWhile_nil] at h0
      exact (digs_iff b).1 (h0 b (by simpa using hb))
    · have h1 := List.head_dropWhile_not (p := (digs.contains ·)) (l := l.reverse) h0
      have h2 := h _ (List.mem_reverse.2 (List.head_mem h0))
      rw [h2] at h1
      exact absurd h1 (by simp)
  · intro h b hb
    refine (digs_iff b).2 (h b ?_)
    have := (List.dropWhile_sublist (digs.contains ·) (l := l.reverse)).subset (List.mem_reverse.1 hb)
    simpa using this

/-- the value of decimal digits -/
def decVal : List UInt8 → Nat
  | [] => 0
  | b :: r => (b.toNat - 48) * 10 ^ r.length + decVal r

theorem decFrom_all : ∀ (l : List UInt8) (acc : Nat), (∀ b ∈ l, isDig b) → Lib.decFrom acc l = some (acc * 10 ^ l.length + decVal l)
  | [], acc, _ => by simp [Lib.decFrom, decVal]
  | b :: r, acc, h => by
    have hb : isDig b := h b (by simp)
    have hr := decFrom_all r (acc * 10 + (b.toNat - 48)) (fun x hx => h x (by simp [hx]))
    unfold isDig at hb
    simp only [Lib.decFrom, Lib.digitVal, hb, and_self, if_true, hr, decVal, List.length_cons, Nat.pow_succ]
    congr 1
    rw [Nat.add_mul, Nat.mul_assoc, Nat.mul_comm 10]
    omega

theorem atoi_digs {l : List UInt8} (h0 : l ≠ []) (h : ∀ b ∈ l, isDig b) : Lib.atoi l = some ((decVal l : Nat) : Int) := by
  cases l with
  | nil => exact absurd rfl h0
  | cons b r =>
    have hb : isDig b := h b (by simp)
    unfold isDig at hb
    have h1 : (b == 45) = false := by
      rw [beq_eq_false_iff_ne]; rintro rfl; simp at hb
    have h2 : (b == 43) = false := by
      rw [beq_eq_false_iff_ne]; rintro rfl; simp at hb
    have h3 : Lib.decNat (b :: r) = some (decVal (b :: r)) := by
      unfold Lib.decNat
      rw [if_neg (by simp), decFrom_all _ _ h]; simp
    simp only [Lib.atoi, h1, h2, h3, Bool.false_eq_true, if_false, Option.map_some]

theorem decVal_lt : ∀ (l : List UInt8), (∀ b ∈ l, isDig b) → decVal l < 10 ^ l.length
  | [], _ => by simp [decVal]
  | b :: r, h => by
    have hb : isDig b := h b (by simp)
    have hr := decVal_lt r (fun x hx => h x (by simp [hx]))
    unfold isDig at hb
    rw [decVal, List.length_cons, Nat.pow_succ]
    have : (b.toNat - 48) * 10 ^ r.length ≤ 9 * 10 ^ r.length := Nat.mul_le_mul_right _ (by omega)
    omega

theorem decVal_append : ∀ (a b : List UInt8), decVal (a ++ b) = decVal a * 10 ^ b.length + decVal b
  | [], b => by simp [decVal]
  | x :: a, b => by
    simp only [List.cons_append, decVal, decVal_append a b, List.length_append, Nat.pow_add, Nat.add_mul, Nat.mul_assoc]
    omega

/-- is it the text of a valid integer? t: the text behind the sign -/
def textP (neg : Bool) (t : List UInt8) : Prop := t ≠ [] ∧ t.length ≤ 300 ∧ (∀ b ∈ t, isDig b) ∧ ¬ (t.head? = some 48 ∧ (1 < t.length ∨ neg = true))

end Bi
