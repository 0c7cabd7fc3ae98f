import Derived.Test.YtackeigdehfmmaaDoorPlainP
/-! the digits of a number read back, plain -/
namespace Bi
open Go.Lib (decDigits nDigits itoa)

theorem dec_all (n : Nat) : (∀ b ∈ decDigits n, isDig b) ∧ decVal (decDigits n) = n ∧ decDigits n ≠ [] ∧ (n ≠ 0 → (decDigits n).head? ≠ some 48) := by
  induction n using Nat.strongRecOn with
  | ind n ih =>
    by_cases h : n < 10
    · rw [Go.Lib.decDigits_one h]
      have hb : (UInt8.ofNat (48 + n)).toNat = 48 + n := by
        rw [UInt8.toNat_ofNat']; omega
      refine ⟨fun b hb' => ?_, ?_, by simp, fun h0 => ?_⟩
      · simp only [List.mem_singleton] at hb'
        subst hb'
        unfold isDig; rw [hb]; omega
      · simp only [decVal, hb, List.length_nil, Nat.pow_zero]; omega
      · intro e
        simp only [List.head?_cons, Option.some.injEq] at e
        have := congrArg UInt8.toNat e
        rw [hb] at this
        have h48 : (48 : UInt8).toNat = 48 := rfl
        omega
    · obtain ⟨h1, h2, h3, h4⟩ := ih (n / 10) (by omega)
      have hb : (UInt8.ofNat (48 + n % 10)).toNat = 48 + n % 10 := by
        rw [UInt8.toNat_ofNat']; omega
      rw [decDigits, dif_neg h]
      refine ⟨fun b hb' => ?_, ?_, by simp, fun _ => ?_⟩
      · rcases List.mem_append.1 hb' with hb' | hb'
        · exact h1 b hb'
        · simp only [List.mem_singleton] at hb'
          subst hb'
          unfold isDig; rw [hb]; omega
      · rw [val_snoc_dig, h2, hb]; omega
      · have := h4 (by omega)
        cases hd : decDigits (n / 10) with
        | nil => exact absurd hd h3
        | cons x r =>
          rw [hd] at this
          simpa using this

theorem dec_len {n : Nat} (h : n < Big) : (decDigits n).length ≤ 300 := by
  rw [Go.Lib.decDigits_length]
  by_cases h0 : n = 0
  · rw [h0, Go.Lib.nDigits_small (by decide)]; decide
  · have h3 : ∀ a k : Nat, k = a + a → 10 ^ a * 10 ^ a = 10 ^ k := fun a k hk => by rw [hk, Nat.pow_add]
    obtain ⟨k, hk⟩ : ∃ k : Nat, k = 300 := ⟨_, rfl⟩
    rw [← hk]
    exact (nd_le h0).2 (Nat.lt_of_lt_of_eq h (h3 150 k (by omega)))

/-- the text of an integer is the text of an integer -/
theorem itoa_parts {z : Int} (h : z.natAbs < Big) : ∃ (neg : Bool) (t : List UInt8), itoa z = (if neg = true then [45] else []) ++ t ∧ Go.Lib.hasPrefix (itoa z) [45] = neg ∧ Go.Lib.trimPrefix (itoa z) [45] = t ∧ textP neg t ∧ sgnT neg (decVal t) = z := by
  obtain ⟨h1, h2, h3, h4⟩ := dec_all z.natAbs
  have hl := dec_len h
  by_cases hz : z < 0
  · have e : itoa z = 45 :: decDigits z.natAbs := by unfold itoa; rw [if_pos hz]
    have hp : Go.Lib.hasPrefix (45 :: decDigits z.natAbs) [45] = true := by simp [Go.Lib.hasPrefix]
    refine ⟨true, decDigits z.natAbs, by rw [e]; rfl, by rw [e]; exact hp, by rw [e]; unfold Go.Lib.trimPrefix; rw [if_pos hp]; rfl, ⟨h3, hl, h1, fun hh => h4 (by omega) hh.1⟩, ?_⟩
    simp only [sgnT, if_true, h2]; omega
  · have e : itoa z = decDigits z.natAbs := by unfold itoa; rw [if_neg hz, show z.toNat = z.natAbs by omega]
    have hp : Go.Lib.hasPrefix (decDigits z.natAbs) [45] = false := by
      cases hd : decDigits z.natAbs with
      | nil => exact absurd hd h3
      | cons x r =>
        have hx : isDig x := h1 x (by rw [hd]; simp)
        have hb : ((45 : UInt8) == x) = false := by
          rw [beq_eq_false_iff_ne]
          rintro rfl
          unfold isDig at hx
          have : (45 : UInt8).toNat = 45 := rfl
          omega
        unfold Go.Lib.hasPrefix
        rw [List.isPrefixOf, hb]
        rfl
    refine ⟨false, decDigits z.natAbs, by rw [e]; rfl, by rw [e]; exact hp, by rw [e]; unfold Go.Lib.trimPrefix; rw [if_neg (by rw [hp]; simp)], ⟨h3, hl, h1, fun hh => ?_⟩, ?_⟩
    · by_cases h0 : z.natAbs = 0
      · rw [h0, Go.Lib.decDigits_one (by decide)] at hh
        simp at hh
      · exact h4 h0 hh.1
    · simp only [sgnT, Bool.false_eq_true, if_false, h2]; omega
end Bi
