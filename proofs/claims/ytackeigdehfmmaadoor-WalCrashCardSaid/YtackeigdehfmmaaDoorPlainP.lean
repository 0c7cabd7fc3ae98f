import Derived.Test.YtackeigdehfmmaaDoorPlainF
/-! texts and values of integers, plain -/
namespace Bi
open Go.Lib (decDigits nDigits itoa)

theorem digit_back {b : UInt8} (h : isDig b) : UInt8.ofNat (48 + (b.toNat - 48)) = b := by
  unfold isDig at h
  rw [show 48 + (b.toNat - 48) = b.toNat by omega]
  simp

theorem decVal_pos {t : List UInt8} (h : ∀ b ∈ t, isDig b) (h0 : t ≠ []) (h48 : t.head? ≠ some 48) : 0 < decVal t := by
  cases t with
  | nil => exact absurd rfl h0
  | cons b r =>
    have hb : isDig b := h b (by simp)
    unfold isDig at hb
    have : b.toNat ≠ 48 := by
      intro e
      apply h48
      simp only [List.head?_cons, Option.some.injEq]
      exact UInt8.toNat_inj.1 e
    rw [decVal]
    have h1 : 0 < 10 ^ r.length := Nat.pow_pos (by decide)
    have : 1 * 10 ^ r.length ≤ (b.toNat - 48) * 10 ^ r.length := Nat.mul_le_mul_right _ (by omega)
    omega

/-- the digits of the value are the text, where no zero stands ahead -/
theorem dec_text : ∀ (n : Nat) (t : List UInt8), t.length = n → (∀ b ∈ t, isDig b) → t ≠ [] → ¬ (t.head? = some 48 ∧ 1 < t.length) → decDigits (decVal t) = t := by
  intro n
  induction n with
  | zero => intro t hl _ h0 _; exact absurd (List.length_eq_zero_iff.1 hl) h0
  | succ n ih =>
    intro t hl h h0 hz
    rcases List.eq_nil_or_concat t with rfl | ⟨r, d, hr⟩
    · exact absurd rfl h0
    · rw [List.concat_eq_append] at hr
      subst hr
      have hd : isDig d := h d (by simp)
      have hdb := digit_back hd
      have hdr : isDig d := hd
      unfold isDig at hd
      have hv : decVal (r ++ [d]) = decVal r * 10 + (d.toNat - 48) := by rw [decVal_append]; simp [decVal]
      by_cases hr0 : r = []
      · subst hr0
        rw [hv]
        simp only [decVal, Nat.zero_mul, Nat.zero_add, List.nil_append]
        rw [Go.Lib.decDigits_one (by omega), hdb]
      · have hpos : 0 < decVal r := decVal_pos (fun b hb => h b (by simp [hb])) hr0 (fun e => hz ⟨by
          cases r with
          | nil => exact absurd rfl hr0
          | cons a r => simpa using e, by have := List.length_pos_iff.2 hr0; simp; omega⟩)
        rw [hv, decDigits, dif_neg (by omega), show (decVal r * 10 + (d.toNat - 48)) / 10 = decVal r by omega, show (decVal r * 10 + (d.toNat - 48)) % 10 = d.toNat - 48 by omega, hdb,
          ih r (by simpa using hl) (fun b hb => h b (by simp [hb])) hr0 (fun ⟨e, _⟩ => hz ⟨by
            cases r with
            | nil => exact absurd rfl hr0
            | cons a r => simpa using e, by have := List.length_pos_iff.2 hr0; simp; omega⟩)]

theorem dec_text_no {t : List UInt8} (h : ∀ b ∈ t, isDig b) (hz : t.head? = some 48 ∧ 1 < t.length) : decDigits (decVal t) ≠ t := by
  intro e
  obtain ⟨h1, h2⟩ := hz
  cases t with
  | nil => simp at h1
  | cons b r =>
    simp only [List.head?_cons, Option.some.injEq] at h1
    subst h1
    have hv : decVal (48 :: r) = decVal r := by rw [decVal, show (48 : UInt8).toNat - 48 = 0 from rfl, Nat.zero_mul, Nat.zero_add]
    have hlen := congrArg List.length e
    rw [Go.Lib.decDigits_length, hv] at hlen
    have hlt := decVal_lt r (fun b hb => h b (by simp [hb]))
    simp only [List.length_cons] at h2 hlen
    by_cases h0 : decVal r = 0
    · rw [h0, Go.Lib.nDigits_small (by decide)] at hlen; omega
    · have := (nd_le h0).2 hlt
      omega

def sgnT (neg : Bool) (v : Nat) : Int := if neg then -(v : Int) else v

/-- which texts are those of their value -/
theorem itoa_text {neg : Bool} {t : List UInt8} (h : ∀ b ∈ t, isDig b) (h0 : t ≠ []) :
    itoa (sgnT neg (decVal t)) = (if neg = true then [45] else []) ++ t ↔ ¬ (t.head? = some 48 ∧ (1 < t.length ∨ neg = true)) := by
  have hz0 : t.head? = some 48 → t.length = 1 → decVal t = 0 := by
    intro h1 h2
    cases t with
    | nil => simp at h1
    | cons b r =>
      simp only [List.head?_cons, Option.some.injEq] at h1
      subst h1
      have : r = [] := List.length_eq_zero_iff.1 (by simpa using h2)
      subst this
      rfl
  cases neg
  · simp only [sgnT, Bool.false_eq_true, if_false, List.nil_append, or_false]
    have e1 : itoa ((decVal t : Nat) : Int) = decDigits (decVal t) := by
      unfold itoa; rw [if_neg (by omega), Int.toNat_natCast]
    rw [e1]
    constructor
    · intro e hz
      exact dec_text_no h hz e
    · intro hz
      exact dec_text _ t rfl h h0 hz
  · simp only [sgnT, if_true, or_true, and_true]
    constructor
    · intro e h1
      by_cases hv : decVal t = 0
      · rw [hv] at e
        have : itoa (-((0 : Nat) : Int)) = [48] := by
          unfold itoa
          rw [if_neg (by decide), show (-((0 : Nat) : Int)).toNat = 0 from rfl, Go.Lib.decDigits_one (by decide)]
          rfl
        rw [this] at e
        simp at e
      · have e1 : itoa (-((decVal t : Nat) : Int)) = 45 :: decDigits (decVal t) := by
          unfold itoa; rw [if_pos (by omega), show (-((decVal t : Nat) : Int)).natAbs = decVal t by omega]
        rw [e1] at e
        simp only [List.singleton_append, List.cons.injEq, true_and] at e
        refine dec_text_no h ⟨h1, ?_⟩ e
        apply Nat.lt_of_not_le
        intro hle
        have := List.length_pos_iff.2 h0
        exact hv (hz0 h1 (by omega))
    · intro h1
      have hp := decVal_pos h h0 h1
      have e1 : itoa (-((decVal t : Nat) : Int)) = 45 :: decDigits (decVal t) := by
        unfold itoa; rw [if_pos (by omega), show (-((decVal t : Nat) : Int)).natAbs = decVal t by omega]
      rw [e1, dec_text _ t rfl h h0 (fun ⟨h2, _⟩ => h1 h2)]
      rfl

theorem chunk_snoc {t : List UInt8} {i a : Nat} {z : UInt8} (h : t[i]? = some z) (ha : a ≤ i) : (t.drop a).take (i + 1 - a) = (t.drop a).take (i - a) ++ [z] := by
  rw [show i + 1 - a = (i - a) + 1 by omega, List.take_add_one]
  congr 1
  rw [List.getElem?_drop, show a + (i - a) = i by omega, h]
  rfl

theorem val_snoc_dig {c : List UInt8} {z : UInt8} : decVal (c ++ [z]) = 10 * decVal c + (z.toNat - 48) := by
  rw [decVal_append]; simp [decVal]; omega

theorem chunk_small {c : List UInt8} (h : ∀ b ∈ c, isDig b) (hl : c.length ≤ 8) : decVal c < 100000000 := by
  have h1 := decVal_lt c h
  have h2 : 10 ^ c.length ≤ 10 ^ 8 := Nat.pow_le_pow_right (by omega) hl
  omega

/-- less than the base (behind a name: the walk meets no great numeral) -/
def Sm8 (x : Nat) : Prop := x < 100000000
end Bi
