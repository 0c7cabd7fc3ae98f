import Derived.Test.YtackeigdehfmmaaDoorPlainQ
import Derived.Lib.IndexMore
import Derived.Lib.AtoiTie
/-
  Written records, headers and logs, plain.
-/
namespace Wl
open Go

abbrev Bs := List UInt8

/-- one step of the check sum -/
def cstep (x : Nat) : Nat := if x % 2 = 1 then Nat.xor (x / 2) 3988292384 else x / 2
def csteps : Nat → Nat → Nat
  | 0, x => x
  | k + 1, x => csteps k (cstep x)
def cbyte (x b : Nat) : Nat := csteps 8 (Nat.xor x b)
def crcF (x : Nat) (l : Bs) : Nat := l.foldl (fun x b => cbyte x b.toNat) x
/-- the check sum of bytes -/
def crc (l : Bs) : Nat := 4294967295 - crcF 4294967295 l

theorem csteps_succ : ∀ (k x : Nat), csteps (k + 1) x = cstep (csteps k x)
  | 0, _ => rfl
  | k + 1, x => by rw [csteps, csteps_succ k (cstep x), csteps]

theorem xor_lt {a b : Nat} (ha : a < 4294967296) (hb : b < 4294967296) : Nat.xor a b < 4294967296 :=
  Nat.xor_lt_two_pow (n := 32) ha hb

theorem cstep_lt {x : Nat} (h : x < 4294967296) : cstep x < 4294967296 := by
  unfold cstep; split
  · exact xor_lt (by omega) (by decide)
  · omega

theorem csteps_lt : ∀ (k : Nat) {x : Nat}, x < 4294967296 → csteps k x < 4294967296
  | 0, _, h => h
  | k + 1, _, h => csteps_lt k (cstep_lt h)

theorem cbyte_lt {x : Nat} {b : UInt8} (h : x < 4294967296) : cbyte x b.toNat < 4294967296 :=
  csteps_lt 8 (xor_lt h (by have := b.toNat_lt; omega))

theorem crcF_lt : ∀ (l : Bs) {x : Nat}, x < 4294967296 → crcF x l < 4294967296
  | [], _, h => h
  | b :: l, x, h => by
    show crcF (cbyte x b.toNat) l < _
    exact crcF_lt l (cbyte_lt h)

theorem crcF_snoc (x : Nat) (l : Bs) (b : UInt8) : crcF x (l ++ [b]) = cbyte (crcF x l) b.toNat := by
  unfold crcF; rw [List.foldl_append]; rfl

theorem crc_lt (l : Bs) : crc l < 4294967296 := by unfold crc; omega

/-- a hexadecimal digit -/
def hexD (d : Nat) : UInt8 := if d < 10 then UInt8.ofNat (48 + d) else UInt8.ofNat (87 + d)
/-- the last k hexadecimal digits -/
def hexN : Nat → Nat → Bs
  | 0, _ => []
  | k + 1, x => hexN k (x / 16) ++ [hexD (x % 16)]
/-- the hexadecimal digits without superfluous zeros -/
def hexM (x : Nat) : Bs := if _h : x < 16 then [hexD x] else hexM (x / 16) ++ [hexD (x % 16)]
  termination_by x
  decreasing_by omega

theorem hexN_length : ∀ (k x : Nat), (hexN k x).length = k
  | 0, _ => rfl
  | k + 1, x => by simp [hexN, hexN_length k]

theorem hexN_zero : ∀ (k : Nat), hexN k 0 = List.replicate k 48
  | 0 => rfl
  | k + 1 => by
    rw [hexN, Nat.zero_div, hexN_zero k, List.replicate_succ']
    rfl

theorem hexM_pad : ∀ (k x : Nat), 1 ≤ k → x < 16 ^ k → (hexM x).length ≤ k ∧ List.replicate (k - (hexM x).length) 48 ++ hexM x = hexN k x
  | 0, _, h, _ => absurd h (by omega)
  | k + 1, x, _, hx => by
    rw [hexM]
    by_cases h : x < 16
    · rw [dif_pos h]
      refine ⟨by simp, ?_⟩
      rw [hexN, show x / 16 = 0 by omega, show x % 16 = x by omega, hexN_zero]
      simp
    · rw [dif_neg h]
      have hk : 1 ≤ k := by
        rcases Nat.eq_zero_or_pos k with rfl | h'
        · simp at hx; omega
        · exact h'
      obtain ⟨h1, h2⟩ := hexM_pad k (x / 16) hk (by rw [Nat.pow_succ] at hx; omega)
      refine ⟨by simp; omega, ?_⟩
      rw [hexN, ← h2]
      simp

theorem hexD_plain (d : Nat) (h : d < 16) : hexD d ≠ 10 ∧ hexD d ≠ 32 := by
  have : ∀ d : Fin 16, hexD d.val ≠ 10 ∧ hexD d.val ≠ 32 := by decide
  exact this ⟨d, h⟩

theorem hexN_plain : ∀ (k x : Nat), (10 : UInt8) ∉ hexN k x
  | 0, _ => by simp [hexN]
  | k + 1, x => by
    rw [hexN]
    simp only [List.mem_append, List.mem_singleton, not_or]
    exact ⟨hexN_plain k _, fun h => (hexD_plain (x % 16) (by omega)).1 h.symm⟩

/-- the greatest number of a record -/
def lim : Nat := 1099511627776

/-- the text of a number -/
def txt (n : Nat) : Bs := Lib.itoa (n : Int)

theorem txt_eq (n : Nat) : txt n = Lib.decDigits n := by
  unfold txt Lib.itoa; rw [if_neg (by omega), Int.toNat_natCast]

theorem txt_dig (n : Nat) : ∀ b ∈ txt n, Bi.isDig b := by rw [txt_eq]; exact (Bi.dec_all n).1
theorem txt_ne (n : Nat) : txt n ≠ [] := by rw [txt_eq]; exact (Bi.dec_all n).2.2.1
theorem txt_val (n : Nat) : Bi.decVal (txt n) = n := by rw [txt_eq]; exact (Bi.dec_all n).2.1
theorem txt_inj {a b : Nat} (h : txt a = txt b) : a = b := by rw [← txt_val a, ← txt_val b, h]
theorem txt_no {n : Nat} {c : UInt8} (h : c.toNat < 48) : c ∉ txt n := by
  intro hm
  have := txt_dig n c hm
  unfold Bi.isDig at this
  omega
theorem txt_len {n : Nat} (h : n ≤ lim) : (txt n).length ≤ 13 := by
  rw [txt_eq, Lib.decDigits_length]
  rcases Nat.eq_zero_or_pos n with rfl | h0
  · rw [Lib.nDigits_small (by decide)]; omega
  · exact (Bi.nd_le (by omega)).2 (by unfold lim at h; exact Nat.lt_of_le_of_lt h (by decide))
theorem txt_pos (n : Nat) : 0 < (txt n).length := List.length_pos_iff.2 (txt_ne n)

theorem txt_atoi {n : Nat} (h : n ≤ lim) : Lib.atoiAll (txt n) = .ok (n : Int) := by
  rw [Lib.atoiAll_short _ (by have := txt_len h; omega), Bi.atoi_digs (txt_ne n) (txt_dig n), txt_val]
  rfl

/-- the written record -/
def encB (n : Nat) (r : Bs) : Bs := 119 :: (txt n ++ 32 :: (txt r.length ++ 32 :: (hexN 8 (crc (txt n ++ 32 :: r)) ++ 10 :: r)))
/-- the written record, or nothing -/
def enc (n : Int) (r : Bs) : Bs := if n < 0 ∨ (lim : Int) < n ∨ 65000 < r.length then [] else encB n.toNat r

/-- s is the written record with number n and record r -/
structure IsRec (s : Bs) (n : Nat) (r : Bs) : Prop where
  n_le : n ≤ lim
  r_le : r.length ≤ 65000
  eq : s = encB n r

theorem encB_len {n : Nat} {r : Bs} (h : n ≤ lim) (h2 : r.length ≤ 65000) : (encB n r).length ≤ 65100 := by
  unfold encB
  have h1 := txt_len h
  have h3 : (txt r.length).length ≤ 13 := txt_len (by unfold lim; omega)
  simp [hexN_length]
  omega

theorem encB_ne (n : Nat) (r : Bs) : encB n r ≠ [] := by simp [encB]

theorem enc_rec {n : Int} {r : Bs} (h : enc n r ≠ []) : IsRec (enc n r) n.toNat r ∧ 0 ≤ n := by
  unfold enc at h ⊢
  split at h
  · exact absurd rfl h
  · rename_i hc
    rw [if_neg hc]
    exact ⟨⟨by unfold lim at *; omega, by omega, rfl⟩, by omega⟩

theorem enc_of {n : Nat} {r : Bs} (h : n ≤ lim) (h2 : r.length ≤ 65000) : enc (n : Int) r = encB n r := by
  unfold enc; rw [if_neg (by omega), Int.toNat_natCast]

theorem IsRec.enc {s : Bs} {n : Nat} {r : Bs} (h : IsRec s n r) : Wl.enc (n : Int) r = s := by rw [enc_of h.n_le h.r_le, h.eq]

theorem enc_len (n : Int) (r : Bs) : (enc n r).length ≤ 65100 := by
  by_cases h : enc n r = []
  · rw [h]; simp
  · obtain ⟨h1, _⟩ := enc_rec h
    rw [h1.eq]; exact encB_len h1.n_le h1.r_le

theorem index_none {c : UInt8} {s : Bs} (h : c ∉ s) : Lib.index s [c] = -1 := by
  induction s with
  | nil => rfl
  | cons b l ih =>
    have hb : (c == b) = false := by
      rw [beq_eq_false_iff_ne]; rintro rfl; exact h (by simp)
    have hl : c ∉ l := fun hh => h (by simp [hh])
    simp [Lib.index, List.isPrefixOf, hb, ih hl]

theorem index_split {c : UInt8} {n d : Bs} (h : c ∉ n) : Lib.index (n ++ c :: d) [c] = n.length := by
  induction n with
  | nil => simp [Lib.index, List.isPrefixOf]
  | cons b l ih =>
    have hb : (c == b) = false := by
      rw [beq_eq_false_iff_ne]; rintro rfl; exact h (by simp)
    have hl : c ∉ l := fun hh => h (by simp [hh])
    have := ih hl
    simp only [List.cons_append, Lib.index, List.isPrefixOf, hb, Bool.false_and, this]
    rw [if_neg (by simp), if_neg (by simp), List.length_cons, Int.natCast_succ]

theorem cut_none {c : UInt8} {s : Bs} (h : c ∉ s) : Lib.cut s [c] = (s, [], false) := by
  unfold Lib.cut; rw [index_none h]; rfl

theorem cut_split {c : UInt8} {n d : Bs} (h : c ∉ n) : Lib.cut (n ++ c :: d) [c] = (n, d, true) := by
  unfold Lib.cut
  rw [index_split h, if_pos (by omega)]
  simp

theorem mem_cases (c : UInt8) (s : Bs) : c ∉ s ∨ ∃ n d, s = n ++ c :: d ∧ c ∉ n := by
  induction s with
  | nil => exact .inl (by simp)
  | cons b l ih =>
    by_cases hb : b = c
    · subst hb; exact .inr ⟨[], l, rfl, by simp⟩
    · rcases ih with h | ⟨n, d, rfl, hn⟩
      · exact .inl (by simp [h]; exact fun h => hb h.symm)
      · exact .inr ⟨b :: n, d, rfl, by simp [hn]; exact fun h => hb h.symm⟩

theorem split_inj {c : UInt8} {n d n' d' : Bs} (h : n ++ c :: d = n' ++ c :: d') (hn : c ∉ n) (hn' : c ∉ n') : n = n' ∧ d = d' := by
  have h1 := cut_split (d := d) hn
  have h2 := cut_split (d := d') hn'
  rw [h, h2] at h1
  simp only [Prod.mk.injEq] at h1
  exact ⟨h1.1.symm, h1.2.1.symm⟩

/-- what stands ahead of the line feed -/
def headB (n : Nat) (r : Bs) : Bs := 119 :: (txt n ++ 32 :: (txt r.length ++ 32 :: hexN 8 (crc (txt n ++ 32 :: r))))

theorem encB_head (n : Nat) (r : Bs) : encB n r = headB n r ++ 10 :: r := by simp [encB, headB]

theorem headB_no (n : Nat) (r : Bs) : (10 : UInt8) ∉ headB n r := by
  unfold headB
  have h1 : (10 : UInt8) ∉ txt n := txt_no (by decide)
  have h2 : (10 : UInt8) ∉ txt r.length := txt_no (by decide)
  have h3 := hexN_plain 8 (crc (txt n ++ 32 :: r))
  simp [h1, h2, h3]

theorem IsRec.inj {s : Bs} {n n' : Nat} {r r' : Bs} (h : IsRec s n r) (h' : IsRec s n' r') : n = n' ∧ r = r' := by
  have e := h.eq.symm.trans h'.eq
  rw [encB_head, encB_head] at e
  obtain ⟨e1, e2⟩ := split_inj e (headB_no _ _) (headB_no _ _)
  subst e2
  unfold headB at e1
  simp only [List.cons.injEq, true_and] at e1
  exact ⟨txt_inj (split_inj e1 (txt_no (by decide)) (txt_no (by decide))).1, rfl⟩

open Classical in
/-- the number and the record of a written record -/
noncomputable def dec (s : Bs) : Option (Nat × Bs) := if h : ∃ p : Nat × Bs, IsRec s p.1 p.2 then some h.choose else none

theorem dec_some {s : Bs} {n : Nat} {r : Bs} : dec s = some (n, r) ↔ IsRec s n r := by
  unfold dec
  constructor
  · intro h
    split at h
    · rename_i hp
      have := hp.choose_spec
      simp only [Option.some.injEq] at h
      rw [h] at this
      exact this
    · cases h
  · intro h
    have hp : ∃ p : Nat × Bs, IsRec s p.1 p.2 := ⟨(n, r), h⟩
    rw [dif_pos hp]
    obtain ⟨h1, h2⟩ := hp.choose_spec.inj h
    exact congrArg some (Prod.ext h1 h2)

theorem dec_none {s : Bs} : dec s = none ↔ ∀ n r, ¬ IsRec s n r := by
  constructor
  · intro h n r hr
    rw [dec_some.2 hr] at h; cases h
  · intro h
    cases hd : dec s with
    | none => rfl
    | some p => exact absurd (dec_some.1 hd) (h p.1 p.2)

theorem dec_nil : dec [] = none := dec_none.2 fun n r h => by have := h.eq; simp [encB] at this

theorem dec_enc {n : Nat} {r : Bs} (h : n ≤ lim) (h2 : r.length ≤ 65000) : dec (enc (n : Int) r) = some (n, r) :=
  dec_some.2 ⟨h, h2, enc_of h h2⟩

/-- the first half of a written record is none -/
theorem dec_half {n : Nat} {r : Bs} : dec ((encB n r).take ((encB n r).length / 2)) = none := by
  refine dec_none.2 fun n' r' h => ?_
  have he := h.eq
  rw [encB_head n' r'] at he
  have h3 : 8 ≤ (headB n r).length := by unfold headB; simp [hexN_length]; omega
  have hlen : ((encB n r).take ((encB n r).length / 2)).length < (encB n r).length := by
    have : (encB n r).length = (headB n r).length + (r.length + 1) := by rw [encB_head]; simp
    rw [List.length_take]; omega
  have h1 := List.take_append_drop ((encB n r).length / 2) (encB n r)
  rw [he, List.append_assoc, List.cons_append] at h1
  obtain ⟨D, hD⟩ : ∃ D, D = (encB n r).drop ((encB n r).length / 2) := ⟨_, rfl⟩
  have hD2 : D.length = (encB n r).length - (encB n r).length / 2 := by rw [hD]; simp
  rw [← hD] at h1
  have hsp2 : headB n r ++ 10 :: r = headB n' r' ++ 10 :: (r' ++ D) := by rw [← encB_head, h1]
  obtain ⟨e1, e2⟩ := split_inj hsp2 (headB_no _ _) (headB_no _ _)
  unfold headB at e1
  simp only [List.cons.injEq, true_and] at e1
  obtain ⟨e3, e4⟩ := split_inj e1 (txt_no (by decide)) (txt_no (by decide))
  obtain ⟨e5, e6⟩ := split_inj e4 (txt_no (by decide)) (txt_no (by decide))
  have e7 := txt_inj e5
  have e8 := congrArg List.length e2
  rw [List.length_append] at e8
  omega

/-- the program's way to the parts of a written record -/
theorem IsRec.parts {s : Bs} {n : Nat} {r : Bs} (h : IsRec s n r) : Lib.cut s [10] = (headB n r, r, true) ∧
    Lib.cut (Lib.trimPrefix (headB n r) [119]) [32] = (txt n, txt r.length ++ 32 :: hexN 8 (crc (txt n ++ 32 :: r)), true) := by
  constructor
  · rw [h.eq, encB_head]; exact cut_split (headB_no _ _)
  · have : Lib.trimPrefix (headB n r) [119] = txt n ++ 32 :: (txt r.length ++ 32 :: hexN 8 (crc (txt n ++ 32 :: r))) := by
      unfold headB Lib.trimPrefix
      rw [if_pos (by simp [Lib.hasPrefix])]
      rfl
    rw [this]
    exact cut_split (txt_no (by decide))

/-- where something is none: no way leads to its own writing -/
theorem dec_none_ne {s : Bs} (h : dec s = none) (h0 : s ≠ []) (n : Int) (r : Bs) : s ≠ enc n r := by
  intro e
  have h1 : enc n r ≠ [] := e ▸ h0
  exact dec_none.1 h _ _ (e ▸ (enc_rec h1).1)

theorem cut_some_ne {s a b : Bs} {c : UInt8} (h : Lib.cut s [c] = (a, b, true)) : s ≠ [] := by
  rintro rfl
  rw [cut_none (by simp)] at h
  simp at h

/-- a number in decimal digits -/
def num (t : Bs) : Option Nat := if Bi.decVal t ≤ lim ∧ txt (Bi.decVal t) = t then some (Bi.decVal t) else none

theorem num_some {t : Bs} {n : Nat} : num t = some n ↔ n ≤ lim ∧ txt n = t := by
  unfold num
  constructor
  · intro h
    split at h
    · rename_i hc
      simp only [Option.some.injEq] at h
      rw [h] at hc; exact hc
    · cases h
  · rintro ⟨h1, rfl⟩
    rw [txt_val, if_pos ⟨h1, rfl⟩]

theorem num_none {t : Bs} : num t = none ↔ ∀ n, n ≤ lim → txt n ≠ t := by
  constructor
  · intro h n hn e
    rw [num_some.2 ⟨hn, e⟩] at h; cases h
  · intro h
    cases hd : num t with
    | none => rfl
    | some p => exact absurd (num_some.1 hd).2 (h p (num_some.1 hd).1)

/-- of bytes: the place of a byte, or -1 -/
theorem mem_take_succ {s : Bs} {c : UInt8} {k : Nat} (h : k < s.length) (h1 : c ∉ s.take k) (h2 : s[k] ≠ c) : c ∉ s.take (k + 1) := by
  rw [List.take_succ_eq_append_getElem h]
  simp only [List.mem_append, List.mem_singleton, not_or]
  exact ⟨h1, fun e => h2 e.symm⟩

end Wl
