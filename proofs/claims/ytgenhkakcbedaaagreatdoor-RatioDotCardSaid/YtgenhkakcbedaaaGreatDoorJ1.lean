import Derived.Test.YtgenhkakcbedaaaGreatDoorI8
import Derived.Test.YtgenhkakcbedaaaGreatDoorI9
import Derived.Test.YtgenhkakcbedaaaGreatDoorShelfB
import Derived.Lib.AtoiErrMem
/-! the digits of an integer, limb by limb, plain -/
namespace Bi
open Go.Lib (decDigits nDigits)

/-- the last k digits of x -/
def lastD : Nat → Nat → List UInt8
  | 0, _ => []
  | k + 1, x => lastD k (x / 10) ++ [UInt8.ofNat (48 + x % 10)]

theorem lastD_length : ∀ (k x : Nat), (lastD k x).length = k
  | 0, _ => rfl
  | k + 1, x => by simp [lastD, lastD_length k]

theorem dec_split : ∀ (k n x : Nat), 0 < n → x < 10 ^ k → decDigits (n * 10 ^ k + x) = decDigits n ++ lastD k x
  | 0, n, x, _, h => by
    have : x = 0 := by simpa using h
    subst this
    simp [lastD]
  | k + 1, n, x, hn, h => by
    have h1 : 10 ≤ n * 10 ^ (k + 1) := by
      have h2 : 1 ≤ 10 ^ k := Nat.one_le_pow _ _ (by decide)
      have h3 : 1 * 10 ≤ n * 10 ^ (k + 1) := Nat.mul_le_mul hn (by rw [Nat.pow_succ]; omega)
      omega
    rw [decDigits, dif_neg (by omega)]
    have e1 : (n * 10 ^ (k + 1) + x) / 10 = n * 10 ^ k + x / 10 := by
      rw [Nat.pow_succ, ← Nat.mul_assoc]
      omega
    have e2 : (n * 10 ^ (k + 1) + x) % 10 = x % 10 := by
      rw [Nat.pow_succ, ← Nat.mul_assoc]
      omega
    rw [e1, e2, dec_split k n (x / 10) hn (by rw [Nat.pow_succ] at h; omega), List.append_assoc]
    rfl

theorem lastD_zero : ∀ (k : Nat), lastD k 0 = List.replicate k 48
  | 0 => rfl
  | k + 1 => by
    rw [lastD, Nat.zero_div, lastD_zero k, List.replicate_succ']
    rfl

theorem lastD_dec : ∀ (k x : Nat), 1 ≤ k → x < 10 ^ k → List.replicate (k - nDigits x) 48 ++ decDigits x = lastD k x
  | 0, _, h, _ => by omega
  | k + 1, x, _, h => by
    by_cases hx : x < 10
    · rw [Go.Lib.nDigits_small hx, Go.Lib.decDigits_one hx, Nat.add_sub_cancel, lastD, Nat.div_eq_of_lt hx, lastD_zero, Nat.mod_eq_of_lt hx]
    · have hk : 1 ≤ k := by
        apply Nat.le_of_not_lt; intro h0
        have : k = 0 := by omega
        subst this
        simp at h; omega
      rw [Go.Lib.nDigits_big hx, decDigits, dif_neg hx, Nat.add_sub_add_right, ← List.append_assoc, lastD_dec k (x / 10) hk (by rw [Nat.pow_succ] at h; omega)]
      rfl

theorem lastD_front : ∀ (k x : Nat), lastD (k + 1) x = UInt8.ofNat (48 + x / 10 ^ k % 10) :: lastD k x
  | 0, x => by simp [lastD]
  | k + 1, x => by
    rw [lastD, lastD_front k (x / 10)]
    have : x / 10 / 10 ^ k = x / 10 ^ (k + 1) := by rw [Nat.div_div_eq_div_mul, Nat.pow_succ, Nat.mul_comm]
    rw [this, List.cons_append]
    rfl

theorem lastD_cat : ∀ (b a x y : Nat), x < 10 ^ b → lastD (a + b) (y * 10 ^ b + x) = lastD a y ++ lastD b x
  | 0, a, x, y, h => by
    have : x = 0 := by simpa using h
    subst this
    simp [lastD]
  | b + 1, a, x, y, h => by
    have e1 : (y * 10 ^ (b + 1) + x) / 10 = y * 10 ^ b + x / 10 := by
      rw [Nat.pow_succ, ← Nat.mul_assoc]; omega
    have e2 : (y * 10 ^ (b + 1) + x) % 10 = x % 10 := by
      rw [Nat.pow_succ, ← Nat.mul_assoc]; omega
    show lastD (a + b + 1) _ = _
    rw [lastD, e1, e2, lastD_cat b a (x / 10) y (by rw [Nat.pow_succ] at h; omega), List.append_assoc]
    rfl

/-- the digits are the last k where the number has k digits -/
theorem dec_last {k x : Nat} (h1 : x / 10 ^ k = 0) (h2 : k = 0 → x = 0) (h3 : k ≠ 0 → x / 10 ^ (k - 1) ≠ 0) (hx : x ≠ 0) : decDigits x = lastD k x := by
  have hk : 1 ≤ k := by
    apply Nat.le_of_not_lt; intro h
    exact hx (h2 (by omega))
  have hlt : x < 10 ^ k := by
    have := (Nat.div_eq_zero_iff_lt (Nat.pow_pos (by decide) : 0 < 10 ^ k)).1 h1
    exact this
  have hge : 10 ^ (k - 1) ≤ x := by
    apply Nat.le_of_not_lt; intro h
    exact h3 (by omega) (Nat.div_eq_of_lt h)
  obtain ⟨j, rfl⟩ : ∃ j, k = j + 1 := ⟨k - 1, by omega⟩
  have hn := Go.Lib.nDigits_unique j x (by simpa using hge) hlt
  rw [← lastD_dec (j + 1) x (by omega) hlt, hn]
  simp

/-- from the top: one limb more -/
theorem dec_limb {n x : Nat} (hn : 0 < n) (hx : x < 1000000000) : decDigits (x + 1000000000 * n) = decDigits n ++ (List.replicate (9 - nDigits x) 48 ++ decDigits x) := by
  rw [lastD_dec 9 x (by omega) (by simpa using hx), ← dec_split 9 n x hn (by simpa using hx)]
  congr 1
  omega

/-- from below: one limb more -/
theorem low_limb {k v x : Nat} (hv : v < 1000000000 ^ k) : lastD 9 x ++ lastD (9 * k) v = lastD (9 * (k + 1)) (v + 1000000000 ^ k * x) := by
  rw [pow9] at hv ⊢
  rw [show 9 * (k + 1) = 9 + 9 * k by omega, ← lastD_cat (9 * k) 9 v x hv]
  congr 1
  rw [Nat.mul_comm, Nat.add_comm]

theorem dec_low {k v x : Nat} (hv : v < 1000000000 ^ k) (hx : 0 < x) : decDigits x ++ lastD (9 * k) v = decDigits (v + 1000000000 ^ k * x) := by
  rw [pow9] at hv ⊢
  rw [← dec_split (9 * k) x v hx hv]
  congr 1
  rw [Nat.mul_comm, Nat.add_comm]

theorem drop_cons {L : List Nat} {i x : Nat} (hi : i < L.length) (hx : L.getD i 0 = x) : val (L.drop i) = x + 1000000000 * val (L.drop (i + 1)) := by
  rw [List.drop_eq_getElem_cons hi]
  rw [List.getD_eq_getElem?_getD, List.getElem?_eq_getElem hi] at hx
  simp only [Option.getD_some] at hx
  rw [hx]
  simp [val]

theorem drop_pos {n : Nat} {L : List Nat} (h : L = limbs n) {j : Nat} (hj : j < L.length) : 0 < val (L.drop j) := by
  rcases List.eq_nil_or_concat L with h0 | ⟨r, x, h0⟩
  · subst h0; simp at hj
  · rw [List.concat_eq_append] at h0
    subst h0
    obtain ⟨_, hx, _⟩ := dlen_limbs h
    rw [List.drop_append_of_le_length (by simp at hj; omega), val_snoc]
    have : 0 < 1000000000 ^ (r.drop j).length * x := Nat.mul_pos (Nat.pow_pos (by decide)) (by omega)
    omega

/-- the digits of the limbs from j on -/
def outT (L : List Nat) (j : Nat) : List UInt8 := if j < L.length then decDigits (val (L.drop j)) else []

theorem outT_len {L : List Nat} (h : val L < Big) (j : Nat) : (outT L j).length ≤ 300 := by
  unfold outT
  split
  · rw [Go.Lib.decDigits_length]
    have h1 : val (L.drop j) ≤ val L := by
      clear h
      induction j generalizing L with
      | zero => simp
      | succ i ih =>
        cases L with
        | nil => simp
        | cons x r =>
          have := ih (L := r) (by rename_i h; simpa using h)
          simp only [List.drop_succ_cons, val]
          omega
    by_cases h0 : val (L.drop j) = 0
    · rw [h0, Go.Lib.nDigits_small (by decide)]; decide
    · have h3 : ∀ a k : Nat, k = a + a → 10 ^ a * 10 ^ a = 10 ^ k := fun a k hk => by rw [hk, Nat.pow_add]
      obtain ⟨k, hk⟩ : ∃ k : Nat, k = 300 := ⟨_, rfl⟩
      rw [← hk]
      exact (nd_le h0).2 (Nat.lt_of_le_of_lt h1 (Nat.lt_of_lt_of_eq h (h3 150 k (by omega))))
  · simp

theorem outT_last {L : List Nat} {j z : Nat} (hj : j + 1 = L.length) (hz : L.getD j 0 = z) : outT L j = outT L (j + 1) ++ decDigits z := by
  unfold outT
  rw [if_pos (by omega), if_neg (by omega), drop_cons (by omega) hz, List.drop_eq_nil_of_le (by omega)]
  simp [val]

theorem outT_step {n : Nat} {L : List Nat} (h : L = limbs n) {j z : Nat} (hj : j + 1 < L.length) (hz : L.getD j 0 = z) (hz9 : z < 1000000000) : outT L j = outT L (j + 1) ++ (List.replicate (9 - nDigits z) 48 ++ decDigits z) := by
  unfold outT
  rw [if_pos (by omega), if_pos hj, drop_cons (by omega) hz, dec_limb (drop_pos h hj) hz9]

/-- what the reference has written before limb i -/
def refT (L : List Nat) (i : Nat) : List UInt8 := if i < L.length then lastD (9 * i) (val (L.take i)) else decDigits (val L)

theorem take_val {L : List Nat} {i z : Nat} (hi : i < L.length) (hz : L.getD i 0 = z) : val (L.take (i + 1)) = val (L.take i) + 1000000000 ^ i * z := by
  rw [List.getD_eq_getElem?_getD, List.getElem?_eq_getElem hi] at hz
  simp only [Option.getD_some] at hz
  rw [List.take_succ_eq_append_getElem hi, val_snoc, hz, List.length_take, Nat.min_eq_left (by omega)]

theorem take_lt {L : List Nat} (ho : Ok L) {i : Nat} (hi : i ≤ L.length) : val (L.take i) < 1000000000 ^ i := by
  have h : Ok (L.take i) := fun x hx => ho x (List.mem_of_mem_take hx)
  have := val_lt h
  rw [List.length_take, Nat.min_eq_left hi] at this
  exact this

theorem refT_step {L : List Nat} (ho : Ok L) {i z : Nat} (hi : i + 1 < L.length) (hz : L.getD i 0 = z) : lastD 9 z ++ refT L i = refT L (i + 1) := by
  unfold refT
  rw [if_pos (by omega), if_pos hi, low_limb (take_lt ho (by omega)), take_val (by omega) hz]

theorem refT_last {n : Nat} {L : List Nat} (h : L = limbs n) (ho : Ok L) {i z k : Nat} (hi : i + 1 = L.length) (hz : L.getD i 0 = z) (h1 : z / 10 ^ k = 0) (h3 : k = 0 ∨ z / 10 ^ (k - 1) ≠ 0) : lastD k z ++ refT L i = refT L (i + 1) := by
  have hz0 : z ≠ 0 := by
    have h2 := drop_pos h (j := i) (by omega)
    rw [drop_cons (by omega) hz, List.drop_eq_nil_of_le (by omega)] at h2
    simp [val] at h2
    omega
  have hk : k = 0 → z = 0 := by
    rintro rfl
    simpa using h1
  unfold refT
  rw [if_pos (by omega), if_neg (by omega), ← dec_last h1 hk (fun hk0 => by rcases h3 with h3 | h3; exact absurd h3 hk0; exact h3) hz0, dec_low (take_lt ho (by omega)) (by omega), ← take_val (by omega) hz, hi, List.take_length]

end Bi

namespace Go.Proofs.YtgenhkakcbedaaaGreatDoor
open Go.RowKit

theorem builder_kept {T e : TypeId} {B b : Nat} {p : Value} {bs : List Value} {w w' : World} (h : Lib.BuilderAtF T e B b p bs w) (hb : Below w.heap.size w w') : Lib.BuilderAtF T e B b p bs w' := by
  have hlt := h.lt
  obtain ⟨hB, v, hbk, hown, hne⟩ := h
  refine ⟨hB, v, by rw [hb.block b hlt]; exact hbk, ?_, hne⟩
  obtain ⟨h1, h2⟩ := hown
  refine ⟨h1, h2.imp id ?_⟩
  rintro ⟨g, cap, cur, fz, hv, hg, hh, r⟩
  have : g < w.heap.size := by
    by_cases hb : g < w.heap.size
    · exact hb
    · rw [Array.getElem?_eq_none (by omega)] at hh; simp at hh
  exact ⟨g, cap, cur, fz, hv, hg, by rw [hb.block g this]; exact hh, r⟩

theorem isBuilder_kept {T e : TypeId} {B b : Nat} {bs : List Value} {w w' : World} (h : Lib.IsBuilderF T e B b bs w) (hb : Below w.heap.size w w') : Lib.IsBuilderF T e B b bs w' :=
  h.imp (fun h => builder_kept h hb) (fun h => builder_kept h hb)

theorem byteCells_append (a b : List UInt8) : Lib.byteCells (a ++ b) = Lib.byteCells a ++ Lib.byteCells b := by simp [Lib.byteCells]

theorem repeat_zero (c : Nat) : Lib.repeatL [48] c = List.replicate c 48 := by
  induction c with
  | zero => rfl
  | succ c ih => simp [Lib.repeatL, ih, List.replicate_succ]

theorem itoa_nat (x : Nat) : Lib.itoa (x : Int) = Lib.decDigits x := by
  unfold Lib.itoa
  rw [if_neg (by omega), Int.toNat_natCast]

theorem repeat0 (c : Nat) (C : Int) (hC : C = (c : Int)) (hc : c ≤ 1000) (w : World) :
    Calls Tryz.prog 73 #[.string ⟨#[48]⟩, .int .i64 C] w fun e w' => e = .returned (.string ⟨(List.replicate c 48).toArray⟩) ∧ Below w.heap.size w w' := by
  subst hC
  have := Tryz.strings_Repeat ⟨#[48]⟩ c w (by omega) (by show 1 * c ≤ _; omega)
  rw [show (⟨#[48]⟩ : ByteArray).data.toList = [48] from rfl, repeat_zero] at this
  exact this

theorem write_any (B : Nat) (cur s : List UInt8) (w : World) (h : Lib.IsBuilderF 108 5 B B (Lib.byteCells cur) w) (hc : cur.length ≤ 100000) (hs : s.length ≤ 100000) (hB : B ≤ w.heap.size) :
    Calls Tryz.prog 91 #[.pointer (some ⟨B, 0, none⟩), .string ⟨s.toArray⟩] w fun e w' => e = .returned (.tuple #[.int .i64 s.length, .nilIface]) ∧ Lib.IsBuilderF 108 5 B B (Lib.byteCells (cur ++ s)) w' ∧ Below B w w' := by
  have hsz : (⟨s.toArray⟩ : ByteArray).size = s.length := rfl
  refine (Tryz.Builder_WriteString_k B B (Lib.byteCells cur) ⟨s.toArray⟩ w h (by rw [Lib.byteCells_length, hsz]; omega) hB).mono ?_
  rintro e w' ⟨he, hb, hw, _⟩
  rw [hsz] at he
  refine ⟨he, .inr ?_, hw⟩
  rw [byteCells_append]
  exact hb

set_option maxRecDepth 100000 in
set_option maxHeartbeats 1600000 in
theorem Format_any (a : Value) (x : Int) (w : World) (ha : IntV w a x) (hE : Env w) :
    Calls Tryz.prog 54 #[a] w fun e w' => e = .returned (.tuple #[.string ⟨(Lib.itoa x).toArray⟩, .int .i64 0]) ∧ Below w.heap.size w w' := by
  obtain ⟨n1, ao1, L1, c1, rfl, Hn1, HL1, HB1, hc1, hl1, hU1⟩ := id ha
  go_enter Tryz.func54, Tryz.ntmps54
  go_wp2_with fail
  have hbx := below_alloc w (.cells #[.bool n1, .slice ao1 L1.length c1] 24)
  have B1 := Box.new w (.bool n1) (.slice ao1 L1.length c1) 24
  have hsz : (w.alloc (.cells #[.bool n1, .slice ao1 L1.length c1] 24)).heap.size = w.heap.size + 1 := by simp
  have hUx := hU1.mono hbx
  have hEx := hE.mono hbx
  clear hU1 hE ha
  generalize w.alloc (.cells #[.bool n1, .slice ao1 L1.length c1] 24) = wx at *
  (with_reducible refine (check1 wx _ hsz n1 ao1 L1 c1 hUx ?_ hEx).mono ?_)
  · omega
  rintro e w1 ⟨⟨r, HR, HR2, rfl⟩, hb1⟩
  obtain rfl : r = 0 := HR.out.2 (validP_of x n1 L1 Hn1.out HL1.out HB1.out)
  clear HR HR2 hsz
  have B1 := B1.mono hb1
  have hU1 := hUx.mono hb1
  have hE1 := hEx.mono hb1
  have hbw := Below.step hbx hb1 (Nat.le_refl _)
  clear hUx hEx hbx hb1
  have hlt := B1.lt
  have Hit : Hid (Lib.itoa x = (if n1 = true then [45] else []) ++ Lib.decDigits x.natAbs) := Lib.hid (by
    unfold Lib.itoa
    rw [Hn1.out]
    by_cases h : x < 0
    · simp [h]
    · simp [h, show x.toNat = x.natAbs by omega])
  by_cases hL : L1 = []
  · subst hL
    have hx : x.natAbs = 0 := by
      have := congrArg Bi.val HL1.out
      rw [Bi.val_limbs] at this
      exact this.symm
    have hx0 : x = 0 := by omega
    subst hx0
    have hz : Hid (Lib.itoa 0 = [48]) := Lib.hid (by
      unfold Lib.itoa
      rw [if_neg (by decide), show Int.toNat 0 = 0 from rfl, Lib.decDigits_one (by decide)]
      rfl)
    obtain ⟨p0, p1, _, _⟩ := B1
    clear Hit hx hU1
    go_wp2
    go_ret2
    exact ⟨by rw [hz.out]; rfl, hbw⟩
  have hlen : 1 ≤ L1.length := by
    have := List.length_pos_iff.2 hL
    omega
  have HV : Hid (Bi.val L1 = x.natAbs) := Lib.hid (by rw [HL1.out, Bi.val_limbs])
  have HOK : Hid (Bi.Ok L1) := Lib.hid (by rw [HL1.out]; exact Bi.limbs_ok _)
  have HLen : Hid (∀ j, (Bi.outT L1 j).length ≤ 300) := Lib.hid (Bi.outT_len (by rw [HV.out]; exact HB1.out))
  clear hL
  obtain ⟨pre, hpre⟩ : ∃ pre : List UInt8, pre = if n1 = true then [45] else [] := ⟨_, rfl⟩
  have HPL : pre.length ≤ 1 := by rw [hpre]; split <;> simp
  rw [← hpre] at Hit
  have HPre := Lib.hid hpre
  clear hpre
  obtain ⟨p0, p1, _, _⟩ := id B1
  go_upto_region 7 with fail
  have HIB := Lib.IsBuilderF.of (Lib.fresh_isBuilder 108 5 w1)
  have hba := below_alloc w1 (.cells #[.pointer none, .slice none 0 0] 108)
  obtain ⟨B, hB⟩ : ∃ B, B = w1.heap.size := ⟨_, rfl⟩
  rw [← hB] at HIB ⊢
  have hBw : B ≤ (w1.alloc (.cells #[.pointer none, .slice none 0 0] 108)).heap.size := by rw [hB]; exact hba.size
  have hbB : Below B w1 (w1.alloc (.cells #[.pointer none, .slice none 0 0] 108)) := by rw [hB]; exact hba
  rw [← hB] at hlt
  have HS : Hid (∀ W, Below B w1 W → Env W ∧ U W ao1 L1 ∧ Box W w.heap.size (.bool n1) (.slice ao1 L1.length c1) ∧ B ≤ W.heap.size) := Lib.hid (fun W h => by
    have h' := h
    rw [hB] at h'
    exact ⟨hE1.mono h', hU1.mono h', B1.mono h', by rw [hB]; exact h'.size⟩)
  have hw1 := hbw
  clear hB
  generalize w1.alloc (.cells #[.pointer none, .slice none 0 0] 108) = w2 at *
  have B2 := B1.mono hba
  clear hE1 hU1 B1 hbw p0 p1 hba
  obtain ⟨p0, p1, _, _⟩ := id B2
  go_upto_if 19 with fail
  go_cut [] (fun wc => Lib.IsBuilderF 108 5 B B (Lib.byteCells pre) wc ∧ Below B w2 wc)
  case first =>
    have HP := HPre.out
    cases n1
    · simp only [Bool.false_eq_true, if_false] at HP
      have HP' := Lib.hid HP
      clear HP
      go_wp2_with fail
      go_meet
      exact ⟨by rw [HP'.out]; exact HIB, Below.refl _ _⟩
    · simp only [if_true] at HP
      have HP' := Lib.hid HP
      clear HP
      go_wp2_with fail
      (with_reducible refine (Tryz.Builder_WriteByte_k B B [] 45 _ HIB (by simp) hBw).mono ?_)
      rintro e w3 ⟨rfl, hbl, hb3, _⟩
      go_wp2_with fail
      go_meet
      exact ⟨by rw [HP'.out]; exact .inr hbl, hb3⟩
  case rest =>
    obtain ⟨HB0, hb3⟩ := hcut
    have hb2 := hbB.trans hb3
    clear hb3 hbB HIB hBw B2 p0 p1
    obtain ⟨hEc, hUc, hBc, hsc⟩ := HS.out wc hb2
    obtain ⟨p0, p1, _, _⟩ := hBc
    clear hEc hUc hsc
    go_wp2_with fail
    clear p0 p1
    go_loopw [6, 7] (fun s6 _ wr => ∃ i : Int, -1 ≤ i ∧ i < L1.length ∧ s6 = .int .i64 i ∧ Lib.IsBuilderF 108 5 B B (Lib.byteCells (pre ++ Bi.outT L1 (i + 1).toNat)) wr ∧ Below B w1 wr) (fun s6 _ _ => (intOf s6 + 1).toNat)
    case atStart =>
      refine ⟨(L1.length : Int) - 1, by omega, by omega, rfl, ?_, hb2⟩
      have h1 : ((L1.length : Int) - 1 + 1).toNat = L1.length := by omega
      rw [h1]
      unfold Bi.outT
      rw [if_neg (by omega), List.append_nil]
      exact HB0
    case round =>
      obtain ⟨i, hi1, hi2, rfl, HBi, hbr⟩ := hrel
      obtain ⟨hEr, hUr, hBr, hsr⟩ := HS.out wr hbr
      obtain ⟨p0, p1, _, _⟩ := hBr
      by_cases hi : i < 0
      · obtain rfl : i = -1 := by omega
        clear hEr hUr HB0 hb2
        go_wp2_with fail
        (with_reducible refine (Tryz.Builder_String_any_f B B (pre ++ Bi.outT L1 ((-1 : Int) + 1).toNat) _ HBi hsr).mono ?_)
        rintro e w4 ⟨rfl, _, hb4⟩
        have HR : Hid (pre ++ Bi.outT L1 ((-1 : Int) + 1).toNat = Lib.itoa x) := Lib.hid (by
          rw [Hit.out, show ((-1 : Int) + 1).toNat = 0 from rfl]
          unfold Bi.outT
          rw [if_pos (by omega), List.drop_zero, HV.out])
        have hfin := hw1.trans ((hbr.trans hb4).mono (Nat.le_of_lt hlt))
        clear HBi p0 p1
        go_wp2
        go_ret2
        exact ⟨by rw [← HR.out]; rfl, hfin⟩
      · obtain ⟨j, rfl⟩ : ∃ j : Nat, i = (j : Int) := ⟨i.toNat, by omega⟩
        obtain ⟨z, hz⟩ := get_some (l := L1) (k := j) (by omega)
        obtain ⟨b1, o1, rfl, hcz⟩ := hUr.at' hz
        have bz := HOK.out.at' hz
        have HZ := Lib.hid (Bi.getD_of hz)
        clear hz hUr HB0 hb2
        go_wp2_with fail
        (with_reducible refine (itoa_any (z : Int) (by omega) (by omega) _ hEr).mono ?_)
        rintro e w3 ⟨rfl, hb3⟩
        have HB3 := isBuilder_kept HBi hb3
        have hbr3 := hbr.trans (hb3.mono hsr)
        obtain ⟨hE3, _, hBr3, hs3⟩ := HS.out w3 hbr3
        clear HBi hb3 hbr hEr hsr p0 p1 hcz
        obtain ⟨p0, p1, _, _⟩ := hBr3
        have hjj : ((j : Int) + 1).toNat = j + 1 := by omega
        rw [hjj] at HB3
        have hl9 := Bi.nd_small bz
        have hlz := Go.Lib.decDigits_length z
        have HO := HLen.out (j + 1)
        obtain ⟨cur, hcur⟩ : ∃ cur, cur = Bi.outT L1 (j + 1) := ⟨_, rfl⟩
        rw [← hcur] at HB3 HO
        have hlc : (pre ++ cur).length ≤ 301 := by rw [List.length_append]; omega
        by_cases hj : j + 1 < L1.length
        · have hst := Bi.outT_step HL1.out hj HZ.out bz
          rw [itoa_nat]
          rw [← hlz, ← hcur] at hst
          generalize Lib.decDigits z = S at *
          have HST := Lib.hid hst
          have hS9 : S.length ≤ 9 := by omega
          have hc1 : (j : Int) < (L1.length : Int) - 1 := by omega
          clear hst hcur hlz hl9 hjj HO
          go_wp2_with fail
          (with_reducible refine (repeat0 (9 - S.length) _ (by omega) (by omega) w3).mono ?_)
          rintro e w4 ⟨rfl, hb4⟩
          have HB4 := isBuilder_kept HB3 hb4
          have hbr4 := hbr3.trans (hb4.mono hs3)
          have hs4 := (HS.out w4 hbr4).2.2.2
          clear HB3 hb4 hbr3 hs3 p0 p1 hE3
          have hzl : (List.replicate (9 - S.length) (48 : UInt8)).length ≤ 9 := by simp
          generalize List.replicate (9 - S.length) (48 : UInt8) = Z at *
          go_wp2_with fail
          (with_reducible refine (write_any B (pre ++ cur) Z w4 HB4 (by omega) (by omega) hs4).mono ?_)
          rintro e w5 ⟨rfl, HB5, hb5⟩
          have hbr5 := hbr4.trans hb5
          have hs5 := (HS.out w5 hbr5).2.2.2
          have hlc5 : (pre ++ cur ++ Z).length ≤ 310 := by rw [List.length_append]; omega
          clear HB4 hb5 hbr4 hs4
          go_wp2_with fail
          (with_reducible refine (write_any B (pre ++ cur ++ Z) S w5 HB5 (by omega) (by omega) hs5).mono ?_)
          rintro e w6 ⟨rfl, HB6, hb6⟩
          have hbr6 := hbr5.trans hb6
          clear HB5 hb6 hbr5 hs5
          go_wp2
          go_roundw
          case rel => exact ⟨(j : Int) - 1, by omega, by omega, rfl, by rw [show ((j : Int) - 1 + 1).toNat = j by omega, HST.out]; simpa [List.append_assoc] using HB6, hbr6⟩
          case measure => simp [intOf]
        · have hst := Bi.outT_last (show j + 1 = L1.length by omega) HZ.out
          rw [itoa_nat]
          rw [← hcur] at hst
          generalize Lib.decDigits z = S at *
          have HST := Lib.hid hst
          have hS9 : S.length ≤ 9 := by omega
          have hc1 : ¬ (j : Int) < (L1.length : Int) - 1 := by omega
          clear hst hcur hlz hl9 hjj HO
          go_wp2_with fail
          (with_reducible refine (write_any B (pre ++ cur) S w3 HB3 (by omega) (by omega) hs3).mono ?_)
          rintro e w6 ⟨rfl, HB6, hb6⟩
          have hbr6 := hbr3.trans hb6
          clear HB3 hb6 hbr3 hs3 p0 p1 hE3
          go_wp2
          go_roundw
          case rel => exact ⟨(j : Int) - 1, by omega, by omega, rfl, by rw [show ((j : Int) - 1 + 1).toNat = j by omega, HST.out]; simpa [List.append_assoc] using HB6, hbr6⟩
          case measure => simp [intOf]

end Go.Proofs.YtgenhkakcbedaaaGreatDoor

namespace Go.Proofs.YtgenhkakcbedaaaGreatDoor
open Go.RowKit

theorem enc_digit (y : Nat) : Utf8.encode (48 + (y : Int) % 10) = ⟨[UInt8.ofNat (48 + y % 10)].toArray⟩ := by
  have key : ∀ d : Nat, d < 10 → Utf8.encode (48 + (d : Int)) = ⟨[UInt8.ofNat (48 + d)].toArray⟩ := by
    intro d hd
    have h : d = 0 ∨ d = 1 ∨ d = 2 ∨ d = 3 ∨ d = 4 ∨ d = 5 ∨ d = 6 ∨ d = 7 ∨ d = 8 ∨ d = 9 := by omega
    rcases h with rfl | rfl | rfl | rfl | rfl | rfl | rfl | rfl | rfl | rfl <;> rfl
  have := key (y % 10) (Nat.mod_lt _ (by decide))
  rw [Int.natCast_emod] at this
  exact this

theorem ba_cat (a b : List UInt8) : (⟨a.toArray⟩ : ByteArray) ++ ⟨b.toArray⟩ = ⟨(a ++ b).toArray⟩ := by
  apply ByteArray.ext
  simp

theorem fmt_rel {z k y : Nat} {low : List UInt8} (HY : y = z / 10 ^ k) : Value.string (Utf8.encode (48 + (y : Int) % 10) ++ ⟨(Bi.lastD k z ++ low).toArray⟩) = Value.string ⟨(Bi.lastD (k + 1) z ++ low).toArray⟩ := by
  rw [enc_digit, ba_cat, Bi.lastD_front, ← HY]
  rfl

theorem cat_small {y z k i : Nat} {L : List Nat} (hk : k ≤ 9) (hi : i < L.length) (hl : L.length ≤ 34) : (Utf8.encode (48 + (y : Int) % 10)).size + ((Bi.lastD k z).length + (Bi.refT L i).length) ≤ 1000 := by
  have hs1 : (Utf8.encode (48 + (y : Int) % 10)).size ≤ 1 := by
    rw [enc_digit]; exact Nat.le_refl 1
  have hs2 : (Bi.lastD k z).length ≤ 9 := by rw [Bi.lastD_length]; omega
  have hs3 : (Bi.refT L i).length ≤ 306 := by unfold Bi.refT; rw [if_pos hi, Bi.lastD_length]; omega
  omega

set_option maxRecDepth 100000 in
set_option maxHeartbeats 1600000 in
theorem rFormat_any (a : Value) (x : Int) (w : World) (ha : IntV w a x) :
    Calls Tryz.prog 68 #[a] w fun e w' => e = .returned (.string ⟨(Lib.itoa x).toArray⟩) ∧ Below w.heap.size w w' := by
  obtain ⟨n1, ao1, L1, c1, rfl, Hn1, HL1, HB1, hc1, hl1, hU1⟩ := id ha
  go_enter Tryz.func68, Tryz.ntmps68
  have hbw := below_alloc w (.cells #[.bool n1, .slice ao1 L1.length c1] 24)
  have B1 := Box.new w (.bool n1) (.slice ao1 L1.length c1) 24
  have hU := hU1.mono hbw
  clear hU1 ha
  have Hit : Hid (Lib.itoa x = (if n1 = true then [45] else []) ++ Lib.decDigits x.natAbs) := Lib.hid (by
    unfold Lib.itoa
    rw [Hn1.out]
    by_cases h : x < 0
    · simp [h]
    · simp [h, show x.toNat = x.natAbs by omega])
  obtain ⟨p0, p1, _, _⟩ := id B1
  by_cases hL : L1 = []
  · subst hL
    have hx : x.natAbs = 0 := by
      have := congrArg Bi.val HL1.out
      rw [Bi.val_limbs] at this
      exact this.symm
    have hx0 : x = 0 := by omega
    subst hx0
    have hz : Hid (Lib.itoa 0 = [48]) := Lib.hid (by
      unfold Lib.itoa
      rw [if_neg (by decide), show Int.toNat 0 = 0 from rfl, Lib.decDigits_one (by decide)]
      rfl)
    clear Hit hx hU
    go_wp2
    go_ret
    exact ⟨by rw [hz.out]; rfl, hbw⟩
  have hlen : 1 ≤ L1.length := by
    have := List.length_pos_iff.2 hL
    omega
  have HV : Hid (Bi.val L1 = x.natAbs) := Lib.hid (by rw [HL1.out, Bi.val_limbs])
  have HOK : Hid (Bi.Ok L1) := Lib.hid (by rw [HL1.out]; exact Bi.limbs_ok _)
  clear hL
  go_upto_region 3 with fail
  generalize w.alloc (.cells #[.bool n1, .slice ao1 L1.length c1] 24) = w1 at *
  go_wp2_with fail
  go_loop [3, 4, 5, 6] (fun s3 s4 _ _ => ∃ i : Nat, i ≤ L1.length ∧ s4 = .int .i64 i ∧ s3 = .string ⟨(Bi.refT L1 i).toArray⟩) (fun _ s4 _ _ => L1.length - (intOf s4).toNat)
  case atStart =>
    refine ⟨0, by omega, rfl, ?_⟩
    unfold Bi.refT
    rw [if_pos (by omega)]
    rfl
  case round =>
    obtain ⟨i, hi, rfl, rfl⟩ := hrel
    by_cases hlt : i < L1.length
    · obtain ⟨z, hz⟩ := get_some (l := L1) (k := i) (by omega)
      obtain ⟨b1, o1, rfl, hcz⟩ := hU.at' hz
      have bz := HOK.out.at' hz
      have HZ := Lib.hid (Bi.getD_of hz)
      have HBZ := Lib.hid bz
      clear hz bz
      go_wp2_with fail
      clear hcz
      go_loop [3, 5, 6] (fun s3 s5 s6 => ∃ k y : Nat, k ≤ 9 ∧ y < 1000000000 ∧ s6 = .int .i64 k ∧ s5 = .int .u32 y ∧ s3 = .string ⟨(Bi.lastD k z ++ Bi.refT L1 i).toArray⟩ ∧ Hid (y = z / 10 ^ k) ∧ Hid (i + 1 = L1.length → k = 0 ∨ z / 10 ^ (k - 1) ≠ 0)) (fun _ _ s6 => (9 - intOf s6).toNat)
      case atStart => exact ⟨0, z, by omega, by have := HBZ.out; omega, rfl, rfl, rfl, Lib.hid (by simp), Lib.hid fun _ => .inl rfl⟩
      case round =>
        obtain ⟨k, y, hk, hy, rfl, rfl, rfl, HY, HK⟩ := hrel
        by_cases hgo : k < 9 ∧ (0 < y ∨ i + 1 < L1.length)
        · obtain ⟨hk9, hor⟩ := hgo
          have HOR := Lib.hid hor
          have hrel1 := fmt_rel (low := Bi.refT L1 i) HY.out
          have hy1 : ((y : Int) / 10) = ((y / 10 : Nat) : Int) := by omega
          have HR1 := Lib.hid hrel1
          have HY1 := Lib.hid hy1
          have HY2 : Hid (y / 10 = z / 10 ^ (k + 1)) := Lib.hid (by rw [HY.out, Nat.div_div_eq_div_mul, Nat.pow_succ])
          clear hrel1 hy1
          have hyc : (0 : Int) < (y : Int) ∨ (decide (0 < y) = false ∧ (i : Int) < (L1.length : Int) - 1) := by
            by_cases h : 0 < y
            · exact .inl (by omega)
            · exact .inr ⟨by simpa using h, by rcases hor with h' | h'; omega; omega⟩
          clear hor
          rcases hyc with hy0 | ⟨hy0, hi0⟩
          all_goals
            go_wp2
            · have := cat_small (y := y) (z := z) hk hlt hl1; omega
            · refine ⟨⟨k + 1, y / 10, by omega, by omega, by go_num, by rw [← HY1.out], HR1.out, HY2, Lib.hid fun hl => .inr (by rw [Nat.add_sub_cancel, ← HY.out]; have := HOR.out; omega)⟩, ?_⟩
              simp [intOf]; omega
        · have hend : Hid (Bi.lastD k z ++ Bi.refT L1 i = Bi.refT L1 (i + 1)) := Lib.hid (by
            by_cases hl : i + 1 < L1.length
            · obtain rfl : k = 9 := by omega
              exact Bi.refT_step HOK.out hl HZ.out
            · have hl' : i + 1 = L1.length := by omega
              refine Bi.refT_last HL1.out HOK.out hl' HZ.out ?_ (HK.out hl')
              by_cases hk9 : k < 9
              · have : y = 0 := by omega
                rw [← HY.out]; exact this
              · obtain rfl : k = 9 := by omega
                exact Nat.div_eq_of_lt HBZ.out)
          have hex : decide ((k : Int) < 9) = false ∨ ((k : Int) < 9 ∧ decide (0 < y) = false ∧ decide ((i : Int) < (L1.length : Int) - 1) = false) := by
            simp only [decide_eq_false_iff_not]; omega
          clear hgo HY HK
          rcases hex with hk9 | ⟨hk9, hy0, hi0⟩
          all_goals
            go_wp2
            refine ⟨⟨i + 1, by omega, by go_num, by rw [hend.out]⟩, ?_⟩
            simp [intOf]; omega
    · obtain rfl : i = L1.length := by omega
      have HF : Hid (Bi.refT L1 L1.length = Lib.decDigits x.natAbs) := Lib.hid (by
        unfold Bi.refT
        rw [if_neg (by omega), HV.out])
      have hs3 : (Bi.refT L1 L1.length).length ≤ 300 := by
        have := Bi.outT_len (L := L1) (by rw [HV.out]; exact HB1.out) 0
        unfold Bi.outT at this
        rw [if_pos (by omega), List.drop_zero, HV.out] at this
        rw [HF.out]
        exact this
      clear HL1 HB1 hU
      cases n1
      · go_wp2
        go_ret
        exact ⟨by rw [Hit.out, HF.out]; rfl, hbw⟩
      · go_wp2
        go_ret
        exact ⟨by rw [Hit.out, HF.out]; rfl, hbw⟩

end Go.Proofs.YtgenhkakcbedaaaGreatDoor

/-! texts and values of integers, plain -/
namespace Bi
open Go.Lib (decDigits nDigits itoa)

theorem digit_back {b : UInt8} (h : isDig b) : UInt8.ofNat (48 + (b.toNat - 48)) = b := by
  unfold isDig at h
  rw [show 48 + (b.toNat - 48) = b.toNat by omega]
  simp

theorem decVal_pos {t : List UInt8} (h : ∀ b ∈ t, isDig b) (h0 : t ≠ []) (h48 : t.head? ≠ some 48) : 0 < decVal t := by
  cases t with
  | nil => exact absurd rfl h0
  | cons b r =>
    have hb : isDig b := h b (by simp)
    unfold isDig at hb
    have : b.toNat ≠ 48 := by
      intro e
      apply h48
      simp only [List.head?_cons, Option.some.injEq]
      exact UInt8.toNat_inj.1 e
    rw [decVal]
    have h1 : 0 < 10 ^ r.length := Nat.pow_pos (by decide)
    have : 1 * 10 ^ r.length ≤ (b.toNat - 48) * 10 ^ r.length := Nat.mul_le_mul_right _ (by omega)
    omega

/-- the digits of the value are the text, where no zero stands ahead -/
theorem dec_text : ∀ (n : Nat) (t : List UInt8), t.length = n → (∀ b ∈ t, isDig b) → t ≠ [] → ¬ (t.head? = some 48 ∧ 1 < t.length) → decDigits (decVal t) = t := by
  intro n
  induction n with
  | zero => intro t hl _ h0 _; exact absurd (List.length_eq_zero_iff.1 hl) h0
  | succ n ih =>
    intro t hl h h0 hz
    rcases List.eq_nil_or_concat t with rfl | ⟨r, d, hr⟩
    · exact absurd rfl h0
    · rw [List.concat_eq_append] at hr
      subst hr
      have hd : isDig d := h d (by simp)
      have hdb := digit_back hd
      have hdr : isDig d := hd
      unfold isDig at hd
      have hv : decVal (r ++ [d]) = decVal r * 10 + (d.toNat - 48) := by rw [decVal_append]; simp [decVal]
      by_cases hr0 : r = []
      · subst hr0
        rw [hv]
        simp only [decVal, Nat.zero_mul, Nat.zero_add, List.nil_append]
        rw [Go.Lib.decDigits_one (by omega), hdb]
      · have hpos : 0 < decVal r := decVal_pos (fun b hb => h b (by simp [hb])) hr0 (fun e => hz ⟨by
          cases r with
          | nil => exact absurd rfl hr0
          | cons a r => simpa using e, by have := List.length_pos_iff.2 hr0; simp; omega⟩)
        rw [hv, decDigits, dif_neg (by omega), show (decVal r * 10 + (d.toNat - 48)) / 10 = decVal r by omega, show (decVal r * 10 + (d.toNat - 48)) % 10 = d.toNat - 48 by omega, hdb,
          ih r (by simpa using hl) (fun b hb => h b (by simp [hb])) hr0 (fun ⟨e, _⟩ => hz ⟨by
            cases r with
            | nil => exact absurd rfl hr0
            | cons a r => simpa using e, by have := List.length_pos_iff.2 hr0; simp; omega⟩)]

theorem dec_text_no {t : List UInt8} (h : ∀ b ∈ t, isDig b) (hz : t.head? = some 48 ∧ 1 < t.length) : decDigits (decVal t) ≠ t := by
  intro e
  obtain ⟨h1, h2⟩ := hz
  cases t with
  | nil => simp at h1
  | cons b r =>
    simp only [List.head?_cons, Option.some.injEq] at h1
    subst h1
    have hv : decVal (48 :: r) = decVal r := by rw [decVal, show (48 : UInt8).toNat - 48 = 0 from rfl, Nat.zero_mul, Nat.zero_add]
    have hlen := congrArg List.length e
    rw [Go.Lib.decDigits_length, hv] at hlen
    have hlt := decVal_lt r (fun b hb => h b (by simp [hb]))
    simp only [List.length_cons] at h2 hlen
    by_cases h0 : decVal r = 0
    · rw [h0, Go.Lib.nDigits_small (by decide)] at hlen; omega
    · have := (nd_le h0).2 hlt
      omega

def sgnT (neg : Bool) (v : Nat) : Int := if neg then -(v : Int) else v

/-- which texts are those of their value -/
theorem itoa_text {neg : Bool} {t : List UInt8} (h : ∀ b ∈ t, isDig b) (h0 : t ≠ []) :
    itoa (sgnT neg (decVal t)) = (if neg = true then [45] else []) ++ t ↔ ¬ (t.head? = some 48 ∧ (1 < t.length ∨ neg = true)) := by
  have hz0 : t.head? = some 48 → t.length = 1 → decVal t = 0 := by
    intro h1 h2
    cases t with
    | nil => simp at h1
    | cons b r =>
      simp only [List.head?_cons, Option.some.injEq] at h1
      subst h1
      have : r = [] := List.length_eq_zero_iff.1 (by simpa using h2)
      subst this
      rfl
  cases neg
  · simp only [sgnT, Bool.false_eq_true, if_false, List.nil_append, or_false]
    have e1 : itoa ((decVal t : Nat) : Int) = decDigits (decVal t) := by
      unfold itoa; rw [if_neg (by omega), Int.toNat_natCast]
    rw [e1]
    constructor
    · intro e hz
      exact dec_text_no h hz e
    · intro hz
      exact dec_text _ t rfl h h0 hz
  · simp only [sgnT, if_true, or_true, and_true]
    constructor
    · intro e h1
      by_cases hv : decVal t = 0
      · rw [hv] at e
        have : itoa (-((0 : Nat) : Int)) = [48] := by
          unfold itoa
          rw [if_neg (by decide), show (-((0 : Nat) : Int)).toNat = 0 from rfl, Go.Lib.decDigits_one (by decide)]
          rfl
        rw [this] at e
        simp at e
      · have e1 : itoa (-((decVal t : Nat) : Int)) = 45 :: decDigits (decVal t) := by
          unfold itoa; rw [if_pos (by omega), show (-((decVal t : Nat) : Int)).natAbs = decVal t by omega]
        rw [e1] at e
        simp only [List.singleton_append, List.cons.injEq, true_and] at e
        refine dec_text_no h ⟨h1, ?_⟩ e
        apply Nat.lt_of_not_le
        intro hle
        have := List.length_pos_iff.2 h0
        exact hv (hz0 h1 (by omega))
    · intro h1
      have hp := decVal_pos h h0 h1
      have e1 : itoa (-((decVal t : Nat) : Int)) = 45 :: decDigits (decVal t) := by
        unfold itoa; rw [if_pos (by omega), show (-((decVal t : Nat) : Int)).natAbs = decVal t by omega]
      rw [e1, dec_text _ t rfl h h0 (fun ⟨h2, _⟩ => h1 h2)]
      rfl

theorem chunk_snoc {t : List UInt8} {i a : Nat} {z : UInt8} (h : t[i]? = some z) (ha : a ≤ i) : (t.drop a).take (i + 1 - a) = (t.drop a).take (i - a) ++ [z] := by
  rw [show i + 1 - a = (i - a) + 1 by omega, List.take_add_one]
  congr 1
  rw [List.getElem?_drop, show a + (i - a) = i by omega, h]
  rfl

theorem val_snoc_dig {c : List UInt8} {z : UInt8} : decVal (c ++ [z]) = 10 * decVal c + (z.toNat - 48) := by
  rw [decVal_append]; simp [decVal]; omega

theorem chunk_small {c : List UInt8} (h : ∀ b ∈ c, isDig b) (hl : c.length ≤ 8) : decVal c < 100000000 := by
  have h1 := decVal_lt c h
  have h2 : 10 ^ c.length ≤ 10 ^ 8 := Nat.pow_le_pow_right (by omega) hl
  omega

/-- less than the base (behind a name: the walk meets no great numeral) -/
def Sm8 (x : Nat) : Prop := x < 100000000
end Bi

namespace Bi
theorem parse_step {t : List UInt8} {l : List Nat} {e a V : Nat} (ha : a = e - 9) (he : e ≤ t.length) (_he0 : 0 < e) (hI : val l + 1000000000 ^ l.length * decVal (t.take e) = V) :
    val (l ++ [decVal ((t.drop a).take (e - a))]) + 1000000000 ^ (l ++ [decVal ((t.drop a).take (e - a))]).length * decVal (t.take a) = V := by
  have h1 : t.take e = t.take a ++ (t.drop a).take (e - a) := by
    have : e = a + (e - a) := by omega
    rw [this, List.take_add, Nat.add_sub_cancel_left]
  have hl : ((t.drop a).take (e - a)).length = e - a := by simp; omega
  rw [h1, decVal_append, hl] at hI
  rw [val_snoc, List.length_append, List.length_singleton, Nat.pow_succ]
  rw [← hI, Nat.mul_add]
  by_cases h9 : 9 ≤ e
  · have : e - a = 9 := by omega
    rw [this]
    have h2 : 1000000000 ^ l.length * (decVal (t.take a) * 10 ^ 9) = 1000000000 ^ l.length * 1000000000 * decVal (t.take a) := by
      rw [Nat.mul_comm (decVal _), ← Nat.mul_assoc]
    rw [h2]; omega
  · have : a = 0 := by omega
    subst this
    simp [decVal]

theorem chunk_dig {t : List UInt8} (h : ∀ b ∈ t, isDig b) (a n : Nat) : ∀ b ∈ (t.drop a).take n, isDig b :=
  fun b hb => h b (List.mem_of_mem_drop (List.mem_of_mem_take hb))

theorem chunk_lt {t : List UInt8} (h : ∀ b ∈ t, isDig b) {a n : Nat} (hn : n ≤ 9) : decVal ((t.drop a).take n) < 1000000000 := by
  have h1 := decVal_lt _ (chunk_dig h a n)
  have h2 : 10 ^ ((t.drop a).take n).length ≤ 10 ^ 9 := Nat.pow_le_pow_right (by omega) (by simp; omega)
  omega

theorem chunk_lt' {c : List UInt8} (h : ∀ b ∈ c, isDig b) (hn : c.length ≤ 9) : decVal c < 1000000000 := by
  have h1 := decVal_lt _ h
  have h2 : 10 ^ c.length ≤ 10 ^ 9 := Nat.pow_le_pow_right (by omega) hn
  omega

/-- less than the base (behind a name: the walk meets no great numeral) -/
def Sm (x : Nat) : Prop := x < 1000000000

theorem dec_big {t : List UInt8} (h : ∀ b ∈ t, isDig b) (hl : t.length ≤ 300) : decVal t < Big := by
  have h1 := decVal_lt t h
  obtain ⟨k, hk⟩ : ∃ k : Nat, k = 300 := ⟨_, rfl⟩
  have h2 : 10 ^ t.length ≤ 10 ^ k := Nat.pow_le_pow_right (by omega) (by omega)
  have h3 : ∀ a k : Nat, k = a + a → 10 ^ a * 10 ^ a = 10 ^ k := fun a k hk => by rw [hk, Nat.pow_add]
  exact Nat.lt_of_lt_of_le h1 (Nat.le_trans h2 (Nat.le_of_eq (h3 150 k (by omega)).symm))
end Bi
namespace Go.Proofs.YtgenhkakcbedaaaGreatDoor
open Go.RowKit

set_option maxRecDepth 100000 in
set_option maxHeartbeats 1600000 in
theorem Parse_ok (s : List UInt8) (neg : Bool) (t : List UInt8) (hn : Hid (neg = Lib.hasPrefix s [45])) (ht : Hid (t = Lib.trimPrefix s [45])) (w : World) (hgood : Hid (Bi.textP neg t)) (hE : Env w) :
    Calls Tryz.prog 70 #[.string ⟨s.toArray⟩] w fun e w' => ResZ w' (sgn neg (Bi.decVal t)) e ∧ Below w.heap.size w w' := by
  have hg := hgood.out
  unfold Bi.textP at hg
  obtain ⟨ht0, ht3, htd, htz⟩ := hg
  have HD := Lib.hid htd
  have HZ := Lib.hid htz
  clear htd htz
  go_enter Tryz.func70, Tryz.ntmps70
  go_wp2_with fail
  (with_reducible refine (Tryz.strings_CutPrefix _ _ _).mono ?_)
  rintro e w1 ⟨rfl, rfl⟩
  rw [← ht.out, ← hn.out]
  have he : t.isEmpty = false := by simpa using ht0
  have hb3 : decide ((300 : Int) < (t.length : Int)) = false := by simp; omega
  go_wp2_with fail
  have B := Box.new w (.bool false) (.slice none 0 0) 24
  have hbx := below_alloc w (.cells #[.bool false, .slice none 0 0] 24)
  have hE := hE.mono hbx
  generalize w.alloc (.cells #[.bool false, .slice none 0 0] 24) = wx at *
  (with_reducible refine (trim_digs_any t wx ?_).mono ?_)
  · omega
  rintro e w1 ⟨rfl, hb1⟩
  rw [(Bi.trim_digs t).2 HD.out]
  have B := B.mono hb1
  have hE := hE.mono hb1
  have hbw := Below.step hbx hb1 (Nat.le_refl _)
  obtain ⟨c, r, rfl⟩ : ∃ c r, t = c :: r := by
    cases t with
    | nil => simp at he
    | cons c r => exact ⟨c, r, rfl⟩
  have HN : Hid (c = 48 → r = [] ∧ neg = false) := Lib.hid (by
    rintro rfl
    have h := HZ.out
    simp only [List.head?_cons, List.length_cons, true_and, not_or] at h
    exact ⟨List.length_eq_zero_iff.1 (by omega), by cases neg; rfl; exact absurd rfl h.2⟩)
  clear hb1 hbx HZ hgood hn ht
  have hcc : (((c.toNat : Int) == 48) = true ∧ r = [] ∧ neg = false) ∨ ((c.toNat : Int) == 48) = false := by
    by_cases h : c = 48
    · obtain ⟨h1, h2⟩ := HN.out h
      exact .inl ⟨by rw [h]; rfl, h1, h2⟩
    · refine .inr ?_
      rw [beq_eq_false_iff_ne]
      intro h'
      exact h (UInt8.toNat_inj.1 (show c.toNat = 48 by omega))
  clear HN
  have hr3 : (r.length : Int) + 1 ≤ 300 := by simp at ht3; omega
  clear he ht0 ht3 hb3
  obtain ⟨t, ht⟩ : ∃ t, t = c :: r := ⟨_, rfl⟩
  have HDt : Hid (∀ b ∈ t, Bi.isDig b) := Lib.hid (by rw [ht]; exact HD.out)
  have HS : Hid (sgn neg (Bi.decVal (c :: r)) = sgn neg (Bi.decVal t)) := Lib.hid (by rw [ht])
  have htl : (t.length : Int) = (r.length : Int) + 1 := by rw [ht]; simp
  have HTL := Lib.hid htl
  have htb1 : 1 ≤ t.length := by omega
  have htb2 : t.length ≤ 300 := by omega
  have HT := Lib.hid ht
  clear ht htl HD
  have hz0 : 0 < (⟨(c :: r).toArray⟩ : ByteArray).size := by show 0 < (c :: r).length; simp
  have hi0 : (⟨(c :: r).toArray⟩ : ByteArray)[0] = c := rfl
  rw [← hi0] at hcc
  clear hi0
  rcases hcc with ⟨hc48, rfl, rfl⟩ | hc48
  all_goals
    obtain ⟨p0, p1, q0, q1⟩ := id B
    go_wp2_with fail
    clear p0 p1 q0 q1
    go_loopw [6, 7, 8, 9] (fun s6 s7 _ _ wr => ∃ l : List Nat, s7 = .int .i64 ((t.length : Int) - 9 * (l.length : Int)) ∧ -9 < (t.length : Int) - 9 * (l.length : Int) ∧ OwnU wr w1.heap.size s6 l ∧ Hid (Bi.Ok l) ∧
      Hid (Bi.val l + 1000000000 ^ l.length * Bi.decVal (t.take (t.length - 9 * l.length)) = Bi.decVal t) ∧ Below w1.heap.size w1 wr) (fun _ s7 _ _ _ => (intOf s7).toNat)
    case atStart =>
      refine ⟨[], ?_, by simp; omega, OwnU.nil _ _, Lib.hid Bi.Ok.nil, Lib.hid (by rw [List.take_of_length_le (by simp)]; simp [Bi.val]), Below.refl _ _⟩
      have := HTL.out
      simp at this ⊢
      omega
    case round =>
      obtain ⟨l, rfl, hl9, hown, HO, HI, hbr⟩ := hrel
      obtain ⟨e, he⟩ : ∃ e : Int, e = (t.length : Int) - 9 * (l.length : Int) := ⟨_, rfl⟩
      rw [← he] at hl9 ⊢
      have HE := Lib.hid he
      clear he
      by_cases hpos : 0 < e
      · obtain ⟨n, rfl⟩ : ∃ n : Nat, e = (n : Int) := ⟨e.toNat, by omega⟩
        have hn := HE.out
        have htc := HTL.out
        have hn1 := hn
        rw [htc] at hn1
        have hn2 : (n : Int) ≤ 300 := by omega
        have hll : l.length ≤ 100 := by omega
        obtain ⟨a, ha⟩ : ∃ a : Nat, a = n - 9 := ⟨_, rfl⟩
        have hmx : max (0 : Int) ((n : Int) - 9) = (a : Int) := by omega
        have han : (a : Int) ≤ (n : Int) := by omega
        have hnr : (n : Int) ≤ (t.length : Int) := by omega
        have hnn : t.length - 9 * l.length = n := by omega
        have HNN := Lib.hid hnn
        have HA := Lib.hid ha
        have HLE := Lib.hid hnr
        rw [htc] at hnr
        have hne : (t.drop a).take (n - a) ≠ [] := by
          intro h
          have := congrArg List.length h
          simp at this
          omega
        obtain ⟨D, hD⟩ : ∃ D : Nat, D = Bi.decVal ((t.drop a).take (n - a)) := ⟨_, rfl⟩
        have hD9 : Bi.Sm D := by rw [hD]; exact Bi.chunk_lt HDt.out (a := a) (n := n - a) (by omega)
        have HAT : Hid (Lib.atoi ((t.drop a).take (n - a)) = some (D : Int)) := Lib.hid (by rw [hD]; exact Bi.atoi_digs hne (Bi.chunk_dig HDt.out a (n - a)))
        have HST := Bi.parse_step (t := t) (l := l) (e := n) (a := a) (V := Bi.decVal t) ha (by omega) (by omega) (by rw [← hnn]; exact HI.out)
        rw [← hD] at HST
        have HST := Lib.hid HST
        clear hn htc hn1 hnn ha hD hne HI
        try simp only [List.length_nil, Int.cast_ofNat_Int, Int.zero_add] at hnr
        clear hl9 htb1 htb2 hll
        go_wp2_with fail
        (with_reducible refine (Tryz.strconv_Atoi _ (D : Int) ?_ ?_ wr).mono ?_)
        · rw [ByteArray.size_extract]; have := HA.out; omega
        · rw [Lib.extract_data]
          have h := HAT.out
          rw [HT.out] at h
          exact h
        rintro e w3 ⟨rfl, tt, rfl⟩
        have hb3 := Lib.bytesWorld_below wr 5 tt
        generalize Lib.bytesWorld wr 5 tt = w3 at *
        have hown3 := hown.kept hb3 (Nat.le_refl _)
        have hbr3 := hbr.trans (hb3.mono hbr.size)
        have hll : l.length ≤ 1000000000000 := by have := HE.out; have := HTL.out; omega
        have HLL := Lib.hid hll
        have hwD : IntKind.u32.wrap (D : Int) = (D : Int) := IntWalk.u32_in _ (by have := hD9; unfold Bi.Sm at this; omega)
        clear hown hb3 hbr hll hmx hnr
        go_wp2_with (at_builtin; refine app_u32 _ (D : Int) D rfl rfl _ _ rfl w1 w1.heap.size _ l rfl hown3 hbr3.size hbr3 rfl HLL.out ?_; intro v' w' hown' hb')
        go_roundw
        case rel =>
          have h9 : t.length - 9 * (l ++ [D]).length = a := by have := HE.out; have := HA.out; simp; omega
          refine ⟨l ++ [D], ?_, ?_, hown', Lib.hid (HO.out.snoc hD9), Lib.hid (by rw [h9]; exact HST.out), hb'⟩
          · have := HE.out; simp; omega
          · have := HE.out; simp; omega
        case measure => simp [intOf]; omega
      · have hv : Hid (Bi.val l = Bi.decVal t) := Lib.hid (by
          have h := HI.out
          have hz : t.length - 9 * l.length = 0 := by have := HE.out; omega
          rw [hz] at h
          simpa [Bi.decVal] using h)
        obtain ⟨ao, cap, rfl, hcap, hU⟩ := hown.read
        have hll : l.length ≤ 1000 := by have := HE.out; have := HTL.out; omega
        have hEr := hE.mono hbr
        have Br := B.mono hbr
        have hbwr := Below.step hbw hbr (Nat.le_refl _)
        clear hown HI HE hl9
        go_wp2_with fail
        (with_reducible refine (result_any _ l ao cap _ (by omega) hcap hU HO hEr).mono ?_)
        rintro e2 w2 ⟨⟨ng, ao3, n3, cap3, k3, rfl, HR⟩, hb2⟩
        obtain ⟨p0, p1, q0, q1⟩ := Br.mono hb2
        go_wp2
        refine bodyPost_ret (v := .tuple #[.agg #[.bool ng, .slice ao3 n3 cap3], .int .i64 k3]) (by simp [results, Tryz.results70, go_sem, p0, p1]) rfl ⟨⟨ng, ao3, n3, cap3, k3, rfl, Lib.hid ?_⟩, ?_⟩
        · have := HR.out.put2 p0 p1 (.bool ng) (.slice ao3 n3 cap3)
          rw [hv.out] at this
          rw [HS.out]
          exact this
        · exact Below.put2 (Below.step hbwr hb2 (Nat.le_refl _)) (Nat.le_refl _) _ _

end Go.Proofs.YtgenhkakcbedaaaGreatDoor

namespace Go.Proofs.YtgenhkakcbedaaaGreatDoor
open Go.RowKit

/-- what the reference's 'Parse' answers -/
def RParse (w' : World) (neg : Bool) (t s : List UInt8) (e : Ending) : Prop :=
  ∃ (ng : Bool) (ao : Option Addr) (n cap : Nat) (k : Int), e = .returned (.tuple #[.agg #[.bool ng, .slice ao n cap], .int .i64 k]) ∧
    Hid (((∀ b ∈ t, Bi.isDig b) ∧ t ≠ [] ∧ t.length ≤ 300 ∧ Lib.itoa (sgn neg (Bi.decVal t)) = s ∧ IntV w' (.agg #[.bool ng, .slice ao n cap]) (sgn neg (Bi.decVal t)) ∧ k = 0) ∨
      (¬ ((∀ b ∈ t, Bi.isDig b) ∧ t ≠ [] ∧ t.length ≤ 300 ∧ Lib.itoa (sgn neg (Bi.decVal t)) = s) ∧ ng = false ∧ ao = none ∧ n = 0 ∧ cap = 0 ∧ k = 2))

theorem RParse.err {w' : World} {neg : Bool} {t s : List UInt8} (h : ¬ ((∀ b ∈ t, Bi.isDig b) ∧ t ≠ [] ∧ t.length ≤ 300 ∧ Lib.itoa (sgn neg (Bi.decVal t)) = s)) :
    RParse w' neg t s (.returned (.tuple #[.agg #[.bool false, .slice none 0 0], .int .i64 2])) :=
  ⟨false, none, 0, 0, 2, rfl, Lib.hid (.inr ⟨h, rfl, rfl, rfl, rfl, rfl⟩)⟩

def strLen : Value → Nat
  | .string b => b.size
  | _ => 0

set_option maxRecDepth 100000 in
set_option maxHeartbeats 1600000 in
theorem rParse_any (s : List UInt8) (neg : Bool) (t : List UInt8) (hs : s.length ≤ 1000000) (hn : Hid ((neg = true ∧ s = 45 :: t) ∨ (neg = false ∧ s = t ∧ t.head? ≠ some 45))) (w : World) :
    Calls Tryz.prog 71 #[.string ⟨s.toArray⟩] w fun e w' => RParse w' neg t s e ∧ Below w.heap.size w w' := by
  go_enter Tryz.func71, Tryz.ntmps71
  have B := Box.new w (.bool false) (.slice none 0 0) 24
  have hbx := below_alloc w (.cells #[.bool false, .slice none 0 0] 24)
  go_upto_region 2 with fail
  generalize w.alloc (.cells #[.bool false, .slice none 0 0] 24) = wx at *
  have hsz : s.length ≤ 1000001 := by omega
  go_cut [5] (fun s5 wc => s5 = .bool neg ∧ wx = wc)
  case first =>
    rcases hn.out with ⟨h1, h2⟩ | ⟨h1, h2, h3⟩
    · subst h1 h2
      have hi0 : (((⟨(45 :: t).toArray⟩ : ByteArray)[0]'(by show 0 < (45 :: t).length; simp)).toNat : Int) == 45 := rfl
      go_wp2_with fail
      go_meet
      exact ⟨rfl, rfl⟩
    · subst h1 h2
      cases s with
      | nil =>
        go_wp2_with fail
        go_meet
        exact ⟨rfl, rfl⟩
      | cons c r =>
        have hi0 : ((((⟨(c :: r).toArray⟩ : ByteArray)[0]'(by show 0 < (c :: r).length; simp)).toNat : Int) == 45) = false := by
          show ((c.toNat : Int) == 45) = false
          rw [beq_eq_false_iff_ne]
          intro h'
          apply h3
          simp only [List.head?_cons, Option.some.injEq]
          exact UInt8.toNat_inj.1 (show c.toNat = 45 by omega)
        go_wp2_with fail
        go_meet
        exact ⟨rfl, rfl⟩
  case rest =>
    obtain ⟨rfl, rfl⟩ := hcut
    go_upto_if 21 with fail
    go_cut [4] (fun s4 wc => s4 = .string ⟨t.toArray⟩ ∧ wx = wc)
    case first =>
      rcases hn.out with ⟨h1, h2⟩ | ⟨h1, h2, h3⟩
      · subst h1 h2
        have hx : (⟨(45 :: t).toArray⟩ : ByteArray).extract 1 (t.length + 1) = ⟨t.toArray⟩ := by
          apply ByteArray.ext
          apply Array.ext'
          rw [Lib.extract_data]
          simp
        go_wp2_with fail
        go_meet
        exact ⟨rfl, rfl⟩
      · subst h1 h2
        go_wp2_with fail
        go_meet
        exact ⟨rfl, rfl⟩
    case rest =>
      obtain ⟨rfl, rfl⟩ := hcut
      obtain ⟨p0, p1, q0, q1⟩ := id B
      by_cases ht : t = []
      · subst ht
        go_wp2
        refine bodyPost_ret (v := .tuple #[.agg #[.bool false, .slice none 0 0], .int .i64 2]) (by simp [results, Tryz.results71, go_sem, p0, p1]) rfl ⟨RParse.err (fun h => h.2.1 rfl), Below.put2 hbx (Nat.le_refl _) _ _⟩
      have htl : 1 ≤ t.length := by
        have := List.length_pos_iff.2 ht
        omega
      by_cases h300 : (300 : Int) < (t.length : Int)
      · have hz : ((t.length : Int) == 0) = false := by rw [beq_eq_false_iff_ne]; omega
        go_wp2
        refine bodyPost_ret (v := .tuple #[.agg #[.bool false, .slice none 0 0], .int .i64 2]) (by simp [results, Tryz.results71, go_sem, p0, p1]) rfl ⟨RParse.err (fun h => by have := h.2.2.1; omega), Below.put2 hbx (Nat.le_refl _) _ _⟩
      have hz : ((t.length : Int) == 0) = false := by rw [beq_eq_false_iff_ne]; omega
      have h30 : decide ((300 : Int) < (t.length : Int)) = false := by simpa using h300
      have ht3 : t.length ≤ 300 := by omega
      have HT0 := Lib.hid ht
      clear h300 ht
      go_wp2_with fail
      clear hz h30 p0 p1 q0 q1
      go_loopw [4, 6, 7, 8, 9] (fun s4 s6 _ _ _ wr => ∃ (l : List Nat) (e : Nat), l.length + e ≤ t.length ∧ s4 = .string ⟨(t.take e).toArray⟩ ∧ OwnU wr wx.heap.size s6 l ∧ Hid (Bi.Ok l) ∧
        Hid (Bi.val l + 1000000000 ^ l.length * Bi.decVal (t.take e) = Bi.decVal t) ∧ Hid (∀ b ∈ t.drop e, Bi.isDig b) ∧ Below wx.heap.size wx wr) (fun s4 _ _ _ _ _ => strLen s4)
      case atStart => exact ⟨[], t.length, by simp, by rw [List.take_length], OwnU.nil _ _, Lib.hid Bi.Ok.nil, Lib.hid (by rw [List.take_length]; simp [Bi.val]), Lib.hid (by simp), Below.refl _ _⟩
      case round =>
        obtain ⟨l, e, hle, rfl, hown, HO, HI, HD, hbr⟩ := hrel
        have hll : l.length ≤ 300 := by omega
        have hsl : (⟨(t.take e).toArray⟩ : ByteArray).size = e := by show (t.take e).length = e; simp; omega
        have HSL := Lib.hid hsl
        have hmin : min e t.length = e := by omega
        clear hsl
        by_cases he : e = 0
        · subst he
          have HDD : Hid (∀ b ∈ t, Bi.isDig b) := Lib.hid (by simpa using HD.out)
          have hv : Hid (Bi.val l = Bi.decVal t) := Lib.hid (by simpa [Bi.decVal] using HI.out)
          obtain ⟨ao, cap, rfl, hcap, hU⟩ := hown.read
          have Br := B.mono hbr
          have hbwr := Below.step hbx hbr (Nat.le_refl _)
          clear hown HI HD hle
          go_wp2_with fail
          (with_reducible refine (rmake_any neg l ao cap wr (by omega) hU HO).mono ?_)
          rintro e2 w2 ⟨⟨ng, ao3, n3, cap3, k3, rfl, HR⟩, hb2⟩
          have hR := HR.out
          rw [hv.out] at hR
          have hzs : (sgn neg (Bi.decVal t)).natAbs < Bi.Big := by rw [sgn_natAbs]; exact Bi.dec_big HDD.out ht3
          obtain ⟨rfl, hV⟩ := hR.fits hzs
          obtain ⟨z, hz⟩ : ∃ z, z = sgn neg (Bi.decVal t) := ⟨_, rfl⟩
          rw [← hz] at hV
          have HZ := Lib.hid hz
          have HV := Lib.hid hV
          have Br := Br.mono hb2
          have hbw2 := Below.step hbwr hb2 (Nat.le_refl _)
          clear hz hV hzs hR HR hb2 hbwr hcap hU
          go_upto_region 22 with fail
          have X3 := Box.new w2 (.bool ng) (.slice ao3 n3 cap3) 24
          have hb3 := below_alloc w2 (.cells #[.bool ng, .slice ao3 n3 cap3] 24)
          generalize w2.alloc (.cells #[.bool ng, .slice ao3 n3 cap3] 24) = w3 at *
          have Br := Br.mono hb3
          have HV := Lib.hid (HV.out.mono hb3)
          have hbw3 := Below.step hbw2 hb3 (Nat.le_refl _)
          clear hb3 hbw2
          obtain ⟨x0, x1, _, _⟩ := id X3
          go_wp2_with fail
          (with_reducible refine (rFormat_any (.agg #[.bool ng, .slice ao3 n3 cap3]) z w3 HV.out).mono ?_)
          rintro e4 w4 ⟨rfl, hb4⟩
          have Br := Br.mono hb4
          have X3 := X3.mono hb4
          have HV := Lib.hid (HV.out.mono hb4)
          have hbw4 := Below.step hbw3 hb4 (Nat.le_refl _)
          clear x0 x1 hb4 hbw3
          obtain ⟨x0, x1, _, _⟩ := id X3
          obtain ⟨p0, p1, q0, q1⟩ := id Br
          by_cases hq : Lib.itoa z = s
          · rw [hq]
            have HQ := Lib.hid hq
            clear hq
            go_wp2
            refine bodyPost_ret (v := .tuple #[.agg #[.bool ng, .slice ao3 n3 cap3], .int .i64 0]) (by simp [results, Tryz.results71, go_sem, p0, p1]) rfl ⟨⟨ng, ao3, n3, cap3, 0, rfl, Lib.hid (.inl ⟨HDD.out, HT0.out, ht3, by rw [← HZ.out]; exact HQ.out, ?_, rfl⟩)⟩, Below.put2 hbw4 (Nat.le_refl _) _ _⟩
            rw [← HZ.out]
            exact HV.out.put2 p0 p1 _ _
          · have HQ := Lib.hid hq
            have hb : (Lib.itoa z == s) = false := by rw [beq_eq_false_iff_ne]; exact hq
            clear hq
            go_wp2
            refine bodyPost_ret (v := .tuple #[.agg #[.bool false, .slice none 0 0], .int .i64 2]) (by simp [results, Tryz.results71, go_sem, p0, p1]) rfl ⟨RParse.err (fun h => HQ.out (by rw [HZ.out]; exact h.2.2.2)), Below.put2 hbw4 (Nat.le_refl _) _ _⟩
        · obtain ⟨a, ha⟩ : ∃ a : Nat, a = e - 9 := ⟨_, rfl⟩
          have hpos : (0 : Int) < (e : Int) := by omega
          have he3 : (e : Int) ≤ 300 := by omega
          have HA := Lib.hid ha
          go_upto_if 40 with fail
          go_cut [7] (fun s7 wc => s7 = .int .i64 a ∧ wr = wc)
          case first =>
            by_cases h9 : (e : Int) < 9
            · have : a = 0 := by omega
              subst this
              clear ha
              go_wp2_with fail
              go_meet
              exact ⟨rfl, rfl⟩
            · have h9' : (9 : Int) ≤ (e : Int) := by omega
              have hae : ((e : Int) - 9) = (a : Int) := by omega
              have HAE := Lib.hid hae
              clear h9 ha hae
              go_wp2_with fail
              go_meet
              exact ⟨by rw [← HAE.out], rfl⟩
          case rest =>
            obtain ⟨rfl, rfl⟩ := hcut
            have hae : a ≤ e := by omega
            have hea : e - a ≤ 9 := by omega
            have HEA := Lib.hid hea
            clear ha hea
            go_wp2_with fail
            go_loop [8, 9] (fun s8 s9 => ∃ i X : Nat, a ≤ i ∧ i ≤ e ∧ s9 = .int .i64 i ∧ s8 = .int .u32 X ∧ Hid (X = Bi.decVal ((t.drop a).take (i - a))) ∧ Hid (∀ b ∈ (t.drop a).take (i - a), Bi.isDig b)) (fun _ s9 => e - (intOf s9).toNat)
            case atStart => exact ⟨a, 0, Nat.le_refl _, hae, rfl, rfl, Lib.hid (by simp [Bi.decVal]), Lib.hid (by simp)⟩
            case round =>
              obtain ⟨i, X, hai, hie, rfl, rfl, HX, HXD⟩ := hrel
              by_cases hlt : i < e
              · have hlz : i < t.length := by omega
                obtain ⟨z, hz⟩ : ∃ z, z = t[i] := ⟨_, rfl⟩
                have hidx : ∀ h : i < (⟨(t.take e).toArray⟩ : ByteArray).size, (⟨(t.take e).toArray⟩ : ByteArray)[i]'h = z := by
                  intro h
                  rw [hz]
                  show ((t.take e).toArray)[i]'h = t[i]
                  simp
                have hgz : t[i]? = some z := by rw [hz]; exact List.getElem?_eq_getElem hlz
                have HGZ := Lib.hid hgz
                clear hz hgz
                have herr : ¬ Bi.isDig z → ∀ w' : World, RParse w' neg t s (.returned (.tuple #[.agg #[.bool false, .slice none 0 0], .int .i64 2])) := fun hnd w' =>
                  RParse.err (fun h => hnd (h.1 z (List.mem_of_getElem? HGZ.out)))
                have HERR := Lib.hid herr
                clear herr
                by_cases hd1 : (z.toNat : Int) < 48
                · have hnd : Hid (¬ Bi.isDig z) := Lib.hid (by unfold Bi.isDig; omega)
                  obtain ⟨p0, p1, q0, q1⟩ := B.mono hbr
                  go_wp2
                  refine bodyPost_ret (v := .tuple #[.agg #[.bool false, .slice none 0 0], .int .i64 2]) (by simp [results, Tryz.results71, go_sem, p0, p1]) rfl ⟨HERR.out hnd.out _, Below.put2 (Below.step hbx hbr (Nat.le_refl _)) (Nat.le_refl _) _ _⟩
                · by_cases hd2 : (57 : Int) < (z.toNat : Int)
                  · have hnd : Hid (¬ Bi.isDig z) := Lib.hid (by unfold Bi.isDig; omega)
                    have hb1 : decide ((z.toNat : Int) < 48) = false := by simpa using hd1
                    obtain ⟨p0, p1, q0, q1⟩ := B.mono hbr
                    clear hd1
                    go_wp2
                    refine bodyPost_ret (v := .tuple #[.agg #[.bool false, .slice none 0 0], .int .i64 2]) (by simp [results, Tryz.results71, go_sem, p0, p1]) rfl ⟨HERR.out hnd.out _, Below.put2 (Below.step hbx hbr (Nat.le_refl _)) (Nat.le_refl _) _ _⟩
                  · have hb1 : decide ((z.toNat : Int) < 48) = false := by simpa using hd1
                    have hb2 : decide ((57 : Int) < (z.toNat : Int)) = false := by simpa using hd2
                    have hz1 : (48 : Int) ≤ (z.toNat : Int) := by omega
                    have hz2 : (z.toNat : Int) ≤ 57 := by omega
                    clear hd1 hd2
                    go_wp2_with fail
                    have hsn := Bi.chunk_snoc HGZ.out hai
                    have hx8 := Bi.chunk_small HXD.out (by have := HEA.out; simp; omega)
                    rw [← HX.out] at hx8
                    refine ⟨⟨i + 1, 10 * X + (z.toNat - 48), by omega, by omega, by go_num, ?_, Lib.hid ?_, Lib.hid ?_⟩, ?_⟩
                    · congr 1; omega
                    · rw [hsn, Bi.val_snoc_dig, ← HX.out]
                    · rw [hsn]
                      intro b hb
                      rcases List.mem_append.1 hb with hb | hb
                      · exact HXD.out b hb
                      · simp at hb; subst hb; unfold Bi.isDig; omega
                    · simp [intOf]; omega
              · obtain rfl : i = e := by omega
                have hst := Bi.parse_step (t := t) (l := l) (e := i) (a := a) (V := Bi.decVal t) HA.out (by omega) (by omega) HI.out
                rw [← HX.out] at hst
                have HST := Lib.hid hst
                have HXS : Hid (Bi.Sm X) := Lib.hid (by rw [HX.out]; exact Bi.chunk_lt' HXD.out (by have := HEA.out; simp; omega))
                have hai2 : a ≤ i := hai
                have hex : (⟨(t.take i).toArray⟩ : ByteArray).extract 0 a = ⟨(t.take a).toArray⟩ := by
                  apply ByteArray.ext
                  apply Array.ext'
                  rw [Lib.extract_data]
                  show ((t.take i).drop 0).take (a - 0) = t.take a
                  rw [List.drop_zero, Nat.sub_zero, List.take_take, Nat.min_eq_left hai2]
                have HEX := Lib.hid hex
                clear hst hex HI
                go_wp2_with (at_builtin; refine app_u32 _ (X : Int) X rfl rfl _ _ rfl wx wx.heap.size _ l rfl hown hbr.size hbr rfl (by omega) ?_; intro v' w' hown' hb')
                refine ⟨⟨l ++ [X], a, by have := HA.out; simp; omega, by rw [HEX.out], hown', Lib.hid (HO.out.snoc HXS.out), HST, Lib.hid ?_, hb'⟩, ?_⟩
                · intro b hb
                  rw [← List.take_append_drop (i - a) (t.drop a)] at hb
                  rcases List.mem_append.1 hb with hb | hb
                  · exact HXD.out b hb
                  · rw [List.drop_drop, show a + (i - a) = i by omega] at hb
                    exact HD.out b hb
                · rw [HEX.out]
                  show (t.take a).length < (t.take i).length
                  have := HA.out
                  rw [List.length_take, List.length_take, Nat.min_eq_left (by omega), Nat.min_eq_left (by omega)]
                  omega

end Go.Proofs.YtgenhkakcbedaaaGreatDoor

namespace Go.Proofs.YtgenhkakcbedaaaGreatDoor
open Go.RowKit

theorem split_any (s : List UInt8) : (Lib.hasPrefix s [45] = true ∧ s = 45 :: Lib.trimPrefix s [45]) ∨ (Lib.hasPrefix s [45] = false ∧ s = Lib.trimPrefix s [45] ∧ (Lib.trimPrefix s [45]).head? ≠ some 45) := by
  cases s with
  | nil => right; exact ⟨by decide, by decide, by decide⟩
  | cons c r =>
    by_cases h : c = 45
    · subst h
      left
      have h1 : Lib.hasPrefix (45 :: r) [45] = true := by simp [Lib.hasPrefix]
      exact ⟨h1, by unfold Lib.trimPrefix; rw [if_pos h1]; rfl⟩
    · right
      have h1 : Lib.hasPrefix (c :: r) [45] = false := by
        have hb : ((45 : UInt8) == c) = false := by rw [beq_eq_false_iff_ne]; exact fun e => h e.symm
        unfold Lib.hasPrefix
        rw [List.isPrefixOf, hb]
        rfl
      have h2 : Lib.trimPrefix (c :: r) [45] = c :: r := by unfold Lib.trimPrefix; rw [if_neg (by rw [h1]; simp)]
      refine ⟨h1, h2.symm, ?_⟩
      rw [h2]
      simpa using h

theorem Parse_all (s : List UInt8) (w : World) (hs : s.length ≤ 1000000) (hE : Env w) :
    Calls Tryz.prog 70 #[.string ⟨s.toArray⟩] w fun e w' => RParse w' (Lib.hasPrefix s [45]) (Lib.trimPrefix s [45]) s e ∧ Below w.heap.size w w' := by
  have hsp := split_any s
  generalize hn : Lib.hasPrefix s [45] = neg at *
  generalize ht : Lib.trimPrefix s [45] = t at *
  have hst : s = (if neg = true then [45] else []) ++ t := by
    rcases hsp with ⟨h1, h2⟩ | ⟨h1, h2, _⟩
    · rw [h1]; simpa using h2
    · rw [h1]; simpa using h2
  by_cases hg : Bi.textP neg t
  · refine (Parse_ok s neg t (Lib.hid hn.symm) (Lib.hid ht.symm) w (Lib.hid hg) hE).mono ?_
    rintro e w' ⟨⟨ng, ao, n, cap, k, rfl, HR⟩, hb⟩
    obtain ⟨h0, h3, hd, hz⟩ := hg
    have hzs : (sgn neg (Bi.decVal t)).natAbs < Bi.Big := by rw [sgn_natAbs]; exact Bi.dec_big hd h3
    obtain ⟨rfl, hV⟩ := HR.out.fits hzs
    exact ⟨⟨ng, ao, n, cap, 0, rfl, Lib.hid (.inl ⟨hd, h0, h3, by rw [hst]; exact (Bi.itoa_text hd h0).2 hz, hV, rfl⟩)⟩, hb⟩
  · refine (Parse_bad s w (by omega) (Lib.hid (by rw [hn, ht]; exact hg))).mono ?_
    rintro e w' ⟨rfl, hb⟩
    refine ⟨RParse.err ?_, hb⟩
    rintro ⟨hd, h0, h3, hi⟩
    apply hg
    refine ⟨h0, h3, hd, ?_⟩
    rw [hst] at hi
    exact (Bi.itoa_text hd h0).1 hi

theorem rParse_all (s : List UInt8) (w : World) (hs : s.length ≤ 1000000) :
    Calls Tryz.prog 71 #[.string ⟨s.toArray⟩] w fun e w' => RParse w' (Lib.hasPrefix s [45]) (Lib.trimPrefix s [45]) s e ∧ Below w.heap.size w w' :=
  rParse_any s _ _ hs (Lib.hid (split_any s)) w

end Go.Proofs.YtgenhkakcbedaaaGreatDoor

/-! the digits of a number read back, plain -/
namespace Bi
open Go.Lib (decDigits nDigits itoa)

theorem dec_all (n : Nat) : (∀ b ∈ decDigits n, isDig b) ∧ decVal (decDigits n) = n ∧ decDigits n ≠ [] ∧ (n ≠ 0 → (decDigits n).head? ≠ some 48) := by
  induction n using Nat.strongRecOn with
  | ind n ih =>
    by_cases h : n < 10
    · rw [Go.Lib.decDigits_one h]
      have hb : (UInt8.ofNat (48 + n)).toNat = 48 + n := by
        rw [UInt8.toNat_ofNat']; omega
      refine ⟨fun b hb' => ?_, ?_, by simp, fun h0 => ?_⟩
      · simp only [List.mem_singleton] at hb'
        subst hb'
        unfold isDig; rw [hb]; omega
      · simp only [decVal, hb, List.length_nil, Nat.pow_zero]; omega
      · intro e
        simp only [List.head?_cons, Option.some.injEq] at e
        have := congrArg UInt8.toNat e
        rw [hb] at this
        have h48 : (48 : UInt8).toNat = 48 := rfl
        omega
    · obtain ⟨h1, h2, h3, h4⟩ := ih (n / 10) (by omega)
      have hb : (UInt8.ofNat (48 + n % 10)).toNat = 48 + n % 10 := by
        rw [UInt8.toNat_ofNat']; omega
      rw [decDigits, dif_neg h]
      refine ⟨fun b hb' => ?_, ?_, by simp, fun _ => ?_⟩
      · rcases List.mem_append.1 hb' with hb' | hb'
        · exact h1 b hb'
        · simp only [List.mem_singleton] at hb'
          subst hb'
          unfold isDig; rw [hb]; omega
      · rw [val_snoc_dig, h2, hb]; omega
      · have := h4 (by omega)
        cases hd : decDigits (n / 10) with
        | nil => exact absurd hd h3
        | cons x r =>
          rw [hd] at this
          simpa using this

theorem dec_len {n : Nat} (h : n < Big) : (decDigits n).length ≤ 300 := by
  rw [Go.Lib.decDigits_length]
  by_cases h0 : n = 0
  · rw [h0, Go.Lib.nDigits_small (by decide)]; decide
  · have h3 : ∀ a k : Nat, k = a + a → 10 ^ a * 10 ^ a = 10 ^ k := fun a k hk => by rw [hk, Nat.pow_add]
    obtain ⟨k, hk⟩ : ∃ k : Nat, k = 300 := ⟨_, rfl⟩
    rw [← hk]
    exact (nd_le h0).2 (Nat.lt_of_lt_of_eq h (h3 150 k (by omega)))

/-- the text of an integer is the text of an integer -/
theorem itoa_parts {z : Int} (h : z.natAbs < Big) : ∃ (neg : Bool) (t : List UInt8), itoa z = (if neg = true then [45] else []) ++ t ∧ Go.Lib.hasPrefix (itoa z) [45] = neg ∧ Go.Lib.trimPrefix (itoa z) [45] = t ∧ textP neg t ∧ sgnT neg (decVal t) = z := by
  obtain ⟨h1, h2, h3, h4⟩ := dec_all z.natAbs
  have hl := dec_len h
  by_cases hz : z < 0
  · have e : itoa z = 45 :: decDigits z.natAbs := by unfold itoa; rw [if_pos hz]
    have hp : Go.Lib.hasPrefix (45 :: decDigits z.natAbs) [45] = true := by simp [Go.Lib.hasPrefix]
    refine ⟨true, decDigits z.natAbs, by rw [e]; rfl, by rw [e]; exact hp, by rw [e]; unfold Go.Lib.trimPrefix; rw [if_pos hp]; rfl, ⟨h3, hl, h1, fun hh => h4 (by omega) hh.1⟩, ?_⟩
    simp only [sgnT, if_true, h2]; omega
  · have e : itoa z = decDigits z.natAbs := by unfold itoa; rw [if_neg hz, show z.toNat = z.natAbs by omega]
    have hp : Go.Lib.hasPrefix (decDigits z.natAbs) [45] = false := by
      cases hd : decDigits z.natAbs with
      | nil => exact absurd hd h3
      | cons x r =>
        have hx : isDig x := h1 x (by rw [hd]; simp)
        have hb : ((45 : UInt8) == x) = false := by
          rw [beq_eq_false_iff_ne]
          rintro rfl
          unfold isDig at hx
          have : (45 : UInt8).toNat = 45 := rfl
          omega
        unfold Go.Lib.hasPrefix
        rw [List.isPrefixOf, hb]
        rfl
    refine ⟨false, decDigits z.natAbs, by rw [e]; rfl, by rw [e]; exact hp, by rw [e]; unfold Go.Lib.trimPrefix; rw [if_neg (by rw [hp]; simp)], ⟨h3, hl, h1, fun hh => ?_⟩, ?_⟩
    · by_cases h0 : z.natAbs = 0
      · rw [h0, Go.Lib.decDigits_one (by decide)] at hh
        simp at hh
      · exact h4 h0 hh.1
    · simp only [sgnT, Bool.false_eq_true, if_false, h2]; omega
end Bi
