import Derived.Test.YtgfpbghgpdpepaaGreatDoorI8
import Derived.Test.YtgfpbghgpdpepaaGreatDoorI9
import Derived.Test.YtgfpbghgpdpepaaGreatDoorShelfB
import Derived.Lib.AtoiErrMem
/-! the digits of an integer, limb by limb, plain -/
set_option maxRecDepth 100000
set_option maxHeartbeats 25600000
namespace Bi
open Go.Lib (decDigits nDigits)
def lastD : Nat → Nat → List UInt8
 | 0, _ => []
 | k + 1, x => lastD k (x / 10) ++ [UInt8.ofNat (48 + x % 10)]
theorem lastD_length : ∀ (k x : Nat), (lastD k x).length = k
 | 0, _ => rfl
 | k + 1, x => by simp [lastD, lastD_length k]
theorem dec_split : ∀ (k n x : Nat), 0 < n → x < 10 ^ k → decDigits (n * 10 ^ k + x) = decDigits n ++ lastD k x
 | 0, n, x, _, h => by
  have : x = 0 := by simpa using h
  subst this;simp [lastD]
 | k + 1, n, x, hn, h => by
  have h1 : 10 ≤ n * 10 ^ (k + 1) := by
   have h2 : 1 ≤ 10 ^ k := Nat.one_le_pow _ _ (by decide);have h3 : 1 * 10 ≤ n * 10 ^ (k + 1) := Nat.mul_le_mul hn (by rw [Nat.pow_succ]; omega);omega
  rw [decDigits, dif_neg (by omega)];have e1 : (n * 10 ^ (k + 1) + x) / 10 = n * 10 ^ k + x / 10 := by
   rw [Nat.pow_succ, ← Nat.mul_assoc];omega
  have e2 : (n * 10 ^ (k + 1) + x) % 10 = x % 10 := by
   rw [Nat.pow_succ, ← Nat.mul_assoc];omega
  rw [e1, e2, dec_split k n (x / 10) hn (by rw [Nat.pow_succ] at h; omega), List.append_assoc]
  rfl
theorem lastD_zero : ∀ (k : Nat), lastD k 0 = List.replicate k 48
 | 0 => rfl
 | k + 1 => by
  rw [lastD, Nat.zero_div, lastD_zero k, List.replicate_succ']
  rfl
theorem lastD_dec : ∀ (k x : Nat), 1 ≤ k → x < 10 ^ k → List.replicate (k - nDigits x) 48 ++ decDigits x = lastD k x
 | 0, _, h, _ => by omega
 | k + 1, x, _, h => by
  by_cases hx : x < 10
  ·rw [Go.Lib.nDigits_small hx, Go.Lib.decDigits_one hx, Nat.add_sub_cancel, lastD, Nat.div_eq_of_lt hx, lastD_zero, Nat.mod_eq_of_lt hx]
  ·have hk : 1 ≤ k := by
    apply Nat.le_of_not_lt; intro h0
    have : k = 0 := by omega
    subst this;simp at h; omega
   rw [Go.Lib.nDigits_big hx, decDigits, dif_neg hx, Nat.add_sub_add_right, ← List.append_assoc, lastD_dec k (x / 10) hk (by rw [Nat.pow_succ] at h; omega)]
   rfl
theorem lastD_front : ∀ (k x : Nat), lastD (k + 1) x = UInt8.ofNat (48 + x / 10 ^ k % 10) :: lastD k x
 | 0, x => by simp [lastD]
 | k + 1, x => by
  rw [lastD, lastD_front k (x / 10)];have : x / 10 / 10 ^ k = x / 10 ^ (k + 1) := by rw [Nat.div_div_eq_div_mul, Nat.pow_succ, Nat.mul_comm]
  rw [this, List.cons_append]
  rfl
theorem lastD_cat : ∀ (b a x y : Nat), x < 10 ^ b → lastD (a + b) (y * 10 ^ b + x) = lastD a y ++ lastD b x
 | 0, a, x, y, h => by
  have : x = 0 := by simpa using h
  subst this;simp [lastD]
 | b + 1, a, x, y, h => by
  have e1 : (y * 10 ^ (b + 1) + x) / 10 = y * 10 ^ b + x / 10 := by
   rw [Nat.pow_succ, ← Nat.mul_assoc]; omega
  have e2 : (y * 10 ^ (b + 1) + x) % 10 = x % 10 := by
   rw [Nat.pow_succ, ← Nat.mul_assoc]; omega
  show lastD (a + b + 1) _ = _
  rw [lastD, e1, e2, lastD_cat b a (x / 10) y (by rw [Nat.pow_succ] at h; omega), List.append_assoc]
  rfl
theorem dec_last {k x : Nat} (h1 : x / 10 ^ k = 0) (h2 : k = 0 → x = 0) (h3 : k ≠ 0 → x / 10 ^ (k - 1) ≠ 0) (hx : x ≠ 0) : decDigits x = lastD k x := by
 have hk : 1 ≤ k := by
  apply Nat.le_of_not_lt; intro h
  exact hx (h2 (by omega))
 have hlt : x < 10 ^ k := by
  have := (Nat.div_eq_zero_iff_lt (Nat.pow_pos (by decide) : 0 < 10 ^ k)).1 h1;exact this
 have hge : 10 ^ (k - 1) ≤ x := by
  apply Nat.le_of_not_lt; intro h
  exact h3 (by omega) (Nat.div_eq_of_lt h)
 obtain ⟨j, rfl⟩ : ∃ j, k = j + 1 := ⟨k - 1, by omega⟩;have hn := Go.Lib.nDigits_unique j x (by simpa using hge) hlt;rw [← lastD_dec (j + 1) x (by omega) hlt, hn];simp
theorem dec_limb {n x : Nat} (hn : 0 < n) (hx : x < 1000000000) : decDigits (x + 1000000000 * n) = decDigits n ++ (List.replicate (9 - nDigits x) 48 ++ decDigits x) := by
 rw [lastD_dec 9 x (by omega) (by simpa using hx), ← dec_split 9 n x hn (by simpa using hx)]
 congr 1
 omega
theorem low_limb {k v x : Nat} (hv : v < 1000000000 ^ k) : lastD 9 x ++ lastD (9 * k) v = lastD (9 * (k + 1)) (v + 1000000000 ^ k * x) := by
 rw [pow9] at hv ⊢;rw [show 9 * (k + 1) = 9 + 9 * k by omega, ← lastD_cat (9 * k) 9 v x hv]
 congr 1
 rw [Nat.mul_comm, Nat.add_comm]
theorem dec_low {k v x : Nat} (hv : v < 1000000000 ^ k) (hx : 0 < x) : decDigits x ++ lastD (9 * k) v = decDigits (v + 1000000000 ^ k * x) := by
 rw [pow9] at hv ⊢;rw [← dec_split (9 * k) x v hx hv]
 congr 1
 rw [Nat.mul_comm, Nat.add_comm]
theorem drop_cons {L : List Nat} {i x : Nat} (hi : i < L.length) (hx : L.getD i 0 = x) : val (L.drop i) = x + 1000000000 * val (L.drop (i + 1)) := by
 rw [List.drop_eq_getElem_cons hi];rw [List.getD_eq_getElem?_getD, gE hi] at hx;simp only [Option.getD_some] at hx;rw [hx];simp [val]
theorem drop_pos {n : Nat} {L : List Nat} (h : L = limbs n) {j : Nat} (hj : j < L.length) : 0 < val (L.drop j) := by
 rcases List.eq_nil_or_concat L with h0 | ⟨r, x, h0⟩
 ·subst h0; simp at hj
 ·rw [List.concat_eq_append] at h0;subst h0;obtain ⟨_, hx, _⟩ := dlen_limbs h;rw [List.drop_append_of_le_length (by simp at hj; omega), val_snoc];have : 0 < 1000000000 ^ (r.drop j).length * x := Nat.mul_pos (Nat.pow_pos (by decide)) (by omega);omega
def outT (L : List Nat) (j : Nat) : List UInt8 := if j < L.length then decDigits (val (L.drop j)) else []
theorem outT_len {L : List Nat} (h : val L < Big) (j : Nat) : (outT L j).length ≤ 300 := by
 unfold outT
 split
 ·rw [Go.Lib.decDigits_length];have h1 : val (L.drop j) ≤ val L := by
   clear h
   induction j generalizing L with
   | zero => simp
   | succ i ih =>
    cases L with
    | nil => simp
    | cons x r =>
     have := ih (L := r) (by rename_i h; simpa using h);simp only [List.drop_succ_cons, val];omega
  by_cases h0 : val (L.drop j) = 0
  ·rw [h0, Go.Lib.nDigits_small (by decide)]; decide
  ·have h3 : ∀ a k : Nat, k = a + a → 10 ^ a * 10 ^ a = 10 ^ k := fun a k hk => by rw [hk, Nat.pow_add]
   obtain ⟨k, hk⟩ : ∃ k : Nat, k = 300 := ⟨_, rfl⟩;rw [← hk];exact (nd_le h0).2 (Nat.lt_of_le_of_lt h1 (Nat.lt_of_lt_of_eq h (h3 150 k (by omega))))
 ·simp
theorem outT_last {L : List Nat} {j z : Nat} (hj : j + 1 = L.length) (hz : L.getD j 0 = z) : outT L j = outT L (j + 1) ++ decDigits z := by
 unfold outT;rw [if_pos (by omega), if_neg (by omega), drop_cons (by omega) hz, List.drop_eq_nil_of_le (by omega)];simp [val]
theorem outT_step {n : Nat} {L : List Nat} (h : L = limbs n) {j z : Nat} (hj : j + 1 < L.length) (hz : L.getD j 0 = z) (hz9 : z < 1000000000) : outT L j = outT L (j + 1) ++ (List.replicate (9 - nDigits z) 48 ++ decDigits z) := by
 unfold outT;rw [if_pos (by omega), if_pos hj, drop_cons (by omega) hz, dec_limb (drop_pos h hj) hz9]
def refT (L : List Nat) (i : Nat) : List UInt8 := if i < L.length then lastD (9 * i) (val (L.take i)) else decDigits (val L)
theorem take_val {L : List Nat} {i z : Nat} (hi : i < L.length) (hz : L.getD i 0 = z) : val (L.take (i + 1)) = val (L.take i) + 1000000000 ^ i * z := by
 rw [List.getD_eq_getElem?_getD, gE hi] at hz;simp only [Option.getD_some] at hz;rw [List.take_succ_eq_append_getElem hi, val_snoc, hz, List.length_take, Nat.min_eq_left (by omega)]
theorem take_lt {L : List Nat} (ho : Ok L) {i : Nat} (hi : i ≤ L.length) : val (L.take i) < 1000000000 ^ i := by
 have h : Ok (L.take i) := fun x hx => ho x (List.mem_of_mem_take hx)
 have := val_lt h;rw [List.length_take, Nat.min_eq_left hi] at this;exact this
theorem refT_step {L : List Nat} (ho : Ok L) {i z : Nat} (hi : i + 1 < L.length) (hz : L.getD i 0 = z) : lastD 9 z ++ refT L i = refT L (i + 1) := by
 unfold refT;rw [if_pos (by omega), if_pos hi, low_limb (take_lt ho (by omega)), take_val (by omega) hz]
theorem refT_last {n : Nat} {L : List Nat} (h : L = limbs n) (ho : Ok L) {i z k : Nat} (hi : i + 1 = L.length) (hz : L.getD i 0 = z) (h1 : z / 10 ^ k = 0) (h3 : k = 0 ∨ z / 10 ^ (k - 1) ≠ 0) : lastD k z ++ refT L i = refT L (i + 1) := by
 have hz0 : z ≠ 0 := by
  have h2 := drop_pos h (j := i) (by omega);rw [drop_cons (by omega) hz, List.drop_eq_nil_of_le (by omega)] at h2;simp [val] at h2;omega
 have hk : k = 0 → z = 0 := by
  rintro rfl
  simpa using h1
 unfold refT;rw [if_pos (by omega), if_neg (by omega), ← dec_last h1 hk (fun hk0 => by rcases h3 with h3 | h3; exact absurd h3 hk0; exact h3) hz0, dec_low (take_lt ho (by omega)) (by omega), ← take_val (by omega) hz, hi, List.take_length]
end Bi
namespace Go.Proofs.YtgfpbghgpdpepaaGreatDoor
open Go.RowKit
theorem builder_kept {T e : TypeId} {B b : Nat} {p : Value} {bs : List Value} {w w' : World} (h : Lib.BuilderAtF T e B b p bs w) (hb : Below w.heap.size w w') : Lib.BuilderAtF T e B b p bs w' := by
 have hlt := h.lt;obtain ⟨hB, v, hbk, hown, hne⟩ := h;refine ⟨hB, v, by rw [hb.block b hlt]; exact hbk, ?_, hne⟩;obtain ⟨h1, h2⟩ := hown;refine ⟨h1, h2.imp id ?_⟩;rintro ⟨g, cap, cur, fz, hv, hg, hh, r⟩;have : g < w.heap.size := by
  by_cases hb : g < w.heap.size
  ·exact hb
  ·rw [Array.getElem?_eq_none (by omega)] at hh; simp at hh
 exact ⟨g, cap, cur, fz, hv, hg, by rw [hb.block g this]; exact hh, r⟩
theorem isBuilder_kept {T e : TypeId} {B b : Nat} {bs : List Value} {w w' : World} (h : Lib.IsBuilderF T e B b bs w) (hb : Below w.heap.size w w') : Lib.IsBuilderF T e B b bs w' :=
 h.imp (fun h => builder_kept h hb) (fun h => builder_kept h hb)
theorem byteCells_append (a b : List UInt8) : Lib.byteCells (a ++ b) = Lib.byteCells a ++ Lib.byteCells b := by simp [Lib.byteCells]
theorem repeat_zero (c : Nat) : Lib.repeatL [48] c = List.replicate c 48 := by
 induction c with
 | zero => rfl
 | succ c ih => simp [Lib.repeatL, ih, List.replicate_succ]
theorem itoa_nat (x : Nat) : Lib.itoa (x : Int) = Lib.decDigits x := by
 unfold Lib.itoa;rw [if_neg (by omega), Int.toNat_natCast]
theorem repeat0 (c : Nat) (C : Int) (hC : C = (c : Int)) (hc : c ≤ 1000) (w : World) :
  Calls Tryz.prog 205 #[.string ⟨#[48]⟩, .int .i64 C] w fun e w' => e = .returned (.string ⟨(List.replicate c 48).toArray⟩) ∧ Below w.heap.size w w' := by
 subst hC;have := Tryz.strings_Repeat ⟨#[48]⟩ c w (by omega) (by show 1 * c ≤ _; omega);rw [show (⟨#[48]⟩ : ByteArray).data.toList = [48] from rfl, repeat_zero] at this;exact this
theorem write_any (B : Nat) (cur s : List UInt8) (w : World) (h : Lib.IsBuilderF 147 5 B B (Lib.byteCells cur) w) (hc : cur.length ≤ 100000) (hs : s.length ≤ 100000) (hB : B ≤ w.heap.size) :
  Calls Tryz.prog 142 #[.pointer (some ⟨B, 0, none⟩), .string ⟨s.toArray⟩] w fun e w' => e = .returned (.tuple #[.int .i64 s.length, .nilIface]) ∧ Lib.IsBuilderF 147 5 B B (Lib.byteCells (cur ++ s)) w' ∧ Below B w w' := by
 have hsz : (⟨s.toArray⟩ : ByteArray).size = s.length := rfl;refine (Tryz.Builder_WriteString_k B B (Lib.byteCells cur) ⟨s.toArray⟩ w h (by rw [Lib.byteCells_length, hsz]; omega) hB).mono ?_;rintro e w' ⟨he, hb, hw, _⟩;rw [hsz] at he;refine ⟨he, .inr ?_, hw⟩;rw [byteCells_append];exact hb
theorem Format_any (a : Value) (x : Int) (w : World) (ha : IntV w a x) (hE : Env w) :
  Calls Tryz.prog 174 #[a] w fun e w' => e = .returned (.tuple #[.string ⟨(Lib.itoa x).toArray⟩, .int .i64 0]) ∧ Below w.heap.size w w' := by
 obtain ⟨n1, ao1, L1, c1, rfl, Hn1, HL1, HB1, hc1, hl1, hU1⟩ := id ha;go_enter Tryz.func174, Tryz.ntmps174;go_wp2_with fail;have hbx := bA w (.cells #[.bool n1, .slice ao1 L1.length c1] 32);have B1 := Box.new w (.bool n1) (.slice ao1 L1.length c1) 32;have hsz : (w.alloc (.cells #[.bool n1, .slice ao1 L1.length c1] 32)).heap.size = w.heap.size + 1 := by simp
 have hUx := hU1.mono hbx;have hEx := hE.mono hbx;clear hU1 hE ha;generalize w.alloc (.cells #[.bool n1, .slice ao1 L1.length c1] 32) = wx at *;(with_reducible refine (check1 wx _ hsz n1 ao1 L1 c1 hUx ?_ hEx).mono ?_)
 ·omega
 rintro e w1 ⟨⟨r, HR, HR2, rfl⟩, hb1⟩;obtain rfl : r = 0 := HR.out.2 (validP_of x n1 L1 Hn1.out HL1.out HB1.out);clear HR HR2 hsz;have B1 := B1.mono hb1;have hU1 := hUx.mono hb1;have hE1 := hEx.mono hb1;have hbw := bu hbx hb1;clear hUx hEx hbx hb1;have hlt := B1.lt;have Hit : Hid (Lib.itoa x = (if n1 = true then [45] else []) ++ Lib.decDigits x.natAbs) := hii (by
  unfold Lib.itoa;rw [Hn1.out]
  by_cases h : x < 0
  ·simp [h]
  ·simp [h, show x.toNat = x.natAbs by omega])
 by_cases hL : L1 = []
 ·subst hL;have hx : x.natAbs = 0 := by
   have := congrArg Bi.val HL1.out;rw [Bi.val_limbs] at this;exact this.symm
  have hx0 : x = 0 := by omega
  subst hx0;have hz : Hid (Lib.itoa 0 = [48]) := hii (by
   unfold Lib.itoa;rw [if_neg (by decide), show Int.toNat 0 = 0 from rfl, Lib.decDigits_one (by decide)]
   rfl)
  obtain ⟨p0, p1, _, _⟩ := B1;clear Hit hx hU1;go_wp2;go_ret2;exact ⟨by rw [hz.out]; rfl, hbw⟩
 have hlen : 1 ≤ L1.length := by
  have := List.length_pos_iff.2 hL;omega
 have HV : Hid (Bi.val L1 = x.natAbs) := hii (by rw [HL1.out, Bi.val_limbs]);have HOK : Hid (Bi.Ok L1) := hii (by rw [HL1.out]; exact Bi.limbs_ok _);have HLen : Hid (∀ j, (Bi.outT L1 j).length ≤ 300) := hii (Bi.outT_len (by rw [HV.out]; exact HB1.out));clear hL;obtain ⟨pre, hpre⟩ : ∃ pre : List UInt8, pre = if n1 = true then [45] else [] := ⟨_, rfl⟩
 have HPL : pre.length ≤ 1 := by rw [hpre]; split <;> simp
 rw [← hpre] at Hit;have HPre := hii hpre;clear hpre;obtain ⟨p0, p1, _, _⟩ := id B1;go_upto_region 7 with fail;have HIB := Lib.IsBuilderF.of (Lib.fresh_isBuilder 147 5 w1);have hba := bA w1 (.cells #[.pointer none, .slice none 0 0] 147);obtain ⟨B, hB⟩ := exi (w1.heap.size);rw [← hB] at HIB ⊢;have hBw : B ≤ (w1.alloc (.cells #[.pointer none, .slice none 0 0] 147)).heap.size := by rw [hB]; exact hba.size
 have hbB : Below B w1 (w1.alloc (.cells #[.pointer none, .slice none 0 0] 147)) := by rw [hB]; exact hba
 rw [← hB] at hlt;have HS : Hid (∀ W, Below B w1 W → Env W ∧ U W ao1 L1 ∧ Box W w.heap.size (.bool n1) (.slice ao1 L1.length c1) ∧ B ≤ W.heap.size) := hii (fun W h => by
  have h' := h;rw [hB] at h';exact ⟨hE1.mono h', hU1.mono h', B1.mono h', by rw [hB]; exact h'.size⟩)
 have hw1 := hbw;clear hB;generalize w1.alloc (.cells #[.pointer none, .slice none 0 0] 147) = w2 at *;have B2 := B1.mono hba;clear hE1 hU1 B1 hbw p0 p1 hba;obtain ⟨p0, p1, _, _⟩ := id B2;go_upto_if 19 with fail;go_cut [] (fun wc => Lib.IsBuilderF 147 5 B B (Lib.byteCells pre) wc ∧ Below B w2 wc)
 case first =>
  have HP := HPre.out
  cases n1
  ·simp only [Bool.false_eq_true, if_false] at HP;have HP' := hii HP;clear HP;go_wp2_with fail;go_meet;exact ⟨by rw [HP'.out]; exact HIB, br⟩
  ·simp only [if_true] at HP;have HP' := hii HP;clear HP;go_wp2_with fail;(with_reducible refine (Tryz.Builder_WriteByte_k B B [] 45 _ HIB (by simp) hBw).mono ?_);rintro e w3 ⟨rfl, hbl, hb3, _⟩;go_wp2_with fail;go_meet;exact ⟨by rw [HP'.out]; exact .inr hbl, hb3⟩
 case rest =>
  obtain ⟨HB0, hb3⟩ := hcut;have hb2 := hbB.trans hb3;clear hb3 hbB HIB hBw B2 p0 p1;obtain ⟨hEc, hUc, hBc, hsc⟩ := HS.out wc hb2;obtain ⟨p0, p1, _, _⟩ := hBc;clear hEc hUc hsc;go_wp2_with fail;clear p0 p1;go_loopw [6, 7] (fun s6 _ wr => ∃ i : Int, -1 ≤ i ∧ i < L1.length ∧ s6 = .int .i64 i ∧ Lib.IsBuilderF 147 5 B B (Lib.byteCells (pre ++ Bi.outT L1 (i + 1).toNat)) wr ∧ Below B w1 wr) (fun s6 _ _ => (intOf s6 + 1).toNat)
  case atStart =>
   refine ⟨(L1.length : Int) - 1, by omega, by omega, rfl, ?_, hb2⟩;have h1 : ((L1.length : Int) - 1 + 1).toNat = L1.length := by omega
   rw [h1];unfold Bi.outT;rw [if_neg (by omega), List.append_nil];exact HB0
  case round =>
   obtain ⟨i, hi1, hi2, rfl, HBi, hbr⟩ := hrel;obtain ⟨hEr, hUr, hBr, hsr⟩ := HS.out wr hbr;obtain ⟨p0, p1, _, _⟩ := hBr
   by_cases hi : i < 0
   ·obtain rfl : i = -1 := by omega
    clear hEr hUr HB0 hb2;go_wp2_with fail;(with_reducible refine (Tryz.Builder_String_any_f B B (pre ++ Bi.outT L1 ((-1 : Int) + 1).toNat) _ HBi hsr).mono ?_);rintro e w4 ⟨rfl, _, hb4⟩;have HR : Hid (pre ++ Bi.outT L1 ((-1 : Int) + 1).toNat = Lib.itoa x) := hii (by
     rw [Hit.out, show ((-1 : Int) + 1).toNat = 0 from rfl];unfold Bi.outT;rw [if_pos (by omega), List.drop_zero, HV.out])
    have hfin := hw1.trans ((hbr.trans hb4).mono (Nat.le_of_lt hlt));clear HBi p0 p1;go_wp2;go_ret2;exact ⟨by rw [← HR.out]; rfl, hfin⟩
   ·obtain ⟨j, rfl⟩ : ∃ j : Nat, i = (j : Int) := ⟨i.toNat, by omega⟩;obtain ⟨z, hz⟩ := get_some (l := L1) (k := j) (by omega);obtain ⟨b1, o1, rfl, hcz⟩ := hUr.at' hz;have bz := HOK.out.at' hz;have HZ := hii (Bi.getD_of hz);clear hz hUr HB0 hb2;go_wp2_with fail;(with_reducible refine (itoa_any (z : Int) (by omega) (by omega) _ hEr).mono ?_);rintro e w3 ⟨rfl, hb3⟩;have HB3 := isBuilder_kept HBi hb3;have hbr3 := hbr.trans (hb3.mono hsr);obtain ⟨hE3, _, hBr3, hs3⟩ := HS.out w3 hbr3;clear HBi hb3 hbr hEr hsr p0 p1 hcz;obtain ⟨p0, p1, _, _⟩ := hBr3;have hjj : ((j : Int) + 1).toNat = j + 1 := by omega
    rw [hjj] at HB3;have hl9 := Bi.nd_small bz;have hlz := Go.Lib.decDigits_length z;have HO := HLen.out (j + 1);obtain ⟨cur, hcur⟩ : ∃ cur, cur = Bi.outT L1 (j + 1) := ⟨_, rfl⟩;rw [← hcur] at HB3 HO;have hlc : (pre ++ cur).length ≤ 301 := by rw [List.length_append]; omega
    by_cases hj : j + 1 < L1.length
    ·have hst := Bi.outT_step HL1.out hj HZ.out bz;rw [itoa_nat];rw [← hlz, ← hcur] at hst;generalize Lib.decDigits z = S at *;have HST := hii hst;have hS9 : S.length ≤ 9 := by omega
     have hc1 : (j : Int) < (L1.length : Int) - 1 := by omega
     clear hst hcur hlz hl9 hjj HO;go_wp2_with fail;(with_reducible refine (repeat0 (9 - S.length) _ (by omega) (by omega) w3).mono ?_);rintro e w4 ⟨rfl, hb4⟩;have HB4 := isBuilder_kept HB3 hb4;have hbr4 := hbr3.trans (hb4.mono hs3);have hs4 := (HS.out w4 hbr4).2.2.2;clear HB3 hb4 hbr3 hs3 p0 p1 hE3;have hzl : (List.replicate (9 - S.length) (48 : UInt8)).length ≤ 9 := by simp
     generalize List.replicate (9 - S.length) (48 : UInt8) = Z at *;go_wp2_with fail;(with_reducible refine (write_any B (pre ++ cur) Z w4 HB4 (by omega) (by omega) hs4).mono ?_);rintro e w5 ⟨rfl, HB5, hb5⟩;have hbr5 := hbr4.trans hb5;have hs5 := (HS.out w5 hbr5).2.2.2;have hlc5 : (pre ++ cur ++ Z).length ≤ 310 := by rw [List.length_append]; omega
     clear HB4 hb5 hbr4 hs4;go_wp2_with fail;(with_reducible refine (write_any B (pre ++ cur ++ Z) S w5 HB5 (by omega) (by omega) hs5).mono ?_);rintro e w6 ⟨rfl, HB6, hb6⟩;have hbr6 := hbr5.trans hb6;clear HB5 hb6 hbr5 hs5;go_wp2;go_roundw
     case rel => exact ⟨(j : Int) - 1, by omega, by omega, rfl, by rw [show ((j : Int) - 1 + 1).toNat = j by omega, HST.out]; simpa [List.append_assoc] using HB6, hbr6⟩
     case measure => simp [intOf]
    ·have hst := Bi.outT_last (show j + 1 = L1.length by omega) HZ.out;rw [itoa_nat];rw [← hcur] at hst;generalize Lib.decDigits z = S at *;have HST := hii hst;have hS9 : S.length ≤ 9 := by omega
     have hc1 : ¬ (j : Int) < (L1.length : Int) - 1 := by omega
     clear hst hcur hlz hl9 hjj HO;go_wp2_with fail;(with_reducible refine (write_any B (pre ++ cur) S w3 HB3 (by omega) (by omega) hs3).mono ?_);rintro e w6 ⟨rfl, HB6, hb6⟩;have hbr6 := hbr3.trans hb6;clear HB3 hb6 hbr3 hs3 p0 p1 hE3;go_wp2;go_roundw
     case rel => exact ⟨(j : Int) - 1, by omega, by omega, rfl, by rw [show ((j : Int) - 1 + 1).toNat = j by omega, HST.out]; simpa [List.append_assoc] using HB6, hbr6⟩
     case measure => simp [intOf]
end Go.Proofs.YtgfpbghgpdpepaaGreatDoor
namespace Go.Proofs.YtgfpbghgpdpepaaGreatDoor
open Go.RowKit
theorem enc_digit (y : Nat) : Utf8.encode (48 + (y : Int) % 10) = ⟨[UInt8.ofNat (48 + y % 10)].toArray⟩ := by
 have key : ∀ d : Nat, d < 10 → Utf8.encode (48 + (d : Int)) = ⟨[UInt8.ofNat (48 + d)].toArray⟩ := by
  intro d hd;have h : d = 0 ∨ d = 1 ∨ d = 2 ∨ d = 3 ∨ d = 4 ∨ d = 5 ∨ d = 6 ∨ d = 7 ∨ d = 8 ∨ d = 9 := by omega
  rcases h with rfl | rfl | rfl | rfl | rfl | rfl | rfl | rfl | rfl | rfl <;> rfl
 have := key (y % 10) (Nat.mod_lt _ (by decide));rw [Int.natCast_emod] at this;exact this
theorem ba_cat (a b : List UInt8) : (⟨a.toArray⟩ : ByteArray) ++ ⟨b.toArray⟩ = ⟨(a ++ b).toArray⟩ := by
 apply ByteArray.ext
 simp
theorem fmt_rel {z k y : Nat} {low : List UInt8} (HY : y = z / 10 ^ k) : Value.string (Utf8.encode (48 + (y : Int) % 10) ++ ⟨(Bi.lastD k z ++ low).toArray⟩) = Value.string ⟨(Bi.lastD (k + 1) z ++ low).toArray⟩ := by
 rw [enc_digit, ba_cat, Bi.lastD_front, ← HY]
 rfl
theorem cat_small {y z k i : Nat} {L : List Nat} (hk : k ≤ 9) (hi : i < L.length) (hl : L.length ≤ 34) : (Utf8.encode (48 + (y : Int) % 10)).size + ((Bi.lastD k z).length + (Bi.refT L i).length) ≤ 1000 := by
 have hs1 : (Utf8.encode (48 + (y : Int) % 10)).size ≤ 1 := by
  rw [enc_digit]; exact Nat.le_refl 1
 have hs2 : (Bi.lastD k z).length ≤ 9 := by rw [Bi.lastD_length]; omega
 have hs3 : (Bi.refT L i).length ≤ 306 := by unfold Bi.refT; rw [if_pos hi, Bi.lastD_length]; omega
 omega
theorem rFormat_any (a : Value) (x : Int) (w : World) (ha : IntV w a x) :
  Calls Tryz.prog 144 #[a] w fun e w' => e = .returned (.string ⟨(Lib.itoa x).toArray⟩) ∧ Below w.heap.size w w' := by
 obtain ⟨n1, ao1, L1, c1, rfl, Hn1, HL1, HB1, hc1, hl1, hU1⟩ := id ha;go_enter Tryz.func144, Tryz.ntmps144;have hbw := bA w (.cells #[.bool n1, .slice ao1 L1.length c1] 32);have B1 := Box.new w (.bool n1) (.slice ao1 L1.length c1) 32;have hU := hU1.mono hbw;clear hU1 ha;have Hit : Hid (Lib.itoa x = (if n1 = true then [45] else []) ++ Lib.decDigits x.natAbs) := hii (by
  unfold Lib.itoa;rw [Hn1.out]
  by_cases h : x < 0
  ·simp [h]
  ·simp [h, show x.toNat = x.natAbs by omega])
 obtain ⟨p0, p1, _, _⟩ := id B1
 by_cases hL : L1 = []
 ·subst hL;have hx : x.natAbs = 0 := by
   have := congrArg Bi.val HL1.out;rw [Bi.val_limbs] at this;exact this.symm
  have hx0 : x = 0 := by omega
  subst hx0;have hz : Hid (Lib.itoa 0 = [48]) := hii (by
   unfold Lib.itoa;rw [if_neg (by decide), show Int.toNat 0 = 0 from rfl, Lib.decDigits_one (by decide)]
   rfl)
  clear Hit hx hU;go_wp2;go_ret;exact ⟨by rw [hz.out]; rfl, hbw⟩
 have hlen : 1 ≤ L1.length := by
  have := List.length_pos_iff.2 hL;omega
 have HV : Hid (Bi.val L1 = x.natAbs) := hii (by rw [HL1.out, Bi.val_limbs]);have HOK : Hid (Bi.Ok L1) := hii (by rw [HL1.out]; exact Bi.limbs_ok _);clear hL;go_upto_region 3 with fail;generalize w.alloc (.cells #[.bool n1, .slice ao1 L1.length c1] 32) = w1 at *;go_wp2_with fail;go_loop [3, 4, 5, 6] (fun s3 s4 _ _ => ∃ i : Nat, i ≤ L1.length ∧ s4 = .int .i64 i ∧ s3 = .string ⟨(Bi.refT L1 i).toArray⟩) (fun _ s4 _ _ => L1.length - (intOf s4).toNat)
 case atStart =>
  refine ⟨0, by omega, rfl, ?_⟩;unfold Bi.refT;rw [if_pos (by omega)]
  rfl
 case round =>
  obtain ⟨i, hi, rfl, rfl⟩ := hrel
  by_cases hlt : i < L1.length
  ·obtain ⟨z, hz⟩ := get_some (l := L1) (k := i) (by omega);obtain ⟨b1, o1, rfl, hcz⟩ := hU.at' hz;have bz := HOK.out.at' hz;have HZ := hii (Bi.getD_of hz);have HBZ := hii bz;clear hz bz;go_wp2_with fail;clear hcz;go_loop [3, 5, 6] (fun s3 s5 s6 => ∃ k y : Nat, k ≤ 9 ∧ y < 1000000000 ∧ s6 = .int .i64 k ∧ s5 = .int .u32 y ∧ s3 = .string ⟨(Bi.lastD k z ++ Bi.refT L1 i).toArray⟩ ∧ Hid (y = z / 10 ^ k) ∧ Hid (i + 1 = L1.length → k = 0 ∨ z / 10 ^ (k - 1) ≠ 0)) (fun _ _ s6 => (9 - intOf s6).toNat)
   case atStart => exact ⟨0, z, by omega, by have := HBZ.out; omega, rfl, rfl, rfl, hii (by simp), hii fun _ => .inl rfl⟩
   case round =>
    obtain ⟨k, y, hk, hy, rfl, rfl, rfl, HY, HK⟩ := hrel
    by_cases hgo : k < 9 ∧ (0 < y ∨ i + 1 < L1.length)
    ·obtain ⟨hk9, hor⟩ := hgo;have HOR := hii hor;have hrel1 := fmt_rel (low := Bi.refT L1 i) HY.out;have hy1 : ((y : Int) / 10) = ((y / 10 : Nat) : Int) := by omega
     have HR1 := hii hrel1;have HY1 := hii hy1;have HY2 : Hid (y / 10 = z / 10 ^ (k + 1)) := hii (by rw [HY.out, Nat.div_div_eq_div_mul, Nat.pow_succ]);clear hrel1 hy1;have hyc : (0 : Int) < (y : Int) ∨ (decide (0 < y) = false ∧ (i : Int) < (L1.length : Int) - 1) := by
      by_cases h : 0 < y
      ·exact .inl (by omega)
      ·exact .inr ⟨by simpa using h, by rcases hor with h' | h'; omega; omega⟩
     clear hor;rcases hyc with hy0 | ⟨hy0, hi0⟩
     all_goals
      go_wp2
      ·have := cat_small (y := y) (z := z) hk hlt hl1; omega
      ·refine ⟨⟨k + 1, y / 10, by omega, by omega, by go_num, by rw [← HY1.out], HR1.out, HY2, hii fun hl => .inr (by rw [Nat.add_sub_cancel, ← HY.out]; have := HOR.out; omega)⟩, ?_⟩;simp [intOf]; omega
    ·have hend : Hid (Bi.lastD k z ++ Bi.refT L1 i = Bi.refT L1 (i + 1)) := hii (by
      by_cases hl : i + 1 < L1.length
      ·obtain rfl : k = 9 := by omega
       exact Bi.refT_step HOK.out hl HZ.out
      ·have hl' : i + 1 = L1.length := by omega
       refine Bi.refT_last HL1.out HOK.out hl' HZ.out ?_ (HK.out hl')
       by_cases hk9 : k < 9
       ·have : y = 0 := by omega
        rw [← HY.out]; exact this
       ·obtain rfl : k = 9 := by omega
        exact Nat.div_eq_of_lt HBZ.out)
     have hex : decide ((k : Int) < 9) = false ∨ ((k : Int) < 9 ∧ decide (0 < y) = false ∧ decide ((i : Int) < (L1.length : Int) - 1) = false) := by
      simp only [decide_eq_false_iff_not]; omega
     clear hgo HY HK;rcases hex with hk9 | ⟨hk9, hy0, hi0⟩
     all_goals
      go_wp2;refine ⟨⟨i + 1, by omega, by go_num, by rw [hend.out]⟩, ?_⟩;simp [intOf]; omega
  ·obtain rfl : i = L1.length := by omega
   have HF : Hid (Bi.refT L1 L1.length = Lib.decDigits x.natAbs) := hii (by
    unfold Bi.refT;rw [if_neg (by omega), HV.out])
   have hs3 : (Bi.refT L1 L1.length).length ≤ 300 := by
    have := Bi.outT_len (L := L1) (by rw [HV.out]; exact HB1.out) 0;unfold Bi.outT at this;rw [if_pos (by omega), List.drop_zero, HV.out] at this;rw [HF.out];exact this
   clear HL1 HB1 hU
   cases n1
   ·go_wp2;go_ret;exact ⟨by rw [Hit.out, HF.out]; rfl, hbw⟩
   ·go_wp2;go_ret;exact ⟨by rw [Hit.out, HF.out]; rfl, hbw⟩
end Go.Proofs.YtgfpbghgpdpepaaGreatDoor
namespace Bi
open Go.Lib (decDigits nDigits itoa)
def sgnT (neg : Bool) (v : Nat) : Int := if neg then -(v : Int) else v
theorem val_snoc_dig {c : List UInt8} {z : UInt8} : decVal (c ++ [z]) = 10 * decVal c + (z.toNat - 48) := by
 rw [decVal_append]; simp [decVal]; omega
end Bi
namespace Bi
def Sm (x : Nat) : Prop := x < 1000000000
end Bi
namespace Go.Proofs.YtgfpbghgpdpepaaGreatDoor
open Go.RowKit
end Go.Proofs.YtgfpbghgpdpepaaGreatDoor
namespace Go.Proofs.YtgfpbghgpdpepaaGreatDoor
open Go.RowKit
def RParse (w' : World) (neg : Bool) (t s : List UInt8) (e : Ending) : Prop :=
 ∃ (ng : Bool) (ao : Option Addr) (n cap : Nat) (k : Int), e = .returned (.tuple #[.agg #[.bool ng, .slice ao n cap], .int .i64 k]) ∧
  Hid (((∀ b ∈ t, Bi.isDig b) ∧ t ≠ [] ∧ t.length ≤ 300 ∧ Lib.itoa (sgn neg (Bi.decVal t)) = s ∧ IntV w' (.agg #[.bool ng, .slice ao n cap]) (sgn neg (Bi.decVal t)) ∧ k = 0) ∨
   (¬ ((∀ b ∈ t, Bi.isDig b) ∧ t ≠ [] ∧ t.length ≤ 300 ∧ Lib.itoa (sgn neg (Bi.decVal t)) = s) ∧ ng = false ∧ ao = none ∧ n = 0 ∧ cap = 0 ∧ k = 2))
theorem RParse.err {w' : World} {neg : Bool} {t s : List UInt8} (h : ¬ ((∀ b ∈ t, Bi.isDig b) ∧ t ≠ [] ∧ t.length ≤ 300 ∧ Lib.itoa (sgn neg (Bi.decVal t)) = s)) :
  RParse w' neg t s (.returned (.tuple #[.agg #[.bool false, .slice none 0 0], .int .i64 2])) :=
 ⟨false, none, 0, 0, 2, rfl, hii (.inr ⟨h, rfl, rfl, rfl, rfl, rfl⟩)⟩
end Go.Proofs.YtgfpbghgpdpepaaGreatDoor
namespace Go.Proofs.YtgfpbghgpdpepaaGreatDoor
open Go.RowKit
end Go.Proofs.YtgfpbghgpdpepaaGreatDoor
namespace Bi
open Go.Lib (decDigits nDigits itoa)
theorem dec_all (n : Nat) : (∀ b ∈ decDigits n, isDig b) ∧ decVal (decDigits n) = n ∧ decDigits n ≠ [] ∧ (n ≠ 0 → (decDigits n).head? ≠ some 48) := by
 induction n using Nat.strongRecOn with
 | ind n ih =>
  by_cases h : n < 10
  ·rw [Go.Lib.decDigits_one h];have hb : (UInt8.ofNat (48 + n)).toNat = 48 + n := by
    rw [UInt8.toNat_ofNat']; omega
   refine ⟨fun b hb' => ?_, ?_, by simp, fun h0 => ?_⟩
   ·simp only [List.mem_singleton] at hb';subst hb';unfold isDig; rw [hb]; omega
   ·simp only [decVal, hb, List.length_nil, Nat.pow_zero]; omega
   ·intro e;simp only [List.head?_cons, Option.some.injEq] at e;have := congrArg UInt8.toNat e;rw [hb] at this;have h48 : (48 : UInt8).toNat = 48 := rfl;omega
  ·obtain ⟨h1, h2, h3, h4⟩ := ih (n / 10) (by omega);have hb : (UInt8.ofNat (48 + n % 10)).toNat = 48 + n % 10 := by
    rw [UInt8.toNat_ofNat']; omega
   rw [decDigits, dif_neg h];refine ⟨fun b hb' => ?_, ?_, by simp, fun _ => ?_⟩
   ·rcases List.mem_append.1 hb' with hb' | hb'
    ·exact h1 b hb'
    ·simp only [List.mem_singleton] at hb';subst hb';unfold isDig; rw [hb]; omega
   ·rw [val_snoc_dig, h2, hb]; omega
   ·have := h4 (by omega)
    cases hd : decDigits (n / 10) with
    | nil => exact absurd hd h3
    | cons x r =>
     rw [hd] at this
     simpa using this
theorem dec_len {n : Nat} (h : n < Big) : (decDigits n).length ≤ 300 := by
 rw [Go.Lib.decDigits_length]
 by_cases h0 : n = 0
 ·rw [h0, Go.Lib.nDigits_small (by decide)]; decide
 ·have h3 : ∀ a k : Nat, k = a + a → 10 ^ a * 10 ^ a = 10 ^ k := fun a k hk => by rw [hk, Nat.pow_add]
  obtain ⟨k, hk⟩ : ∃ k : Nat, k = 300 := ⟨_, rfl⟩;rw [← hk];exact (nd_le h0).2 (Nat.lt_of_lt_of_eq h (h3 150 k (by omega)))
theorem itoa_parts {z : Int} (h : z.natAbs < Big) : ∃ (neg : Bool) (t : List UInt8), itoa z = (if neg = true then [45] else []) ++ t ∧ Go.Lib.hasPrefix (itoa z) [45] = neg ∧ Go.Lib.trimPrefix (itoa z) [45] = t ∧ textP neg t ∧ sgnT neg (decVal t) = z := by
 obtain ⟨h1, h2, h3, h4⟩ := dec_all z.natAbs;have hl := dec_len h
 by_cases hz : z < 0
 ·have e : itoa z = 45 :: decDigits z.natAbs := by unfold itoa; rw [if_pos hz]
  have hp : Go.Lib.hasPrefix (45 :: decDigits z.natAbs) [45] = true := by simp [Go.Lib.hasPrefix]
  refine ⟨true, decDigits z.natAbs, by rw [e]; rfl, by rw [e]; exact hp, by rw [e]; unfold Go.Lib.trimPrefix; rw [if_pos hp]; rfl, ⟨h3, hl, h1, fun hh => h4 (by omega) hh.1⟩, ?_⟩;simp only [sgnT, if_true, h2]; omega
 ·have e : itoa z = decDigits z.natAbs := by unfold itoa; rw [if_neg hz, show z.toNat = z.natAbs by omega]
  have hp : Go.Lib.hasPrefix (decDigits z.natAbs) [45] = false := by
   cases hd : decDigits z.natAbs with
   | nil => exact absurd hd h3
   | cons x r =>
    have hx : isDig x := h1 x (by rw [hd]; simp);have hb : ((45 : UInt8) == x) = false := by
     rw [beq_eq_false_iff_ne];rintro rfl;unfold isDig at hx;have : (45 : UInt8).toNat = 45 := rfl;omega
    unfold Go.Lib.hasPrefix;rw [List.isPrefixOf, hb]
    rfl
  refine ⟨false, decDigits z.natAbs, by rw [e]; rfl, by rw [e]; exact hp, by rw [e]; unfold Go.Lib.trimPrefix; rw [if_neg (by rw [hp]; simp)], ⟨h3, hl, h1, fun hh => ?_⟩, ?_⟩
  ·by_cases h0 : z.natAbs = 0
   ·rw [h0, Go.Lib.decDigits_one (by decide)] at hh;simp at hh
   ·exact h4 h0 hh.1
  ·simp only [sgnT, Bool.false_eq_true, if_false, h2]; omega
end Bi
