import Derived.Test.YtgfpbghgpdpepaaGreatDoorI1
import Derived.Lib.ItoaNum
import Derived.Test.YtgfpbghgpdpepaaGreatDoorShelf
import Derived.WalkSmall
import Derived.Lib.AppendIntMem
import Derived.Deep.RegionHeld3
set_option maxRecDepth 100000
set_option maxHeartbeats 25600000
namespace Bi
open Go.Lib (nDigits decDigits)
def Big : Nat := 10 ^ 150 * 10 ^ 150
theorem big_lt_limbs : Big ≤ 1000000000 ^ 34 := by
 unfold Big; decide +kernel
theorem nd_le {n k : Nat} (hn : n ≠ 0) : nDigits n ≤ k ↔ n < 10 ^ k := by
 have h1 := Go.Lib.lt_pow_nDigits n;have h0 := Go.Lib.nDigits_pos n
 constructor
 ·intro h;exact Nat.lt_of_lt_of_le h1 (Nat.pow_le_pow_right (by decide) h)
 ·intro h
  apply Nat.le_of_not_lt
  intro hk;have h2 : 10 ^ (nDigits n - 1) ≤ n := by
   clear h h1 h0 hk
   induction n using Nat.strongRecOn with
   | _ n ih =>
    by_cases h : n < 10
    ·rw [Go.Lib.nDigits_small h]; simp; omega
    ·rw [Go.Lib.nDigits_big h];have := ih (n / 10) (by omega) (by omega);have hp := Go.Lib.nDigits_pos (n / 10);obtain ⟨j, hj⟩ : ∃ j, nDigits (n / 10) = j + 1 := ⟨nDigits (n / 10) - 1, by omega⟩;rw [hj] at this ⊢;simp only [Nat.add_sub_cancel] at this ⊢;rw [Nat.pow_succ]; omega
  have h3 : 10 ^ k ≤ 10 ^ (nDigits n - 1) := Nat.pow_le_pow_right (by decide) (by omega);omega
theorem pow9 (m : Nat) : (1000000000 : Nat) ^ m = 10 ^ (9 * m) := by
 rw [show (1000000000 : Nat) = 10 ^ 9 from rfl, ← Nat.pow_mul]
theorem nd_limbs {l : List Nat} {x : Nat} (ho : Ok l) (hx : x ≠ 0) : nDigits (val (l ++ [x])) = 9 * l.length + nDigits x := by
 have h1 : 1 ≤ nDigits x := Go.Lib.nDigits_pos x;have h2 := Go.Lib.lt_pow_nDigits x;have h3 : 10 ^ (nDigits x - 1) ≤ x := by
  apply Nat.le_of_not_lt
  intro h;have := (nd_le hx).2 h;omega
 rw [val_snoc, pow9];have hv := val_lt ho;rw [pow9] at hv;obtain ⟨j, hj⟩ : ∃ j, nDigits x = j + 1 := ⟨nDigits x - 1, by omega⟩;rw [hj] at h2 h3 ⊢;simp only [Nat.add_sub_cancel] at h3;rw [show 9 * l.length + (j + 1) = (9 * l.length + j) + 1 by omega]
 apply Go.Lib.nDigits_unique
 ·rw [Nat.pow_add];have := Nat.mul_le_mul_left (10 ^ (9 * l.length)) h3;omega
 ·rw [Nat.add_assoc, Nat.pow_add];have : 10 ^ (9 * l.length) * (x + 1) ≤ 10 ^ (9 * l.length) * 10 ^ (j + 1) := Nat.mul_le_mul_left _ h2;rw [Nat.mul_add, Nat.mul_one] at this;omega
def dlen (n : Nat) : Nat := if n = 0 then 0 else nDigits n
theorem dlen_le {n : Nat} : dlen n ≤ 300 ↔ n < Big := by
 unfold dlen
 by_cases h : n = 0
 ·subst h; simp [Big]
 ·rw [if_neg h];have key : ∀ a b : Nat, nDigits n ≤ a + b ↔ n < 10 ^ a * 10 ^ b := by intro a b; rw [nd_le h, Nat.pow_add]
  exact key 150 150
theorem dlen_limbs {n : Nat} {l : List Nat} {x : Nat} (h : l ++ [x] = limbs n) : dlen n = 9 * l.length + nDigits x ∧ x ≠ 0 ∧ x < 1000000000 := by
 have hn : n ≠ 0 := by rintro rfl; rw [limbs_zero] at h; simp at h
 have ho : Ok (l ++ [x]) := by rw [h]; exact limbs_ok n
 have hc : Canon (l ++ [x]) := by rw [h]; exact limbs_canon n
 have hx : x ≠ 0 := by have := hc (by simp); simpa using this
 refine ⟨?_, hx, ho x (by simp)⟩;unfold dlen;rw [if_neg hn, ← nd_limbs ho.left hx, h, val_limbs]
theorem nd_small {x : Nat} (h : x < 1000000000) : nDigits x ≤ 9 := by
 by_cases h0 : x = 0
 ·subst h0; rw [Go.Lib.nDigits_small (by decide)]; decide
 ·rw [nd_le h0]; exact h
theorem dlen_step {y : Nat} (h : 0 < y) : dlen y = dlen (y / 10) + 1 := by
 unfold dlen;rw [if_neg (by omega)]
 by_cases h2 : y < 10
 ·rw [Go.Lib.nDigits_small h2, if_pos (by omega)]
 ·rw [Go.Lib.nDigits_big h2, if_neg (by omega)]
/-! ### division -/
theorem short_step {u q : List Nat} {i v rest x : Nat} (_hv : 0 < v) (hi : i < u.length) (hql : q.length = u.length) (hx : u.getD i 0 = x) (hinv : val (q.drop (i + 1)) * v + rest = val (u.drop (i + 1))) :
  val ((q.set i ((rest * 1000000000 + x) / v)).drop i) * v + (rest * 1000000000 + x) % v = val (u.drop i) := by
 have h1 : (q.set i ((rest * 1000000000 + x) / v)).drop i = ((rest * 1000000000 + x) / v) :: q.drop (i + 1) := by
  rw [List.drop_eq_getElem_cons (by simp; omega)];simp only [List.getElem_set_self, List.cons.injEq, true_and]
  apply List.ext_getElem?
  intro j;rw [List.getElem?_drop, List.getElem?_drop, List.getElem?_set_ne (by omega)]
 have h2 : u.drop i = x :: u.drop (i + 1) := by
  rw [List.drop_eq_getElem_cons hi];rw [List.getD_eq_getElem?_getD, gE hi] at hx;simp only [Option.getD_some] at hx;rw [hx]
 rw [h1, h2];simp only [val];rw [← hinv, Nat.add_mul];have h3 := Nat.div_add_mod (rest * 1000000000 + x) v;have h4 : (rest * 1000000000 + x) / v * v = v * ((rest * 1000000000 + x) / v) := Nat.mul_comm _ _;have h5 : 1000000000 * val (q.drop (i + 1)) * v = 1000000000 * (val (q.drop (i + 1)) * v) := Nat.mul_assoc _ _ _;rw [h4, h5];omega
theorem short_digit {rest v x : Nat} (hr : rest < v) (hv : v < 1000000000) (hx : x < 1000000000) : (rest * 1000000000 + x) / v < 1000000000 := by
 rw [Nat.div_lt_iff_lt_mul (by omega)];have : (rest + 1) * 1000000000 ≤ v * 1000000000 := Nat.mul_le_mul_right _ hr;rw [Nat.mul_comm 1000000000 v];omega
theorem short_end {n v q r : Nat} (hr : r < v) (h : q * v + r = n) : q = n / v ∧ r = n % v := by
 have hv : 0 < v := by omega
 subst h
 constructor
 ·rw [Nat.add_comm, Nat.add_mul_div_right _ _ hv, Nat.div_eq_of_lt hr]; omega
 ·rw [Nat.add_comm, Nat.add_mul_mod_self_right, Nat.mod_eq_of_lt hr]
theorem scaled_step {o u : List Nat} {k c d s : Nat} (hk : k < o.length) (hs : s = c + u.getD k 0 * d) (hinv : val (o.take k) + 1000000000 ^ k * c = val (u.take k) * d) :
  val ((o.set k (s % 1000000000)).take (k + 1)) + 1000000000 ^ (k + 1) * (s / 1000000000) = val (u.take (k + 1)) * d := by
 have h1 : (o.set k (s % 1000000000)).take (k + 1) = o.take k ++ [s % 1000000000] := by
  rw [List.take_succ_eq_append_getElem (by simpa using hk)];simp only [List.getElem_set_self]
  congr 1
  apply List.ext_getElem?
  intro j
  by_cases hj : j < k
  ·rw [List.getElem?_take_of_lt hj, List.getElem?_take_of_lt hj, List.getElem?_set_ne (by omega)]
  ·rw [List.getElem?_eq_none (by simp; omega), List.getElem?_eq_none (by simp; omega)]
 rw [h1, val_snoc, val_take_succ, Nat.pow_succ, Nat.add_mul, List.length_take, Nat.min_eq_left (Nat.le_of_lt hk)];have h2 : 1000000000 ^ k * s = 1000000000 ^ k * (s % 1000000000) + 1000000000 ^ k * 1000000000 * (s / 1000000000) := by
  rw [Nat.mul_assoc, ← Nat.mul_add, Nat.mod_add_div]
 have h3 : 1000000000 ^ k * s = 1000000000 ^ k * c + 1000000000 ^ k * u.getD k 0 * d := by rw [hs, Nat.mul_add, Nat.mul_assoc]
 omega
end Bi
namespace Go.Proofs.YtgfpbghgpdpepaaGreatDoor
open Go.RowKit
structure Env (w : World) : Prop where
 tab : Lib.TabIs Tryz.prog w "internal/strconv.uint64pow10" .u64 Lib.pow10Tab
theorem var_mono {w w' : World} (hb : Below w.heap.size w w') {n : String} {cs : Array Value} (h : w.var? Tryz.prog n = some cs) : w'.var? Tryz.prog n = some cs := by
 unfold World.var? at h
 cases hg : Tryz.prog.globalNamed n with
 | none => simp [hg] at h
 | some g =>
  have hlt : g < w.heap.size := by
   simp only [hg, Option.bind_some] at h
   by_cases hb : g < w.heap.size
   ·exact hb
   ·rw [Array.getElem?_eq_none (by omega)] at h; simp at h
  exact var?_below hb hg hlt (by unfold World.var?; exact h)
theorem Env.mono {w w' : World} (h : Env w) (hb : Below w.heap.size w w') : Env w' := ⟨var_mono hb h.tab⟩
theorem itoa_any (n : Int) (h0 : -9223372036854775808 ≤ n) (h1 : n ≤ 9223372036854775807) (w : World) (hE : Env w) :
  Calls Tryz.prog 204 #[.int .i64 n] w fun e w' => e = .returned (.string ⟨(Lib.itoa n).toArray⟩) ∧ Below w.heap.size w w' :=
 (Tryz.strconv_Itoa n h0 h1 w hE.tab).mono fun e w' ⟨h, k, os, h2⟩ => ⟨h, by rw [h2]; exact Lib.below_grow _ _ nl _ _⟩
theorem itoa_len (x : Nat) : (Lib.itoa (x : Int)).length = Lib.nDigits x := by
 unfold Lib.itoa;rw [if_neg (by omega), Int.toNat_natCast, Lib.decDigits_length]
theorem digits_any (n : Nat) (l : List Nat) (HL : Hid (l = Bi.limbs n)) (ao : Option Addr) (cap : Nat) (w : World) (hm : l.length ≤ 1000000000000) (hU : U w ao l) (hE : Env w) :
  Calls Tryz.prog 194 #[.slice ao l.length cap] w fun e w' => (∃ d : Nat, Hid (d = Bi.dlen n) ∧ d ≤ 10000000000000 ∧ e = .returned (.int .i64 d)) ∧ Below w.heap.size w w' := by
 obtain rfl | ⟨r, x, rfl⟩ : l = [] ∨ ∃ r x, l = r ++ [x] := by
  rcases List.eq_nil_or_concat l with h | ⟨r, x, h⟩
  ·exact .inl h
  ·exact .inr ⟨r, x, by rw [h, List.concat_eq_append]⟩
 ·have h0 : Hid (Bi.dlen n = 0) := hii (by rw [Bi.limbs_eq_nil.1 HL.out.symm]; rfl);clear hU;go_enter Tryz.func194, Tryz.ntmps194;go_wp2;go_ret;exact ⟨⟨0, hii h0.out.symm, by omega, rfl⟩, br⟩
 ·obtain ⟨h1, h2, h3⟩ := Bi.dlen_limbs HL.out;have H1 := hii h1; clear h1;obtain ⟨b, off, rfl, hc⟩ := hU.at' (k := r.length) (x := x) (by simp);clear hU;have hl : (r ++ [x]).length = r.length + 1 := by simp
  rw [hl] at hm ⊢;clear hl;go_enter Tryz.func194, Tryz.ntmps194;go_wp2_with fail;refine (itoa_any (x : Int) (by omega) (by omega) _ hE).mono ?_;rintro e w1 ⟨rfl, hb1⟩;have hl9 := Bi.nd_small h3;have hli := itoa_len x;generalize hL : Lib.itoa (x : Int) = L at hli ⊢;clear hL;have HLI := hii hli;have hll : L.length ≤ 9 := by omega
  clear hli hl9;go_wp2;go_ret;refine ⟨⟨9 * r.length + L.length, hii ?_, by omega, ?_⟩, hb1⟩
  ·rw [H1.out, HLI.out]
  ·exact ret_int (by omega)
theorem rdigits_any (n : Nat) (l : List Nat) (HL : Hid (l = Bi.limbs n)) (ao : Option Addr) (cap : Nat) (w : World) (hm : l.length ≤ 1000000000000) (hU : U w ao l) :
  Calls Tryz.prog 158 #[.slice ao l.length cap] w fun e w' => (∃ d : Nat, Hid (d = Bi.dlen n) ∧ d ≤ 10000000000000 ∧ e = .returned (.int .i64 d)) ∧ w = w' := by
 obtain rfl | ⟨r, x, rfl⟩ : l = [] ∨ ∃ r x, l = r ++ [x] := by
  rcases List.eq_nil_or_concat l with h | ⟨r, x, h⟩
  ·exact .inl h
  ·exact .inr ⟨r, x, by rw [h, List.concat_eq_append]⟩
 ·have h0 : Hid (Bi.dlen n = 0) := hii (by rw [Bi.limbs_eq_nil.1 HL.out.symm]; rfl);clear hU;go_enter Tryz.func158, Tryz.ntmps158;go_wp2;go_ret;exact ⟨⟨0, hii h0.out.symm, by omega, rfl⟩, rfl⟩
 ·obtain ⟨h1, h2, h3⟩ := Bi.dlen_limbs HL.out;have H1 := hii h1; clear h1;have h4 := Bi.nd_small h3;have H4 : Hid (Bi.dlen x ≤ 9 ∧ Bi.dlen x = Lib.nDigits x) := hii (by unfold Bi.dlen; rw [if_neg h2]; exact ⟨h4, rfl⟩);clear h4 h2;obtain ⟨b, off, rfl, hc⟩ := hU.at' (k := r.length) (x := x) (by simp);clear hU;have hl : (r ++ [x]).length = r.length + 1 := by simp
  rw [hl] at hm ⊢;clear hl;go_enter Tryz.func158, Tryz.ntmps158;go_wp2;go_loop [3, 4] (fun s3 s4 => ∃ y d : Nat, s4 = .int .u32 y ∧ s3 = .int .i64 ((9 * r.length + d : Nat) : Int) ∧ y < 1000000000 ∧ d ≤ 9 ∧ Hid (d + Bi.dlen y = Bi.dlen x)) (fun _ s4 => (intOf s4).toNat)
  case atStart => exact ⟨x, 0, rfl, by go_num, h3, by omega, hii (by simp)⟩
  case round =>
   obtain ⟨y, d, rfl, rfl, hy, hd, HI⟩ := hrel;clear hc
   by_cases hy0 : (0 : Int) < (y : Int)
   ·have h5 := Bi.dlen_step (y := y) (by omega);have h6 := HI.out;have h7 := H4.out.1;have hd2 : d + 1 ≤ 9 := by omega
    have HI2 : Hid (d + 1 + Bi.dlen (y / 10) = Bi.dlen x) := hii (by omega);clear h5 h6 h7;go_wp2;go_round
    case rel => exact ⟨y / 10, d + 1, by go_num, by go_num, by omega, hd2, HI2⟩
    case measure => simp [intOf]; omega
   ·obtain rfl : y = 0 := by omega
    go_wp2;go_ret;refine ⟨⟨9 * r.length + d, hii ?_, by omega, rfl⟩, rfl⟩;have h6 := HI.out;have h7 := H4.out.2;rw [H1.out, ← h7, ← h6]
    rfl
def IntV (w : World) (v : Value) (z : Int) : Prop :=
 ∃ (neg : Bool) (ao : Option Addr) (L : List Nat) (cap : Nat), v = .agg #[.bool neg, .slice ao L.length cap] ∧ Hid (neg = decide (z < 0)) ∧ Hid (L = Bi.limbs z.natAbs) ∧ Hid (z.natAbs < Bi.Big) ∧
  L.length ≤ cap ∧ L.length ≤ 34 ∧ U w ao L
theorem IntV.mono {w w' : World} {v : Value} {z : Int} (h : IntV w v z) (hb : Below w.heap.size w w') : IntV w' v z := by
 obtain ⟨neg, ao, L, cap, e, h1, h2, h3, h4, h5, h6⟩ := h;exact ⟨neg, ao, L, cap, e, h1, h2, h3, h4, h5, h6.mono hb⟩
def sgn (neg : Bool) (n : Nat) : Int := if neg then -(n : Int) else n
theorem sgn_natAbs (neg : Bool) (n : Nat) : (sgn neg n).natAbs = n := by
 unfold sgn; split <;> omega
def ResK (w' : World) (z : Int) (v : Value) (k : Int) : Prop :=
 (z.natAbs < Bi.Big ∧ k = 0 ∧ IntV w' v z) ∨ (¬ z.natAbs < Bi.Big ∧ k = 3 ∧ v = .agg #[.bool false, .slice none 0 0])
def ResZ (w' : World) (z : Int) (e : Ending) : Prop :=
 ∃ (neg : Bool) (ao : Option Addr) (n cap : Nat) (k : Int), e = .returned (.tuple #[.agg #[.bool neg, .slice ao n cap], .int .i64 k]) ∧ Hid (ResK w' z (.agg #[.bool neg, .slice ao n cap]) k)
theorem ResK.mono {w w' : World} {z : Int} {v : Value} {k : Int} (h : ResK w z v k) (hb : Below w.heap.size w w') : ResK w' z v k :=
 h.imp (fun ⟨a, b, c⟩ => ⟨a, b, c.mono hb⟩) id
theorem IntV.zero (w : World) : IntV w (.agg #[.bool false, .slice none 0 0]) 0 :=
 ⟨false, none, [], 0, rfl, hii rfl, hii rfl, hii (by unfold Bi.Big; decide), nl, by simp, U.nil _ _⟩
theorem limbs_len34 {n : Nat} (h : n < Bi.Big) : (Bi.limbs n).length ≤ 34 := Bi.limbs_length_le (Nat.lt_of_lt_of_le h Bi.big_lt_limbs)
theorem result_any (neg : Bool) (l : List Nat) (ao : Option Addr) (cap : Nat) (w : World) (hm : l.length ≤ 1000000000) (hcap : l.length ≤ cap) (hU : U w ao l) (ho : Hid (Bi.Ok l)) (hE : Env w) :
  Calls Tryz.prog 170 #[.bool neg, .slice ao l.length cap] w fun e w' => ResZ w' (sgn neg (Bi.val l)) e ∧ Below w.heap.size w w' := by
 go_enter Tryz.func170, Tryz.ntmps170;go_wp2_with fail;refine (trim_any l ao cap _ (by omega) hcap (hU.mono (br.alloc nl _))).mono ?_;rintro e w1 ⟨L, hL, hLl, rfl, hUL, rfl⟩;have HL : Hid (L = Bi.limbs (Bi.val l)) := hii (by rw [hL, Bi.trim_eq_limbs ho.out]);have hUw : Hid (U w ao L) := hii (by obtain ⟨k, hk⟩ := Bi.trim_prefix l; rw [hL, hk]; exact hU.take k);clear hL;go_wp2_with fail;refine (digits_any _ L HL ao cap _ (by omega) hUL (hE.mono (br.alloc nl _))).mono ?_;rintro e w2 ⟨⟨d, HD, hd, rfl⟩, hb2⟩;obtain ⟨c0, c1, f0, f1, hsz, hbl⟩ := box2 hb2;have hU2 := hUL.mono hb2;clear hUL hU hb2 hE
 by_cases hd3 : (300 : Int) < (d : Int)
 ·have hbig : ¬ Bi.val l < Bi.Big := by rw [← Bi.dlen_le, ← HD.out]; omega
  have HB := hii hbig; clear hbig;go_wp2;refine bodyPost_ret (v := .tuple #[.agg #[.bool false, .slice none 0 0], .int .i64 3]) (by simp [results, Tryz.results170, go_sem, c0, c1]) rfl ⟨⟨false, none, 0, 0, 3, rfl, hii (.inr ⟨by rw [sgn_natAbs]; exact HB.out, rfl, rfl⟩)⟩, ?_⟩;exact (hbl.setCell nl _).setCell nl _
 ·have hbig : Bi.val l < Bi.Big := by rw [← Bi.dlen_le, ← HD.out]; omega
  have HB := hii hbig;have h34 : L.length ≤ 34 := by rw [HL.out]; exact limbs_len34 hbig
  clear hbig
  by_cases hL0 : L = []
  ·subst hL0;have hv0 : Bi.val l = 0 := Bi.limbs_eq_nil.1 HL.out.symm;have hz := hii hv0; clear hv0 hcap hU2 hLl;go_wp2;refine bodyPost_ret (v := .tuple #[.agg #[.bool false, .slice none 0 0], .int .i64 0]) (by simp [results, Tryz.results170, go_sem, c0, c1]) rfl ⟨⟨false, none, 0, 0, 0, rfl, hii (.inl ⟨by rw [sgn_natAbs]; exact HB.out, rfl, ?_⟩)⟩, ?_⟩
   ·rw [hz.out, show sgn neg 0 = 0 by unfold sgn; split <;> rfl];exact IntV.zero _
   ·exact (hbl.setCell nl _).setCell nl _
  ·have hL1 : 0 < L.length := List.length_pos_iff.2 hL0;have hv0 : Bi.val l ≠ 0 := fun h => hL0 (by rw [HL.out, h]; rfl)
   have hz := hii hv0;have hLz : ((L.length : Int) == 0) = false := by rw [beq_eq_false_iff_ne]; omega
   clear hv0;go_wp2;refine bodyPost_ret (v := .tuple #[.agg #[.bool neg, .slice ao L.length cap], .int .i64 0]) (by simp [results, Tryz.results170, go_sem, c0, c1]) rfl ⟨⟨neg, ao, L.length, cap, 0, rfl, hii (.inl ⟨by rw [sgn_natAbs]; exact HB.out, rfl, ?_⟩)⟩, ?_⟩
   ·refine ⟨neg, ao, L, cap, rfl, hii ?_, hii ?_, hii ?_, by omega, h34, ?_⟩
    ·have := hz.out;unfold sgn
     cases neg
     ·simp
     ·simp; omega
    ·rw [sgn_natAbs]; exact HL.out
    ·rw [sgn_natAbs]; exact HB.out
    ·exact hUw.out.mono ((hbl.setCell nl _).setCell nl _)
   ·exact (hbl.setCell nl _).setCell nl _
end Go.Proofs.YtgfpbghgpdpepaaGreatDoor
namespace Go.Proofs.YtgfpbghgpdpepaaGreatDoor
open Go.RowKit
theorem hup {w w' : World} {v : Value} {z : Int} (h : Hid (IntV w v z)) (hb : Below w.heap.size w w') : Hid (IntV w' v z) := hii (h.out.mono hb)
end Go.Proofs.YtgfpbghgpdpepaaGreatDoor
namespace Go.Proofs.YtgfpbghgpdpepaaGreatDoor
open Go.RowKit
theorem OwnU.lit0 (w : World) (B : Nat) (hB : B ≤ w.heap.size) : OwnU (w.alloc (.cells #[] 133)) B (.slice (some ⟨w.heap.size, 0, none⟩) 0 0) [] :=
 World.ownsRow_lit (base := B) (e := 133) (size := 1) w #[] 0 hB (by simp [maxLen]) (by simp)
theorem U.setCell {w : World} {ao : Option Addr} {l : List Nat} (hU : U w ao l) {p : Addr} {v : Value} (hne : ∀ b off, ao = some ⟨b, off, none⟩ → b ≠ p.block) : U (w.setCell p v) ao l := by
 intro i h;obtain ⟨b, off, e, hc⟩ := hU i h;refine ⟨b, off, e, ?_⟩;rw [World.cell?_of_block (w := w) (w' := w.setCell p v) (Below.heap_setCell w p v b (hne b off e))];exact hc
theorem OwnU.above {w : World} {B n cap : Nat} {ao : Option Addr} {l : List Nat} (h : OwnU w B (.slice ao n cap) l) : ∀ b off, ao = some ⟨b, off, none⟩ → B ≤ b := by
 rintro b off rfl;exact (World.ownsRow.lt h b rfl).1
theorem rmake_any (neg : Bool) (l : List Nat) (ao : Option Addr) (cap : Nat) (w : World) (hm : l.length ≤ 1000000000) (hU : U w ao l) (ho : Hid (Bi.Ok l)) :
  Calls Tryz.prog 125 #[.bool neg, .slice ao l.length cap] w fun e w' => ResZ w' (sgn neg (Bi.val l)) e ∧ Below w.heap.size w w' := by
 go_enter Tryz.func125, Tryz.ntmps125;have hU1 : ∀ o1 o2, U ((w.alloc o1).alloc o2) ao l := fun o1 o2 => hU.mono ((br.alloc nl _).alloc (by simp) _)
 have hown : OwnU ((w.alloc (.cells #[.bool false, .slice none 0 0] 32)).alloc (.cells #[] 133)) (w.heap.size + 1) (.slice (some ⟨w.heap.size + 1, 0, none⟩) 0 0) [] := by
  have := OwnU.lit0 (w.alloc (.cells #[.bool false, .slice none 0 0] 32)) (w.heap.size + 1) (by simp)
  simpa using this
 go_wp2_with (at_builtin; (refine app_all_u32 _ rfl _ _ rfl (w.alloc (.cells #[.bool false, .slice none 0 0] 32)) (w.heap.size + 1) _ [] rfl hown (by simp) (br.alloc (by simp) _) ao cap l rfl (hU1 _ _) (by simp; omega) ?_; intro v' w1 hown1 hb1));have hb1' : Below (w.alloc (.cells #[.bool false, .slice none 0 0] 32)).heap.size (w.alloc (.cells #[.bool false, .slice none 0 0] 32)) w1 := by simpa using hb1
 obtain ⟨c0, c1, f0, f1, hsz, hbl⟩ := box2 hb1';obtain ⟨ao1, cap1, rfl, hcap1, hU1'⟩ := hown1.read;have hab := hown1.above;simp only [List.nil_append] at hcap1 hU1' ⊢;clear hown1 hb1 hb1' hown hU1;refine (rtrim_any l ao1 cap1 _ (by omega) hcap1 hU1').mono ?_;rintro e w2 ⟨L, hL, hLl, rfl, hUL, rfl⟩;have HL : Hid (L = Bi.limbs (Bi.val l)) := hii (by rw [hL, Bi.trim_eq_limbs ho.out]);clear hL hU1';go_wp2_with fail;refine (rdigits_any _ L HL ao1 cap1 _ (by omega) hUL).mono ?_;rintro e w2 ⟨⟨d, HD, hd, rfl⟩, rfl⟩;clear hU;have hUf : ∀ x y, U ((w1.setCell ⟨w.heap.size, 0, none⟩ x).setCell ⟨w.heap.size, 1, none⟩ y) ao1 L := fun x y =>
  (hUL.setCell (fun b off e => by have := hab b off e; simp only; omega)).setCell (fun b off e => by have := hab b off e; simp only; omega)
 have HUf := hii hUf;clear hUf hUL hab
 by_cases hd3 : (300 : Int) < (d : Int)
 ·have hbig : ¬ Bi.val l < Bi.Big := by rw [← Bi.dlen_le, ← HD.out]; omega
  have HB := hii hbig; clear hbig;go_wp2;refine bodyPost_ret (v := .tuple #[.agg #[.bool false, .slice none 0 0], .int .i64 3]) (by simp [results, Tryz.results125, go_sem, c0, c1]) rfl ⟨⟨false, none, 0, 0, 3, rfl, hii (.inr ⟨by rw [sgn_natAbs]; exact HB.out, rfl, rfl⟩)⟩, ?_⟩;exact (hbl.setCell nl _).setCell nl _
 ·have hbig : Bi.val l < Bi.Big := by rw [← Bi.dlen_le, ← HD.out]; omega
  have HB := hii hbig;have h34 : L.length ≤ 34 := by rw [HL.out]; exact limbs_len34 hbig
  clear hbig
  by_cases hL0 : L = []
  ·subst hL0;have hv0 : Bi.val l = 0 := Bi.limbs_eq_nil.1 HL.out.symm;have hz := hii hv0; clear hv0 hcap1 hLl;go_wp2;refine bodyPost_ret (v := .tuple #[.agg #[.bool false, .slice none 0 0], .int .i64 0]) (by simp [results, Tryz.results125, go_sem, c0, c1]) rfl ⟨⟨false, none, 0, 0, 0, rfl, hii (.inl ⟨by rw [sgn_natAbs]; exact HB.out, rfl, ?_⟩)⟩, ?_⟩
   ·rw [hz.out, show sgn neg 0 = 0 by unfold sgn; split <;> rfl];exact IntV.zero _
   ·exact (hbl.setCell nl _).setCell nl _
  ·have hL1 : 0 < L.length := List.length_pos_iff.2 hL0;have hv0 : Bi.val l ≠ 0 := fun h => hL0 (by rw [HL.out, h]; rfl)
   have hz := hii hv0;have hLz : ((L.length : Int) == 0) = false := by rw [beq_eq_false_iff_ne]; omega
   clear hv0;go_wp2;refine bodyPost_ret (v := .tuple #[.agg #[.bool neg, .slice ao1 L.length cap1], .int .i64 0]) (by simp [results, Tryz.results125, go_sem, c0, c1]) rfl ⟨⟨neg, ao1, L.length, cap1, 0, rfl, hii (.inl ⟨by rw [sgn_natAbs]; exact HB.out, rfl, ?_⟩)⟩, ?_⟩
   ·refine ⟨neg, ao1, L, cap1, rfl, hii ?_, hii ?_, hii ?_, by omega, h34, HUf.out _ _⟩
    ·have := hz.out;unfold sgn
     cases neg
     ·simp
     ·simp; omega
    ·rw [sgn_natAbs]; exact HL.out
    ·rw [sgn_natAbs]; exact HB.out
   ·exact (hbl.setCell nl _).setCell nl _
end Go.Proofs.YtgfpbghgpdpepaaGreatDoor
namespace Go.Proofs.YtgfpbghgpdpepaaGreatDoor
open Go.RowKit
structure Box (w : World) (n : Nat) (x y : Value) : Prop where
 c0 : w.cell? ⟨n, 0, none⟩ = some x
 c1 : w.cell? ⟨n, 1, none⟩ = some y
 f0 : w.frozen? ⟨n, 0, none⟩ = false
 f1 : w.frozen? ⟨n, 1, none⟩ = false
theorem Box.lt {w : World} {n : Nat} {x y : Value} (h : Box w n x y) : n < w.heap.size := cell_lt h.c0
theorem Box.mono {w w' : World} {n : Nat} {x y : Value} (h : Box w n x y) (hb : Below w.heap.size w w') : Box w' n x y :=
 ⟨(hb.cell (p := ⟨n, 0, none⟩) h.lt).trans h.c0, (hb.cell (p := ⟨n, 1, none⟩) h.lt).trans h.c1, (hb.frozen (p := ⟨n, 0, none⟩) h.lt).trans h.f0, (hb.frozen (p := ⟨n, 1, none⟩) h.lt).trans h.f1⟩
theorem Box.new (w : World) (x y : Value) (t : TypeId) : Box (w.alloc (.cells #[x, y] t)) w.heap.size x y := ⟨by simp [go_sem], by simp [go_sem], by simp [go_sem], by simp [go_sem]⟩
theorem bA (w : World) (o : Obj) : Below w.heap.size w (w.alloc o) := br.alloc nl o
theorem boxes3 (w : World) (a b c d x y : Value) (t : TypeId) : ∃ wx, wx = ((w.alloc (.cells #[a, b] t)).alloc (.cells #[c, d] t)).alloc (.cells #[x, y] t) ∧ wx.heap.size = w.heap.size + 1 + 1 + 1 ∧
  Box wx w.heap.size a b ∧ Box wx (w.heap.size + 1) c d ∧ Box wx (w.heap.size + 1 + 1) x y ∧ Below w.heap.size w wx := by
 refine ⟨_, rfl, by simp, ?_, ?_, ?_, ?_⟩
 ·exact ((Box.new w a b t).mono (bA _ _)).mono (bA _ _)
 ·have := (Box.new (w.alloc (.cells #[a, b] t)) c d t).mono (bA _ (.cells #[x, y] t))
  simpa using this
 ·have := Box.new ((w.alloc (.cells #[a, b] t)).alloc (.cells #[c, d] t)) x y t
  simpa using this
 ·exact ((br.alloc nl _).alloc (by simp) _).alloc (by simp; omega) _
theorem U.put {w : World} {p : Addr} {x v : Value} {ao : Option Addr} {l : List Nat} (hp : w.cell? p = some x) (hx : ∀ n, x ≠ .int .u32 n) (hU : U w ao l) : U (w.setCell p v) ao l := by
 intro i h;obtain ⟨b, off, e, hc⟩ := hU i h;refine ⟨b, off, e, ?_⟩;rw [World.cell?_setCell_other w p ⟨b, off + i, none⟩ v (fun h => by rw [h, hc] at hp; exact hx _ (Option.some.inj hp).symm)];exact hc
theorem IntV.put {w : World} {p : Addr} {x v u : Value} {z : Int} (hp : w.cell? p = some x) (hx : ∀ n, x ≠ .int .u32 n) (h : IntV w u z) : IntV (w.setCell p v) u z := by
 obtain ⟨neg, ao, L, cap, e, h1, h2, h3, h4, h5, h6⟩ := h;exact ⟨neg, ao, L, cap, e, h1, h2, h3, h4, h5, h6.put hp hx⟩
theorem IntV.put2 {w : World} {n c d : Nat} {b : Bool} {s : Option Addr} {u : Value} {z : Int} (p0 : w.cell? ⟨n, 0, none⟩ = some (.bool b)) (p1 : w.cell? ⟨n, 1, none⟩ = some (.slice s c d)) (h : IntV w u z) (x y : Value) :
  IntV ((w.setCell ⟨n, 0, none⟩ x).setCell ⟨n, 1, none⟩ y) u z :=
 IntV.put (x := .slice s c d) (by rw [World.cell?_setCell_other _ _ _ _ (by simp)]; exact p1) (by simp) (IntV.put p0 (by simp) h)
theorem ResK.put2 {w : World} {n c d : Nat} {b : Bool} {s : Option Addr} {u : Value} {z k : Int} (p0 : w.cell? ⟨n, 0, none⟩ = some (.bool b)) (p1 : w.cell? ⟨n, 1, none⟩ = some (.slice s c d)) (h : ResK w z u k) (x y : Value) :
  ResK ((w.setCell ⟨n, 0, none⟩ x).setCell ⟨n, 1, none⟩ y) z u k :=
 h.imp (fun ⟨a, b, c⟩ => ⟨a, b, c.put2 p0 p1 x y⟩) id
theorem Below.put2 {B : Nat} {w w' : World} {n : Nat} (h : Below B w w') (hn : B ≤ n) (x y : Value) : Below B w ((w'.setCell ⟨n, 0, none⟩ x).setCell ⟨n, 1, none⟩ y) :=
 (h.setCell hn _).setCell hn _
theorem add_same (n : Bool) (ao1 ao2 : Option Addr) (L1 L2 : List Nat) (c1 c2 : Nat) (w : World) (Ho1 : Hid (Bi.Ok L1)) (Ho2 : Hid (Bi.Ok L2)) (hl1 : L1.length ≤ 34) (hl2 : L2.length ≤ 34)
  (hU1 : U w ao1 L1) (hU2 : U w ao2 L2) (hE : Env w) :
  Calls Tryz.prog 167 #[.agg #[.bool n, .slice ao1 L1.length c1], .agg #[.bool n, .slice ao2 L2.length c2]] w fun e w' => ResZ w' (sgn n (Bi.val L1 + Bi.val L2)) e ∧ Below w.heap.size w w' := by
 have hnn : (n == n) = true := by simp
 go_enter Tryz.func167, Tryz.ntmps167;go_wp2_with fail;obtain ⟨wx, hwx, hsz, B1, B2, B3, hbx⟩ := boxes3 w (.bool n) (.slice ao1 L1.length c1) (.bool n) (.slice ao2 L2.length c2) (.bool false) (.slice none 0 0) 32;rw [← hwx];clear hwx;have hbd : Below w.heap.size w wx.drew := hbx.drew;have hX1 := hU1.mono hbd;have hX2 := hU2.mono hbd;have hEx := hE.mono hbd;have B3 := B3.mono ((Below.refl wx.heap.size wx).drew);clear hU1 hU2 hE;have B1 := B1.mono ((Below.refl wx.heap.size wx).drew);have B2 := B2.mono ((Below.refl wx.heap.size wx).drew);go_region_held3 (fun w' => w'.cell? ⟨w.heap.size, 0, none⟩ = some (.bool n) ∧ w'.cell? ⟨w.heap.size, 1, none⟩ = some (.slice ao1 L1.length c1) ∧ w'.cell? ⟨w.heap.size + 1, 1, none⟩ = some (.slice ao2 L2.length c2)) (first | (with_reducible exact ⟨B1.c0, B1.c1, B2.c1⟩) | (with_reducible exact ⟨A1.c0, A1.c1, A2.c1⟩) | (with_reducible exact ⟨C1.c0, C1.c1, C2.c1⟩) | (simp [C1.c0, C1.c1, C2.c1, go_sem]; done))
  (first
   | (go_at_call 200; ((with_reducible refine (plus_any L1 L2 _ _ _ _ _ ?_ ?_ Ho1.out Ho2.out hX1 hX2).mono ?_); (omega); (omega)); rintro e w1 ⟨ao, L, cap, rfl, hcap, hoL, hvL, hlL, hUL, hb1⟩; have HV := hii hvL; clear hvL; have A1 := B1.mono hb1; have A2 := B2.mono hb1; have A3 := B3.mono hb1)
   | (go_at_call 170; refine (result_any n _ _ _ _ (by omega) hcap hUL (hii hoL) (hEx.mono hb1)).mono ?_; rintro e w2 ⟨⟨ng, ao3, n3, cap3, k3, rfl, HR⟩, hb2⟩; have C1 := A1.mono hb2; have C2 := A2.mono hb2; obtain ⟨p0, p1, q0, q1⟩ := A3.mono hb2))
 go_wp2;refine bodyPost_ret (v := .tuple #[.agg #[.bool ng, .slice ao3 n3 cap3], .int .i64 k3]) (by simp [results, Tryz.results167, go_sem, p0, p1]) rfl ⟨⟨ng, ao3, n3, cap3, k3, rfl, hii ?_⟩, ?_⟩
 ·have := HR.out.put2 p0 p1 (.bool ng) (.slice ao3 n3 cap3);rw [HV.out] at this;exact this
 ·exact Below.put2 (hbd.trans ((hb1.mono hbd.size).trans (hb2.mono (Nat.le_trans hbd.size hb1.size)))) (by omega) _ _
theorem minus_val (n1 n2 : Bool) (v1 v2 : Nat) (h : n1 ≠ n2) (hle : v2 ≤ v1) : sgn n1 (v1 - v2) = sgn n1 v1 + sgn n2 v2 := by
 unfold sgn
 cases n1 <;> cases n2 <;> simp_all <;> omega
theorem add_ge (n1 n2 : Bool) (hnn : (n1 == n2) = false) (m1 m2 : Nat) (hle : Hid (m2 ≤ m1)) (ao1 ao2 : Option Addr) (L1 L2 : List Nat) (c1 c2 : Nat) (w : World) (HL1 : Hid (L1 = Bi.limbs m1)) (HL2 : Hid (L2 = Bi.limbs m2)) (hl1 : L1.length ≤ 34) (hl2 : L2.length ≤ 34)
  (hU1 : U w ao1 L1) (hU2 : U w ao2 L2) (hE : Env w) :
  Calls Tryz.prog 167 #[.agg #[.bool n1, .slice ao1 L1.length c1], .agg #[.bool n2, .slice ao2 L2.length c2]] w fun e w' => ResZ w' (sgn n1 m1 + sgn n2 m2) e ∧ Below w.heap.size w w' := by
 go_enter Tryz.func167, Tryz.ntmps167;go_wp2_with fail;obtain ⟨wx, hwx, hsz, B1, B2, B3, hbx⟩ := boxes3 w (.bool n1) (.slice ao1 L1.length c1) (.bool n2) (.slice ao2 L2.length c2) (.bool false) (.slice none 0 0) 32;rw [← hwx];clear hwx;(with_reducible refine (compare_any m1 m2 L1 L2 HL1 HL2 ao1 ao2 c1 c2 wx ?_ ?_ (hU1.mono hbx) (hU2.mono hbx)).mono ?_)
 ·omega
 ·omega
 rintro e w0 ⟨rfl, hb0⟩;have hcmp : 0 ≤ cmpN m1 m2 := by have := hle.out; unfold cmpN; rw [if_neg (by omega)]; split <;> omega
 have hb0' := bu hbx hb0;have hbd : Below w.heap.size w w0.drew := hb0'.drew;have hX1 := hU1.mono hbd;have hX2 := hU2.mono hbd;have hEx := hE.mono hbd;have B1 := (B1.mono hb0).mono ((Below.refl w0.heap.size w0).drew);have B2 := (B2.mono hb0).mono ((Below.refl w0.heap.size w0).drew);have B3 := (B3.mono hb0).mono ((Below.refl w0.heap.size w0).drew);obtain ⟨z0, z1, _, _⟩ := B1;obtain ⟨y0, y1, _, _⟩ := B2;have B1 : Box w0.drew w.heap.size (.bool n1) (.slice ao1 L1.length c1) := ⟨z0, z1, ‹_›, ‹_›⟩;have B2 : Box w0.drew (w.heap.size + 1) (.bool n2) (.slice ao2 L2.length c2) := ⟨y0, y1, ‹_›, ‹_›⟩;have Ho1 : Hid (Bi.Ok L1) := hii (by rw [HL1.out]; exact Bi.limbs_ok _);have Ho2 : Hid (Bi.Ok L2) := hii (by rw [HL2.out]; exact Bi.limbs_ok _);have hvl : Hid (Bi.val L1 = m1 ∧ Bi.val L2 = m2) := hii (by rw [HL1.out, HL2.out, Bi.val_limbs, Bi.val_limbs]; exact ⟨rfl, rfl⟩);have hll : L2.length ≤ L1.length := by
  apply Nat.le_of_not_lt; intro h
  rw [HL1.out, HL2.out] at h;have := Bi.val_lt_of_length h;have := hle.out;omega
 clear hU1 hU2 hE;go_wp2_with fail;go_region_held3 (fun w' => w'.cell? ⟨w.heap.size, 0, none⟩ = some (.bool n1) ∧ w'.cell? ⟨w.heap.size, 1, none⟩ = some (.slice ao1 L1.length c1) ∧ w'.cell? ⟨w.heap.size + 1, 1, none⟩ = some (.slice ao2 L2.length c2)) (first | (with_reducible exact ⟨B1.c0, B1.c1, B2.c1⟩) | (with_reducible exact ⟨AB1.c0, AB1.c1, AB2.c1⟩) | (with_reducible exact ⟨CB1.c0, CB1.c1, CB2.c1⟩) | (simp [CB1.c0, CB1.c1, CB2.c1, go_sem]; done))
  (first
   | (go_at_call 201; ((with_reducible refine (minus_any L1 L2 _ _ _ _ _ ?_ hll (hii ?_) Ho1.out Ho2.out hX1 hX2).mono ?_); (omega); (rw [hvl.out.1, hvl.out.2]; have := hle.out; omega)); rintro e w1 ⟨ao, L, cap, hL, rfl, hcap, hlL, hUL, hb1⟩; have HL := hii hL; clear hL; have AB1 := B1.mono hb1; have AB2 := B2.mono hb1; have A3 := B3.mono hb1)
   | (go_at_call 170; ((with_reducible refine (result_any n1 _ _ _ _ ?_ hcap hUL (hii ?_) (hEx.mono hb1)).mono ?_); (omega); (rw [HL.out]; exact Bi.limbs_ok _)); rintro e w2 ⟨⟨ng, ao3, n3, cap3, k3, rfl, HR⟩, hb2⟩; have CB1 := AB1.mono hb2; have CB2 := AB2.mono hb2; obtain ⟨p0, p1, q0, q1⟩ := A3.mono hb2))
 go_wp2;refine bodyPost_ret (v := .tuple #[.agg #[.bool ng, .slice ao3 n3 cap3], .int .i64 k3]) (by simp [results, Tryz.results167, go_sem, p0, p1]) rfl ⟨⟨ng, ao3, n3, cap3, k3, rfl, hii ?_⟩, ?_⟩
 ·have := HR.out.put2 p0 p1 (.bool ng) (.slice ao3 n3 cap3);rw [HL.out, Bi.val_limbs, hvl.out.1, hvl.out.2] at this;have h3 := hle.out;have h4 : sgn n1 (m1 - m2) = sgn n1 m1 + sgn n2 m2 := by
   exact minus_val n1 n2 m1 m2 (by rintro rfl; simp at hnn) h3
  rw [h4] at this;exact this
 ·exact Below.put2 (hbd.trans ((hb1.mono hbd.size).trans (hb2.mono (Nat.le_trans hbd.size hb1.size)))) (by omega) _ _
theorem add_lt (n1 n2 : Bool) (hnn : (n1 == n2) = false) (m1 m2 : Nat) (hle : Hid (m1 < m2)) (ao1 ao2 : Option Addr) (L1 L2 : List Nat) (c1 c2 : Nat) (w : World) (HL1 : Hid (L1 = Bi.limbs m1)) (HL2 : Hid (L2 = Bi.limbs m2)) (hl1 : L1.length ≤ 34) (hl2 : L2.length ≤ 34)
  (hU1 : U w ao1 L1) (hU2 : U w ao2 L2) (hE : Env w) :
  Calls Tryz.prog 167 #[.agg #[.bool n1, .slice ao1 L1.length c1], .agg #[.bool n2, .slice ao2 L2.length c2]] w fun e w' => ResZ w' (sgn n1 m1 + sgn n2 m2) e ∧ Below w.heap.size w w' := by
 go_enter Tryz.func167, Tryz.ntmps167;go_wp2_with fail;obtain ⟨wx, hwx, hsz, B1, B2, B3, hbx⟩ := boxes3 w (.bool n1) (.slice ao1 L1.length c1) (.bool n2) (.slice ao2 L2.length c2) (.bool false) (.slice none 0 0) 32;rw [← hwx];clear hwx;(with_reducible refine (compare_any m1 m2 L1 L2 HL1 HL2 ao1 ao2 c1 c2 wx ?_ ?_ (hU1.mono hbx) (hU2.mono hbx)).mono ?_)
 ·omega
 ·omega
 rintro e w0 ⟨rfl, hb0⟩;have hcmp : cmpN m1 m2 < 0 := by have := hle.out; unfold cmpN; rw [if_pos this]; decide
 have hb0' := bu hbx hb0;have hbd : Below w.heap.size w w0.drew := hb0'.drew;have hX1 := hU1.mono hbd;have hX2 := hU2.mono hbd;have hEx := hE.mono hbd;have B1 := (B1.mono hb0).mono ((Below.refl w0.heap.size w0).drew);have B2 := (B2.mono hb0).mono ((Below.refl w0.heap.size w0).drew);have B3 := (B3.mono hb0).mono ((Below.refl w0.heap.size w0).drew);obtain ⟨z0, z1, _, _⟩ := B1;obtain ⟨y0, y1, _, _⟩ := B2;have B1 : Box w0.drew w.heap.size (.bool n1) (.slice ao1 L1.length c1) := ⟨z0, z1, ‹_›, ‹_›⟩;have B2 : Box w0.drew (w.heap.size + 1) (.bool n2) (.slice ao2 L2.length c2) := ⟨y0, y1, ‹_›, ‹_›⟩;have Ho1 : Hid (Bi.Ok L1) := hii (by rw [HL1.out]; exact Bi.limbs_ok _);have Ho2 : Hid (Bi.Ok L2) := hii (by rw [HL2.out]; exact Bi.limbs_ok _);have hvl : Hid (Bi.val L1 = m1 ∧ Bi.val L2 = m2) := hii (by rw [HL1.out, HL2.out, Bi.val_limbs, Bi.val_limbs]; exact ⟨rfl, rfl⟩);have hll : L1.length ≤ L2.length := by
  apply Nat.le_of_not_lt; intro h
  rw [HL1.out, HL2.out] at h;have := Bi.val_lt_of_length h;have := hle.out;omega
 clear hU1 hU2 hE;go_wp2_with fail;go_region_held3 (fun w' => w'.cell? ⟨w.heap.size + 1, 0, none⟩ = some (.bool n2) ∧ w'.cell? ⟨w.heap.size + 1, 1, none⟩ = some (.slice ao2 L2.length c2) ∧ w'.cell? ⟨w.heap.size, 1, none⟩ = some (.slice ao1 L1.length c1)) (first | (with_reducible exact ⟨B2.c0, B2.c1, B1.c1⟩) | (with_reducible exact ⟨AB2.c0, AB2.c1, AB1.c1⟩) | (with_reducible exact ⟨CB2.c0, CB2.c1, CB1.c1⟩) | (simp [CB2.c0, CB2.c1, CB1.c1, go_sem]; done))
  (first
   | (go_at_call 201; ((with_reducible refine (minus_any L2 L1 _ _ _ _ _ ?_ hll (hii ?_) Ho2.out Ho1.out hX2 hX1).mono ?_); (omega); (rw [hvl.out.1, hvl.out.2]; have := hle.out; omega)); rintro e w1 ⟨ao, L, cap, hL, rfl, hcap, hlL, hUL, hb1⟩; have HL := hii hL; clear hL; have AB1 := B1.mono hb1; have AB2 := B2.mono hb1; have A3 := B3.mono hb1)
   | (go_at_call 170; ((with_reducible refine (result_any n2 _ _ _ _ ?_ hcap hUL (hii ?_) (hEx.mono hb1)).mono ?_); (omega); (rw [HL.out]; exact Bi.limbs_ok _)); rintro e w2 ⟨⟨ng, ao3, n3, cap3, k3, rfl, HR⟩, hb2⟩; have CB1 := AB1.mono hb2; have CB2 := AB2.mono hb2; obtain ⟨p0, p1, q0, q1⟩ := A3.mono hb2))
 go_wp2;refine bodyPost_ret (v := .tuple #[.agg #[.bool ng, .slice ao3 n3 cap3], .int .i64 k3]) (by simp [results, Tryz.results167, go_sem, p0, p1]) rfl ⟨⟨ng, ao3, n3, cap3, k3, rfl, hii ?_⟩, ?_⟩
 ·have := HR.out.put2 p0 p1 (.bool ng) (.slice ao3 n3 cap3);rw [HL.out, Bi.val_limbs, hvl.out.1, hvl.out.2] at this;have h3 := hle.out;have h4 : sgn n2 (m2 - m1) = sgn n1 m1 + sgn n2 m2 := by
   rw [Int.add_comm]; exact minus_val n2 n1 m2 m1 (by rintro rfl; simp at hnn) (by omega)
  rw [h4] at this;exact this
 ·exact Below.put2 (hbd.trans ((hb1.mono hbd.size).trans (hb2.mono (Nat.le_trans hbd.size hb1.size)))) (by omega) _ _
theorem sgn_of (z : Int) (n : Bool) (h : n = decide (z < 0)) : sgn n z.natAbs = z := by
 subst h; unfold sgn
 by_cases h : z < 0
 ·simp [h]; omega
 ·simp [h]; omega
theorem sgn_add (n : Bool) (a b : Nat) : sgn n (a + b) = sgn n a + sgn n b := by unfold sgn; cases n <;> simp <;> omega
theorem add_any (a b : Value) (x y : Int) (w : World) (ha : IntV w a x) (hb : IntV w b y) (hE : Env w) :
  Calls Tryz.prog 167 #[a, b] w fun e w' => ResZ w' (x + y) e ∧ Below w.heap.size w w' := by
 obtain ⟨n1, ao1, L1, c1, rfl, Hn1, HL1, HB1, hc1, hl1, hU1⟩ := ha;obtain ⟨n2, ao2, L2, c2, rfl, Hn2, HL2, HB2, hc2, hl2, hU2⟩ := hb;have e1 := sgn_of x n1 Hn1.out;have e2 := sgn_of y n2 Hn2.out;have hv1 : Bi.val L1 = x.natAbs := by rw [HL1.out, Bi.val_limbs]
 have hv2 : Bi.val L2 = y.natAbs := by rw [HL2.out, Bi.val_limbs]
 by_cases hn : n1 = n2
 ·subst hn;have := add_same n1 ao1 ao2 L1 L2 c1 c2 w (hii (by rw [HL1.out]; exact Bi.limbs_ok _)) (hii (by rw [HL2.out]; exact Bi.limbs_ok _)) hl1 hl2 hU1 hU2 hE
  rwa [hv1, hv2, sgn_add, e1, e2] at this
 ·have hnn : (n1 == n2) = false := by simpa using hn
  rcases Nat.lt_or_ge x.natAbs y.natAbs with h | h
  ·have := add_lt n1 n2 hnn x.natAbs y.natAbs (hii h) ao1 ao2 L1 L2 c1 c2 w HL1 HL2 hl1 hl2 hU1 hU2 hE
   rwa [e1, e2] at this
  ·have := add_ge n1 n2 hnn x.natAbs y.natAbs (hii h) ao1 ao2 L1 L2 c1 c2 w HL1 HL2 hl1 hl2 hU1 hU2 hE
   rwa [e1, e2] at this
end Go.Proofs.YtgfpbghgpdpepaaGreatDoor
namespace Go.Proofs.YtgfpbghgpdpepaaGreatDoor
open Go.RowKit
theorem indexFunc_any (l : List Nat) (ao : Option Addr) (cap : Nat) (w : World) (hm : l.length ≤ 1000000000) (hU : U w ao l) :
  Calls Tryz.prog 223 #[.slice ao l.length cap, .func (.func 193) #[] #[]] w fun e w' => (∃ r : Int, Hid (0 ≤ r ↔ ¬ Bi.Ok l) ∧ -1 ≤ r ∧ r ≤ l.length ∧ e = .returned (.int .i64 r)) ∧ w = w' := by
 go_enter Tryz.func223, Tryz.ntmps223;go_wp2;go_loop [8] (fun s => ∃ k : Nat, k ≤ l.length ∧ s = .int .i64 k ∧ Hid (Bi.Ok (l.take k))) (fun s => l.length - (intOf s).toNat)
 case atStart => exact ⟨0, Nat.zero_le _, rfl, hii (by simp [Bi.Ok])⟩
 case round =>
  obtain ⟨k, hk, rfl, HK⟩ := hrel
  by_cases hlt : k < l.length
  ·obtain ⟨x, hx⟩ := get_some hlt;obtain ⟨b, off, rfl, hc⟩ := hU.at' hx;have HX := hii hx;clear hx hU
   by_cases hs : (1000000000 : Int) ≤ (x : Int)
   ·go_wp2;go_ret;refine ⟨⟨k, hii ⟨fun _ h => ?_, fun _ => by omega⟩, by omega, by omega, rfl⟩, rfl⟩;have := h.at' HX.out;omega
   ·go_wp2;go_round
    case rel =>
     refine ⟨k + 1, by omega, by go_num, hii ?_⟩;have h1 : l[k]'hlt = x := (List.getElem?_eq_some_iff.1 HX.out).2;rw [List.take_succ_eq_append_getElem hlt, h1];exact HK.out.snoc (by omega)
    case measure => simp [intOf]; omega
  ·obtain rfl : k = l.length := by omega
   clear hU;go_wp2;go_ret;refine ⟨⟨-1, hii ⟨fun h => by omega, fun h => absurd ?_ h⟩, by omega, by omega, rfl⟩, rfl⟩;have := HK.out
   rwa [List.take_length] at this
theorem containsFunc_any (l : List Nat) (ao : Option Addr) (cap : Nat) (w : World) (hm : l.length ≤ 1000000000) (hU : U w ao l) :
  Calls Tryz.prog 192 #[.slice ao l.length cap, .func (.func 193) #[] #[]] w fun e w' => (∃ r : Bool, Hid (r = true ↔ ¬ Bi.Ok l) ∧ e = .returned (.bool r)) ∧ w = w' := by
 go_enter Tryz.func192, Tryz.ntmps192;go_wp2_with fail;(with_reducible refine (indexFunc_any l _ _ _ hm hU).mono ?_);rintro e w1 ⟨⟨r, HR, h1, h2, rfl⟩, rfl⟩;go_wp2;go_ret;exact ⟨⟨_, hii (by rw [decide_eq_true_iff]; exact HR.out), rfl⟩, rfl⟩
def validP (neg : Bool) (l : List Nat) : Prop := if l = [] then neg = false else Bi.Ok l ∧ Bi.Canon l ∧ Bi.val l < Bi.Big
theorem valid_last {r : List Nat} {x : Nat} {neg : Bool} : validP neg (r ++ [x]) ↔ Bi.Ok (r ++ [x]) ∧ x ≠ 0 ∧ Bi.val (r ++ [x]) < Bi.Big := by
 unfold validP;rw [if_neg (by simp)];unfold Bi.Canon;simp
theorem big_len {r : List Nat} {x : Nat} (hx : x ≠ 0) (hl : 34 ≤ r.length) : Bi.Big ≤ Bi.val (r ++ [x]) := by
 rw [Bi.val_snoc];have h1 : 1000000000 ^ 34 ≤ 1000000000 ^ r.length := Nat.pow_le_pow_right (by decide) hl;have h2 : 1000000000 ^ r.length * 1 ≤ 1000000000 ^ r.length * x := Nat.mul_le_mul_left _ (by omega);have := Bi.big_lt_limbs;omega
theorem canon_snoc {r : List Nat} {x : Nat} (ho : Bi.Ok (r ++ [x])) (hx : x ≠ 0) : r ++ [x] = Bi.limbs (Bi.val (r ++ [x])) :=
 (Bi.canon_limbs ho (by intro _; simpa using hx)).symm
theorem valid_any (neg : Bool) (l : List Nat) (ao : Option Addr) (cap : Nat) (w : World) (hm : l.length ≤ 1000000000) (hU : U w ao l) (hE : Env w) :
  Calls Tryz.prog 155 #[.agg #[.bool neg, .slice ao l.length cap]] w fun e w' => (∃ r : Bool, Hid (r = true ↔ validP neg l) ∧ e = .returned (.bool r)) ∧ Below w.heap.size w w' := by
 have hb0 : ∀ o, Below w.heap.size w (w.alloc o) := fun o => bA w o
 obtain rfl | ⟨r, x, rfl⟩ : l = [] ∨ ∃ r x, l = r ++ [x] := by
  rcases List.eq_nil_or_concat l with h | ⟨r, x, h⟩
  ·exact .inl h
  ·exact .inr ⟨r, x, by rw [h, List.concat_eq_append]⟩
 ·clear hU;go_enter Tryz.func155, Tryz.ntmps155;go_wp2;go_ret;exact ⟨⟨_, hii (by simp [validP]), rfl⟩, hb0 _⟩
 ·obtain ⟨b, off, rfl, hc⟩ := hU.at' (k := r.length) (x := x) (by simp);have HV : Hid (validP neg (r ++ [x]) ↔ Bi.Ok (r ++ [x]) ∧ x ≠ 0 ∧ Bi.val (r ++ [x]) < Bi.Big) := hii valid_last;have hl : (r ++ [x]).length = r.length + 1 := by simp
  have hc' : ∀ o, (w.alloc o).cell? ⟨b, off + r.length, none⟩ = some (.int .u32 (x : Int)) := fun o => ((hb0 o).cell (p := ⟨b, off + r.length, none⟩) (cell_lt hc)).trans hc
  have hU' : ∀ o, Hid (U (w.alloc o) (some ⟨b, off, none⟩) (r ++ [x])) := fun o => hii (hU.mono (hb0 o))
  have HE : ∀ o, Hid (Env (w.alloc o)) := fun o => hii (hE.mono (hb0 o))
  rw [hl] at hm ⊢;have HLen := hii hl;clear hl hU hE hb0
  by_cases hx0 : x = 0
  ·subst hx0;go_enter Tryz.func155, Tryz.ntmps155;go_wp2;go_ret;exact ⟨⟨false, hii (by rw [HV.out]; simp), rfl⟩, bA _ _⟩
  ·have hxb : ((x : Int) == 0) = false := by rw [beq_eq_false_iff_ne]; omega
   by_cases hlen : (34 : Int) < (r.length : Int) + 1
   ·have hbig : ¬ Bi.val (r ++ [x]) < Bi.Big := by have := big_len (r := r) hx0 (by omega); omega
    have HBig := hii hbig;clear hbig;go_enter Tryz.func155, Tryz.ntmps155;go_wp2;go_ret;exact ⟨⟨false, hii (by rw [HV.out]; simp [HBig.out]), rfl⟩, bA _ _⟩
   ·go_enter Tryz.func155, Tryz.ntmps155;go_wp2_with fail;rw [← HLen.out];(with_reducible refine (containsFunc_any (r ++ [x]) _ _ _ ?_ (hU' _).out).mono ?_)
    ·rw [HLen.out]; exact hm
    rintro e w1 ⟨⟨q, HQ, rfl⟩, rfl⟩
    cases q
    ·have ho : Hid (Bi.Ok (r ++ [x])) := hii (by have := HQ.out; simp at this; exact this);go_wp2_with fail;rw [← HLen.out];(with_reducible refine (digits_any _ (r ++ [x]) (hii (canon_snoc ho.out hx0)) _ _ _ ?_ (hU' _).out (HE _).out).mono ?_)
     ·rw [HLen.out]; omega
     rintro e w2 ⟨⟨d, HD, hd, rfl⟩, hb2⟩;go_wp2;go_ret;refine ⟨⟨_, hii ?_, rfl⟩, (bA _ _).trans (hb2.mono (by simp))⟩;rw [HV.out, ← Bi.dlen_le, ← HD.out];simp [ho.out, hx0];omega
    ·have ho : Hid (¬ Bi.Ok (r ++ [x])) := hii (HQ.out.1 rfl);go_wp2;go_ret;exact ⟨⟨false, hii (by rw [HV.out]; simp [ho.out]), rfl⟩, bA _ _⟩
end Go.Proofs.YtgfpbghgpdpepaaGreatDoor
namespace Go.Proofs.YtgfpbghgpdpepaaGreatDoor
open Go.RowKit
def Raws (w : World) (ao : Option Addr) (ls : List (Bool × List Nat)) : Prop :=
 ∀ i x, ls[i]? = some x → ∃ b off ai ci, ao = some ⟨b, off, none⟩ ∧ w.cell? ⟨b, off + i * 2, none⟩ = some (.bool x.1) ∧ w.cell? ⟨b, off + i * 2 + 1, none⟩ = some (.slice ai x.2.length ci) ∧
  U w ai x.2 ∧ x.2.length ≤ 1000000000
theorem Raws.mono {w w' : World} {ao : Option Addr} {ls : List (Bool × List Nat)} (h : Raws w ao ls) (hb : Below w.heap.size w w') : Raws w' ao ls := by
 intro i x hx;obtain ⟨b, off, ai, ci, e, h1, h2, h3, h4⟩ := h i x hx;exact ⟨b, off, ai, ci, e, (hb.cell (p := ⟨b, off + i * 2, none⟩) (cell_lt h1)).trans h1, (hb.cell (p := ⟨b, off + i * 2 + 1, none⟩) (cell_lt h2)).trans h2, h3.mono hb, h4⟩
theorem check_any (ls : List (Bool × List Nat)) (ao : Option Addr) (cap : Nat) (w : World) (hm : ls.length ≤ 1000000) (hR : Raws w ao ls) (hE : Env w) :
  Calls Tryz.prog 166 #[.slice ao ls.length cap] w fun e w' => (∃ r : Int, Hid (r = 0 ↔ ∀ x ∈ ls, validP x.1 x.2) ∧ Hid (r = 0 ∨ r = 1) ∧ e = .returned (.int .i64 r)) ∧ Below w.heap.size w w' := by
 go_enter Tryz.func166, Tryz.ntmps166;go_wp2;go_loopw [7] (fun s wr => ∃ k : Nat, k ≤ ls.length ∧ s = .int .i64 k ∧ Hid (∀ i x, i < k → ls[i]? = some x → validP x.1 x.2) ∧ Below w.heap.size w wr) (fun s _ => ls.length - (intOf s).toNat)
 case atStart => exact ⟨0, Nat.zero_le _, rfl, hii (by intro i x h; omega), br⟩
 case round =>
  obtain ⟨k, hk, rfl, HK, hbr⟩ := hrel
  by_cases hlt : k < ls.length
  ·obtain ⟨x, hx⟩ : ∃ x, ls[k]? = some x := ⟨ls[k], gE hlt⟩;obtain ⟨b, off, ai, ci, rfl, h1, h2, h3, h4⟩ := hR.mono hbr k x hx;have HX := hii hx;have hE' := hE.mono hbr;clear hx hR hE;go_wp2_with fail;(with_reducible refine (valid_any x.1 x.2 ai ci _ h4 (h3.mono (bA _ _)) (hE'.mono (bA _ _))).mono ?_);rintro e w1 ⟨⟨q, HQ, rfl⟩, hb1⟩;have hbw : Below w.heap.size w w1 := (hbr.trans ((bA wr _).mono hbr.size)).trans (hb1.mono (Nat.le_trans hbr.size (bA wr _).size))
   cases q
   ·have HQ' : Hid (¬ validP x.1 x.2) := hii (fun h => by have := HQ.out.2 h; simp at this);clear HQ;go_wp2;go_ret;refine ⟨⟨1, hii ⟨fun h => by omega, fun h => ?_⟩, hii (.inr rfl), rfl⟩, hbw⟩;exact absurd (h x (List.mem_of_getElem? HX.out)) HQ'.out
   ·have HQ' : Hid (validP x.1 x.2) := hii (HQ.out.1 rfl);clear HQ;go_wp2;go_roundw
    case rel =>
     refine ⟨k + 1, by omega, by go_num, hii fun i y hi hy => ?_, hbw⟩
     by_cases hik : i = k
     ·subst hik;obtain rfl := Option.some.inj (HX.out.symm.trans hy);exact HQ'.out
     ·exact HK.out i y (by omega) hy
    case measure => simp [intOf]; omega
  ·obtain rfl : k = ls.length := by omega
   clear hR hE;go_wp2;go_ret;refine ⟨⟨0, hii ⟨fun _ x hx => ?_, fun _ => rfl⟩, hii (.inl rfl), rfl⟩, hbr⟩;obtain ⟨i, hi, rfl⟩ := List.getElem_of_mem hx;exact HK.out i _ hi (gE hi)
theorem Raws.two (w : World) (n1 n2 : Bool) (a1 a2 : Option Addr) (l1 l2 : List Nat) (c1 c2 : Nat) (t : TypeId) (h1 : U w a1 l1) (h2 : U w a2 l2) (m1 : l1.length ≤ 1000000000) (m2 : l2.length ≤ 1000000000) :
  Raws (w.alloc (.cells #[.bool n1, .slice a1 l1.length c1, .bool n2, .slice a2 l2.length c2] t)) (some ⟨w.heap.size, 0, none⟩) [(n1, l1), (n2, l2)] := by
 intro i x hx
 match i, hx with
 | 0, hx =>
  simp at hx; subst hx;exact ⟨w.heap.size, 0, a1, c1, rfl, by simp [go_sem], by simp [go_sem], h1.mono (bA _ _), m1⟩
 | 1, hx =>
  simp at hx; subst hx;exact ⟨w.heap.size, 0, a2, c2, rfl, by simp [go_sem], by simp [go_sem], h2.mono (bA _ _), m2⟩
 | i + 2, hx => simp at hx
theorem Raws.one (w : World) (n1 : Bool) (a1 : Option Addr) (l1 : List Nat) (c1 : Nat) (t : TypeId) (h1 : U w a1 l1) (m1 : l1.length ≤ 1000000000) :
  Raws (w.alloc (.cells #[.bool n1, .slice a1 l1.length c1] t)) (some ⟨w.heap.size, 0, none⟩) [(n1, l1)] := by
 intro i x hx
 match i, hx with
 | 0, hx =>
  simp at hx; subst hx;exact ⟨w.heap.size, 0, a1, c1, rfl, by simp [go_sem], by simp [go_sem], h1.mono (bA _ _), m1⟩
 | i + 1, hx => simp at hx
theorem validP_of (z : Int) (n : Bool) (L : List Nat) (hn : n = decide (z < 0)) (hL : L = Bi.limbs z.natAbs) (hB : z.natAbs < Bi.Big) : validP n L := by
 unfold validP
 split
 ·rename_i h
  rw [h] at hL;have := Bi.limbs_eq_nil.1 hL.symm;rw [hn]; simp; omega
 ·rw [hL]; exact ⟨Bi.limbs_ok _, Bi.limbs_canon _, by rw [Bi.val_limbs]; exact hB⟩
end Go.Proofs.YtgfpbghgpdpepaaGreatDoor
