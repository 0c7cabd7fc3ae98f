import Derived.Test.YtijjagofingpdaaGreatDoorMul
import Derived.Test.YtijjagofingpdaaGreatDoorPlus
import Derived.Test.YtijjagofingpdaaGreatDoorPlainD
import Derived.Test.YtijjagofingpdaaGreatDoorShelf
import Derived.WalkSmall
import Derived.Lib.AppendIntMem
import Derived.Lib.ItoaNum
namespace Go.Proofs.YtijjagofingpdaaGreatDoor
open Go.RowKit

/-- what the library's variables hold -/
structure Env (w : World) : Prop where
  tab : Lib.TabIs Tryz.prog w "internal/strconv.uint64pow10" .u64 Lib.pow10Tab

theorem var_mono {w w' : World} (hb : Below w.heap.size w w') {n : String} {cs : Array Value} (h : w.var? Tryz.prog n = some cs) : w'.var? Tryz.prog n = some cs := by
  unfold World.var? at h
  cases hg : Tryz.prog.globalNamed n with
  | none => simp [hg] at h
  | some g =>
    have hlt : g < w.heap.size := by
      simp only [hg, Option.bind_some] at h
      by_cases hb : g < w.heap.size
      · exact hb
      · rw [Array.getElem?_eq_none (by omega)] at h; simp at h
    exact var?_below hb hg hlt (by unfold World.var?; exact h)

theorem Env.mono {w w' : World} (h : Env w) (hb : Below w.heap.size w w') : Env w' := ⟨var_mono hb h.tab⟩

theorem itoa_any (n : Int) (h0 : -9223372036854775808 ≤ n) (h1 : n ≤ 9223372036854775807) (w : World) (hE : Env w) :
    Calls Tryz.prog 26 #[.int .i64 n] w fun e w' => e = .returned (.string ⟨(Lib.itoa n).toArray⟩) ∧ Below w.heap.size w w' :=
  (Tryz.strconv_Itoa n h0 h1 w hE.tab).mono fun e w' ⟨h, k, os, h2⟩ => ⟨h, by rw [h2]; exact Lib.below_grow _ _ (Nat.le_refl _) _ _⟩

theorem itoa_len (x : Nat) : (Lib.itoa (x : Int)).length = Lib.nDigits x := by
  unfold Lib.itoa
  rw [if_neg (by omega), Int.toNat_natCast, Lib.decDigits_length]

set_option maxHeartbeats 400000 in
theorem digits_any (n : Nat) (l : List Nat) (HL : Hid (l = Bi.limbs n)) (ao : Option Addr) (cap : Nat) (w : World) (hm : l.length ≤ 1000000000000) (hU : U w ao l) (hE : Env w) :
    Calls Tryz.prog 61 #[.slice ao l.length cap] w fun e w' => (∃ d : Nat, Hid (d = Bi.dlen n) ∧ d ≤ 10000000000000 ∧ e = .returned (.int .i64 d)) ∧ Below w.heap.size w w' := by
  obtain rfl | ⟨r, x, rfl⟩ : l = [] ∨ ∃ r x, l = r ++ [x] := by
    rcases List.eq_nil_or_concat l with h | ⟨r, x, h⟩
    · exact .inl h
    · exact .inr ⟨r, x, by rw [h, List.concat_eq_append]⟩
  · have h0 : Hid (Bi.dlen n = 0) := Lib.hid (by rw [Bi.limbs_eq_nil.1 HL.out.symm]; rfl)
    clear hU
    go_enter Tryz.func61, Tryz.ntmps61
    go_wp2
    go_ret
    exact ⟨⟨0, Lib.hid h0.out.symm, by omega, rfl⟩, Below.refl _ _⟩
  · obtain ⟨h1, h2, h3⟩ := Bi.dlen_limbs HL.out
    have H1 := Lib.hid h1; clear h1
    obtain ⟨b, off, rfl, hc⟩ := hU.at' (k := r.length) (x := x) (by simp)
    clear hU
    have hl : (r ++ [x]).length = r.length + 1 := by simp
    rw [hl] at hm ⊢
    clear hl
    go_enter Tryz.func61, Tryz.ntmps61
    go_wp2_with fail
    refine (itoa_any (x : Int) (by omega) (by omega) _ hE).mono ?_
    rintro e w1 ⟨rfl, hb1⟩
    have hl9 := Bi.nd_small h3
    have hli := itoa_len x
    generalize hL : Lib.itoa (x : Int) = L at hli ⊢
    clear hL
    have HLI := Lib.hid hli
    have hll : L.length ≤ 9 := by omega
    clear hli hl9
    go_wp2
    go_ret
    refine ⟨⟨9 * r.length + L.length, Lib.hid ?_, by omega, ?_⟩, hb1⟩
    · rw [H1.out, HLI.out]
    · exact ret_int (by omega)

set_option maxHeartbeats 400000 in
theorem rdigits_any (n : Nat) (l : List Nat) (HL : Hid (l = Bi.limbs n)) (ao : Option Addr) (cap : Nat) (w : World) (hm : l.length ≤ 1000000000000) (hU : U w ao l) :
    Calls Tryz.prog 37 #[.slice ao l.length cap] w fun e w' => (∃ d : Nat, Hid (d = Bi.dlen n) ∧ d ≤ 10000000000000 ∧ e = .returned (.int .i64 d)) ∧ w = w' := by
  obtain rfl | ⟨r, x, rfl⟩ : l = [] ∨ ∃ r x, l = r ++ [x] := by
    rcases List.eq_nil_or_concat l with h | ⟨r, x, h⟩
    · exact .inl h
    · exact .inr ⟨r, x, by rw [h, List.concat_eq_append]⟩
  · have h0 : Hid (Bi.dlen n = 0) := Lib.hid (by rw [Bi.limbs_eq_nil.1 HL.out.symm]; rfl)
    clear hU
    go_enter Tryz.func37, Tryz.ntmps37
    go_wp2
    go_ret
    exact ⟨⟨0, Lib.hid h0.out.symm, by omega, rfl⟩, rfl⟩
  · obtain ⟨h1, h2, h3⟩ := Bi.dlen_limbs HL.out
    have H1 := Lib.hid h1; clear h1
    have h4 := Bi.nd_small h3
    have H4 : Hid (Bi.dlen x ≤ 9 ∧ Bi.dlen x = Lib.nDigits x) := Lib.hid (by unfold Bi.dlen; rw [if_neg h2]; exact ⟨h4, rfl⟩)
    clear h4 h2
    obtain ⟨b, off, rfl, hc⟩ := hU.at' (k := r.length) (x := x) (by simp)
    clear hU
    have hl : (r ++ [x]).length = r.length + 1 := by simp
    rw [hl] at hm ⊢
    clear hl
    go_enter Tryz.func37, Tryz.ntmps37
    go_wp2
    go_loop [3, 4] (fun s3 s4 => ∃ y d : Nat, s4 = .int .u32 y ∧ s3 = .int .i64 ((9 * r.length + d : Nat) : Int) ∧ y < 1000000000 ∧ d ≤ 9 ∧ Hid (d + Bi.dlen y = Bi.dlen x)) (fun _ s4 => (intOf s4).toNat)
    case atStart => exact ⟨x, 0, rfl, by go_num, h3, by omega, Lib.hid (by simp)⟩
    case round =>
      obtain ⟨y, d, rfl, rfl, hy, hd, HI⟩ := hrel
      clear hc
      by_cases hy0 : (0 : Int) < (y : Int)
      · have h5 := Bi.dlen_step (y := y) (by omega)
        have h6 := HI.out
        have h7 := H4.out.1
        have hd2 : d + 1 ≤ 9 := by omega
        have HI2 : Hid (d + 1 + Bi.dlen (y / 10) = Bi.dlen x) := Lib.hid (by omega)
        clear h5 h6 h7
        go_wp2
        go_round
        case rel => exact ⟨y / 10, d + 1, by go_num, by go_num, by omega, hd2, HI2⟩
        case measure => simp [intOf]; omega
      · obtain rfl : y = 0 := by omega
        go_wp2
        go_ret
        refine ⟨⟨9 * r.length + d, Lib.hid ?_, by omega, rfl⟩, rfl⟩
        have h6 := HI.out
        have h7 := H4.out.2
        rw [H1.out, ← h7, ← h6]
        rfl

/-- a valid integer of value z -/
def IntV (w : World) (v : Value) (z : Int) : Prop :=
  ∃ (neg : Bool) (ao : Option Addr) (L : List Nat) (cap : Nat), v = .agg #[.bool neg, .slice ao L.length cap] ∧ Hid (neg = decide (z < 0)) ∧ Hid (L = Bi.limbs z.natAbs) ∧ Hid (z.natAbs < Bi.Big) ∧
    L.length ≤ cap ∧ L.length ≤ 34 ∧ U w ao L

theorem IntV.mono {w w' : World} {v : Value} {z : Int} (h : IntV w v z) (hb : Below w.heap.size w w') : IntV w' v z := by
  obtain ⟨neg, ao, L, cap, e, h1, h2, h3, h4, h5, h6⟩ := h
  exact ⟨neg, ao, L, cap, e, h1, h2, h3, h4, h5, h6.mono hb⟩

def sgn (neg : Bool) (n : Nat) : Int := if neg then -(n : Int) else n

theorem sgn_natAbs (neg : Bool) (n : Nat) : (sgn neg n).natAbs = n := by
  unfold sgn; split <;> omega

/-- the two results of a calculation: its value, or 'too large' -/
def ResK (w' : World) (z : Int) (v : Value) (k : Int) : Prop :=
  (z.natAbs < Bi.Big ∧ k = 0 ∧ IntV w' v z) ∨ (¬ z.natAbs < Bi.Big ∧ k = 3 ∧ v = .agg #[.bool false, .slice none 0 0])

/-- what 'result' and 'Make' answer -/
def ResZ (w' : World) (z : Int) (e : Ending) : Prop :=
  ∃ (neg : Bool) (ao : Option Addr) (n cap : Nat) (k : Int), e = .returned (.tuple #[.agg #[.bool neg, .slice ao n cap], .int .i64 k]) ∧ Hid (ResK w' z (.agg #[.bool neg, .slice ao n cap]) k)

theorem ResK.mono {w w' : World} {z : Int} {v : Value} {k : Int} (h : ResK w z v k) (hb : Below w.heap.size w w') : ResK w' z v k :=
  h.imp (fun ⟨a, b, c⟩ => ⟨a, b, c.mono hb⟩) id

theorem IntV.zero (w : World) : IntV w (.agg #[.bool false, .slice none 0 0]) 0 :=
  ⟨false, none, [], 0, rfl, Lib.hid rfl, Lib.hid rfl, Lib.hid (by unfold Bi.Big; decide), Nat.le_refl _, by simp, U.nil _ _⟩

theorem limbs_len34 {n : Nat} (h : n < Bi.Big) : (Bi.limbs n).length ≤ 34 := Bi.limbs_length_le (Nat.lt_of_lt_of_le h Bi.big_lt_limbs)

set_option maxHeartbeats 800000 in
theorem result_any (neg : Bool) (l : List Nat) (ao : Option Addr) (cap : Nat) (w : World) (hm : l.length ≤ 1000000000) (hcap : l.length ≤ cap) (hU : U w ao l) (ho : Hid (Bi.Ok l)) (hE : Env w) :
    Calls Tryz.prog 33 #[.bool neg, .slice ao l.length cap] w fun e w' => ResZ w' (sgn neg (Bi.val l)) e ∧ Below w.heap.size w w' := by
  go_enter Tryz.func33, Tryz.ntmps33
  go_wp2_with fail
  refine (trim_any l ao cap _ (by omega) hcap (hU.mono ((Below.refl _ _).alloc (Nat.le_refl _) _))).mono ?_
  rintro e w1 ⟨L, hL, hLl, rfl, hUL, rfl⟩
  have HL : Hid (L = Bi.limbs (Bi.val l)) := Lib.hid (by rw [hL, Bi.trim_eq_limbs ho.out])
  have hUw : Hid (U w ao L) := Lib.hid (by obtain ⟨k, hk⟩ := Bi.trim_prefix l; rw [hL, hk]; exact hU.take k)
  clear hL
  go_wp2_with fail
  refine (digits_any _ L HL ao cap _ (by omega) hUL (hE.mono ((Below.refl _ _).alloc (Nat.le_refl _) _))).mono ?_
  rintro e w2 ⟨⟨d, HD, hd, rfl⟩, hb2⟩
  obtain ⟨c0, c1, f0, f1, hsz, hbl⟩ := box2 hb2
  have hU2 := hUL.mono hb2
  clear hUL hU hb2 hE
  by_cases hd3 : (300 : Int) < (d : Int)
  · have hbig : ¬ Bi.val l < Bi.Big := by rw [← Bi.dlen_le, ← HD.out]; omega
    have HB := Lib.hid hbig; clear hbig
    go_wp2
    refine bodyPost_ret (v := .tuple #[.agg #[.bool false, .slice none 0 0], .int .i64 3]) (by simp [results, Tryz.results33, go_sem, c0, c1]) rfl ⟨⟨false, none, 0, 0, 3, rfl, Lib.hid (.inr ⟨by rw [sgn_natAbs]; exact HB.out, rfl, rfl⟩)⟩, ?_⟩
    exact (hbl.setCell (Nat.le_refl _) _).setCell (Nat.le_refl _) _
  · have hbig : Bi.val l < Bi.Big := by rw [← Bi.dlen_le, ← HD.out]; omega
    have HB := Lib.hid hbig
    have h34 : L.length ≤ 34 := by rw [HL.out]; exact limbs_len34 hbig
    clear hbig
    by_cases hL0 : L = []
    · subst hL0
      have hv0 : Bi.val l = 0 := Bi.limbs_eq_nil.1 HL.out.symm
      have hz := Lib.hid hv0; clear hv0 hcap hU2 hLl
      go_wp2
      refine bodyPost_ret (v := .tuple #[.agg #[.bool false, .slice none 0 0], .int .i64 0]) (by simp [results, Tryz.results33, go_sem, c0, c1]) rfl ⟨⟨false, none, 0, 0, 0, rfl, Lib.hid (.inl ⟨by rw [sgn_natAbs]; exact HB.out, rfl, ?_⟩)⟩, ?_⟩
      · rw [hz.out, show sgn neg 0 = 0 by unfold sgn; split <;> rfl]
        exact IntV.zero _
      · exact (hbl.setCell (Nat.le_refl _) _).setCell (Nat.le_refl _) _
    · have hL1 : 0 < L.length := List.length_pos_iff.2 hL0
      have hv0 : Bi.val l ≠ 0 := fun h => hL0 (by rw [HL.out, h]; rfl)
      have hz := Lib.hid hv0
      have hLz : ((L.length : Int) == 0) = false := by rw [beq_eq_false_iff_ne]; omega
      clear hv0
      go_wp2
      refine bodyPost_ret (v := .tuple #[.agg #[.bool neg, .slice ao L.length cap], .int .i64 0]) (by simp [results, Tryz.results33, go_sem, c0, c1]) rfl ⟨⟨neg, ao, L.length, cap, 0, rfl, Lib.hid (.inl ⟨by rw [sgn_natAbs]; exact HB.out, rfl, ?_⟩)⟩, ?_⟩
      · refine ⟨neg, ao, L, cap, rfl, Lib.hid ?_, Lib.hid ?_, Lib.hid ?_, by omega, h34, ?_⟩
        · have := hz.out
          unfold sgn
          cases neg
          · simp
          · simp; omega
        · rw [sgn_natAbs]; exact HL.out
        · rw [sgn_natAbs]; exact HB.out
        · exact hUw.out.mono ((hbl.setCell (Nat.le_refl _) _).setCell (Nat.le_refl _) _)
      · exact (hbl.setCell (Nat.le_refl _) _).setCell (Nat.le_refl _) _

end Go.Proofs.YtijjagofingpdaaGreatDoor
