import Derived.Test.YtijjagofingpdaaGreatDoorAdd
namespace Go.Proofs.YtijjagofingpdaaGreatDoor
open Go.RowKit

set_option maxHeartbeats 400000 in
theorem indexFunc_any (l : List Nat) (ao : Option Addr) (cap : Nat) (w : World) (hm : l.length ≤ 1000000000) (hU : U w ao l) :
    Calls Tryz.prog 89 #[.slice ao l.length cap, .func (.func 73) #[] #[]] w fun e w' => (∃ r : Int, Hid (0 ≤ r ↔ ¬ Bi.Ok l) ∧ -1 ≤ r ∧ r ≤ l.length ∧ e = .returned (.int .i64 r)) ∧ w = w' := by
  go_enter Tryz.func89, Tryz.ntmps89
  go_wp2
  go_loop [8] (fun s => ∃ k : Nat, k ≤ l.length ∧ s = .int .i64 k ∧ Hid (Bi.Ok (l.take k))) (fun s => l.length - (intOf s).toNat)
  case atStart => exact ⟨0, Nat.zero_le _, rfl, Lib.hid (by simp [Bi.Ok])⟩
  case round =>
    obtain ⟨k, hk, rfl, HK⟩ := hrel
    by_cases hlt : k < l.length
    · obtain ⟨x, hx⟩ := get_some hlt
      obtain ⟨b, off, rfl, hc⟩ := hU.at' hx
      have HX := Lib.hid hx
      clear hx hU
      by_cases hs : (1000000000 : Int) ≤ (x : Int)
      · go_wp2
        go_ret
        refine ⟨⟨k, Lib.hid ⟨fun _ h => ?_, fun _ => by omega⟩, by omega, by omega, rfl⟩, rfl⟩
        have := h.at' HX.out
        omega
      · go_wp2
        go_round
        case rel =>
          refine ⟨k + 1, by omega, by go_num, Lib.hid ?_⟩
          have h1 : l[k]'hlt = x := (List.getElem?_eq_some_iff.1 HX.out).2
          rw [List.take_succ_eq_append_getElem hlt, h1]
          exact HK.out.snoc (by omega)
        case measure => simp [intOf]; omega
    · obtain rfl : k = l.length := by omega
      clear hU
      go_wp2
      go_ret
      refine ⟨⟨-1, Lib.hid ⟨fun h => by omega, fun h => absurd ?_ h⟩, by omega, by omega, rfl⟩, rfl⟩
      have := HK.out
      rwa [List.take_length] at this

theorem containsFunc_any (l : List Nat) (ao : Option Addr) (cap : Nat) (w : World) (hm : l.length ≤ 1000000000) (hU : U w ao l) :
    Calls Tryz.prog 72 #[.slice ao l.length cap, .func (.func 73) #[] #[]] w fun e w' => (∃ r : Bool, Hid (r = true ↔ ¬ Bi.Ok l) ∧ e = .returned (.bool r)) ∧ w = w' := by
  go_enter Tryz.func72, Tryz.ntmps72
  go_wp2_with fail
  (with_reducible refine (indexFunc_any l _ _ _ hm hU).mono ?_)
  rintro e w1 ⟨⟨r, HR, h1, h2, rfl⟩, rfl⟩
  go_wp2
  go_ret
  exact ⟨⟨_, Lib.hid (by rw [decide_eq_true_iff]; exact HR.out), rfl⟩, rfl⟩

/-- is it valid? -/
def validP (neg : Bool) (l : List Nat) : Prop := if l = [] then neg = false else Bi.Ok l ∧ Bi.Canon l ∧ Bi.val l < Bi.Big

theorem valid_last {r : List Nat} {x : Nat} {neg : Bool} : validP neg (r ++ [x]) ↔ Bi.Ok (r ++ [x]) ∧ x ≠ 0 ∧ Bi.val (r ++ [x]) < Bi.Big := by
  unfold validP
  rw [if_neg (by simp)]
  unfold Bi.Canon
  simp

theorem big_len {r : List Nat} {x : Nat} (hx : x ≠ 0) (hl : 34 ≤ r.length) : Bi.Big ≤ Bi.val (r ++ [x]) := by
  rw [Bi.val_snoc]
  have h1 : 1000000000 ^ 34 ≤ 1000000000 ^ r.length := Nat.pow_le_pow_right (by decide) hl
  have h2 : 1000000000 ^ r.length * 1 ≤ 1000000000 ^ r.length * x := Nat.mul_le_mul_left _ (by omega)
  have := Bi.big_lt_limbs
  omega

theorem canon_snoc {r : List Nat} {x : Nat} (ho : Bi.Ok (r ++ [x])) (hx : x ≠ 0) : r ++ [x] = Bi.limbs (Bi.val (r ++ [x])) :=
  (Bi.canon_limbs ho (by intro _; simpa using hx)).symm

set_option maxHeartbeats 800000 in
theorem valid_any (neg : Bool) (l : List Nat) (ao : Option Addr) (cap : Nat) (w : World) (hm : l.length ≤ 1000000000) (hU : U w ao l) (hE : Env w) :
    Calls Tryz.prog 43 #[.agg #[.bool neg, .slice ao l.length cap]] w fun e w' => (∃ r : Bool, Hid (r = true ↔ validP neg l) ∧ e = .returned (.bool r)) ∧ Below w.heap.size w w' := by
  have hb0 : ∀ o, Below w.heap.size w (w.alloc o) := fun o => below_alloc w o
  obtain rfl | ⟨r, x, rfl⟩ : l = [] ∨ ∃ r x, l = r ++ [x] := by
    rcases List.eq_nil_or_concat l with h | ⟨r, x, h⟩
    · exact .inl h
    · exact .inr ⟨r, x, by rw [h, List.concat_eq_append]⟩
  · clear hU
    go_enter Tryz.func43, Tryz.ntmps43
    go_wp2
    go_ret
    exact ⟨⟨_, Lib.hid (by simp [validP]), rfl⟩, hb0 _⟩
  · obtain ⟨b, off, rfl, hc⟩ := hU.at' (k := r.length) (x := x) (by simp)
    have HV : Hid (validP neg (r ++ [x]) ↔ Bi.Ok (r ++ [x]) ∧ x ≠ 0 ∧ Bi.val (r ++ [x]) < Bi.Big) := Lib.hid valid_last
    have hl : (r ++ [x]).length = r.length + 1 := by simp
    have hc' : ∀ o, (w.alloc o).cell? ⟨b, off + r.length, none⟩ = some (.int .u32 (x : Int)) := fun o => ((hb0 o).cell (p := ⟨b, off + r.length, none⟩) (cell_lt hc)).trans hc
    have hU' : ∀ o, Hid (U (w.alloc o) (some ⟨b, off, none⟩) (r ++ [x])) := fun o => Lib.hid (hU.mono (hb0 o))
    have HE : ∀ o, Hid (Env (w.alloc o)) := fun o => Lib.hid (hE.mono (hb0 o))
    rw [hl] at hm ⊢
    have HLen := Lib.hid hl
    clear hl hU hE hb0
    by_cases hx0 : x = 0
    · subst hx0
      go_enter Tryz.func43, Tryz.ntmps43
      go_wp2
      go_ret
      exact ⟨⟨false, Lib.hid (by rw [HV.out]; simp), rfl⟩, below_alloc _ _⟩
    · have hxb : ((x : Int) == 0) = false := by rw [beq_eq_false_iff_ne]; omega
      by_cases hlen : (34 : Int) < (r.length : Int) + 1
      · have hbig : ¬ Bi.val (r ++ [x]) < Bi.Big := by have := big_len (r := r) hx0 (by omega); omega
        have HBig := Lib.hid hbig
        clear hbig
        go_enter Tryz.func43, Tryz.ntmps43
        go_wp2
        go_ret
        exact ⟨⟨false, Lib.hid (by rw [HV.out]; simp [HBig.out]), rfl⟩, below_alloc _ _⟩
      · go_enter Tryz.func43, Tryz.ntmps43
        go_wp2_with fail
        rw [← HLen.out]
        (with_reducible refine (containsFunc_any (r ++ [x]) _ _ _ ?_ (hU' _).out).mono ?_)
        · rw [HLen.out]; exact hm
        rintro e w1 ⟨⟨q, HQ, rfl⟩, rfl⟩
        cases q
        · have ho : Hid (Bi.Ok (r ++ [x])) := Lib.hid (by have := HQ.out; simp at this; exact this)
          go_wp2_with fail
          rw [← HLen.out]
          (with_reducible refine (digits_any _ (r ++ [x]) (Lib.hid (canon_snoc ho.out hx0)) _ _ _ ?_ (hU' _).out (HE _).out).mono ?_)
          · rw [HLen.out]; omega
          rintro e w2 ⟨⟨d, HD, hd, rfl⟩, hb2⟩
          go_wp2
          go_ret
          refine ⟨⟨_, Lib.hid ?_, rfl⟩, (below_alloc _ _).trans (hb2.mono (by simp))⟩
          rw [HV.out, ← Bi.dlen_le, ← HD.out]
          simp [ho.out, hx0]
          omega
        · have ho : Hid (¬ Bi.Ok (r ++ [x])) := Lib.hid (HQ.out.1 rfl)
          go_wp2
          go_ret
          exact ⟨⟨false, Lib.hid (by rw [HV.out]; simp [ho.out]), rfl⟩, below_alloc _ _⟩

end Go.Proofs.YtijjagofingpdaaGreatDoor
