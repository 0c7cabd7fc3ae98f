import Derived.Test.YtackeigdehfmmaaDoorYK
namespace Go.Proofs.YtackeigdehfmmaaDoor
open Go.RowKit

set_option maxRecDepth 100000 in
set_option maxHeartbeats 3200000 in
theorem encode_long (n : Int) (r : Wl.Bs) (m : Bool) (w : World) (hE : Env w) (hs : 2000 < r.length) :
    Calls Tryd.prog 3 #[.int .i64 n, sv r, .bool m] w fun e w' => e = .returned (.bool true) ∧ Below w.heap.size w w' := by
  have hd : decide ((2000 : Int) < r.length) = true := by simp <;> omega
  have hA := awake_any w hE
  have hB := fun w hE => awake_any w hE
  clear hs
  go_enter Tryd.func3, Tryd.ntmps3
  go_wp2_with fail
  (with_reducible refine hA.mono ?_)
  rintro e w1 ⟨rfl, hb1⟩
  have hE1 := hE.mono hb1
  go_wp2_with fail
  (with_reducible refine (hB w1 hE1).mono ?_)
  rintro e w2 ⟨rfl, hb2⟩
  go_wp2_with fail
  go_ret
  exact ⟨rfl, (Below.step hb1 hb2 (Nat.le_refl _))⟩

set_option maxRecDepth 100000 in
set_option maxHeartbeats 3200000 in
theorem encode_few_no (n : Int) (r : Wl.Bs) (w : World) (hE : Env w) (hs : r.length ≤ 2000) (h : Hid (Wl.enc n r = [])) :
    Calls Tryd.prog 3 #[.int .i64 n, sv r, .bool false] w fun e w' => e = .returned (.bool true) ∧ Below w.heap.size w w' := by
  have hd : decide ((2000 : Int) < r.length) = false := by simp <;> omega
  have hA := awake_any w hE
  have hB := fun w hE => Encode_any n r w (by omega) hE
  have hC := fun w hE => rEncode_any n r w (by omega) hE
  rw [h.out] at hB hC
  clear hs h
  go_enter Tryd.func3, Tryd.ntmps3
  go_wp2_with fail
  (with_reducible refine hA.mono ?_)
  rintro e w1 ⟨rfl, hb1⟩
  have hE1 := hE.mono hb1
  go_wp2_with fail
  (with_reducible refine (hB w1 hE1).mono ?_)
  rintro e w2 ⟨rfl, hb2⟩
  have hE2 := hE1.mono hb2
  go_wp2_with fail
  (with_reducible refine (hC w2 hE2).mono ?_)
  rintro e w3 ⟨rfl, hb3⟩
  have hE3 := hE2.mono hb3
  go_wp2_with fail
  (with_reducible refine (hC w3 hE3).mono ?_)
  rintro e w4 ⟨rfl, hb4⟩
  go_wp2_with fail
  go_ret
  exact ⟨rfl, (Below.step (Below.step (Below.step hb1 hb2 (Nat.le_refl _)) hb3 (Nat.le_refl _)) hb4 (Nat.le_refl _))⟩

set_option maxRecDepth 100000 in
set_option maxHeartbeats 3200000 in
theorem encode_few_yes (n : Nat) (s r : Wl.Bs) (w : World) (hE : Env w) (hs : r.length ≤ 2000) (h : Hid (Wl.enc (n : Int) r = s)) (hI : Hid (Wl.IsRec s n r)) (h0 : List.isEmpty s = false) (hl : s.length ≤ 1000000) :
    Calls Tryd.prog 3 #[.int .i64 n, sv r, .bool false] w fun e w' => e = .returned (.bool true) ∧ Below w.heap.size w w' := by
  have hd : decide ((2000 : Int) < r.length) = false := by simp <;> omega
  have hA := awake_any w hE
  have hB := fun w hE => Encode_any n r w (by omega) hE
  have hC := fun w hE => rEncode_any n r w (by omega) hE
  have hD := fun w hE => Decode_some s n r w hl hI hE
  rw [h.out] at hB hC
  clear hs h hI
  go_enter Tryd.func3, Tryd.ntmps3
  go_wp2_with fail
  (with_reducible refine hA.mono ?_)
  rintro e w1 ⟨rfl, hb1⟩
  have hE1 := hE.mono hb1
  go_wp2_with fail
  (with_reducible refine (hB w1 hE1).mono ?_)
  rintro e w2 ⟨rfl, hb2⟩
  have hE2 := hE1.mono hb2
  go_wp2_with fail
  (with_reducible refine (hC w2 hE2).mono ?_)
  rintro e w3 ⟨rfl, hb3⟩
  have hE3 := hE2.mono hb3
  go_wp2_with fail
  (with_reducible refine (hD w3 hE3).mono ?_)
  rintro e w4 ⟨rfl, hb4⟩
  go_wp2_with fail
  go_ret
  exact ⟨rfl, (Below.step (Below.step (Below.step hb1 hb2 (Nat.le_refl _)) hb3 (Nat.le_refl _)) hb4 (Nat.le_refl _))⟩

set_option maxRecDepth 100000 in
set_option maxHeartbeats 3200000 in
theorem encode_many_no (n : Int) (r z : Wl.Bs) (w : World) (hE : Env w) (hs : r.length ≤ 2000) (hz : z.length = 65000) (hR : ∀ w, Calls Tryd.prog 7 #[sv [120], .int .i64 65000] w fun e w' => e = .returned (sv z) ∧ Below w.heap.size w w') (h : Hid (Wl.enc n (r ++ z) = [])) :
    Calls Tryd.prog 3 #[.int .i64 n, sv r, .bool true] w fun e w' => e = .returned (.bool true) ∧ Below w.heap.size w w' := by
  have hd : decide ((2000 : Int) < r.length) = false := by simp <;> omega
  have hA := awake_any w hE
  have hB := fun w hE => Encode_any n (r ++ z) w (by simp; omega) hE
  have hC := fun w hE => rEncode_any n (r ++ z) w (by simp; omega) hE
  rw [h.out] at hB hC
  have hz := Nat.le_of_eq hz
  clear h
  go_enter Tryd.func3, Tryd.ntmps3
  go_wp2_with fail
  (with_reducible refine hA.mono ?_)
  rintro e w1 ⟨rfl, hb0⟩
  have hE0 := hE.mono hb0
  clear hA
  go_wp2_with fail
  (with_reducible refine (hR w1).mono ?_)
  rintro e w1' ⟨rfl, hb1⟩
  have hE1 := hE0.mono hb1
  clear hR
  go_wp2_with fail
  rw [ba_cat]
  (with_reducible refine (hB w1' hE1).mono ?_)
  rintro e w2 ⟨rfl, hb2⟩
  have hE2 := hE1.mono hb2
  go_wp2_with fail
  (with_reducible refine (hC w2 hE2).mono ?_)
  rintro e w3 ⟨rfl, hb3⟩
  have hE3 := hE2.mono hb3
  go_wp2_with fail
  (with_reducible refine (hC w3 hE3).mono ?_)
  rintro e w4 ⟨rfl, hb4⟩
  go_wp2_with fail
  go_ret
  exact ⟨rfl, (Below.step (Below.step (Below.step (Below.step hb0 hb1 (Nat.le_refl _)) hb2 (Nat.le_refl _)) hb3 (Nat.le_refl _)) hb4 (Nat.le_refl _))⟩

set_option maxRecDepth 100000 in
set_option maxHeartbeats 3200000 in
theorem encode_many_yes (n : Nat) (s r z : Wl.Bs) (w : World) (hE : Env w) (hs : r.length ≤ 2000) (hz : z.length = 65000) (hR : ∀ w, Calls Tryd.prog 7 #[sv [120], .int .i64 65000] w fun e w' => e = .returned (sv z) ∧ Below w.heap.size w w') (h : Hid (Wl.enc (n : Int) (r ++ z) = s)) (hI : Hid (Wl.IsRec s n (r ++ z))) (h0 : List.isEmpty s = false) (hl : s.length ≤ 1000000) :
    Calls Tryd.prog 3 #[.int .i64 n, sv r, .bool true] w fun e w' => e = .returned (.bool true) ∧ Below w.heap.size w w' := by
  have hd : decide ((2000 : Int) < r.length) = false := by simp <;> omega
  have hA := awake_any w hE
  have hB := fun w hE => Encode_any n (r ++ z) w (by simp; omega) hE
  have hC := fun w hE => rEncode_any n (r ++ z) w (by simp; omega) hE
  have hD := fun w hE => Decode_some s n (r ++ z) w hl hI hE
  rw [h.out] at hB hC
  have hz := Nat.le_of_eq hz
  clear h hI
  go_enter Tryd.func3, Tryd.ntmps3
  go_wp2_with fail
  (with_reducible refine hA.mono ?_)
  rintro e w1 ⟨rfl, hb0⟩
  have hE0 := hE.mono hb0
  clear hA
  go_wp2_with fail
  (with_reducible refine (hR w1).mono ?_)
  rintro e w1' ⟨rfl, hb1⟩
  have hE1 := hE0.mono hb1
  clear hR
  go_wp2_with fail
  rw [ba_cat]
  (with_reducible refine (hB w1' hE1).mono ?_)
  rintro e w2 ⟨rfl, hb2⟩
  have hE2 := hE1.mono hb2
  go_wp2_with fail
  (with_reducible refine (hC w2 hE2).mono ?_)
  rintro e w3 ⟨rfl, hb3⟩
  have hE3 := hE2.mono hb3
  go_wp2_with fail
  (with_reducible refine (hD w3 hE3).mono ?_)
  rintro e w4 ⟨rfl, hb4⟩
  go_wp2_with fail
  go_ret
  exact ⟨rfl, (Below.step (Below.step (Below.step (Below.step hb0 hb1 (Nat.le_refl _)) hb2 (Nat.le_refl _)) hb3 (Nat.le_refl _)) hb4 (Nat.le_refl _))⟩

theorem repeatL_len (c : UInt8) : ∀ k : Nat, (Lib.repeatL [c] k).length = k
  | 0 => rfl
  | k + 1 => by
    rw [show Lib.repeatL [c] (k + 1) = c :: Lib.repeatL [c] k from rfl, List.length_cons, repeatL_len c k]

theorem encode_law (n : Int) (r : Wl.Bs) (m : Bool) (w : World) (hE : Env w) :
    Calls Tryd.prog 3 #[.int .i64 n, sv r, .bool m] w fun e w' => e = .returned (.bool true) ∧ Below w.heap.size w w' := by
  by_cases hs : r.length ≤ 2000
  · have hall : ∀ x : Wl.Bs, Wl.enc n x ≠ [] → ∃ k : Nat, n = k ∧ Wl.IsRec (Wl.enc (k : Int) x) k x := by
      intro x h
      obtain ⟨h1, h2⟩ := Wl.enc_rec h
      obtain ⟨k, rfl⟩ : ∃ k : Nat, n = k := ⟨n.toNat, by omega⟩
      exact ⟨k, rfl, by rw [Int.toNat_natCast] at h1; exact h1⟩
    have hlen : ∀ (s : Wl.Bs) (k : Nat) (x : Wl.Bs), Wl.IsRec s k x → s.length ≤ 1000000 := by
      intro s k x h
      have := Wl.encB_len h.n_le h.r_le
      rw [← h.eq] at this
      omega
    cases m with
    | false =>
      by_cases h : Wl.enc n r = []
      · exact encode_few_no n r w hE hs (Lib.hid h)
      · obtain ⟨k, rfl, hI⟩ := hall r h
        exact encode_few_yes k _ r w hE hs (Lib.hid rfl) (Lib.hid hI) (by simpa using h) (hlen _ _ _ hI)
    | true =>
      have hR : ∀ w, Calls Tryd.prog 7 #[sv [120], .int .i64 65000] w fun e w' => e = .returned (sv (Lib.repeatL [120] 65000)) ∧ Below w.heap.size w w' :=
        fun w => Tryd.strings_Repeat ⟨#[120]⟩ 65000 w (by omega) (by show 1 * _ ≤ _; omega)
      have hz := repeatL_len 120 65000
      generalize Lib.repeatL [120] 65000 = z at *
      by_cases h : Wl.enc n (r ++ z) = []
      · exact encode_many_no n r z w hE hs hz hR (Lib.hid h)
      · obtain ⟨k, rfl, hI⟩ := hall _ h
        exact encode_many_yes k _ r z w hE hs hz hR (Lib.hid rfl) (Lib.hid hI) (by simpa using h) (hlen _ _ _ hI)
  · exact encode_long n r m w hE (by omega)

end Go.Proofs.YtackeigdehfmmaaDoor
