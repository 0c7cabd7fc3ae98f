import Derived.Test.YtackeigdehfmmaaDoorWT
import Derived.Lib.AtoiErrMem
import Derived.Lib.AtoiAllCases
namespace Go.Proofs.YtackeigdehfmmaaDoor
open Go.RowKit

theorem Encode_neg (n : Int) (r : Wl.Bs) (w : World) (h : n < 0) :
    Calls Tryd.prog 8 #[.int .i64 n, sv r] w fun e w' => e = .returned (sv []) ∧ w = w' := by
  have d0 : decide (n < 0) = true := by simpa using h
  go_enter Tryd.func8, Tryd.ntmps8
  go_wp2
  go_ret
  exact ⟨rfl, rfl⟩

theorem Encode_big (n : Int) (r : Wl.Bs) (w : World) (h : (Wl.lim : Int) < n) :
    Calls Tryd.prog 8 #[.int .i64 n, sv r] w fun e w' => e = .returned (sv []) ∧ w = w' := by
  have d0 : decide (n < 0) = false := by unfold Wl.lim at h; simp <;> omega
  have d1 : decide ((1099511627776 : Int) < n) = true := by unfold Wl.lim at h; simp <;> omega
  clear h
  go_enter Tryd.func8, Tryd.ntmps8
  go_wp2
  go_ret
  exact ⟨rfl, rfl⟩

theorem Encode_long (n : Nat) (r : Wl.Bs) (w : World) (hn : n ≤ Wl.lim) (hr : 65000 < r.length) (hr2 : r.length ≤ 1000000000) :
    Calls Tryd.prog 8 #[.int .i64 n, sv r] w fun e w' => e = .returned (sv []) ∧ w = w' := by
  have d0 : decide ((n : Int) < 0) = false := by simp <;> omega
  have d1 : decide ((1099511627776 : Int) < n) = false := by unfold Wl.lim at hn; simp <;> omega
  have d2 : decide ((65000 : Int) < r.length) = true := by simp <;> omega
  clear hn hr
  go_enter Tryd.func8, Tryd.ntmps8
  go_wp2
  go_ret
  exact ⟨rfl, rfl⟩

/-- Encode of any number and record -/
theorem Encode_any (n : Int) (r : Wl.Bs) (w : World) (hr : r.length ≤ 1000000000) (hE : Env w) :
    Calls Tryd.prog 8 #[.int .i64 n, sv r] w fun e w' => e = .returned (sv (Wl.enc n r)) ∧ Below w.heap.size w w' := by
  by_cases h0 : n < 0
  · rw [show Wl.enc n r = [] by unfold Wl.enc; rw [if_pos (.inl h0)]]
    exact (Encode_neg n r w h0).mono fun e w' ⟨h1, h2⟩ => ⟨h1, h2 ▸ Below.refl _ _⟩
  · by_cases h1 : (Wl.lim : Int) < n
    · rw [show Wl.enc n r = [] by unfold Wl.enc; rw [if_pos (.inr (.inl h1))]]
      exact (Encode_big n r w h1).mono fun e w' ⟨h1, h2⟩ => ⟨h1, h2 ▸ Below.refl _ _⟩
    · obtain ⟨m, rfl⟩ : ∃ m : Nat, n = m := ⟨n.toNat, by omega⟩
      by_cases h2 : 65000 < r.length
      · rw [show Wl.enc (m : Int) r = [] by unfold Wl.enc; rw [if_pos (.inr (.inr h2))]]
        exact (Encode_long m r w (by omega) h2 hr).mono fun e w' ⟨h1, h2⟩ => ⟨h1, h2 ▸ Below.refl _ _⟩
      · rw [Wl.enc_of (by omega) (by omega)]
        exact Encode_yes m r w (by omega) (by omega) hE

theorem rEncode_neg (n : Int) (r : Wl.Bs) (w : World) (h : n < 0) :
    Calls Tryd.prog 9 #[.int .i64 n, sv r] w fun e w' => e = .returned (sv []) ∧ w = w' := by
  have d0 : decide (n < 0) = true := by simpa using h
  go_enter Tryd.func9, Tryd.ntmps9
  go_wp2
  go_ret
  exact ⟨rfl, rfl⟩

theorem rEncode_big (n : Int) (r : Wl.Bs) (w : World) (h : (Wl.lim : Int) < n) :
    Calls Tryd.prog 9 #[.int .i64 n, sv r] w fun e w' => e = .returned (sv []) ∧ w = w' := by
  have d0 : decide (n < 0) = false := by unfold Wl.lim at h; simp <;> omega
  have d1 : decide ((1099511627776 : Int) < n) = true := by unfold Wl.lim at h; simp <;> omega
  clear h
  go_enter Tryd.func9, Tryd.ntmps9
  go_wp2
  go_ret
  exact ⟨rfl, rfl⟩

theorem rEncode_long (n : Nat) (r : Wl.Bs) (w : World) (hn : n ≤ Wl.lim) (hr : 65000 < r.length) (hr2 : r.length ≤ 1000000000) :
    Calls Tryd.prog 9 #[.int .i64 n, sv r] w fun e w' => e = .returned (sv []) ∧ w = w' := by
  have d0 : decide ((n : Int) < 0) = false := by simp <;> omega
  have d1 : decide ((1099511627776 : Int) < n) = false := by unfold Wl.lim at hn; simp <;> omega
  have d2 : decide ((65000 : Int) < r.length) = true := by simp <;> omega
  clear hn hr
  go_enter Tryd.func9, Tryd.ntmps9
  go_wp2
  go_ret
  exact ⟨rfl, rfl⟩

/-- the reference's Encode of any number and record -/
theorem rEncode_any (n : Int) (r : Wl.Bs) (w : World) (hr : r.length ≤ 1000000000) (hE : Env w) :
    Calls Tryd.prog 9 #[.int .i64 n, sv r] w fun e w' => e = .returned (sv (Wl.enc n r)) ∧ Below w.heap.size w w' := by
  by_cases h0 : n < 0
  · rw [show Wl.enc n r = [] by unfold Wl.enc; rw [if_pos (.inl h0)]]
    exact (rEncode_neg n r w h0).mono fun e w' ⟨h1, h2⟩ => ⟨h1, h2 ▸ Below.refl _ _⟩
  · by_cases h1 : (Wl.lim : Int) < n
    · rw [show Wl.enc n r = [] by unfold Wl.enc; rw [if_pos (.inr (.inl h1))]]
      exact (rEncode_big n r w h1).mono fun e w' ⟨h1, h2⟩ => ⟨h1, h2 ▸ Below.refl _ _⟩
    · obtain ⟨m, rfl⟩ : ∃ m : Nat, n = m := ⟨n.toNat, by omega⟩
      by_cases h2 : 65000 < r.length
      · rw [show Wl.enc (m : Int) r = [] by unfold Wl.enc; rw [if_pos (.inr (.inr h2))]]
        exact (rEncode_long m r w (by omega) h2 hr).mono fun e w' ⟨h1, h2⟩ => ⟨h1, h2 ▸ Below.refl _ _⟩
      · rw [Wl.enc_of (by omega) (by omega)]
        exact rEncode_yes m r w (by omega) (by omega) hE

/-- what cut gives -/
theorem Cut_any (s a b : Wl.Bs) (c : UInt8) (fnd : Bool) (w : World) (hs : s.length ≤ 1000000) (h : Hid (Lib.cut s [c] = (a, b, fnd))) (hE : Env w) :
    Calls Tryd.prog 32 #[sv s, .string ⟨#[c]⟩] w fun e w' => e = .returned (.tuple #[sv a, sv b, .bool fnd]) ∧ Below w.heap.size w w' := by
  obtain ⟨m, hm⟩ := hE.mx
  refine (Tryd.strings_Cut ⟨s.toArray⟩ ⟨#[c]⟩ m w (by simp [ByteArray.size]; omega) hm).mono ?_
  rintro e w' ⟨he, k, rfl⟩
  refine ⟨?_, below_drewN (Below.refl _ _) k⟩
  rw [he]
  show Ending.returned (.tuple #[.string ⟨(Lib.cut s [c]).1.toArray⟩, .string ⟨(Lib.cut s [c]).2.1.toArray⟩, .bool (Lib.cut s [c]).2.2]) = _
  rw [h.out]

theorem Trim_any (s t : Wl.Bs) (c : UInt8) (w : World) (h : Hid (Lib.trimPrefix s [c] = t)) :
    Calls Tryd.prog 33 #[sv s, .string ⟨#[c]⟩] w fun e w' => e = .returned (sv t) ∧ w = w' := by
  refine (Tryd.strings_TrimPrefix ⟨s.toArray⟩ ⟨#[c]⟩ w).mono ?_
  rintro e w' ⟨he, rfl⟩
  refine ⟨?_, rfl⟩
  rw [he]
  show Ending.returned (.string ⟨(Lib.trimPrefix s [c]).toArray⟩) = _
  rw [h.out]

theorem Atoi_ok (l : Wl.Bs) (v : Int) (w : World) (hl : l.length ≤ 1000000) (h : Hid (Lib.atoiAll l = .ok v)) :
    Calls Tryd.prog 34 #[sv l] w fun e w' => e = .returned (.tuple #[.int .i64 v, .nilIface]) ∧ Below w.heap.size w w' := by
  refine (Any.strconv_Atoi_ok Tryd.laysC172 ⟨l.toArray⟩ (by simp [ByteArray.size]; omega) v h.out w).mono ?_
  rintro e w' ⟨he, hw⟩
  refine ⟨he, ?_⟩
  rcases hw with rfl | ⟨t, rfl⟩
  · exact Below.refl _ _
  · exact Lib.bytesWorld_below w _ t

/-- an error that is not nil -/
def BadA (e : Ending) : Prop := ∃ z t p, e = .returned (.tuple #[.int .i64 z, .iface t p])

theorem Atoi_bad (l : Wl.Bs) (w : World) (hl : l.length ≤ 1000000) (h : ∀ v, Lib.atoiAll l ≠ .ok v) (hE : Env w) :
    Calls Tryd.prog 34 #[sv l] w fun e w' => BadA e ∧ Below w.heap.size w w' := by
  have hs : (⟨l.toArray⟩ : ByteArray).size ≤ 281474976710656 := by simp [ByteArray.size]; omega
  cases hc : Lib.atoiAll l with
  | ok v => exact absurd hc (h v)
  | _ =>
    first
      | (obtain ⟨ev, hv, hev⟩ := hE.e1
         refine (Any.strconv_Atoi_syntax Tryd.laysC172 ⟨l.toArray⟩ hs hc ev w hv hev).mono ?_
         rintro e w' ⟨N, he, _, _, hb⟩
         exact ⟨⟨_, _, _, he⟩, hb⟩)
      | (obtain ⟨ev, hv, hev⟩ := hE.e2
         refine (Any.strconv_Atoi_range Tryd.laysC172 ⟨l.toArray⟩ hs hc ev w hv hev).mono ?_
         rintro e w' ⟨N, he, _, _, hb⟩
         exact ⟨⟨_, _, _, he⟩, hb⟩)

theorem head_len {s a b : Wl.Bs} {c : UInt8} {f : Bool} (h : Lib.cut s [c] = (a, b, f)) : a.length ≤ s.length ∧ b.length ≤ s.length := by
  unfold Lib.cut at h
  split at h
  · simp only [Prod.mk.injEq] at h
    obtain ⟨rfl, rfl, _⟩ := h
    simp; omega
  · simp only [Prod.mk.injEq] at h
    obtain ⟨rfl, rfl, _⟩ := h
    simp

theorem trim_len (s : Wl.Bs) (c : UInt8) : (Lib.trimPrefix s [c]).length ≤ s.length := by
  unfold Lib.trimPrefix; split <;> simp

set_option maxRecDepth 100000 in
set_option maxHeartbeats 1600000 in
theorem Decode_some (s : Wl.Bs) (n : Nat) (r : Wl.Bs) (w : World) (hs : s.length ≤ 1000000) (h : Hid (Wl.IsRec s n r)) (hE : Env w) :
    Calls Tryd.prog 10 #[sv s] w fun e w' => e = .returned (.tuple #[.int .i64 n, sv r, .int .i64 0]) ∧ Below w.heap.size w w' := by
  obtain ⟨hp1, hp2⟩ := h.out.parts
  have hr := h.out.r_le
  have hn := h.out.n_le
  have hA := Wl.txt_atoi hn
  have hl := head_len hp1
  have hl2 := trim_len (Wl.headB n r) 119
  have hE1 := fun w hE => Encode_yes n r w hn hr hE
  rw [← h.out.eq] at hE1
  have HP1 := Lib.hid hp1
  have HP2 := Lib.hid hp2
  have HA := Lib.hid hA
  have htl := Wl.txt_len hn
  clear hA hp1 hp2 hn h
  generalize Wl.headB n r = a at *
  obtain ⟨a2, ha2⟩ : ∃ a2, Lib.trimPrefix a [119] = a2 := ⟨_, rfl⟩
  rw [ha2] at HP2 hl2
  have HT := Lib.hid ha2
  clear ha2
  generalize Wl.txt n = t at *
  generalize Wl.hexN 8 (Wl.crc (t ++ 32 :: r)) = hx at *
  generalize Wl.txt r.length ++ 32 :: hx = b2 at *
  go_enter Tryd.func10, Tryd.ntmps10
  go_wp2_with fail
  (with_reducible refine (Cut_any s a r 10 true _ hs HP1 hE).mono ?_)
  rintro e w1 ⟨rfl, hb1⟩
  have hE := hE.mono hb1
  go_wp2_with fail
  (with_reducible refine (Trim_any a a2 119 _ HT).mono ?_)
  rintro e w' ⟨rfl, rfl⟩
  go_wp2_with fail
  (with_reducible refine (Cut_any a2 t b2 32 true _ (by omega) HP2 hE).mono ?_)
  rintro e w2 ⟨rfl, hb2⟩
  have hE := hE.mono hb2
  go_wp2_with fail
  (with_reducible refine (Atoi_ok t n _ (by omega) HA).mono ?_)
  rintro e w3 ⟨rfl, hb3⟩
  have hE := hE.mono hb3
  go_wp2_with fail
  (with_reducible refine (hE1 _ hE).mono ?_)
  rintro e w4 ⟨rfl, hb4⟩
  clear hE hE1
  go_wp2
  go_ret3
  exact ⟨rfl, Below.step (Below.step (Below.step hb1 hb2 (Nat.le_refl _)) hb3 (Nat.le_refl _)) hb4 (Nat.le_refl _)⟩

/-- whatever Atoi gives -/
def AnyA (e : Ending) : Prop := ∃ z E, e = .returned (.tuple #[.int .i64 z, E])

theorem Atoi_any (l : Wl.Bs) (w : World) (hl : l.length ≤ 1000000) (hE : Env w) :
    Calls Tryd.prog 34 #[sv l] w fun e w' => AnyA e ∧ Below w.heap.size w w' := by
  by_cases h : ∃ v, Lib.atoiAll l = .ok v
  · obtain ⟨v, h⟩ := h
    exact (Atoi_ok l v w hl (Lib.hid h)).mono fun e w' ⟨h1, h2⟩ => ⟨⟨_, _, h1⟩, h2⟩
  · exact (Atoi_bad l w hl (fun v hv => h ⟨v, hv⟩) hE).mono fun e w' ⟨⟨z, t, p, h1⟩, h2⟩ => ⟨⟨_, _, h1⟩, h2⟩

/-- no written record -/
def Torn (e : Ending) : Prop := e = .returned (.tuple #[.int .i64 0, sv [], .int .i64 21])

set_option maxRecDepth 100000 in
set_option maxHeartbeats 1600000 in
theorem Decode_nocut (s a b : Wl.Bs) (w : World) (hs : s.length ≤ 1000000) (HP1 : Hid (Lib.cut s [10] = (a, b, false))) (hE : Env w) :
    Calls Tryd.prog 10 #[sv s] w fun e w' => Torn e ∧ Below w.heap.size w w' := by
  have hl := head_len HP1.out
  have hl2 := trim_len a 119
  obtain ⟨a2, ha2⟩ : ∃ a2, Lib.trimPrefix a [119] = a2 := ⟨_, rfl⟩
  rw [ha2] at hl2
  have HT := Lib.hid ha2
  clear ha2
  obtain ⟨t, b2, f2, h2⟩ : ∃ t b2 f2, Lib.cut a2 [32] = (t, b2, f2) := ⟨_, _, _, rfl⟩
  have hl3 := head_len h2
  have HP2 := Lib.hid h2
  clear h2
  go_enter Tryd.func10, Tryd.ntmps10
  go_wp2_with fail
  (with_reducible refine (Cut_any s a b 10 false _ hs HP1 hE).mono ?_)
  rintro e w1 ⟨rfl, hb1⟩
  have hE := hE.mono hb1
  go_wp2_with fail
  (with_reducible refine (Trim_any a a2 119 _ HT).mono ?_)
  rintro e w' ⟨rfl, rfl⟩
  go_wp2_with fail
  (with_reducible refine (Cut_any a2 t b2 32 f2 _ (by omega) HP2 hE).mono ?_)
  rintro e w2 ⟨rfl, hb2⟩
  have hE := hE.mono hb2
  go_wp2_with fail
  (with_reducible refine (Atoi_any t _ (by omega) hE).mono ?_)
  rintro e w3 ⟨⟨z, E, rfl⟩, hb3⟩
  clear hE
  go_wp2
  go_ret3
  exact ⟨rfl, Below.step (Below.step hb1 hb2 (Nat.le_refl _)) hb3 (Nat.le_refl _)⟩

set_option maxRecDepth 100000 in
set_option maxHeartbeats 1600000 in
theorem Decode_noatoi (s a b a2 t b2 : Wl.Bs) (f2 : Bool) (w : World) (hs : s.length ≤ 1000000) (HP1 : Hid (Lib.cut s [10] = (a, b, true))) (HT : Hid (Lib.trimPrefix a [119] = a2)) (HP2 : Hid (Lib.cut a2 [32] = (t, b2, f2)))
    (hA : Hid (∀ v, Lib.atoiAll t ≠ .ok v)) (hE : Env w) :
    Calls Tryd.prog 10 #[sv s] w fun e w' => Torn e ∧ Below w.heap.size w w' := by
  have hl := head_len HP1.out
  have hl2 := trim_len a 119
  rw [HT.out] at hl2
  have hl3 := head_len HP2.out
  go_enter Tryd.func10, Tryd.ntmps10
  go_wp2_with fail
  (with_reducible refine (Cut_any s a b 10 true _ hs HP1 hE).mono ?_)
  rintro e w1 ⟨rfl, hb1⟩
  have hE := hE.mono hb1
  go_wp2_with fail
  (with_reducible refine (Trim_any a a2 119 _ HT).mono ?_)
  rintro e w' ⟨rfl, rfl⟩
  go_wp2_with fail
  (with_reducible refine (Cut_any a2 t b2 32 f2 _ (by omega) HP2 hE).mono ?_)
  rintro e w2 ⟨rfl, hb2⟩
  have hE := hE.mono hb2
  go_wp2_with fail
  (with_reducible refine (Atoi_bad t _ (by omega) hA.out hE).mono ?_)
  rintro e w3 ⟨⟨z, tt, pp, rfl⟩, hb3⟩
  clear hE
  go_wp2
  go_ret3
  exact ⟨rfl, Below.step (Below.step hb1 hb2 (Nat.le_refl _)) hb3 (Nat.le_refl _)⟩

set_option maxRecDepth 100000 in
set_option maxHeartbeats 1600000 in
theorem Decode_other (s a b a2 t b2 E : Wl.Bs) (f2 : Bool) (v : Int) (w : World) (hs : s.length ≤ 1000000) (HP1 : Hid (Lib.cut s [10] = (a, b, true))) (HT : Hid (Lib.trimPrefix a [119] = a2)) (HP2 : Hid (Lib.cut a2 [32] = (t, b2, f2)))
    (hA : Hid (Lib.atoiAll t = .ok v)) (hEn : Hid (Wl.enc v b = E)) (hne : (s == E) = false) (hE : Env w) :
    Calls Tryd.prog 10 #[sv s] w fun e w' => Torn e ∧ Below w.heap.size w w' := by
  have hl := head_len HP1.out
  have hl2 := trim_len a 119
  rw [HT.out] at hl2
  have hl3 := head_len HP2.out
  have hE1 := fun w hE => Encode_any v b w (by omega) hE
  rw [hEn.out] at hE1
  have hv := Lib.atoiAll_bounds hA.out
  go_enter Tryd.func10, Tryd.ntmps10
  go_wp2_with fail
  (with_reducible refine (Cut_any s a b 10 true _ hs HP1 hE).mono ?_)
  rintro e w1 ⟨rfl, hb1⟩
  have hE := hE.mono hb1
  go_wp2_with fail
  (with_reducible refine (Trim_any a a2 119 _ HT).mono ?_)
  rintro e w' ⟨rfl, rfl⟩
  go_wp2_with fail
  (with_reducible refine (Cut_any a2 t b2 32 f2 _ (by omega) HP2 hE).mono ?_)
  rintro e w2 ⟨rfl, hb2⟩
  have hE := hE.mono hb2
  go_wp2_with fail
  (with_reducible refine (Atoi_ok t v _ (by omega) hA).mono ?_)
  rintro e w3 ⟨rfl, hb3⟩
  have hE := hE.mono hb3
  go_wp2_with fail
  (with_reducible refine (hE1 _ hE).mono ?_)
  rintro e w4 ⟨rfl, hb4⟩
  clear hE hE1
  go_wp2
  go_ret3
  exact ⟨rfl, Below.step (Below.step (Below.step hb1 hb2 (Nat.le_refl _)) hb3 (Nat.le_refl _)) hb4 (Nat.le_refl _)⟩

theorem Decode_none (s : Wl.Bs) (w : World) (hs : s.length ≤ 1000000) (h : Hid (Wl.dec s = none)) (hE : Env w) :
    Calls Tryd.prog 10 #[sv s] w fun e w' => Torn e ∧ Below w.heap.size w w' := by
  obtain ⟨a, b, f, h1⟩ : ∃ a b f, Lib.cut s [10] = (a, b, f) := ⟨_, _, _, rfl⟩
  cases f with
  | false => exact Decode_nocut s a b w hs (Lib.hid h1) hE
  | true =>
    obtain ⟨t, b2, f2, h2⟩ : ∃ t b2 f2, Lib.cut (Lib.trimPrefix a [119]) [32] = (t, b2, f2) := ⟨_, _, _, rfl⟩
    by_cases hv : ∃ v, Lib.atoiAll t = .ok v
    · obtain ⟨v, hv⟩ := hv
      exact Decode_other s a b _ t b2 _ f2 v w hs (Lib.hid h1) (Lib.hid rfl) (Lib.hid h2) (Lib.hid hv) (Lib.hid rfl) (beq_eq_false_iff_ne.2 (Wl.dec_none_ne h.out (Wl.cut_some_ne h1) v b)) hE
    · exact Decode_noatoi s a b _ t b2 f2 w hs (Lib.hid h1) (Lib.hid rfl) (Lib.hid h2) (Lib.hid fun v hv' => hv ⟨v, hv'⟩) hE

end Go.Proofs.YtackeigdehfmmaaDoor
