import Derived.Test.YtackeigdehfmmaaDoorWY
namespace Wl
open Go
/-- the sectors of n records from number b on -/
def usedL (m b n : Nat) : List Nat := (List.range n).map fun t => place m (b + t)

theorem usedL_iff {m b n j : Nat} : j ∈ usedL m b n ↔ used m b n j = true := by
  unfold usedL used; simp

theorem usedL_succ (m b n : Nat) : usedL m b (n + 1) = usedL m b n ++ [place m (b + n)] := by
  unfold usedL; rw [List.range_succ]; simp

theorem all_empty {l : List Bs} {S : Nat} (hl : l.length = S) (h : ∀ j, j < S → l.getD j [] = []) : l = List.replicate S [] := by
  apply List.ext_getElem?
  intro j
  by_cases hj : j < S
  · have := h j hj
    rw [List.getD_eq_getElem?_getD, List.getElem?_eq_getElem (by omega)] at this
    rw [List.getElem?_eq_getElem (by omega), List.getElem?_replicate, if_pos hj]
    simpa using this
  · rw [List.getElem?_eq_none (by omega), List.getElem?_replicate, if_neg hj]

theorem wrt_empty {d : Dk} {k S : Nat} (hS : d.now.length = S) (h : ∀ j, j < k → d.now.getD j [] = []) (hk : k < S) : ∀ j, j < k + 1 → (d.wrt k []).now.getD j [] = [] := by
  intro j hj
  show (d.now.set k []).getD j [] = []
  by_cases e : k = j
  · subst e; exact getD_set_self (by omega)
  · rw [getD_set_ne e]; exact h j (by omega)

theorem dk_eq {a b : Dk} (h1 : a.now = b.now) (h2 : a.old = b.old) (h3 : a.dirty = b.dirty) : a = b := by
  cases a; cases b; simp_all

theorem fmt_eq {d d' : Dk} {S : Nat} (hS : d.now.length = S) (h4 : 4 ≤ S) (h' : d'.now.length = S) (he : ∀ j, j < S → d'.now.getD j [] = []) : (d'.wrt 0 (enc 0 [48])).syn = d.fmt.1 := by
  unfold Dk.fmt
  rw [if_neg (by omega)]
  have := all_empty h' he
  unfold Dk.wrt Dk.syn
  simp only [this, hS, List.length_set, List.length_replicate]

end Wl
namespace Go.Proofs.YtackeigdehfmmaaDoor
open Go.RowKit

/-- the library's variables and the blocks of G -/
structure Cx (w : World) (G : Nat → Prop) : Prop where
  all : ∀ w', Kept G w w' → Env w'
  lt : ∀ b, G b → b < w.heap.size
theorem Cx.env {w : World} {G : Nat → Prop} (h : Cx w G) : Env w := h.all w (Kept.refl w)
theorem Cx.kept {w w' : World} {G : Nat → Prop} (h : Cx w G) (hk : Kept G w w') : Cx w' G := ⟨fun v hv => h.all v (hk.trans hv), fun b hb => Nat.lt_of_lt_of_le (h.lt b hb) hk.size⟩
theorem Cx.mono {w w' : World} {G : Nat → Prop} (h : Cx w G) (hb : Below w.heap.size w w') : Cx w' G := h.kept (Kept.of_below hb)

section
variable {w : World} {G : Nat → Prop} {p S : Nat} {d : Wl.Dk}

theorem Format_no (h : Disk w G p S d) (hS : S < 4) :
    Calls Tryd.prog 39 #[.pointer (some ⟨p, 0, none⟩)] w fun e w' => e = .returned (.int .i64 7) ∧ w = w' := by
  have hL := Len_any h
  have hb : decide ((S : Int) < 4) = true := by simp <;> omega
  clear h hS
  go_enter Tryd.func39, Tryd.ntmps39
  go_wp2_with fail
  (with_reducible refine hL.mono ?_)
  rintro e w' ⟨rfl, rfl⟩
  go_wp2
  go_ret
  exact ⟨rfl, rfl⟩

set_option maxRecDepth 100000 in
set_option maxHeartbeats 1600000 in
theorem Format_yes (h : Disk w G p S d) (hC : Cx w G) (hS : 4 ≤ S) :
    Calls Tryd.prog 39 #[.pointer (some ⟨p, 0, none⟩)] w fun e w' => e = .returned (.int .i64 0) ∧ Disk w' G p S d.fmt.1 ∧ Kept G w w' := by
  have hL := Len_any h
  have hS2 := h.S_le
  have hb : decide ((S : Int) < 4) = false := by simp <;> omega
  go_enter Tryd.func39, Tryd.ntmps39
  go_wp2_with fail
  (with_reducible refine hL.mono ?_)
  rintro e w' ⟨rfl, rfl⟩
  go_wp2_with fail
  (with_reducible refine hL.mono ?_)
  rintro e w' ⟨rfl, rfl⟩
  clear hL hb
  go_wp2_with fail
  go_loopw [9] (fun s9 wr => ∃ (k : Nat) (d' : Wl.Dk), k ≤ S ∧ s9 = .int .i64 k ∧ Disk wr G p S d' ∧ Hid (∀ j, j < k → d'.now.getD j [] = []) ∧ Kept G w wr) (fun s9 _ => S - (intOf s9).toNat)
  case atStart => exact ⟨0, d, Nat.zero_le _, rfl, h, Lib.hid (fun j hj => by omega), Kept.refl _⟩
  case round =>
    obtain ⟨k, d', hk, rfl, hd, HZ, hkp⟩ := hrel
    have HOK := Lib.hid hd.ok
    by_cases hlt : k < S
    · have hW := Write_yes k [] hd hlt (by simp)
      clear hd
      go_wp2_with fail
      (with_reducible refine hW.mono ?_)
      rintro e w1 ⟨rfl, hd1, hk1⟩
      clear hW
      have HZ2 : Hid (∀ j, j < k + 1 → (d'.wrt k []).now.getD j [] = []) := Lib.hid (Wl.wrt_empty HOK.out.now HZ.out hlt)
      go_wp2
      go_roundw
      case rel => exact ⟨k + 1, _, by omega, by go_num, hd1, HZ2, hkp.trans hk1⟩
      case measure => simp [intOf]; omega
    · have hk2 : k = S := by omega
      have HE : Hid ((d'.wrt 0 (Wl.enc 0 [48])).syn = d.fmt.1) := Lib.hid (Wl.fmt_eq h.ok.now hS HOK.out.now (hk2 ▸ HZ.out))
      clear hk2
      have hE := (hC.kept hkp).env
      have hEn := Encode_any 0 [48] wr (by simp) hE
      have hel := Wl.enc_len 0 [48]
      generalize Wl.enc 0 [48] = E at *
      go_wp2_with fail
      (with_reducible refine hEn.mono ?_)
      rintro e w1 ⟨rfl, hb1⟩
      have hW := Write_yes 0 E (hd.mono hb1) (by omega) (by omega)
      rw [show ((0 : Nat) : Int) = 0 from rfl] at hW
      clear hEn hd hE
      go_wp2_with fail
      (with_reducible refine hW.mono ?_)
      rintro e w2 ⟨rfl, hd2, hk2⟩
      clear hW
      have hY := Sync_any hd2
      rw [HE.out] at hY
      clear hd2
      go_wp2_with fail
      (with_reducible refine hY.mono ?_)
      rintro e w3 ⟨rfl, hd3, hk3⟩
      clear hY
      go_wp2
      go_ret
      exact ⟨rfl, hd3, ((hkp.trans (Kept.of_below hb1)).trans hk2).trans hk3⟩

theorem Append_none (r : Wl.Bs) (h : Disk w G p S d) (hE : Env w) (hl : Hid (Wl.log d.now = none)) :
    Calls Tryd.prog 14 #[.pointer (some ⟨p, 0, none⟩), sv r] w fun e w' => e = .returned (.tuple #[.int .i64 0, .int .i64 21]) ∧ Below w.heap.size w w' := by
  have hF := records_none h hE hl
  clear h hE hl
  go_enter Tryd.func14, Tryd.ntmps14
  go_wp2_with fail
  (with_reducible refine hF.mono ?_)
  rintro e w1 ⟨rfl, hb1⟩
  go_wp2
  go_ret2
  exact ⟨rfl, hb1⟩

set_option maxRecDepth 100000 in
set_option maxHeartbeats 1600000 in
theorem Append_full (r : Wl.Bs) (L : Wl.Log) (h : Disk w G p S d) (hE : Env w) (hl : Hid (Wl.log d.now = some L)) (hr : r.length ≤ 1000000000) (hc : 65000 < r.length ∨ S - 2 ≤ L.recs.length ∨ Wl.lim < L.first + L.recs.length) :
    Calls Tryd.prog 14 #[.pointer (some ⟨p, 0, none⟩), sv r] w fun e w' => e = .returned (.tuple #[.int .i64 0, .int .i64 3]) ∧ Below w.heap.size w w' := by
  have hF := records_some L h hE hl
  obtain ⟨_, h2, h3, h4⟩ := Wl.log_le hl.out
  rw [h.ok.now] at h3 h4
  have hS := h.S_le
  unfold Wl.lim at hc h2
  obtain ⟨b, hb0⟩ : ∃ b, b = L.first := ⟨_, rfl⟩
  obtain ⟨n, hn0⟩ : ∃ n, n = L.recs.length := ⟨_, rfl⟩
  rw [← hb0] at hc h2
  rw [← hn0] at hc h3
  have HB := Lib.hid hb0
  have HN := Lib.hid hn0
  clear hb0 hn0
  have hcc : decide ((65000 : Int) < r.length) = true ∨ (decide ((65000 : Int) < r.length) = false ∧ decide ((S : Int) - 2 ≤ n) = true) ∨ (decide ((65000 : Int) < r.length) = false ∧ decide ((S : Int) - 2 ≤ n) = false ∧ decide ((1099511627776 : Int) < (b : Int) + (n : Int)) = true) := by
    simp only [decide_eq_true_eq, decide_eq_false_iff_not]; omega
  clear hc
  rcases hcc with d0 | ⟨d0, d1⟩ | ⟨d0, d1, d2⟩
  · go_enter Tryd.func14, Tryd.ntmps14
    go_wp2_with fail
    (with_reducible refine hF.mono ?_)
    rintro e w1 ⟨⟨v, rfl, hown⟩, hb1⟩
    obtain ⟨ao, cap, rfl, hcap, -⟩ := hown.read
    simp only [List.length_map, ← HB.out, ← HN.out] at *
    clear hF hown h hE
    go_wp2
    go_ret2
    exact ⟨rfl, hb1⟩
  all_goals
    go_enter Tryd.func14, Tryd.ntmps14
    go_wp2_with fail
    (with_reducible refine hF.mono ?_)
    rintro e w1 ⟨⟨v, rfl, hown⟩, hb1⟩
    obtain ⟨ao, cap, rfl, hcap, -⟩ := hown.read
    have hL := Len_any (h.mono hb1)
    simp only [List.length_map, ← HB.out, ← HN.out] at *
    clear hF hown h hE
    go_wp2_with fail
    (with_reducible refine hL.mono ?_)
    rintro e w' ⟨rfl, rfl⟩
    clear hL
    go_wp2
    go_ret2
    exact ⟨rfl, hb1⟩

set_option maxRecDepth 100000 in
set_option maxHeartbeats 1600000 in
theorem Append_ok (r : Wl.Bs) (L : Wl.Log) (h : Disk w G p S d) (hE : Env w) (hl : Hid (Wl.log d.now = some L)) (hr : r.length ≤ 65000) (hc1 : L.recs.length < S - 2) (hc2 : L.first + L.recs.length ≤ Wl.lim) :
    Calls Tryd.prog 14 #[.pointer (some ⟨p, 0, none⟩), sv r] w fun e w' => e = .returned (.tuple #[.int .i64 ((L.first + L.recs.length : Nat) : Int), .int .i64 0]) ∧
      Disk w' G p S (d.wrt (Wl.place (S - 2) (L.first + L.recs.length)) (Wl.enc ((L.first + L.recs.length : Nat) : Int) r)) ∧ Kept G w w' := by
  have hF := records_some L h hE hl
  obtain ⟨_, h2, h3, h4⟩ := Wl.log_le hl.out
  rw [h.ok.now] at h3 h4
  have hS := h.S_le
  unfold Wl.lim at hc2 h2
  obtain ⟨b, hb0⟩ : ∃ b, b = L.first := ⟨_, rfl⟩
  obtain ⟨n, hn0⟩ : ∃ n, n = L.recs.length := ⟨_, rfl⟩
  rw [← hb0] at hc2 h2 ⊢
  rw [← hn0] at hc1 hc2 h3 ⊢
  have HB := Lib.hid hb0
  have HN := Lib.hid hn0
  clear hb0 hn0
  have d0 : decide ((65000 : Int) < r.length) = false := by simp <;> omega
  have d1 : decide ((S : Int) - 2 ≤ n) = false := by simp <;> omega
  have d2 : decide ((1099511627776 : Int) < (b : Int) + (n : Int)) = false := by simp <;> omega
  have hpl := Wl.place_lt (m := S - 2) (k := b + n) (by omega)
  have hP := fun w (h1 : Disk w G p S d) => place_any (b + n) h1 h4 (by omega)
  have hEn := fun w hE => Encode_any ((b + n : Nat) : Int) r w (by omega) hE
  have hel := Wl.enc_len ((b + n : Nat) : Int) r
  simp only [Int.natCast_add] at hP hEn hel ⊢
  generalize Wl.place (S - 2) (b + n) = q at *
  generalize Wl.enc ((b : Int) + (n : Int)) r = E at *
  go_enter Tryd.func14, Tryd.ntmps14
  go_wp2_with fail
  (with_reducible refine hF.mono ?_)
  rintro e w1 ⟨⟨v, rfl, hown⟩, hb1⟩
  obtain ⟨ao, cap, rfl, hcap, -⟩ := hown.read
  have h1 := h.mono hb1
  have hL := Len_any h1
  have hP := hP _ h1
  have hEn := hEn _ (hE.mono hb1)
  simp only [List.length_map, ← HB.out, ← HN.out] at *
  clear hF hown h hE
  go_wp2_with fail
  (with_reducible refine hL.mono ?_)
  rintro e w' ⟨rfl, rfl⟩
  clear hL
  go_wp2_with fail
  (with_reducible refine hP.mono ?_)
  rintro e w' ⟨rfl, rfl⟩
  clear hP
  go_wp2_with fail
  (with_reducible refine hEn.mono ?_)
  rintro e w2 ⟨rfl, hb2⟩
  clear hEn
  have hW := Write_yes q E (h1.mono hb2) (by omega) (by omega)
  clear h1
  go_wp2_with fail
  (with_reducible refine hW.mono ?_)
  rintro e w3 ⟨rfl, hd3, hk3⟩
  clear hW
  go_wp2
  go_ret2
  exact ⟨rfl, hd3, ((Kept.of_below hb1).trans (Kept.of_below hb2)).trans hk3⟩

end

end Go.Proofs.YtackeigdehfmmaaDoor
