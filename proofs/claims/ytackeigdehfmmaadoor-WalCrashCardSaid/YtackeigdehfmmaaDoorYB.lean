import Derived.Test.YtackeigdehfmmaaDoorYA
namespace Wl
open Go
theorem txt_len2 {n : Nat} (h : n < 1000000000000000000) : (txt n).length ≤ 18 := by
  rw [txt_eq, Lib.decDigits_length]
  rcases Nat.eq_zero_or_pos n with rfl | h0
  · rw [Lib.nDigits_small (by decide)]; omega
  · exact (Bi.nd_le (by omega)).2 h
end Wl
namespace Go.Proofs.YtackeigdehfmmaaDoor
open Go.RowKit

section
variable {w : World} {G : Nat → Prop} {p S : Nat} {d : Wl.Dk}

theorem Cut_none (x : Int) (h : Disk w G p S d) (hE : Env w) (hl : Hid (Wl.log d.now = none)) :
    Calls Tryd.prog 15 #[.pointer (some ⟨p, 0, none⟩), .int .i64 x] w fun e w' => e = .returned (.int .i64 21) ∧ Below w.heap.size w w' := by
  have hF := first_none h hE hl
  clear h hE hl
  go_enter Tryd.func15, Tryd.ntmps15
  go_wp2_with fail
  (with_reducible refine hF.mono ?_)
  rintro e w1 ⟨rfl, hb1⟩
  go_wp2
  go_ret
  exact ⟨rfl, hb1⟩

set_option maxRecDepth 100000 in
set_option maxHeartbeats 1600000 in
theorem Cut_range (x : Int) (L : Wl.Log) (h : Disk w G p S d) (hE : Env w) (hl : Hid (Wl.log d.now = some L)) (hc : x < L.first ∨ ((L.first + L.recs.length : Nat) : Int) < x) :
    Calls Tryd.prog 15 #[.pointer (some ⟨p, 0, none⟩), .int .i64 x] w fun e w' => e = .returned (.int .i64 7) ∧ Below w.heap.size w w' := by
  have hF := first_some L h hE hl
  have hR := fun w h hE => records_some (w := w) (G := G) (p := p) (S := S) (d := d) L h hE hl
  obtain ⟨h1, h2, h3, h4⟩ := Wl.log_le hl.out
  rw [h.ok.now] at h3 h4
  have hS := h.S_le
  unfold Wl.lim at h1 h2
  obtain ⟨b, hb0⟩ : ∃ b, b = L.first := ⟨_, rfl⟩
  obtain ⟨n, hn0⟩ : ∃ n, n = L.recs.length := ⟨_, rfl⟩
  rw [← hb0] at hc h2
  rw [← hn0] at hc h3
  have HB := Lib.hid hb0
  have HN := Lib.hid hn0
  clear hb0 hn0
  have hcc : decide (x < (b : Int)) = true ∨ (decide (x < (b : Int)) = false ∧ decide ((b : Int) + (n : Int) < x) = true) := by
    simp only [decide_eq_true_eq, decide_eq_false_iff_not]; omega
  clear hc
  rcases hcc with d0 | ⟨d0, d1⟩
  all_goals
    go_enter Tryd.func15, Tryd.ntmps15
    go_wp2_with fail
    (with_reducible refine hF.mono ?_)
    rintro e w1 ⟨rfl, hb1⟩
    have hR := hR _ (h.mono hb1) (hE.mono hb1)
    clear hF h hE
    go_wp2_with fail
    (with_reducible refine hR.mono ?_)
    rintro e w2 ⟨⟨v, rfl, hown⟩, hb2⟩
    obtain ⟨ao, cap, rfl, hcap, -⟩ := hown.read
    clear hR hown
    simp only [List.length_map, ← HB.out, ← HN.out] at hcap ⊢
    go_wp2
    go_ret
    exact ⟨rfl, Below.step hb1 hb2 (Nat.le_refl _)⟩

set_option maxRecDepth 100000 in
set_option maxHeartbeats 1600000 in
theorem Cut_ok (x : Nat) (L : Wl.Log) (h : Disk w G p S d) (hE : Env w) (hl : Hid (Wl.log d.now = some L)) (hc1 : L.first ≤ x) (hc2 : x ≤ L.first + L.recs.length) :
    Calls Tryd.prog 15 #[.pointer (some ⟨p, 0, none⟩), .int .i64 x] w fun e w' => e = .returned (.int .i64 0) ∧ Disk w' G p S (d.wrt ((L.header + 1) % 2) (Wl.enc ((L.header + 1 : Nat) : Int) (Wl.txt x))).syn ∧ Kept G w w' := by
  have hF := first_some L h hE hl
  have hR := fun w h hE => records_some (w := w) (G := G) (p := p) (S := S) (d := d) L h hE hl
  obtain ⟨h1, h2, h3, h4⟩ := Wl.log_le hl.out
  rw [h.ok.now] at h3 h4
  have hS := h.S_le
  unfold Wl.lim at h1 h2
  obtain ⟨b, hb0⟩ : ∃ b, b = L.first := ⟨_, rfl⟩
  obtain ⟨n, hn0⟩ : ∃ n, n = L.recs.length := ⟨_, rfl⟩
  obtain ⟨hd, hh0⟩ : ∃ hd, hd = L.header := ⟨_, rfl⟩
  rw [← hb0] at hc1 hc2 h2
  rw [← hn0] at hc2 h3
  rw [← hh0] at h1 ⊢
  have HB := Lib.hid hb0
  have HN := Lib.hid hn0
  have HH := Lib.hid hh0
  clear hb0 hn0 hh0
  have d0 : decide ((x : Int) < (b : Int)) = false := by simp <;> omega
  have d1 : decide ((b : Int) + (n : Int) < (x : Int)) = false := by simp <;> omega
  have htl : (Wl.txt x).length ≤ 1000 := by have := Wl.txt_len2 (n := x) (by omega); omega
  have hI := fun w hE => itoa_any x (by omega) w hE
  have hEn := fun w hE => Encode_any ((hd + 1 : Nat) : Int) (Wl.txt x) w (by omega) hE
  have hel := Wl.enc_len ((hd + 1 : Nat) : Int) (Wl.txt x)
  have hm : ((hd : Int) + 1) % 2 = (((hd + 1) % 2 : Nat) : Int) := by omega
  have hm2 : (hd + 1) % 2 < 2 := by omega
  rw [show ((hd + 1 : Nat) : Int) = (hd : Int) + 1 by omega] at hEn hel ⊢
  generalize Wl.enc ((hd : Int) + 1) (Wl.txt x) = E at *
  generalize Wl.txt x = T at *
  generalize (hd + 1) % 2 = q at *
  go_enter Tryd.func15, Tryd.ntmps15
  go_wp2_with fail
  (with_reducible refine hF.mono ?_)
  rintro e w1 ⟨rfl, hb1⟩
  have h := h.mono hb1
  have hE := hE.mono hb1
  have hR := hR _ h hE
  clear hF
  go_wp2_with fail
  (with_reducible refine hR.mono ?_)
  rintro e w2 ⟨⟨v, rfl, hown⟩, hb2⟩
  obtain ⟨ao, cap, rfl, hcap, -⟩ := hown.read
  clear hR hown
  have h := h.mono hb2
  have hE := hE.mono hb2
  have hbb := Below.step hb1 hb2 (Nat.le_refl _)
  simp only [List.length_map, ← HB.out, ← HN.out, ← HH.out] at hcap ⊢
  have hI := hI _ hE
  go_wp2_with fail
  (with_reducible refine hI.mono ?_)
  rintro e w3 ⟨rfl, hb3⟩
  have h := h.mono hb3
  have hE := hE.mono hb3
  have hbb := Below.step hbb hb3 (Nat.le_refl _)
  have hEn := hEn _ hE
  clear hI
  go_wp2_with fail
  (with_reducible refine hEn.mono ?_)
  rintro e w4 ⟨rfl, hb4⟩
  have h := h.mono hb4
  have hbb := Below.step hbb hb4 (Nat.le_refl _)
  clear hEn hE
  have hW := Write_yes q E h (by omega) (by omega)
  clear h
  go_wp2_with fail
  (with_reducible refine hW.mono ?_)
  rintro e w5 ⟨rfl, hd5, hk5⟩
  have hY := Sync_any hd5
  clear hW hd5
  go_wp2_with fail
  (with_reducible refine hY.mono ?_)
  rintro e w6 ⟨rfl, hd6, hk6⟩
  clear hY
  go_wp2
  go_ret
  exact ⟨rfl, hd6, ((Kept.of_below hbb).trans hk5).trans hk6⟩

end

end Go.Proofs.YtackeigdehfmmaaDoor
