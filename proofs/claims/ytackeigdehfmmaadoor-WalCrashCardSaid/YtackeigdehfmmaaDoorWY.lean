import Derived.Test.YtackeigdehfmmaaDoorWX
namespace Wl
open Go
theorem log_cases (now : List Bs) : (log now = none ∧ ((hs now 2).1 < 0 ∨ now.length < 4)) ∨ (∃ L, log now = some L ∧ 0 ≤ (hs now 2).1 ∧ 4 ≤ now.length ∧ ((hs now 2).1 = (L.header : Int)) ∧ (hs now 2).2 = L.first ∧ L.recs = recs now (now.length - 2) (now.length - 2) L.first) := by
  by_cases h : (hs now 2).1 < 0 ∨ now.length < 4
  · exact .inl ⟨by unfold log; rw [if_pos h], h⟩
  · refine .inr ⟨_, by unfold log; rw [if_neg h], by omega, by omega, by simp only; omega, rfl, rfl⟩
end Wl
namespace Go.Proofs.YtackeigdehfmmaaDoor
open Go.RowKit

def vlen : Value → Nat | .slice _ n _ => n | _ => 0

section
variable {w : World} {G : Nat → Prop} {p S : Nat} {d : Wl.Dk}

theorem first_none (h : Disk w G p S d) (hE : Env w) (hl : Hid (Wl.log d.now = none)) :
    Calls Tryd.prog 43 #[.pointer (some ⟨p, 0, none⟩)] w fun e w' => e = .returned (.tuple #[.int .i64 0, .int .i64 0, .int .i64 21]) ∧ Below w.heap.size w w' := by
  refine (first_any h hE).mono fun e w' ⟨h1, h2⟩ => ⟨?_, h2⟩
  rcases h1 with ⟨_, he⟩ | ⟨⟨h3, h4⟩, _⟩
  · exact he
  · exfalso
    rcases Wl.log_cases d.now with ⟨_, h5⟩ | ⟨L, h5, _⟩
    · have := h.ok.now; omega
    · rw [hl.out] at h5; cases h5

theorem first_some (L : Wl.Log) (h : Disk w G p S d) (hE : Env w) (hl : Hid (Wl.log d.now = some L)) :
    Calls Tryd.prog 43 #[.pointer (some ⟨p, 0, none⟩)] w fun e w' => e = .returned (.tuple #[.int .i64 L.header, .int .i64 L.first, .int .i64 0]) ∧ Below w.heap.size w w' := by
  refine (first_any h hE).mono fun e w' ⟨h1, h2⟩ => ⟨?_, h2⟩
  rcases Wl.log_cases d.now with ⟨h5, _⟩ | ⟨L', h5, h6, h7, h8, h9, _⟩
  · rw [hl.out] at h5; cases h5
  · obtain rfl : L = L' := Option.some.inj (hl.out.symm.trans h5)
    rcases h1 with ⟨h3, he⟩ | ⟨_, he⟩
    · have := h.ok.now; omega
    · rw [he, h8, h9]

/-- the records and the first number -/
def RecsR (W w' : World) (L : Wl.Log) (e : Ending) : Prop :=
  ∃ v, e = .returned (.tuple #[v, .int .i64 L.first, .int .i64 0]) ∧ OwnV w' W.heap.size 9 v (svs L.recs)

theorem records_none (h : Disk w G p S d) (hE : Env w) (hl : Hid (Wl.log d.now = none)) :
    Calls Tryd.prog 40 #[.pointer (some ⟨p, 0, none⟩)] w fun e w' => e = .returned (.tuple #[.slice none 0 0, .int .i64 0, .int .i64 21]) ∧ Below w.heap.size w w' := by
  have hF := first_none h hE hl
  clear h hE hl
  go_enter Tryd.func40, Tryd.ntmps40
  go_wp2_with fail
  (with_reducible refine hF.mono ?_)
  rintro e w1 ⟨rfl, hb1⟩
  go_wp2
  go_ret3
  exact ⟨rfl, hb1⟩

set_option maxRecDepth 100000 in
set_option maxHeartbeats 1600000 in
theorem records_some (L : Wl.Log) (h : Disk w G p S d) (hE : Env w) (hl : Hid (Wl.log d.now = some L)) :
    Calls Tryd.prog 40 #[.pointer (some ⟨p, 0, none⟩)] w fun e w' => RecsR w w' L e ∧ Below w.heap.size w w' := by
  have hF := first_some L h hE hl
  obtain ⟨_, h2, _, h4⟩ := Wl.log_le hl.out
  obtain ⟨_, _, h7⟩ := Wl.log_some hl.out
  have hS := h.S_le
  rw [h.ok.now] at h4 h7
  have H7 := Lib.hid h7
  have hfl : L.first ≤ 1099511627776 := h2
  obtain ⟨b, hb0⟩ : ∃ b, b = L.first := ⟨_, rfl⟩
  rw [← hb0] at hF H7 hfl
  have HB := Lib.hid hb0
  clear h2 h7 hb0
  go_enter Tryd.func40, Tryd.ntmps40
  go_wp2_with fail
  (with_reducible refine hF.mono ?_)
  rintro e w1 ⟨rfl, hb1⟩
  have h := h.mono hb1
  have hE := hE.mono hb1
  clear hF
  go_wp2_with fail
  go_loopw [8] (fun s8 wr => ∃ l : List Wl.Bs, l.length ≤ S - 2 ∧ OwnV wr w1.heap.size 9 s8 (svs l) ∧ Hid (L.recs = l ++ Wl.recs d.now (S - 2) (S - 2 - l.length) (b + l.length)) ∧ Below w1.heap.size w1 wr) (fun s8 _ => S - 2 - vlen s8)
  case atStart => exact ⟨[], Nat.zero_le _, OwnV.nil _ _ _, Lib.hid (by rw [H7.out]; rfl), Below.refl _ _⟩
  case round =>
    obtain ⟨l, hll, hown, HR, hb⟩ := hrel
    obtain ⟨ao, cap, rfl, hcap, -⟩ := hown.read
    simp only [List.length_map] at hown hcap
    have h2 := h.mono hb
    have hE2 := hE.mono hb
    have hL := Len_any h2
    by_cases hlt : l.length < S - 2
    · have hlt' : (l.length : Int) < (S : Int) - 2 := by omega
      have hP := place_any (b + l.length) h2 h4 (by omega)
      have hpl := Wl.place_lt (m := S - 2) (k := b + l.length) (by omega)
      obtain ⟨q, hq⟩ : ∃ q, Wl.place (S - 2) (b + l.length) = q := ⟨_, rfl⟩
      rw [hq] at hP hpl
      rw [Int.natCast_add] at hP
      have HQ := Lib.hid hq
      clear hq
      obtain ⟨f, hf⟩ : ∃ f, S - 2 - l.length = f + 1 := ⟨S - 2 - l.length - 1, by omega⟩
      cases hdc : Wl.dec (d.now.getD q []) with
      | none =>
        have HS : Hid (L.recs = l) := Lib.hid (by rw [HR.out, hf, Wl.recs_stop (by rw [HQ.out]; exact hdc), List.append_nil])
        have hRd := read_none q h2 (by omega) hE2 (Lib.hid hdc)
        clear hdc hf
        go_wp2_with fail
        (with_reducible refine hL.mono ?_)
        rintro e w' ⟨rfl, rfl⟩
        go_wp2_with fail
        (with_reducible refine hP.mono ?_)
        rintro e w' ⟨rfl, rfl⟩
        go_wp2_with fail
        (with_reducible refine hRd.mono ?_)
        rintro e w2 ⟨rfl, hb2⟩
        clear hL hP hRd hE2 h2
        have hown2 := hown.mono hb2
        have hb3 := Below.step hb hb2 (Nat.le_refl _)
        go_wp2
        go_ret3
        exact ⟨⟨_, by rw [← HB.out]; rfl, by rw [HS.out]; exact hown2.weak hb1.size⟩, Below.step hb1 hb3 (Nat.le_refl _)⟩
      | some y =>
        obtain ⟨n, r⟩ := y
        have hrec := Wl.dec_some.1 hdc
        have hnl := hrec.n_le
        unfold Wl.lim at hnl
        have hrl := hrec.r_le
        have hRd := read_some q n r h2 (by omega) hE2 (Lib.hid hdc)
        clear hrec
        by_cases hn : n = b + l.length
        · have HS : Hid (L.recs = (l ++ [r]) ++ Wl.recs d.now (S - 2) (S - 2 - (l ++ [r]).length) (b + (l ++ [r]).length)) := Lib.hid (by
            rw [HR.out, hf, Wl.recs_more (r := r) (by rw [HQ.out, ← hn]; exact hdc), List.length_append, List.length_singleton, show S - 2 - (l.length + 1) = f by omega, ← Nat.add_assoc]; simp)
          have hne : ((n : Int) != (b : Int) + (l.length : Int)) = false := by simp; omega
          clear hdc hf hn
          go_wp2_with fail
          (with_reducible refine hL.mono ?_)
          rintro e w' ⟨rfl, rfl⟩
          go_wp2_with fail
          (with_reducible refine hP.mono ?_)
          rintro e w' ⟨rfl, rfl⟩
          go_wp2_with fail
          (with_reducible refine hRd.mono ?_)
          rintro e w2 ⟨rfl, hb2⟩
          clear hL hP hRd hE2 h2
          have hown2 := hown.mono hb2
          have hb3 := Below.step hb hb2 (Nat.le_refl _)
          have hsz := hb3.size
          have hsz1 := hb1.size
          go_wp2_with (at_builtin; refine app_v _ (sv r) 33 9 16 (.string ⟨#[]⟩) rfl (.tmp 49) (.tmp 51) rfl Tryd.underlying33 Tryd.info9 rfl (by omega) w1 w1.heap.size _ (svs l) rfl hown2 (by omega) (fun _ => False) (Kept.of_below hb3) (Nat.le_refl _) rfl rfl (by simp; omega) ?_; intro v3 w3 hown3 hkp3 hsz3)
          have hown4 : OwnV w3 w1.heap.size 9 v3 (svs (l ++ [r])) := by simpa using hown3
          obtain ⟨ao3, cap3, rfl, hcap3, -⟩ := hown4.read
          simp only [List.length_map] at hown4 hcap3
          have hb4 := hkp3.to
          go_roundw
          case rel => exact ⟨l ++ [r], by simp; omega, by simpa using hown4, HS, hb4⟩
          case measure => simp [vlen]; omega
        · have HS : Hid (L.recs = l) := Lib.hid (by rw [HR.out, hf, Wl.recs_other (n := n) (r := r) (by rw [HQ.out]; exact hdc) hn, List.append_nil])
          have hne : ((n : Int) != (b : Int) + (l.length : Int)) = true := by simp; omega
          clear hdc hf hn
          go_wp2_with fail
          (with_reducible refine hL.mono ?_)
          rintro e w' ⟨rfl, rfl⟩
          go_wp2_with fail
          (with_reducible refine hP.mono ?_)
          rintro e w' ⟨rfl, rfl⟩
          go_wp2_with fail
          (with_reducible refine hRd.mono ?_)
          rintro e w2 ⟨rfl, hb2⟩
          clear hL hP hRd hE2 h2
          have hown2 := hown.mono hb2
          have hb3 := Below.step hb hb2 (Nat.le_refl _)
          go_wp2
          go_ret3
          exact ⟨⟨_, by rw [← HB.out]; rfl, by rw [HS.out]; exact hown2.weak hb1.size⟩, Below.step hb1 hb3 (Nat.le_refl _)⟩
    · have HS : Hid (L.recs = l) := Lib.hid (by rw [HR.out, show S - 2 - l.length = 0 by omega]; simp [Wl.recs])
      have hlt' : decide ((l.length : Int) < (S : Int) - 2) = false := by simp; omega
      clear hlt
      go_wp2_with fail
      (with_reducible refine hL.mono ?_)
      rintro e w' ⟨rfl, rfl⟩
      clear hL hE2 h2
      go_wp2
      go_ret3
      exact ⟨⟨_, by rw [← HB.out]; rfl, by rw [HS.out]; exact hown.weak hb1.size⟩, Below.step hb1 hb (Nat.le_refl _)⟩
end

end Go.Proofs.YtackeigdehfmmaaDoor
