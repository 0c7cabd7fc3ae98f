import Derived.Test.YtackeigdehfmmaaDoorYJ
import Derived.Test.YtackeigdehfmmaaDoorWS
namespace Go.Proofs.YtackeigdehfmmaaDoor
open Go.RowKit

set_option maxRecDepth 100000 in
set_option maxHeartbeats 3200000 in
theorem decode_long (s : Wl.Bs) (w : World) (hE : Env w) (hs : 1000 < s.length) :
    Calls Tryd.prog 4 #[sv s] w fun e w' => e = .returned (.bool true) ∧ Below w.heap.size w w' := by
  have hd : decide ((1000 : Int) < s.length) = true := by simp <;> omega
  have hA := awake_any w hE
  have hB := fun w hE => awake_any w hE
  clear hs
  go_enter Tryd.func4, Tryd.ntmps4
  go_wp2_with fail
  (with_reducible refine hA.mono ?_)
  rintro e w1 ⟨rfl, hb1⟩
  have hE1 := hE.mono hb1
  go_wp2_with fail
  (with_reducible refine (hB w1 hE1).mono ?_)
  rintro e w2 ⟨rfl, hb2⟩
  go_wp2_with fail
  go_ret
  exact ⟨rfl, (Below.step hb1 hb2 (Nat.le_refl _))⟩

set_option maxRecDepth 100000 in
set_option maxHeartbeats 3200000 in
theorem decode_bad (s : Wl.Bs) (w : World) (hE : Env w) (hs : s.length ≤ 1000) (h : Hid (Wl.dec s = none)) :
    Calls Tryd.prog 4 #[sv s] w fun e w' => e = .returned (.bool true) ∧ Below w.heap.size w w' := by
  have hd : decide ((1000 : Int) < s.length) = false := by simp <;> omega
  have hA := awake_any w hE
  have hB := fun w hE => Decode_none s w (by omega) h hE
  have hC := fun w hE => rDecode_none s w (by omega) h hE
  clear hs h
  go_enter Tryd.func4, Tryd.ntmps4
  go_wp2_with fail
  (with_reducible refine hA.mono ?_)
  rintro e w1 ⟨rfl, hb1⟩
  have hE1 := hE.mono hb1
  go_wp2_with fail
  (with_reducible refine (hB w1 hE1).mono ?_)
  rintro e w2 ⟨rfl, hb2⟩
  have hE2 := hE1.mono hb2
  go_wp2_with fail
  (with_reducible refine (hC w2 hE2).mono ?_)
  rintro e w3 ⟨rfl, hb3⟩
  go_wp2_with fail
  go_ret
  exact ⟨rfl, (Below.step (Below.step hb1 hb2 (Nat.le_refl _)) hb3 (Nat.le_refl _))⟩

set_option maxRecDepth 100000 in
set_option maxHeartbeats 3200000 in
theorem decode_good (s : Wl.Bs) (n : Nat) (r : Wl.Bs) (w : World) (hE : Env w) (hs : s.length ≤ 1000) (h : Hid (Wl.IsRec s n r)) :
    Calls Tryd.prog 4 #[sv s] w fun e w' => e = .returned (.bool true) ∧ Below w.heap.size w w' := by
  have hd : decide ((1000 : Int) < s.length) = false := by simp <;> omega
  have hA := awake_any w hE
  have hB := fun w hE => Decode_some s n r w (by omega) h hE
  have hC := fun w hE => rDecode_some s n r w (by omega) h hE
  have hD := fun w hE => Encode_yes n r w h.out.n_le h.out.r_le hE
  rw [← h.out.eq] at hD
  clear hs h
  go_enter Tryd.func4, Tryd.ntmps4
  go_wp2_with fail
  (with_reducible refine hA.mono ?_)
  rintro e w1 ⟨rfl, hb1⟩
  have hE1 := hE.mono hb1
  go_wp2_with fail
  (with_reducible refine (hB w1 hE1).mono ?_)
  rintro e w2 ⟨rfl, hb2⟩
  have hE2 := hE1.mono hb2
  go_wp2_with fail
  (with_reducible refine (hC w2 hE2).mono ?_)
  rintro e w3 ⟨rfl, hb3⟩
  have hE3 := hE2.mono hb3
  go_wp2_with fail
  (with_reducible refine (hD w3 hE3).mono ?_)
  rintro e w4 ⟨rfl, hb4⟩
  go_wp2_with fail
  go_ret
  exact ⟨rfl, (Below.step (Below.step (Below.step hb1 hb2 (Nat.le_refl _)) hb3 (Nat.le_refl _)) hb4 (Nat.le_refl _))⟩

theorem decode_law (s : Wl.Bs) (w : World) (hE : Env w) :
    Calls Tryd.prog 4 #[sv s] w fun e w' => e = .returned (.bool true) ∧ Below w.heap.size w w' := by
  by_cases hs : s.length ≤ 1000
  · cases h : Wl.dec s with
    | none => exact decode_bad s w hE hs (Lib.hid h)
    | some p =>
      obtain ⟨n, r⟩ := p
      exact decode_good s n r w hE hs (Lib.hid (Wl.dec_some.1 h))
  · exact decode_long s w hE (by omega)

end Go.Proofs.YtackeigdehfmmaaDoor
