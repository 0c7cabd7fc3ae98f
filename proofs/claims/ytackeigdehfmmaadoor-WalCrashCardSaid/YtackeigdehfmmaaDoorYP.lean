import Derived.Test.YtackeigdehfmmaaDoorYO
namespace Go.Proofs.YtackeigdehfmmaaDoor
open Go.RowKit

theorem RG.old {w w' : World} {G : Nat → Prop} {ab : Option Addr} {xs : List Value} (h : RG w (fun _ => False) ab xs) (hb : Below w.heap.size w w') (lo : ∀ b, G b → w.heap.size ≤ b) : RG w' G ab xs := by
  intro i x hx
  obtain ⟨b, off, e, _, hc⟩ := h i x hx
  have hlt : b < w.heap.size := cell_lt hc
  exact ⟨b, off, e, fun hg => by have := lo b hg; omega, (hb.cell (p := ⟨b, off + i, none⟩) hlt).trans hc⟩

set_option maxRecDepth 100000 in
set_option maxHeartbeats 3200000 in
theorem crash_many (z : Nat) (l : List OpD) (bits : List Nat) (a ab : Option Addr) (c cb : Nat) (w : World) (hz : z < 256) (hl : OpsR w a l) (hll : l.length ≤ 9223372036854775807) (hfew : Hid (¬ FewP l)) (hE : Env w) :
    Calls Tryd.prog 5 #[.int .u8 z, .slice a l.length c, .slice ab bits.length cb] w fun e w' => e = .returned (.bool true) ∧ Below w.heap.size w w' := by
  have hM := fun w hE => made_any (4 + z % 5) w (by omega) (by omega) hE
  have hA := fun w hE => awake_any w hE
  have hF := fun w' (h : Below w.heap.size w w') => Few_any l w' a c (hl.mono h) hll
  rw [show ((4 + z % 5 : Nat) : Int) = 4 + (z : Int) % 5 by omega] at hM
  generalize 4 + z % 5 = S at hM
  clear hl hll
  go_enter Tryd.func5, Tryd.ntmps5
  go_wp2_with fail
  (with_reducible refine (hM w hE).mono ?_)
  rintro e w1 ⟨⟨p, G, v, rfl, HM⟩, hb1⟩
  have hE1 := hE.mono hb1
  obtain ⟨a1, c1, a2, c2, a3, c3, rfl, -⟩ := HM.ref
  clear HM
  go_upto_region 2 with fail
  have hb2 := below_alloc w1 (.cells #[.slice a1 S c1, .slice a2 S c2, .slice a3 S c3] 36)
  generalize w1.alloc (.cells #[.slice a1 S c1, .slice a2 S c2, .slice a3 S c3] 36) = w2 at *
  have hb := Below.step hb1 hb2 (Nat.le_refl _)
  have hE2 := hE1.mono hb2
  go_wp2_with fail
  (with_reducible refine (hA w2 hE2).mono ?_)
  rintro e w3 ⟨rfl, hb3⟩
  have hb := Below.step hb hb3 (Nat.le_refl _)
  have hE3 := hE2.mono hb3
  go_wp2_with fail
  (with_reducible refine (hF w3 hb).mono ?_)
  rintro e w' ⟨⟨b, rfl, hfb⟩, rfl⟩
  obtain rfl : b = false := by cases b; rfl; exact absurd (hfb.1 rfl) hfew.out
  clear hfb hF
  go_wp2_with fail
  (with_reducible refine (hA w3 hE3).mono ?_)
  rintro e w4 ⟨rfl, hb4⟩
  go_wp2_with fail
  go_ret
  exact ⟨rfl, Below.step hb hb4 (Nat.le_refl _)⟩

set_option maxRecDepth 100000 in
set_option maxHeartbeats 3200000 in
theorem crash_bits (z : Nat) (l : List OpD) (bits : List Nat) (a ab : Option Addr) (c cb : Nat) (w : World) (hz : z < 256) (hl : OpsR w a l) (hll : l.length ≤ 9223372036854775807) (hfew : Hid (FewP l)) (h20 : 20 < bits.length) (hE : Env w) :
    Calls Tryd.prog 5 #[.int .u8 z, .slice a l.length c, .slice ab bits.length cb] w fun e w' => e = .returned (.bool true) ∧ Below w.heap.size w w' := by
  have hM := fun w hE => made_any (4 + z % 5) w (by omega) (by omega) hE
  have hA := fun w hE => awake_any w hE
  have hF := fun w' (h : Below w.heap.size w w') => Few_any l w' a c (hl.mono h) hll
  have hd : decide ((20 : Int) < bits.length) = true := by simp <;> omega
  rw [show ((4 + z % 5 : Nat) : Int) = 4 + (z : Int) % 5 by omega] at hM
  generalize 4 + z % 5 = S at hM
  clear hl hll h20
  go_enter Tryd.func5, Tryd.ntmps5
  go_wp2_with fail
  (with_reducible refine (hM w hE).mono ?_)
  rintro e w1 ⟨⟨p, G, v, rfl, HM⟩, hb1⟩
  have hE1 := hE.mono hb1
  obtain ⟨a1, c1, a2, c2, a3, c3, rfl, -⟩ := HM.ref
  clear HM
  go_upto_region 2 with fail
  have hb2 := below_alloc w1 (.cells #[.slice a1 S c1, .slice a2 S c2, .slice a3 S c3] 36)
  generalize w1.alloc (.cells #[.slice a1 S c1, .slice a2 S c2, .slice a3 S c3] 36) = w2 at *
  have hb := Below.step hb1 hb2 (Nat.le_refl _)
  have hE2 := hE1.mono hb2
  go_wp2_with fail
  (with_reducible refine (hA w2 hE2).mono ?_)
  rintro e w3 ⟨rfl, hb3⟩
  have hb := Below.step hb hb3 (Nat.le_refl _)
  have hE3 := hE2.mono hb3
  go_wp2_with fail
  (with_reducible refine (hF w3 hb).mono ?_)
  rintro e w' ⟨⟨b, rfl, hfb⟩, rfl⟩
  obtain rfl : b = true := hfb.2 hfew.out
  clear hfb hF
  go_wp2_with fail
  (with_reducible refine (hA w3 hE3).mono ?_)
  rintro e w4 ⟨rfl, hb4⟩
  go_wp2_with fail
  go_ret
  exact ⟨rfl, Below.step hb hb4 (Nat.le_refl _)⟩

end Go.Proofs.YtackeigdehfmmaaDoor
