import Derived.Test.YtijjagofingpdaaGreatDoorSmall
namespace Go.Proofs.YtijjagofingpdaaGreatDoor
open Go.RowKit

theorem U.lit3 (w : World) (Y0 Y1 Y2 : Int) (y0 y1 y2 : Nat) (t : TypeId) (h0 : Y0 = (y0 : Int)) (h1 : Y1 = (y1 : Int)) (h2 : Y2 = (y2 : Int)) :
    U (w.alloc (.cells #[.int .u32 Y0, .int .u32 Y1, .int .u32 Y2] t)) (some ⟨w.heap.size, 0, none⟩) [y0, y1, y2] := by
  subst h0; subst h1; subst h2
  intro i h
  match i, h with
  | 0, _ => exact ⟨w.heap.size, 0, rfl, by simp [go_sem]⟩
  | 1, _ => exact ⟨w.heap.size, 0, rfl, by simp [go_sem]⟩
  | 2, _ => exact ⟨w.heap.size, 0, rfl, by simp [go_sem]⟩
  | i + 3, h => simp at h; omega

theorem val3 (k : Nat) : Bi.val [k % 1000000000, k / 1000000000 % 1000000000, k / 1000000000 / 1000000000] = k := by
  simp only [Bi.val]; omega

theorem ok3 {k : Nat} (h : k / 1000000000 / 1000000000 < 1000000000) : Bi.Ok [k % 1000000000, k / 1000000000 % 1000000000, k / 1000000000 / 1000000000] := by
  intro x hx
  simp at hx
  rcases hx with rfl | rfl | rfl <;> omega

theorem small_big {k : Nat} (h : k ≤ 9223372036854775808) : k < Bi.Big := by
  have : 9223372036854775808 < Bi.Big := by unfold Bi.Big; decide +kernel
  omega

theorem result3 (g : Nat) (neg : Bool) (Y0 Y1 Y2 : Int) (k : Nat) (w : World) (hg : w.heap.size = g) (h0 : Y0 = ((k % 1000000000 : Nat) : Int)) (h1 : Y1 = ((k / 1000000000 % 1000000000 : Nat) : Int)) (h2 : Y2 = ((k / 1000000000 / 1000000000 : Nat) : Int))
    (hk : k ≤ 9223372036854775808) (hE : Env w) :
    Calls Tryz.prog 33 #[.bool neg, .slice (some ⟨g, 0, none⟩) 3 3] (w.alloc (.cells #[.int .u32 Y0, .int .u32 Y1, .int .u32 Y2] 45)) fun e w' =>
      (∃ (ng : Bool) (ao : Option Addr) (n cap : Nat), e = .returned (.tuple #[.agg #[.bool ng, .slice ao n cap], .int .i64 0]) ∧ Hid (IntV w' (.agg #[.bool ng, .slice ao n cap]) (sgn neg k))) ∧ Below w.heap.size w w' := by
  subst hg
  have hU := U.lit3 w Y0 Y1 Y2 _ _ _ 45 h0 h1 h2
  refine (result_any neg [k % 1000000000, k / 1000000000 % 1000000000, k / 1000000000 / 1000000000] _ 3 _ (by simp) (by simp) hU (Lib.hid (ok3 (by omega))) (hE.mono (below_alloc _ _))).mono ?_
  rintro e w1 ⟨⟨ng, ao, n, cap, k3, rfl, HR⟩, hb⟩
  rcases HR.out with ⟨_, rfl, hV⟩ | ⟨h, _⟩
  · rw [val3] at hV
    exact ⟨⟨ng, ao, n, cap, rfl, Lib.hid hV⟩, (below_alloc w _).trans (hb.mono (below_alloc w _).size)⟩
  · rw [sgn_natAbs, val3] at h
    exact absurd (small_big hk) h

theorem rmake3 (g : Nat) (neg : Bool) (Y0 Y1 Y2 : Int) (k : Nat) (w : World) (hg : w.heap.size = g) (h0 : Y0 = ((k % 1000000000 : Nat) : Int)) (h1 : Y1 = ((k / 1000000000 % 1000000000 : Nat) : Int)) (h2 : Y2 = ((k / 1000000000 / 1000000000 : Nat) : Int))
    (hk : k ≤ 9223372036854775808) (_hE : Env w) :
    Calls Tryz.prog 21 #[.bool neg, .slice (some ⟨g, 0, none⟩) 3 3] (w.alloc (.cells #[.int .u32 Y0, .int .u32 Y1, .int .u32 Y2] 45)) fun e w' =>
      (∃ (ng : Bool) (ao : Option Addr) (n cap : Nat), e = .returned (.tuple #[.agg #[.bool ng, .slice ao n cap], .int .i64 0]) ∧ Hid (IntV w' (.agg #[.bool ng, .slice ao n cap]) (sgn neg k))) ∧ Below w.heap.size w w' := by
  subst hg
  have hU := U.lit3 w Y0 Y1 Y2 _ _ _ 45 h0 h1 h2
  refine (rmake_any neg [k % 1000000000, k / 1000000000 % 1000000000, k / 1000000000 / 1000000000] _ 3 _ (by simp) hU (Lib.hid (ok3 (by omega)))).mono ?_
  rintro e w1 ⟨⟨ng, ao, n, cap, k3, rfl, HR⟩, hb⟩
  rcases HR.out with ⟨_, rfl, hV⟩ | ⟨h, _⟩
  · rw [val3] at hV
    exact ⟨⟨ng, ao, n, cap, rfl, Lib.hid hV⟩, (below_alloc w _).trans (hb.mono (below_alloc w _).size)⟩
  · rw [sgn_natAbs, val3] at h
    exact absurd (small_big hk) h

theorem wrap_neg (k : Nat) (h1 : 1 ≤ k) (h2 : k ≤ 9223372036854775808) : ∃ m : Nat, IntKind.u64.wrap (-(k : Int)) = (m : Int) ∧ IntKind.u64.wrap (-(m : Int)) = (k : Int) := by
  refine ⟨18446744073709551616 - k, ?_, ?_⟩ <;> (simp only [IntKind.wrap, IntKind.bits, IntKind.signed]; simp; omega)

set_option maxHeartbeats 800000 in
theorem of_any_pos (k : Nat) (hk : k ≤ 9223372036854775807) (w : World) (hE : Env w) :
    Calls Tryz.prog 22 #[.int .i64 (k : Int)] w fun e w' => (∃ (ng : Bool) (ao : Option Addr) (n cap : Nat), e = .returned (.agg #[.bool ng, .slice ao n cap]) ∧ Hid (IntV w' (.agg #[.bool ng, .slice ao n cap]) (k : Int))) ∧ Below w.heap.size w w' := by
  have hd : decide ((k : Int) < 0) = false := by simp
  go_enter Tryz.func22, Tryz.ntmps22
  go_wp2_with fail
  (with_reducible refine (result3 _ false _ _ _ k (w.alloc _) ?_ ?_ ?_ ?_ ?_ (hE.mono (below_alloc _ _))).mono ?_)
  · simp
  · omega
  · omega
  · omega
  · omega
  rintro e w1 ⟨⟨ng, ao, n, cap, rfl, HV⟩, hb1⟩
  have hB := (Box.new w (.bool false) (.slice none 0 0) 25).mono hb1
  have hsz := hB.lt
  obtain ⟨p0, p1, q0, q1⟩ := hB
  go_wp2
  refine bodyPost_ret (v := .agg #[.bool ng, .slice ao n cap]) (by simp [results, Tryz.results22, go_sem, p0, p1, hsz]) rfl ⟨⟨ng, ao, n, cap, rfl, Lib.hid ((HV.out.put2 p0 p1 _ _).mono (below_alloc _ _))⟩, ?_⟩
  refine (Below.put2 (((below_alloc w _).trans (hb1.mono (by simp)))) (Nat.le_refl _) _ _).alloc ?_ _
  have := hb1.size; simp at this; simp [World.setCell]; omega

set_option maxHeartbeats 800000 in
theorem of_any_neg (k : Nat) (hk1 : 1 ≤ k) (hk : k ≤ 9223372036854775808) (w : World) (hE : Env w) :
    Calls Tryz.prog 22 #[.int .i64 (-(k : Int))] w fun e w' => (∃ (ng : Bool) (ao : Option Addr) (n cap : Nat), e = .returned (.agg #[.bool ng, .slice ao n cap]) ∧ Hid (IntV w' (.agg #[.bool ng, .slice ao n cap]) (-(k : Int)))) ∧ Below w.heap.size w w' := by
  obtain ⟨m, hm1, hm2⟩ := wrap_neg k hk1 hk
  have hd : decide (-(k : Int) < 0) = true := by simp; omega
  have hk2 : (k : Int) / 1000000000 ≤ 9223372037 := by omega
  have hK := Lib.hid hk; clear hk
  go_enter Tryz.func22, Tryz.ntmps22
  go_wp2_with fail
  (with_reducible refine (result3 _ true _ _ _ k (w.alloc _) ?_ ?_ ?_ ?_ ?_ (hE.mono (below_alloc _ _))).mono ?_)
  · simp
  · omega
  · omega
  · omega
  · exact hK.out
  rintro e w1 ⟨⟨ng, ao, n, cap, rfl, HV⟩, hb1⟩
  have hB := (Box.new w (.bool false) (.slice none 0 0) 25).mono hb1
  have hsz := hB.lt
  obtain ⟨p0, p1, q0, q1⟩ := hB
  go_wp2
  refine bodyPost_ret (v := .agg #[.bool ng, .slice ao n cap]) (by simp [results, Tryz.results22, go_sem, p0, p1, hsz]) rfl ⟨⟨ng, ao, n, cap, rfl, Lib.hid ((HV.out.put2 p0 p1 _ _).mono (below_alloc _ _))⟩, ?_⟩
  refine (Below.put2 (((below_alloc w _).trans (hb1.mono (by simp)))) (Nat.le_refl _) _ _).alloc ?_ _
  have := hb1.size; simp at this; simp [World.setCell]; omega

theorem of_any (z : Int) (h0 : -9223372036854775808 ≤ z) (h1 : z ≤ 9223372036854775807) (w : World) (hE : Env w) :
    Calls Tryz.prog 22 #[.int .i64 z] w fun e w' => (∃ (ng : Bool) (ao : Option Addr) (n cap : Nat), e = .returned (.agg #[.bool ng, .slice ao n cap]) ∧ Hid (IntV w' (.agg #[.bool ng, .slice ao n cap]) z)) ∧ Below w.heap.size w w' := by
  by_cases hz : z < 0
  · obtain ⟨k, rfl⟩ : ∃ k : Nat, z = -(k : Int) := ⟨z.natAbs, by omega⟩
    exact of_any_neg k (by omega) (by omega) w hE
  · obtain ⟨k, rfl⟩ : ∃ k : Nat, z = (k : Int) := ⟨z.natAbs, by omega⟩
    exact of_any_pos k (by omega) w hE
set_option maxHeartbeats 800000 in
theorem rof_any_pos (k : Nat) (hk : k ≤ 9223372036854775807) (w : World) (hE : Env w) :
    Calls Tryz.prog 23 #[.int .i64 (k : Int)] w fun e w' => (∃ (ng : Bool) (ao : Option Addr) (n cap : Nat), e = .returned (.agg #[.bool ng, .slice ao n cap]) ∧ Hid (IntV w' (.agg #[.bool ng, .slice ao n cap]) (k : Int))) ∧ Below w.heap.size w w' := by
  have hd : decide ((k : Int) < 0) = false := by simp
  go_enter Tryz.func23, Tryz.ntmps23
  go_wp2_with fail
  (with_reducible refine (rmake3 _ false _ _ _ k (w.alloc _) ?_ ?_ ?_ ?_ ?_ (hE.mono (below_alloc _ _))).mono ?_)
  · simp
  · omega
  · omega
  · omega
  · omega
  rintro e w1 ⟨⟨ng, ao, n, cap, rfl, HV⟩, hb1⟩
  have hB := (Box.new w (.bool false) (.slice none 0 0) 25).mono hb1
  have hsz := hB.lt
  obtain ⟨p0, p1, q0, q1⟩ := hB
  go_wp2
  refine bodyPost_ret (v := .agg #[.bool ng, .slice ao n cap]) (by simp [results, Tryz.results23, go_sem, p0, p1, hsz]) rfl ⟨⟨ng, ao, n, cap, rfl, Lib.hid ((HV.out.put2 p0 p1 _ _).mono (below_alloc _ _))⟩, ?_⟩
  refine (Below.put2 (((below_alloc w _).trans (hb1.mono (by simp)))) (Nat.le_refl _) _ _).alloc ?_ _
  have := hb1.size; simp at this; simp [World.setCell]; omega

set_option maxHeartbeats 800000 in
theorem rof_any_neg (k : Nat) (hk1 : 1 ≤ k) (hk : k ≤ 9223372036854775808) (w : World) (hE : Env w) :
    Calls Tryz.prog 23 #[.int .i64 (-(k : Int))] w fun e w' => (∃ (ng : Bool) (ao : Option Addr) (n cap : Nat), e = .returned (.agg #[.bool ng, .slice ao n cap]) ∧ Hid (IntV w' (.agg #[.bool ng, .slice ao n cap]) (-(k : Int)))) ∧ Below w.heap.size w w' := by
  obtain ⟨m, hm1, hm2⟩ := wrap_neg k hk1 hk
  have hd : decide (-(k : Int) < 0) = true := by simp; omega
  have hk2 : (k : Int) / 1000000000 ≤ 9223372037 := by omega
  have hK := Lib.hid hk; clear hk
  go_enter Tryz.func23, Tryz.ntmps23
  go_wp2_with fail
  (with_reducible refine (rmake3 _ true _ _ _ k (w.alloc _) ?_ ?_ ?_ ?_ ?_ (hE.mono (below_alloc _ _))).mono ?_)
  · simp
  · omega
  · omega
  · omega
  · exact hK.out
  rintro e w1 ⟨⟨ng, ao, n, cap, rfl, HV⟩, hb1⟩
  have hB := (Box.new w (.bool false) (.slice none 0 0) 25).mono hb1
  have hsz := hB.lt
  obtain ⟨p0, p1, q0, q1⟩ := hB
  go_wp2
  refine bodyPost_ret (v := .agg #[.bool ng, .slice ao n cap]) (by simp [results, Tryz.results23, go_sem, p0, p1, hsz]) rfl ⟨⟨ng, ao, n, cap, rfl, Lib.hid ((HV.out.put2 p0 p1 _ _).mono (below_alloc _ _))⟩, ?_⟩
  refine (Below.put2 (((below_alloc w _).trans (hb1.mono (by simp)))) (Nat.le_refl _) _ _).alloc ?_ _
  have := hb1.size; simp at this; simp [World.setCell]; omega

theorem rof_any (z : Int) (h0 : -9223372036854775808 ≤ z) (h1 : z ≤ 9223372036854775807) (w : World) (hE : Env w) :
    Calls Tryz.prog 23 #[.int .i64 z] w fun e w' => (∃ (ng : Bool) (ao : Option Addr) (n cap : Nat), e = .returned (.agg #[.bool ng, .slice ao n cap]) ∧ Hid (IntV w' (.agg #[.bool ng, .slice ao n cap]) z)) ∧ Below w.heap.size w w' := by
  by_cases hz : z < 0
  · obtain ⟨k, rfl⟩ : ∃ k : Nat, z = -(k : Int) := ⟨z.natAbs, by omega⟩
    exact rof_any_neg k (by omega) (by omega) w hE
  · obtain ⟨k, rfl⟩ : ∃ k : Nat, z = (k : Int) := ⟨z.natAbs, by omega⟩
    exact rof_any_pos k (by omega) w hE

end Go.Proofs.YtijjagofingpdaaGreatDoor
