import Derived.Test.YtijjagofingpdaaDoorSmallA
import Derived.RegionTactic
import Derived.BigRegion
namespace Go.Proofs.YtijjagofingpdaaDoor
open Go.RowKit

theorem wf_i64 {n : Int} (h : (Lit.int .i64 n).wf = true) : -9223372036854775808 ≤ n ∧ n ≤ 9223372036854775807 := by
  simp [Lit.wf, IntKind.min, IntKind.max, IntKind.signed, IntKind.bits] at h
  omega

set_option maxRecDepth 100000 in
set_option maxHeartbeats 1600000 in
theorem of_law (z : Int) (h0 : -9223372036854775808 ≤ z) (h1 : z ≤ 9223372036854775807) (w : World) (hE : Env w) :
    Calls Tryd.prog 6 #[.int .i64 z] w fun e w' => e = .returned (.bool true) ∧ Below w.heap.size w w' := by
  have H0 := Lib.hid h0
  have H1 := Lib.hid h1
  have hzz : (z == z) = true := by simp
  have hbw := Below.refl w.heap.size w
  clear h0 h1
  go_enter Tryd.func6, Tryd.ntmps6
  go_wp2_with fail
  (with_reducible refine (of_any z H0.out H1.out w hE).mono ?_)
  rintro e w1 ⟨⟨ng3, ao3, n3, cap3, rfl, HV3⟩, hb⟩
  have hE := hE.mono hb
  have hbw := Below.step hbw hb (Nat.le_refl _)
  clear hb
  go_wp2_with fail
  have X3 := Box.new w1 (.bool ng3) (.slice ao3 n3 cap3) 25
  have hb := below_alloc w1 (.cells #[.bool ng3, .slice ao3 n3 cap3] 25)
  generalize w1.alloc (.cells #[.bool ng3, .slice ao3 n3 cap3] 25) = w2 at *
  have HV3 := Lib.hid (HV3.out.mono hb)
  have hE := hE.mono hb
  have hbw := Below.step hbw hb (Nat.le_refl _)
  clear hb
  (with_reducible refine (Small_any _ z w2 H0 HV3.out hE).mono ?_)
  rintro e w3 ⟨⟨v, k, rfl, HS⟩, hb⟩
  obtain ⟨rfl, rfl⟩ : v = z ∧ k = 0 := by
    rcases HS.out with ⟨_, _, h2, h3⟩ | ⟨h, _⟩
    · exact ⟨h2, h3⟩
    · exact absurd ⟨H0.out, H1.out⟩ h
  clear HS
  have X3 := X3.mono hb
  have HV3 := Lib.hid (HV3.out.mono hb)
  have hE := hE.mono hb
  have hbw := Below.step hbw hb (Nat.le_refl _)
  clear hb
  go_upto_region 3 with fail
  obtain ⟨wy, rfl⟩ : ∃ wy : World, wy = w3 := ⟨_, rfl⟩
  go_region_held3 (fun w' => w'.cell? ⟨w1.heap.size, 0, none⟩ = some (.bool ng3) ∧ w'.cell? ⟨w1.heap.size, 1, none⟩ = some (.slice ao3 n3 cap3))
    ((refine S1 X3 ?_; (repeat' (first | with_reducible assumption | with_reducible exact Below.refl _ _ | with_reducible refine Below.drew ?_ | with_reducible refine Below.alloc ?_ ?_ _ | with_reducible refine Below.setCell ?_ ?_ _ | with_reducible refine Below.step ?_ he4 ?_ | with_reducible refine Below.step ?_ he3 ?_ | with_reducible refine Below.step ?_ he2 ?_ | with_reducible refine Below.step ?_ he1 ?_ | (first | exact Nat.le_refl _ | omega | (simp; done) | (simp; omega) | (unfold World.setCell; simp; done) | (unfold World.setCell; simp; omega))))))
    (first
      | (go_at_call 12; ((with_reducible refine (awake_any _ (hE.mono ?_)).mono ?_); ((repeat' (first | with_reducible assumption | with_reducible exact Below.refl _ _ | with_reducible refine Below.drew ?_ | with_reducible refine Below.alloc ?_ ?_ _ | with_reducible refine Below.setCell ?_ ?_ _ | with_reducible refine Below.step ?_ he4 ?_ | with_reducible refine Below.step ?_ he3 ?_ | with_reducible refine Below.step ?_ he2 ?_ | with_reducible refine Below.step ?_ he1 ?_ | (first | exact Nat.le_refl _ | omega | (simp; done) | (simp; omega) | (unfold World.setCell; simp; done) | (unfold World.setCell; simp; omega)))))); rintro e t1 ⟨rfl, he1⟩; have HT1 : Below wy.heap.size wy t1 := (by (repeat' (first | with_reducible assumption | with_reducible exact Below.refl _ _ | with_reducible refine Below.drew ?_ | with_reducible refine Below.alloc ?_ ?_ _ | with_reducible refine Below.setCell ?_ ?_ _ | with_reducible refine Below.step ?_ he4 ?_ | with_reducible refine Below.step ?_ he3 ?_ | with_reducible refine Below.step ?_ he2 ?_ | with_reducible refine Below.step ?_ he1 ?_ | (first | exact Nat.le_refl _ | omega | (simp; done) | (simp; omega) | (unfold World.setCell; simp; done) | (unfold World.setCell; simp; omega))))); have ht1 := HT1.size)
      | (go_at_call 28; ((with_reducible refine (rof_any v H0.out H1.out _ (hE.mono ?_)).mono ?_); ((repeat' (first | with_reducible assumption | with_reducible exact Below.refl _ _ | with_reducible refine Below.drew ?_ | with_reducible refine Below.alloc ?_ ?_ _ | with_reducible refine Below.setCell ?_ ?_ _ | with_reducible refine Below.step ?_ he4 ?_ | with_reducible refine Below.step ?_ he3 ?_ | with_reducible refine Below.step ?_ he2 ?_ | with_reducible refine Below.step ?_ he1 ?_ | (first | exact Nat.le_refl _ | omega | (simp; done) | (simp; omega) | (unfold World.setCell; simp; done) | (unfold World.setCell; simp; omega)))))); rintro e t2 ⟨⟨ng4, ao4, n4, cap4, rfl, HV4⟩, he2⟩; have HT2 : Below wy.heap.size wy t2 := (by (repeat' (first | with_reducible assumption | with_reducible exact Below.refl _ _ | with_reducible refine Below.drew ?_ | with_reducible refine Below.alloc ?_ ?_ _ | with_reducible refine Below.setCell ?_ ?_ _ | with_reducible refine Below.step ?_ he4 ?_ | with_reducible refine Below.step ?_ he3 ?_ | with_reducible refine Below.step ?_ he2 ?_ | with_reducible refine Below.step ?_ he1 ?_ | (first | exact Nat.le_refl _ | omega | (simp; done) | (simp; omega) | (unfold World.setCell; simp; done) | (unfold World.setCell; simp; omega))))); have ht2 := HT2.size)
      | (go_at_call 16; ((with_reducible refine (eqV_same v (.agg #[.bool ng3, .slice ao3 n3 cap3]) (.agg #[.bool ng4, .slice ao4 n4 cap4]) _ (HV3.out.mono ?_) (HV4.out.mono ?_)).mono ?_); ((repeat' (first | with_reducible assumption | with_reducible exact Below.refl _ _ | with_reducible refine Below.drew ?_ | with_reducible refine Below.alloc ?_ ?_ _ | with_reducible refine Below.setCell ?_ ?_ _ | with_reducible refine Below.step ?_ he4 ?_ | with_reducible refine Below.step ?_ he3 ?_ | with_reducible refine Below.step ?_ he2 ?_ | with_reducible refine Below.step ?_ he1 ?_ | (first | exact Nat.le_refl _ | omega | (simp; done) | (simp; omega) | (unfold World.setCell; simp; done) | (unfold World.setCell; simp; omega))))); ((repeat' (first | with_reducible assumption | with_reducible exact Below.refl _ _ | with_reducible refine Below.drew ?_ | with_reducible refine Below.alloc ?_ ?_ _ | with_reducible refine Below.setCell ?_ ?_ _ | with_reducible refine Below.step ?_ he4 ?_ | with_reducible refine Below.step ?_ he3 ?_ | with_reducible refine Below.step ?_ he2 ?_ | with_reducible refine Below.step ?_ he1 ?_ | (first | exact Nat.le_refl _ | omega | (simp; done) | (simp; omega) | (unfold World.setCell; simp; done) | (unfold World.setCell; simp; omega)))))); rintro e t3 ⟨rfl, he3⟩; have HT3 : Below wy.heap.size wy t3 := (by (repeat' (first | with_reducible assumption | with_reducible exact Below.refl _ _ | with_reducible refine Below.drew ?_ | with_reducible refine Below.alloc ?_ ?_ _ | with_reducible refine Below.setCell ?_ ?_ _ | with_reducible refine Below.step ?_ he4 ?_ | with_reducible refine Below.step ?_ he3 ?_ | with_reducible refine Below.step ?_ he2 ?_ | with_reducible refine Below.step ?_ he1 ?_ | (first | exact Nat.le_refl _ | omega | (simp; done) | (simp; omega) | (unfold World.setCell; simp; done) | (unfold World.setCell; simp; omega))))); have ht3 := HT3.size)
      | (go_at_call 18; ((with_reducible refine (validV (.agg #[.bool ng3, .slice ao3 n3 cap3]) v _ (HV3.out.mono ?_) (hE.mono ?_)).mono ?_); ((repeat' (first | with_reducible assumption | with_reducible exact Below.refl _ _ | with_reducible refine Below.drew ?_ | with_reducible refine Below.alloc ?_ ?_ _ | with_reducible refine Below.setCell ?_ ?_ _ | with_reducible refine Below.step ?_ he4 ?_ | with_reducible refine Below.step ?_ he3 ?_ | with_reducible refine Below.step ?_ he2 ?_ | with_reducible refine Below.step ?_ he1 ?_ | (first | exact Nat.le_refl _ | omega | (simp; done) | (simp; omega) | (unfold World.setCell; simp; done) | (unfold World.setCell; simp; omega))))); ((repeat' (first | with_reducible assumption | with_reducible exact Below.refl _ _ | with_reducible refine Below.drew ?_ | with_reducible refine Below.alloc ?_ ?_ _ | with_reducible refine Below.setCell ?_ ?_ _ | with_reducible refine Below.step ?_ he4 ?_ | with_reducible refine Below.step ?_ he3 ?_ | with_reducible refine Below.step ?_ he2 ?_ | with_reducible refine Below.step ?_ he1 ?_ | (first | exact Nat.le_refl _ | omega | (simp; done) | (simp; omega) | (unfold World.setCell; simp; done) | (unfold World.setCell; simp; omega)))))); rintro e t4 ⟨rfl, he4⟩; have HT4 : Below wy.heap.size wy t4 := (by (repeat' (first | with_reducible assumption | with_reducible exact Below.refl _ _ | with_reducible refine Below.drew ?_ | with_reducible refine Below.alloc ?_ ?_ _ | with_reducible refine Below.setCell ?_ ?_ _ | with_reducible refine Below.step ?_ he4 ?_ | with_reducible refine Below.step ?_ he3 ?_ | with_reducible refine Below.step ?_ he2 ?_ | with_reducible refine Below.step ?_ he1 ?_ | (first | exact Nat.le_refl _ | omega | (simp; done) | (simp; omega) | (unfold World.setCell; simp; done) | (unfold World.setCell; simp; omega))))); have ht4 := HT4.size))
  go_wp2
  go_ret
  exact ⟨rfl, Below.step hbw HT4 (Nat.le_refl _)⟩

end Go.Proofs.YtijjagofingpdaaDoor
