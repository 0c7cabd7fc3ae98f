import Derived.Test.YtgenhkakcbedaaaGreatDoorQ2
import Derived.Deep.RegionWith
namespace Go.Proofs.YtgenhkakcbedaaaGreatDoor
open Go.RowKit

/-- an integer alone -/
def GotN (w' : World) (z : Int) (e : Ending) : Prop :=
  ∃ (ng : Bool) (ao : Option Addr) (n cap : Nat), e = .returned (.agg #[.bool ng, .slice ao n cap]) ∧ Hid (IntV w' (.agg #[.bool ng, .slice ao n cap]) z)

set_option maxRecDepth 100000 in
set_option maxHeartbeats 1600000 in
theorem one_any (w : World) (hE : Env w) : Calls Tryz.prog 65 #[] w fun e w' => GotN w' 1 e ∧ Below w.heap.size w w' := by
  have hE0 := hE
  have hbw := Below.refl w.heap.size w
  go_enter Tryz.func65, Tryz.ntmps65
  go_upto_region 1 with fail
  have X0 := Box.new w (.bool false) (.slice none 0 0) 24
  have hb := below_alloc w (.cells #[.bool false, .slice none 0 0] 24)
  generalize w.alloc (.cells #[.bool false, .slice none 0 0] 24) = v1 at *
  have hE := hE.mono hb
  have hbw := Below.step hbw hb (Nat.le_refl _)
  clear hb
  go_wp2_with fail
  (with_reducible refine (of_any 1 (by decide) (by decide) v1 hE).mono ?_)
  rintro e v2 ⟨⟨ng1, ao1, n1, cap1, rfl, HV1⟩, hb⟩
  have X0 := X0.mono hb
  have hE := hE.mono hb
  have hbw := Below.step hbw hb (Nat.le_refl _)
  clear hb
  obtain ⟨cX0_0, cX0_1, _, _⟩ := id X0
  go_wp2
  refine bodyPost_ret (v := .agg #[.bool ng1, .slice ao1 n1 cap1]) (by simp [results, Tryz.results65, go_sem, cX0_0, cX0_1]) rfl ⟨⟨ng1, ao1, n1, cap1, rfl, Lib.hid (HV1.out.put2B X0 (.bool ng1) (.slice ao1 n1 cap1))⟩, Below.put2 hbw (by omega) (.bool ng1) (.slice ao1 n1 cap1)⟩

set_option maxRecDepth 100000 in
set_option maxHeartbeats 1600000 in
theorem Valid_len {ng1 : Bool} {ao1 : Option Addr} {n1 cap1 : Nat} {ng2 : Bool} {ao2 : Option Addr} {n2 cap2 : Nat} (p d : Int) (w : World) (hq : Hid (d < 0)) (h1 : IntV w (.agg #[.bool ng1, .slice ao1 n1 cap1]) p) (h2 : IntV w (.agg #[.bool ng2, .slice ao2 n2 cap2]) d) (hE : Env w) :
    Calls Tryz.prog 20 #[.agg #[.bool ng1, .slice ao1 n1 cap1, .bool ng2, .slice ao2 n2 cap2]] w fun e w' => e = .returned (.bool false) ∧ Below w.heap.size w w' := by
  have HV1 := Lib.hid h1
  have HV2 := Lib.hid h2
  have hE0 := hE
  clear h1 h2
  have hbw := Below.refl w.heap.size w
  have HS : Hid (sgnI d = -1) := Lib.hid (by have := hq.out; unfold sgnI; split <;> (try split) <;> omega)
  go_enter Tryz.func20, Tryz.ntmps20
  go_upto_region 1 with fail
  have X0 := Box4.new w (.bool ng1) (.slice ao1 n1 cap1) (.bool ng2) (.slice ao2 n2 cap2) 29
  have hb := below_alloc w (.cells #[.bool ng1, .slice ao1 n1 cap1, .bool ng2, .slice ao2 n2 cap2] 29)
  generalize w.alloc (.cells #[.bool ng1, .slice ao1 n1 cap1, .bool ng2, .slice ao2 n2 cap2] 29) = v1 at *
  have HV1 := Lib.hid (HV1.out.mono hb)
  have HV2 := Lib.hid (HV2.out.mono hb)
  have hE := hE.mono hb
  have hbw := Below.step hbw hb (Nat.le_refl _)
  clear hb
  obtain ⟨cX0_0, cX0_1, cX0_2, cX0_3, _, _, _, _⟩ := id X0
  go_wp2_with fail
  (with_reducible refine (validV _ p v1 HV1.out hE).mono ?_)
  rintro e v2 ⟨rfl, hb⟩
  have HV1 := Lib.hid (HV1.out.mono hb)
  have HV2 := Lib.hid (HV2.out.mono hb)
  have X0 := X0.mono hb
  have hE := hE.mono hb
  have hbw := Below.step hbw hb (Nat.le_refl _)
  clear hb
  clear cX0_0 cX0_1 cX0_2 cX0_3
  obtain ⟨cX0_0, cX0_1, cX0_2, cX0_3, _, _, _, _⟩ := id X0
  go_wp2_with fail
  (with_reducible refine (validV _ d v2 HV2.out hE).mono ?_)
  rintro e v3 ⟨rfl, hb⟩
  have HV1 := Lib.hid (HV1.out.mono hb)
  have HV2 := Lib.hid (HV2.out.mono hb)
  have X0 := X0.mono hb
  have hE := hE.mono hb
  have hbw := Below.step hbw hb (Nat.le_refl _)
  clear hb
  clear cX0_0 cX0_1 cX0_2 cX0_3
  obtain ⟨cX0_0, cX0_1, cX0_2, cX0_3, _, _, _, _⟩ := id X0
  go_wp2_with fail
  (with_reducible refine (Sign_eq _ d (-1) v3 HS HV2.out hE).mono ?_)
  rintro e v4 ⟨rfl, hb⟩
  have HV1 := Lib.hid (HV1.out.mono hb)
  have HV2 := Lib.hid (HV2.out.mono hb)
  have X0 := X0.mono hb
  have hE := hE.mono hb
  have hbw := Below.step hbw hb (Nat.le_refl _)
  clear hb
  clear cX0_0 cX0_1 cX0_2 cX0_3
  go_wp2
  go_ret
  exact ⟨rfl, hbw⟩

set_option maxRecDepth 100000 in
set_option maxHeartbeats 1600000 in
theorem Valid_lez {ng1 : Bool} {ao1 : Option Addr} {n1 cap1 : Nat} {ng2 : Bool} {ao2 : Option Addr} {n2 cap2 : Nat} (p d : Int) (w : World) (hq : Hid (d = 0)) (h1 : IntV w (.agg #[.bool ng1, .slice ao1 n1 cap1]) p) (h2 : IntV w (.agg #[.bool ng2, .slice ao2 n2 cap2]) d) (hE : Env w) :
    Calls Tryz.prog 20 #[.agg #[.bool ng1, .slice ao1 n1 cap1, .bool ng2, .slice ao2 n2 cap2]] w fun e w' => e = .returned (.bool false) ∧ Below w.heap.size w w' := by
  have HV1 := Lib.hid h1
  have HV2 := Lib.hid h2
  have hE0 := hE
  clear h1 h2
  have hbw := Below.refl w.heap.size w
  have HS : Hid (sgnI d = 0) := Lib.hid (by have := hq.out; unfold sgnI; split <;> (try split) <;> omega)
  go_enter Tryz.func20, Tryz.ntmps20
  go_upto_region 1 with fail
  have X0 := Box4.new w (.bool ng1) (.slice ao1 n1 cap1) (.bool ng2) (.slice ao2 n2 cap2) 29
  have hb := below_alloc w (.cells #[.bool ng1, .slice ao1 n1 cap1, .bool ng2, .slice ao2 n2 cap2] 29)
  generalize w.alloc (.cells #[.bool ng1, .slice ao1 n1 cap1, .bool ng2, .slice ao2 n2 cap2] 29) = v1 at *
  have HV1 := Lib.hid (HV1.out.mono hb)
  have HV2 := Lib.hid (HV2.out.mono hb)
  have hE := hE.mono hb
  have hbw := Below.step hbw hb (Nat.le_refl _)
  clear hb
  obtain ⟨cX0_0, cX0_1, cX0_2, cX0_3, _, _, _, _⟩ := id X0
  go_wp2_with fail
  (with_reducible refine (validV _ p v1 HV1.out hE).mono ?_)
  rintro e v2 ⟨rfl, hb⟩
  have HV1 := Lib.hid (HV1.out.mono hb)
  have HV2 := Lib.hid (HV2.out.mono hb)
  have X0 := X0.mono hb
  have hE := hE.mono hb
  have hbw := Below.step hbw hb (Nat.le_refl _)
  clear hb
  clear cX0_0 cX0_1 cX0_2 cX0_3
  obtain ⟨cX0_0, cX0_1, cX0_2, cX0_3, _, _, _, _⟩ := id X0
  go_wp2_with fail
  (with_reducible refine (validV _ d v2 HV2.out hE).mono ?_)
  rintro e v3 ⟨rfl, hb⟩
  have HV1 := Lib.hid (HV1.out.mono hb)
  have HV2 := Lib.hid (HV2.out.mono hb)
  have X0 := X0.mono hb
  have hE := hE.mono hb
  have hbw := Below.step hbw hb (Nat.le_refl _)
  clear hb
  clear cX0_0 cX0_1 cX0_2 cX0_3
  obtain ⟨cX0_0, cX0_1, cX0_2, cX0_3, _, _, _, _⟩ := id X0
  go_wp2_with fail
  (with_reducible refine (Sign_eq _ d (0) v3 HS HV2.out hE).mono ?_)
  rintro e v4 ⟨rfl, hb⟩
  have HV1 := Lib.hid (HV1.out.mono hb)
  have HV2 := Lib.hid (HV2.out.mono hb)
  have X0 := X0.mono hb
  have hE := hE.mono hb
  have hbw := Below.step hbw hb (Nat.le_refl _)
  clear hb
  clear cX0_0 cX0_1 cX0_2 cX0_3
  go_wp2
  go_ret
  exact ⟨rfl, hbw⟩

set_option maxRecDepth 100000 in
set_option maxHeartbeats 1600000 in
theorem Valid_yes {ng1 : Bool} {ao1 : Option Addr} {n1 cap1 : Nat} {ng2 : Bool} {ao2 : Option Addr} {n2 cap2 : Nat} (p d : Int) (w : World) (hq : Hid (0 < d ∧ Int.gcd p d = 1)) (h1 : IntV w (.agg #[.bool ng1, .slice ao1 n1 cap1]) p) (h2 : IntV w (.agg #[.bool ng2, .slice ao2 n2 cap2]) d) (hE : Env w) :
    Calls Tryz.prog 20 #[.agg #[.bool ng1, .slice ao1 n1 cap1, .bool ng2, .slice ao2 n2 cap2]] w fun e w' => e = .returned (.bool true) ∧ Below w.heap.size w w' := by
  have HV1 := Lib.hid h1
  have HV2 := Lib.hid h2
  have hE0 := hE
  clear h1 h2
  have hbw := Below.refl w.heap.size w
  have HS : Hid (sgnI d = 1) := Lib.hid (by have := hq.out; unfold sgnI; split <;> (try split) <;> omega)
  go_enter Tryz.func20, Tryz.ntmps20
  go_upto_region 1 with fail
  have X0 := Box4.new w (.bool ng1) (.slice ao1 n1 cap1) (.bool ng2) (.slice ao2 n2 cap2) 29
  have hb := below_alloc w (.cells #[.bool ng1, .slice ao1 n1 cap1, .bool ng2, .slice ao2 n2 cap2] 29)
  generalize w.alloc (.cells #[.bool ng1, .slice ao1 n1 cap1, .bool ng2, .slice ao2 n2 cap2] 29) = v1 at *
  have HV1 := Lib.hid (HV1.out.mono hb)
  have HV2 := Lib.hid (HV2.out.mono hb)
  have hE := hE.mono hb
  have hbw := Below.step hbw hb (Nat.le_refl _)
  clear hb
  obtain ⟨cX0_0, cX0_1, cX0_2, cX0_3, _, _, _, _⟩ := id X0
  go_wp2_with fail
  (with_reducible refine (validV _ p v1 HV1.out hE).mono ?_)
  rintro e v2 ⟨rfl, hb⟩
  have HV1 := Lib.hid (HV1.out.mono hb)
  have HV2 := Lib.hid (HV2.out.mono hb)
  have X0 := X0.mono hb
  have hE := hE.mono hb
  have hbw := Below.step hbw hb (Nat.le_refl _)
  clear hb
  clear cX0_0 cX0_1 cX0_2 cX0_3
  obtain ⟨cX0_0, cX0_1, cX0_2, cX0_3, _, _, _, _⟩ := id X0
  go_wp2_with fail
  (with_reducible refine (validV _ d v2 HV2.out hE).mono ?_)
  rintro e v3 ⟨rfl, hb⟩
  have HV1 := Lib.hid (HV1.out.mono hb)
  have HV2 := Lib.hid (HV2.out.mono hb)
  have X0 := X0.mono hb
  have hE := hE.mono hb
  have hbw := Below.step hbw hb (Nat.le_refl _)
  clear hb
  clear cX0_0 cX0_1 cX0_2 cX0_3
  obtain ⟨cX0_0, cX0_1, cX0_2, cX0_3, _, _, _, _⟩ := id X0
  go_wp2_with fail
  (with_reducible refine (Sign_eq _ d (1) v3 HS HV2.out hE).mono ?_)
  rintro e v4 ⟨rfl, hb⟩
  have HV1 := Lib.hid (HV1.out.mono hb)
  have HV2 := Lib.hid (HV2.out.mono hb)
  have X0 := X0.mono hb
  have hE := hE.mono hb
  have hbw := Below.step hbw hb (Nat.le_refl _)
  clear hb
  clear cX0_0 cX0_1 cX0_2 cX0_3
  obtain ⟨cX0_0, cX0_1, cX0_2, cX0_3, _, _, _, _⟩ := id X0
  go_wp2_with fail
  (with_reducible refine (Gcd_ok _ _ p d v4 HV1.out HV2.out hE).mono ?_)
  rintro e v5 ⟨⟨ng3, ao3, n3, cap3, rfl, HV3⟩, hb⟩
  have HV1 := Lib.hid (HV1.out.mono hb)
  have HV2 := Lib.hid (HV2.out.mono hb)
  have X0 := X0.mono hb
  have hE := hE.mono hb
  have hbw := Below.step hbw hb (Nat.le_refl _)
  clear hb
  clear cX0_0 cX0_1 cX0_2 cX0_3
  go_upto_region 4 with fail
  have lX3X0 := X0.lt
  have X3 := Box.new v5 (.bool ng3) (.slice ao3 n3 cap3) 24
  have hb := below_alloc v5 (.cells #[.bool ng3, .slice ao3 n3 cap3] 24)
  generalize v5.alloc (.cells #[.bool ng3, .slice ao3 n3 cap3] 24) = v6 at *
  have HV1 := Lib.hid (HV1.out.mono hb)
  have HV2 := Lib.hid (HV2.out.mono hb)
  have X0 := X0.mono hb
  have HV3 := Lib.hid (HV3.out.mono hb)
  have hE := hE.mono hb
  have hbw := Below.step hbw hb (Nat.le_refl _)
  clear hb
  obtain ⟨cv, hcv, hc0⟩ : ∃ cv : Int, cmpZ ((Int.gcd p d : Nat) : Int) 1 = cv ∧ (cv == 0) = true := ⟨_, rfl, by have := hq.out; unfold cmpZ; split <;> (try split) <;> simp <;> omega⟩
  have HC := Lib.hid hcv
  clear hcv
  obtain ⟨wy, rfl⟩ : ∃ wy : World, wy = v6 := ⟨_, rfl⟩
  go_cut [2] (fun s2 wc => s2 = .bool true ∧ Below wy.heap.size wy wc)
  case first =>
    obtain ⟨_, _, _, _⟩ := id X3
    go_region_with (first
      | (go_at_call 65; ((with_reducible refine (one_any _ (hE.mono ?_)).mono ?_); ((repeat' (first | with_reducible assumption | with_reducible exact Below.refl _ _ | with_reducible refine Below.drew ?_ | with_reducible refine Below.alloc ?_ ?_ _ | with_reducible refine Below.setCell ?_ ?_ _ | with_reducible refine Below.step ?_ he2 ?_ | with_reducible refine Below.step ?_ he1 ?_ | (first | exact Nat.le_refl _ | omega | (simp; done) | (simp; omega) | (unfold World.setCell; simp; done) | (unfold World.setCell; simp; omega)))))); rintro e t1 ⟨⟨ng5, ao5, n5, cap5, rfl, HV5⟩, he1⟩; have HT1 : Below wy.heap.size wy t1 := (by (repeat' (first | with_reducible assumption | with_reducible exact Below.refl _ _ | with_reducible refine Below.drew ?_ | with_reducible refine Below.alloc ?_ ?_ _ | with_reducible refine Below.setCell ?_ ?_ _ | with_reducible refine Below.step ?_ he2 ?_ | with_reducible refine Below.step ?_ he1 ?_ | (first | exact Nat.le_refl _ | omega | (simp; done) | (simp; omega) | (unfold World.setCell; simp; done) | (unfold World.setCell; simp; omega))))); have ht1 := HT1.size; have hX3 := X3.mono HT1; obtain ⟨_, _, _, _⟩ := id hX3)
      | (go_at_call 64; ((with_reducible refine (Cmp_eq _ _ ((Int.gcd p d : Nat) : Int) 1 cv _ HC (HV3.out.mono ?_) (HV5.out.mono ?_) (hE.mono ?_)).mono ?_); ((repeat' (first | with_reducible assumption | with_reducible exact Below.refl _ _ | with_reducible refine Below.drew ?_ | with_reducible refine Below.alloc ?_ ?_ _ | with_reducible refine Below.setCell ?_ ?_ _ | with_reducible refine Below.step ?_ he2 ?_ | with_reducible refine Below.step ?_ he1 ?_ | (first | exact Nat.le_refl _ | omega | (simp; done) | (simp; omega) | (unfold World.setCell; simp; done) | (unfold World.setCell; simp; omega))))); ((repeat' (first | with_reducible assumption | with_reducible exact Below.refl _ _ | with_reducible refine Below.drew ?_ | with_reducible refine Below.alloc ?_ ?_ _ | with_reducible refine Below.setCell ?_ ?_ _ | with_reducible refine Below.step ?_ he2 ?_ | with_reducible refine Below.step ?_ he1 ?_ | (first | exact Nat.le_refl _ | omega | (simp; done) | (simp; omega) | (unfold World.setCell; simp; done) | (unfold World.setCell; simp; omega))))); ((repeat' (first | with_reducible assumption | with_reducible exact Below.refl _ _ | with_reducible refine Below.drew ?_ | with_reducible refine Below.alloc ?_ ?_ _ | with_reducible refine Below.setCell ?_ ?_ _ | with_reducible refine Below.step ?_ he2 ?_ | with_reducible refine Below.step ?_ he1 ?_ | (first | exact Nat.le_refl _ | omega | (simp; done) | (simp; omega) | (unfold World.setCell; simp; done) | (unfold World.setCell; simp; omega)))))); rintro e t2 ⟨rfl, he2⟩; have HT2 : Below wy.heap.size wy t2 := (by (repeat' (first | with_reducible assumption | with_reducible exact Below.refl _ _ | with_reducible refine Below.drew ?_ | with_reducible refine Below.alloc ?_ ?_ _ | with_reducible refine Below.setCell ?_ ?_ _ | with_reducible refine Below.step ?_ he2 ?_ | with_reducible refine Below.step ?_ he1 ?_ | (first | exact Nat.le_refl _ | omega | (simp; done) | (simp; omega) | (unfold World.setCell; simp; done) | (unfold World.setCell; simp; omega))))); have ht2 := HT2.size))
    all_goals (go_wp2_with fail; go_meet; exact ⟨rfl, HT2⟩)
  case rest =>
    obtain ⟨rfl, hb⟩ := hcut
    have hbw := Below.step hbw hb (Nat.le_refl _)
    go_wp2
    go_ret
    exact ⟨rfl, hbw⟩

set_option maxRecDepth 100000 in
set_option maxHeartbeats 1600000 in
theorem Valid_gcd {ng1 : Bool} {ao1 : Option Addr} {n1 cap1 : Nat} {ng2 : Bool} {ao2 : Option Addr} {n2 cap2 : Nat} (p d : Int) (w : World) (hq : Hid (0 < d ∧ Int.gcd p d ≠ 1)) (h1 : IntV w (.agg #[.bool ng1, .slice ao1 n1 cap1]) p) (h2 : IntV w (.agg #[.bool ng2, .slice ao2 n2 cap2]) d) (hE : Env w) :
    Calls Tryz.prog 20 #[.agg #[.bool ng1, .slice ao1 n1 cap1, .bool ng2, .slice ao2 n2 cap2]] w fun e w' => e = .returned (.bool false) ∧ Below w.heap.size w w' := by
  have HV1 := Lib.hid h1
  have HV2 := Lib.hid h2
  have hE0 := hE
  clear h1 h2
  have hbw := Below.refl w.heap.size w
  have HS : Hid (sgnI d = 1) := Lib.hid (by have := hq.out; unfold sgnI; split <;> (try split) <;> omega)
  go_enter Tryz.func20, Tryz.ntmps20
  go_upto_region 1 with fail
  have X0 := Box4.new w (.bool ng1) (.slice ao1 n1 cap1) (.bool ng2) (.slice ao2 n2 cap2) 29
  have hb := below_alloc w (.cells #[.bool ng1, .slice ao1 n1 cap1, .bool ng2, .slice ao2 n2 cap2] 29)
  generalize w.alloc (.cells #[.bool ng1, .slice ao1 n1 cap1, .bool ng2, .slice ao2 n2 cap2] 29) = v1 at *
  have HV1 := Lib.hid (HV1.out.mono hb)
  have HV2 := Lib.hid (HV2.out.mono hb)
  have hE := hE.mono hb
  have hbw := Below.step hbw hb (Nat.le_refl _)
  clear hb
  obtain ⟨cX0_0, cX0_1, cX0_2, cX0_3, _, _, _, _⟩ := id X0
  go_wp2_with fail
  (with_reducible refine (validV _ p v1 HV1.out hE).mono ?_)
  rintro e v2 ⟨rfl, hb⟩
  have HV1 := Lib.hid (HV1.out.mono hb)
  have HV2 := Lib.hid (HV2.out.mono hb)
  have X0 := X0.mono hb
  have hE := hE.mono hb
  have hbw := Below.step hbw hb (Nat.le_refl _)
  clear hb
  clear cX0_0 cX0_1 cX0_2 cX0_3
  obtain ⟨cX0_0, cX0_1, cX0_2, cX0_3, _, _, _, _⟩ := id X0
  go_wp2_with fail
  (with_reducible refine (validV _ d v2 HV2.out hE).mono ?_)
  rintro e v3 ⟨rfl, hb⟩
  have HV1 := Lib.hid (HV1.out.mono hb)
  have HV2 := Lib.hid (HV2.out.mono hb)
  have X0 := X0.mono hb
  have hE := hE.mono hb
  have hbw := Below.step hbw hb (Nat.le_refl _)
  clear hb
  clear cX0_0 cX0_1 cX0_2 cX0_3
  obtain ⟨cX0_0, cX0_1, cX0_2, cX0_3, _, _, _, _⟩ := id X0
  go_wp2_with fail
  (with_reducible refine (Sign_eq _ d (1) v3 HS HV2.out hE).mono ?_)
  rintro e v4 ⟨rfl, hb⟩
  have HV1 := Lib.hid (HV1.out.mono hb)
  have HV2 := Lib.hid (HV2.out.mono hb)
  have X0 := X0.mono hb
  have hE := hE.mono hb
  have hbw := Below.step hbw hb (Nat.le_refl _)
  clear hb
  clear cX0_0 cX0_1 cX0_2 cX0_3
  obtain ⟨cX0_0, cX0_1, cX0_2, cX0_3, _, _, _, _⟩ := id X0
  go_wp2_with fail
  (with_reducible refine (Gcd_ok _ _ p d v4 HV1.out HV2.out hE).mono ?_)
  rintro e v5 ⟨⟨ng3, ao3, n3, cap3, rfl, HV3⟩, hb⟩
  have HV1 := Lib.hid (HV1.out.mono hb)
  have HV2 := Lib.hid (HV2.out.mono hb)
  have X0 := X0.mono hb
  have hE := hE.mono hb
  have hbw := Below.step hbw hb (Nat.le_refl _)
  clear hb
  clear cX0_0 cX0_1 cX0_2 cX0_3
  go_upto_region 4 with fail
  have lX3X0 := X0.lt
  have X3 := Box.new v5 (.bool ng3) (.slice ao3 n3 cap3) 24
  have hb := below_alloc v5 (.cells #[.bool ng3, .slice ao3 n3 cap3] 24)
  generalize v5.alloc (.cells #[.bool ng3, .slice ao3 n3 cap3] 24) = v6 at *
  have HV1 := Lib.hid (HV1.out.mono hb)
  have HV2 := Lib.hid (HV2.out.mono hb)
  have X0 := X0.mono hb
  have HV3 := Lib.hid (HV3.out.mono hb)
  have hE := hE.mono hb
  have hbw := Below.step hbw hb (Nat.le_refl _)
  clear hb
  obtain ⟨cv, hcv, hc0⟩ : ∃ cv : Int, cmpZ ((Int.gcd p d : Nat) : Int) 1 = cv ∧ (cv == 0) = false := ⟨_, rfl, by have := hq.out; unfold cmpZ; split <;> (try split) <;> simp <;> omega⟩
  have HC := Lib.hid hcv
  clear hcv
  obtain ⟨wy, rfl⟩ : ∃ wy : World, wy = v6 := ⟨_, rfl⟩
  go_cut [2] (fun s2 wc => s2 = .bool false ∧ Below wy.heap.size wy wc)
  case first =>
    obtain ⟨_, _, _, _⟩ := id X3
    go_region_with (first
      | (go_at_call 65; ((with_reducible refine (one_any _ (hE.mono ?_)).mono ?_); ((repeat' (first | with_reducible assumption | with_reducible exact Below.refl _ _ | with_reducible refine Below.drew ?_ | with_reducible refine Below.alloc ?_ ?_ _ | with_reducible refine Below.setCell ?_ ?_ _ | with_reducible refine Below.step ?_ he2 ?_ | with_reducible refine Below.step ?_ he1 ?_ | (first | exact Nat.le_refl _ | omega | (simp; done) | (simp; omega) | (unfold World.setCell; simp; done) | (unfold World.setCell; simp; omega)))))); rintro e t1 ⟨⟨ng5, ao5, n5, cap5, rfl, HV5⟩, he1⟩; have HT1 : Below wy.heap.size wy t1 := (by (repeat' (first | with_reducible assumption | with_reducible exact Below.refl _ _ | with_reducible refine Below.drew ?_ | with_reducible refine Below.alloc ?_ ?_ _ | with_reducible refine Below.setCell ?_ ?_ _ | with_reducible refine Below.step ?_ he2 ?_ | with_reducible refine Below.step ?_ he1 ?_ | (first | exact Nat.le_refl _ | omega | (simp; done) | (simp; omega) | (unfold World.setCell; simp; done) | (unfold World.setCell; simp; omega))))); have ht1 := HT1.size; have hX3 := X3.mono HT1; obtain ⟨_, _, _, _⟩ := id hX3)
      | (go_at_call 64; ((with_reducible refine (Cmp_eq _ _ ((Int.gcd p d : Nat) : Int) 1 cv _ HC (HV3.out.mono ?_) (HV5.out.mono ?_) (hE.mono ?_)).mono ?_); ((repeat' (first | with_reducible assumption | with_reducible exact Below.refl _ _ | with_reducible refine Below.drew ?_ | with_reducible refine Below.alloc ?_ ?_ _ | with_reducible refine Below.setCell ?_ ?_ _ | with_reducible refine Below.step ?_ he2 ?_ | with_reducible refine Below.step ?_ he1 ?_ | (first | exact Nat.le_refl _ | omega | (simp; done) | (simp; omega) | (unfold World.setCell; simp; done) | (unfold World.setCell; simp; omega))))); ((repeat' (first | with_reducible assumption | with_reducible exact Below.refl _ _ | with_reducible refine Below.drew ?_ | with_reducible refine Below.alloc ?_ ?_ _ | with_reducible refine Below.setCell ?_ ?_ _ | with_reducible refine Below.step ?_ he2 ?_ | with_reducible refine Below.step ?_ he1 ?_ | (first | exact Nat.le_refl _ | omega | (simp; done) | (simp; omega) | (unfold World.setCell; simp; done) | (unfold World.setCell; simp; omega))))); ((repeat' (first | with_reducible assumption | with_reducible exact Below.refl _ _ | with_reducible refine Below.drew ?_ | with_reducible refine Below.alloc ?_ ?_ _ | with_reducible refine Below.setCell ?_ ?_ _ | with_reducible refine Below.step ?_ he2 ?_ | with_reducible refine Below.step ?_ he1 ?_ | (first | exact Nat.le_refl _ | omega | (simp; done) | (simp; omega) | (unfold World.setCell; simp; done) | (unfold World.setCell; simp; omega)))))); rintro e t2 ⟨rfl, he2⟩; have HT2 : Below wy.heap.size wy t2 := (by (repeat' (first | with_reducible assumption | with_reducible exact Below.refl _ _ | with_reducible refine Below.drew ?_ | with_reducible refine Below.alloc ?_ ?_ _ | with_reducible refine Below.setCell ?_ ?_ _ | with_reducible refine Below.step ?_ he2 ?_ | with_reducible refine Below.step ?_ he1 ?_ | (first | exact Nat.le_refl _ | omega | (simp; done) | (simp; omega) | (unfold World.setCell; simp; done) | (unfold World.setCell; simp; omega))))); have ht2 := HT2.size))
    all_goals (go_wp2_with fail; go_meet; exact ⟨rfl, HT2⟩)
  case rest =>
    obtain ⟨rfl, hb⟩ := hcut
    have hbw := Below.step hbw hb (Nat.le_refl _)
    go_wp2
    go_ret
    exact ⟨rfl, hbw⟩

set_option maxRecDepth 100000 in
set_option maxHeartbeats 1600000 in
theorem Valid_num (x1 x2 : Bool) (l1 l2 : List Nat) (a1 a2 : Option Addr) (c1 c2 : Nat) (w : World) (m1 : l1.length ≤ 1000000000) (_m2 : l2.length ≤ 1000000000) (u1 : U w a1 l1) (u2 : U w a2 l2) (hv : Hid (¬ validP x1 l1)) (hE : Env w) :
    Calls Tryz.prog 20 #[.agg #[.bool x1, .slice a1 l1.length c1, .bool x2, .slice a2 l2.length c2]] w fun e w' => e = .returned (.bool false) ∧ Below w.heap.size w w' := by
  have hE0 := hE
  have hbw := Below.refl w.heap.size w
  go_enter Tryz.func20, Tryz.ntmps20
  go_upto_region 1 with fail
  have X0 := Box4.new w (.bool x1) (.slice a1 l1.length c1) (.bool x2) (.slice a2 l2.length c2) 29
  have hb := below_alloc w (.cells #[.bool x1, .slice a1 l1.length c1, .bool x2, .slice a2 l2.length c2] 29)
  generalize w.alloc (.cells #[.bool x1, .slice a1 l1.length c1, .bool x2, .slice a2 l2.length c2] 29) = v1 at *
  have u1 := u1.mono hb
  have u2 := u2.mono hb
  have hE := hE.mono hb
  have hbw := Below.step hbw hb (Nat.le_refl _)
  clear hb
  obtain ⟨cX0_0, cX0_1, cX0_2, cX0_3, _, _, _, _⟩ := id X0
  go_wp2_with fail
  (with_reducible refine (valid_no x1 l1 a1 c1 v1 m1 hv u1 hE).mono ?_)
  rintro e v2 ⟨rfl, hb⟩
  have u1 := u1.mono hb
  have u2 := u2.mono hb
  have X0 := X0.mono hb
  have hE := hE.mono hb
  have hbw := Below.step hbw hb (Nat.le_refl _)
  clear hb
  clear cX0_0 cX0_1 cX0_2 cX0_3
  go_wp2
  go_ret
  exact ⟨rfl, hbw⟩

set_option maxRecDepth 100000 in
set_option maxHeartbeats 1600000 in
theorem Valid_den (x1 x2 : Bool) (l1 l2 : List Nat) (a1 a2 : Option Addr) (c1 c2 : Nat) (w : World) (m1 : l1.length ≤ 1000000000) (m2 : l2.length ≤ 1000000000) (u1 : U w a1 l1) (u2 : U w a2 l2) (hv : Hid (Hid (validP x1 l1) ∧ Hid (¬ validP x2 l2))) (hE : Env w) :
    Calls Tryz.prog 20 #[.agg #[.bool x1, .slice a1 l1.length c1, .bool x2, .slice a2 l2.length c2]] w fun e w' => e = .returned (.bool false) ∧ Below w.heap.size w w' := by
  have hE0 := hE
  have hbw := Below.refl w.heap.size w
  go_enter Tryz.func20, Tryz.ntmps20
  go_upto_region 1 with fail
  have X0 := Box4.new w (.bool x1) (.slice a1 l1.length c1) (.bool x2) (.slice a2 l2.length c2) 29
  have hb := below_alloc w (.cells #[.bool x1, .slice a1 l1.length c1, .bool x2, .slice a2 l2.length c2] 29)
  generalize w.alloc (.cells #[.bool x1, .slice a1 l1.length c1, .bool x2, .slice a2 l2.length c2] 29) = v1 at *
  have u1 := u1.mono hb
  have u2 := u2.mono hb
  have hE := hE.mono hb
  have hbw := Below.step hbw hb (Nat.le_refl _)
  clear hb
  obtain ⟨cX0_0, cX0_1, cX0_2, cX0_3, _, _, _, _⟩ := id X0
  go_wp2_with fail
  (with_reducible refine (valid_yes x1 l1 a1 c1 v1 m1 hv.out.1 u1 hE).mono ?_)
  rintro e v2 ⟨rfl, hb⟩
  have u1 := u1.mono hb
  have u2 := u2.mono hb
  have X0 := X0.mono hb
  have hE := hE.mono hb
  have hbw := Below.step hbw hb (Nat.le_refl _)
  clear hb
  clear cX0_0 cX0_1 cX0_2 cX0_3
  obtain ⟨cX0_0, cX0_1, cX0_2, cX0_3, _, _, _, _⟩ := id X0
  go_wp2_with fail
  (with_reducible refine (valid_no x2 l2 a2 c2 v2 m2 hv.out.2 u2 hE).mono ?_)
  rintro e v3 ⟨rfl, hb⟩
  have u1 := u1.mono hb
  have u2 := u2.mono hb
  have X0 := X0.mono hb
  have hE := hE.mono hb
  have hbw := Below.step hbw hb (Nat.le_refl _)
  clear hb
  clear cX0_0 cX0_1 cX0_2 cX0_3
  go_wp2
  go_ret
  exact ⟨rfl, hbw⟩

/-- is a fraction, read raw, valid? -/
def ValidR (x1 : Bool) (l1 : List Nat) (x2 : Bool) (l2 : List Nat) : Prop :=
  ∃ r : Rat, x1 = decide (r.num < 0) ∧ l1 = Bi.limbs r.num.natAbs ∧ Rq.Sm r.num ∧ x2 = false ∧ l2 = Bi.limbs r.den ∧ Rq.Sm (r.den : Int)

/-- a fraction that is read, and whether it is valid -/
def VQ (w : World) (v : Value) (b : Bool) : Prop :=
  ∃ (x1 x2 : Bool) (l1 l2 : List Nat) (a1 a2 : Option Addr) (c1 c2 : Nat), v = .agg #[.bool x1, .slice a1 l1.length c1, .bool x2, .slice a2 l2.length c2] ∧ l1.length ≤ 1000000000 ∧ l2.length ≤ 1000000000 ∧ l1.length ≤ c1 ∧ l2.length ≤ c2 ∧ U w a1 l1 ∧ U w a2 l2 ∧ Hid (b = true ↔ ValidR x1 l1 x2 l2)

theorem VQ.mono {w w' : World} {v : Value} {b : Bool} (h : VQ w v b) (hb : Below w.heap.size w w') : VQ w' v b := by
  obtain ⟨x1, x2, l1, l2, a1, a2, c1, c2, e, h1, h2, k1, k2, h3, h4, h5⟩ := h
  exact ⟨x1, x2, l1, l2, a1, a2, c1, c2, e, h1, h2, k1, k2, h3.mono hb, h4.mono hb, h5⟩

theorem VQ.parts {w : World} {v : Value} {b : Bool} (h : VQ w v b) : ∃ (ng : Bool) (ao : Option Addr) (n cap : Nat) (ng2 : Bool) (ao2 : Option Addr) (n2 cap2 : Nat), v = .agg #[.bool ng, .slice ao n cap, .bool ng2, .slice ao2 n2 cap2] := by
  obtain ⟨x1, x2, l1, l2, a1, a2, c1, c2, e, _⟩ := h
  exact ⟨_, _, _, _, _, _, _, _, e⟩

theorem RatV.parts {w : World} {v : Value} {r : Rat} (h : RatV w v r) : ∃ (ng : Bool) (ao : Option Addr) (n cap : Nat) (ng2 : Bool) (ao2 : Option Addr) (n2 cap2 : Nat), v = .agg #[.bool ng, .slice ao n cap, .bool ng2, .slice ao2 n2 cap2] := by
  obtain ⟨n1, a1, l1, c1, n2, a2, l2, c2, e, _⟩ := h
  exact ⟨_, _, _, _, _, _, _, _, e⟩

theorem RatV.vq {w : World} {v : Value} {r : Rat} (h : RatV w v r) : VQ w v true := by
  obtain ⟨n1, a1, l1, c1, n2, a2, l2, c2, e, h1, h2⟩ := h
  obtain ⟨m1, b1, L1, d1, e1, Hn1, HL1, HB1, hk1, hl1, hU1⟩ := h1
  obtain ⟨m2, b2, L2, d2, e2, Hn2, HL2, HB2, hk2, hl2, hU2⟩ := h2
  simp only [Value.agg.injEq, Array.mk.injEq, List.cons.injEq, Value.bool.injEq, Value.slice.injEq, and_true] at e1 e2
  obtain ⟨rfl, rfl, rfl, rfl⟩ := e1
  obtain ⟨rfl, rfl, rfl, rfl⟩ := e2
  refine ⟨n1, n2, L1, L2, a1, a2, c1, c2, e, by omega, by omega, hk1, hk2, hU1, hU2, Lib.hid ⟨fun _ => ⟨r, Hn1.out, HL1.out, HB1.out, ?_, ?_, HB2.out⟩, fun _ => rfl⟩⟩
  · rw [Hn2.out]; simp
  · rw [HL2.out, Int.natAbs_natCast]

/-- a valid one has a value -/
theorem VQ.rat {w : World} {v : Value} (h : VQ w v true) : ∃ r, RatV w v r := by
  obtain ⟨x1, x2, l1, l2, a1, a2, c1, c2, e, h1, h2, k1, k2, h3, h4, h5⟩ := h
  obtain ⟨r, e1, e2, e3, e4, e5, e6⟩ := h5.out.1 rfl
  refine ⟨r, x1, a1, _, c1, x2, a2, _, c2, e, ⟨x1, a1, l1, c1, rfl, Lib.hid e1, Lib.hid e2, Lib.hid e3, k1, by rw [e2]; exact limbs_len34 e3, h3⟩, ⟨x2, a2, l2, c2, rfl, Lib.hid ?_, Lib.hid ?_, Lib.hid e6, k2, ?_, h4⟩⟩
  · rw [e4]; simp
  · rw [e5, Int.natAbs_natCast]
  · rw [e5]; exact limbs_len34 (by have := e6; unfold Rq.Sm at this; rwa [Int.natAbs_natCast] at this)

theorem int_of {w : World} {x : Bool} {l : List Nat} {a : Option Addr} {c : Nat} (hv : validP x l) (hc : l.length ≤ c) (hU : U w a l) : ∃ z : Int, IntV w (.agg #[.bool x, .slice a l.length c]) z ∧ x = decide (z < 0) ∧ l = Bi.limbs z.natAbs ∧ Rq.Sm z := by
  obtain ⟨z, h1, h2, h3, h4⟩ := valid_parts hv
  exact ⟨z, IntV.mk' (Lib.hid h1) (Lib.hid h2) (Lib.hid h3) hc h4 hU, h1, h2, h3⟩

theorem validR_of {x1 x2 : Bool} {l1 l2 : List Nat} {p d : Int} (h1 : x1 = decide (p < 0)) (h2 : l1 = Bi.limbs p.natAbs) (h3 : Rq.Sm p) (h4 : x2 = decide (d < 0)) (h5 : l2 = Bi.limbs d.natAbs) (h6 : Rq.Sm d) (hv : Rq.VP p d) : ValidR x1 l1 x2 l2 := by
  obtain ⟨r, e1, e2⟩ := hv.rat
  have hd := hv.1
  refine ⟨r, by rw [e1]; exact h1, by rw [e1]; exact h2, by rw [e1]; exact h3, ?_, ?_, by rw [e2]; exact h6⟩
  · rw [h4]; simp; omega
  · rw [h5]; congr 1; omega

/-- 'Valid' of a fraction that is none -/
theorem Valid_false (v : Value) (w : World) (h : VQ w v false) (hE : Env w) :
    Calls Tryz.prog 20 #[v] w fun e w' => e = .returned (.bool false) ∧ Below w.heap.size w w' := by
  obtain ⟨x1, x2, l1, l2, a1, a2, c1, c2, rfl, h1, h2, k1, k2, h3, h4, h5⟩ := h
  have hn : ¬ ValidR x1 l1 x2 l2 := fun h => by simpa using h5.out.2 h
  by_cases v1 : validP x1 l1
  · by_cases v2 : validP x2 l2
    · obtain ⟨p, hp, p1, p2, p3⟩ := int_of v1 k1 h3
      obtain ⟨d, hd, d1, d2, d3⟩ := int_of v2 k2 h4
      rcases Int.lt_trichotomy d 0 with hd0 | hd0 | hd0
      · exact Valid_len p d w (Lib.hid hd0) hp hd hE
      · exact Valid_lez p d w (Lib.hid hd0) hp hd hE
      · exact Valid_gcd p d w (Lib.hid ⟨hd0, fun hg => hn (validR_of p1 p2 p3 d1 d2 d3 ⟨hd0, hg⟩)⟩) hp hd hE
    · exact Valid_den x1 x2 l1 l2 a1 a2 c1 c2 w h1 h2 h3 h4 (Lib.hid ⟨Lib.hid v1, Lib.hid v2⟩) hE
  · exact Valid_num x1 x2 l1 l2 a1 a2 c1 c2 w h1 h2 h3 h4 (Lib.hid v1) hE

theorem Valid_true (v : Value) (r : Rat) (w : World) (h : RatV w v r) (hE : Env w) :
    Calls Tryz.prog 20 #[v] w fun e w' => e = .returned (.bool true) ∧ Below w.heap.size w w' := by
  obtain ⟨n1, a1, l1, c1, n2, a2, l2, c2, rfl, h1, h2⟩ := h
  exact Valid_yes r.num (r.den : Int) w (Lib.hid (Rq.vp_rat r)) h1 h2 hE

theorem Valid_v (v : Value) (b : Bool) (w : World) (h : VQ w v b) (hE : Env w) :
    Calls Tryz.prog 20 #[v] w fun e w' => e = .returned (.bool b) ∧ Below w.heap.size w w' := by
  cases b
  · exact Valid_false v w h hE
  · obtain ⟨r, hr⟩ := h.rat
    exact Valid_true v r w hr hE

end Go.Proofs.YtgenhkakcbedaaaGreatDoor
