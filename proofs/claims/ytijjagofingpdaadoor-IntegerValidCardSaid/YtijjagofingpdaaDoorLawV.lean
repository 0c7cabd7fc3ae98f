import Derived.Test.YtijjagofingpdaaDoorDoor2
import Derived.RegionTactic
import Derived.BigRegion
namespace Go.Proofs.YtijjagofingpdaaDoor
open Go.RowKit

/-- a valid integer has a value -/
theorem valid_parts {neg : Bool} {l : List Nat} (hv : validP neg l) : ∃ z : Int, neg = decide (z < 0) ∧ l = Bi.limbs z.natAbs ∧ z.natAbs < Bi.Big ∧ l.length ≤ 34 := by
  unfold validP at hv
  by_cases h0 : l = []
  · rw [if_pos h0] at hv
    subst h0 hv
    exact ⟨0, rfl, rfl, big_small (by decide), by simp⟩
  · rw [if_neg h0] at hv
    obtain ⟨h1, h2, h3⟩ := hv
    have hL : l = Bi.limbs (Bi.val l) := (Bi.canon_limbs h1 h2).symm
    have hne : Bi.val l ≠ 0 := by
      intro h; rw [h] at hL; exact h0 hL
    refine ⟨sgn neg (Bi.val l), ?_, by rw [sgn_natAbs]; exact hL, by rw [sgn_natAbs]; exact h3, ?_⟩
    · unfold sgn; cases neg
      · simp
      · simp; omega
    · rw [hL]; exact limbs_len34 h3

theorem Cmp_invl (n1 : Bool) (l1 : List Nat) (a1 : Option Addr) (c1 : Nat) (b : Value) (y : Int) (w : World) (h1 : U w a1 l1) (m1 : l1.length ≤ 1000000000) (hbad : Hid (¬ validP n1 l1)) (hb : IntV w b y) (hE : Env w) :
    Calls Tryd.prog 25 #[.agg #[.bool n1, .slice a1 l1.length c1], b] w fun e w' => e = .returned (.int .i64 0) ∧ Below w.heap.size w w' := by
  obtain ⟨n2, ao2, L2, c2, rfl, Hn2, HL2, HB2, hc2, hl2, hU2⟩ := hb
  exact Cmp_inv n1 n2 l1 L2 a1 ao2 c1 c2 w h1 hU2 m1 (by omega) (Lib.hid fun h => hbad.out h.1) hE

theorem Cmp_invr (n1 : Bool) (l1 : List Nat) (a1 : Option Addr) (c1 : Nat) (b : Value) (y : Int) (w : World) (h1 : U w a1 l1) (m1 : l1.length ≤ 1000000000) (hbad : Hid (¬ validP n1 l1)) (hb : IntV w b y) (hE : Env w) :
    Calls Tryd.prog 25 #[b, .agg #[.bool n1, .slice a1 l1.length c1]] w fun e w' => e = .returned (.int .i64 0) ∧ Below w.heap.size w w' := by
  obtain ⟨n2, ao2, L2, c2, rfl, Hn2, HL2, HB2, hc2, hl2, hU2⟩ := hb
  exact Cmp_inv n2 n1 L2 l1 ao2 a1 c2 c1 w hU2 h1 (by omega) m1 (Lib.hid fun h => hbad.out h.2) hE

theorem valid_yes (neg : Bool) (l : List Nat) (ao : Option Addr) (cap : Nat) (w : World) (hm : l.length ≤ 1000000000) (hv : Hid (validP neg l)) (hU : U w ao l) (hE : Env w) :
    Calls Tryd.prog 18 #[.agg #[.bool neg, .slice ao l.length cap]] w fun e w' => e = .returned (.bool true) ∧ Below w.heap.size w w' := by
  refine (valid_any neg l ao cap w hm hU hE).mono ?_
  rintro e w' ⟨⟨r, HR, rfl⟩, hb⟩
  refine ⟨ret_bool ?_, hb⟩
  have h := HR.out
  have hv := hv.out
  cases r <;> simp_all

theorem rvalid_yes (neg : Bool) (l : List Nat) (ao : Option Addr) (cap : Nat) (w : World) (hm : l.length ≤ 1000000000) (hv : Hid (validP neg l)) (hU : U w ao l) :
    Calls Tryd.prog 24 #[.agg #[.bool neg, .slice ao l.length cap]] w fun e w' => e = .returned (.bool true) ∧ Below w.heap.size w w' := by
  refine (rValid_any neg l ao cap w hm hU).mono ?_
  rintro e w' ⟨⟨r, HR, rfl⟩, hb⟩
  refine ⟨ret_bool ?_, hb⟩
  have h := HR.out
  have hv := hv.out
  cases r <;> simp_all
theorem valid_no (neg : Bool) (l : List Nat) (ao : Option Addr) (cap : Nat) (w : World) (hm : l.length ≤ 1000000000) (hv : Hid (¬ validP neg l)) (hU : U w ao l) (hE : Env w) :
    Calls Tryd.prog 18 #[.agg #[.bool neg, .slice ao l.length cap]] w fun e w' => e = .returned (.bool false) ∧ Below w.heap.size w w' := by
  refine (valid_any neg l ao cap w hm hU hE).mono ?_
  rintro e w' ⟨⟨r, HR, rfl⟩, hb⟩
  refine ⟨ret_bool ?_, hb⟩
  have h := HR.out
  have hv := hv.out
  cases r <;> simp_all

theorem rvalid_no (neg : Bool) (l : List Nat) (ao : Option Addr) (cap : Nat) (w : World) (hm : l.length ≤ 1000000000) (hv : Hid (¬ validP neg l)) (hU : U w ao l) :
    Calls Tryd.prog 24 #[.agg #[.bool neg, .slice ao l.length cap]] w fun e w' => e = .returned (.bool false) ∧ Below w.heap.size w w' := by
  refine (rValid_any neg l ao cap w hm hU).mono ?_
  rintro e w' ⟨⟨r, HR, rfl⟩, hb⟩
  refine ⟨ret_bool ?_, hb⟩
  have h := HR.out
  have hv := hv.out
  cases r <;> simp_all

theorem IntV.mk' {w : World} {neg : Bool} {ao : Option Addr} {L : List Nat} {cap : Nat} {z : Int} (h1 : Hid (neg = decide (z < 0))) (h2 : Hid (L = Bi.limbs z.natAbs)) (h3 : Hid (z.natAbs < Bi.Big)) (hc : L.length ≤ cap) (hl : L.length ≤ 34) (hU : U w ao L) :
    IntV w (.agg #[.bool neg, .slice ao L.length cap]) z := ⟨neg, ao, L, cap, rfl, h1, h2, h3, hc, hl, hU⟩

theorem rSign_raw (neg : Bool) (l : List Nat) (ao : Option Addr) (cap : Nat) (x : Int) (w : World) (Hn1 : Hid (neg = decide (x < 0))) (HL1 : Hid (l = Bi.limbs x.natAbs)) :
    Calls Tryd.prog 19 #[.agg #[.bool neg, .slice ao l.length cap]] w fun e w' => e = .returned (.int .i64 (sgnI x)) ∧ Below w.heap.size w w' := by
  by_cases h0 : l = []
  · have hx : Hid (sgnI x = 0) := Lib.hid (by
      have h := HL1.out; rw [h0] at h; have := Bi.limbs_eq_nil.1 h.symm; unfold sgnI; rw [if_pos (by omega)])
    subst h0
    go_enter Tryd.func19, Tryd.ntmps19
    go_wp2
    go_ret
    exact ⟨ret_int hx.out.symm, (Below.refl _ _).alloc (Nat.le_refl _) _⟩
  · have hL : 0 < l.length := List.length_pos_iff.2 h0
    have hx0 : x ≠ 0 := by rintro rfl; exact h0 (by rw [HL1.out]; rfl)
    have hLz : ((l.length : Int) == 0) = false := by rw [beq_eq_false_iff_ne]; omega
    have hx : Hid (sgnI x = if neg then -1 else 1) := Lib.hid (by unfold sgnI; rw [if_neg hx0, Hn1.out]; by_cases h : x < 0 <;> simp [h])
    cases neg
    all_goals
      go_enter Tryd.func19, Tryd.ntmps19
      go_wp2
      go_ret
      exact ⟨ret_int hx.out.symm, (Below.refl _ _).alloc (Nat.le_refl _) _⟩

set_option maxRecDepth 100000 in
set_option maxHeartbeats 3200000 in
theorem valid_law (a : Value) (w : World) (ha : DraftV w a) (hE : Env w) :
    Calls Tryd.prog 5 #[a] w fun e w' => e = .returned (.bool true) ∧ Below w.heap.size w w' := by
  obtain ⟨neg, ao, l, cap, rfl, hm, hU, _⟩ := ha
  go_enter Tryd.func5, Tryd.ntmps5
  go_wp2_with fail
  have X1 := Box.new w (.bool neg) (.slice ao l.length cap) 25
  have hbw := below_alloc w (.cells #[.bool neg, .slice ao l.length cap] 25)
  have hU := hU.mono hbw
  have hE := hE.mono hbw
  generalize w.alloc (.cells #[.bool neg, .slice ao l.length cap] 25) = wx at *
  (with_reducible refine (awake_any _ hE).mono ?_)
  rintro e wa ⟨rfl, hb⟩
  have X1 := X1.mono hb
  have hU := hU.mono hb
  have hE := hE.mono hb
  have hbw := Below.step hbw hb (Nat.le_refl _)
  clear hb
  obtain ⟨x0, x1, _, _⟩ := id X1
  go_wp2_with fail
  (with_reducible refine (few_any neg l 60 ao cap _).mono ?_)
  rintro e wb ⟨rfl, hb⟩
  have X1 := X1.mono hb
  have hU := hU.mono hb
  have hE := hE.mono hb
  have hbw := Below.step hbw hb (Nat.le_refl _)
  clear hb x0 x1
  obtain ⟨x0, x1, _, _⟩ := id X1
  by_cases h60 : (l.length : Int) ≤ 60
  · have hm9 : l.length ≤ 1000000000 := by omega
    have h60b : decide ((l.length : Int) ≤ 60) = true := by simpa using h60
    clear hm
    go_upto_region 3 with fail
    obtain ⟨wy, rfl⟩ : ∃ wy : World, wy = wb := ⟨_, rfl⟩
    by_cases hv : validP neg l
    · have HV := Lib.hid hv
      obtain ⟨z, hz1, hz2, hz3, hz4⟩ := valid_parts hv
      have HZ1 := Lib.hid hz1
      have HZ2 := Lib.hid hz2
      have HZ3 := Lib.hid hz3
      clear hz1 hz2 hz3
      clear hv
      go_region_held3 (fun w' => w'.cell? ⟨w.heap.size, 0, none⟩ = some (.bool neg) ∧ w'.cell? ⟨w.heap.size, 1, none⟩ = some (.slice ao l.length cap))
        ((refine S1 X1 ?_; (repeat' (first | with_reducible assumption | with_reducible exact Below.refl _ _ | with_reducible refine Below.drew ?_ | with_reducible refine Below.alloc ?_ ?_ _ | with_reducible refine Below.setCell ?_ ?_ _ | with_reducible refine Below.step ?_ he4 ?_ | with_reducible refine Below.step ?_ he3 ?_ | with_reducible refine Below.step ?_ he2 ?_ | with_reducible refine Below.step ?_ he1 ?_ | (first | exact Nat.le_refl _ | omega | (simp; done) | (simp; omega) | (unfold World.setCell; simp; done) | (unfold World.setCell; simp; omega))))))
        (first
          | (go_at_call 15; ((with_reducible refine (own_any neg l ao cap _ hm9 (hU.mono ?_)).mono ?_); ((repeat' (first | with_reducible assumption | with_reducible exact Below.refl _ _ | with_reducible refine Below.drew ?_ | with_reducible refine Below.alloc ?_ ?_ _ | with_reducible refine Below.setCell ?_ ?_ _ | with_reducible refine Below.step ?_ he4 ?_ | with_reducible refine Below.step ?_ he3 ?_ | with_reducible refine Below.step ?_ he2 ?_ | with_reducible refine Below.step ?_ he1 ?_ | (first | exact Nat.le_refl _ | omega | (simp; done) | (simp; omega) | (unfold World.setCell; simp; done) | (unfold World.setCell; simp; omega)))))); rintro e t1 ⟨⟨a2, c2, rfl, HU2, hc2⟩, he1⟩; have HT1 : Below wy.heap.size wy t1 := (by (repeat' (first | with_reducible assumption | with_reducible exact Below.refl _ _ | with_reducible refine Below.drew ?_ | with_reducible refine Below.alloc ?_ ?_ _ | with_reducible refine Below.setCell ?_ ?_ _ | with_reducible refine Below.step ?_ he4 ?_ | with_reducible refine Below.step ?_ he3 ?_ | with_reducible refine Below.step ?_ he2 ?_ | with_reducible refine Below.step ?_ he1 ?_ | (first | exact Nat.le_refl _ | omega | (simp; done) | (simp; omega) | (unfold World.setCell; simp; done) | (unfold World.setCell; simp; omega))))); have ht1 := HT1.size)
          | (go_at_call 18; ((with_reducible refine (valid_yes neg l a2 c2 _ hm9 HV HU2.out (hE.mono ?_)).mono ?_); ((repeat' (first | with_reducible assumption | with_reducible exact Below.refl _ _ | with_reducible refine Below.drew ?_ | with_reducible refine Below.alloc ?_ ?_ _ | with_reducible refine Below.setCell ?_ ?_ _ | with_reducible refine Below.step ?_ he4 ?_ | with_reducible refine Below.step ?_ he3 ?_ | with_reducible refine Below.step ?_ he2 ?_ | with_reducible refine Below.step ?_ he1 ?_ | (first | exact Nat.le_refl _ | omega | (simp; done) | (simp; omega) | (unfold World.setCell; simp; done) | (unfold World.setCell; simp; omega)))))); rintro e t2 ⟨rfl, he2⟩; have HT2 : Below wy.heap.size wy t2 := (by (repeat' (first | with_reducible assumption | with_reducible exact Below.refl _ _ | with_reducible refine Below.drew ?_ | with_reducible refine Below.alloc ?_ ?_ _ | with_reducible refine Below.setCell ?_ ?_ _ | with_reducible refine Below.step ?_ he4 ?_ | with_reducible refine Below.step ?_ he3 ?_ | with_reducible refine Below.step ?_ he2 ?_ | with_reducible refine Below.step ?_ he1 ?_ | (first | exact Nat.le_refl _ | omega | (simp; done) | (simp; omega) | (unfold World.setCell; simp; done) | (unfold World.setCell; simp; omega))))); have ht2 := HT2.size)
          | (go_at_call 21; ((with_reducible refine (Sign_any (.agg #[.bool neg, .slice a2 l.length c2]) z _ (IntV.mk' HZ1 HZ2 HZ3 hc2 hz4 HU2.out) (hE.mono ?_)).mono ?_); ((repeat' (first | with_reducible assumption | with_reducible exact Below.refl _ _ | with_reducible refine Below.drew ?_ | with_reducible refine Below.alloc ?_ ?_ _ | with_reducible refine Below.setCell ?_ ?_ _ | with_reducible refine Below.step ?_ he4 ?_ | with_reducible refine Below.step ?_ he3 ?_ | with_reducible refine Below.step ?_ he2 ?_ | with_reducible refine Below.step ?_ he1 ?_ | (first | exact Nat.le_refl _ | omega | (simp; done) | (simp; omega) | (unfold World.setCell; simp; done) | (unfold World.setCell; simp; omega)))))); rintro e t4 ⟨rfl, he4⟩; have HT4 : Below wy.heap.size wy t4 := (by (repeat' (first | with_reducible assumption | with_reducible exact Below.refl _ _ | with_reducible refine Below.drew ?_ | with_reducible refine Below.alloc ?_ ?_ _ | with_reducible refine Below.setCell ?_ ?_ _ | with_reducible refine Below.step ?_ he4 ?_ | with_reducible refine Below.step ?_ he3 ?_ | with_reducible refine Below.step ?_ he2 ?_ | with_reducible refine Below.step ?_ he1 ?_ | (first | exact Nat.le_refl _ | omega | (simp; done) | (simp; omega) | (unfold World.setCell; simp; done) | (unfold World.setCell; simp; omega))))); have ht4 := HT4.size))
      have X1 := X1.mono HT4
      have hbw := Below.step hbw HT4 (Nat.le_refl _)
      have hU := hU.mono HT4
      clear x0 x1
      obtain ⟨x0, x1, _, _⟩ := id X1
      go_wp2_with fail
      (with_reducible refine (rvalid_yes neg l ao cap _ hm9 HV hU).mono ?_)
      rintro e w5 ⟨rfl, hb⟩
      have X1 := X1.mono hb
      have hbw := Below.step hbw hb (Nat.le_refl _)
      clear hb x0 x1
      obtain ⟨x0, x1, _, _⟩ := id X1
      have hss : (sgnI z == sgnI z) = true := by simp
      go_wp2_with fail
      (with_reducible refine (rSign_raw neg l ao cap z _ HZ1 HZ2).mono ?_)
      rintro e w6 ⟨rfl, hb⟩
      have hbw := Below.step hbw hb (Nat.le_refl _)
      clear x0 x1
      go_wp2
      go_ret
      exact ⟨rfl, hbw⟩
    · have HV := Lib.hid hv
      clear hv
      go_region_held3 (fun w' => w'.cell? ⟨w.heap.size, 0, none⟩ = some (.bool neg) ∧ w'.cell? ⟨w.heap.size, 1, none⟩ = some (.slice ao l.length cap))
        ((refine S1 X1 ?_; (repeat' (first | with_reducible assumption | with_reducible exact Below.refl _ _ | with_reducible refine Below.drew ?_ | with_reducible refine Below.alloc ?_ ?_ _ | with_reducible refine Below.setCell ?_ ?_ _ | with_reducible refine Below.step ?_ he4 ?_ | with_reducible refine Below.step ?_ he3 ?_ | with_reducible refine Below.step ?_ he2 ?_ | with_reducible refine Below.step ?_ he1 ?_ | (first | exact Nat.le_refl _ | omega | (simp; done) | (simp; omega) | (unfold World.setCell; simp; done) | (unfold World.setCell; simp; omega))))))
        (first
          | (go_at_call 15; ((with_reducible refine (own_any neg l ao cap _ hm9 (hU.mono ?_)).mono ?_); ((repeat' (first | with_reducible assumption | with_reducible exact Below.refl _ _ | with_reducible refine Below.drew ?_ | with_reducible refine Below.alloc ?_ ?_ _ | with_reducible refine Below.setCell ?_ ?_ _ | with_reducible refine Below.step ?_ he4 ?_ | with_reducible refine Below.step ?_ he3 ?_ | with_reducible refine Below.step ?_ he2 ?_ | with_reducible refine Below.step ?_ he1 ?_ | (first | exact Nat.le_refl _ | omega | (simp; done) | (simp; omega) | (unfold World.setCell; simp; done) | (unfold World.setCell; simp; omega)))))); rintro e t1 ⟨⟨a2, c2, rfl, HU2, hc2⟩, he1⟩; have HT1 : Below wy.heap.size wy t1 := (by (repeat' (first | with_reducible assumption | with_reducible exact Below.refl _ _ | with_reducible refine Below.drew ?_ | with_reducible refine Below.alloc ?_ ?_ _ | with_reducible refine Below.setCell ?_ ?_ _ | with_reducible refine Below.step ?_ he4 ?_ | with_reducible refine Below.step ?_ he3 ?_ | with_reducible refine Below.step ?_ he2 ?_ | with_reducible refine Below.step ?_ he1 ?_ | (first | exact Nat.le_refl _ | omega | (simp; done) | (simp; omega) | (unfold World.setCell; simp; done) | (unfold World.setCell; simp; omega))))); have ht1 := HT1.size)
          | (go_at_call 18; ((with_reducible refine (valid_no neg l a2 c2 _ hm9 HV HU2.out (hE.mono ?_)).mono ?_); ((repeat' (first | with_reducible assumption | with_reducible exact Below.refl _ _ | with_reducible refine Below.drew ?_ | with_reducible refine Below.alloc ?_ ?_ _ | with_reducible refine Below.setCell ?_ ?_ _ | with_reducible refine Below.step ?_ he4 ?_ | with_reducible refine Below.step ?_ he3 ?_ | with_reducible refine Below.step ?_ he2 ?_ | with_reducible refine Below.step ?_ he1 ?_ | (first | exact Nat.le_refl _ | omega | (simp; done) | (simp; omega) | (unfold World.setCell; simp; done) | (unfold World.setCell; simp; omega)))))); rintro e t2 ⟨rfl, he2⟩; have HT2 : Below wy.heap.size wy t2 := (by (repeat' (first | with_reducible assumption | with_reducible exact Below.refl _ _ | with_reducible refine Below.drew ?_ | with_reducible refine Below.alloc ?_ ?_ _ | with_reducible refine Below.setCell ?_ ?_ _ | with_reducible refine Below.step ?_ he4 ?_ | with_reducible refine Below.step ?_ he3 ?_ | with_reducible refine Below.step ?_ he2 ?_ | with_reducible refine Below.step ?_ he1 ?_ | (first | exact Nat.le_refl _ | omega | (simp; done) | (simp; omega) | (unfold World.setCell; simp; done) | (unfold World.setCell; simp; omega))))); have ht2 := HT2.size)
          | (go_at_call 21; ((with_reducible refine (Sign_inv neg l a2 c2 _ HU2.out hm9 HV (hE.mono ?_)).mono ?_); ((repeat' (first | with_reducible assumption | with_reducible exact Below.refl _ _ | with_reducible refine Below.drew ?_ | with_reducible refine Below.alloc ?_ ?_ _ | with_reducible refine Below.setCell ?_ ?_ _ | with_reducible refine Below.step ?_ he4 ?_ | with_reducible refine Below.step ?_ he3 ?_ | with_reducible refine Below.step ?_ he2 ?_ | with_reducible refine Below.step ?_ he1 ?_ | (first | exact Nat.le_refl _ | omega | (simp; done) | (simp; omega) | (unfold World.setCell; simp; done) | (unfold World.setCell; simp; omega)))))); rintro e t4 ⟨rfl, he4⟩; have HT4 : Below wy.heap.size wy t4 := (by (repeat' (first | with_reducible assumption | with_reducible exact Below.refl _ _ | with_reducible refine Below.drew ?_ | with_reducible refine Below.alloc ?_ ?_ _ | with_reducible refine Below.setCell ?_ ?_ _ | with_reducible refine Below.step ?_ he4 ?_ | with_reducible refine Below.step ?_ he3 ?_ | with_reducible refine Below.step ?_ he2 ?_ | with_reducible refine Below.step ?_ he1 ?_ | (first | exact Nat.le_refl _ | omega | (simp; done) | (simp; omega) | (unfold World.setCell; simp; done) | (unfold World.setCell; simp; omega))))); have ht4 := HT4.size))
      have X1 := X1.mono HT4
      have hbw := Below.step hbw HT4 (Nat.le_refl _)
      have hU := hU.mono HT4
      have hE := hE.mono HT4
      clear x0 x1 HU2 he1 he2 he4 HT1 HT2 ht1 ht2 ht4 HT4
      obtain ⟨x0, x1, _, _⟩ := id X1
      go_wp2_with fail
      (with_reducible refine (rvalid_no neg l ao cap _ hm9 HV hU).mono ?_)
      rintro e w5 ⟨rfl, hb⟩
      have X1 := X1.mono hb
      have hbw := Below.step hbw hb (Nat.le_refl _)
      have hU := hU.mono hb
      have hE := hE.mono hb
      clear hb x0 x1
      go_upto_region 5 with fail
      obtain ⟨wy, rfl⟩ : ∃ wy : World, wy = w5 := ⟨_, rfl⟩
      go_region_held3 (fun w' => w'.cell? ⟨w.heap.size, 0, none⟩ = some (.bool neg) ∧ w'.cell? ⟨w.heap.size, 1, none⟩ = some (.slice ao l.length cap))
        ((refine S1 X1 ?_; (repeat' (first | with_reducible assumption | with_reducible exact Below.refl _ _ | with_reducible refine Below.drew ?_ | with_reducible refine Below.alloc ?_ ?_ _ | with_reducible refine Below.setCell ?_ ?_ _ | with_reducible refine Below.step ?_ he4 ?_ | with_reducible refine Below.step ?_ he3 ?_ | with_reducible refine Below.step ?_ he2 ?_ | with_reducible refine Below.step ?_ he1 ?_ | (first | exact Nat.le_refl _ | omega | (simp; done) | (simp; omega) | (unfold World.setCell; simp; done) | (unfold World.setCell; simp; omega))))))
        (first
          | (go_at_call 15; ((with_reducible refine (own_any neg l ao cap _ hm9 (hU.mono ?_)).mono ?_); ((repeat' (first | with_reducible assumption | with_reducible exact Below.refl _ _ | with_reducible refine Below.drew ?_ | with_reducible refine Below.alloc ?_ ?_ _ | with_reducible refine Below.setCell ?_ ?_ _ | with_reducible refine Below.step ?_ he4 ?_ | with_reducible refine Below.step ?_ he3 ?_ | with_reducible refine Below.step ?_ he2 ?_ | with_reducible refine Below.step ?_ he1 ?_ | (first | exact Nat.le_refl _ | omega | (simp; done) | (simp; omega) | (unfold World.setCell; simp; done) | (unfold World.setCell; simp; omega)))))); rintro e t1 ⟨⟨a2, c2, rfl, HU2, hc2⟩, he1⟩; have HT1 : Below wy.heap.size wy t1 := (by (repeat' (first | with_reducible assumption | with_reducible exact Below.refl _ _ | with_reducible refine Below.drew ?_ | with_reducible refine Below.alloc ?_ ?_ _ | with_reducible refine Below.setCell ?_ ?_ _ | with_reducible refine Below.step ?_ he4 ?_ | with_reducible refine Below.step ?_ he3 ?_ | with_reducible refine Below.step ?_ he2 ?_ | with_reducible refine Below.step ?_ he1 ?_ | (first | exact Nat.le_refl _ | omega | (simp; done) | (simp; omega) | (unfold World.setCell; simp; done) | (unfold World.setCell; simp; omega))))); have ht1 := HT1.size)
          | (go_at_call 26; ((with_reducible refine (of_any 3 (by decide) (by decide) _ (hE.mono ?_)).mono ?_); ((repeat' (first | with_reducible assumption | with_reducible exact Below.refl _ _ | with_reducible refine Below.drew ?_ | with_reducible refine Below.alloc ?_ ?_ _ | with_reducible refine Below.setCell ?_ ?_ _ | with_reducible refine Below.step ?_ he4 ?_ | with_reducible refine Below.step ?_ he3 ?_ | with_reducible refine Below.step ?_ he2 ?_ | with_reducible refine Below.step ?_ he1 ?_ | (first | exact Nat.le_refl _ | omega | (simp; done) | (simp; omega) | (unfold World.setCell; simp; done) | (unfold World.setCell; simp; omega)))))); rintro e t2 ⟨⟨ng, a3, n3, c3, rfl, HV3⟩, he2⟩; have HT2 : Below wy.heap.size wy t2 := (by (repeat' (first | with_reducible assumption | with_reducible exact Below.refl _ _ | with_reducible refine Below.drew ?_ | with_reducible refine Below.alloc ?_ ?_ _ | with_reducible refine Below.setCell ?_ ?_ _ | with_reducible refine Below.step ?_ he4 ?_ | with_reducible refine Below.step ?_ he3 ?_ | with_reducible refine Below.step ?_ he2 ?_ | with_reducible refine Below.step ?_ he1 ?_ | (first | exact Nat.le_refl _ | omega | (simp; done) | (simp; omega) | (unfold World.setCell; simp; done) | (unfold World.setCell; simp; omega))))); have ht2 := HT2.size)
          | (go_at_call 25; ((with_reducible refine (Cmp_invl neg l a2 c2 _ 3 _ (HU2.out.mono ?_) hm9 HV (HV3.out.mono ?_) (hE.mono ?_)).mono ?_); ((repeat' (first | with_reducible assumption | with_reducible exact Below.refl _ _ | with_reducible refine Below.drew ?_ | with_reducible refine Below.alloc ?_ ?_ _ | with_reducible refine Below.setCell ?_ ?_ _ | with_reducible refine Below.step ?_ he4 ?_ | with_reducible refine Below.step ?_ he3 ?_ | with_reducible refine Below.step ?_ he2 ?_ | with_reducible refine Below.step ?_ he1 ?_ | (first | exact Nat.le_refl _ | omega | (simp; done) | (simp; omega) | (unfold World.setCell; simp; done) | (unfold World.setCell; simp; omega))))); ((repeat' (first | with_reducible assumption | with_reducible exact Below.refl _ _ | with_reducible refine Below.drew ?_ | with_reducible refine Below.alloc ?_ ?_ _ | with_reducible refine Below.setCell ?_ ?_ _ | with_reducible refine Below.step ?_ he4 ?_ | with_reducible refine Below.step ?_ he3 ?_ | with_reducible refine Below.step ?_ he2 ?_ | with_reducible refine Below.step ?_ he1 ?_ | (first | exact Nat.le_refl _ | omega | (simp; done) | (simp; omega) | (unfold World.setCell; simp; done) | (unfold World.setCell; simp; omega))))); ((repeat' (first | with_reducible assumption | with_reducible exact Below.refl _ _ | with_reducible refine Below.drew ?_ | with_reducible refine Below.alloc ?_ ?_ _ | with_reducible refine Below.setCell ?_ ?_ _ | with_reducible refine Below.step ?_ he4 ?_ | with_reducible refine Below.step ?_ he3 ?_ | with_reducible refine Below.step ?_ he2 ?_ | with_reducible refine Below.step ?_ he1 ?_ | (first | exact Nat.le_refl _ | omega | (simp; done) | (simp; omega) | (unfold World.setCell; simp; done) | (unfold World.setCell; simp; omega)))))); rintro e t4 ⟨rfl, he4⟩; have HT4 : Below wy.heap.size wy t4 := (by (repeat' (first | with_reducible assumption | with_reducible exact Below.refl _ _ | with_reducible refine Below.drew ?_ | with_reducible refine Below.alloc ?_ ?_ _ | with_reducible refine Below.setCell ?_ ?_ _ | with_reducible refine Below.step ?_ he4 ?_ | with_reducible refine Below.step ?_ he3 ?_ | with_reducible refine Below.step ?_ he2 ?_ | with_reducible refine Below.step ?_ he1 ?_ | (first | exact Nat.le_refl _ | omega | (simp; done) | (simp; omega) | (unfold World.setCell; simp; done) | (unfold World.setCell; simp; omega))))); have ht4 := HT4.size)
          | (go_at_call 25; ((with_reducible refine (Cmp_invr neg l a2 c2 _ 3 _ (HU2.out.mono ?_) hm9 HV (HV3.out.mono ?_) (hE.mono ?_)).mono ?_); ((repeat' (first | with_reducible assumption | with_reducible exact Below.refl _ _ | with_reducible refine Below.drew ?_ | with_reducible refine Below.alloc ?_ ?_ _ | with_reducible refine Below.setCell ?_ ?_ _ | with_reducible refine Below.step ?_ he4 ?_ | with_reducible refine Below.step ?_ he3 ?_ | with_reducible refine Below.step ?_ he2 ?_ | with_reducible refine Below.step ?_ he1 ?_ | (first | exact Nat.le_refl _ | omega | (simp; done) | (simp; omega) | (unfold World.setCell; simp; done) | (unfold World.setCell; simp; omega))))); ((repeat' (first | with_reducible assumption | with_reducible exact Below.refl _ _ | with_reducible refine Below.drew ?_ | with_reducible refine Below.alloc ?_ ?_ _ | with_reducible refine Below.setCell ?_ ?_ _ | with_reducible refine Below.step ?_ he4 ?_ | with_reducible refine Below.step ?_ he3 ?_ | with_reducible refine Below.step ?_ he2 ?_ | with_reducible refine Below.step ?_ he1 ?_ | (first | exact Nat.le_refl _ | omega | (simp; done) | (simp; omega) | (unfold World.setCell; simp; done) | (unfold World.setCell; simp; omega))))); ((repeat' (first | with_reducible assumption | with_reducible exact Below.refl _ _ | with_reducible refine Below.drew ?_ | with_reducible refine Below.alloc ?_ ?_ _ | with_reducible refine Below.setCell ?_ ?_ _ | with_reducible refine Below.step ?_ he4 ?_ | with_reducible refine Below.step ?_ he3 ?_ | with_reducible refine Below.step ?_ he2 ?_ | with_reducible refine Below.step ?_ he1 ?_ | (first | exact Nat.le_refl _ | omega | (simp; done) | (simp; omega) | (unfold World.setCell; simp; done) | (unfold World.setCell; simp; omega)))))); rintro e t3 ⟨rfl, he3⟩; have HT3 : Below wy.heap.size wy t3 := (by (repeat' (first | with_reducible assumption | with_reducible exact Below.refl _ _ | with_reducible refine Below.drew ?_ | with_reducible refine Below.alloc ?_ ?_ _ | with_reducible refine Below.setCell ?_ ?_ _ | with_reducible refine Below.step ?_ he4 ?_ | with_reducible refine Below.step ?_ he3 ?_ | with_reducible refine Below.step ?_ he2 ?_ | with_reducible refine Below.step ?_ he1 ?_ | (first | exact Nat.le_refl _ | omega | (simp; done) | (simp; omega) | (unfold World.setCell; simp; done) | (unfold World.setCell; simp; omega))))); have ht3 := HT3.size))
      go_wp2
      go_ret
      exact ⟨rfl, Below.step hbw HT3 (Nat.le_refl _)⟩
  · have h60b : decide ((l.length : Int) ≤ 60) = false := by simpa using h60
    go_wp2_with fail
    (with_reducible refine (awake_any _ hE).mono ?_)
    rintro e wz ⟨rfl, hb⟩
    have hbw := Below.step hbw hb (Nat.le_refl _)
    clear x0 x1
    go_wp2
    go_ret
    exact ⟨rfl, hbw⟩

end Go.Proofs.YtijjagofingpdaaDoor
