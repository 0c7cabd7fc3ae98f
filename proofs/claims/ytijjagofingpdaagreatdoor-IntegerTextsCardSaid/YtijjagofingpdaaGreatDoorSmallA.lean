import Derived.Test.YtijjagofingpdaaGreatDoorDoor3
namespace Bi
theorem drop_val {L : List Nat} {i x J : Nat} (hi : i < L.length) (hx : L.getD i 0 = x) (hJ : J = i + 1) {I : Nat} (hI : I = i) : val (L.drop I) = val (L.drop J) * 1000000000 + x := by
  subst hJ hI
  rw [List.drop_eq_getElem_cons hi]
  rw [List.getD_eq_getElem?_getD, List.getElem?_eq_getElem hi] at hx
  simp only [Option.getD_some] at hx
  rw [hx]
  simp [val]; omega

theorem drop_le (L : List Nat) (i : Nat) : val (L.drop i) ≤ val L := by
  induction i generalizing L with
  | zero => simp
  | succ i ih =>
    cases L with
    | nil => simp
    | cons x r =>
      have := ih r
      simp only [List.drop_succ_cons, val]
      omega
end Bi
namespace Go.Proofs.YtijjagofingpdaaGreatDoor
open Go.RowKit

/-- what 'Small' answers: the value, or 'out of range' -/
def SmallP (x : Int) (e : Ending) : Prop :=
  ∃ v k : Int, e = .returned (.tuple #[.int .i64 v, .int .i64 k]) ∧ Hid ((-9223372036854775808 ≤ x ∧ x ≤ 9223372036854775807 ∧ v = x ∧ k = 0) ∨ (¬ (-9223372036854775808 ≤ x ∧ x ≤ 9223372036854775807) ∧ v = 0 ∧ k = 7))

theorem neg_back (k : Nat) (h1 : 1 ≤ k) (h2 : k ≤ 9223372036854775808) : ∃ m : Nat, m ≤ 18446744073709551615 ∧ IntKind.u64.wrap (-(k : Int)) = (m : Int) ∧ IntKind.i64.wrap (m : Int) = -(k : Int) := by
  refine ⟨18446744073709551616 - k, by omega, ?_, ?_⟩ <;> (simp only [IntKind.wrap, IntKind.bits, IntKind.signed]; simp; omega)

set_option maxRecDepth 100000 in
set_option maxHeartbeats 1600000 in
theorem Small_any (a : Value) (x : Int) (w : World) (hlow : Hid (-9223372036854775808 ≤ x)) (ha : IntV w a x) (hE : Env w) :
    Calls Tryz.prog 10 #[a] w fun e w' => SmallP x e ∧ Below w.heap.size w w' := by
  obtain ⟨n1, ao1, L1, c1, rfl, Hn1, HL1, HB1, hc1, hl1, hU1⟩ := id ha
  obtain ⟨mn, hmn⟩ : ∃ mn : Int, mn = -9223372036854775808 := ⟨_, rfl⟩
  obtain ⟨mx, hmx⟩ : ∃ mx : Int, mx = 9223372036854775807 := ⟨_, rfl⟩
  have HMN := Lib.hid hmn
  have HMX := Lib.hid hmx
  clear hmn hmx
  go_enter Tryz.func10, Tryz.ntmps10
  go_wp2_with fail
  have hbx := below_alloc w (.cells #[.bool n1, .slice ao1 L1.length c1] 25)
  have B1 := Box.new w (.bool n1) (.slice ao1 L1.length c1) 25
  have hsz : (w.alloc (.cells #[.bool n1, .slice ao1 L1.length c1] 25)).heap.size = w.heap.size + 1 := by simp
  have hUx := hU1.mono hbx
  have hVx := ha.mono hbx
  have hEx := hE.mono hbx
  clear hU1 hE ha
  generalize w.alloc (.cells #[.bool n1, .slice ao1 L1.length c1] 25) = wx at *
  (with_reducible refine (check1 wx _ hsz n1 ao1 L1 c1 hUx ?_ hEx).mono ?_)
  · omega
  rintro e w1 ⟨⟨r, HR, HR2, rfl⟩, hb1⟩
  obtain rfl : r = 0 := HR.out.2 (validP_of x n1 L1 Hn1.out HL1.out HB1.out)
  clear HR HR2 hsz
  have B1 := B1.mono hb1
  have hU1 := hUx.mono hb1
  have hV1 := hVx.mono hb1
  have hE1 := hEx.mono hb1
  have hbw := Below.step hbx hb1 (Nat.le_refl _)
  clear hUx hVx hEx
  go_upto_region 4 with fail
  obtain ⟨wy, rfl⟩ : ∃ wy : World, wy = w1 := ⟨_, rfl⟩
  have hlo : ¬ x < mn := by have := hlow.out; have := HMN.out; omega
  · have hc : cmpZ x mn = 0 ∨ cmpZ x mn = 1 := by
      unfold cmpZ
      rw [if_neg hlo]
      by_cases h : mn < x
      · rw [if_pos h]; exact .inr rfl
      · rw [if_neg h]; exact .inl rfl
    have HLO := Lib.hid hlo
    clear hlo
    by_cases hhi : mx < x
    · have HC2 : Hid (cmpZ x mx = 1) := Lib.hid (by unfold cmpZ; rw [if_neg (by omega), if_pos hhi])
      have HHI := Lib.hid hhi
      clear hhi
      rcases hc with hc | hc
      all_goals
        have HC1 := Lib.hid hc
        clear hc
        go_region_held3 (fun w' => w'.cell? ⟨w.heap.size, 0, none⟩ = some (.bool n1) ∧ w'.cell? ⟨w.heap.size, 1, none⟩ = some (.slice ao1 L1.length c1))
          ((refine S1 B1 ?_; (repeat' (first | with_reducible assumption | with_reducible exact Below.refl _ _ | with_reducible refine Below.drew ?_ | with_reducible refine Below.alloc ?_ ?_ _ | with_reducible refine Below.setCell ?_ ?_ _ | with_reducible refine Below.step ?_ he4 ?_ | with_reducible refine Below.step ?_ he3 ?_ | with_reducible refine Below.step ?_ he2 ?_ | with_reducible refine Below.step ?_ he1 ?_ | (first | exact Nat.le_refl _ | omega | (simp; done) | (simp; omega) | (unfold World.setCell; simp; done) | (unfold World.setCell; simp; omega))))))
          (first
            | (go_at_call 22; ((with_reducible refine (of_any (-9223372036854775808) (by decide) (by decide) _ (hE1.mono ?_)).mono ?_); ((repeat' (first | with_reducible assumption | with_reducible exact Below.refl _ _ | with_reducible refine Below.drew ?_ | with_reducible refine Below.alloc ?_ ?_ _ | with_reducible refine Below.setCell ?_ ?_ _ | with_reducible refine Below.step ?_ he4 ?_ | with_reducible refine Below.step ?_ he3 ?_ | with_reducible refine Below.step ?_ he2 ?_ | with_reducible refine Below.step ?_ he1 ?_ | (first | exact Nat.le_refl _ | omega | (simp; done) | (simp; omega) | (unfold World.setCell; simp; done) | (unfold World.setCell; simp; omega)))))); rintro e t1 ⟨⟨ngA, aoA, nA, cA, rfl, HVA⟩, he1⟩; rw [← HMN.out] at HVA; have HT1 : Below wy.heap.size wy t1 := (by (repeat' (first | with_reducible assumption | with_reducible exact Below.refl _ _ | with_reducible refine Below.drew ?_ | with_reducible refine Below.alloc ?_ ?_ _ | with_reducible refine Below.setCell ?_ ?_ _ | with_reducible refine Below.step ?_ he4 ?_ | with_reducible refine Below.step ?_ he3 ?_ | with_reducible refine Below.step ?_ he2 ?_ | with_reducible refine Below.step ?_ he1 ?_ | (first | exact Nat.le_refl _ | omega | (simp; done) | (simp; omega) | (unfold World.setCell; simp; done) | (unfold World.setCell; simp; omega))))); have ht1 := HT1.size)
            | (go_at_call 34; ((with_reducible refine (Cmp_eq (.agg #[.bool n1, .slice ao1 L1.length c1]) (.agg #[.bool ngA, .slice aoA nA cA]) x mn _ _ HC1 (hV1.mono ?_) (HVA.out.mono ?_) (hE1.mono ?_)).mono ?_); ((repeat' (first | with_reducible assumption | with_reducible exact Below.refl _ _ | with_reducible refine Below.drew ?_ | with_reducible refine Below.alloc ?_ ?_ _ | with_reducible refine Below.setCell ?_ ?_ _ | with_reducible refine Below.step ?_ he4 ?_ | with_reducible refine Below.step ?_ he3 ?_ | with_reducible refine Below.step ?_ he2 ?_ | with_reducible refine Below.step ?_ he1 ?_ | (first | exact Nat.le_refl _ | omega | (simp; done) | (simp; omega) | (unfold World.setCell; simp; done) | (unfold World.setCell; simp; omega))))); ((repeat' (first | with_reducible assumption | with_reducible exact Below.refl _ _ | with_reducible refine Below.drew ?_ | with_reducible refine Below.alloc ?_ ?_ _ | with_reducible refine Below.setCell ?_ ?_ _ | with_reducible refine Below.step ?_ he4 ?_ | with_reducible refine Below.step ?_ he3 ?_ | with_reducible refine Below.step ?_ he2 ?_ | with_reducible refine Below.step ?_ he1 ?_ | (first | exact Nat.le_refl _ | omega | (simp; done) | (simp; omega) | (unfold World.setCell; simp; done) | (unfold World.setCell; simp; omega))))); ((repeat' (first | with_reducible assumption | with_reducible exact Below.refl _ _ | with_reducible refine Below.drew ?_ | with_reducible refine Below.alloc ?_ ?_ _ | with_reducible refine Below.setCell ?_ ?_ _ | with_reducible refine Below.step ?_ he4 ?_ | with_reducible refine Below.step ?_ he3 ?_ | with_reducible refine Below.step ?_ he2 ?_ | with_reducible refine Below.step ?_ he1 ?_ | (first | exact Nat.le_refl _ | omega | (simp; done) | (simp; omega) | (unfold World.setCell; simp; done) | (unfold World.setCell; simp; omega)))))); rintro e t2 ⟨rfl, he2⟩; have HT2 : Below wy.heap.size wy t2 := (by (repeat' (first | with_reducible assumption | with_reducible exact Below.refl _ _ | with_reducible refine Below.drew ?_ | with_reducible refine Below.alloc ?_ ?_ _ | with_reducible refine Below.setCell ?_ ?_ _ | with_reducible refine Below.step ?_ he4 ?_ | with_reducible refine Below.step ?_ he3 ?_ | with_reducible refine Below.step ?_ he2 ?_ | with_reducible refine Below.step ?_ he1 ?_ | (first | exact Nat.le_refl _ | omega | (simp; done) | (simp; omega) | (unfold World.setCell; simp; done) | (unfold World.setCell; simp; omega))))); have ht2 := HT2.size)
            | (go_at_call 22; ((with_reducible refine (of_any 9223372036854775807 (by decide) (by decide) _ (hE1.mono ?_)).mono ?_); ((repeat' (first | with_reducible assumption | with_reducible exact Below.refl _ _ | with_reducible refine Below.drew ?_ | with_reducible refine Below.alloc ?_ ?_ _ | with_reducible refine Below.setCell ?_ ?_ _ | with_reducible refine Below.step ?_ he4 ?_ | with_reducible refine Below.step ?_ he3 ?_ | with_reducible refine Below.step ?_ he2 ?_ | with_reducible refine Below.step ?_ he1 ?_ | (first | exact Nat.le_refl _ | omega | (simp; done) | (simp; omega) | (unfold World.setCell; simp; done) | (unfold World.setCell; simp; omega)))))); rintro e t3 ⟨⟨ngB, aoB, nB, cB, rfl, HVB⟩, he3⟩; rw [← HMX.out] at HVB; have HT3 : Below wy.heap.size wy t3 := (by (repeat' (first | with_reducible assumption | with_reducible exact Below.refl _ _ | with_reducible refine Below.drew ?_ | with_reducible refine Below.alloc ?_ ?_ _ | with_reducible refine Below.setCell ?_ ?_ _ | with_reducible refine Below.step ?_ he4 ?_ | with_reducible refine Below.step ?_ he3 ?_ | with_reducible refine Below.step ?_ he2 ?_ | with_reducible refine Below.step ?_ he1 ?_ | (first | exact Nat.le_refl _ | omega | (simp; done) | (simp; omega) | (unfold World.setCell; simp; done) | (unfold World.setCell; simp; omega))))); have ht3 := HT3.size)
            | (go_at_call 34; ((with_reducible refine (Cmp_eq (.agg #[.bool n1, .slice ao1 L1.length c1]) (.agg #[.bool ngB, .slice aoB nB cB]) x mx _ _ HC2 (hV1.mono ?_) (HVB.out.mono ?_) (hE1.mono ?_)).mono ?_); ((repeat' (first | with_reducible assumption | with_reducible exact Below.refl _ _ | with_reducible refine Below.drew ?_ | with_reducible refine Below.alloc ?_ ?_ _ | with_reducible refine Below.setCell ?_ ?_ _ | with_reducible refine Below.step ?_ he4 ?_ | with_reducible refine Below.step ?_ he3 ?_ | with_reducible refine Below.step ?_ he2 ?_ | with_reducible refine Below.step ?_ he1 ?_ | (first | exact Nat.le_refl _ | omega | (simp; done) | (simp; omega) | (unfold World.setCell; simp; done) | (unfold World.setCell; simp; omega))))); ((repeat' (first | with_reducible assumption | with_reducible exact Below.refl _ _ | with_reducible refine Below.drew ?_ | with_reducible refine Below.alloc ?_ ?_ _ | with_reducible refine Below.setCell ?_ ?_ _ | with_reducible refine Below.step ?_ he4 ?_ | with_reducible refine Below.step ?_ he3 ?_ | with_reducible refine Below.step ?_ he2 ?_ | with_reducible refine Below.step ?_ he1 ?_ | (first | exact Nat.le_refl _ | omega | (simp; done) | (simp; omega) | (unfold World.setCell; simp; done) | (unfold World.setCell; simp; omega))))); ((repeat' (first | with_reducible assumption | with_reducible exact Below.refl _ _ | with_reducible refine Below.drew ?_ | with_reducible refine Below.alloc ?_ ?_ _ | with_reducible refine Below.setCell ?_ ?_ _ | with_reducible refine Below.step ?_ he4 ?_ | with_reducible refine Below.step ?_ he3 ?_ | with_reducible refine Below.step ?_ he2 ?_ | with_reducible refine Below.step ?_ he1 ?_ | (first | exact Nat.le_refl _ | omega | (simp; done) | (simp; omega) | (unfold World.setCell; simp; done) | (unfold World.setCell; simp; omega)))))); rintro e t4 ⟨rfl, he4⟩; have HT4 : Below wy.heap.size wy t4 := (by (repeat' (first | with_reducible assumption | with_reducible exact Below.refl _ _ | with_reducible refine Below.drew ?_ | with_reducible refine Below.alloc ?_ ?_ _ | with_reducible refine Below.setCell ?_ ?_ _ | with_reducible refine Below.step ?_ he4 ?_ | with_reducible refine Below.step ?_ he3 ?_ | with_reducible refine Below.step ?_ he2 ?_ | with_reducible refine Below.step ?_ he1 ?_ | (first | exact Nat.le_refl _ | omega | (simp; done) | (simp; omega) | (unfold World.setCell; simp; done) | (unfold World.setCell; simp; omega))))); have ht4 := HT4.size))
        go_wp2
        go_ret2
        exact ⟨⟨0, 7, rfl, Lib.hid (.inr ⟨by have := HHI.out; have := HMX.out; omega, rfl, rfl⟩)⟩, Below.step hbw HT4 (Nat.le_refl _)⟩
    · have hd : cmpZ x mx = 0 ∨ cmpZ x mx = -1 := by
        unfold cmpZ
        by_cases h : x < mx
        · rw [if_pos h]; exact .inr rfl
        · rw [if_neg h, if_neg hhi]; exact .inl rfl
      have HHI := Lib.hid hhi
      clear hhi
      rcases hc with hc | hc <;> rcases hd with hd | hd
      all_goals
          have HC1 := Lib.hid hc
          have HC2 := Lib.hid hd
          clear hc hd
          go_region_held3 (fun w' => w'.cell? ⟨w.heap.size, 0, none⟩ = some (.bool n1) ∧ w'.cell? ⟨w.heap.size, 1, none⟩ = some (.slice ao1 L1.length c1))
            ((refine S1 B1 ?_; (repeat' (first | with_reducible assumption | with_reducible exact Below.refl _ _ | with_reducible refine Below.drew ?_ | with_reducible refine Below.alloc ?_ ?_ _ | with_reducible refine Below.setCell ?_ ?_ _ | with_reducible refine Below.step ?_ he4 ?_ | with_reducible refine Below.step ?_ he3 ?_ | with_reducible refine Below.step ?_ he2 ?_ | with_reducible refine Below.step ?_ he1 ?_ | (first | exact Nat.le_refl _ | omega | (simp; done) | (simp; omega) | (unfold World.setCell; simp; done) | (unfold World.setCell; simp; omega))))))
            (first
              | (go_at_call 22; ((with_reducible refine (of_any (-9223372036854775808) (by decide) (by decide) _ (hE1.mono ?_)).mono ?_); ((repeat' (first | with_reducible assumption | with_reducible exact Below.refl _ _ | with_reducible refine Below.drew ?_ | with_reducible refine Below.alloc ?_ ?_ _ | with_reducible refine Below.setCell ?_ ?_ _ | with_reducible refine Below.step ?_ he4 ?_ | with_reducible refine Below.step ?_ he3 ?_ | with_reducible refine Below.step ?_ he2 ?_ | with_reducible refine Below.step ?_ he1 ?_ | (first | exact Nat.le_refl _ | omega | (simp; done) | (simp; omega) | (unfold World.setCell; simp; done) | (unfold World.setCell; simp; omega)))))); rintro e t1 ⟨⟨ngA, aoA, nA, cA, rfl, HVA⟩, he1⟩; rw [← HMN.out] at HVA; have HT1 : Below wy.heap.size wy t1 := (by (repeat' (first | with_reducible assumption | with_reducible exact Below.refl _ _ | with_reducible refine Below.drew ?_ | with_reducible refine Below.alloc ?_ ?_ _ | with_reducible refine Below.setCell ?_ ?_ _ | with_reducible refine Below.step ?_ he4 ?_ | with_reducible refine Below.step ?_ he3 ?_ | with_reducible refine Below.step ?_ he2 ?_ | with_reducible refine Below.step ?_ he1 ?_ | (first | exact Nat.le_refl _ | omega | (simp; done) | (simp; omega) | (unfold World.setCell; simp; done) | (unfold World.setCell; simp; omega))))); have ht1 := HT1.size)
              | (go_at_call 34; ((with_reducible refine (Cmp_eq (.agg #[.bool n1, .slice ao1 L1.length c1]) (.agg #[.bool ngA, .slice aoA nA cA]) x mn _ _ HC1 (hV1.mono ?_) (HVA.out.mono ?_) (hE1.mono ?_)).mono ?_); ((repeat' (first | with_reducible assumption | with_reducible exact Below.refl _ _ | with_reducible refine Below.drew ?_ | with_reducible refine Below.alloc ?_ ?_ _ | with_reducible refine Below.setCell ?_ ?_ _ | with_reducible refine Below.step ?_ he4 ?_ | with_reducible refine Below.step ?_ he3 ?_ | with_reducible refine Below.step ?_ he2 ?_ | with_reducible refine Below.step ?_ he1 ?_ | (first | exact Nat.le_refl _ | omega | (simp; done) | (simp; omega) | (unfold World.setCell; simp; done) | (unfold World.setCell; simp; omega))))); ((repeat' (first | with_reducible assumption | with_reducible exact Below.refl _ _ | with_reducible refine Below.drew ?_ | with_reducible refine Below.alloc ?_ ?_ _ | with_reducible refine Below.setCell ?_ ?_ _ | with_reducible refine Below.step ?_ he4 ?_ | with_reducible refine Below.step ?_ he3 ?_ | with_reducible refine Below.step ?_ he2 ?_ | with_reducible refine Below.step ?_ he1 ?_ | (first | exact Nat.le_refl _ | omega | (simp; done) | (simp; omega) | (unfold World.setCell; simp; done) | (unfold World.setCell; simp; omega))))); ((repeat' (first | with_reducible assumption | with_reducible exact Below.refl _ _ | with_reducible refine Below.drew ?_ | with_reducible refine Below.alloc ?_ ?_ _ | with_reducible refine Below.setCell ?_ ?_ _ | with_reducible refine Below.step ?_ he4 ?_ | with_reducible refine Below.step ?_ he3 ?_ | with_reducible refine Below.step ?_ he2 ?_ | with_reducible refine Below.step ?_ he1 ?_ | (first | exact Nat.le_refl _ | omega | (simp; done) | (simp; omega) | (unfold World.setCell; simp; done) | (unfold World.setCell; simp; omega)))))); rintro e t2 ⟨rfl, he2⟩; have HT2 : Below wy.heap.size wy t2 := (by (repeat' (first | with_reducible assumption | with_reducible exact Below.refl _ _ | with_reducible refine Below.drew ?_ | with_reducible refine Below.alloc ?_ ?_ _ | with_reducible refine Below.setCell ?_ ?_ _ | with_reducible refine Below.step ?_ he4 ?_ | with_reducible refine Below.step ?_ he3 ?_ | with_reducible refine Below.step ?_ he2 ?_ | with_reducible refine Below.step ?_ he1 ?_ | (first | exact Nat.le_refl _ | omega | (simp; done) | (simp; omega) | (unfold World.setCell; simp; done) | (unfold World.setCell; simp; omega))))); have ht2 := HT2.size)
              | (go_at_call 22; ((with_reducible refine (of_any 9223372036854775807 (by decide) (by decide) _ (hE1.mono ?_)).mono ?_); ((repeat' (first | with_reducible assumption | with_reducible exact Below.refl _ _ | with_reducible refine Below.drew ?_ | with_reducible refine Below.alloc ?_ ?_ _ | with_reducible refine Below.setCell ?_ ?_ _ | with_reducible refine Below.step ?_ he4 ?_ | with_reducible refine Below.step ?_ he3 ?_ | with_reducible refine Below.step ?_ he2 ?_ | with_reducible refine Below.step ?_ he1 ?_ | (first | exact Nat.le_refl _ | omega | (simp; done) | (simp; omega) | (unfold World.setCell; simp; done) | (unfold World.setCell; simp; omega)))))); rintro e t3 ⟨⟨ngB, aoB, nB, cB, rfl, HVB⟩, he3⟩; rw [← HMX.out] at HVB; have HT3 : Below wy.heap.size wy t3 := (by (repeat' (first | with_reducible assumption | with_reducible exact Below.refl _ _ | with_reducible refine Below.drew ?_ | with_reducible refine Below.alloc ?_ ?_ _ | with_reducible refine Below.setCell ?_ ?_ _ | with_reducible refine Below.step ?_ he4 ?_ | with_reducible refine Below.step ?_ he3 ?_ | with_reducible refine Below.step ?_ he2 ?_ | with_reducible refine Below.step ?_ he1 ?_ | (first | exact Nat.le_refl _ | omega | (simp; done) | (simp; omega) | (unfold World.setCell; simp; done) | (unfold World.setCell; simp; omega))))); have ht3 := HT3.size)
              | (go_at_call 34; ((with_reducible refine (Cmp_eq (.agg #[.bool n1, .slice ao1 L1.length c1]) (.agg #[.bool ngB, .slice aoB nB cB]) x mx _ _ HC2 (hV1.mono ?_) (HVB.out.mono ?_) (hE1.mono ?_)).mono ?_); ((repeat' (first | with_reducible assumption | with_reducible exact Below.refl _ _ | with_reducible refine Below.drew ?_ | with_reducible refine Below.alloc ?_ ?_ _ | with_reducible refine Below.setCell ?_ ?_ _ | with_reducible refine Below.step ?_ he4 ?_ | with_reducible refine Below.step ?_ he3 ?_ | with_reducible refine Below.step ?_ he2 ?_ | with_reducible refine Below.step ?_ he1 ?_ | (first | exact Nat.le_refl _ | omega | (simp; done) | (simp; omega) | (unfold World.setCell; simp; done) | (unfold World.setCell; simp; omega))))); ((repeat' (first | with_reducible assumption | with_reducible exact Below.refl _ _ | with_reducible refine Below.drew ?_ | with_reducible refine Below.alloc ?_ ?_ _ | with_reducible refine Below.setCell ?_ ?_ _ | with_reducible refine Below.step ?_ he4 ?_ | with_reducible refine Below.step ?_ he3 ?_ | with_reducible refine Below.step ?_ he2 ?_ | with_reducible refine Below.step ?_ he1 ?_ | (first | exact Nat.le_refl _ | omega | (simp; done) | (simp; omega) | (unfold World.setCell; simp; done) | (unfold World.setCell; simp; omega))))); ((repeat' (first | with_reducible assumption | with_reducible exact Below.refl _ _ | with_reducible refine Below.drew ?_ | with_reducible refine Below.alloc ?_ ?_ _ | with_reducible refine Below.setCell ?_ ?_ _ | with_reducible refine Below.step ?_ he4 ?_ | with_reducible refine Below.step ?_ he3 ?_ | with_reducible refine Below.step ?_ he2 ?_ | with_reducible refine Below.step ?_ he1 ?_ | (first | exact Nat.le_refl _ | omega | (simp; done) | (simp; omega) | (unfold World.setCell; simp; done) | (unfold World.setCell; simp; omega)))))); rintro e t4 ⟨rfl, he4⟩; have HT4 : Below wy.heap.size wy t4 := (by (repeat' (first | with_reducible assumption | with_reducible exact Below.refl _ _ | with_reducible refine Below.drew ?_ | with_reducible refine Below.alloc ?_ ?_ _ | with_reducible refine Below.setCell ?_ ?_ _ | with_reducible refine Below.step ?_ he4 ?_ | with_reducible refine Below.step ?_ he3 ?_ | with_reducible refine Below.step ?_ he2 ?_ | with_reducible refine Below.step ?_ he1 ?_ | (first | exact Nat.le_refl _ | omega | (simp; done) | (simp; omega) | (unfold World.setCell; simp; done) | (unfold World.setCell; simp; omega))))); have ht4 := HT4.size))
          have B1 := B1.mono HT4
          have hU1 := hU1.mono HT4
          have hbw := Below.step hbw HT4 (Nat.le_refl _)
          have HXB : Hid (Bi.val L1 = x.natAbs ∧ x.natAbs ≤ 9223372036854775808) := Lib.hid ⟨by rw [HL1.out, Bi.val_limbs], by have := HLO.out; have := HHI.out; have := HMN.out; have := HMX.out; omega⟩
          have HOK : Hid (Bi.Ok L1) := Lib.hid (by rw [HL1.out]; exact Bi.limbs_ok _)
          obtain ⟨p0, p1, _, _⟩ := B1
          clear HVA HVB he1 he2 he3 he4 ht1 ht2 ht3 ht4 HT1 HT2 HT3 HT4 hV1 hE1
          go_wp2_with fail
          go_loop [5, 6] (fun s5 s6 => ∃ (i : Int) (m : Nat), -1 ≤ i ∧ i < L1.length ∧ s6 = .int .i64 i ∧ s5 = .int .u64 m ∧ m ≤ 9223372036854775808 ∧ Hid (m = Bi.val (L1.drop (i + 1).toNat))) (fun _ s6 => (intOf s6 + 1).toNat)
          case atStart =>
            refine ⟨_, 0, by omega, by omega, rfl, rfl, by omega, Lib.hid ?_⟩
            rw [List.drop_eq_nil_of_le (by omega)]; rfl
          case round =>
            obtain ⟨i, m, hi1, hi2, rfl, rfl, hm, HM⟩ := hrel
            by_cases hi : i < 0
            · obtain rfl : i = -1 := by omega
              have hmx : m = x.natAbs := by have := HM.out; simp only [Int.reduceNeg, Int.reduceAdd, Int.toNat_zero, List.drop_zero] at this; rw [this]; exact HXB.out.1
              cases n1
              · have hx : x = (m : Int) := by have := Hn1.out; simp at this; omega
                have hm2 : m ≤ 9223372036854775807 := by have := HHI.out; have := HMX.out; omega
                have HX := Lib.hid hx
                clear hx hmx hU1 hm
                go_wp2
                go_ret2
                exact ⟨⟨(m : Int), 0, rfl, Lib.hid (.inl ⟨by have := HX.out; omega, by have := HX.out; omega, HX.out.symm, rfl⟩)⟩, hbw⟩
              · have hx : x = -(m : Int) := by have := Hn1.out; simp at this; omega
                have hm1 : 1 ≤ m := by have := Hn1.out; simp at this; omega
                obtain ⟨m2, hm2, hw1, hw2⟩ := neg_back m hm1 hm
                have HX := Lib.hid hx
                have HW := Lib.hid hw2
                clear hx hmx hU1
                go_wp2
                go_ret2
                exact ⟨⟨-(m : Int), 0, rfl, Lib.hid (.inl ⟨by have := HX.out; omega, by have := HX.out; omega, HX.out.symm, rfl⟩)⟩, hbw⟩
            · obtain ⟨j, rfl⟩ : ∃ j : Nat, i = (j : Int) := ⟨i.toNat, by omega⟩
              obtain ⟨z, hz⟩ := get_some (l := L1) (k := j) (by omega)
              obtain ⟨b1, o1, rfl, hcz⟩ := hU1.at' hz
              have bz := HOK.out.at' hz
              have HZ := Lib.hid (Bi.getD_of hz)
              have hdv := Bi.drop_val (L := L1) (i := j) (J := ((j : Int) + 1).toNat) (by omega) HZ.out (by omega) (I := ((j : Int) - 1 + 1).toNat) (by omega)
              rw [← HM.out] at hdv
              obtain ⟨y0, hy0⟩ : ∃ y0 : Nat, y0 = m * 1000000000 := ⟨_, rfl⟩
              obtain ⟨y, hy⟩ : ∃ y : Nat, y = y0 + z := ⟨_, rfl⟩
              have hle := Bi.drop_le L1 (((j : Int) - 1 + 1).toNat)
              have hyb : y ≤ 9223372036854775808 := by have := HXB.out.1; have := HXB.out.2; omega
              have hy0b : y0 ≤ 9223372036854775808 := by omega
              have hy3 : (m : Int) * 1000000000 = (y0 : Int) := by rw [hy0]; simp
              have hy4 : (y0 : Int) + (z : Int) = (y : Int) := by rw [hy]; simp
              have HYY : Hid (y = Bi.val (L1.drop (((j : Int) - 1 + 1).toNat))) := Lib.hid (by omega)
              clear hz hU1 hdv hle hy hy0
              go_wp2
              go_round
              case rel => exact ⟨(j : Int) - 1, y, by omega, by omega, rfl, rfl, hyb, HYY⟩
              case measure => (simp [intOf]; try omega)


end Go.Proofs.YtijjagofingpdaaGreatDoor
