import Derived.Test.YtijjagofingpdaaGreatDoorCmp
namespace Go.Proofs.YtijjagofingpdaaGreatDoor
open Go.RowKit

set_option maxHeartbeats 1600000 in
theorem rCmp_any (a b : Value) (x y : Int) (w : World) (ha : IntV w a x) (hb : IntV w b y) :
    Calls Tryz.prog 35 #[a, b] w fun e w' => e = .returned (.int .i64 (cmpZ x y)) ∧ Below w.heap.size w w' := by
  obtain ⟨n1, ao1, L1, c1, rfl, Hn1, HL1, HB1, hc1, hl1, hU1⟩ := ha
  obtain ⟨n2, ao2, L2, c2, rfl, Hn2, HL2, HB2, hc2, hl2, hU2⟩ := hb
  go_enter Tryz.func35, Tryz.ntmps35
  go_wp2_with fail
  obtain ⟨wx, hwx, hsz, B1, B2, hbx⟩ := boxes2 w (.bool n1) (.slice ao1 L1.length c1) (.bool n2) (.slice ao2 L2.length c2) 25
  rw [← hwx]
  clear hwx
  have hbd := hbx.drew
  have D1 := B1.mono ((Below.refl wx.heap.size wx).drew)
  have D2 := B2.mono ((Below.refl wx.heap.size wx).drew)
  have hX1 := hU1.mono hbd
  have hX2 := hU2.mono hbd
  have hV1 : IntV wx.drew (.agg #[.bool n1, .slice ao1 L1.length c1]) x := ⟨n1, ao1, L1, c1, rfl, Hn1, HL1, HB1, hc1, hl1, hX1⟩
  have hV2 : IntV wx.drew (.agg #[.bool n2, .slice ao2 L2.length c2]) y := ⟨n2, ao2, L2, c2, rfl, Hn2, HL2, HB2, hc2, hl2, hX2⟩
  clear hU1 hU2 hsz
  obtain ⟨a0, a1, _, _⟩ := B1
  obtain ⟨b0, b1, _, _⟩ := B2
  go_region_held3 (fun w' => w'.cell? ⟨w.heap.size, 0, none⟩ = some (.bool n1) ∧ w'.cell? ⟨w.heap.size, 1, none⟩ = some (.slice ao1 L1.length c1) ∧ w'.cell? ⟨w.heap.size + 1, 0, none⟩ = some (.bool n2) ∧ w'.cell? ⟨w.heap.size + 1, 1, none⟩ = some (.slice ao2 L2.length c2))
    (first | (with_reducible exact ⟨a0, a1, b0, b1⟩) | (with_reducible exact ⟨D1.c0, D1.c1, D2.c0, D2.c1⟩) | (with_reducible exact ⟨E1.c0, E1.c1, E2.c0, E2.c1⟩) | (with_reducible exact ⟨F1.c0, F1.c1, F2.c0, F2.c1⟩) | (simp [F1.c0, F1.c1, F2.c0, F2.c1, go_sem]; done))
    (first
      | (go_at_call 64; (with_reducible refine (rSign_any _ x _ hV1).mono ?_); rintro e w2 ⟨rfl, hb2⟩; have E1 := D1.mono hb2; have E2 := D2.mono hb2; have hW2 := hV2.mono hb2)
      | (go_at_call 64; (with_reducible refine (rSign_any _ y _ hW2).mono ?_); rintro e w3 ⟨rfl, hb3⟩; have F1 := E1.mono hb3; have F2 := E2.mono hb3))
  have hbw3 := Below.step (Below.step hbd hb2 (Nat.le_refl _)) hb3 (Nat.le_refl _)
  have hV1 := (hV1.mono hb2).mono hb3
  have hV2 := hW2.mono hb3
  have hY1 := (hX1.mono hb2).mono hb3
  have hY2 := (hX2.mono hb2).mono hb3
  clear hX1 hX2 a0 a1 b0 b1 D1 D2 E1 E2 hW2 hb2 hb3 hbd hbx
  have hbd3 := hbw3.drew
  have D1 := F1.mono ((Below.refl w3.heap.size w3).drew)
  have D2 := F2.mono ((Below.refl w3.heap.size w3).drew)
  have hV1 := hV1.mono ((Below.refl w3.heap.size w3).drew)
  have hV2 := hV2.mono ((Below.refl w3.heap.size w3).drew)
  have hY1 := hY1.mono ((Below.refl w3.heap.size w3).drew)
  have hY2 := hY2.mono ((Below.refl w3.heap.size w3).drew)
  obtain ⟨a0, a1, _, _⟩ := F1
  obtain ⟨b0, b1, _, _⟩ := F2
  by_cases hs : sgnI x = sgnI y
  · have hsb : (sgnI x != sgnI y) = false := by rw [bne_eq_false_iff_eq]; exact hs
    have hwr : IntKind.i64.wrap (sgnI x * cmpN x.natAbs y.natAbs) = cmpZ x y := by
      rw [cmpZ_mul hs]; have := cmpZ_bd x y; exact IntWalk.i64_in _ (by omega)
    clear hs
    go_wp2_with fail
    go_region_held3 (fun w' => w'.cell? ⟨w.heap.size, 0, none⟩ = some (.bool n1) ∧ w'.cell? ⟨w.heap.size, 1, none⟩ = some (.slice ao1 L1.length c1) ∧ w'.cell? ⟨w.heap.size + 1, 0, none⟩ = some (.bool n2) ∧ w'.cell? ⟨w.heap.size + 1, 1, none⟩ = some (.slice ao2 L2.length c2))
      (first | (with_reducible exact ⟨a0, a1, b0, b1⟩) | (with_reducible exact ⟨D1.c0, D1.c1, D2.c0, D2.c1⟩) | (with_reducible exact ⟨E1.c0, E1.c1, E2.c0, E2.c1⟩) | (with_reducible exact ⟨F1.c0, F1.c1, F2.c0, F2.c1⟩) | (simp [F1.c0, F1.c1, F2.c0, F2.c1, go_sem]; done))
      (first
        | (go_at_call 64; (with_reducible refine (rSign_any _ x _ hV1).mono ?_); rintro e w2 ⟨rfl, hb2⟩; have E1 := D1.mono hb2; have E2 := D2.mono hb2; have hZ1 := hY1.mono hb2; have hZ2 := hY2.mono hb2)
        | (go_at_call 65; ((with_reducible refine (rcmp_any x.natAbs y.natAbs L1 L2 HL1 HL2 _ _ _ _ _ ?_ ?_ hZ1 hZ2).mono ?_); (omega); (omega)); rintro e w4 ⟨rfl, hb4⟩; have F1 := E1.mono hb4; have F2 := E2.mono hb4))
    go_wp2
    go_ret
    exact ⟨rfl, Below.step (Below.step hbd3 hb2 (Nat.le_refl _)) hb4 (Nat.le_refl _)⟩
  · have hsb : (sgnI x != sgnI y) = true := by rw [bne_iff_ne]; exact hs
    have HC := Lib.hid (cmpZ_sgn hs)
    clear hs hY1 hY2
    go_wp2_with fail
    go_region_held3 (fun w' => w'.cell? ⟨w.heap.size, 0, none⟩ = some (.bool n1) ∧ w'.cell? ⟨w.heap.size, 1, none⟩ = some (.slice ao1 L1.length c1) ∧ w'.cell? ⟨w.heap.size + 1, 0, none⟩ = some (.bool n2) ∧ w'.cell? ⟨w.heap.size + 1, 1, none⟩ = some (.slice ao2 L2.length c2))
      (first | (with_reducible exact ⟨a0, a1, b0, b1⟩) | (with_reducible exact ⟨D1.c0, D1.c1, D2.c0, D2.c1⟩) | (with_reducible exact ⟨E1.c0, E1.c1, E2.c0, E2.c1⟩) | (with_reducible exact ⟨F1.c0, F1.c1, F2.c0, F2.c1⟩) | (simp [F1.c0, F1.c1, F2.c0, F2.c1, go_sem]; done))
      (first
        | (go_at_call 64; (with_reducible refine (rSign_any _ x _ hV1).mono ?_); rintro e w2 ⟨rfl, hb2⟩; have E1 := D1.mono hb2; have E2 := D2.mono hb2; have hW2 := hV2.mono hb2)
        | (go_at_call 64; (with_reducible refine (rSign_any _ y _ hW2).mono ?_); rintro e w4 ⟨rfl, hb4⟩; have F1 := E1.mono hb4; have F2 := E2.mono hb4))
    have hbf := Below.step (Below.step hbd3 hb2 (Nat.le_refl _)) hb4 (Nat.le_refl _)
    by_cases hlt : sgnI x < sgnI y
    · have HR : Hid (cmpZ x y = -1) := Lib.hid (by rw [HC.out, if_pos hlt])
      go_wp2
      go_ret
      exact ⟨ret_int HR.out.symm, hbf⟩
    · have HR : Hid (cmpZ x y = 1) := Lib.hid (by rw [HC.out, if_neg hlt])
      go_wp2
      go_ret
      exact ⟨ret_int HR.out.symm, hbf⟩

end Go.Proofs.YtijjagofingpdaaGreatDoor
