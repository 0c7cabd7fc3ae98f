import Derived.Test.YtijjagofingpdaaDoorDoor
import Derived.RegionTactic
import Derived.BigRegion
namespace Go.Proofs.YtijjagofingpdaaDoor
open Go.RowKit

set_option maxRecDepth 100000 in
set_option maxHeartbeats 6400000 in
theorem sum_law (c d : Value) (w : World) (hc : DraftV w c) (hd : DraftV w d) (hE : Env w) :
    Calls Tryd.prog 7 #[c, d] w fun e w' => e = .returned (.bool true) ∧ Below w.heap.size w w' := by
  obtain ⟨ncg, aoc, lc, capc, rfl, hc1, hc2, hc3⟩ := id hc
  clear hc1 hc2 hc3
  obtain ⟨ndg, aod, ld, capd, rfl, hd1, hd2, hd3⟩ := id hd
  clear hd1 hd2 hd3
  go_enter Tryd.func7, Tryd.ntmps7
  go_upto_region 1 with fail
  obtain ⟨wx, hwx, hszx, B1, B2, hbw⟩ := boxes2 w (.bool ncg) (.slice aoc lc.length capc) (.bool ndg) (.slice aod ld.length capd) 24
  rw [← hwx]
  clear hwx hszx
  have hc0 := hc.mono hbw
  have hd0 := hd.mono hbw
  have hzw := hbw.size
  clear hc hd
  go_cut [5, 6] (fun s5 s6 wc => Two w wc s5 s6)
  case first =>
    go_region_held3 (fun w' => w'.cell? ⟨w.heap.size, 0, none⟩ = some (.bool ncg) ∧ w'.cell? ⟨w.heap.size, 1, none⟩ = some (.slice aoc lc.length capc) ∧ w'.cell? ⟨w.heap.size + 1, 0, none⟩ = some (.bool ndg) ∧ w'.cell? ⟨w.heap.size + 1, 1, none⟩ = some (.slice aod ld.length capd))
      ((refine S2 B1 B2 ?_; (repeat' (first | with_reducible assumption | with_reducible exact Below.refl _ _ | with_reducible refine Below.drew ?_ | with_reducible refine Below.alloc ?_ ?_ _ | with_reducible refine Below.setCell ?_ ?_ _ | with_reducible refine Below.step ?_ hb3 ?_ | with_reducible refine Below.step ?_ hb2 ?_ | (first | exact Nat.le_refl _ | omega | (simp; done) | (simp; omega) | (unfold World.setCell; simp; done) | (unfold World.setCell; simp; omega))))))
      (first
        | (go_at_call 11; ((with_reducible refine (madeV ncg aoc _ capc _ (hc0.mono ?_)).mono ?_); ((repeat' (first | with_reducible assumption | with_reducible exact Below.refl _ _ | with_reducible refine Below.drew ?_ | with_reducible refine Below.alloc ?_ ?_ _ | with_reducible refine Below.setCell ?_ ?_ _ | with_reducible refine Below.step ?_ hb3 ?_ | with_reducible refine Below.step ?_ hb2 ?_ | (first | exact Nat.le_refl _ | omega | (simp; done) | (simp; omega) | (unfold World.setCell; simp; done) | (unfold World.setCell; simp; omega)))))); rintro e w2 ⟨⟨z1, ng1, ao1, n1, cap1, rfl, HV1⟩, hb2⟩; have HW2 : Below wx.heap.size wx w2 := (by (repeat' (first | with_reducible assumption | with_reducible exact Below.refl _ _ | with_reducible refine Below.drew ?_ | with_reducible refine Below.alloc ?_ ?_ _ | with_reducible refine Below.setCell ?_ ?_ _ | with_reducible refine Below.step ?_ hb3 ?_ | with_reducible refine Below.step ?_ hb2 ?_ | (first | exact Nat.le_refl _ | omega | (simp; done) | (simp; omega) | (unfold World.setCell; simp; done) | (unfold World.setCell; simp; omega))))); have hz2 := HW2.size; (try ((have X0 : Box w2 (wx.heap.size) (.bool false) (.slice none 0 0) := ?_); rotate_left; (· (refine Box.mono ?_ hb2; (repeat' (first | with_reducible assumption | with_reducible exact Box.new _ _ _ _ | with_reducible exact Box.new2 _ _ _ _ _ | with_reducible refine Box.mono ?_ (below_alloc _ _) | with_reducible refine Box.mono ?_ (Below.drew (Below.refl _ _)) | exact Box.new _ _ _ _ | exact Box.new2 _ _ _ _ _)); done)); have X0l := X0.lt; have X0b := X0; obtain ⟨X00, X01, X02, X03⟩ := X0)); (try ((have X1 : Box w2 (wx.heap.size + 1) (.bool false) (.slice none 0 0) := ?_); rotate_left; (· (refine Box.mono ?_ hb2; (repeat' (first | with_reducible assumption | with_reducible exact Box.new _ _ _ _ | with_reducible exact Box.new2 _ _ _ _ _ | with_reducible refine Box.mono ?_ (below_alloc _ _) | with_reducible refine Box.mono ?_ (Below.drew (Below.refl _ _)) | exact Box.new _ _ _ _ | exact Box.new2 _ _ _ _ _)); done)); have X1l := X1.lt; have X1b := X1; obtain ⟨X10, X11, X12, X13⟩ := X1)))
        | (go_at_call 11; ((with_reducible refine (madeV ndg aod _ capd _ (hd0.mono ?_)).mono ?_); ((repeat' (first | with_reducible assumption | with_reducible exact Below.refl _ _ | with_reducible refine Below.drew ?_ | with_reducible refine Below.alloc ?_ ?_ _ | with_reducible refine Below.setCell ?_ ?_ _ | with_reducible refine Below.step ?_ hb3 ?_ | with_reducible refine Below.step ?_ hb2 ?_ | (first | exact Nat.le_refl _ | omega | (simp; done) | (simp; omega) | (unfold World.setCell; simp; done) | (unfold World.setCell; simp; omega)))))); rintro e w3 ⟨⟨z2, ng2, ao2, n2, cap2, rfl, HV2⟩, hb3⟩; have HW3 : Below wx.heap.size wx w3 := (by (repeat' (first | with_reducible assumption | with_reducible exact Below.refl _ _ | with_reducible refine Below.drew ?_ | with_reducible refine Below.alloc ?_ ?_ _ | with_reducible refine Below.setCell ?_ ?_ _ | with_reducible refine Below.step ?_ hb3 ?_ | with_reducible refine Below.step ?_ hb2 ?_ | (first | exact Nat.le_refl _ | omega | (simp; done) | (simp; omega) | (unfold World.setCell; simp; done) | (unfold World.setCell; simp; omega))))); have hz3 := HW3.size; (try ((have Y0 : Box w3 (wx.heap.size) (.bool false) (.slice none 0 0) := ?_); rotate_left; (· (refine Box.mono ?_ hb3; (repeat' (first | with_reducible assumption | with_reducible exact Box.new _ _ _ _ | with_reducible exact Box.new2 _ _ _ _ _ | with_reducible refine Box.mono ?_ (below_alloc _ _) | with_reducible refine Box.mono ?_ (Below.drew (Below.refl _ _)) | exact Box.new _ _ _ _ | exact Box.new2 _ _ _ _ _)); done)); have Y0l := Y0.lt; have Y0b := Y0; obtain ⟨Y00, Y01, Y02, Y03⟩ := Y0)); (try ((have Y1 : Box w3 (wx.heap.size + 1) (.bool false) (.slice none 0 0) := ?_); rotate_left; (· (refine Box.mono ?_ hb3; (repeat' (first | with_reducible assumption | with_reducible exact Box.new _ _ _ _ | with_reducible exact Box.new2 _ _ _ _ _ | with_reducible refine Box.mono ?_ (below_alloc _ _) | with_reducible refine Box.mono ?_ (Below.drew (Below.refl _ _)) | exact Box.new _ _ _ _ | exact Box.new2 _ _ _ _ _)); done)); have Y1l := Y1.lt; have Y1b := Y1; obtain ⟨Y10, Y11, Y12, Y13⟩ := Y1)); (try ((have Y2 : Box w3 (w2.heap.size) (.bool false) (.slice none 0 0) := ?_); rotate_left; (· (refine Box.mono ?_ hb3; (repeat' (first | with_reducible assumption | with_reducible exact Box.new _ _ _ _ | with_reducible exact Box.new2 _ _ _ _ _ | with_reducible refine Box.mono ?_ (below_alloc _ _) | with_reducible refine Box.mono ?_ (Below.drew (Below.refl _ _)) | exact Box.new _ _ _ _ | exact Box.new2 _ _ _ _ _)); done)); have Y2l := Y2.lt; have Y2b := Y2; obtain ⟨Y20, Y21, Y22, Y23⟩ := Y2)); (try ((have Y3 : Box w3 (w2.heap.size + 1) (.bool false) (.slice none 0 0) := ?_); rotate_left; (· (refine Box.mono ?_ hb3; (repeat' (first | with_reducible assumption | with_reducible exact Box.new _ _ _ _ | with_reducible exact Box.new2 _ _ _ _ _ | with_reducible refine Box.mono ?_ (below_alloc _ _) | with_reducible refine Box.mono ?_ (Below.drew (Below.refl _ _)) | exact Box.new _ _ _ _ | exact Box.new2 _ _ _ _ _)); done)); have Y3l := Y3.lt; have Y3b := Y3; obtain ⟨Y30, Y31, Y32, Y33⟩ := Y3))))
    all_goals (go_wp2_with fail; go_meet; exact ⟨z1, z2, ⟨_, ng1, ao1, n1, cap1, rfl, by (repeat' (first | with_reducible assumption | with_reducible exact Box.new _ _ _ _ | with_reducible exact Box.new2 _ _ _ _ _ | with_reducible refine Box.new' _ _ ?_ _ _ _ | with_reducible refine Box.set2Z ?_ _ _ | with_reducible refine Box.put2 ?_ ?_ _ _ | with_reducible refine Box.mono ?_ (below_alloc _ _) | with_reducible refine Box.mono ?_ (Below.drew (Below.refl _ _)) | with_reducible refine Box.mono ?_ hb3 | omega | (unfold World.setCell; simp; done))), Lib.hid (by (repeat' (first | with_reducible exact HV1.out | with_reducible refine IntV.putFN ?_ ?_ | with_reducible refine IntV.mono ?_ (below_alloc _ _) | with_reducible refine IntV.mono ?_ (Below.drew (Below.refl _ _)) | with_reducible refine IntV.mono ?_ hb3 | (repeat' (first | with_reducible assumption | with_reducible exact Box.new _ _ _ _ | with_reducible exact Box.new2 _ _ _ _ _ | with_reducible refine Box.new' _ _ ?_ _ _ _ | with_reducible refine Box.set2Z ?_ _ _ | with_reducible refine Box.put2 ?_ ?_ _ _ | with_reducible refine Box.mono ?_ (below_alloc _ _) | with_reducible refine Box.mono ?_ (Below.drew (Below.refl _ _)) | with_reducible refine Box.mono ?_ hb3 | omega | (unfold World.setCell; simp; done))))))⟩, ⟨_, ng2, ao2, n2, cap2, rfl, by (repeat' (first | with_reducible assumption | with_reducible exact Box.new _ _ _ _ | with_reducible exact Box.new2 _ _ _ _ _ | with_reducible refine Box.new' _ _ ?_ _ _ _ | with_reducible refine Box.set2Z ?_ _ _ | with_reducible refine Box.put2 ?_ ?_ _ _ | with_reducible refine Box.mono ?_ (below_alloc _ _) | with_reducible refine Box.mono ?_ (Below.drew (Below.refl _ _)) | with_reducible refine Box.mono ?_ hb3 | omega | (unfold World.setCell; simp; done))), Lib.hid (by (repeat' (first | with_reducible exact HV2.out | with_reducible refine IntV.putFN ?_ ?_ | with_reducible refine IntV.mono ?_ (below_alloc _ _) | with_reducible refine IntV.mono ?_ (Below.drew (Below.refl _ _)) | with_reducible refine IntV.mono ?_ hb3 | (repeat' (first | with_reducible assumption | with_reducible exact Box.new _ _ _ _ | with_reducible exact Box.new2 _ _ _ _ _ | with_reducible refine Box.new' _ _ ?_ _ _ _ | with_reducible refine Box.set2Z ?_ _ _ | with_reducible refine Box.put2 ?_ ?_ _ _ | with_reducible refine Box.mono ?_ (below_alloc _ _) | with_reducible refine Box.mono ?_ (Below.drew (Below.refl _ _)) | with_reducible refine Box.mono ?_ hb3 | omega | (unfold World.setCell; simp; done))))))⟩, by (repeat' (first | with_reducible assumption | with_reducible exact Below.refl _ _ | with_reducible refine Below.drew ?_ | with_reducible refine Below.alloc ?_ ?_ _ | with_reducible refine Below.setCell ?_ ?_ _ | with_reducible refine Below.step ?_ hb3 ?_ | with_reducible refine Below.step ?_ hb2 ?_ | with_reducible refine Below.step ?_ hbw ?_ | (first | exact Nat.le_refl _ | omega | (simp; done) | (simp; omega) | (unfold World.setCell; simp; done) | (unfold World.setCell; simp; omega))))⟩)
  case rest =>
    clear B1 B2 hc0 hd0 hzw hbw
    obtain ⟨z1, z2, ⟨g1, ng1, ao1, n1, cap1, rfl, X1, HV1⟩, ⟨g2, ng2, ao2, n2, cap2, rfl, X2, HV2⟩, hbw⟩ := hcut
    have hE := hE.mono hbw
    have l1 := X1.lt
    have l2 := X2.lt
    obtain ⟨x0, x1, _, _⟩ := id X1
    obtain ⟨y0, y1, _, _⟩ := id X2
    go_wp2_with fail
    (with_reducible refine (awake_any _ hE).mono ?_)
    rintro e wa ⟨rfl, hba⟩
    have X1 := X1.mono hba
    have X2 := X2.mono hba
    have HV1 := Lib.hid (HV1.out.mono hba)
    have HV2 := Lib.hid (HV2.out.mono hba)
    have hE := hE.mono hba
    have hbw := Below.step hbw hba (Nat.le_refl _)
    have l1 := X1.lt
    have l2 := X2.lt
    clear hba x0 x1 y0 y1
    obtain ⟨x0, x1, _, _⟩ := id X1
    obtain ⟨y0, y1, _, _⟩ := id X2
    go_upto_region 4 with fail
    obtain ⟨wx, rfl⟩ : ∃ wx : World, wx = wa := ⟨_, rfl⟩
    go_cut [7, 8] (fun s7 s8 wc => OneK wx wc s7 s8 (z1 + z2))
    case first =>
      go_region_held3 (fun w' => w'.cell? ⟨g1, 0, none⟩ = some (.bool ng1) ∧ w'.cell? ⟨g1, 1, none⟩ = some (.slice ao1 n1 cap1) ∧ w'.cell? ⟨g2, 0, none⟩ = some (.bool ng2) ∧ w'.cell? ⟨g2, 1, none⟩ = some (.slice ao2 n2 cap2))
        ((refine S2 X1 X2 ?_; (repeat' (first | with_reducible assumption | with_reducible exact Below.refl _ _ | with_reducible refine Below.drew ?_ | with_reducible refine Below.alloc ?_ ?_ _ | with_reducible refine Below.setCell ?_ ?_ _ | with_reducible refine Below.step ?_ hd3 ?_ | with_reducible refine Below.step ?_ hd2 ?_ | with_reducible refine Below.step ?_ hd1 ?_ | (first | exact Nat.le_refl _ | omega | (simp; done) | (simp; omega) | (unfold World.setCell; simp; done) | (unfold World.setCell; simp; omega))))))
        (first
          | (go_at_call 15; ((with_reducible refine (ownV (.agg #[.bool ng1, .slice ao1 n1 cap1]) z1 _ (HV1.out.mono ?_)).mono ?_); ((repeat' (first | with_reducible assumption | with_reducible exact Below.refl _ _ | with_reducible refine Below.drew ?_ | with_reducible refine Below.alloc ?_ ?_ _ | with_reducible refine Below.setCell ?_ ?_ _ | with_reducible refine Below.step ?_ hd3 ?_ | with_reducible refine Below.step ?_ hd2 ?_ | with_reducible refine Below.step ?_ hd1 ?_ | (first | exact Nat.le_refl _ | omega | (simp; done) | (simp; omega) | (unfold World.setCell; simp; done) | (unfold World.setCell; simp; omega)))))); rintro e u1 ⟨⟨m1g, b1, q1, p1, rfl, HO1⟩, hd1⟩; have HU1 : Below wx.heap.size wx u1 := (by (repeat' (first | with_reducible assumption | with_reducible exact Below.refl _ _ | with_reducible refine Below.drew ?_ | with_reducible refine Below.alloc ?_ ?_ _ | with_reducible refine Below.setCell ?_ ?_ _ | with_reducible refine Below.step ?_ hd3 ?_ | with_reducible refine Below.step ?_ hd2 ?_ | with_reducible refine Below.step ?_ hd1 ?_ | (first | exact Nat.le_refl _ | omega | (simp; done) | (simp; omega) | (unfold World.setCell; simp; done) | (unfold World.setCell; simp; omega))))); have hu1 := HU1.size; (try ((have Nu10 : Box u1 (wx.heap.size) (.bool false) (.slice none 0 0) := ?_); rotate_left; (· (refine Box.mono ?_ hd1; (repeat' (first | with_reducible assumption | with_reducible exact Box.new _ _ _ _ | with_reducible exact Box.new2 _ _ _ _ _ | with_reducible refine Box.mono ?_ (below_alloc _ _) | with_reducible refine Box.mono ?_ (Below.drew (Below.refl _ _)) | exact Box.new _ _ _ _ | exact Box.new2 _ _ _ _ _)); done)); have Nu10l := Nu10.lt; have Nu10b := Nu10; obtain ⟨Nu100, Nu101, Nu102, Nu103⟩ := Nu10)))
          | (go_at_call 15; ((with_reducible refine (ownV (.agg #[.bool ng2, .slice ao2 n2 cap2]) z2 _ (HV2.out.mono ?_)).mono ?_); ((repeat' (first | with_reducible assumption | with_reducible exact Below.refl _ _ | with_reducible refine Below.drew ?_ | with_reducible refine Below.alloc ?_ ?_ _ | with_reducible refine Below.setCell ?_ ?_ _ | with_reducible refine Below.step ?_ hd3 ?_ | with_reducible refine Below.step ?_ hd2 ?_ | with_reducible refine Below.step ?_ hd1 ?_ | (first | exact Nat.le_refl _ | omega | (simp; done) | (simp; omega) | (unfold World.setCell; simp; done) | (unfold World.setCell; simp; omega)))))); rintro e u2 ⟨⟨m2g, b2, q2, p2, rfl, HO2⟩, hd2⟩; have HU2 : Below wx.heap.size wx u2 := (by (repeat' (first | with_reducible assumption | with_reducible exact Below.refl _ _ | with_reducible refine Below.drew ?_ | with_reducible refine Below.alloc ?_ ?_ _ | with_reducible refine Below.setCell ?_ ?_ _ | with_reducible refine Below.step ?_ hd3 ?_ | with_reducible refine Below.step ?_ hd2 ?_ | with_reducible refine Below.step ?_ hd1 ?_ | (first | exact Nat.le_refl _ | omega | (simp; done) | (simp; omega) | (unfold World.setCell; simp; done) | (unfold World.setCell; simp; omega))))); have hu2 := HU2.size; have hv2 : u1.heap.size ≤ u2.heap.size := (by refine Nat.le_trans ?_ hd2.size; (first | exact Nat.le_refl _ | omega | (simp; done) | (simp; omega) | (unfold World.setCell; simp; done) | (unfold World.setCell; simp; omega))); (try ((have Nu20 : Box u2 (wx.heap.size) (.bool false) (.slice none 0 0) := ?_); rotate_left; (· (refine Box.mono ?_ hd2; (repeat' (first | with_reducible assumption | with_reducible exact Box.new _ _ _ _ | with_reducible exact Box.new2 _ _ _ _ _ | with_reducible refine Box.mono ?_ (below_alloc _ _) | with_reducible refine Box.mono ?_ (Below.drew (Below.refl _ _)) | exact Box.new _ _ _ _ | exact Box.new2 _ _ _ _ _)); done)); have Nu20l := Nu20.lt; have Nu20b := Nu20; obtain ⟨Nu200, Nu201, Nu202, Nu203⟩ := Nu20)); (try ((have Nu21 : Box u2 (u1.heap.size) (.bool false) (.slice none 0 0) := ?_); rotate_left; (· (refine Box.mono ?_ hd2; (repeat' (first | with_reducible assumption | with_reducible exact Box.new _ _ _ _ | with_reducible exact Box.new2 _ _ _ _ _ | with_reducible refine Box.mono ?_ (below_alloc _ _) | with_reducible refine Box.mono ?_ (Below.drew (Below.refl _ _)) | exact Box.new _ _ _ _ | exact Box.new2 _ _ _ _ _)); done)); have Nu21l := Nu21.lt; have Nu21b := Nu21; obtain ⟨Nu210, Nu211, Nu212, Nu213⟩ := Nu21)))
          | (go_at_call 29; ((with_reducible refine (Add_any _ _ z1 z2 _ (HO1.out.mono ?_) (HO2.out.mono ?_) (hE.mono ?_)).mono ?_); ((repeat' (first | with_reducible assumption | with_reducible exact Below.refl _ _ | with_reducible refine Below.drew ?_ | with_reducible refine Below.alloc ?_ ?_ _ | with_reducible refine Below.setCell ?_ ?_ _ | with_reducible refine Below.step ?_ hd3 ?_ | with_reducible refine Below.step ?_ hd2 ?_ | with_reducible refine Below.step ?_ hd1 ?_ | (first | exact Nat.le_refl _ | omega | (simp; done) | (simp; omega) | (unfold World.setCell; simp; done) | (unfold World.setCell; simp; omega))))); ((repeat' (first | with_reducible assumption | with_reducible exact Below.refl _ _ | with_reducible refine Below.drew ?_ | with_reducible refine Below.alloc ?_ ?_ _ | with_reducible refine Below.setCell ?_ ?_ _ | with_reducible refine Below.step ?_ hd3 ?_ | with_reducible refine Below.step ?_ hd2 ?_ | with_reducible refine Below.step ?_ hd1 ?_ | (first | exact Nat.le_refl _ | omega | (simp; done) | (simp; omega) | (unfold World.setCell; simp; done) | (unfold World.setCell; simp; omega))))); ((repeat' (first | with_reducible assumption | with_reducible exact Below.refl _ _ | with_reducible refine Below.drew ?_ | with_reducible refine Below.alloc ?_ ?_ _ | with_reducible refine Below.setCell ?_ ?_ _ | with_reducible refine Below.step ?_ hd3 ?_ | with_reducible refine Below.step ?_ hd2 ?_ | with_reducible refine Below.step ?_ hd1 ?_ | (first | exact Nat.le_refl _ | omega | (simp; done) | (simp; omega) | (unfold World.setCell; simp; done) | (unfold World.setCell; simp; omega)))))); rintro e u3 ⟨⟨m3g, b3, q3, p3, k3, rfl, HK⟩, hd3⟩; have HU3 : Below wx.heap.size wx u3 := (by (repeat' (first | with_reducible assumption | with_reducible exact Below.refl _ _ | with_reducible refine Below.drew ?_ | with_reducible refine Below.alloc ?_ ?_ _ | with_reducible refine Below.setCell ?_ ?_ _ | with_reducible refine Below.step ?_ hd3 ?_ | with_reducible refine Below.step ?_ hd2 ?_ | with_reducible refine Below.step ?_ hd1 ?_ | (first | exact Nat.le_refl _ | omega | (simp; done) | (simp; omega) | (unfold World.setCell; simp; done) | (unfold World.setCell; simp; omega))))); have hu3 := HU3.size; have hv3 : u2.heap.size ≤ u3.heap.size := (by refine Nat.le_trans ?_ hd3.size; (first | exact Nat.le_refl _ | omega | (simp; done) | (simp; omega) | (unfold World.setCell; simp; done) | (unfold World.setCell; simp; omega))); (try ((have Nu30 : Box u3 (wx.heap.size) (.bool false) (.slice none 0 0) := ?_); rotate_left; (· (refine Box.mono ?_ hd3; (repeat' (first | with_reducible assumption | with_reducible exact Box.new _ _ _ _ | with_reducible exact Box.new2 _ _ _ _ _ | with_reducible refine Box.mono ?_ (below_alloc _ _) | with_reducible refine Box.mono ?_ (Below.drew (Below.refl _ _)) | exact Box.new _ _ _ _ | exact Box.new2 _ _ _ _ _)); done)); have Nu30l := Nu30.lt; have Nu30b := Nu30; obtain ⟨Nu300, Nu301, Nu302, Nu303⟩ := Nu30)); (try ((have Nu31 : Box u3 (u1.heap.size) (.bool false) (.slice none 0 0) := ?_); rotate_left; (· (refine Box.mono ?_ hd3; (repeat' (first | with_reducible assumption | with_reducible exact Box.new _ _ _ _ | with_reducible exact Box.new2 _ _ _ _ _ | with_reducible refine Box.mono ?_ (below_alloc _ _) | with_reducible refine Box.mono ?_ (Below.drew (Below.refl _ _)) | exact Box.new _ _ _ _ | exact Box.new2 _ _ _ _ _)); done)); have Nu31l := Nu31.lt; have Nu31b := Nu31; obtain ⟨Nu310, Nu311, Nu312, Nu313⟩ := Nu31)); (try ((have Nu32 : Box u3 (u2.heap.size) (.bool false) (.slice none 0 0) := ?_); rotate_left; (· (refine Box.mono ?_ hd3; (repeat' (first | with_reducible assumption | with_reducible exact Box.new _ _ _ _ | with_reducible exact Box.new2 _ _ _ _ _ | with_reducible refine Box.mono ?_ (below_alloc _ _) | with_reducible refine Box.mono ?_ (Below.drew (Below.refl _ _)) | exact Box.new _ _ _ _ | exact Box.new2 _ _ _ _ _)); done)); have Nu32l := Nu32.lt; have Nu32b := Nu32; obtain ⟨Nu320, Nu321, Nu322, Nu323⟩ := Nu32))))
      all_goals (go_wp2_with fail; go_meet; exact ⟨⟨_, m3g, b3, q3, p3, k3, rfl, rfl, by (repeat' (first | with_reducible assumption | with_reducible exact Box.new _ _ _ _ | with_reducible exact Box.new2 _ _ _ _ _ | with_reducible refine Box.new' _ _ ?_ _ _ _ | with_reducible refine Box.set2Z ?_ _ _ | with_reducible refine Box.put2 ?_ ?_ _ _ | with_reducible refine Box.mono ?_ (below_alloc _ _) | with_reducible refine Box.mono ?_ (Below.drew (Below.refl _ _)) | with_reducible refine Box.mono ?_ hd3 | omega | (unfold World.setCell; simp; done))), Lib.hid (by (repeat' (first | with_reducible exact HK.out | with_reducible refine ResK.putFN ?_ ?_ | with_reducible refine ResK.mono ?_ (below_alloc _ _) | with_reducible refine ResK.mono ?_ (Below.drew (Below.refl _ _)) | with_reducible refine ResK.mono ?_ hd3 | (repeat' (first | with_reducible assumption | with_reducible exact Box.new _ _ _ _ | with_reducible exact Box.new2 _ _ _ _ _ | with_reducible refine Box.new' _ _ ?_ _ _ _ | with_reducible refine Box.set2Z ?_ _ _ | with_reducible refine Box.put2 ?_ ?_ _ _ | with_reducible refine Box.mono ?_ (below_alloc _ _) | with_reducible refine Box.mono ?_ (Below.drew (Below.refl _ _)) | with_reducible refine Box.mono ?_ hd3 | omega | (unfold World.setCell; simp; done))))))⟩, by (repeat' (first | with_reducible assumption | with_reducible exact Below.refl _ _ | with_reducible refine Below.drew ?_ | with_reducible refine Below.alloc ?_ ?_ _ | with_reducible refine Below.setCell ?_ ?_ _ | with_reducible refine Below.step ?_ hd3 ?_ | with_reducible refine Below.step ?_ hd2 ?_ | with_reducible refine Below.step ?_ hd1 ?_ | (first | exact Nat.le_refl _ | omega | (simp; done) | (simp; omega) | (unfold World.setCell; simp; done) | (unfold World.setCell; simp; omega))))⟩)
    case rest =>
      clear x0 x1 y0 y1
      obtain ⟨⟨g3, ng3, ao3, n3, cap3, k3, rfl, rfl, X3, HR3⟩, hba⟩ := hcut
      have X1 := X1.mono hba
      have X2 := X2.mono hba
      have HV1 := Lib.hid (HV1.out.mono hba)
      have HV2 := Lib.hid (HV2.out.mono hba)
      have hE := hE.mono hba
      have hbw := Below.step hbw hba (Nat.le_refl _)
      clear hba
      obtain ⟨x0, x1, _, _⟩ := id X1
      obtain ⟨y0, y1, _, _⟩ := id X2
      go_wp2_with fail
      (with_reducible refine (rAdd_any _ _ z1 z2 _ HV1.out HV2.out).mono ?_)
      rintro e w5 ⟨⟨ng4, ao4, n4, cap4, k4, rfl, HR4⟩, hb5⟩
      clear x0 x1 y0 y1
      have X1 := X1.mono hb5
      have X2 := X2.mono hb5
      have X3 := X3.mono hb5
      have HV1 := Lib.hid (HV1.out.mono hb5)
      have HV2 := Lib.hid (HV2.out.mono hb5)
      have HR3 := Lib.hid (HR3.out.mono hb5)
      have hE := hE.mono hb5
      have hbw := Below.step hbw hb5 (Nat.le_refl _)
      clear hb5
      obtain ⟨y3, hV3, hy3, hk3⟩ := HR3.out.some
      obtain ⟨y4, hV4, hy4, hk4⟩ := HR4.out.some
      have e1 : k3 = k4 := hk3.trans hk4.symm
      have e2 : y3 = y4 := hy3.trans hy4.symm
      subst e1 e2
      have HV3 := Lib.hid hV3
      have HV4 := Lib.hid hV4
      have hkk3 : (k3 == k3) = true := by simp
      clear hy3 hy4 hk3 hk4 hV3 hV4 HR3 HR4
      go_upto_region 6 with fail
      have X4 := Box.new w5 (.bool ng4) (.slice ao4 n4 cap4) 25
      have hb := below_alloc w5 (.cells #[.bool ng4, .slice ao4 n4 cap4] 25)
      generalize w5.alloc (.cells #[.bool ng4, .slice ao4 n4 cap4] 25) = w6 at *
      have X1 := X1.mono hb
      have X2 := X2.mono hb
      have X3 := X3.mono hb
      have HV1 := Lib.hid (HV1.out.mono hb)
      have HV2 := Lib.hid (HV2.out.mono hb)
      have HV3 := Lib.hid (HV3.out.mono hb)
      have HV4 := Lib.hid (HV4.out.mono hb)
      have hE := hE.mono hb
      have hbw := Below.step hbw hb (Nat.le_refl _)
      clear hb
      obtain ⟨wx, rfl⟩ : ∃ wx : World, wx = w6 := ⟨_, rfl⟩
      go_cut [11, 12] (fun s11 s12 wc => OneK wx wc s11 s12 (z1 - z2))
      case first =>
        go_region_held3 (fun w' => w'.cell? ⟨g1, 0, none⟩ = some (.bool ng1) ∧ w'.cell? ⟨g1, 1, none⟩ = some (.slice ao1 n1 cap1) ∧ w'.cell? ⟨g2, 0, none⟩ = some (.bool ng2) ∧ w'.cell? ⟨g2, 1, none⟩ = some (.slice ao2 n2 cap2))
          ((refine S2 X1 X2 ?_; (repeat' (first | with_reducible assumption | with_reducible exact Below.refl _ _ | with_reducible refine Below.drew ?_ | with_reducible refine Below.alloc ?_ ?_ _ | with_reducible refine Below.setCell ?_ ?_ _ | with_reducible refine Below.step ?_ hd3 ?_ | with_reducible refine Below.step ?_ hd2 ?_ | with_reducible refine Below.step ?_ hd1 ?_ | (first | exact Nat.le_refl _ | omega | (simp; done) | (simp; omega) | (unfold World.setCell; simp; done) | (unfold World.setCell; simp; omega))))))
          (first
            | (go_at_call 15; ((with_reducible refine (ownV (.agg #[.bool ng1, .slice ao1 n1 cap1]) z1 _ (HV1.out.mono ?_)).mono ?_); ((repeat' (first | with_reducible assumption | with_reducible exact Below.refl _ _ | with_reducible refine Below.drew ?_ | with_reducible refine Below.alloc ?_ ?_ _ | with_reducible refine Below.setCell ?_ ?_ _ | with_reducible refine Below.step ?_ hd3 ?_ | with_reducible refine Below.step ?_ hd2 ?_ | with_reducible refine Below.step ?_ hd1 ?_ | (first | exact Nat.le_refl _ | omega | (simp; done) | (simp; omega) | (unfold World.setCell; simp; done) | (unfold World.setCell; simp; omega)))))); rintro e u1 ⟨⟨m1g, b1, q1, p1, rfl, HO1⟩, hd1⟩; have HU1 : Below wx.heap.size wx u1 := (by (repeat' (first | with_reducible assumption | with_reducible exact Below.refl _ _ | with_reducible refine Below.drew ?_ | with_reducible refine Below.alloc ?_ ?_ _ | with_reducible refine Below.setCell ?_ ?_ _ | with_reducible refine Below.step ?_ hd3 ?_ | with_reducible refine Below.step ?_ hd2 ?_ | with_reducible refine Below.step ?_ hd1 ?_ | (first | exact Nat.le_refl _ | omega | (simp; done) | (simp; omega) | (unfold World.setCell; simp; done) | (unfold World.setCell; simp; omega))))); have hu1 := HU1.size; (try ((have Nu10 : Box u1 (wx.heap.size) (.bool false) (.slice none 0 0) := ?_); rotate_left; (· (refine Box.mono ?_ hd1; (repeat' (first | with_reducible assumption | with_reducible exact Box.new _ _ _ _ | with_reducible exact Box.new2 _ _ _ _ _ | with_reducible refine Box.mono ?_ (below_alloc _ _) | with_reducible refine Box.mono ?_ (Below.drew (Below.refl _ _)) | exact Box.new _ _ _ _ | exact Box.new2 _ _ _ _ _)); done)); have Nu10l := Nu10.lt; have Nu10b := Nu10; obtain ⟨Nu100, Nu101, Nu102, Nu103⟩ := Nu10)))
            | (go_at_call 15; ((with_reducible refine (ownV (.agg #[.bool ng2, .slice ao2 n2 cap2]) z2 _ (HV2.out.mono ?_)).mono ?_); ((repeat' (first | with_reducible assumption | with_reducible exact Below.refl _ _ | with_reducible refine Below.drew ?_ | with_reducible refine Below.alloc ?_ ?_ _ | with_reducible refine Below.setCell ?_ ?_ _ | with_reducible refine Below.step ?_ hd3 ?_ | with_reducible refine Below.step ?_ hd2 ?_ | with_reducible refine Below.step ?_ hd1 ?_ | (first | exact Nat.le_refl _ | omega | (simp; done) | (simp; omega) | (unfold World.setCell; simp; done) | (unfold World.setCell; simp; omega)))))); rintro e u2 ⟨⟨m2g, b2, q2, p2, rfl, HO2⟩, hd2⟩; have HU2 : Below wx.heap.size wx u2 := (by (repeat' (first | with_reducible assumption | with_reducible exact Below.refl _ _ | with_reducible refine Below.drew ?_ | with_reducible refine Below.alloc ?_ ?_ _ | with_reducible refine Below.setCell ?_ ?_ _ | with_reducible refine Below.step ?_ hd3 ?_ | with_reducible refine Below.step ?_ hd2 ?_ | with_reducible refine Below.step ?_ hd1 ?_ | (first | exact Nat.le_refl _ | omega | (simp; done) | (simp; omega) | (unfold World.setCell; simp; done) | (unfold World.setCell; simp; omega))))); have hu2 := HU2.size; have hv2 : u1.heap.size ≤ u2.heap.size := (by refine Nat.le_trans ?_ hd2.size; (first | exact Nat.le_refl _ | omega | (simp; done) | (simp; omega) | (unfold World.setCell; simp; done) | (unfold World.setCell; simp; omega))); (try ((have Nu20 : Box u2 (wx.heap.size) (.bool false) (.slice none 0 0) := ?_); rotate_left; (· (refine Box.mono ?_ hd2; (repeat' (first | with_reducible assumption | with_reducible exact Box.new _ _ _ _ | with_reducible exact Box.new2 _ _ _ _ _ | with_reducible refine Box.mono ?_ (below_alloc _ _) | with_reducible refine Box.mono ?_ (Below.drew (Below.refl _ _)) | exact Box.new _ _ _ _ | exact Box.new2 _ _ _ _ _)); done)); have Nu20l := Nu20.lt; have Nu20b := Nu20; obtain ⟨Nu200, Nu201, Nu202, Nu203⟩ := Nu20)); (try ((have Nu21 : Box u2 (u1.heap.size) (.bool false) (.slice none 0 0) := ?_); rotate_left; (· (refine Box.mono ?_ hd2; (repeat' (first | with_reducible assumption | with_reducible exact Box.new _ _ _ _ | with_reducible exact Box.new2 _ _ _ _ _ | with_reducible refine Box.mono ?_ (below_alloc _ _) | with_reducible refine Box.mono ?_ (Below.drew (Below.refl _ _)) | exact Box.new _ _ _ _ | exact Box.new2 _ _ _ _ _)); done)); have Nu21l := Nu21.lt; have Nu21b := Nu21; obtain ⟨Nu210, Nu211, Nu212, Nu213⟩ := Nu21)))
            | (go_at_call 31; ((with_reducible refine (Sub_any _ _ z1 z2 _ (HO1.out.mono ?_) (HO2.out.mono ?_) (hE.mono ?_)).mono ?_); ((repeat' (first | with_reducible assumption | with_reducible exact Below.refl _ _ | with_reducible refine Below.drew ?_ | with_reducible refine Below.alloc ?_ ?_ _ | with_reducible refine Below.setCell ?_ ?_ _ | with_reducible refine Below.step ?_ hd3 ?_ | with_reducible refine Below.step ?_ hd2 ?_ | with_reducible refine Below.step ?_ hd1 ?_ | (first | exact Nat.le_refl _ | omega | (simp; done) | (simp; omega) | (unfold World.setCell; simp; done) | (unfold World.setCell; simp; omega))))); ((repeat' (first | with_reducible assumption | with_reducible exact Below.refl _ _ | with_reducible refine Below.drew ?_ | with_reducible refine Below.alloc ?_ ?_ _ | with_reducible refine Below.setCell ?_ ?_ _ | with_reducible refine Below.step ?_ hd3 ?_ | with_reducible refine Below.step ?_ hd2 ?_ | with_reducible refine Below.step ?_ hd1 ?_ | (first | exact Nat.le_refl _ | omega | (simp; done) | (simp; omega) | (unfold World.setCell; simp; done) | (unfold World.setCell; simp; omega))))); ((repeat' (first | with_reducible assumption | with_reducible exact Below.refl _ _ | with_reducible refine Below.drew ?_ | with_reducible refine Below.alloc ?_ ?_ _ | with_reducible refine Below.setCell ?_ ?_ _ | with_reducible refine Below.step ?_ hd3 ?_ | with_reducible refine Below.step ?_ hd2 ?_ | with_reducible refine Below.step ?_ hd1 ?_ | (first | exact Nat.le_refl _ | omega | (simp; done) | (simp; omega) | (unfold World.setCell; simp; done) | (unfold World.setCell; simp; omega)))))); rintro e u3 ⟨⟨m3g, b3, q3, p3, k3, rfl, HK⟩, hd3⟩; have HU3 : Below wx.heap.size wx u3 := (by (repeat' (first | with_reducible assumption | with_reducible exact Below.refl _ _ | with_reducible refine Below.drew ?_ | with_reducible refine Below.alloc ?_ ?_ _ | with_reducible refine Below.setCell ?_ ?_ _ | with_reducible refine Below.step ?_ hd3 ?_ | with_reducible refine Below.step ?_ hd2 ?_ | with_reducible refine Below.step ?_ hd1 ?_ | (first | exact Nat.le_refl _ | omega | (simp; done) | (simp; omega) | (unfold World.setCell; simp; done) | (unfold World.setCell; simp; omega))))); have hu3 := HU3.size; have hv3 : u2.heap.size ≤ u3.heap.size := (by refine Nat.le_trans ?_ hd3.size; (first | exact Nat.le_refl _ | omega | (simp; done) | (simp; omega) | (unfold World.setCell; simp; done) | (unfold World.setCell; simp; omega))); (try ((have Nu30 : Box u3 (wx.heap.size) (.bool false) (.slice none 0 0) := ?_); rotate_left; (· (refine Box.mono ?_ hd3; (repeat' (first | with_reducible assumption | with_reducible exact Box.new _ _ _ _ | with_reducible exact Box.new2 _ _ _ _ _ | with_reducible refine Box.mono ?_ (below_alloc _ _) | with_reducible refine Box.mono ?_ (Below.drew (Below.refl _ _)) | exact Box.new _ _ _ _ | exact Box.new2 _ _ _ _ _)); done)); have Nu30l := Nu30.lt; have Nu30b := Nu30; obtain ⟨Nu300, Nu301, Nu302, Nu303⟩ := Nu30)); (try ((have Nu31 : Box u3 (u1.heap.size) (.bool false) (.slice none 0 0) := ?_); rotate_left; (· (refine Box.mono ?_ hd3; (repeat' (first | with_reducible assumption | with_reducible exact Box.new _ _ _ _ | with_reducible exact Box.new2 _ _ _ _ _ | with_reducible refine Box.mono ?_ (below_alloc _ _) | with_reducible refine Box.mono ?_ (Below.drew (Below.refl _ _)) | exact Box.new _ _ _ _ | exact Box.new2 _ _ _ _ _)); done)); have Nu31l := Nu31.lt; have Nu31b := Nu31; obtain ⟨Nu310, Nu311, Nu312, Nu313⟩ := Nu31)); (try ((have Nu32 : Box u3 (u2.heap.size) (.bool false) (.slice none 0 0) := ?_); rotate_left; (· (refine Box.mono ?_ hd3; (repeat' (first | with_reducible assumption | with_reducible exact Box.new _ _ _ _ | with_reducible exact Box.new2 _ _ _ _ _ | with_reducible refine Box.mono ?_ (below_alloc _ _) | with_reducible refine Box.mono ?_ (Below.drew (Below.refl _ _)) | exact Box.new _ _ _ _ | exact Box.new2 _ _ _ _ _)); done)); have Nu32l := Nu32.lt; have Nu32b := Nu32; obtain ⟨Nu320, Nu321, Nu322, Nu323⟩ := Nu32))))
        all_goals (go_wp2_with fail; go_meet; exact ⟨⟨_, m3g, b3, q3, p3, k3, rfl, rfl, by (repeat' (first | with_reducible assumption | with_reducible exact Box.new _ _ _ _ | with_reducible exact Box.new2 _ _ _ _ _ | with_reducible refine Box.new' _ _ ?_ _ _ _ | with_reducible refine Box.set2Z ?_ _ _ | with_reducible refine Box.put2 ?_ ?_ _ _ | with_reducible refine Box.mono ?_ (below_alloc _ _) | with_reducible refine Box.mono ?_ (Below.drew (Below.refl _ _)) | with_reducible refine Box.mono ?_ hd3 | omega | (unfold World.setCell; simp; done))), Lib.hid (by (repeat' (first | with_reducible exact HK.out | with_reducible refine ResK.putFN ?_ ?_ | with_reducible refine ResK.mono ?_ (below_alloc _ _) | with_reducible refine ResK.mono ?_ (Below.drew (Below.refl _ _)) | with_reducible refine ResK.mono ?_ hd3 | (repeat' (first | with_reducible assumption | with_reducible exact Box.new _ _ _ _ | with_reducible exact Box.new2 _ _ _ _ _ | with_reducible refine Box.new' _ _ ?_ _ _ _ | with_reducible refine Box.set2Z ?_ _ _ | with_reducible refine Box.put2 ?_ ?_ _ _ | with_reducible refine Box.mono ?_ (below_alloc _ _) | with_reducible refine Box.mono ?_ (Below.drew (Below.refl _ _)) | with_reducible refine Box.mono ?_ hd3 | omega | (unfold World.setCell; simp; done))))))⟩, by (repeat' (first | with_reducible assumption | with_reducible exact Below.refl _ _ | with_reducible refine Below.drew ?_ | with_reducible refine Below.alloc ?_ ?_ _ | with_reducible refine Below.setCell ?_ ?_ _ | with_reducible refine Below.step ?_ hd3 ?_ | with_reducible refine Below.step ?_ hd2 ?_ | with_reducible refine Below.step ?_ hd1 ?_ | (first | exact Nat.le_refl _ | omega | (simp; done) | (simp; omega) | (unfold World.setCell; simp; done) | (unfold World.setCell; simp; omega))))⟩)
      case rest =>
        obtain ⟨⟨g5, ng5, ao5, n5, cap5, k5, rfl, rfl, X5, HR5⟩, hba⟩ := hcut
        have X1 := X1.mono hba
        have X2 := X2.mono hba
        have X3 := X3.mono hba
        have X4 := X4.mono hba
        have HV1 := Lib.hid (HV1.out.mono hba)
        have HV2 := Lib.hid (HV2.out.mono hba)
        have HV3 := Lib.hid (HV3.out.mono hba)
        have HV4 := Lib.hid (HV4.out.mono hba)
        have hE := hE.mono hba
        have hbw := Below.step hbw hba (Nat.le_refl _)
        clear hba
        obtain ⟨x0, x1, _, _⟩ := id X1
        obtain ⟨y0, y1, _, _⟩ := id X2
        go_wp2_with fail
        (with_reducible refine (rSub_any _ _ z1 z2 _ HV1.out HV2.out).mono ?_)
        rintro e w7 ⟨⟨ng6, ao6, n6, cap6, k6, rfl, HR6⟩, hb7⟩
        clear x0 x1 y0 y1
        have X3 := X3.mono hb7
        have X4 := X4.mono hb7
        have X5 := X5.mono hb7
        have HV3 := Lib.hid (HV3.out.mono hb7)
        have HV4 := Lib.hid (HV4.out.mono hb7)
        have HR5 := Lib.hid (HR5.out.mono hb7)
        have hE := hE.mono hb7
        have hbw := Below.step hbw hb7 (Nat.le_refl _)
        clear hb7
        obtain ⟨y5, hV5, hy5, hk5⟩ := HR5.out.some
        obtain ⟨y6, hV6, hy6, hk6⟩ := HR6.out.some
        have e1 : k5 = k6 := hk5.trans hk6.symm
        have e2 : y5 = y6 := hy5.trans hy6.symm
        subst e1 e2
        have HV5 := Lib.hid hV5
        have HV6 := Lib.hid hV6
        have hkk5 : (k5 == k5) = true := by simp
        clear hy5 hy6 hk5 hk6 hV5 hV6 HR5 HR6
        have l3 := X3.lt
        have l4 := X4.lt
        have l5 := X5.lt
        go_upto_region 8 with fail
        have X6 := Box.new w7 (.bool ng6) (.slice ao6 n6 cap6) 25
        have hb := below_alloc w7 (.cells #[.bool ng6, .slice ao6 n6 cap6] 25)
        generalize w7.alloc (.cells #[.bool ng6, .slice ao6 n6 cap6] 25) = w8 at *
        have X3 := X3.mono hb
        have X4 := X4.mono hb
        have X5 := X5.mono hb
        have HV3 := Lib.hid (HV3.out.mono hb)
        have HV4 := Lib.hid (HV4.out.mono hb)
        have HV5 := Lib.hid (HV5.out.mono hb)
        have HV6 := Lib.hid (HV6.out.mono hb)
        have hE := hE.mono hb
        have hbw := Below.step hbw hb (Nat.le_refl _)
        clear hb
        obtain ⟨x0, x1, _, _⟩ := id X3
        obtain ⟨y0, y1, _, _⟩ := id X4
        clear l3 l4 l5
        go_wp2_with fail
        (with_reducible refine (eqV_same y3 _ _ _ HV3.out HV4.out).mono ?_)
        rintro e w9 ⟨rfl, hb⟩
        clear x0 x1 y0 y1
        have X3 := X3.mono hb
        have X5 := X5.mono hb
        have X6 := X6.mono hb
        have HV3 := Lib.hid (HV3.out.mono hb)
        have HV5 := Lib.hid (HV5.out.mono hb)
        have HV6 := Lib.hid (HV6.out.mono hb)
        have hE := hE.mono hb
        have hbw := Below.step hbw hb (Nat.le_refl _)
        clear hb
        obtain ⟨x0, x1, _, _⟩ := id X5
        obtain ⟨y0, y1, _, _⟩ := id X6
        go_wp2_with fail
        (with_reducible refine (eqV_same y5 _ _ _ HV5.out HV6.out).mono ?_)
        rintro e wA ⟨rfl, hb⟩
        clear x0 x1 y0 y1
        have X3 := X3.mono hb
        have X5 := X5.mono hb
        have HV3 := Lib.hid (HV3.out.mono hb)
        have HV5 := Lib.hid (HV5.out.mono hb)
        have hE := hE.mono hb
        have hbw := Below.step hbw hb (Nat.le_refl _)
        clear hb
        obtain ⟨x0, x1, _, _⟩ := id X3
        go_wp2_with fail
        (with_reducible refine (validV _ y3 _ HV3.out hE).mono ?_)
        rintro e wB ⟨rfl, hb⟩
        clear x0 x1
        have X5 := X5.mono hb
        have HV5 := Lib.hid (HV5.out.mono hb)
        have hE := hE.mono hb
        have hbw := Below.step hbw hb (Nat.le_refl _)
        clear hb
        obtain ⟨x0, x1, _, _⟩ := id X5
        go_wp2_with fail
        (with_reducible refine (validV _ y5 _ HV5.out hE).mono ?_)
        rintro e wC ⟨rfl, hb⟩
        have hbw := Below.step hbw hb (Nat.le_refl _)
        clear x0 x1
        go_wp2
        go_ret
        exact ⟨rfl, hbw⟩

end Go.Proofs.YtijjagofingpdaaDoor
