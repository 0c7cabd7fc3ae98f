import Derived.Test.YtackeigdehfmmaaGreatDoorH1
namespace Go.Proofs.YtackeigdehfmmaaGreatDoor
open Go.RowKit

set_option maxRecDepth 100000 in
set_option maxHeartbeats 6400000 in
theorem script_many (z : Nat) (l : List OpE) (a : Option Addr) (c : Nat) (w : World) (hz : z < 256) (hl : OpsE w a l) (hll : l.length ≤ 9223372036854775807) (hfew : Hid (¬ FewE l)) (hE : Env w) :
    Calls Tryz.prog 4 #[.int .u8 z, .slice a l.length c] w fun e w' => e = .returned (.bool true) ∧ Below w.heap.size w w' := by
  have hM := fun w hE => made_any (4 + z % 5) w (by omega) (by omega) hE
  have hA := fun w hE => awake_any w hE
  have hF := fun w' (h : Below w.heap.size w w') => Few_e l w' a c (hl.old h) hll false (Lib.hid (by simp [hfew.out]))
  rw [show ((4 + z % 5 : Nat) : Int) = 4 + (z : Int) % 5 by omega] at hM
  obtain ⟨S, hS⟩ : ∃ S, 4 + z % 5 = S := ⟨_, rfl⟩
  rw [hS] at hM
  have hS4 : 4 ≤ S := by omega
  have hS8 : S ≤ 8 := by omega
  have HL := Lib.hid hl
  clear hS hl hll
  go_enter Tryz.func4, Tryz.ntmps4
  go_wp2_with fail
  (with_reducible refine (hM w hE).mono ?_)
  rintro e w1 ⟨⟨p, G, v, rfl, HM⟩, hb1⟩
  obtain ⟨a1, c1, a2, c2, a3, c3, rfl, -⟩ := id HM.ref
  have hst := St.made HM hE hb1
  clear HM hM
  go_upto_region 2 with fail
  have hb2 := below_alloc w1 (.cells #[.slice a1 S c1, .slice a2 S c2, .slice a3 S c3] 28)
  generalize w1.alloc (.cells #[.slice a1 S c1, .slice a2 S c2, .slice a3 S c3] 28) = w2 at *
  have hb := Below.step hb1 hb2 (Nat.le_refl _)
  obtain ⟨hSt, hCx, hlo⟩ := hst
  have hE2 := hE.mono hb
  clear hb1 hb2
  generalize w1.heap.size = n at *
  go_wp2_with fail
  (with_reducible refine (hA w2 hE2).mono ?_)
  rintro e w3 ⟨rfl, hb3⟩
  have hb := Below.step hb hb3 (Nat.le_refl _)
  have hE3 := hE2.mono hb3
  have hSt := hSt.below hb3
  have hCx := hCx.mono hb3
  clear hb3
  go_wp2_with fail
  (with_reducible refine (hF w3 hb).mono ?_)
  rintro e w' ⟨rfl, rfl⟩
  clear hF
  go_wp2_with fail
  (with_reducible refine (hA w3 hE3).mono ?_)
  rintro e w4 ⟨rfl, hb4⟩
  go_wp2_with fail
  go_ret
  exact ⟨rfl, Below.step hb hb4 (Nat.le_refl _)⟩

set_option maxRecDepth 100000 in
set_option maxHeartbeats 6400000 in
theorem script_main (z : Nat) (l : List OpE) (a : Option Addr) (c : Nat) (w : World) (hz : z < 256) (hl : OpsE w a l) (hll : l.length ≤ 9223372036854775807) (hfew : Hid (FewE l)) (hE : Env w) :
    Calls Tryz.prog 4 #[.int .u8 z, .slice a l.length c] w fun e w' => e = .returned (.bool true) ∧ Below w.heap.size w w' := by
  have hM := fun w hE => made_any (4 + z % 5) w (by omega) (by omega) hE
  have hA := fun w hE => awake_any w hE
  have hF := fun w' (h : Below w.heap.size w w') => Few_e l w' a c (hl.old h) hll true (Lib.hid (by simp [hfew.out]))
  rw [show ((4 + z % 5 : Nat) : Int) = 4 + (z : Int) % 5 by omega] at hM
  obtain ⟨S, hS⟩ : ∃ S, 4 + z % 5 = S := ⟨_, rfl⟩
  rw [hS] at hM
  have hS4 : 4 ≤ S := by omega
  have hS8 : S ≤ 8 := by omega
  have HL := Lib.hid hl
  clear hS hl hll
  go_enter Tryz.func4, Tryz.ntmps4
  go_wp2_with fail
  (with_reducible refine (hM w hE).mono ?_)
  rintro e w1 ⟨⟨p, G, v, rfl, HM⟩, hb1⟩
  obtain ⟨a1, c1, a2, c2, a3, c3, rfl, -⟩ := id HM.ref
  have hst := St.made HM hE hb1
  clear HM hM
  go_upto_region 2 with fail
  have hb2 := below_alloc w1 (.cells #[.slice a1 S c1, .slice a2 S c2, .slice a3 S c3] 28)
  generalize w1.alloc (.cells #[.slice a1 S c1, .slice a2 S c2, .slice a3 S c3] 28) = w2 at *
  have hb := Below.step hb1 hb2 (Nat.le_refl _)
  obtain ⟨hSt, hCx, hlo⟩ := hst
  have hE2 := hE.mono hb
  clear hb1 hb2
  generalize w1.heap.size = n at *
  go_wp2_with fail
  (with_reducible refine (hA w2 hE2).mono ?_)
  rintro e w3 ⟨rfl, hb3⟩
  have hb := Below.step hb hb3 (Nat.le_refl _)
  have hE3 := hE2.mono hb3
  have hSt := hSt.below hb3
  have hCx := hCx.mono hb3
  clear hb3
  go_wp2_with fail
  (with_reducible refine (hF w3 hb).mono ?_)
  rintro e w' ⟨rfl, rfl⟩
  clear hF
  go_wp2_with fail
  have hl40 := hfew.out.len
  have HBW := Lib.hid hb
  have HLO := Lib.hid hlo
  clear hb hE2
  go_loopw [40] (fun s wr => ∃ (k : Nat) (d : Wl.Dk), k ≤ l.length ∧ s = .int .i64 k ∧ St wr G p n S d ∧ Kept (fun b => G b ∨ b = n) w3 wr) (fun s _ => l.length - (intOf s).toNat)
  case atStart => exact ⟨0, _, Nat.zero_le _, rfl, hSt, Kept.refl _⟩
  case round =>
    clear hSt
    obtain ⟨k, d, hk, rfl, hSt, hkw⟩ := hrel
    have hCw := hCx.kept hkw
    have hbw : Below w.heap.size w wr := HBW.out.trans (hkw.below HLO.out HBW.out.size)
    by_cases hlt : k < l.length
    · obtain ⟨o, ho⟩ : ∃ o, l[k]? = some o := ⟨_, List.getElem?_eq_getElem hlt⟩
      obtain ⟨b, off, rfl, hat⟩ := (HL.out.old hbw) k o ho
      have hol := hfew.out.text o (List.mem_of_getElem? ho)
      have hbr := (HL.out k o ho)
      obtain ⟨b', off', -, hat0⟩ := hbr
      have HBR := Lib.hid hat0.br
      have hbn := hat0.bn
      clear hat0
      obtain ⟨ok, oat, otx, oba, obl, obc⟩ := o
      obtain ⟨g0, g1, g2, g3, hk256, hat1, -, -⟩ := hat
      dsimp only at g0 g1 g2 g3 hk256 hat1 hol HBR hbn
      clear ho
      go_upto_region 7 with fail
      have hba := below_alloc wr (.cells #[.int .u8 ok, .int .i8 oat, sv otx, .slice oba obl.length obc] 35)
      have hrow : Row (wr.alloc (.cells #[.int .u8 ok, .int .i8 oat, sv otx, .slice oba obl.length obc] 35)) wr.heap.size 35 [.int .u8 ok, .int .i8 oat, sv otx, .slice oba obl.length obc] := heap_alloc_new _ _
      have HN14 : Hid (¬ (G wr.heap.size ∨ wr.heap.size = n)) := Lib.hid (fun hg => Nat.lt_irrefl _ (hCw.lt _ hg))
      generalize wr.alloc (.cells #[.int .u8 ok, .int .i8 oat, sv otx, .slice oba obl.length obc] 35) = wa at *
      have hSt := hSt.below hba
      have hkw := hkw.trans (.of_below hba)
      have hCw := hCw.mono hba
      have hbwa := Below.step hbw hba (Nat.le_refl _)
      clear hba g0 g1 g2 g3 hbw
      generalize wr.heap.size = n14 at *
      have hRm := Room_u hSt.disk hCw.env
      go_wp2_with fail
      (with_reducible refine hRm.mono ?_)
      rintro e w5 ⟨rfl, hb5⟩
      clear hRm
      have hSt := hSt.below hb5
      have hCw := hCw.mono hb5
      have hkw := hkw.trans (.of_below hb5)
      have hrow := hrow.below hb5
      have hbwa := Below.step hbwa hb5 (Nat.le_refl _)
      obtain ⟨b1, m1, b2, m2, b3, m3, rN, RD⟩ := hSt.box.ex
      have hRr := rRoom_u (c1 := m1) (c2 := m2) (c3 := m3) RD hCw.env
      obtain ⟨z0, z1, z2, _, _, _⟩ := Row3 rN
      clear hb5 RD rN
      go_wp2_with fail
      (with_reducible refine hRr.mono ?_)
      rintro e w6 ⟨rfl, hb6⟩
      clear hRr z0 z1 z2
      have hSt := hSt.below hb6
      have hCw := hCw.mono hb6
      have hkw := hkw.trans (.of_below hb6)
      have hrow := hrow.below hb6
      have hbwa := Below.step hbwa hb6 (Nat.le_refl _)
      have hDo := do_any (bc := obc) ok oat otx hSt hCw hk256 hat1 hol hbn (HBR.out.oldE hbwa HLO.out)
      generalize (Wl.room d).1 = r1 at *
      generalize (Wl.room d).2 = r2 at *
      obtain ⟨o0, o1, o2, o3⟩ := Row4 hrow
      go_wp2_with fail
      (with_reducible refine hDo.mono ?_)
      rintro e w7 ⟨rfl, ⟨d', hSt7⟩, hk7⟩
      have hkw := hkw.trans hk7
      obtain ⟨b1, m1, b2, m2, b3, m3, rN, RD⟩ := hSt7.box.ex
      have hSm := same_any (c1 := m1) (c2 := m2) (c3 := m3) hSt7.disk RD
      obtain ⟨z0, z1, z2, _, _, _⟩ := Row3 rN
      clear hDo hSt hCw o0 o1 o2 o3
      go_wp2_with fail
      (with_reducible refine hSm.mono ?_)
      rintro e w8 ⟨rfl, hb8⟩
      clear hSm z0 z1 z2
      go_wp2
      go_roundw
      case rel => exact ⟨k + 1, d', by omega, by go_num, hSt7.below hb8, hkw.trans (.of_below hb8)⟩
      case measure => simp [intOf]; omega
    · have hlt' : decide ((k : Int) < (l.length : Int)) = false := by simp; omega
      have hlt2 : decide (k < l.length) = false := by simp; omega
      go_wp2
      go_ret
      exact ⟨rfl, hbw⟩

/-- 'WalScript' answers true -/
theorem script_law (z : Nat) (l : List OpE) (a : Option Addr) (c : Nat) (w : World) (hz : z < 256) (hl : OpsE w a l) (hll : l.length ≤ 9223372036854775807) (hE : Env w) :
    Calls Tryz.prog 4 #[.int .u8 z, .slice a l.length c] w fun e w' => e = .returned (.bool true) ∧ Below w.heap.size w w' := by
  by_cases hf : FewE l
  · exact script_main z l a c w hz hl hll (Lib.hid hf) hE
  · exact script_many z l a c w hz hl hll (Lib.hid hf) hE

end Go.Proofs.YtackeigdehfmmaaGreatDoor
