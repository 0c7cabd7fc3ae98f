import Derived.Test.YtackeigdehfmmaaGreatDoorH1
namespace Go.Proofs.YtackeigdehfmmaaGreatDoor
open Go.RowKit

set_option maxRecDepth 100000 in
set_option maxHeartbeats 6400000 in
theorem again_many (z : Nat) (l : List OpE) (bits : List Nat) (a ab : Option Addr) (c cb : Nat) (w : World) (hz : z < 256) (hl : OpsE w a l) (hll : l.length ≤ 9223372036854775807) (hfew : Hid (¬ FewE l)) (hE : Env w) :
    Calls Tryz.prog 3 #[.int .u8 z, .slice a l.length c, .slice ab bits.length cb] w fun e w' => e = .returned (.bool true) ∧ Below w.heap.size w w' := by
  have hM := fun w hE => made_any (4 + z % 5) w (by omega) (by omega) hE
  have hA := fun w hE => awake_any w hE
  have hF := fun w' (h : Below w.heap.size w w') => Few_e l w' a c (hl.old h) hll false (Lib.hid (by simp [hfew.out]))
  rw [show ((4 + z % 5 : Nat) : Int) = 4 + (z : Int) % 5 by omega] at hM
  obtain ⟨S, hS⟩ : ∃ S, 4 + z % 5 = S := ⟨_, rfl⟩
  rw [hS] at hM
  have hS4 : 4 ≤ S := by omega
  have hS8 : S ≤ 8 := by omega
  have HL := Lib.hid hl
  clear hS hl hll
  go_enter Tryz.func3, Tryz.ntmps3
  go_wp2_with fail
  (with_reducible refine (hM w hE).mono ?_)
  rintro e w1 ⟨⟨p, G, v, rfl, HM⟩, hb1⟩
  obtain ⟨a1, c1, a2, c2, a3, c3, rfl, -⟩ := id HM.ref
  have hst := St.made HM hE hb1
  clear HM hM
  go_upto_region 2 with fail
  have hb2 := below_alloc w1 (.cells #[.slice a1 S c1, .slice a2 S c2, .slice a3 S c3] 28)
  generalize w1.alloc (.cells #[.slice a1 S c1, .slice a2 S c2, .slice a3 S c3] 28) = w2 at *
  have hb := Below.step hb1 hb2 (Nat.le_refl _)
  obtain ⟨hSt, hCx, hlo⟩ := hst
  have hE2 := hE.mono hb
  clear hb1 hb2
  generalize w1.heap.size = n at *
  go_wp2_with fail
  (with_reducible refine (hA w2 hE2).mono ?_)
  rintro e w3 ⟨rfl, hb3⟩
  have hb := Below.step hb hb3 (Nat.le_refl _)
  have hE3 := hE2.mono hb3
  have hSt := hSt.below hb3
  have hCx := hCx.mono hb3
  clear hb3
  go_wp2_with fail
  (with_reducible refine (hF w3 hb).mono ?_)
  rintro e w' ⟨rfl, rfl⟩
  clear hF
  go_wp2_with fail
  (with_reducible refine (hA w3 hE3).mono ?_)
  rintro e w4 ⟨rfl, hb4⟩
  go_wp2_with fail
  go_ret
  exact ⟨rfl, Below.step hb hb4 (Nat.le_refl _)⟩

set_option maxRecDepth 100000 in
set_option maxHeartbeats 6400000 in
theorem again_bits (z : Nat) (l : List OpE) (bits : List Nat) (a ab : Option Addr) (c cb : Nat) (w : World) (hz : z < 256) (hl : OpsE w a l) (hll : l.length ≤ 9223372036854775807) (hfew : Hid (FewE l)) (h20 : 20 < bits.length) (hE : Env w) :
    Calls Tryz.prog 3 #[.int .u8 z, .slice a l.length c, .slice ab bits.length cb] w fun e w' => e = .returned (.bool true) ∧ Below w.heap.size w w' := by
  have hd : decide ((20 : Int) < bits.length) = true := by simp <;> omega
  clear h20
  have hM := fun w hE => made_any (4 + z % 5) w (by omega) (by omega) hE
  have hA := fun w hE => awake_any w hE
  have hF := fun w' (h : Below w.heap.size w w') => Few_e l w' a c (hl.old h) hll true (Lib.hid (by simp [hfew.out]))
  rw [show ((4 + z % 5 : Nat) : Int) = 4 + (z : Int) % 5 by omega] at hM
  obtain ⟨S, hS⟩ : ∃ S, 4 + z % 5 = S := ⟨_, rfl⟩
  rw [hS] at hM
  have hS4 : 4 ≤ S := by omega
  have hS8 : S ≤ 8 := by omega
  have HL := Lib.hid hl
  clear hS hl hll
  go_enter Tryz.func3, Tryz.ntmps3
  go_wp2_with fail
  (with_reducible refine (hM w hE).mono ?_)
  rintro e w1 ⟨⟨p, G, v, rfl, HM⟩, hb1⟩
  obtain ⟨a1, c1, a2, c2, a3, c3, rfl, -⟩ := id HM.ref
  have hst := St.made HM hE hb1
  clear HM hM
  go_upto_region 2 with fail
  have hb2 := below_alloc w1 (.cells #[.slice a1 S c1, .slice a2 S c2, .slice a3 S c3] 28)
  generalize w1.alloc (.cells #[.slice a1 S c1, .slice a2 S c2, .slice a3 S c3] 28) = w2 at *
  have hb := Below.step hb1 hb2 (Nat.le_refl _)
  obtain ⟨hSt, hCx, hlo⟩ := hst
  have hE2 := hE.mono hb
  clear hb1 hb2
  generalize w1.heap.size = n at *
  go_wp2_with fail
  (with_reducible refine (hA w2 hE2).mono ?_)
  rintro e w3 ⟨rfl, hb3⟩
  have hb := Below.step hb hb3 (Nat.le_refl _)
  have hE3 := hE2.mono hb3
  have hSt := hSt.below hb3
  have hCx := hCx.mono hb3
  clear hb3
  go_wp2_with fail
  (with_reducible refine (hF w3 hb).mono ?_)
  rintro e w' ⟨rfl, rfl⟩
  clear hF
  go_wp2_with fail
  (with_reducible refine (hA w3 hE3).mono ?_)
  rintro e w4 ⟨rfl, hb4⟩
  go_wp2_with fail
  go_ret
  exact ⟨rfl, Below.step hb hb4 (Nat.le_refl _)⟩

set_option maxRecDepth 100000 in
set_option maxHeartbeats 6400000 in
theorem again_main (z : Nat) (l : List OpE) (bits : List Nat) (a ab : Option Addr) (c cb : Nat) (w : World) (hz : z < 256) (hl : OpsE w a l) (hll : l.length ≤ 9223372036854775807) (hfew : Hid (FewE l)) (h20 : bits.length ≤ 20) (hbr0 : RG w (fun _ => False) ab (uvs bits)) (hE : Env w) :
    Calls Tryz.prog 3 #[.int .u8 z, .slice a l.length c, .slice ab bits.length cb] w fun e w' => e = .returned (.bool true) ∧ Below w.heap.size w w' := by
  have hd : decide ((20 : Int) < bits.length) = false := by simp <;> omega
  have HB := Lib.hid hbr0
  clear hbr0
  have hM := fun w hE => made_any (4 + z % 5) w (by omega) (by omega) hE
  have hA := fun w hE => awake_any w hE
  have hF := fun w' (h : Below w.heap.size w w') => Few_e l w' a c (hl.old h) hll true (Lib.hid (by simp [hfew.out]))
  rw [show ((4 + z % 5 : Nat) : Int) = 4 + (z : Int) % 5 by omega] at hM
  obtain ⟨S, hS⟩ : ∃ S, 4 + z % 5 = S := ⟨_, rfl⟩
  rw [hS] at hM
  have hS4 : 4 ≤ S := by omega
  have hS8 : S ≤ 8 := by omega
  have HL := Lib.hid hl
  clear hS hl hll
  go_enter Tryz.func3, Tryz.ntmps3
  go_wp2_with fail
  (with_reducible refine (hM w hE).mono ?_)
  rintro e w1 ⟨⟨p, G, v, rfl, HM⟩, hb1⟩
  obtain ⟨a1, c1, a2, c2, a3, c3, rfl, -⟩ := id HM.ref
  have hst := St.made HM hE hb1
  clear HM hM
  go_upto_region 2 with fail
  have hb2 := below_alloc w1 (.cells #[.slice a1 S c1, .slice a2 S c2, .slice a3 S c3] 28)
  generalize w1.alloc (.cells #[.slice a1 S c1, .slice a2 S c2, .slice a3 S c3] 28) = w2 at *
  have hb := Below.step hb1 hb2 (Nat.le_refl _)
  obtain ⟨hSt, hCx, hlo⟩ := hst
  have hE2 := hE.mono hb
  clear hb1 hb2
  generalize w1.heap.size = n at *
  go_wp2_with fail
  (with_reducible refine (hA w2 hE2).mono ?_)
  rintro e w3 ⟨rfl, hb3⟩
  have hb := Below.step hb hb3 (Nat.le_refl _)
  have hE3 := hE2.mono hb3
  have hSt := hSt.below hb3
  have hCx := hCx.mono hb3
  clear hb3
  go_wp2_with fail
  (with_reducible refine (hF w3 hb).mono ?_)
  rintro e w' ⟨rfl, rfl⟩
  clear hF
  go_wp2_with fail
  have hl40 := hfew.out.len
  have HBW := Lib.hid hb
  have HLO := Lib.hid hlo
  clear hb hE2
  go_loopw [49] (fun s wr => ∃ (k : Nat) (d : Wl.Dk), k ≤ l.length ∧ s = .int .i64 k ∧ St wr G p n S d ∧ Kept (fun b => G b ∨ b = n) w3 wr) (fun s _ => l.length - (intOf s).toNat)
  case atStart => exact ⟨0, _, Nat.zero_le _, rfl, hSt, Kept.refl _⟩
  case round =>
    clear hSt
    obtain ⟨k, d, hk, rfl, hSt, hkw⟩ := hrel
    have hCw := hCx.kept hkw
    have hbw : Below w.heap.size w wr := HBW.out.trans (hkw.below HLO.out HBW.out.size)
    by_cases hlt : k < l.length
    · obtain ⟨o, ho⟩ : ∃ o, l[k]? = some o := ⟨_, List.getElem?_eq_getElem hlt⟩
      obtain ⟨b, off, rfl, hat⟩ := (HL.out.old hbw) k o ho
      have hol := hfew.out.text o (List.mem_of_getElem? ho)
      have hbr := (HL.out k o ho)
      obtain ⟨b', off', -, hat0⟩ := hbr
      have HBR := Lib.hid hat0.br
      have hbn := hat0.bn
      clear hat0
      obtain ⟨ok, oat, otx, oba, obl, obc⟩ := o
      obtain ⟨g0, g1, g2, g3, hk256, hat1, -, -⟩ := hat
      dsimp only at g0 g1 g2 g3 hk256 hat1 hol HBR hbn
      clear ho
      go_upto_region 7 with fail
      have hba := below_alloc wr (.cells #[.int .u8 ok, .int .i8 oat, sv otx, .slice oba obl.length obc] 35)
      have hrow : Row (wr.alloc (.cells #[.int .u8 ok, .int .i8 oat, sv otx, .slice oba obl.length obc] 35)) wr.heap.size 35 [.int .u8 ok, .int .i8 oat, sv otx, .slice oba obl.length obc] := heap_alloc_new _ _
      have HN14 : Hid (¬ (G wr.heap.size ∨ wr.heap.size = n)) := Lib.hid (fun hg => Nat.lt_irrefl _ (hCw.lt _ hg))
      generalize wr.alloc (.cells #[.int .u8 ok, .int .i8 oat, sv otx, .slice oba obl.length obc] 35) = wa at *
      have hSt := hSt.below hba
      have hkw := hkw.trans (.of_below hba)
      have hCw := hCw.mono hba
      have hbwa := Below.step hbw hba (Nat.le_refl _)
      clear hba g0 g1 g2 g3 hbw
      generalize wr.heap.size = n14 at *
      obtain ⟨o0, o1, o2, o3⟩ := Row4 hrow
      have hDo := do_any (bc := obc) ok oat otx hSt hCw hk256 hat1 hol hbn (HBR.out.oldE hbwa HLO.out)
      go_wp2_with fail
      (with_reducible refine hDo.mono ?_)
      rintro e w5 ⟨rfl, ⟨d', hSt5⟩, hk5⟩
      clear hDo hSt
      go_wp2
      go_roundw
      case rel => exact ⟨k + 1, d', by omega, by go_num, hSt5, hkw.trans hk5⟩
      case measure => simp [intOf]; omega
    · have hlt' : decide ((k : Int) < (l.length : Int)) = false := by simp; omega
      have hlt2 : decide (k < l.length) = false := by simp; omega
      have hCG : Cx wr G := ⟨fun w' hk => hCw.all w' (hk.wider (fun b hb => Or.inl hb)), fun b hb => hCw.lt b (.inl hb)⟩
      have hD := hSt.disk
      have hS := hD.S_le
      have HGL := Lib.hid (fun b (hb : G b) => HLO.out b (.inl hb))
      clear hlt hk hSt hCw hCx
      cases hlog : Wl.log d.now with
      | none =>
        have hR := Recover_none hD hCG.env (Lib.hid hlog)
        clear hlog
        go_wp2_with fail
        (with_reducible refine hR.mono ?_)
        rintro e w4 ⟨rfl, hb4⟩
        go_wp2
        go_ret
        exact ⟨rfl, Below.step hbw hb4 (Nat.le_refl _)⟩
      | some L =>
        obtain ⟨hag1, hag2, hag3⟩ := Wl.again hlog bits
        have HL1 := Lib.hid hlog
        have HL3 := Lib.hid hag3
        have HL2 := Lib.hid hag1
        have hlr := (Wl.log_le hlog).2.2.1
        rw [hD.ok.now] at hlr
        have hR := Recover_some L hD hCG HL1
        clear hlog hag1 hag2 hag3
        go_wp2_with fail
        (with_reducible refine hR.mono ?_)
        rintro e w4 ⟨⟨v, rfl, hown⟩, hD4, hk4⟩
        obtain ⟨ao, cap, rfl, -, -⟩ := hown.read
        simp only [List.length_map] at hown ⊢
        have hCG4 := hCG.kept hk4
        have hb4 := hbw.trans (hk4.below HGL.out hbw.size)
        have hCr := Crash_any bits ab cb hD4 hCG4.lt (HB.out.oldE hb4 HGL.out) (by omega)
        rw [HL2.out] at hCr
        clear hR hD
        go_wp2_with fail
        (with_reducible refine hCr.mono ?_)
        rintro e w5 ⟨rfl, hD5, hk5⟩
        have hCG5 := hCG4.kept hk5
        have hb5 := hb4.trans (hk5.below HGL.out hb4.size)
        have hown := hown.kept hk5 hCG.lt
        have hR := Recover_some L hD5 hCG5 HL3
        clear hCr hD4 hCG4 hb4
        simp only [List.length_nil] at *
        go_wp2_with fail
        (with_reducible refine hR.mono ?_)
        rintro e w6 ⟨⟨v6, rfl, hown6⟩, hD6, hk6⟩
        obtain ⟨ao6, cap6, rfl, -, hg6⟩ := hown6.read
        have hown := hown.kept hk6 hCG.lt
        obtain ⟨ao', cap', e1, -, hg1⟩ := hown.read
        simp only [Value.slice.injEq] at e1
        obtain ⟨rfl, -, rfl⟩ := e1
        simp only [List.length_map] at hown6 ⊢
        have hb6 := hb5.trans (hk6.below HGL.out hb5.size)
        have hSm := Same_yes L.recs w6 (fun _ => False) (fun _ => False) ao ao6 cap cap6 (hg1 _ (fun _ h => h.elim)) (hg6 _ (fun _ h => h.elim)) (by omega)
        clear hR hg1 hg6 hown hown6 hD5 hD6 hb5
        go_wp2_with fail
        (with_reducible refine hSm.mono ?_)
        rintro e w7 ⟨rfl, hb7⟩
        clear hSm
        go_wp2
        go_ret
        exact ⟨rfl, Below.step hb6 hb7 (Nat.le_refl _)⟩

/-- 'WalAgain' answers true -/
theorem again_law (z : Nat) (l : List OpE) (bits : List Nat) (a ab : Option Addr) (c cb : Nat) (w : World) (hz : z < 256) (hl : OpsE w a l) (hll : l.length ≤ 9223372036854775807) (hbr0 : RG w (fun _ => False) ab (uvs bits)) (hE : Env w) :
    Calls Tryz.prog 3 #[.int .u8 z, .slice a l.length c, .slice ab bits.length cb] w fun e w' => e = .returned (.bool true) ∧ Below w.heap.size w w' := by
  by_cases hf : FewE l
  · by_cases h20 : bits.length ≤ 20
    · exact again_main z l bits a ab c cb w hz hl hll (Lib.hid hf) h20 hbr0 hE
    · exact again_bits z l bits a ab c cb w hz hl hll (Lib.hid hf) (by omega) hE
  · exact again_many z l bits a ab c cb w hz hl hll (Lib.hid hf) hE

end Go.Proofs.YtackeigdehfmmaaGreatDoor
