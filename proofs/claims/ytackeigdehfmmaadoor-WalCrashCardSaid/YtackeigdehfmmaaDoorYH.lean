import Derived.Test.YtackeigdehfmmaaDoorYG
namespace Wl
open Go
theorem rfmt_eq {d d' : Dk} {S : Nat} (hS : d.now.length = S) (h4 : 4 ≤ S) (h' : d'.now.length = S) (he : ∀ j, j < S → d'.now.getD j [] = []) : (d'.wrt 0 (enc 0 [48])).syn = d.fmt.1 := fmt_eq hS h4 h' he
end Wl
namespace Go.Proofs.YtackeigdehfmmaaDoor
open Go.RowKit

theorem RefD.lift {w w' : World} {G H : Nat → Prop} {S : Nat} {a1 a2 a3 : Option Addr} {d : Wl.Dk} (h : RefD w G S a1 a2 a3 d) (hb : Below w.heap.size w w') (hH : ∀ b, b < w.heap.size → H b → G b) : RefD w' H S a1 a2 a3 d :=
  ⟨h.now.lift hb hH, h.old.lift hb hH, h.dirty.lift hb hH, h.ok, h.lo, h.hi⟩
theorem RefD.narrow {w : World} {G H : Nat → Prop} {S : Nat} {a1 a2 a3 : Option Addr} {d : Wl.Dk} (h : RefD w H S a1 a2 a3 d) (hH : ∀ b, G b → H b) : RefD w G S a1 a2 a3 d :=
  ⟨h.now.narrow hH, h.old.narrow hH, h.dirty.narrow hH, h.ok, h.lo, h.hi⟩

section
variable {w : World} {G : Nat → Prop} {S : Nat} {d : Wl.Dk}

theorem rFormat_no {a1 a2 a3 : Option Addr} {c1 c2 c3 : Nat} (h : RefD w G S a1 a2 a3 d) (hS : S < 4) :
    Calls Tryd.prog 37 #[.agg #[.slice a1 S c1, .slice a2 S c2, .slice a3 S c3]] w fun e w' => ResW G S d 7 w' e ∧ Below w.heap.size w w' := by
  have H := Lib.hid h
  have d0 : decide ((S : Int) < 4) = true := by simp <;> omega
  clear h
  go_enter Tryd.func37, Tryd.ntmps37
  go_wp2
  have hb : Below w.heap.size w ((w.alloc (.cells #[.slice a1 S c1, .slice a2 S c2, .slice a3 S c3] 36)).alloc (.cells #[.slice a1 S c1, .slice a2 S c2, .slice a3 S c3] 36)) := ((Below.refl _ _).alloc (Nat.le_refl _) _).alloc (by simp) _
  refine bodyPost_ret (v := .tuple #[.agg #[.slice a1 S c1, .slice a2 S c2, .slice a3 S c3], .int .i64 7]) (by simp [results, Tryd.results37, go_sem]) rfl ⟨⟨_, rfl, RefV.mk (H.out.mono hb)⟩, hb⟩

set_option maxRecDepth 100000 in
set_option maxHeartbeats 3200000 in
theorem rFormat_yes {a1 a2 a3 : Option Addr} {c1 c2 c3 : Nat} (hG : ∀ b, G b → b < w.heap.size) (h : RefD w G S a1 a2 a3 d) (hE : Env w) (hS : 4 ≤ S) :
    Calls Tryd.prog 37 #[.agg #[.slice a1 S c1, .slice a2 S c2, .slice a3 S c3]] w fun e w' => ResW G S d.fmt.1 0 w' e ∧ Below w.heap.size w w' := by
  have hhi := h.hi
  have HG := Lib.hid hG
  have HOK := Lib.hid h.ok
  clear hG
  have d0 : decide ((S : Int) < 4) = false := by simp <;> omega
  go_enter Tryd.func37, Tryd.ntmps37
  go_upto_region 1 with fail
  have hbx := (below_alloc w (.cells #[.slice a1 S c1, .slice a2 S c2, .slice a3 S c3] 36))
  have hby := below_alloc (w.alloc (.cells #[.slice a1 S c1, .slice a2 S c2, .slice a3 S c3] 36)) (.cells #[.slice none 0 0, .slice none 0 0, .slice none 0 0] 36)
  have hb := Below.step hbx hby (Nat.le_refl _)
  obtain ⟨hA, hB⟩ := heap2 w (.cells #[.slice a1 S c1, .slice a2 S c2, .slice a3 S c3] 36) (.cells #[.slice none 0 0, .slice none 0 0, .slice none 0 0] 36)
  clear hbx hby
  generalize ((w.alloc (.cells #[.slice a1 S c1, .slice a2 S c2, .slice a3 S c3] 36)).alloc (.cells #[.slice none 0 0, .slice none 0 0, .slice none 0 0] 36)) = wr at *
  have rA : Row wr w.heap.size 36 [.slice a1 S c1, .slice a2 S c2, .slice a3 S c3] := hA
  have rB : Row wr (w.heap.size + 1) 36 [.slice none 0 0, .slice none 0 0, .slice none 0 0] := hB
  obtain ⟨H, hH⟩ : ∃ H : Nat → Prop, ∀ b, H b ↔ (G b ∨ b = w.heap.size ∨ b = w.heap.size + 1) := ⟨_, fun _ => Iff.rfl⟩
  have hltB := rB.lt
  have hR : RefD wr H S a1 a2 a3 d := h.lift hb (fun b hlt hh => by rcases (hH b).1 hh with h' | h' | h'; exact h'; omega; omega)
  have HGH : Hid (∀ b, G b → H b) := Lib.hid (fun b hb' => (hH b).2 (.inl hb'))
  have HnA : Hid (∀ b, b = w.heap.size → H b) := Lib.hid (fun b hb' => (hH b).2 (.inr (.inl hb')))
  have HnB : Hid (∀ b, b = w.heap.size + 1 → H b) := Lib.hid (fun b hb' => (hH b).2 (.inr (.inr hb')))
  have HLT : Hid (∀ b, H b → b < wr.heap.size) := Lib.hid (fun b hb' => by rcases (hH b).1 hb' with h' | h' | h'; have := HG.out b h'; omega; omega; omega)
  have HR := Lib.hid hR
  clear hA hB h hH hR
  obtain ⟨k0, _, _, _, _, _⟩ := Row3 rA
  go_wp2_with fail
  clear k0 d0
  obtain ⟨wl, rfl⟩ : ∃ wl : World, wl = wr := ⟨_, rfl⟩
  go_loopw [4] (fun s4 wr => ∃ (k : Nat) (d' : Wl.Dk) (b1 b2 b3 : Option Addr) (m1 m2 m3 : Nat), k ≤ S ∧ s4 = .int .i64 k ∧ Hid (Row wr w.heap.size 36 [.slice b1 S m1, .slice b2 S m2, .slice b3 S m3]) ∧ Hid (Row wr (w.heap.size + 1) 36 [.slice none 0 0, .slice none 0 0, .slice none 0 0]) ∧
      Hid (RefD wr H S b1 b2 b3 d') ∧ Hid (∀ j, j < k → d'.now.getD j [] = []) ∧ Below w.heap.size w wr ∧ wl.heap.size ≤ wr.heap.size) (fun s4 _ => S - (intOf s4).toNat)
  case atStart => exact ⟨0, d, a1, a2, a3, c1, c2, c3, Nat.zero_le _, rfl, Lib.hid rA, Lib.hid rB, HR, Lib.hid (fun j hj => by omega), hb, Nat.le_refl _⟩
  case round =>
    clear rA rB HR
    obtain ⟨k, d', b1, b2, b3, m1, m2, m3, hk, rfl, RA, RB, RD, HZ, hbw, hsz⟩ := hrel
    obtain ⟨k0, k1, k2, f0, f1, f2⟩ := Row3 RA.out
    by_cases hlt : k < S
    · have hP := rput_yes (w := wr) (G := H) (c1 := m1) (c2 := m2) (c3 := m3) k [] (fun b hb' => Nat.lt_of_lt_of_le (HLT.out b hb') hsz) RD.out hlt (by simp)
      have hlA := RA.out.lt
      go_wp2_with fail
      (with_reducible refine hP.mono ?_)
      rintro e w1 ⟨⟨v, rfl, e1, n1, e2, n2, e3, n3, rfl, hR1⟩, hb1⟩
      clear hP k0 k1 k2 f0 f1 f2
      have RA := RA.out.below hb1
      have RB := Lib.hid (RB.out.below hb1)
      obtain ⟨k0, k1, k2, f0, f1, f2⟩ := Row3 RA
      have RA2 := Lib.hid (RA.put3 (.slice e1 S n1) (.slice e2 S n2) (.slice e3 S n3))
      have RB2 := Lib.hid (RB.out.other3 (show w.heap.size + 1 ≠ w.heap.size by omega) (.slice e1 S n1) (.slice e2 S n2) (.slice e3 S n3))
      have RD2 := Lib.hid (hR1.kept ((put3_kept w1 w.heap.size (.slice e1 S n1) (.slice e2 S n2) (.slice e3 S n3)).wider HnA.out))
      have HZ2 : Hid (∀ j, j < k + 1 → (d'.wrt k []).now.getD j [] = []) := Lib.hid (Wl.wrt_empty RD.out.ok.now HZ.out hlt)
      have hbf := (((Below.step hbw hb1 (Nat.le_refl _)).setCell (p := ⟨w.heap.size, 0, none⟩) (Nat.le_refl _) (.slice e1 S n1)).setCell (p := ⟨w.heap.size, 1, none⟩) (Nat.le_refl _) (.slice e2 S n2)).setCell (p := ⟨w.heap.size, 2, none⟩) (Nat.le_refl _) (.slice e3 S n3)
      have hs1 := hb1.size
      clear RA RB RD HZ hR1 hb1
      go_wp2
      go_roundw
      case rel => exact ⟨k + 1, d'.wrt k [], e1, e2, e3, n1, n2, n3, by omega, by go_num, RA2, RB2, RD2, HZ2, hbf, by simp [World.setCell]; omega⟩
      case measure => simp [intOf]; omega
    · have hk2 : k = S := by omega
      have HE : Hid ((d'.wrt 0 (Wl.enc 0 [48])).syn = d.fmt.1) := Lib.hid (Wl.rfmt_eq HOK.out.now hS RD.out.ok.now (hk2 ▸ HZ.out))
      clear hk2
      have hel := Wl.enc_len 0 [48]
      obtain ⟨E, hE0⟩ : ∃ E, E = Wl.enc 0 [48] := ⟨_, rfl⟩
      rw [← hE0] at HE hel
      have HE0 := Lib.hid hE0
      clear hE0
      have hEr := hE.mono hbw
      have hEn := fun (W : World) (hW : Below wr.heap.size wr W) => rEncode_any 0 [48] W (by simp) (hEr.mono hW)
      rw [← HE0.out] at hEn
      have hPu := fun (W : World) (hW : Below wr.heap.size wr W) => rput_yes (w := W) (G := H) (c1 := m1) (c2 := m2) (c3 := m3) 0 E (fun b hb' => Nat.lt_of_lt_of_le (HLT.out b hb') (Nat.le_trans hsz hW.size)) (RD.out.mono hW) (by omega) (by omega)
      rw [show ((0 : Nat) : Int) = 0 from rfl] at hPu
      obtain ⟨r0, r1, r2, g0, g1, g2⟩ := Row3 RB.out
      have hlA := RA.out.lt
      have hlB := RB.out.lt
      go_wp2_with fail
      go_region_with (first
        | (go_at_call 9; (with_reducible refine (hEn _ ?_).mono ?_); (repeat' (first | with_reducible assumption | with_reducible exact Below.refl _ _ | with_reducible refine Below.drew ?_ | (first | exact Nat.le_refl _ | omega | (simp; done)))); rintro e t1 ⟨rfl, he1⟩; have HT1 : Below wr.heap.size wr t1 := (by (repeat' (first | with_reducible refine Below.step ?_ he1 ?_ | with_reducible assumption | with_reducible exact Below.refl _ _ | with_reducible refine Below.drew ?_ | (first | exact Nat.le_refl _ | omega | (simp; done))))); obtain ⟨k0', k1', k2', _, _, _⟩ := Row3 (RA.out.below HT1))
        | (go_at_call 60; (with_reducible refine (hPu _ ?_).mono ?_); (repeat' (first | with_reducible assumption | with_reducible exact Below.refl _ _ | with_reducible refine Below.drew ?_ | (first | exact Nat.le_refl _ | omega | (simp; done)))); rintro e t2 ⟨⟨v2, rfl, e1, n1, e2, n2, e3, n3, rfl, hR2⟩, he2⟩; have HT2 : Below wr.heap.size wr t2 := Below.step (by assumption) he2 (Nat.le_refl _))
        | (go_at_call 61; (with_reducible refine (rSync_any (w := t2) (G := H) (c1 := n1) (c2 := n2) (c3 := n3) (fun b hb' => Nat.lt_of_lt_of_le (HLT.out b hb') (Nat.le_trans hsz HT2.size)) hR2).mono ?_); rintro e t3 ⟨⟨v3, rfl, e4, n4, e5, n5, e6, n6, rfl, hR3⟩, he3⟩; have HT3 := Below.step HT2 he3 (Nat.le_refl _); obtain ⟨s0, s1, s2, y0, y1, y2⟩ := Row3 (RB.out.below HT3)))
      all_goals
        have HF := Lib.hid (hR3.kept ((put3_kept t3 (w.heap.size + 1) (.slice e4 S n4) (.slice e5 S n5) (.slice e6 S n6)).wider HnB.out))
        rw [HE.out] at HF
        have hbf := Lib.hid ((((Below.step hbw HT3 (Nat.le_refl _)).setCell (p := ⟨w.heap.size + 1, 0, none⟩) (by simp) (.slice e4 S n4)).setCell (p := ⟨w.heap.size + 1, 1, none⟩) (by simp) (.slice e5 S n5)).setCell (p := ⟨w.heap.size + 1, 2, none⟩) (by simp) (.slice e6 S n6))
        clear hEn hPu
        go_wp2
        refine bodyPost_ret (v := .tuple #[.agg #[.slice e4 S n4, .slice e5 S n5, .slice e6 S n6], .int .i64 0]) (by simp [results, Tryd.results37, go_sem, s0, s1, s2]) rfl ⟨⟨_, rfl, RefV.mk (HF.out.narrow HGH.out)⟩, hbf.out⟩
end

end Go.Proofs.YtackeigdehfmmaaDoor
