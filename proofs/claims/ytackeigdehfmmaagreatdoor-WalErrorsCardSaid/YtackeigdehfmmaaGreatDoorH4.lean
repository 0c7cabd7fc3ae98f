import Derived.Test.YtackeigdehfmmaaGreatDoorH1
namespace Go.Proofs.YtackeigdehfmmaaGreatDoor
open Go.RowKit

/-- few short texts -/
def FewS (l : List Wl.Bs) : Prop := (∀ s ∈ l, s.length ≤ 300) ∧ l.length ≤ 8
def FewT (l : List Wl.Bs) (e : Ending) : Prop := ∃ b, e = .returned (.bool b) ∧ (b = true ↔ FewS l)

set_option maxRecDepth 100000 in
set_option maxHeartbeats 1600000 in
theorem Few5_any (l : List Wl.Bs) (w : World) (a : Option Addr) (c : Nat) (h : RG w (fun _ => False) a (svs l)) (hll : l.length ≤ 9223372036854775807) :
    Calls Tryz.prog 16 #[.slice a l.length c, .int .i64 8] w fun e w' => FewT l e ∧ w = w' := by
  have H := Lib.hid h
  clear h
  go_enter Tryz.func16, Tryz.ntmps16
  go_wp2
  go_loop [5] (fun s5 => ∃ k : Nat, k ≤ l.length ∧ s5 = .int .i64 k ∧ Hid (∀ i o, i < k → l[i]? = some o → o.length ≤ 300)) (fun s5 => l.length - (intOf s5).toNat)
  case atStart => exact ⟨0, Nat.zero_le _, rfl, Lib.hid (fun i o h _ => absurd h (by omega))⟩
  case round =>
    obtain ⟨k, hk, rfl, HI⟩ := hrel
    by_cases hlt : k < l.length
    · obtain ⟨b, off, rfl, -, ca⟩ := H.out.at' (k := k) (by simpa using hlt)
      rw [svs_at l hlt] at ca
      have hg : l[k]? = some (l.getD k []) := by rw [List.getD_eq_getElem?_getD, List.getElem?_eq_getElem hlt]; rfl
      generalize l.getD k [] = t at ca hg
      have HO := Lib.hid hg
      clear hg
      by_cases ht : t.length ≤ 300
      · have HT := Lib.hid ht
        have hd : decide ((300 : Int) < (t.length : Int)) = false := by simp <;> omega
        clear ht
        go_wp2
        go_round
        case rel =>
          refine ⟨k + 1, by omega, by go_num, Lib.hid ?_⟩
          intro i o' hi ho'
          by_cases hik : i < k
          · exact HI.out i o' hik ho'
          · have : i = k := by omega
            subst this
            rw [HO.out] at ho'
            cases ho'
            exact HT.out
        case measure => simp [intOf]; omega
      · have HT := Lib.hid ht
        have hd : decide ((300 : Int) < (t.length : Int)) = true := by simp <;> omega
        clear ht
        go_wp2
        go_ret
        exact ⟨⟨false, rfl, by simp; intro hf; exact HT.out (hf.1 t (List.mem_of_getElem? HO.out))⟩, rfl⟩
    · have hkl : k = l.length := by omega
      subst hkl
      go_wp2
      go_ret
      refine ⟨⟨_, rfl, ?_⟩, rfl⟩
      simp only [decide_eq_true_eq]
      constructor
      · intro h40
        refine ⟨fun o ho => ?_, by omega⟩
        obtain ⟨i, hi, rfl⟩ := List.getElem_of_mem ho
        exact HI.out i _ hi (List.getElem?_eq_getElem hi)
      · intro hf
        have := hf.2
        omega

section
variable {w : World} {G : Nat → Prop} {p n S : Nat} {d : Wl.Dk}

theorem Format_u (h : Disk w G p S d) (hC : Cx w G) :
    Calls Tryz.prog 21 #[.pointer (some ⟨p, 0, none⟩)] w fun e w' => e = .returned (.int .i64 (d.fmt.2 : Nat)) ∧ Disk w' G p S d.fmt.1 ∧ Kept G w w' := by
  have hn : d.now.length = S := h.ok.now
  by_cases h4 : S < 4
  · have e1 : d.fmt = (d, 7) := by unfold Wl.Dk.fmt; rw [if_pos (by omega)]
    rw [e1]
    exact (Format_no h h4).mono fun e w' ⟨h1, h2⟩ => ⟨h1, h2 ▸ h, h2 ▸ Kept.refl _⟩
  · have e1 : d.fmt.2 = 0 := by unfold Wl.Dk.fmt; rw [if_neg (by omega)]
    rw [e1]
    exact Format_yes h hC (by omega)
theorem rFormat_u {a1 a2 a3 : Option Addr} {c1 c2 c3 : Nat} (hG : ∀ b, G b → b < w.heap.size) (h : RefD w G S a1 a2 a3 d) (hE : Env w) :
    Calls Tryz.prog 22 #[.agg #[.slice a1 S c1, .slice a2 S c2, .slice a3 S c3]] w fun e w' => ResW G S d.fmt.1 (d.fmt.2 : Nat) w' e ∧ Below w.heap.size w w' := by
  have hn : d.now.length = S := h.ok.now
  by_cases h4 : S < 4
  · have e1 : d.fmt = (d, 7) := by unfold Wl.Dk.fmt; rw [if_pos (by omega)]
    rw [e1]
    exact rFormat_no h h4
  · have e1 : d.fmt.2 = 0 := by unfold Wl.Dk.fmt; rw [if_neg (by omega)]
    rw [e1]
    exact rFormat_yes hG h hE (by omega)
end

set_option maxRecDepth 100000 in
set_option maxHeartbeats 6400000 in
theorem errors_none (l : List Wl.Bs) (a : Option Addr) (c : Nat) (w : World) (hr : RG w (fun _ => False) a (svs l)) (hll : l.length ≤ 9223372036854775807) (h0 : l.length < 1) (hE : Env w) :
    Calls Tryz.prog 5 #[.slice a l.length c] w fun e w' => e = .returned (.bool true) ∧ Below w.heap.size w w' := by
  have u1 := hr
  clear u1
  obtain rfl : l = [] := List.eq_nil_of_length_eq_zero (by omega)
  simp only [List.length_nil] at *
  clear h0
  have hA := fun w hE => awake_any w hE
  clear hr hll
  go_enter Tryz.func5, Tryz.ntmps5
  go_wp2_with fail
  (with_reducible refine (hA w hE).mono ?_)
  rintro e w1 ⟨rfl, hb1⟩
  have hE1 := hE.mono hb1
  go_wp2_with fail
  (with_reducible refine (hA w1 hE1).mono ?_)
  rintro e w4 ⟨rfl, hb4⟩
  go_wp2_with fail
  go_ret
  exact ⟨rfl, Below.step hb1 hb4 (Nat.le_refl _)⟩

set_option maxRecDepth 100000 in
set_option maxHeartbeats 6400000 in
theorem errors_many (l : List Wl.Bs) (a : Option Addr) (c : Nat) (w : World) (hr : RG w (fun _ => False) a (svs l)) (hll : l.length ≤ 9223372036854775807) (h0 : 8 < l.length) (hE : Env w) :
    Calls Tryz.prog 5 #[.slice a l.length c] w fun e w' => e = .returned (.bool true) ∧ Below w.heap.size w w' := by
  have u1 := hr
  clear u1
  have d0 : decide ((l.length : Int) < 1) = false := by simp; omega
  have d1 : decide ((8 : Int) < l.length) = true := by simp <;> omega
  clear h0
  have hA := fun w hE => awake_any w hE
  clear hr hll
  go_enter Tryz.func5, Tryz.ntmps5
  go_wp2_with fail
  (with_reducible refine (hA w hE).mono ?_)
  rintro e w1 ⟨rfl, hb1⟩
  have hE1 := hE.mono hb1
  go_wp2_with fail
  (with_reducible refine (hA w1 hE1).mono ?_)
  rintro e w4 ⟨rfl, hb4⟩
  go_wp2_with fail
  go_ret
  exact ⟨rfl, Below.step hb1 hb4 (Nat.le_refl _)⟩

set_option maxRecDepth 100000 in
set_option maxHeartbeats 6400000 in
theorem errors_long (l : List Wl.Bs) (a : Option Addr) (c : Nat) (w : World) (hr : RG w (fun _ => False) a (svs l)) (hll : l.length ≤ 9223372036854775807) (h0 : 1 ≤ l.length) (h1 : l.length ≤ 8) (hfew : Hid (¬ FewS l)) (hE : Env w) :
    Calls Tryz.prog 5 #[.slice a l.length c] w fun e w' => e = .returned (.bool true) ∧ Below w.heap.size w w' := by
  have u1 := hr
  clear u1
  have d0 : decide ((l.length : Int) < 1) = false := by simp; omega
  have d1 : decide ((8 : Int) < l.length) = false := by simp <;> omega
  have hA := fun w hE => awake_any w hE
  have hF := fun w' (h : Below w.heap.size w w') => Few5_any l w' a c (hr.mono (Kept.of_below h)) hll
  clear hr hll
  go_enter Tryz.func5, Tryz.ntmps5
  go_wp2_with fail
  (with_reducible refine (hA w hE).mono ?_)
  rintro e w1 ⟨rfl, hb1⟩
  have hE1 := hE.mono hb1
  go_wp2_with fail
  (with_reducible refine (hF w1 hb1).mono ?_)
  rintro e w' ⟨⟨b, rfl, hfb⟩, rfl⟩
  obtain rfl : b = false := by cases b; rfl; exact absurd (hfb.1 rfl) hfew.out
  clear hfb hF
  go_wp2_with fail
  (with_reducible refine (hA w1 hE1).mono ?_)
  rintro e w4 ⟨rfl, hb4⟩
  go_wp2_with fail
  go_ret
  exact ⟨rfl, Below.step hb1 hb4 (Nat.le_refl _)⟩

set_option maxRecDepth 100000 in
set_option maxHeartbeats 6400000 in
theorem errors_main (l : List Wl.Bs) (a : Option Addr) (c : Nat) (w : World) (hr : RG w (fun _ => False) a (svs l)) (hll : l.length ≤ 9223372036854775807) (h0 : 1 ≤ l.length) (h1 : l.length ≤ 8) (hfew : Hid (FewS l)) (hE : Env w) :
    Calls Tryz.prog 5 #[.slice a l.length c] w fun e w' => e = .returned (.bool true) ∧ Below w.heap.size w w' := by
  have u1 := hr
  clear u1
  have d0 : decide ((l.length : Int) < 1) = false := by simp; omega
  have d1 : decide ((8 : Int) < l.length) = false := by simp <;> omega
  have HR := Lib.hid hr
  have hA := fun w hE => awake_any w hE
  have hF := fun w' (h : Below w.heap.size w w') => Few5_any l w' a c (hr.mono (Kept.of_below h)) hll
  clear hr hll
  go_enter Tryz.func5, Tryz.ntmps5
  go_wp2_with fail
  (with_reducible refine (hA w hE).mono ?_)
  rintro e w1 ⟨rfl, hb1⟩
  have hE1 := hE.mono hb1
  go_wp2_with fail
  (with_reducible refine (hF w1 hb1).mono ?_)
  rintro e w' ⟨⟨b, rfl, hfb⟩, rfl⟩
  obtain rfl : b = true := by exact hfb.2 hfew.out
  clear hfb hF
  obtain ⟨S, hS⟩ : ∃ S, S = l.length := ⟨_, rfl⟩
  simp only [← hS] at d0 d1 h0 h1 ⊢
  have HS := Lib.hid hS
  clear hS hA
  have hN := New_yes S w1 h0 (by omega)
  go_wp2_with fail
  (with_reducible refine hN.mono ?_)
  rintro e w2 ⟨⟨p, G, rfl, hp, hD, hGb⟩, hb2⟩
  have hN2 := rNew_any (w := w2) h0 (by omega)
  clear hN
  go_wp2_with fail
  (with_reducible refine hN2.mono ?_)
  rintro e w3 ⟨⟨x1, y1, x2, y2, x3, y3, rfl, HO⟩, hb3⟩
  clear hN2
  go_upto_region 5 with fail
  have hb4 := below_alloc w3 (.cells #[.slice (some ⟨x1, 0, none⟩) S y1, .slice (some ⟨x2, 0, none⟩) S y2, .slice (some ⟨x3, 0, none⟩) S y3] 28)
  have rN : Row (w3.alloc (.cells #[.slice (some ⟨x1, 0, none⟩) S y1, .slice (some ⟨x2, 0, none⟩) S y2, .slice (some ⟨x3, 0, none⟩) S y3] 28)) w3.heap.size 28 [.slice (some ⟨x1, 0, none⟩) S y1, .slice (some ⟨x2, 0, none⟩) S y2, .slice (some ⟨x3, 0, none⟩) S y3] := heap_alloc_new _ _
  have hszn : (w3.alloc (.cells #[.slice (some ⟨x1, 0, none⟩) S y1, .slice (some ⟨x2, 0, none⟩) S y2, .slice (some ⟨x3, 0, none⟩) S y3] 28)).heap.size = w3.heap.size + 1 := by simp
  generalize w3.alloc (.cells #[.slice (some ⟨x1, 0, none⟩) S y1, .slice (some ⟨x2, 0, none⟩) S y2, .slice (some ⟨x3, 0, none⟩) S y3] 28) = w4 at *
  have hsz3 := hb3.size
  have hpl := hD.p_lt
  have hbb := Below.step (Below.step (Below.step hb1 hb2 (Nat.le_refl _)) hb3 (Nat.le_refl _)) hb4 (Nat.le_refl _)
  have hz1 := hb1.size
  have hz2 := hb2.size
  have hSt : St w4 G p w3.heap.size S (Wl.Dk.new S) := ⟨(hD.mono hb3).mono hb4, ⟨_, _, _, _, _, _, rN, (HO.ref (G := G) (fun b hb => (hGb b hb).2)).lift hb4 (fun b hlt hh => hh.resolve_right (by omega))⟩, fun hg => by have := (hGb _ hg).2; omega, by omega⟩
  have hlo : ∀ b, (G b ∨ b = w3.heap.size) → w.heap.size ≤ b := fun b hh => by
    rcases hh with hh | rfl
    · have := (hGb b hh).1; omega
    · omega
  have hCx : Cx w4 (fun b => G b ∨ b = w3.heap.size) := ⟨fun w' hk => hE.mono (hbb.trans (hk.below hlo hbb.size)), fun b hh => by
    rcases hh with hh | rfl
    · have := (hGb b hh).2; omega
    · omega⟩
  have HLO := Lib.hid hlo
  have HBW := Lib.hid hbb
  have hfl := hfew.out.1
  clear hb1 hb2 hb3 hb4 hD HO rN hGb hp hpl hlo hbb hE1 hsz3 hz1 hz2 hszn
  generalize w3.heap.size = n at *
  go_wp2_with fail
  go_loopw [52] (fun s wr => ∃ (k : Nat) (d : Wl.Dk), k ≤ S ∧ s = .int .i64 k ∧ St wr G p n S d ∧ Kept (fun b => G b ∨ b = n) w4 wr) (fun s _ => S - (intOf s).toNat)
  case atStart => exact ⟨0, _, Nat.zero_le _, rfl, hSt, Kept.refl _⟩
  case round =>
    clear hSt
    obtain ⟨k, d, hk, rfl, hSt, hkw⟩ := hrel
    have hCw := hCx.kept hkw
    have hbw : Below w.heap.size w wr := HBW.out.trans (hkw.below HLO.out HBW.out.size)
    by_cases hlt : k < S
    · have hlt2 : k < l.length := by have := HS.out; omega
      obtain ⟨b, off, rfl, -, ca⟩ := (HR.out.mono (Kept.of_below hbw)).at' (k := k) (by simpa using hlt2)
      rw [svs_at l hlt2] at ca
      have hsl : (l.getD k []).length ≤ 300 := Wl.getD_small hfl k
      generalize l.getD k [] = t at ca hsl
      have hW := Write_yes k t hSt.disk hlt (by omega)
      go_wp2_with fail
      (with_reducible refine hW.mono ?_)
      rintro e w5 ⟨rfl, hD5, hk5⟩
      have hCw5 := hCw.kept (hk5.wider (fun b hb => Or.inl hb) : Kept (fun b => G b ∨ b = n) _ _)
      obtain ⟨b1, m1, b2, m2, b3, m3, rN, RD⟩ := (hSt.box.kept hk5 hSt.ng (fun b hb => Or.inl hb)).ex
      have hng := hSt.ng
      have hnp := hSt.np
      have hRw := rWrite_yes (w := w5) (G := (fun b => G b ∨ b = n)) (c1 := m1) (c2 := m2) (c3 := m3) k t hCw5.lt RD hlt (by omega)
      obtain ⟨z0, z1, z2, _, _, _⟩ := Row3 rN
      clear hW hSt ca
      go_wp2_with fail
      (with_reducible refine hRw.mono ?_)
      rintro e w6 ⟨⟨v, rfl, x1, y1, x2, y2, x3, y3, rfl, hr⟩, hb⟩
      have rN := rN.below hb
      have HP := put3_kept w6 n (.slice x1 S y1) (.slice x2 S y2) (.slice x3 S y3)
      have HF := Lib.hid (hr.kept (HP.wider (fun b e => Or.inr e)))
      have HDk := Lib.hid ((hD5.mono hb).keptN HP hnp hng)
      have HBX := Lib.hid (rN.put3 (.slice x1 S y1) (.slice x2 S y2) (.slice x3 S y3))
      have HKK := Lib.hid (((hkw.trans (hk5.wider (fun b hb => Or.inl hb))).trans (Kept.of_below hb)).trans (HP.wider (fun b e => Or.inr e) : Kept (fun b => G b ∨ b = n) _ _))
      clear z0 z1 z2 hRw
      obtain ⟨q0, q1, q2, f0, f1, f2⟩ := Row3 rN
      unfold put3 at HF HDk HKK
      clear hr HP hb
      go_wp2
      go_roundw
      case rel => exact ⟨k + 1, _, by omega, by go_num, ⟨HDk.out, ⟨_, _, _, _, _, _, HBX.out, HF.out⟩, hng, hnp⟩, HKK.out⟩
      case measure => simp [intOf]; omega
    · have hlt' : decide ((k : Int) < (S : Int)) = false := by simp; omega
      have hlt2 : decide (k < S) = false := by simp; omega
      have hRm := Room_u hSt.disk hCw.env
      clear hlt hk
      go_wp2_with fail
      (with_reducible refine hRm.mono ?_)
      rintro e w5 ⟨rfl, hb5⟩
      clear hRm
      have hSt := hSt.below hb5
      have hCw := hCw.mono hb5
      have hbw := Below.step hbw hb5 (Nat.le_refl _)
      obtain ⟨b1, m1, b2, m2, b3, m3, rN, RD⟩ := hSt.box.ex
      have hRr := rRoom_u (c1 := m1) (c2 := m2) (c3 := m3) RD hCw.env
      obtain ⟨z0, z1, z2, _, _, _⟩ := Row3 rN
      clear hb5 RD rN hkw hCx
      go_wp2_with fail
      (with_reducible refine hRr.mono ?_)
      rintro e w6 ⟨rfl, hb6⟩
      clear hRr z0 z1 z2
      have hSt := hSt.below hb6
      have hCw := hCw.mono hb6
      have hbw := Below.step hbw hb6 (Nat.le_refl _)
      clear hb6
      generalize (Wl.room d).1 = r1 at *
      generalize (Wl.room d).2 = r2 at *
      go_upto_region 19 with fail
      have hba := below_alloc w6 (.cells #[.int .u8 0, .int .i8 0, .string ⟨#[97]⟩, .slice none 0 0, .int .u8 5, .int .i8 0, .string ⟨#[]⟩, .slice none 0 0, .int .u8 2, .int .i8 1, .string ⟨#[]⟩, .slice none 0 0] 35)
      have rOp : Row (w6.alloc (.cells #[.int .u8 0, .int .i8 0, .string ⟨#[97]⟩, .slice none 0 0, .int .u8 5, .int .i8 0, .string ⟨#[]⟩, .slice none 0 0, .int .u8 2, .int .i8 1, .string ⟨#[]⟩, .slice none 0 0] 35)) w6.heap.size 35 [.int .u8 0, .int .i8 0, .string ⟨#[97]⟩, .slice none 0 0, .int .u8 5, .int .i8 0, .string ⟨#[]⟩, .slice none 0 0, .int .u8 2, .int .i8 1, .string ⟨#[]⟩, .slice none 0 0] := heap_alloc_new _ _
      have hnO : ¬ (G w6.heap.size ∨ w6.heap.size = n) := fun hg => Nat.lt_irrefl _ (hCw.lt _ hg)
      generalize w6.alloc (.cells #[.int .u8 0, .int .i8 0, .string ⟨#[97]⟩, .slice none 0 0, .int .u8 5, .int .i8 0, .string ⟨#[]⟩, .slice none 0 0, .int .u8 2, .int .i8 1, .string ⟨#[]⟩, .slice none 0 0] 35) = w7 at *
      have hSt := hSt.below hba
      have hCx := hCw.mono hba
      have HBW := Lib.hid (Below.step hbw hba (Nat.le_refl _))
      clear hba hbw hCw
      generalize w6.heap.size = nO at *
      go_wp2_with fail
      go_loopw [93] (fun s wr => ∃ (k : Nat) (d : Wl.Dk), k ≤ 3 ∧ s = .int .i64 k ∧ St wr G p n S d ∧ Kept (fun b => G b ∨ b = n) w7 wr) (fun s _ => 3 - (intOf s).toNat)
      case atStart => exact ⟨0, _, Nat.zero_le _, rfl, hSt, Kept.refl _⟩
      case round =>
        clear hSt
        obtain ⟨k, d, hk, rfl, hSt, hkw⟩ := hrel
        have hCw := hCx.kept hkw
        have hbw : Below w.heap.size w wr := HBW.out.trans (hkw.below HLO.out HBW.out.size)
        have rOr := rOp.mono hkw hnO
        have hk3 : k = 0 ∨ k = 1 ∨ k = 2 ∨ k = 3 := by omega
        rcases hk3 with rfl | rfl | rfl | rfl
        · have g0 := rOr.cell (k := 0) (by simp)
          have g1 := rOr.cell (k := 1) (by simp)
          have g2 := rOr.cell (k := 2) (by simp)
          have g3 := rOr.cell (k := 3) (by simp)
          simp only [List.getElem_cons_zero, List.getElem_cons_succ] at g0 g1 g2 g3
          go_upto_region 21 with fail
          have hba := below_alloc wr (.cells #[.int .u8 0, .int .i8 0, .string ⟨#[97]⟩, .slice none 0 0] 35)
          have hrow : Row (wr.alloc (.cells #[.int .u8 0, .int .i8 0, .string ⟨#[97]⟩, .slice none 0 0] 35)) wr.heap.size 35 [.int .u8 0, .int .i8 0, .string ⟨#[97]⟩, .slice none 0 0] := heap_alloc_new _ _
          have HN14 : Hid (¬ (G wr.heap.size ∨ wr.heap.size = n)) := Lib.hid (fun hg => Nat.lt_irrefl _ (hCw.lt _ hg))
          generalize wr.alloc (.cells #[.int .u8 0, .int .i8 0, .string ⟨#[97]⟩, .slice none 0 0] 35) = wa at *
          have hSt := hSt.below hba
          have hkw := hkw.trans (.of_below hba)
          have hCw := hCw.mono hba
          clear hba g0 g1 g2 g3 hbw rOr
          generalize wr.heap.size = n14 at *
          obtain ⟨o0, o1, o2, o3⟩ := Row4 hrow
          have hDo := do_any (ba := none) (bl := []) (bc := 0) 0 0 [97] hSt hCw (by omega) (by omega) (by simp) (by simp) (RG.nil _ _ _)
          replace hDo : Calls Tryz.prog 9 #[.pointer (some ⟨p, 0, none⟩), .pointer (some ⟨n, 0, none⟩), .agg #[.int .u8 0, .int .i8 0, .string ⟨#[97]⟩, .slice none 0 0]] wa fun e w' => e = .returned (.bool true) ∧ (∃ d', St w' G p n S d') ∧ Kept (fun b => G b ∨ b = n) wa w' := hDo
          go_wp2_with fail
          (with_reducible refine hDo.mono ?_)
          rintro e w7' ⟨rfl, ⟨d', hSt7⟩, hk7⟩
          have hkw := hkw.trans hk7
          obtain ⟨b1, m1, b2, m2, b3, m3, rN, RD⟩ := hSt7.box.ex
          have hSm := same_any (c1 := m1) (c2 := m2) (c3 := m3) hSt7.disk RD
          obtain ⟨z0, z1, z2, _, _, _⟩ := Row3 rN
          clear hDo hSt hCw o0 o1 o2 o3
          go_wp2_with fail
          (with_reducible refine hSm.mono ?_)
          rintro e w8 ⟨rfl, hb8⟩
          clear hSm z0 z1 z2
          go_wp2
          go_roundw
          case rel => exact ⟨1, d', by omega, by go_num, hSt7.below hb8, hkw.trans (.of_below hb8)⟩
          case measure => simp [intOf]
        · have g0 := rOr.cell (k := 4) (by simp)
          have g1 := rOr.cell (k := 5) (by simp)
          have g2 := rOr.cell (k := 6) (by simp)
          have g3 := rOr.cell (k := 7) (by simp)
          simp only [List.getElem_cons_zero, List.getElem_cons_succ] at g0 g1 g2 g3
          go_upto_region 21 with fail
          have hba := below_alloc wr (.cells #[.int .u8 5, .int .i8 0, .string ⟨#[]⟩, .slice none 0 0] 35)
          have hrow : Row (wr.alloc (.cells #[.int .u8 5, .int .i8 0, .string ⟨#[]⟩, .slice none 0 0] 35)) wr.heap.size 35 [.int .u8 5, .int .i8 0, .string ⟨#[]⟩, .slice none 0 0] := heap_alloc_new _ _
          have HN14 : Hid (¬ (G wr.heap.size ∨ wr.heap.size = n)) := Lib.hid (fun hg => Nat.lt_irrefl _ (hCw.lt _ hg))
          generalize wr.alloc (.cells #[.int .u8 5, .int .i8 0, .string ⟨#[]⟩, .slice none 0 0] 35) = wa at *
          have hSt := hSt.below hba
          have hkw := hkw.trans (.of_below hba)
          have hCw := hCw.mono hba
          clear hba g0 g1 g2 g3 hbw rOr
          generalize wr.heap.size = n14 at *
          obtain ⟨o0, o1, o2, o3⟩ := Row4 hrow
          have hDo := do_any (ba := none) (bl := []) (bc := 0) 5 0 [] hSt hCw (by omega) (by omega) (by simp) (by simp) (RG.nil _ _ _)
          replace hDo : Calls Tryz.prog 9 #[.pointer (some ⟨p, 0, none⟩), .pointer (some ⟨n, 0, none⟩), .agg #[.int .u8 5, .int .i8 0, .string ⟨#[]⟩, .slice none 0 0]] wa fun e w' => e = .returned (.bool true) ∧ (∃ d', St w' G p n S d') ∧ Kept (fun b => G b ∨ b = n) wa w' := hDo
          go_wp2_with fail
          (with_reducible refine hDo.mono ?_)
          rintro e w7' ⟨rfl, ⟨d', hSt7⟩, hk7⟩
          have hkw := hkw.trans hk7
          obtain ⟨b1, m1, b2, m2, b3, m3, rN, RD⟩ := hSt7.box.ex
          have hSm := same_any (c1 := m1) (c2 := m2) (c3 := m3) hSt7.disk RD
          obtain ⟨z0, z1, z2, _, _, _⟩ := Row3 rN
          clear hDo hSt hCw o0 o1 o2 o3
          go_wp2_with fail
          (with_reducible refine hSm.mono ?_)
          rintro e w8 ⟨rfl, hb8⟩
          clear hSm z0 z1 z2
          go_wp2
          go_roundw
          case rel => exact ⟨2, d', by omega, by go_num, hSt7.below hb8, hkw.trans (.of_below hb8)⟩
          case measure => simp [intOf]
        · have g0 := rOr.cell (k := 8) (by simp)
          have g1 := rOr.cell (k := 9) (by simp)
          have g2 := rOr.cell (k := 10) (by simp)
          have g3 := rOr.cell (k := 11) (by simp)
          simp only [List.getElem_cons_zero, List.getElem_cons_succ] at g0 g1 g2 g3
          go_upto_region 21 with fail
          have hba := below_alloc wr (.cells #[.int .u8 2, .int .i8 1, .string ⟨#[]⟩, .slice none 0 0] 35)
          have hrow : Row (wr.alloc (.cells #[.int .u8 2, .int .i8 1, .string ⟨#[]⟩, .slice none 0 0] 35)) wr.heap.size 35 [.int .u8 2, .int .i8 1, .string ⟨#[]⟩, .slice none 0 0] := heap_alloc_new _ _
          have HN14 : Hid (¬ (G wr.heap.size ∨ wr.heap.size = n)) := Lib.hid (fun hg => Nat.lt_irrefl _ (hCw.lt _ hg))
          generalize wr.alloc (.cells #[.int .u8 2, .int .i8 1, .string ⟨#[]⟩, .slice none 0 0] 35) = wa at *
          have hSt := hSt.below hba
          have hkw := hkw.trans (.of_below hba)
          have hCw := hCw.mono hba
          clear hba g0 g1 g2 g3 hbw rOr
          generalize wr.heap.size = n14 at *
          obtain ⟨o0, o1, o2, o3⟩ := Row4 hrow
          have hDo := do_any (ba := none) (bl := []) (bc := 0) 2 1 [] hSt hCw (by omega) (by omega) (by simp) (by simp) (RG.nil _ _ _)
          replace hDo : Calls Tryz.prog 9 #[.pointer (some ⟨p, 0, none⟩), .pointer (some ⟨n, 0, none⟩), .agg #[.int .u8 2, .int .i8 1, .string ⟨#[]⟩, .slice none 0 0]] wa fun e w' => e = .returned (.bool true) ∧ (∃ d', St w' G p n S d') ∧ Kept (fun b => G b ∨ b = n) wa w' := hDo
          go_wp2_with fail
          (with_reducible refine hDo.mono ?_)
          rintro e w7' ⟨rfl, ⟨d', hSt7⟩, hk7⟩
          have hkw := hkw.trans hk7
          obtain ⟨b1, m1, b2, m2, b3, m3, rN, RD⟩ := hSt7.box.ex
          have hSm := same_any (c1 := m1) (c2 := m2) (c3 := m3) hSt7.disk RD
          obtain ⟨z0, z1, z2, _, _, _⟩ := Row3 rN
          clear hDo hSt hCw o0 o1 o2 o3
          go_wp2_with fail
          (with_reducible refine hSm.mono ?_)
          rintro e w8 ⟨rfl, hb8⟩
          clear hSm z0 z1 z2
          go_wp2
          go_roundw
          case rel => exact ⟨3, d', by omega, by go_num, hSt7.below hb8, hkw.trans (.of_below hb8)⟩
          case measure => simp [intOf]
        · have hFm := Format_u hSt.disk {all := fun w' hk => hCw.all w' (hk.wider (fun b hb => Or.inl hb)), lt := fun b hb => hCw.lt b (.inl hb)}
          go_wp2_with fail
          (with_reducible refine hFm.mono ?_)
          rintro e w8 ⟨rfl, hD8, hk8⟩
          have hC8 := hCw.kept (hk8.wider (fun b hb => Or.inl hb) : Kept (fun b => G b ∨ b = n) _ _)
          obtain ⟨b1, m1, b2, m2, b3, m3, rN, RD⟩ := (hSt.box.kept hk8 hSt.ng (fun b hb => Or.inl hb)).ex
          have hRf := rFormat_u (w := w8) (G := (fun b => G b ∨ b = n)) (c1 := m1) (c2 := m2) (c3 := m3) hC8.lt RD hC8.env
          have hb8 := hbw.trans (hk8.below (fun b hb => HLO.out b (.inl hb)) hbw.size)
          obtain ⟨z0, z1, z2, _, _, _⟩ := Row3 rN
          generalize d.fmt.1 = df at *
          generalize d.fmt.2 = dc at *
          clear hFm hSt rOr hCw hkw hk8 hbw
          go_wp2_with fail
          (with_reducible refine hRf.mono ?_)
          rintro e w9 ⟨⟨v, rfl, x1, y1, x2, y2, x3, y3, rfl, hr⟩, hb9⟩
          clear hRf z0 z1 z2 rN RD
          go_upto_region 26 with fail
          have hba := below_alloc w9 (.cells #[.slice x1 S y1, .slice x2 S y2, .slice x3 S y3] 28)
          have rX : Row (w9.alloc (.cells #[.slice x1 S y1, .slice x2 S y2, .slice x3 S y3] 28)) w9.heap.size 28 [.slice x1 S y1, .slice x2 S y2, .slice x3 S y3] := heap_alloc_new _ _
          generalize w9.alloc (.cells #[.slice x1 S y1, .slice x2 S y2, .slice x3 S y3] 28) = w10 at *
          have hSm := same_any (c1 := y1) (c2 := y2) (c3 := y3) ((hD8.mono hb9).mono hba) (hr.mono hba)
          have hbz := Below.step (Below.step hb8 hb9 (Nat.le_refl _)) hba (Nat.le_refl _)
          obtain ⟨z0, z1, z2, _, _, _⟩ := Row3 rX
          clear hba hr hD8 hb8 hb9 hC8
          generalize w9.heap.size = nx at *
          go_wp2_with fail
          (with_reducible refine hSm.mono ?_)
          rintro e w11 ⟨rfl, hb11⟩
          clear hSm z0 z1 z2
          go_wp2
          go_ret
          exact ⟨rfl, Below.step hbz hb11 (Nat.le_refl _)⟩

/-- 'WalErrors' answers true -/
theorem errors_law (l : List Wl.Bs) (a : Option Addr) (c : Nat) (w : World) (hr : RG w (fun _ => False) a (svs l)) (hll : l.length ≤ 9223372036854775807) (hE : Env w) :
    Calls Tryz.prog 5 #[.slice a l.length c] w fun e w' => e = .returned (.bool true) ∧ Below w.heap.size w w' := by
  by_cases h0 : l.length < 1
  · exact errors_none l a c w hr hll h0 hE
  · by_cases h1 : 8 < l.length
    · exact errors_many l a c w hr hll h1 hE
    · by_cases hf : FewS l
      · exact errors_main l a c w hr hll (by omega) (by omega) (Lib.hid hf) hE
      · exact errors_long l a c w hr hll (by omega) (by omega) (Lib.hid hf) hE

end Go.Proofs.YtackeigdehfmmaaGreatDoor
