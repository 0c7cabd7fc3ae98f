import Derived.Test.YtijjagofingpdaaGreatDoorDoor3
import Derived.Test.YtijjagofingpdaaGreatDoorShelfB
import Derived.Test.YtijjagofingpdaaGreatDoorPlainF
namespace Go.Proofs.YtijjagofingpdaaGreatDoor
open Go.RowKit

theorem builder_kept {T e : TypeId} {B b : Nat} {p : Value} {bs : List Value} {w w' : World} (h : Lib.BuilderAtF T e B b p bs w) (hb : Below w.heap.size w w') : Lib.BuilderAtF T e B b p bs w' := by
  have hlt := h.lt
  obtain ⟨hB, v, hbk, hown, hne⟩ := h
  refine ⟨hB, v, by rw [hb.block b hlt]; exact hbk, ?_, hne⟩
  obtain ⟨h1, h2⟩ := hown
  refine ⟨h1, h2.imp id ?_⟩
  rintro ⟨g, cap, cur, fz, hv, hg, hh, r⟩
  have : g < w.heap.size := by
    by_cases hb : g < w.heap.size
    · exact hb
    · rw [Array.getElem?_eq_none (by omega)] at hh; simp at hh
  exact ⟨g, cap, cur, fz, hv, hg, by rw [hb.block g this]; exact hh, r⟩

theorem isBuilder_kept {T e : TypeId} {B b : Nat} {bs : List Value} {w w' : World} (h : Lib.IsBuilderF T e B b bs w) (hb : Below w.heap.size w w') : Lib.IsBuilderF T e B b bs w' :=
  h.imp (fun h => builder_kept h hb) (fun h => builder_kept h hb)

theorem byteCells_append (a b : List UInt8) : Lib.byteCells (a ++ b) = Lib.byteCells a ++ Lib.byteCells b := by simp [Lib.byteCells]

theorem repeat_zero (c : Nat) : Lib.repeatL [48] c = List.replicate c 48 := by
  induction c with
  | zero => rfl
  | succ c ih => simp [Lib.repeatL, ih, List.replicate_succ]

theorem itoa_nat (x : Nat) : Lib.itoa (x : Int) = Lib.decDigits x := by
  unfold Lib.itoa
  rw [if_neg (by omega), Int.toNat_natCast]

theorem repeat0 (c : Nat) (C : Int) (hC : C = (c : Int)) (hc : c ≤ 1000) (w : World) :
    Calls Tryz.prog 28 #[.string ⟨#[48]⟩, .int .i64 C] w fun e w' => e = .returned (.string ⟨(List.replicate c 48).toArray⟩) ∧ Below w.heap.size w w' := by
  subst hC
  have := Tryz.strings_Repeat ⟨#[48]⟩ c w (by omega) (by show 1 * c ≤ _; omega)
  rw [show (⟨#[48]⟩ : ByteArray).data.toList = [48] from rfl, repeat_zero] at this
  exact this

theorem write_any (B : Nat) (cur s : List UInt8) (w : World) (h : Lib.IsBuilderF 52 5 B B (Lib.byteCells cur) w) (hc : cur.length ≤ 100000) (hs : s.length ≤ 100000) (hB : B ≤ w.heap.size) :
    Calls Tryz.prog 27 #[.pointer (some ⟨B, 0, none⟩), .string ⟨s.toArray⟩] w fun e w' => e = .returned (.tuple #[.int .i64 s.length, .nilIface]) ∧ Lib.IsBuilderF 52 5 B B (Lib.byteCells (cur ++ s)) w' ∧ Below B w w' := by
  have hsz : (⟨s.toArray⟩ : ByteArray).size = s.length := rfl
  refine (Tryz.Builder_WriteString_k B B (Lib.byteCells cur) ⟨s.toArray⟩ w h (by rw [Lib.byteCells_length, hsz]; omega) hB).mono ?_
  rintro e w' ⟨he, hb, hw, _⟩
  rw [hsz] at he
  refine ⟨he, .inr ?_, hw⟩
  rw [byteCells_append]
  exact hb

set_option maxRecDepth 100000 in
set_option maxHeartbeats 1600000 in
theorem Format_any (a : Value) (x : Int) (w : World) (ha : IntV w a x) (hE : Env w) :
    Calls Tryz.prog 7 #[a] w fun e w' => e = .returned (.tuple #[.string ⟨(Lib.itoa x).toArray⟩, .int .i64 0]) ∧ Below w.heap.size w w' := by
  obtain ⟨n1, ao1, L1, c1, rfl, Hn1, HL1, HB1, hc1, hl1, hU1⟩ := id ha
  go_enter Tryz.func7, Tryz.ntmps7
  go_wp2_with fail
  have hbx := below_alloc w (.cells #[.bool n1, .slice ao1 L1.length c1] 25)
  have B1 := Box.new w (.bool n1) (.slice ao1 L1.length c1) 25
  have hsz : (w.alloc (.cells #[.bool n1, .slice ao1 L1.length c1] 25)).heap.size = w.heap.size + 1 := by simp
  have hUx := hU1.mono hbx
  have hEx := hE.mono hbx
  clear hU1 hE ha
  generalize w.alloc (.cells #[.bool n1, .slice ao1 L1.length c1] 25) = wx at *
  (with_reducible refine (check1 wx _ hsz n1 ao1 L1 c1 hUx ?_ hEx).mono ?_)
  · omega
  rintro e w1 ⟨⟨r, HR, HR2, rfl⟩, hb1⟩
  obtain rfl : r = 0 := HR.out.2 (validP_of x n1 L1 Hn1.out HL1.out HB1.out)
  clear HR HR2 hsz
  have B1 := B1.mono hb1
  have hU1 := hUx.mono hb1
  have hE1 := hEx.mono hb1
  have hbw := Below.step hbx hb1 (Nat.le_refl _)
  clear hUx hEx hbx hb1
  have hlt := B1.lt
  have Hit : Hid (Lib.itoa x = (if n1 = true then [45] else []) ++ Lib.decDigits x.natAbs) := Lib.hid (by
    unfold Lib.itoa
    rw [Hn1.out]
    by_cases h : x < 0
    · simp [h]
    · simp [h, show x.toNat = x.natAbs by omega])
  by_cases hL : L1 = []
  · subst hL
    have hx : x.natAbs = 0 := by
      have := congrArg Bi.val HL1.out
      rw [Bi.val_limbs] at this
      exact this.symm
    have hx0 : x = 0 := by omega
    subst hx0
    have hz : Hid (Lib.itoa 0 = [48]) := Lib.hid (by
      unfold Lib.itoa
      rw [if_neg (by decide), show Int.toNat 0 = 0 from rfl, Lib.decDigits_one (by decide)]
      rfl)
    obtain ⟨p0, p1, _, _⟩ := B1
    clear Hit hx hU1
    go_wp2
    go_ret2
    exact ⟨by rw [hz.out]; rfl, hbw⟩
  have hlen : 1 ≤ L1.length := by
    have := List.length_pos_iff.2 hL
    omega
  have HV : Hid (Bi.val L1 = x.natAbs) := Lib.hid (by rw [HL1.out, Bi.val_limbs])
  have HOK : Hid (Bi.Ok L1) := Lib.hid (by rw [HL1.out]; exact Bi.limbs_ok _)
  have HLen : Hid (∀ j, (Bi.outT L1 j).length ≤ 300) := Lib.hid (Bi.outT_len (by rw [HV.out]; exact HB1.out))
  clear hL
  obtain ⟨pre, hpre⟩ : ∃ pre : List UInt8, pre = if n1 = true then [45] else [] := ⟨_, rfl⟩
  have HPL : pre.length ≤ 1 := by rw [hpre]; split <;> simp
  rw [← hpre] at Hit
  have HPre := Lib.hid hpre
  clear hpre
  obtain ⟨p0, p1, _, _⟩ := id B1
  go_upto_region 7 with fail
  have HIB := Lib.IsBuilderF.of (Lib.fresh_isBuilder 52 5 w1)
  have hba := below_alloc w1 (.cells #[.pointer none, .slice none 0 0] 52)
  obtain ⟨B, hB⟩ : ∃ B, B = w1.heap.size := ⟨_, rfl⟩
  rw [← hB] at HIB ⊢
  have hBw : B ≤ (w1.alloc (.cells #[.pointer none, .slice none 0 0] 52)).heap.size := by rw [hB]; exact hba.size
  have hbB : Below B w1 (w1.alloc (.cells #[.pointer none, .slice none 0 0] 52)) := by rw [hB]; exact hba
  rw [← hB] at hlt
  have HS : Hid (∀ W, Below B w1 W → Env W ∧ U W ao1 L1 ∧ Box W w.heap.size (.bool n1) (.slice ao1 L1.length c1) ∧ B ≤ W.heap.size) := Lib.hid (fun W h => by
    have h' := h
    rw [hB] at h'
    exact ⟨hE1.mono h', hU1.mono h', B1.mono h', by rw [hB]; exact h'.size⟩)
  have hw1 := hbw
  clear hB
  generalize w1.alloc (.cells #[.pointer none, .slice none 0 0] 52) = w2 at *
  have B2 := B1.mono hba
  clear hE1 hU1 B1 hbw p0 p1 hba
  obtain ⟨p0, p1, _, _⟩ := id B2
  go_upto_if 19 with fail
  go_cut [] (fun wc => Lib.IsBuilderF 52 5 B B (Lib.byteCells pre) wc ∧ Below B w2 wc)
  case first =>
    have HP := HPre.out
    cases n1
    · simp only [Bool.false_eq_true, if_false] at HP
      have HP' := Lib.hid HP
      clear HP
      go_wp2_with fail
      go_meet
      exact ⟨by rw [HP'.out]; exact HIB, Below.refl _ _⟩
    · simp only [if_true] at HP
      have HP' := Lib.hid HP
      clear HP
      go_wp2_with fail
      (with_reducible refine (Tryz.Builder_WriteByte_k B B [] 45 _ HIB (by simp) hBw).mono ?_)
      rintro e w3 ⟨rfl, hbl, hb3, _⟩
      go_wp2_with fail
      go_meet
      exact ⟨by rw [HP'.out]; exact .inr hbl, hb3⟩
  case rest =>
    obtain ⟨HB0, hb3⟩ := hcut
    have hb2 := hbB.trans hb3
    clear hb3 hbB HIB hBw B2 p0 p1
    obtain ⟨hEc, hUc, hBc, hsc⟩ := HS.out wc hb2
    obtain ⟨p0, p1, _, _⟩ := hBc
    clear hEc hUc hsc
    go_wp2_with fail
    clear p0 p1
    go_loopw [6, 7] (fun s6 _ wr => ∃ i : Int, -1 ≤ i ∧ i < L1.length ∧ s6 = .int .i64 i ∧ Lib.IsBuilderF 52 5 B B (Lib.byteCells (pre ++ Bi.outT L1 (i + 1).toNat)) wr ∧ Below B w1 wr) (fun s6 _ _ => (intOf s6 + 1).toNat)
    case atStart =>
      refine ⟨(L1.length : Int) - 1, by omega, by omega, rfl, ?_, hb2⟩
      have h1 : ((L1.length : Int) - 1 + 1).toNat = L1.length := by omega
      rw [h1]
      unfold Bi.outT
      rw [if_neg (by omega), List.append_nil]
      exact HB0
    case round =>
      obtain ⟨i, hi1, hi2, rfl, HBi, hbr⟩ := hrel
      obtain ⟨hEr, hUr, hBr, hsr⟩ := HS.out wr hbr
      obtain ⟨p0, p1, _, _⟩ := hBr
      by_cases hi : i < 0
      · obtain rfl : i = -1 := by omega
        clear hEr hUr HB0 hb2
        go_wp2_with fail
        (with_reducible refine (Tryz.Builder_String_any_f B B (pre ++ Bi.outT L1 ((-1 : Int) + 1).toNat) _ HBi hsr).mono ?_)
        rintro e w4 ⟨rfl, _, hb4⟩
        have HR : Hid (pre ++ Bi.outT L1 ((-1 : Int) + 1).toNat = Lib.itoa x) := Lib.hid (by
          rw [Hit.out, show ((-1 : Int) + 1).toNat = 0 from rfl]
          unfold Bi.outT
          rw [if_pos (by omega), List.drop_zero, HV.out])
        have hfin := hw1.trans ((hbr.trans hb4).mono (Nat.le_of_lt hlt))
        clear HBi p0 p1
        go_wp2
        go_ret2
        exact ⟨by rw [← HR.out]; rfl, hfin⟩
      · obtain ⟨j, rfl⟩ : ∃ j : Nat, i = (j : Int) := ⟨i.toNat, by omega⟩
        obtain ⟨z, hz⟩ := get_some (l := L1) (k := j) (by omega)
        obtain ⟨b1, o1, rfl, hcz⟩ := hUr.at' hz
        have bz := HOK.out.at' hz
        have HZ := Lib.hid (Bi.getD_of hz)
        clear hz hUr HB0 hb2
        go_wp2_with fail
        (with_reducible refine (itoa_any (z : Int) (by omega) (by omega) _ hEr).mono ?_)
        rintro e w3 ⟨rfl, hb3⟩
        have HB3 := isBuilder_kept HBi hb3
        have hbr3 := hbr.trans (hb3.mono hsr)
        obtain ⟨hE3, _, hBr3, hs3⟩ := HS.out w3 hbr3
        clear HBi hb3 hbr hEr hsr p0 p1 hcz
        obtain ⟨p0, p1, _, _⟩ := hBr3
        have hjj : ((j : Int) + 1).toNat = j + 1 := by omega
        rw [hjj] at HB3
        have hl9 := Bi.nd_small bz
        have hlz := Go.Lib.decDigits_length z
        have HO := HLen.out (j + 1)
        obtain ⟨cur, hcur⟩ : ∃ cur, cur = Bi.outT L1 (j + 1) := ⟨_, rfl⟩
        rw [← hcur] at HB3 HO
        have hlc : (pre ++ cur).length ≤ 301 := by rw [List.length_append]; omega
        by_cases hj : j + 1 < L1.length
        · have hst := Bi.outT_step HL1.out hj HZ.out bz
          rw [itoa_nat]
          rw [← hlz, ← hcur] at hst
          generalize Lib.decDigits z = S at *
          have HST := Lib.hid hst
          have hS9 : S.length ≤ 9 := by omega
          have hc1 : (j : Int) < (L1.length : Int) - 1 := by omega
          clear hst hcur hlz hl9 hjj HO
          go_wp2_with fail
          (with_reducible refine (repeat0 (9 - S.length) _ (by omega) (by omega) w3).mono ?_)
          rintro e w4 ⟨rfl, hb4⟩
          have HB4 := isBuilder_kept HB3 hb4
          have hbr4 := hbr3.trans (hb4.mono hs3)
          have hs4 := (HS.out w4 hbr4).2.2.2
          clear HB3 hb4 hbr3 hs3 p0 p1 hE3
          have hzl : (List.replicate (9 - S.length) (48 : UInt8)).length ≤ 9 := by simp
          generalize List.replicate (9 - S.length) (48 : UInt8) = Z at *
          go_wp2_with fail
          (with_reducible refine (write_any B (pre ++ cur) Z w4 HB4 (by omega) (by omega) hs4).mono ?_)
          rintro e w5 ⟨rfl, HB5, hb5⟩
          have hbr5 := hbr4.trans hb5
          have hs5 := (HS.out w5 hbr5).2.2.2
          have hlc5 : (pre ++ cur ++ Z).length ≤ 310 := by rw [List.length_append]; omega
          clear HB4 hb5 hbr4 hs4
          go_wp2_with fail
          (with_reducible refine (write_any B (pre ++ cur ++ Z) S w5 HB5 (by omega) (by omega) hs5).mono ?_)
          rintro e w6 ⟨rfl, HB6, hb6⟩
          have hbr6 := hbr5.trans hb6
          clear HB5 hb6 hbr5 hs5
          go_wp2
          go_roundw
          case rel => exact ⟨(j : Int) - 1, by omega, by omega, rfl, by rw [show ((j : Int) - 1 + 1).toNat = j by omega, HST.out]; simpa [List.append_assoc] using HB6, hbr6⟩
          case measure => simp [intOf]
        · have hst := Bi.outT_last (show j + 1 = L1.length by omega) HZ.out
          rw [itoa_nat]
          rw [← hcur] at hst
          generalize Lib.decDigits z = S at *
          have HST := Lib.hid hst
          have hS9 : S.length ≤ 9 := by omega
          have hc1 : ¬ (j : Int) < (L1.length : Int) - 1 := by omega
          clear hst hcur hlz hl9 hjj HO
          go_wp2_with fail
          (with_reducible refine (write_any B (pre ++ cur) S w3 HB3 (by omega) (by omega) hs3).mono ?_)
          rintro e w6 ⟨rfl, HB6, hb6⟩
          have hbr6 := hbr3.trans hb6
          clear HB3 hb6 hbr3 hs3 p0 p1 hE3
          go_wp2
          go_roundw
          case rel => exact ⟨(j : Int) - 1, by omega, by omega, rfl, by rw [show ((j : Int) - 1 + 1).toNat = j by omega, HST.out]; simpa [List.append_assoc] using HB6, hbr6⟩
          case measure => simp [intOf]

end Go.Proofs.YtijjagofingpdaaGreatDoor
