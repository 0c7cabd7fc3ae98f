import Derived.Test.YtackeigdehfmmaaDoorWS
import Derived.Test.YtackeigdehfmmaaDoorWF
namespace Wl
open Go
theorem hs_none {now : List Bs} {i : Nat} (h : dec (now.getD i []) = none) : hs now (i + 1) = hs now i := by
  simp only [hs]; unfold hdr; rw [h]; rfl
theorem hs_par {now : List Bs} {i n : Nat} {r : Bs} (h : dec (now.getD i []) = some (n, r)) (hp : n % 2 ≠ i) : hs now (i + 1) = hs now i := by
  simp only [hs]; unfold hdr; rw [h]; simp only; rw [if_neg hp]; rfl
theorem hs_num {now : List Bs} {i n : Nat} {r : Bs} (h : dec (now.getD i []) = some (n, r)) (hp : num r = none) : hs now (i + 1) = hs now i := by
  simp only [hs]; unfold hdr; rw [h]; simp only; rw [hp]; split <;> rfl
theorem hs_less {now : List Bs} {i n : Nat} {r : Bs} (h : dec (now.getD i []) = some (n, r)) (hp : (n : Int) ≤ (hs now i).1) : hs now (i + 1) = hs now i := by
  simp only [hs]; unfold hdr; rw [h]; simp only
  split
  · cases num r with
    | none => rfl
    | some x => simp only [Option.map_some, hstep]; rw [if_pos hp]
  · rfl
theorem hs_take {now : List Bs} {i n x : Nat} {r : Bs} (h : dec (now.getD i []) = some (n, r)) (hp : n % 2 = i) (hx : num r = some x) (hl : ¬ (n : Int) ≤ (hs now i).1) : hs now (i + 1) = ((n : Int), x) := by
  simp only [hs]; unfold hdr; rw [h]; simp only
  rw [if_pos hp, hx]
  simp only [Option.map_some, hstep]; rw [if_neg hl]
theorem num_atoi {r : Bs} {x : Nat} (h : num r = some x) : Lib.atoiAll r = .ok (x : Int) := by
  obtain ⟨h1, rfl⟩ := num_some.1 h; exact txt_atoi h1
end Wl
namespace Go.Proofs.YtackeigdehfmmaaDoor
open Go.RowKit

/-- no record, and an error -/
def Err3 (c : Int) (e : Ending) : Prop := e = .returned (.tuple #[.int .i64 0, sv [], .int .i64 c])

section
variable {w : World} {G : Nat → Prop} {p S : Nat} {d : Wl.Dk}

theorem read_some (i n : Nat) (r : Wl.Bs) (h : Disk w G p S d) (hi : i < S) (hE : Env w) (hd : Hid (Wl.dec (d.now.getD i []) = some (n, r))) :
    Calls Tryd.prog 62 #[.pointer (some ⟨p, 0, none⟩), .int .i64 i] w fun e w' => e = .returned (.tuple #[.int .i64 n, sv r, .int .i64 0]) ∧ Below w.heap.size w w' := by
  have hR := Read_yes i h hi
  have hsm := Wl.getD_small h.ok.small i
  have HR : Hid (Wl.IsRec (d.now.getD i []) n r) := Lib.hid (Wl.dec_some.1 hd.out)
  clear h hd
  generalize d.now.getD i [] = s at *
  go_enter Tryd.func62, Tryd.ntmps62
  go_wp2_with fail
  (with_reducible refine hR.mono ?_)
  rintro e w' ⟨rfl, rfl⟩
  clear hR
  go_wp2_with fail
  (with_reducible refine (Decode_some s n r w (by omega) HR hE).mono ?_)
  rintro e w1 ⟨rfl, hb1⟩
  go_wp2
  go_ret3
  exact ⟨rfl, hb1⟩

theorem read_none (i : Nat) (h : Disk w G p S d) (hi : i < S) (hE : Env w) (hd : Hid (Wl.dec (d.now.getD i []) = none)) :
    Calls Tryd.prog 62 #[.pointer (some ⟨p, 0, none⟩), .int .i64 i] w fun e w' => Err3 21 e ∧ Below w.heap.size w w' := by
  have hR := Read_yes i h hi
  have hsm := Wl.getD_small h.ok.small i
  clear h
  generalize d.now.getD i [] = s at *
  go_enter Tryd.func62, Tryd.ntmps62
  go_wp2_with fail
  (with_reducible refine hR.mono ?_)
  rintro e w' ⟨rfl, rfl⟩
  clear hR
  go_wp2_with fail
  (with_reducible refine (Decode_none s w (by omega) hd hE).mono ?_)
  rintro e w1 ⟨rfl, hb1⟩
  go_wp2
  go_ret3
  exact ⟨rfl, hb1⟩

theorem read_out (i : Nat) (h : Disk w G p S d) (hi : S ≤ i) :
    Calls Tryd.prog 62 #[.pointer (some ⟨p, 0, none⟩), .int .i64 i] w fun e w' => Err3 7 e ∧ Below w.heap.size w w' := by
  have hR := Read_no (i : Int) h (by omega)
  clear h hi
  go_enter Tryd.func62, Tryd.ntmps62
  go_wp2_with fail
  (with_reducible refine hR.mono ?_)
  rintro e w' ⟨rfl, rfl⟩
  clear hR
  go_wp2
  go_ret3
  exact ⟨rfl, Below.refl _ _⟩

theorem place_any (k : Nat) (h : Disk w G p S d) (hS : 4 ≤ S) (hk : k ≤ 1000000000000000) :
    Calls Tryd.prog 42 #[.pointer (some ⟨p, 0, none⟩), .int .i64 k] w fun e w' => e = .returned (.int .i64 (Wl.place (S - 2) k : Nat)) ∧ w = w' := by
  have hL := Len_any h
  have hS2 := h.S_le
  have e1 : (2 : Int) + (k : Int) % ((S : Int) - 2) = ((Wl.place (S - 2) k : Nat) : Int) := by
    unfold Wl.place
    rw [Int.natCast_add, Int.natCast_emod, show ((S - 2 : Nat) : Int) = (S : Int) - 2 by omega]; rfl
  have H1 := Lib.hid e1
  have hm1 : 0 ≤ (k : Int) % ((S : Int) - 2) := Int.emod_nonneg _ (by omega)
  have hm2 : (k : Int) % ((S : Int) - 2) < (S : Int) - 2 := Int.emod_lt_of_pos _ (by omega)
  clear h e1
  go_enter Tryd.func42, Tryd.ntmps42
  go_wp2_with fail
  (with_reducible refine hL.mono ?_)
  rintro e w' ⟨rfl, rfl⟩
  clear hL
  go_wp2
  go_ret
  exact ⟨by rw [← H1.out]; rfl, rfl⟩

/-- what 'first' gives, by the state of the headers -/
def FirstR (st : Int × Nat) (S : Nat) (e : Ending) : Prop :=
  ((st.1 < 0 ∨ S < 4) ∧ e = .returned (.tuple #[.int .i64 0, .int .i64 0, .int .i64 21])) ∨
  ((0 ≤ st.1 ∧ 4 ≤ S) ∧ e = .returned (.tuple #[.int .i64 st.1, .int .i64 (st.2 : Int), .int .i64 0]))

set_option maxRecDepth 100000 in
set_option maxHeartbeats 3200000 in
theorem first_any (h : Disk w G p S d) (hE : Env w) :
    Calls Tryd.prog 43 #[.pointer (some ⟨p, 0, none⟩)] w fun e w' => FirstR (Wl.hs d.now 2) S e ∧ Below w.heap.size w w' := by
  have hS := h.S_le
  have hnl := h.ok.now
  have HNL := Lib.hid hnl
  clear hnl
  go_enter Tryd.func43, Tryd.ntmps43
  go_wp2
  go_loopw [5, 6, 13] (fun s5 s6 s13 wr => ∃ (i b : Nat) (hd : Int), i ≤ 2 ∧ s13 = .int .i64 i ∧ s5 = .int .i64 hd ∧ s6 = .int .i64 b ∧ -1 ≤ hd ∧ hd ≤ 1099511627776 ∧ Hid (Wl.hs d.now i = (hd, b)) ∧ Below w.heap.size w wr) (fun _ _ s13 _ => 2 - (intOf s13).toNat)
  case atStart => exact ⟨0, 0, -1, by omega, rfl, rfl, rfl, by omega, by omega, Lib.hid rfl, Below.refl _ _⟩
  case round =>
    obtain ⟨i, b, hd, hi, rfl, rfl, rfl, hd1, hd2, HH, hb⟩ := hrel
    have h2 := h.mono hb
    have hE2 := hE.mono hb
    by_cases hlt : i < 2
    · by_cases hiS : i < S
      · cases hdc : Wl.dec (d.now.getD i []) with
        | none =>
          have HH2 : Hid (Wl.hs d.now (i + 1) = (hd, b)) := Lib.hid (by rw [Wl.hs_none hdc]; exact HH.out)
          have hR := read_none i h2 hiS hE2 (Lib.hid hdc)
          clear hdc h2 hE2
          go_wp2_with fail
          (with_reducible refine hR.mono ?_)
          rintro e w1 ⟨rfl, hb1⟩
          clear hR
          have hb3 := Below.step hb hb1 (Nat.le_refl _)
          go_wp2
          go_roundw
          case rel => exact ⟨i + 1, b, hd, by omega, by go_num, rfl, rfl, hd1, hd2, HH2, hb3⟩
          case measure => simp [intOf]; omega
        | some q =>
          obtain ⟨n, r⟩ := q
          have hrec := Wl.dec_some.1 hdc
          have hnl := hrec.n_le
          have hrl := hrec.r_le
          unfold Wl.lim at hnl
          have hR := read_some i n r h2 hiS hE2 (Lib.hid hdc)
          have HDC := Lib.hid hdc
          clear hdc hrec h2
          by_cases hpar : n % 2 = i
          · have hp1 : ((n : Int) % 2 != (i : Int)) = false := by simp; omega
            by_cases hle : (n : Int) ≤ hd
            · have hl1 : decide ((n : Int) ≤ hd) = true := by simpa using hle
              have HH2 : Hid (Wl.hs d.now (i + 1) = (hd, b)) := Lib.hid (by rw [Wl.hs_less HDC.out (by rw [HH.out]; exact hle)]; exact HH.out)
              clear hpar hle hE2
              go_wp2_with fail
              (with_reducible refine hR.mono ?_)
              rintro e w1 ⟨rfl, hb1⟩
              clear hR
              have hb3 := Below.step hb hb1 (Nat.le_refl _)
              go_wp2
              go_roundw
              case rel => exact ⟨i + 1, b, hd, by omega, by go_num, rfl, rfl, hd1, hd2, HH2, hb3⟩
              case measure => simp [intOf]; omega
            · have hl1 : decide ((n : Int) ≤ hd) = false := by simpa using hle
              cases hnum : Wl.num r with
              | some x =>
                have hx := Wl.num_le hnum
                unfold Wl.lim at hx
                have hat := Wl.num_atoi hnum
                have htx := (Wl.num_some.1 hnum).2
                have HH2 : Hid (Wl.hs d.now (i + 1) = ((n : Int), x)) := Lib.hid (Wl.hs_take HDC.out hpar hnum (by rw [HH.out]; exact hle))
                have HAT := Lib.hid hat
                clear hpar hle hnum hat
                go_wp2_with fail
                (with_reducible refine hR.mono ?_)
                rintro e w1 ⟨rfl, hb1⟩
                clear hR
                have hE3 := hE2.mono hb1
                have hb3 := Below.step hb hb1 (Nat.le_refl _)
                go_wp2_with fail
                (with_reducible refine (Atoi_ok r x w1 (by omega) HAT).mono ?_)
                rintro e w2 ⟨rfl, hb2⟩
                have hE4 := hE3.mono hb2
                have hb4 := Below.step hb3 hb2 (Nat.le_refl _)
                have hI := itoa_any x (by omega) w2 hE4
                rw [htx] at hI
                clear htx hE2 hE3 hE4
                go_wp2_with fail
                (with_reducible refine hI.mono ?_)
                rintro e w3 ⟨rfl, hb5⟩
                clear hI
                have hb6 := Below.step hb4 hb5 (Nat.le_refl _)
                go_wp2
                go_roundw
                case rel => exact ⟨i + 1, x, n, by omega, by go_num, rfl, rfl, by omega, by omega, HH2, hb6⟩
                case measure => simp [intOf]; omega
              | none =>
                have HH2 : Hid (Wl.hs d.now (i + 1) = (hd, b)) := Lib.hid (by rw [Wl.hs_num HDC.out hnum]; exact HH.out)
                by_cases hv : ∃ v, Lib.atoiAll r = .ok v
                · obtain ⟨v, hv⟩ := hv
                  have hvb := Lib.atoiAll_bounds hv
                  have HV := Lib.hid hv
                  clear hv hpar hle
                  by_cases hv0 : 0 ≤ v ∧ v ≤ 1099511627776
                  · obtain ⟨x, rfl⟩ : ∃ x : Nat, v = x := ⟨v.toNat, by omega⟩
                    have hne : (Wl.txt x == r) = false := beq_eq_false_iff_ne.2 (Wl.num_none.1 hnum x (by unfold Wl.lim; omega))
                    obtain ⟨hv1, hv2⟩ := hv0
                    clear hnum
                    go_wp2_with fail
                    (with_reducible refine hR.mono ?_)
                    rintro e w1 ⟨rfl, hb1⟩
                    clear hR
                    have hE3 := hE2.mono hb1
                    have hb3 := Below.step hb hb1 (Nat.le_refl _)
                    go_wp2_with fail
                    (with_reducible refine (Atoi_ok r x w1 (by omega) HV).mono ?_)
                    rintro e w2 ⟨rfl, hb2⟩
                    have hE4 := hE3.mono hb2
                    have hb4 := Below.step hb3 hb2 (Nat.le_refl _)
                    have hI := itoa_any x (by omega) w2 hE4
                    clear hE2 hE3 hE4
                    generalize Wl.txt x = T at *
                    go_wp2_with fail
                    (with_reducible refine hI.mono ?_)
                    rintro e w3 ⟨rfl, hb5⟩
                    clear hI
                    have hb6 := Below.step hb4 hb5 (Nat.le_refl _)
                    go_wp2
                    go_roundw
                    case rel => exact ⟨i + 1, b, hd, by omega, by go_num, rfl, rfl, hd1, hd2, HH2, hb6⟩
                    case measure => simp [intOf]; omega
                  · have hvc : decide (0 ≤ v) = false ∨ (0 ≤ v ∧ decide (v ≤ 1099511627776) = false) := by simp; omega
                    clear hv0 hnum
                    rcases hvc with hv1 | ⟨hv1, hv2⟩
                    all_goals
                      go_wp2_with fail
                      (with_reducible refine hR.mono ?_)
                      rintro e w1 ⟨rfl, hb1⟩
                      have hb3 := Below.step hb hb1 (Nat.le_refl _)
                      go_wp2_with fail
                      (with_reducible refine (Atoi_ok r v w1 (by omega) HV).mono ?_)
                      rintro e w2 ⟨rfl, hb2⟩
                      have hb4 := Below.step hb3 hb2 (Nat.le_refl _)
                      clear hE2 hR
                      go_wp2
                      go_roundw
                      case rel => exact ⟨i + 1, b, hd, by omega, by go_num, rfl, rfl, hd1, hd2, HH2, hb4⟩
                      case measure => simp [intOf]; omega
                · have HV : Hid (∀ v, Lib.atoiAll r ≠ .ok v) := Lib.hid fun v hv' => hv ⟨v, hv'⟩
                  clear hv hpar hle hnum
                  go_wp2_with fail
                  (with_reducible refine hR.mono ?_)
                  rintro e w1 ⟨rfl, hb1⟩
                  clear hR
                  have hE3 := hE2.mono hb1
                  have hb3 := Below.step hb hb1 (Nat.le_refl _)
                  go_wp2_with fail
                  (with_reducible refine (Atoi_bad r w1 (by omega) HV.out hE3).mono ?_)
                  rintro e w2 ⟨⟨z, tt, pp, rfl⟩, hb2⟩
                  have hb4 := Below.step hb3 hb2 (Nat.le_refl _)
                  clear hE2 hE3
                  go_wp2
                  go_roundw
                  case rel => exact ⟨i + 1, b, hd, by omega, by go_num, rfl, rfl, hd1, hd2, HH2, hb4⟩
                  case measure => simp [intOf]; omega
          · have hp1 : ((n : Int) % 2 != (i : Int)) = true := by simp; omega
            have HH2 : Hid (Wl.hs d.now (i + 1) = (hd, b)) := Lib.hid (by rw [Wl.hs_par HDC.out hpar]; exact HH.out)
            clear hpar hE2
            go_wp2_with fail
            (with_reducible refine hR.mono ?_)
            rintro e w1 ⟨rfl, hb1⟩
            clear hR
            have hb3 := Below.step hb hb1 (Nat.le_refl _)
            go_wp2
            go_roundw
            case rel => exact ⟨i + 1, b, hd, by omega, by go_num, rfl, rfl, hd1, hd2, HH2, hb3⟩
            case measure => simp [intOf]; omega
      · have hdc : Wl.dec (d.now.getD i []) = none := by
          rw [List.getD_eq_getElem?_getD, List.getElem?_eq_none (by rw [HNL.out]; omega)]; exact Wl.dec_nil
        have HH2 : Hid (Wl.hs d.now (i + 1) = (hd, b)) := Lib.hid (by rw [Wl.hs_none hdc]; exact HH.out)
        have hR := read_out i h2 (by omega)
        clear hdc h2 hE2
        go_wp2_with fail
        (with_reducible refine hR.mono ?_)
        rintro e w1 ⟨rfl, hb1⟩
        clear hR
        have hb3 := Below.step hb hb1 (Nat.le_refl _)
        go_wp2
        go_roundw
        case rel => exact ⟨i + 1, b, hd, by omega, by go_num, rfl, rfl, hd1, hd2, HH2, hb3⟩
        case measure => simp [intOf]; omega
    · have hi2 : i = 2 := by omega
      have HH2 : Hid (Wl.hs d.now 2 = (hd, b)) := Lib.hid (by rw [← hi2]; exact HH.out)
      have hL := Len_any h2
      clear hi2 h2 hE2
      by_cases hneg : hd < 0
      · go_wp2
        go_ret3
        exact ⟨.inl ⟨.inl (by rw [HH2.out]; exact hneg), rfl⟩, hb⟩
      · by_cases hS4 : S < 4
        · have hb4 : decide ((S : Int) < 4) = true := by simp <;> omega
          go_wp2_with fail
          (with_reducible refine hL.mono ?_)
          rintro e w' ⟨rfl, rfl⟩
          go_wp2
          go_ret3
          exact ⟨.inl ⟨.inr hS4, rfl⟩, hb⟩
        · have hb4 : decide ((S : Int) < 4) = false := by simp <;> omega
          go_wp2_with fail
          (with_reducible refine hL.mono ?_)
          rintro e w' ⟨rfl, rfl⟩
          go_wp2
          go_ret3
          exact ⟨.inr ⟨⟨by rw [HH2.out]; simp; omega, by omega⟩, by rw [HH2.out]; rfl⟩, hb⟩

end

end Go.Proofs.YtackeigdehfmmaaDoor
