import Derived.Test.YtackeigdehfmmaaGreatDoorG3
import Derived.Test.YtackeigdehfmmaaGreatDoorG2
namespace Wl
open Go
theorem hs_none {now : List Bs} {i : Nat} (h : dec (now.getD i []) = none) : hs now (i + 1) = hs now i := by
  simp only [hs]; unfold hdr; rw [h]; rfl
theorem hs_par {now : List Bs} {i n : Nat} {r : Bs} (h : dec (now.getD i []) = some (n, r)) (hp : n % 2 ≠ i) : hs now (i + 1) = hs now i := by
  simp only [hs]; unfold hdr; rw [h]; simp only; rw [if_neg hp]; rfl
theorem hs_num {now : List Bs} {i n : Nat} {r : Bs} (h : dec (now.getD i []) = some (n, r)) (hp : num r = none) : hs now (i + 1) = hs now i := by
  simp only [hs]; unfold hdr; rw [h]; simp only; rw [hp]; split <;> rfl
theorem hs_less {now : List Bs} {i n : Nat} {r : Bs} (h : dec (now.getD i []) = some (n, r)) (hp : (n : Int) ≤ (hs now i).1) : hs now (i + 1) = hs now i := by
  simp only [hs]; unfold hdr; rw [h]; simp only
  split
  · cases num r with
    | none => rfl
    | some x => simp only [Option.map_some, hstep]; rw [if_pos hp]
  · rfl
theorem hs_take {now : List Bs} {i n x : Nat} {r : Bs} (h : dec (now.getD i []) = some (n, r)) (hp : n % 2 = i) (hx : num r = some x) (hl : ¬ (n : Int) ≤ (hs now i).1) : hs now (i + 1) = ((n : Int), x) := by
  simp only [hs]; unfold hdr; rw [h]; simp only
  rw [if_pos hp, hx]
  simp only [Option.map_some, hstep]; rw [if_neg hl]
theorem num_atoi {r : Bs} {x : Nat} (h : num r = some x) : Lib.atoiAll r = .ok (x : Int) := by
  obtain ⟨h1, rfl⟩ := num_some.1 h; exact txt_atoi h1
end Wl
namespace Go.Proofs.YtackeigdehfmmaaGreatDoor
open Go.RowKit

/-- no record, and an error -/
def Err3 (c : Int) (e : Ending) : Prop := e = .returned (.tuple #[.int .i64 0, sv [], .int .i64 c])

section
variable {w : World} {G : Nat → Prop} {p S : Nat} {d : Wl.Dk}

theorem read_some (i n : Nat) (r : Wl.Bs) (h : Disk w G p S d) (hi : i < S) (hE : Env w) (hd : Hid (Wl.dec (d.now.getD i []) = some (n, r))) :
    Calls Tryz.prog 52 #[.pointer (some ⟨p, 0, none⟩), .int .i64 i] w fun e w' => e = .returned (.tuple #[.int .i64 n, sv r, .int .i64 0]) ∧ Below w.heap.size w w' := by
  have hR := Read_yes i h hi
  have hsm := Wl.getD_small h.ok.small i
  have HR : Hid (Wl.IsRec (d.now.getD i []) n r) := Lib.hid (Wl.dec_some.1 hd.out)
  clear h hd
  generalize d.now.getD i [] = s at *
  go_enter Tryz.func52, Tryz.ntmps52
  go_wp2_with fail
  (with_reducible refine hR.mono ?_)
  rintro e w' ⟨rfl, rfl⟩
  clear hR
  go_wp2_with fail
  (with_reducible refine (Decode_some s n r w (by omega) HR hE).mono ?_)
  rintro e w1 ⟨rfl, hb1⟩
  go_wp2
  go_ret3
  exact ⟨rfl, hb1⟩

theorem read_none (i : Nat) (h : Disk w G p S d) (hi : i < S) (hE : Env w) (hd : Hid (Wl.dec (d.now.getD i []) = none)) :
    Calls Tryz.prog 52 #[.pointer (some ⟨p, 0, none⟩), .int .i64 i] w fun e w' => Err3 21 e ∧ Below w.heap.size w w' := by
  have hR := Read_yes i h hi
  have hsm := Wl.getD_small h.ok.small i
  clear h
  generalize d.now.getD i [] = s at *
  go_enter Tryz.func52, Tryz.ntmps52
  go_wp2_with fail
  (with_reducible refine hR.mono ?_)
  rintro e w' ⟨rfl, rfl⟩
  clear hR
  go_wp2_with fail
  (with_reducible refine (Decode_none s w (by omega) hd hE).mono ?_)
  rintro e w1 ⟨rfl, hb1⟩
  go_wp2
  go_ret3
  exact ⟨rfl, hb1⟩

theorem read_out (i : Nat) (h : Disk w G p S d) (hi : S ≤ i) :
    Calls Tryz.prog 52 #[.pointer (some ⟨p, 0, none⟩), .int .i64 i] w fun e w' => Err3 7 e ∧ Below w.heap.size w w' := by
  have hR := Read_no (i : Int) h (by omega)
  clear h hi
  go_enter Tryz.func52, Tryz.ntmps52
  go_wp2_with fail
  (with_reducible refine hR.mono ?_)
  rintro e w' ⟨rfl, rfl⟩
  clear hR
  go_wp2
  go_ret3
  exact ⟨rfl, Below.refl _ _⟩

theorem place_any (k : Nat) (h : Disk w G p S d) (hS : 4 ≤ S) (hk : k ≤ 1000000000000000) :
    Calls Tryz.prog 35 #[.pointer (some ⟨p, 0, none⟩), .int .i64 k] w fun e w' => e = .returned (.int .i64 (Wl.place (S - 2) k : Nat)) ∧ w = w' := by
  have hL := Len_any h
  have hS2 := h.S_le
  have e1 : (2 : Int) + (k : Int) % ((S : Int) - 2) = ((Wl.place (S - 2) k : Nat) : Int) := by
    unfold Wl.place
    rw [Int.natCast_add, Int.natCast_emod, show ((S - 2 : Nat) : Int) = (S : Int) - 2 by omega]; rfl
  have H1 := Lib.hid e1
  have hm1 : 0 ≤ (k : Int) % ((S : Int) - 2) := Int.emod_nonneg _ (by omega)
  have hm2 : (k : Int) % ((S : Int) - 2) < (S : Int) - 2 := Int.emod_lt_of_pos _ (by omega)
  clear h e1
  go_enter Tryz.func35, Tryz.ntmps35
  go_wp2_with fail
  (with_reducible refine hL.mono ?_)
  rintro e w' ⟨rfl, rfl⟩
  clear hL
  go_wp2
  go_ret
  exact ⟨by rw [← H1.out]; rfl, rfl⟩

/-- what 'first' gives, by the state of the headers -/
def FirstR (st : Int × Nat) (S : Nat) (e : Ending) : Prop :=
  ((st.1 < 0 ∨ S < 4) ∧ e = .returned (.tuple #[.int .i64 0, .int .i64 0, .int .i64 21])) ∨
  ((0 ≤ st.1 ∧ 4 ≤ S) ∧ e = .returned (.tuple #[.int .i64 st.1, .int .i64 (st.2 : Int), .int .i64 0]))

set_option maxRecDepth 100000 in
set_option maxHeartbeats 3200000 in
theorem first_any (h : Disk w G p S d) (hE : Env w) :
    Calls Tryz.prog 50 #[.pointer (some ⟨p, 0, none⟩)] w fun e w' => FirstR (Wl.hs d.now 2) S e ∧ Below w.heap.size w w' := by
  have hS := h.S_le
  have hnl := h.ok.now
  have HNL := Lib.hid hnl
  clear hnl
  go_enter Tryz.func50, Tryz.ntmps50
  go_wp2
  go_loopw [5, 6, 13] (fun s5 s6 s13 wr => ∃ (i b : Nat) (hd : Int), i ≤ 2 ∧ s13 = .int .i64 i ∧ s5 = .int .i64 hd ∧ s6 = .int .i64 b ∧ -1 ≤ hd ∧ hd ≤ 1099511627776 ∧ Hid (Wl.hs d.now i = (hd, b)) ∧ Below w.heap.size w wr) (fun _ _ s13 _ => 2 - (intOf s13).toNat)
  case atStart => exact ⟨0, 0, -1, by omega, rfl, rfl, rfl, by omega, by omega, Lib.hid rfl, Below.refl _ _⟩
  case round =>
    obtain ⟨i, b, hd, hi, rfl, rfl, rfl, hd1, hd2, HH, hb⟩ := hrel
    have h2 := h.mono hb
    have hE2 := hE.mono hb
    by_cases hlt : i < 2
    · by_cases hiS : i < S
      · cases hdc : Wl.dec (d.now.getD i []) with
        | none =>
          have HH2 : Hid (Wl.hs d.now (i + 1) = (hd, b)) := Lib.hid (by rw [Wl.hs_none hdc]; exact HH.out)
          have hR := read_none i h2 hiS hE2 (Lib.hid hdc)
          clear hdc h2 hE2
          go_wp2_with fail
          (with_reducible refine hR.mono ?_)
          rintro e w1 ⟨rfl, hb1⟩
          clear hR
          have hb3 := Below.step hb hb1 (Nat.le_refl _)
          go_wp2
          go_roundw
          case rel => exact ⟨i + 1, b, hd, by omega, by go_num, rfl, rfl, hd1, hd2, HH2, hb3⟩
          case measure => simp [intOf]; omega
        | some q =>
          obtain ⟨n, r⟩ := q
          have hrec := Wl.dec_some.1 hdc
          have hnl := hrec.n_le
          have hrl := hrec.r_le
          unfold Wl.lim at hnl
          have hR := read_some i n r h2 hiS hE2 (Lib.hid hdc)
          have HDC := Lib.hid hdc
          clear hdc hrec h2
          by_cases hpar : n % 2 = i
          · have hp1 : ((n : Int) % 2 != (i : Int)) = false := by simp; omega
            by_cases hle : (n : Int) ≤ hd
            · have hl1 : decide ((n : Int) ≤ hd) = true := by simpa using hle
              have HH2 : Hid (Wl.hs d.now (i + 1) = (hd, b)) := Lib.hid (by rw [Wl.hs_less HDC.out (by rw [HH.out]; exact hle)]; exact HH.out)
              clear hpar hle hE2
              go_wp2_with fail
              (with_reducible refine hR.mono ?_)
              rintro e w1 ⟨rfl, hb1⟩
              clear hR
              have hb3 := Below.step hb hb1 (Nat.le_refl _)
              go_wp2
              go_roundw
              case rel => exact ⟨i + 1, b, hd, by omega, by go_num, rfl, rfl, hd1, hd2, HH2, hb3⟩
              case measure => simp [intOf]; omega
            · have hl1 : decide ((n : Int) ≤ hd) = false := by simpa using hle
              cases hnum : Wl.num r with
              | some x =>
                have hx := Wl.num_le hnum
                unfold Wl.lim at hx
                have hat := Wl.num_atoi hnum
                have htx := (Wl.num_some.1 hnum).2
                have HH2 : Hid (Wl.hs d.now (i + 1) = ((n : Int), x)) := Lib.hid (Wl.hs_take HDC.out hpar hnum (by rw [HH.out]; exact hle))
                have HAT := Lib.hid hat
                clear hpar hle hnum hat
                go_wp2_with fail
                (with_reducible refine hR.mono ?_)
                rintro e w1 ⟨rfl, hb1⟩
                clear hR
                have hE3 := hE2.mono hb1
                have hb3 := Below.step hb hb1 (Nat.le_refl _)
                go_wp2_with fail
                (with_reducible refine (Atoi_ok r x w1 (by omega) HAT).mono ?_)
                rintro e w2 ⟨rfl, hb2⟩
                have hE4 := hE3.mono hb2
                have hb4 := Below.step hb3 hb2 (Nat.le_refl _)
                have hI := itoa_any x (by omega) w2 hE4
                rw [htx] at hI
                clear htx hE2 hE3 hE4
                go_wp2_with fail
                (with_reducible refine hI.mono ?_)
                rintro e w3 ⟨rfl, hb5⟩
                clear hI
                have hb6 := Below.step hb4 hb5 (Nat.le_refl _)
                go_wp2
                go_roundw
                case rel => exact ⟨i + 1, x, n, by omega, by go_num, rfl, rfl, by omega, by omega, HH2, hb6⟩
                case measure => simp [intOf]; omega
              | none =>
                have HH2 : Hid (Wl.hs d.now (i + 1) = (hd, b)) := Lib.hid (by rw [Wl.hs_num HDC.out hnum]; exact HH.out)
                by_cases hv : ∃ v, Lib.atoiAll r = .ok v
                · obtain ⟨v, hv⟩ := hv
                  have hvb := Lib.atoiAll_bounds hv
                  have HV := Lib.hid hv
                  clear hv hpar hle
                  by_cases hv0 : 0 ≤ v ∧ v ≤ 1099511627776
                  · obtain ⟨x, rfl⟩ : ∃ x : Nat, v = x := ⟨v.toNat, by omega⟩
                    have hne : (Wl.txt x == r) = false := beq_eq_false_iff_ne.2 (Wl.num_none.1 hnum x (by unfold Wl.lim; omega))
                    obtain ⟨hv1, hv2⟩ := hv0
                    clear hnum
                    go_wp2_with fail
                    (with_reducible refine hR.mono ?_)
                    rintro e w1 ⟨rfl, hb1⟩
                    clear hR
                    have hE3 := hE2.mono hb1
                    have hb3 := Below.step hb hb1 (Nat.le_refl _)
                    go_wp2_with fail
                    (with_reducible refine (Atoi_ok r x w1 (by omega) HV).mono ?_)
                    rintro e w2 ⟨rfl, hb2⟩
                    have hE4 := hE3.mono hb2
                    have hb4 := Below.step hb3 hb2 (Nat.le_refl _)
                    have hI := itoa_any x (by omega) w2 hE4
                    clear hE2 hE3 hE4
                    generalize Wl.txt x = T at *
                    go_wp2_with fail
                    (with_reducible refine hI.mono ?_)
                    rintro e w3 ⟨rfl, hb5⟩
                    clear hI
                    have hb6 := Below.step hb4 hb5 (Nat.le_refl _)
                    go_wp2
                    go_roundw
                    case rel => exact ⟨i + 1, b, hd, by omega, by go_num, rfl, rfl, hd1, hd2, HH2, hb6⟩
                    case measure => simp [intOf]; omega
                  · have hvc : decide (0 ≤ v) = false ∨ (0 ≤ v ∧ decide (v ≤ 1099511627776) = false) := by simp; omega
                    clear hv0 hnum
                    rcases hvc with hv1 | ⟨hv1, hv2⟩
                    all_goals
                      go_wp2_with fail
                      (with_reducible refine hR.mono ?_)
                      rintro e w1 ⟨rfl, hb1⟩
                      have hb3 := Below.step hb hb1 (Nat.le_refl _)
                      go_wp2_with fail
                      (with_reducible refine (Atoi_ok r v w1 (by omega) HV).mono ?_)
                      rintro e w2 ⟨rfl, hb2⟩
                      have hb4 := Below.step hb3 hb2 (Nat.le_refl _)
                      clear hE2 hR
                      go_wp2
                      go_roundw
                      case rel => exact ⟨i + 1, b, hd, by omega, by go_num, rfl, rfl, hd1, hd2, HH2, hb4⟩
                      case measure => simp [intOf]; omega
                · have HV : Hid (∀ v, Lib.atoiAll r ≠ .ok v) := Lib.hid fun v hv' => hv ⟨v, hv'⟩
                  clear hv hpar hle hnum
                  go_wp2_with fail
                  (with_reducible refine hR.mono ?_)
                  rintro e w1 ⟨rfl, hb1⟩
                  clear hR
                  have hE3 := hE2.mono hb1
                  have hb3 := Below.step hb hb1 (Nat.le_refl _)
                  go_wp2_with fail
                  (with_reducible refine (Atoi_bad r w1 (by omega) HV.out hE3).mono ?_)
                  rintro e w2 ⟨⟨z, tt, pp, rfl⟩, hb2⟩
                  have hb4 := Below.step hb3 hb2 (Nat.le_refl _)
                  clear hE2 hE3
                  go_wp2
                  go_roundw
                  case rel => exact ⟨i + 1, b, hd, by omega, by go_num, rfl, rfl, hd1, hd2, HH2, hb4⟩
                  case measure => simp [intOf]; omega
          · have hp1 : ((n : Int) % 2 != (i : Int)) = true := by simp; omega
            have HH2 : Hid (Wl.hs d.now (i + 1) = (hd, b)) := Lib.hid (by rw [Wl.hs_par HDC.out hpar]; exact HH.out)
            clear hpar hE2
            go_wp2_with fail
            (with_reducible refine hR.mono ?_)
            rintro e w1 ⟨rfl, hb1⟩
            clear hR
            have hb3 := Below.step hb hb1 (Nat.le_refl _)
            go_wp2
            go_roundw
            case rel => exact ⟨i + 1, b, hd, by omega, by go_num, rfl, rfl, hd1, hd2, HH2, hb3⟩
            case measure => simp [intOf]; omega
      · have hdc : Wl.dec (d.now.getD i []) = none := by
          rw [List.getD_eq_getElem?_getD, List.getElem?_eq_none (by rw [HNL.out]; omega)]; exact Wl.dec_nil
        have HH2 : Hid (Wl.hs d.now (i + 1) = (hd, b)) := Lib.hid (by rw [Wl.hs_none hdc]; exact HH.out)
        have hR := read_out i h2 (by omega)
        clear hdc h2 hE2
        go_wp2_with fail
        (with_reducible refine hR.mono ?_)
        rintro e w1 ⟨rfl, hb1⟩
        clear hR
        have hb3 := Below.step hb hb1 (Nat.le_refl _)
        go_wp2
        go_roundw
        case rel => exact ⟨i + 1, b, hd, by omega, by go_num, rfl, rfl, hd1, hd2, HH2, hb3⟩
        case measure => simp [intOf]; omega
    · have hi2 : i = 2 := by omega
      have HH2 : Hid (Wl.hs d.now 2 = (hd, b)) := Lib.hid (by rw [← hi2]; exact HH.out)
      have hL := Len_any h2
      clear hi2 h2 hE2
      by_cases hneg : hd < 0
      · go_wp2
        go_ret3
        exact ⟨.inl ⟨.inl (by rw [HH2.out]; exact hneg), rfl⟩, hb⟩
      · by_cases hS4 : S < 4
        · have hb4 : decide ((S : Int) < 4) = true := by simp <;> omega
          go_wp2_with fail
          (with_reducible refine hL.mono ?_)
          rintro e w' ⟨rfl, rfl⟩
          go_wp2
          go_ret3
          exact ⟨.inl ⟨.inr hS4, rfl⟩, hb⟩
        · have hb4 : decide ((S : Int) < 4) = false := by simp <;> omega
          go_wp2_with fail
          (with_reducible refine hL.mono ?_)
          rintro e w' ⟨rfl, rfl⟩
          go_wp2
          go_ret3
          exact ⟨.inr ⟨⟨by rw [HH2.out]; simp; omega, by omega⟩, by rw [HH2.out]; rfl⟩, hb⟩

end

end Go.Proofs.YtackeigdehfmmaaGreatDoor

namespace Wl
open Go
theorem log_cases (now : List Bs) : (log now = none ∧ ((hs now 2).1 < 0 ∨ now.length < 4)) ∨ (∃ L, log now = some L ∧ 0 ≤ (hs now 2).1 ∧ 4 ≤ now.length ∧ ((hs now 2).1 = (L.header : Int)) ∧ (hs now 2).2 = L.first ∧ L.recs = recs now (now.length - 2) (now.length - 2) L.first) := by
  by_cases h : (hs now 2).1 < 0 ∨ now.length < 4
  · exact .inl ⟨by unfold log; rw [if_pos h], h⟩
  · refine .inr ⟨_, by unfold log; rw [if_neg h], by omega, by omega, by simp only; omega, rfl, rfl⟩
end Wl
namespace Go.Proofs.YtackeigdehfmmaaGreatDoor
open Go.RowKit

def vlen : Value → Nat | .slice _ n _ => n | _ => 0

section
variable {w : World} {G : Nat → Prop} {p S : Nat} {d : Wl.Dk}

theorem first_none (h : Disk w G p S d) (hE : Env w) (hl : Hid (Wl.log d.now = none)) :
    Calls Tryz.prog 50 #[.pointer (some ⟨p, 0, none⟩)] w fun e w' => e = .returned (.tuple #[.int .i64 0, .int .i64 0, .int .i64 21]) ∧ Below w.heap.size w w' := by
  refine (first_any h hE).mono fun e w' ⟨h1, h2⟩ => ⟨?_, h2⟩
  rcases h1 with ⟨_, he⟩ | ⟨⟨h3, h4⟩, _⟩
  · exact he
  · exfalso
    rcases Wl.log_cases d.now with ⟨_, h5⟩ | ⟨L, h5, _⟩
    · have := h.ok.now; omega
    · rw [hl.out] at h5; cases h5

theorem first_some (L : Wl.Log) (h : Disk w G p S d) (hE : Env w) (hl : Hid (Wl.log d.now = some L)) :
    Calls Tryz.prog 50 #[.pointer (some ⟨p, 0, none⟩)] w fun e w' => e = .returned (.tuple #[.int .i64 L.header, .int .i64 L.first, .int .i64 0]) ∧ Below w.heap.size w w' := by
  refine (first_any h hE).mono fun e w' ⟨h1, h2⟩ => ⟨?_, h2⟩
  rcases Wl.log_cases d.now with ⟨h5, _⟩ | ⟨L', h5, h6, h7, h8, h9, _⟩
  · rw [hl.out] at h5; cases h5
  · obtain rfl : L = L' := Option.some.inj (hl.out.symm.trans h5)
    rcases h1 with ⟨h3, he⟩ | ⟨_, he⟩
    · have := h.ok.now; omega
    · rw [he, h8, h9]

/-- the records and the first number -/
def RecsR (W w' : World) (L : Wl.Log) (e : Ending) : Prop :=
  ∃ v, e = .returned (.tuple #[v, .int .i64 L.first, .int .i64 0]) ∧ OwnV w' W.heap.size 9 v (svs L.recs)

theorem records_none (h : Disk w G p S d) (hE : Env w) (hl : Hid (Wl.log d.now = none)) :
    Calls Tryz.prog 34 #[.pointer (some ⟨p, 0, none⟩)] w fun e w' => e = .returned (.tuple #[.slice none 0 0, .int .i64 0, .int .i64 21]) ∧ Below w.heap.size w w' := by
  have hF := first_none h hE hl
  clear h hE hl
  go_enter Tryz.func34, Tryz.ntmps34
  go_wp2_with fail
  (with_reducible refine hF.mono ?_)
  rintro e w1 ⟨rfl, hb1⟩
  go_wp2
  go_ret3
  exact ⟨rfl, hb1⟩

set_option maxRecDepth 100000 in
set_option maxHeartbeats 1600000 in
theorem records_some (L : Wl.Log) (h : Disk w G p S d) (hE : Env w) (hl : Hid (Wl.log d.now = some L)) :
    Calls Tryz.prog 34 #[.pointer (some ⟨p, 0, none⟩)] w fun e w' => RecsR w w' L e ∧ Below w.heap.size w w' := by
  have hF := first_some L h hE hl
  obtain ⟨_, h2, _, h4⟩ := Wl.log_le hl.out
  obtain ⟨_, _, h7⟩ := Wl.log_some hl.out
  have hS := h.S_le
  rw [h.ok.now] at h4 h7
  have H7 := Lib.hid h7
  have hfl : L.first ≤ 1099511627776 := h2
  obtain ⟨b, hb0⟩ : ∃ b, b = L.first := ⟨_, rfl⟩
  rw [← hb0] at hF H7 hfl
  have HB := Lib.hid hb0
  clear h2 h7 hb0
  go_enter Tryz.func34, Tryz.ntmps34
  go_wp2_with fail
  (with_reducible refine hF.mono ?_)
  rintro e w1 ⟨rfl, hb1⟩
  have h := h.mono hb1
  have hE := hE.mono hb1
  clear hF
  go_wp2_with fail
  go_loopw [8] (fun s8 wr => ∃ l : List Wl.Bs, l.length ≤ S - 2 ∧ OwnV wr w1.heap.size 9 s8 (svs l) ∧ Hid (L.recs = l ++ Wl.recs d.now (S - 2) (S - 2 - l.length) (b + l.length)) ∧ Below w1.heap.size w1 wr) (fun s8 _ => S - 2 - vlen s8)
  case atStart => exact ⟨[], Nat.zero_le _, OwnV.nil _ _ _, Lib.hid (by rw [H7.out]; rfl), Below.refl _ _⟩
  case round =>
    obtain ⟨l, hll, hown, HR, hb⟩ := hrel
    obtain ⟨ao, cap, rfl, hcap, -⟩ := hown.read
    simp only [List.length_map] at hown hcap
    have h2 := h.mono hb
    have hE2 := hE.mono hb
    have hL := Len_any h2
    by_cases hlt : l.length < S - 2
    · have hlt' : (l.length : Int) < (S : Int) - 2 := by omega
      have hP := place_any (b + l.length) h2 h4 (by omega)
      have hpl := Wl.place_lt (m := S - 2) (k := b + l.length) (by omega)
      obtain ⟨q, hq⟩ : ∃ q, Wl.place (S - 2) (b + l.length) = q := ⟨_, rfl⟩
      rw [hq] at hP hpl
      rw [Int.natCast_add] at hP
      have HQ := Lib.hid hq
      clear hq
      obtain ⟨f, hf⟩ : ∃ f, S - 2 - l.length = f + 1 := ⟨S - 2 - l.length - 1, by omega⟩
      cases hdc : Wl.dec (d.now.getD q []) with
      | none =>
        have HS : Hid (L.recs = l) := Lib.hid (by rw [HR.out, hf, Wl.recs_stop (by rw [HQ.out]; exact hdc), List.append_nil])
        have hRd := read_none q h2 (by omega) hE2 (Lib.hid hdc)
        clear hdc hf
        go_wp2_with fail
        (with_reducible refine hL.mono ?_)
        rintro e w' ⟨rfl, rfl⟩
        go_wp2_with fail
        (with_reducible refine hP.mono ?_)
        rintro e w' ⟨rfl, rfl⟩
        go_wp2_with fail
        (with_reducible refine hRd.mono ?_)
        rintro e w2 ⟨rfl, hb2⟩
        clear hL hP hRd hE2 h2
        have hown2 := hown.mono hb2
        have hb3 := Below.step hb hb2 (Nat.le_refl _)
        go_wp2
        go_ret3
        exact ⟨⟨_, by rw [← HB.out]; rfl, by rw [HS.out]; exact hown2.weak hb1.size⟩, Below.step hb1 hb3 (Nat.le_refl _)⟩
      | some y =>
        obtain ⟨n, r⟩ := y
        have hrec := Wl.dec_some.1 hdc
        have hnl := hrec.n_le
        unfold Wl.lim at hnl
        have hrl := hrec.r_le
        have hRd := read_some q n r h2 (by omega) hE2 (Lib.hid hdc)
        clear hrec
        by_cases hn : n = b + l.length
        · have HS : Hid (L.recs = (l ++ [r]) ++ Wl.recs d.now (S - 2) (S - 2 - (l ++ [r]).length) (b + (l ++ [r]).length)) := Lib.hid (by
            rw [HR.out, hf, Wl.recs_more (r := r) (by rw [HQ.out, ← hn]; exact hdc), List.length_append, List.length_singleton, show S - 2 - (l.length + 1) = f by omega, ← Nat.add_assoc]; simp)
          have hne : ((n : Int) != (b : Int) + (l.length : Int)) = false := by simp; omega
          clear hdc hf hn
          go_wp2_with fail
          (with_reducible refine hL.mono ?_)
          rintro e w' ⟨rfl, rfl⟩
          go_wp2_with fail
          (with_reducible refine hP.mono ?_)
          rintro e w' ⟨rfl, rfl⟩
          go_wp2_with fail
          (with_reducible refine hRd.mono ?_)
          rintro e w2 ⟨rfl, hb2⟩
          clear hL hP hRd hE2 h2
          have hown2 := hown.mono hb2
          have hb3 := Below.step hb hb2 (Nat.le_refl _)
          have hsz := hb3.size
          have hsz1 := hb1.size
          go_wp2_with (at_builtin; refine app_v _ (sv r) 25 9 16 (.string ⟨#[]⟩) rfl (.tmp 49) (.tmp 51) rfl Tryz.underlying25 Tryz.info9 rfl (by omega) w1 w1.heap.size _ (svs l) rfl hown2 (by omega) (fun _ => False) (Kept.of_below hb3) (Nat.le_refl _) rfl rfl (by simp; omega) ?_; intro v3 w3 hown3 hkp3 hsz3)
          have hown4 : OwnV w3 w1.heap.size 9 v3 (svs (l ++ [r])) := by simpa using hown3
          obtain ⟨ao3, cap3, rfl, hcap3, -⟩ := hown4.read
          simp only [List.length_map] at hown4 hcap3
          have hb4 := hkp3.to
          go_roundw
          case rel => exact ⟨l ++ [r], by simp; omega, by simpa using hown4, HS, hb4⟩
          case measure => simp [vlen]; omega
        · have HS : Hid (L.recs = l) := Lib.hid (by rw [HR.out, hf, Wl.recs_other (n := n) (r := r) (by rw [HQ.out]; exact hdc) hn, List.append_nil])
          have hne : ((n : Int) != (b : Int) + (l.length : Int)) = true := by simp; omega
          clear hdc hf hn
          go_wp2_with fail
          (with_reducible refine hL.mono ?_)
          rintro e w' ⟨rfl, rfl⟩
          go_wp2_with fail
          (with_reducible refine hP.mono ?_)
          rintro e w' ⟨rfl, rfl⟩
          go_wp2_with fail
          (with_reducible refine hRd.mono ?_)
          rintro e w2 ⟨rfl, hb2⟩
          clear hL hP hRd hE2 h2
          have hown2 := hown.mono hb2
          have hb3 := Below.step hb hb2 (Nat.le_refl _)
          go_wp2
          go_ret3
          exact ⟨⟨_, by rw [← HB.out]; rfl, by rw [HS.out]; exact hown2.weak hb1.size⟩, Below.step hb1 hb3 (Nat.le_refl _)⟩
    · have HS : Hid (L.recs = l) := Lib.hid (by rw [HR.out, show S - 2 - l.length = 0 by omega]; simp [Wl.recs])
      have hlt' : decide ((l.length : Int) < (S : Int) - 2) = false := by simp; omega
      clear hlt
      go_wp2_with fail
      (with_reducible refine hL.mono ?_)
      rintro e w' ⟨rfl, rfl⟩
      clear hL hE2 h2
      go_wp2
      go_ret3
      exact ⟨⟨_, by rw [← HB.out]; rfl, by rw [HS.out]; exact hown.weak hb1.size⟩, Below.step hb1 hb (Nat.le_refl _)⟩
end

end Go.Proofs.YtackeigdehfmmaaGreatDoor

namespace Wl
open Go
/-- the sectors of n records from number b on -/
def usedL (m b n : Nat) : List Nat := (List.range n).map fun t => place m (b + t)

theorem usedL_iff {m b n j : Nat} : j ∈ usedL m b n ↔ used m b n j = true := by
  unfold usedL used; simp

theorem usedL_succ (m b n : Nat) : usedL m b (n + 1) = usedL m b n ++ [place m (b + n)] := by
  unfold usedL; rw [List.range_succ]; simp

theorem all_empty {l : List Bs} {S : Nat} (hl : l.length = S) (h : ∀ j, j < S → l.getD j [] = []) : l = List.replicate S [] := by
  apply List.ext_getElem?
  intro j
  by_cases hj : j < S
  · have := h j hj
    rw [List.getD_eq_getElem?_getD, List.getElem?_eq_getElem (by omega)] at this
    rw [List.getElem?_eq_getElem (by omega), List.getElem?_replicate, if_pos hj]
    simpa using this
  · rw [List.getElem?_eq_none (by omega), List.getElem?_replicate, if_neg hj]

theorem wrt_empty {d : Dk} {k S : Nat} (hS : d.now.length = S) (h : ∀ j, j < k → d.now.getD j [] = []) (hk : k < S) : ∀ j, j < k + 1 → (d.wrt k []).now.getD j [] = [] := by
  intro j hj
  show (d.now.set k []).getD j [] = []
  by_cases e : k = j
  · subst e; exact getD_set_self (by omega)
  · rw [getD_set_ne e]; exact h j (by omega)

theorem dk_eq {a b : Dk} (h1 : a.now = b.now) (h2 : a.old = b.old) (h3 : a.dirty = b.dirty) : a = b := by
  cases a; cases b; simp_all

theorem fmt_eq {d d' : Dk} {S : Nat} (hS : d.now.length = S) (h4 : 4 ≤ S) (h' : d'.now.length = S) (he : ∀ j, j < S → d'.now.getD j [] = []) : (d'.wrt 0 (enc 0 [48])).syn = d.fmt.1 := by
  unfold Dk.fmt
  rw [if_neg (by omega)]
  have := all_empty h' he
  unfold Dk.wrt Dk.syn
  simp only [this, hS, List.length_set, List.length_replicate]

end Wl
namespace Go.Proofs.YtackeigdehfmmaaGreatDoor
open Go.RowKit

/-- the library's variables and the blocks of G -/
structure Cx (w : World) (G : Nat → Prop) : Prop where
  all : ∀ w', Kept G w w' → Env w'
  lt : ∀ b, G b → b < w.heap.size
theorem Cx.env {w : World} {G : Nat → Prop} (h : Cx w G) : Env w := h.all w (Kept.refl w)
theorem Cx.kept {w w' : World} {G : Nat → Prop} (h : Cx w G) (hk : Kept G w w') : Cx w' G := ⟨fun v hv => h.all v (hk.trans hv), fun b hb => Nat.lt_of_lt_of_le (h.lt b hb) hk.size⟩
theorem Cx.mono {w w' : World} {G : Nat → Prop} (h : Cx w G) (hb : Below w.heap.size w w') : Cx w' G := h.kept (Kept.of_below hb)

section
variable {w : World} {G : Nat → Prop} {p S : Nat} {d : Wl.Dk}

theorem Format_no (h : Disk w G p S d) (hS : S < 4) :
    Calls Tryz.prog 21 #[.pointer (some ⟨p, 0, none⟩)] w fun e w' => e = .returned (.int .i64 7) ∧ w = w' := by
  have hL := Len_any h
  have hb : decide ((S : Int) < 4) = true := by simp <;> omega
  clear h hS
  go_enter Tryz.func21, Tryz.ntmps21
  go_wp2_with fail
  (with_reducible refine hL.mono ?_)
  rintro e w' ⟨rfl, rfl⟩
  go_wp2
  go_ret
  exact ⟨rfl, rfl⟩

set_option maxRecDepth 100000 in
set_option maxHeartbeats 1600000 in
theorem Format_yes (h : Disk w G p S d) (hC : Cx w G) (hS : 4 ≤ S) :
    Calls Tryz.prog 21 #[.pointer (some ⟨p, 0, none⟩)] w fun e w' => e = .returned (.int .i64 0) ∧ Disk w' G p S d.fmt.1 ∧ Kept G w w' := by
  have hL := Len_any h
  have hS2 := h.S_le
  have hb : decide ((S : Int) < 4) = false := by simp <;> omega
  go_enter Tryz.func21, Tryz.ntmps21
  go_wp2_with fail
  (with_reducible refine hL.mono ?_)
  rintro e w' ⟨rfl, rfl⟩
  go_wp2_with fail
  (with_reducible refine hL.mono ?_)
  rintro e w' ⟨rfl, rfl⟩
  clear hL hb
  go_wp2_with fail
  go_loopw [9] (fun s9 wr => ∃ (k : Nat) (d' : Wl.Dk), k ≤ S ∧ s9 = .int .i64 k ∧ Disk wr G p S d' ∧ Hid (∀ j, j < k → d'.now.getD j [] = []) ∧ Kept G w wr) (fun s9 _ => S - (intOf s9).toNat)
  case atStart => exact ⟨0, d, Nat.zero_le _, rfl, h, Lib.hid (fun j hj => by omega), Kept.refl _⟩
  case round =>
    obtain ⟨k, d', hk, rfl, hd, HZ, hkp⟩ := hrel
    have HOK := Lib.hid hd.ok
    by_cases hlt : k < S
    · have hW := Write_yes k [] hd hlt (by simp)
      clear hd
      go_wp2_with fail
      (with_reducible refine hW.mono ?_)
      rintro e w1 ⟨rfl, hd1, hk1⟩
      clear hW
      have HZ2 : Hid (∀ j, j < k + 1 → (d'.wrt k []).now.getD j [] = []) := Lib.hid (Wl.wrt_empty HOK.out.now HZ.out hlt)
      go_wp2
      go_roundw
      case rel => exact ⟨k + 1, _, by omega, by go_num, hd1, HZ2, hkp.trans hk1⟩
      case measure => simp [intOf]; omega
    · have hk2 : k = S := by omega
      have HE : Hid ((d'.wrt 0 (Wl.enc 0 [48])).syn = d.fmt.1) := Lib.hid (Wl.fmt_eq h.ok.now hS HOK.out.now (hk2 ▸ HZ.out))
      clear hk2
      have hE := (hC.kept hkp).env
      have hEn := Encode_any 0 [48] wr (by simp) hE
      have hel := Wl.enc_len 0 [48]
      generalize Wl.enc 0 [48] = E at *
      go_wp2_with fail
      (with_reducible refine hEn.mono ?_)
      rintro e w1 ⟨rfl, hb1⟩
      have hW := Write_yes 0 E (hd.mono hb1) (by omega) (by omega)
      rw [show ((0 : Nat) : Int) = 0 from rfl] at hW
      clear hEn hd hE
      go_wp2_with fail
      (with_reducible refine hW.mono ?_)
      rintro e w2 ⟨rfl, hd2, hk2⟩
      clear hW
      have hY := Sync_any hd2
      rw [HE.out] at hY
      clear hd2
      go_wp2_with fail
      (with_reducible refine hY.mono ?_)
      rintro e w3 ⟨rfl, hd3, hk3⟩
      clear hY
      go_wp2
      go_ret
      exact ⟨rfl, hd3, ((hkp.trans (Kept.of_below hb1)).trans hk2).trans hk3⟩

theorem Append_none (r : Wl.Bs) (h : Disk w G p S d) (hE : Env w) (hl : Hid (Wl.log d.now = none)) :
    Calls Tryz.prog 26 #[.pointer (some ⟨p, 0, none⟩), sv r] w fun e w' => e = .returned (.tuple #[.int .i64 0, .int .i64 21]) ∧ Below w.heap.size w w' := by
  have hF := records_none h hE hl
  clear h hE hl
  go_enter Tryz.func26, Tryz.ntmps26
  go_wp2_with fail
  (with_reducible refine hF.mono ?_)
  rintro e w1 ⟨rfl, hb1⟩
  go_wp2
  go_ret2
  exact ⟨rfl, hb1⟩

set_option maxRecDepth 100000 in
set_option maxHeartbeats 1600000 in
theorem Append_full (r : Wl.Bs) (L : Wl.Log) (h : Disk w G p S d) (hE : Env w) (hl : Hid (Wl.log d.now = some L)) (hr : r.length ≤ 1000000000) (hc : 65000 < r.length ∨ S - 2 ≤ L.recs.length ∨ Wl.lim < L.first + L.recs.length) :
    Calls Tryz.prog 26 #[.pointer (some ⟨p, 0, none⟩), sv r] w fun e w' => e = .returned (.tuple #[.int .i64 0, .int .i64 3]) ∧ Below w.heap.size w w' := by
  have hF := records_some L h hE hl
  obtain ⟨_, h2, h3, h4⟩ := Wl.log_le hl.out
  rw [h.ok.now] at h3 h4
  have hS := h.S_le
  unfold Wl.lim at hc h2
  obtain ⟨b, hb0⟩ : ∃ b, b = L.first := ⟨_, rfl⟩
  obtain ⟨n, hn0⟩ : ∃ n, n = L.recs.length := ⟨_, rfl⟩
  rw [← hb0] at hc h2
  rw [← hn0] at hc h3
  have HB := Lib.hid hb0
  have HN := Lib.hid hn0
  clear hb0 hn0
  have hcc : decide ((65000 : Int) < r.length) = true ∨ (decide ((65000 : Int) < r.length) = false ∧ decide ((S : Int) - 2 ≤ n) = true) ∨ (decide ((65000 : Int) < r.length) = false ∧ decide ((S : Int) - 2 ≤ n) = false ∧ decide ((1099511627776 : Int) < (b : Int) + (n : Int)) = true) := by
    simp only [decide_eq_true_eq, decide_eq_false_iff_not]; omega
  clear hc
  rcases hcc with d0 | ⟨d0, d1⟩ | ⟨d0, d1, d2⟩
  · go_enter Tryz.func26, Tryz.ntmps26
    go_wp2_with fail
    (with_reducible refine hF.mono ?_)
    rintro e w1 ⟨⟨v, rfl, hown⟩, hb1⟩
    obtain ⟨ao, cap, rfl, hcap, -⟩ := hown.read
    simp only [List.length_map, ← HB.out, ← HN.out] at *
    clear hF hown h hE
    go_wp2
    go_ret2
    exact ⟨rfl, hb1⟩
  all_goals
    go_enter Tryz.func26, Tryz.ntmps26
    go_wp2_with fail
    (with_reducible refine hF.mono ?_)
    rintro e w1 ⟨⟨v, rfl, hown⟩, hb1⟩
    obtain ⟨ao, cap, rfl, hcap, -⟩ := hown.read
    have hL := Len_any (h.mono hb1)
    simp only [List.length_map, ← HB.out, ← HN.out] at *
    clear hF hown h hE
    go_wp2_with fail
    (with_reducible refine hL.mono ?_)
    rintro e w' ⟨rfl, rfl⟩
    clear hL
    go_wp2
    go_ret2
    exact ⟨rfl, hb1⟩

set_option maxRecDepth 100000 in
set_option maxHeartbeats 1600000 in
theorem Append_ok (r : Wl.Bs) (L : Wl.Log) (h : Disk w G p S d) (hE : Env w) (hl : Hid (Wl.log d.now = some L)) (hr : r.length ≤ 65000) (hc1 : L.recs.length < S - 2) (hc2 : L.first + L.recs.length ≤ Wl.lim) :
    Calls Tryz.prog 26 #[.pointer (some ⟨p, 0, none⟩), sv r] w fun e w' => e = .returned (.tuple #[.int .i64 ((L.first + L.recs.length : Nat) : Int), .int .i64 0]) ∧
      Disk w' G p S (d.wrt (Wl.place (S - 2) (L.first + L.recs.length)) (Wl.enc ((L.first + L.recs.length : Nat) : Int) r)) ∧ Kept G w w' := by
  have hF := records_some L h hE hl
  obtain ⟨_, h2, h3, h4⟩ := Wl.log_le hl.out
  rw [h.ok.now] at h3 h4
  have hS := h.S_le
  unfold Wl.lim at hc2 h2
  obtain ⟨b, hb0⟩ : ∃ b, b = L.first := ⟨_, rfl⟩
  obtain ⟨n, hn0⟩ : ∃ n, n = L.recs.length := ⟨_, rfl⟩
  rw [← hb0] at hc2 h2 ⊢
  rw [← hn0] at hc1 hc2 h3 ⊢
  have HB := Lib.hid hb0
  have HN := Lib.hid hn0
  clear hb0 hn0
  have d0 : decide ((65000 : Int) < r.length) = false := by simp <;> omega
  have d1 : decide ((S : Int) - 2 ≤ n) = false := by simp <;> omega
  have d2 : decide ((1099511627776 : Int) < (b : Int) + (n : Int)) = false := by simp <;> omega
  have hpl := Wl.place_lt (m := S - 2) (k := b + n) (by omega)
  have hP := fun w (h1 : Disk w G p S d) => place_any (b + n) h1 h4 (by omega)
  have hEn := fun w hE => Encode_any ((b + n : Nat) : Int) r w (by omega) hE
  have hel := Wl.enc_len ((b + n : Nat) : Int) r
  simp only [Int.natCast_add] at hP hEn hel ⊢
  generalize Wl.place (S - 2) (b + n) = q at *
  generalize Wl.enc ((b : Int) + (n : Int)) r = E at *
  go_enter Tryz.func26, Tryz.ntmps26
  go_wp2_with fail
  (with_reducible refine hF.mono ?_)
  rintro e w1 ⟨⟨v, rfl, hown⟩, hb1⟩
  obtain ⟨ao, cap, rfl, hcap, -⟩ := hown.read
  have h1 := h.mono hb1
  have hL := Len_any h1
  have hP := hP _ h1
  have hEn := hEn _ (hE.mono hb1)
  simp only [List.length_map, ← HB.out, ← HN.out] at *
  clear hF hown h hE
  go_wp2_with fail
  (with_reducible refine hL.mono ?_)
  rintro e w' ⟨rfl, rfl⟩
  clear hL
  go_wp2_with fail
  (with_reducible refine hP.mono ?_)
  rintro e w' ⟨rfl, rfl⟩
  clear hP
  go_wp2_with fail
  (with_reducible refine hEn.mono ?_)
  rintro e w2 ⟨rfl, hb2⟩
  clear hEn
  have hW := Write_yes q E (h1.mono hb2) (by omega) (by omega)
  clear h1
  go_wp2_with fail
  (with_reducible refine hW.mono ?_)
  rintro e w3 ⟨rfl, hd3, hk3⟩
  clear hW
  go_wp2
  go_ret2
  exact ⟨rfl, hd3, ((Kept.of_below hb1).trans (Kept.of_below hb2)).trans hk3⟩

end

end Go.Proofs.YtackeigdehfmmaaGreatDoor

namespace Go.Proofs.YtackeigdehfmmaaGreatDoor
open Go.RowKit

section
variable {w : World} {G : Nat → Prop} {p S : Nat} {d : Wl.Dk}

/-- a place of x, or -1 -/
def IdxR (l : List Nat) (x : Nat) (e : Ending) : Prop := ∃ k : Int, e = .returned (.int .i64 k) ∧ -1 ≤ k ∧ k ≤ 1000000 ∧ (0 ≤ k ↔ x ∈ l)

set_option maxHeartbeats 800000 in
theorem Index_any (l : List Nat) (x : Nat) (ao : Option Addr) (c : Nat) (hl : l.length ≤ 1000000) (hr : RG w (fun _ => False) ao (nvs l)) (hlb : ∀ y ∈ l, y ≤ 1000000) :
    Calls Tryz.prog 53 #[.slice ao l.length c, .int .i64 x] w fun e w' => IdxR l x e ∧ w = w' := by
  have HLB := Lib.hid hlb
  clear hlb
  go_enter Tryz.func53, Tryz.ntmps53
  go_wp2
  go_loop [8] (fun s8 => ∃ k : Nat, k ≤ l.length ∧ s8 = .int .i64 k ∧ Hid (x ∉ l.take k)) (fun s8 => l.length - (intOf s8).toNat)
  case atStart => exact ⟨0, Nat.zero_le _, rfl, Lib.hid (by simp)⟩
  case round =>
    obtain ⟨k, hk, rfl, HN⟩ := hrel
    by_cases hlt : k < l.length
    · obtain ⟨b, off, rfl, -, hc⟩ := hr.at' (k := k) (by simpa using hlt)
      rw [nvs_get hlt] at hc
      obtain ⟨y, hy⟩ : ∃ y, l.getD k 0 = y := ⟨_, rfl⟩
      rw [hy] at hc
      have hym : y ∈ l := by rw [← hy, List.getD_eq_getElem?_getD, List.getElem?_eq_getElem hlt]; exact List.getElem_mem hlt
      have hyb := HLB.out y hym
      have hyt : l.take (k + 1) = l.take k ++ [y] := by
        rw [List.take_succ_eq_append_getElem hlt, ← hy, List.getD_eq_getElem?_getD, List.getElem?_eq_getElem hlt]; rfl
      have HY := Lib.hid hym
      have HT := Lib.hid hyt
      clear hy hym hyt
      by_cases he : x = y
      · have hb2 : ((x : Int) == (y : Int)) = true := by simp; omega
        have HX : Hid (x = y) := Lib.hid he
        clear he
        go_wp2
        go_ret
        exact ⟨⟨k, rfl, by omega, by omega, fun _ => by rw [HX.out]; exact HY.out, fun _ => by omega⟩, rfl⟩
      · have hb2 : ((x : Int) == (y : Int)) = false := by simp; omega
        have HN2 : Hid (x ∉ l.take (k + 1)) := Lib.hid (by rw [HT.out]; simp only [List.mem_append, List.mem_singleton, not_or]; exact ⟨HN.out, he⟩)
        clear he
        go_wp2
        go_round
        case rel => exact ⟨k + 1, by omega, by go_num, HN2⟩
        case measure => simp [intOf]; omega
    · have HN2 : Hid (x ∉ l) := Lib.hid (by have := HN.out; rwa [List.take_of_length_le (by omega)] at this)
      go_wp2
      go_ret
      exact ⟨⟨-1, rfl, by omega, by omega, fun h => by omega, fun h => absurd h HN2.out⟩, rfl⟩

theorem Contains_any (l : List Nat) (x : Nat) (ao : Option Addr) (c : Nat) (hl : l.length ≤ 1000000) (hr : RG w (fun _ => False) ao (nvs l)) (hlb : ∀ y ∈ l, y ≤ 1000000) (q : Bool) (hq : Hid (q = true ↔ x ∈ l)) :
    Calls Tryz.prog 38 #[.slice ao l.length c, .int .i64 x] w fun e w' => e = .returned (.bool q) ∧ w = w' := by
  have hI := Index_any l x ao c hl hr hlb
  clear hlb hr
  go_enter Tryz.func38, Tryz.ntmps38
  go_wp2_with fail
  (with_reducible refine hI.mono ?_)
  rintro e w' ⟨⟨k, rfl, hk1, hk2, hiff⟩, rfl⟩
  have HI := Lib.hid hiff
  clear hI hiff
  have hqd : decide (0 ≤ k) = q := by
    cases q
    · simp only [decide_eq_false_iff_not]; exact fun h => absurd (hq.out.2 (HI.out.1 h)) (by simp)
    · simp only [decide_eq_true_eq]; exact HI.out.2 (hq.out.1 rfl)
  have HQ := Lib.hid hqd
  clear hqd
  go_wp2
  go_ret
  exact ⟨by rw [← HQ.out]; rfl, rfl⟩

theorem RG.weak {w : World} {G : Nat → Prop} {ao : Option Addr} {xs : List Value} (h : RG w G ao xs) : RG w (fun _ => False) ao xs := by
  intro i x hx
  obtain ⟨b, off, e, _, hc⟩ := h i x hx
  exact ⟨b, off, e, fun h => h, hc⟩

theorem Recover_none (h : Disk w G p S d) (hE : Env w) (hl : Hid (Wl.log d.now = none)) :
    Calls Tryz.prog 10 #[.pointer (some ⟨p, 0, none⟩)] w fun e w' => e = .returned (.tuple #[.slice none 0 0, .int .i64 0, .int .i64 21]) ∧ Below w.heap.size w w' := by
  have hF := records_none h hE hl
  clear h hE hl
  go_enter Tryz.func10, Tryz.ntmps10
  go_wp2_with fail
  (with_reducible refine hF.mono ?_)
  rintro e w1 ⟨rfl, hb1⟩
  go_wp2
  go_ret3
  exact ⟨rfl, hb1⟩

set_option maxRecDepth 100000 in
set_option maxHeartbeats 3200000 in
theorem Recover_some (L : Wl.Log) (h : Disk w G p S d) (hC : Cx w G) (hl : Hid (Wl.log d.now = some L)) :
    Calls Tryz.prog 10 #[.pointer (some ⟨p, 0, none⟩)] w fun e w' => RecsR w w' L e ∧ Disk w' G p S d.rec'.1 ∧ Kept G w w' := by
  have hF := records_some L h hC.env hl
  have hdr : d.rec'.1 = Wl.Dk.syn ⟨Wl.swp d.now (Wl.used (S - 2) L.first L.recs.length) S, d.old, d.dirty⟩ := by
    unfold Wl.Dk.rec'; rw [hl.out, ← h.ok.now]
  have HDR := Lib.hid hdr
  clear hdr
  obtain ⟨_, h2, h3, h4⟩ := Wl.log_le hl.out
  have hnl := h.ok.now
  rw [hnl] at h3 h4
  have HNL := Lib.hid hnl
  clear hnl
  have hS := h.S_le
  unfold Wl.lim at h2
  obtain ⟨b, hb0⟩ : ∃ b, b = L.first := ⟨_, rfl⟩
  obtain ⟨n, hn0⟩ : ∃ n, n = L.recs.length := ⟨_, rfl⟩
  rw [← hb0] at h2 HDR
  rw [← hn0] at h3 HDR
  have HB := Lib.hid hb0
  have HN := Lib.hid hn0
  clear hb0 hn0
  go_enter Tryz.func10, Tryz.ntmps10
  go_wp2_with fail
  (with_reducible refine hF.mono ?_)
  rintro e w1 ⟨⟨v, rfl, hown⟩, hb1⟩
  have HOWN := Lib.hid hown
  obtain ⟨ao, cap, rfl, hcap, -⟩ := hown.read
  simp only [List.length_map, ← HN.out, ← HB.out] at hcap HOWN ⊢
  have h1 := h.mono hb1
  have hC1 := hC.mono hb1
  have HLT := Lib.hid hC.lt
  clear hF hown h hC
  go_wp2_with fail
  go_loopw [8, 24] (fun s8 s24 wr => ∃ k : Nat, k ≤ n ∧ s24 = .int .i64 k ∧ OwnV wr w1.heap.size 3 s8 (nvs (Wl.usedL (S - 2) b k)) ∧ Below w1.heap.size w1 wr) (fun _ s24 _ => n - (intOf s24).toNat)
  case atStart => exact ⟨0, Nat.zero_le _, rfl, OwnV.nil _ _ _, Below.refl _ _⟩
  case round =>
    obtain ⟨k, hk, rfl, hou, hb⟩ := hrel
    have hulen : (Wl.usedL (S - 2) b k).length = k := by simp [Wl.usedL]
    by_cases hlt : k < n
    · have hP := place_any (b + k) (h1.mono hb) h4 (by omega)
      have hsu := Wl.usedL_succ (S - 2) b k
      rw [Int.natCast_add] at hP
      generalize Wl.place (S - 2) (b + k) = q at *
      have HSU := Lib.hid hsu
      have HUL := Lib.hid hulen
      clear hsu hulen
      go_wp2_with fail
      (with_reducible refine hP.mono ?_)
      rintro e w' ⟨rfl, rfl⟩
      clear hP
      go_wp2_with (at_builtin; refine app_v _ (.int .i64 (q : Int)) 73 3 8 (.int .i64 0) rfl (.tmp 27) (.tmp 33) rfl Tryz.underlying73 Tryz.info3 rfl (by omega) w1 w1.heap.size _ (nvs (Wl.usedL (S - 2) b k)) rfl hou hb.size (fun _ => False) (Kept.of_below hb) (Nat.le_refl _) rfl rfl (by simp [HUL.out]; omega) ?_; intro v2 w2 hown2 hkp2 hsz2)
      go_roundw
      case rel => exact ⟨k + 1, by omega, by go_num, by rw [HSU.out]; simpa using hown2, hkp2.to⟩
      case measure => simp [intOf]; omega
    · obtain rfl : k = n := by omega
      obtain ⟨ao2, cap2, rfl, hcap2, hRG0⟩ := hou.read
      have hRG := hRG0 G hC1.lt
      clear hRG0
      have hum : ∀ j, j ∈ Wl.usedL (S - 2) b k ↔ Wl.used (S - 2) b k j = true := fun j => Wl.usedL_iff
      have hub : ∀ y ∈ Wl.usedL (S - 2) b k, y ≤ 1000000 := by
        intro y hy
        obtain ⟨t, _, rfl⟩ := List.mem_map.1 hy
        have := (Wl.place_lt (m := S - 2) (k := b + t) (by omega)).2
        omega
      simp only [List.length_map] at hcap2 ⊢
      have hlu : (Wl.usedL (S - 2) b k).length ≤ 1000000 := by omega
      have HUM := Lib.hid hum
      have HUB := Lib.hid hub
      clear hum hub hulen hlt
      generalize Wl.usedL (S - 2) b k = ul at *
      generalize Wl.used (S - 2) b k = u at *
      have hsz := hb.size
      have hd1 := h1.mono hb
      have hC2 := hC1.mono hb
      clear h1 hou
      go_wp2_with fail
      obtain ⟨wl, rfl⟩ : ∃ wl : World, wl = wr := ⟨_, rfl⟩
      go_loopw [10] (fun s10 wr => ∃ (i : Nat) (dy : List Bool), i ≤ S ∧ 2 ≤ i ∧ s10 = .int .i64 i ∧ Disk wr G p S ⟨Wl.swp d.now u i, d.old, dy⟩ ∧ Kept G wl wr) (fun s10 _ => S - (intOf s10).toNat)
      case atStart =>
        refine ⟨2, d.dirty, by omega, by omega, rfl, ?_, Kept.refl _⟩
        have : Wl.swp d.now u 2 = d.now := by simp [Wl.swp]
        rw [this]; exact hd1
      case round =>
        obtain ⟨i, dy, hi, hi2, rfl, hd2, hkp⟩ := hrel
        have hL := Len_any hd2
        by_cases hlt2 : i < S
        · have hlt3 : (i : Int) < (S : Int) := by omega
          have hRd := Read_yes i hd2 hlt2
          have hab := Wl.swp_above d.now u i i (Nat.le_refl _)
          simp only [hab] at hRd
          clear hab
          by_cases hs : d.now.getD i [] = []
          · have HS2 : Hid (Wl.swp d.now u (i + 1) = Wl.swp d.now u i) := Lib.hid (Wl.swp_same d.now u (by rw [HNL.out]; exact hlt2) hs)
            rw [hs] at hRd
            clear hs
            go_wp2_with fail
            (with_reducible refine hL.mono ?_)
            rintro e w' ⟨rfl, rfl⟩
            go_wp2_with fail
            (with_reducible refine hRd.mono ?_)
            rintro e w' ⟨rfl, rfl⟩
            clear hL hRd
            go_wp2
            go_roundw
            case rel => exact ⟨i + 1, dy, by omega, by omega, by go_num, by rw [HS2.out]; exact hd2, hkp⟩
            case measure => simp [intOf]; omega
          · obtain ⟨s, hs0⟩ : ∃ s, d.now.getD i [] = s := ⟨_, rfl⟩
            rw [hs0] at hRd hs
            have hse : s.isEmpty = false := by simpa using hs
            have hse2 : (s == []) = false := by simpa using hs
            clear hs hs0
            have hRGr : RG wr (fun _ => False) ao2 (nvs ul) := (hRG.mono hkp).weak
            cases hu : u i with
            | true =>
              have HS2 : Hid (Wl.swp d.now u (i + 1) = Wl.swp d.now u i) := Lib.hid (by rw [Wl.swp, if_neg (by rw [hu]; simp)])
              have hCo := Contains_any ul i ao2 cap2 hlu hRGr HUB.out true (Lib.hid (by simp [HUM.out i, hu]))
              clear hu hRGr
              go_wp2_with fail
              (with_reducible refine hL.mono ?_)
              rintro e w' ⟨rfl, rfl⟩
              go_wp2_with fail
              (with_reducible refine hRd.mono ?_)
              rintro e w' ⟨rfl, rfl⟩
              go_wp2_with fail
              (with_reducible refine hCo.mono ?_)
              rintro e w' ⟨rfl, rfl⟩
              clear hL hRd hCo
              go_wp2
              go_roundw
              case rel => exact ⟨i + 1, dy, by omega, by omega, by go_num, by rw [HS2.out]; exact hd2, hkp⟩
              case measure => simp [intOf]; omega
            | false =>
              have HS2 : Hid (Wl.swp d.now u (i + 1) = (Wl.swp d.now u i).set i []) := Lib.hid (by rw [Wl.swp, if_pos ⟨hi2, hu⟩])
              have hCo := Contains_any ul i ao2 cap2 hlu hRGr HUB.out false (Lib.hid (by simp [HUM.out i, hu]))
              have hW := Write_yes i [] hd2 hlt2 (by simp)
              clear hu hRGr hd2
              go_wp2_with fail
              (with_reducible refine hL.mono ?_)
              rintro e w' ⟨rfl, rfl⟩
              go_wp2_with fail
              (with_reducible refine hRd.mono ?_)
              rintro e w' ⟨rfl, rfl⟩
              go_wp2_with fail
              (with_reducible refine hCo.mono ?_)
              rintro e w' ⟨rfl, rfl⟩
              clear hL hRd hCo
              go_wp2_with fail
              (with_reducible refine hW.mono ?_)
              rintro e w3 ⟨rfl, hd3, hk3⟩
              clear hW
              go_wp2
              go_roundw
              case rel => exact ⟨i + 1, dy.set i true, by omega, by omega, by go_num, by rw [HS2.out]; exact hd3, hkp.trans hk3⟩
              case measure => simp [intOf]; omega
        · have hi3 : i = S := by omega
          subst hi3
          have hlt3 : decide ((i : Int) < (i : Int)) = false := by simp
          have hY := Sync_any hd2
          rw [show (Wl.Dk.mk (Wl.swp d.now u i) d.old dy).syn = d.rec'.1 by rw [HDR.out]; rfl] at hY
          clear hd2
          go_wp2_with fail
          (with_reducible refine hL.mono ?_)
          rintro e w' ⟨rfl, rfl⟩
          clear hL
          go_wp2_with fail
          (with_reducible refine hY.mono ?_)
          rintro e w3 ⟨rfl, hd3, hk3⟩
          clear hY
          go_wp2
          go_ret3
          have hkw := ((Kept.of_below (G := G) hb).trans hkp).trans hk3
          exact ⟨⟨_, by rw [← HB.out]; rfl, HOWN.out.kept hkw HLT.out⟩, hd3, (Kept.of_below hb1).trans hkw⟩
end

end Go.Proofs.YtackeigdehfmmaaGreatDoor

namespace Wl
open Go
theorem txt_len2 {n : Nat} (h : n < 1000000000000000000) : (txt n).length ≤ 18 := by
  rw [txt_eq, Lib.decDigits_length]
  rcases Nat.eq_zero_or_pos n with rfl | h0
  · rw [Lib.nDigits_small (by decide)]; omega
  · exact (Bi.nd_le (by omega)).2 h
end Wl
namespace Go.Proofs.YtackeigdehfmmaaGreatDoor
open Go.RowKit

section
variable {w : World} {G : Nat → Prop} {p S : Nat} {d : Wl.Dk}

theorem Cut_none (x : Int) (h : Disk w G p S d) (hE : Env w) (hl : Hid (Wl.log d.now = none)) :
    Calls Tryz.prog 27 #[.pointer (some ⟨p, 0, none⟩), .int .i64 x] w fun e w' => e = .returned (.int .i64 21) ∧ Below w.heap.size w w' := by
  have hF := first_none h hE hl
  clear h hE hl
  go_enter Tryz.func27, Tryz.ntmps27
  go_wp2_with fail
  (with_reducible refine hF.mono ?_)
  rintro e w1 ⟨rfl, hb1⟩
  go_wp2
  go_ret
  exact ⟨rfl, hb1⟩

set_option maxRecDepth 100000 in
set_option maxHeartbeats 1600000 in
theorem Cut_range (x : Int) (L : Wl.Log) (h : Disk w G p S d) (hE : Env w) (hl : Hid (Wl.log d.now = some L)) (hc : x < L.first ∨ ((L.first + L.recs.length : Nat) : Int) < x) :
    Calls Tryz.prog 27 #[.pointer (some ⟨p, 0, none⟩), .int .i64 x] w fun e w' => e = .returned (.int .i64 7) ∧ Below w.heap.size w w' := by
  have hF := first_some L h hE hl
  have hR := fun w h hE => records_some (w := w) (G := G) (p := p) (S := S) (d := d) L h hE hl
  obtain ⟨h1, h2, h3, h4⟩ := Wl.log_le hl.out
  rw [h.ok.now] at h3 h4
  have hS := h.S_le
  unfold Wl.lim at h1 h2
  obtain ⟨b, hb0⟩ : ∃ b, b = L.first := ⟨_, rfl⟩
  obtain ⟨n, hn0⟩ : ∃ n, n = L.recs.length := ⟨_, rfl⟩
  rw [← hb0] at hc h2
  rw [← hn0] at hc h3
  have HB := Lib.hid hb0
  have HN := Lib.hid hn0
  clear hb0 hn0
  have hcc : decide (x < (b : Int)) = true ∨ (decide (x < (b : Int)) = false ∧ decide ((b : Int) + (n : Int) < x) = true) := by
    simp only [decide_eq_true_eq, decide_eq_false_iff_not]; omega
  clear hc
  rcases hcc with d0 | ⟨d0, d1⟩
  all_goals
    go_enter Tryz.func27, Tryz.ntmps27
    go_wp2_with fail
    (with_reducible refine hF.mono ?_)
    rintro e w1 ⟨rfl, hb1⟩
    have hR := hR _ (h.mono hb1) (hE.mono hb1)
    clear hF h hE
    go_wp2_with fail
    (with_reducible refine hR.mono ?_)
    rintro e w2 ⟨⟨v, rfl, hown⟩, hb2⟩
    obtain ⟨ao, cap, rfl, hcap, -⟩ := hown.read
    clear hR hown
    simp only [List.length_map, ← HB.out, ← HN.out] at hcap ⊢
    go_wp2
    go_ret
    exact ⟨rfl, Below.step hb1 hb2 (Nat.le_refl _)⟩

set_option maxRecDepth 100000 in
set_option maxHeartbeats 1600000 in
theorem Cut_ok (x : Nat) (L : Wl.Log) (h : Disk w G p S d) (hE : Env w) (hl : Hid (Wl.log d.now = some L)) (hc1 : L.first ≤ x) (hc2 : x ≤ L.first + L.recs.length) :
    Calls Tryz.prog 27 #[.pointer (some ⟨p, 0, none⟩), .int .i64 x] w fun e w' => e = .returned (.int .i64 0) ∧ Disk w' G p S (d.wrt ((L.header + 1) % 2) (Wl.enc ((L.header + 1 : Nat) : Int) (Wl.txt x))).syn ∧ Kept G w w' := by
  have hF := first_some L h hE hl
  have hR := fun w h hE => records_some (w := w) (G := G) (p := p) (S := S) (d := d) L h hE hl
  obtain ⟨h1, h2, h3, h4⟩ := Wl.log_le hl.out
  rw [h.ok.now] at h3 h4
  have hS := h.S_le
  unfold Wl.lim at h1 h2
  obtain ⟨b, hb0⟩ : ∃ b, b = L.first := ⟨_, rfl⟩
  obtain ⟨n, hn0⟩ : ∃ n, n = L.recs.length := ⟨_, rfl⟩
  obtain ⟨hd, hh0⟩ : ∃ hd, hd = L.header := ⟨_, rfl⟩
  rw [← hb0] at hc1 hc2 h2
  rw [← hn0] at hc2 h3
  rw [← hh0] at h1 ⊢
  have HB := Lib.hid hb0
  have HN := Lib.hid hn0
  have HH := Lib.hid hh0
  clear hb0 hn0 hh0
  have d0 : decide ((x : Int) < (b : Int)) = false := by simp <;> omega
  have d1 : decide ((b : Int) + (n : Int) < (x : Int)) = false := by simp <;> omega
  have htl : (Wl.txt x).length ≤ 1000 := by have := Wl.txt_len2 (n := x) (by omega); omega
  have hI := fun w hE => itoa_any x (by omega) w hE
  have hEn := fun w hE => Encode_any ((hd + 1 : Nat) : Int) (Wl.txt x) w (by omega) hE
  have hel := Wl.enc_len ((hd + 1 : Nat) : Int) (Wl.txt x)
  have hm : ((hd : Int) + 1) % 2 = (((hd + 1) % 2 : Nat) : Int) := by omega
  have hm2 : (hd + 1) % 2 < 2 := by omega
  rw [show ((hd + 1 : Nat) : Int) = (hd : Int) + 1 by omega] at hEn hel ⊢
  generalize Wl.enc ((hd : Int) + 1) (Wl.txt x) = E at *
  generalize Wl.txt x = T at *
  generalize (hd + 1) % 2 = q at *
  go_enter Tryz.func27, Tryz.ntmps27
  go_wp2_with fail
  (with_reducible refine hF.mono ?_)
  rintro e w1 ⟨rfl, hb1⟩
  have h := h.mono hb1
  have hE := hE.mono hb1
  have hR := hR _ h hE
  clear hF
  go_wp2_with fail
  (with_reducible refine hR.mono ?_)
  rintro e w2 ⟨⟨v, rfl, hown⟩, hb2⟩
  obtain ⟨ao, cap, rfl, hcap, -⟩ := hown.read
  clear hR hown
  have h := h.mono hb2
  have hE := hE.mono hb2
  have hbb := Below.step hb1 hb2 (Nat.le_refl _)
  simp only [List.length_map, ← HB.out, ← HN.out, ← HH.out] at hcap ⊢
  have hI := hI _ hE
  go_wp2_with fail
  (with_reducible refine hI.mono ?_)
  rintro e w3 ⟨rfl, hb3⟩
  have h := h.mono hb3
  have hE := hE.mono hb3
  have hbb := Below.step hbb hb3 (Nat.le_refl _)
  have hEn := hEn _ hE
  clear hI
  go_wp2_with fail
  (with_reducible refine hEn.mono ?_)
  rintro e w4 ⟨rfl, hb4⟩
  have h := h.mono hb4
  have hbb := Below.step hbb hb4 (Nat.le_refl _)
  clear hEn hE
  have hW := Write_yes q E h (by omega) (by omega)
  clear h
  go_wp2_with fail
  (with_reducible refine hW.mono ?_)
  rintro e w5 ⟨rfl, hd5, hk5⟩
  have hY := Sync_any hd5
  clear hW hd5
  go_wp2_with fail
  (with_reducible refine hY.mono ?_)
  rintro e w6 ⟨rfl, hd6, hk6⟩
  clear hY
  go_wp2
  go_ret
  exact ⟨rfl, hd6, ((Kept.of_below hbb).trans hk5).trans hk6⟩

end

end Go.Proofs.YtackeigdehfmmaaGreatDoor
