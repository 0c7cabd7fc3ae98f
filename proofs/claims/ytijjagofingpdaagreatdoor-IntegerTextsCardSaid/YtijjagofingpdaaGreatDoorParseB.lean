import Derived.Test.YtijjagofingpdaaGreatDoorRefD
import Derived.Test.YtijjagofingpdaaGreatDoorPlainT
import Derived.Shelf.Strings.SlTrimAscii
namespace Go.Proofs.YtijjagofingpdaaGreatDoor
open Go.RowKit

theorem trim_digs_any (L : List UInt8) (w : World) (hs : L.length ≤ 1000000000) :
    Calls Tryz.prog 31 #[.string ⟨L.toArray⟩, .string ⟨#[48, 49, 50, 51, 52, 53, 54, 55, 56, 57]⟩] w fun e w' => e = .returned (.string ⟨(Lib.trimS L Bi.digs).toArray⟩) ∧ Below w.heap.size w w' := by
  have := Any.strings_Trim_laid Tryz.lays160 (by kernel_rfl) ⟨L.toArray⟩ ⟨#[48, 49, 50, 51, 52, 53, 54, 55, 56, 57]⟩ w (by simp [ByteArray.size]; omega) (by decide) (ascii_of_all (by decide))
  exact this

set_option maxRecDepth 100000 in
set_option maxHeartbeats 1600000 in
theorem Parse_bad (s : List UInt8) (w : World) (_hs : s.length ≤ 1000000000) (hbad : Hid (¬ Bi.textP (Lib.hasPrefix s [45]) (Lib.trimPrefix s [45]))) :
    Calls Tryz.prog 9 #[.string ⟨s.toArray⟩] w fun e w' => e = .returned (.tuple #[.agg #[.bool false, .slice none 0 0], .int .i64 2]) ∧ Below w.heap.size w w' := by
  have hl : (Lib.trimPrefix s [45]).length ≤ s.length := by unfold Lib.trimPrefix; split <;> simp
  go_enter Tryz.func9, Tryz.ntmps9
  go_wp2_with fail
  (with_reducible refine (Tryz.strings_CutPrefix _ _ _).mono ?_)
  rintro e w1 ⟨rfl, rfl⟩
  generalize Lib.trimPrefix s [45] = t at *
  generalize Lib.hasPrefix s [45] = neg at *
  have B := Box.new w (.bool false) (.slice none 0 0) 25
  have hbx := below_alloc w (.cells #[.bool false, .slice none 0 0] 25)
  by_cases ht0 : t = []
  · subst ht0
    clear hl
    go_wp2_with fail
    generalize w.alloc (.cells #[.bool false, .slice none 0 0] 25) = wx at *
    obtain ⟨p0, p1, q0, q1⟩ := B
    refine bodyPost_ret (v := .tuple #[.agg #[.bool false, .slice none 0 0], .int .i64 2]) (by simp [results, Tryz.results9, go_sem, p0, p1]) rfl ⟨rfl, hbx⟩
  have he : t.isEmpty = false := by simpa using ht0
  by_cases h300 : (300 : Int) < (t.length : Int)
  · clear ht0
    go_wp2_with fail
    generalize w.alloc (.cells #[.bool false, .slice none 0 0] 25) = wx at *
    obtain ⟨p0, p1, q0, q1⟩ := B
    refine bodyPost_ret (v := .tuple #[.agg #[.bool false, .slice none 0 0], .int .i64 2]) (by simp [results, Tryz.results9, go_sem, p0, p1]) rfl ⟨rfl, hbx⟩
  · have hb3 : decide ((300 : Int) < (t.length : Int)) = false := by simpa using h300
    go_wp2_with fail
    generalize w.alloc (.cells #[.bool false, .slice none 0 0] 25) = wx at *
    (with_reducible refine (trim_digs_any t wx ?_).mono ?_)
    · omega
    rintro e w1 ⟨rfl, hb1⟩
    have HZ := Lib.hid (Bi.trim_digs t)
    generalize Lib.trimS t Bi.digs = z at *
    obtain ⟨p0, p1, q0, q1⟩ := B.mono hb1
    have hbw := Below.step hbx hb1 (Nat.le_refl _)
    clear B
    by_cases hz : z = []
    · have HD : Hid (∀ b ∈ t, Bi.isDig b) := Lib.hid (HZ.out.1 hz)
      subst hz
      obtain ⟨c, r, rfl⟩ : ∃ c r, t = c :: r := by
        cases t with
        | nil => simp at he
        | cons c r => exact ⟨c, r, rfl⟩
      have hcr : c = 48 ∧ (0 < r.length ∨ neg = true) := by
        have h := hbad.out
        unfold Bi.textP at h
        simp only [ne_eq, reduceCtorEq, not_false_eq_true, true_and, List.head?_cons, Option.some.injEq, List.length_cons] at h
        apply Classical.byContradiction
        intro hno
        refine h ⟨by simp at h300; omega, HD.out, ?_⟩
        rintro ⟨h1, h2⟩
        exact hno ⟨h1, by rcases h2 with h2 | h2; exact .inl (by omega); exact .inr h2⟩
      obtain ⟨rfl, hr⟩ := hcr
      have hr3 : (r.length : Int) + 1 ≤ 300 := by simp at h300; omega
      have hr4 : (0 : Int) < r.length ∨ (¬ (0 : Int) < r.length ∧ neg = true) := by
        rcases hr with h | h
        · exact .inl (by omega)
        · by_cases h0 : (0 : Int) < r.length
          · exact .inl h0
          · exact .inr ⟨h0, h⟩
      clear hr hl ht0 he hb3 h300 HZ HD hbad
      rcases hr4 with h | ⟨h, rfl⟩
      all_goals
        go_wp2
        refine bodyPost_ret (v := .tuple #[.agg #[.bool false, .slice none 0 0], .int .i64 2]) (by simp [results, Tryz.results9, go_sem, p0, p1]) rfl ⟨rfl, Below.put2 hbw (Nat.le_refl _) _ _⟩
    · have hze : z.isEmpty = false := by simpa using hz
      clear hz
      go_wp2
      refine bodyPost_ret (v := .tuple #[.agg #[.bool false, .slice none 0 0], .int .i64 2]) (by simp [results, Tryz.results9, go_sem, p0, p1]) rfl ⟨rfl, Below.put2 hbw (Nat.le_refl _) _ _⟩

end Go.Proofs.YtijjagofingpdaaGreatDoor
