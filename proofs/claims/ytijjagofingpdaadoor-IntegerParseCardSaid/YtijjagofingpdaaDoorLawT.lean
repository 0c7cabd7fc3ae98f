import Derived.Test.YtijjagofingpdaaDoorParseA
namespace Go.Proofs.YtijjagofingpdaaDoor
open Go.RowKit

/-- is it the text of a valid integer? -/
def GoodT (s : List UInt8) : Prop :=
  (∀ b ∈ Lib.trimPrefix s [45], Bi.isDig b) ∧ Lib.trimPrefix s [45] ≠ [] ∧ (Lib.trimPrefix s [45]).length ≤ 300 ∧ Lib.itoa (sgn (Lib.hasPrefix s [45]) (Bi.decVal (Lib.trimPrefix s [45]))) = s

/-- the result of 'Parse' on a text of z -/
def GotZ (w' : World) (z : Int) (e : Ending) : Prop :=
  ∃ (ng : Bool) (ao : Option Addr) (n cap : Nat), e = .returned (.tuple #[.agg #[.bool ng, .slice ao n cap], .int .i64 0]) ∧ Hid (IntV w' (.agg #[.bool ng, .slice ao n cap]) z)

theorem RParse.good {w' : World} {s : List UInt8} {e : Ending} (h : RParse w' (Lib.hasPrefix s [45]) (Lib.trimPrefix s [45]) s e) (hg : GoodT s) : GotZ w' (sgn (Lib.hasPrefix s [45]) (Bi.decVal (Lib.trimPrefix s [45]))) e := by
  obtain ⟨ng, ao, n, cap, k, rfl, H⟩ := h
  rcases H.out with ⟨_, _, _, _, hV, rfl⟩ | ⟨hn, _⟩
  · exact ⟨ng, ao, n, cap, rfl, Lib.hid hV⟩
  · exact absurd hg hn

theorem RParse.bad {w' : World} {s : List UInt8} {e : Ending} (h : RParse w' (Lib.hasPrefix s [45]) (Lib.trimPrefix s [45]) s e) (hg : ¬ GoodT s) : e = .returned (.tuple #[.agg #[.bool false, .slice none 0 0], .int .i64 2]) := by
  obtain ⟨ng, ao, n, cap, k, rfl, H⟩ := h
  rcases H.out with ⟨h1, h2, h3, h4, _, _⟩ | ⟨_, rfl, rfl, rfl, rfl, rfl⟩
  · exact absurd ⟨h1, h2, h3, h4⟩ hg
  · rfl

theorem Parse_good (s : List UInt8) (z : Int) (hz : Hid (z = sgn (Lib.hasPrefix s [45]) (Bi.decVal (Lib.trimPrefix s [45])))) (w : World) (hs : s.length ≤ 1000000) (hE : Env w) (hg : Hid (GoodT s)) :
    Calls Tryd.prog 36 #[.string ⟨s.toArray⟩] w fun e w' => GotZ w' z e ∧ Below w.heap.size w w' := by
  rw [hz.out]; exact (Parse_all s w hs hE).mono fun _ _ ⟨h, hb⟩ => ⟨h.good hg.out, hb⟩
theorem rParse_good (s : List UInt8) (z : Int) (hz : Hid (z = sgn (Lib.hasPrefix s [45]) (Bi.decVal (Lib.trimPrefix s [45])))) (w : World) (hs : s.length ≤ 1000000) (hg : Hid (GoodT s)) :
    Calls Tryd.prog 37 #[.string ⟨s.toArray⟩] w fun e w' => GotZ w' z e ∧ Below w.heap.size w w' := by
  rw [hz.out]; exact (rParse_all s w hs).mono fun _ _ ⟨h, hb⟩ => ⟨h.good hg.out, hb⟩
theorem Parse_none (s : List UInt8) (w : World) (hs : s.length ≤ 1000000) (hE : Env w) (hg : Hid (¬ GoodT s)) :
    Calls Tryd.prog 36 #[.string ⟨s.toArray⟩] w fun e w' => e = .returned (.tuple #[.agg #[.bool false, .slice none 0 0], .int .i64 2]) ∧ Below w.heap.size w w' :=
  (Parse_all s w hs hE).mono fun _ _ ⟨h, hb⟩ => ⟨h.bad hg.out, hb⟩
theorem rParse_none (s : List UInt8) (w : World) (hs : s.length ≤ 1000000) (hg : Hid (¬ GoodT s)) :
    Calls Tryd.prog 37 #[.string ⟨s.toArray⟩] w fun e w' => e = .returned (.tuple #[.agg #[.bool false, .slice none 0 0], .int .i64 2]) ∧ Below w.heap.size w w' :=
  (rParse_all s w hs).mono fun _ _ ⟨h, hb⟩ => ⟨h.bad hg.out, hb⟩

theorem Format_eq (a : Value) (x : Int) (s : List UInt8) (w : World) (hs : Hid (Lib.itoa x = s)) (ha : IntV w a x) (hE : Env w) :
    Calls Tryd.prog 38 #[a] w fun e w' => e = .returned (.tuple #[.string ⟨s.toArray⟩, .int .i64 0]) ∧ Below w.heap.size w w' := by
  rw [← hs.out]; exact Format_any a x w ha hE

set_option maxRecDepth 100000 in
set_option maxHeartbeats 3200000 in
theorem parse_law (s : List UInt8) (w : World) (hs : s.length ≤ 9223372036854775807) (hE : Env w) :
    Calls Tryd.prog 10 #[.string ⟨s.toArray⟩] w fun e w' => e = .returned (.bool true) ∧ Below w.heap.size w w' := by
  by_cases h4 : (400 : Int) < (s.length : Int)
  · go_enter Tryd.func10, Tryd.ntmps10
    go_wp2_with fail
    (with_reducible refine (awake_any _ hE).mono ?_)
    rintro e w1 ⟨rfl, hb⟩
    have hE := hE.mono hb
    go_wp2_with fail
    (with_reducible refine (awake_any _ hE).mono ?_)
    rintro e w2 ⟨rfl, hb2⟩
    have hbw := Below.step hb hb2 (Nat.le_refl _)
    clear hb hb2
    go_wp2
    go_ret
    exact ⟨rfl, hbw⟩
  have hb4 : decide ((400 : Int) < (s.length : Int)) = false := by simpa using h4
  have hl : s.length ≤ 1000000 := by omega
  clear h4
  by_cases hg : GoodT s
  · have HG := Lib.hid hg
    obtain ⟨z, hz⟩ : ∃ z, z = sgn (Lib.hasPrefix s [45]) (Bi.decVal (Lib.trimPrefix s [45])) := ⟨_, rfl⟩
    have HT : Hid (Lib.itoa z = s) := Lib.hid (by rw [hz]; exact hg.2.2.2)
    have HZ := Lib.hid hz
    clear hg hz
    go_enter Tryd.func10, Tryd.ntmps10
    go_wp2_with fail
    (with_reducible refine (awake_any _ hE).mono ?_)
    rintro e w1 ⟨rfl, hbw⟩
    have hE := hE.mono hbw
    go_wp2_with fail
    (with_reducible refine (Parse_good s z HZ _ hl hE HG).mono ?_)
    rintro e w2 ⟨⟨ng1, ao1, n1, cap1, rfl, HV1⟩, hb⟩
    have hE := hE.mono hb
    have hbw := Below.step hbw hb (Nat.le_refl _)
    clear hb
    go_upto_region 4 with fail
    have X1 := Box.new w2 (.bool ng1) (.slice ao1 n1 cap1) 25
    have hb := below_alloc w2 (.cells #[.bool ng1, .slice ao1 n1 cap1] 25)
    generalize w2.alloc (.cells #[.bool ng1, .slice ao1 n1 cap1] 25) = w3 at *
    have HV1 := Lib.hid (HV1.out.mono hb)
    have hE := hE.mono hb
    have hbw := Below.step hbw hb (Nat.le_refl _)
    clear hb
    go_wp2_with fail
    (with_reducible refine (rParse_good s z HZ _ hl HG).mono ?_)
    rintro e w4 ⟨⟨ng2, ao2, n2, cap2, rfl, HV2⟩, hb⟩
    have X1 := X1.mono hb
    have HV1 := Lib.hid (HV1.out.mono hb)
    have hE := hE.mono hb
    have hbw := Below.step hbw hb (Nat.le_refl _)
    clear hb
    go_upto_region 5 with fail
    have X2 := Box.new w4 (.bool ng2) (.slice ao2 n2 cap2) 25
    have hb := below_alloc w4 (.cells #[.bool ng2, .slice ao2 n2 cap2] 25)
    generalize w4.alloc (.cells #[.bool ng2, .slice ao2 n2 cap2] 25) = w5 at *
    have X1 := X1.mono hb
    have HV1 := Lib.hid (HV1.out.mono hb)
    have HV2 := Lib.hid (HV2.out.mono hb)
    have hE := hE.mono hb
    have hbw := Below.step hbw hb (Nat.le_refl _)
    clear hb
    obtain ⟨x0, x1, _, _⟩ := id X1
    obtain ⟨y0, y1, _, _⟩ := id X2
    go_wp2_with fail
    (with_reducible refine (eqV_same z _ _ _ HV1.out HV2.out).mono ?_)
    rintro e w6 ⟨rfl, hb⟩
    have X1 := X1.mono hb
    have HV1 := Lib.hid (HV1.out.mono hb)
    have hE := hE.mono hb
    have hbw := Below.step hbw hb (Nat.le_refl _)
    clear hb x0 x1 y0 y1
    obtain ⟨x0, x1, _, _⟩ := id X1
    go_wp2_with fail
    (with_reducible refine (Format_eq _ z s _ HT HV1.out hE).mono ?_)
    rintro e w7 ⟨rfl, hb⟩
    have X1 := X1.mono hb
    have HV1 := Lib.hid (HV1.out.mono hb)
    have hE := hE.mono hb
    have hbw := Below.step hbw hb (Nat.le_refl _)
    clear hb x0 x1
    obtain ⟨x0, x1, _, _⟩ := id X1
    go_wp2_with fail
    (with_reducible refine (validV _ z _ HV1.out hE).mono ?_)
    rintro e w8 ⟨rfl, hb⟩
    have hbw := Below.step hbw hb (Nat.le_refl _)
    clear hb x0 x1
    go_wp2
    go_ret
    exact ⟨rfl, hbw⟩
  · have HG := Lib.hid hg
    clear hg
    go_enter Tryd.func10, Tryd.ntmps10
    go_wp2_with fail
    (with_reducible refine (awake_any _ hE).mono ?_)
    rintro e w1 ⟨rfl, hbw⟩
    have hE := hE.mono hbw
    go_wp2_with fail
    (with_reducible refine (Parse_none s _ hl hE HG).mono ?_)
    rintro e w2 ⟨rfl, hb⟩
    have hE := hE.mono hb
    have hbw := Below.step hbw hb (Nat.le_refl _)
    clear hb
    go_upto_region 4 with fail
    have X1 := Box.new w2 (.bool false) (.slice none 0 0) 25
    have hb := below_alloc w2 (.cells #[.bool false, .slice none 0 0] 25)
    generalize w2.alloc (.cells #[.bool false, .slice none 0 0] 25) = w3 at *
    have hE := hE.mono hb
    have hbw := Below.step hbw hb (Nat.le_refl _)
    clear hb
    go_wp2_with fail
    (with_reducible refine (rParse_none s _ hl HG).mono ?_)
    rintro e w4 ⟨rfl, hb⟩
    have X1 := X1.mono hb
    have hbw := Below.step hbw hb (Nat.le_refl _)
    clear hb
    go_upto_region 5 with fail
    have X2 := Box.new w4 (.bool false) (.slice none 0 0) 25
    have hb := below_alloc w4 (.cells #[.bool false, .slice none 0 0] 25)
    generalize w4.alloc (.cells #[.bool false, .slice none 0 0] 25) = w5 at *
    have X1 := X1.mono hb
    have hbw := Below.step hbw hb (Nat.le_refl _)
    clear hb
    obtain ⟨x0, x1, _, _⟩ := id X1
    obtain ⟨y0, y1, _, _⟩ := id X2
    go_wp2_with fail
    (with_reducible refine (eqV_same 0 _ _ _ (IntV.zero _) (IntV.zero _)).mono ?_)
    rintro e w6 ⟨rfl, hb⟩
    have X1 := X1.mono hb
    have X2 := X2.mono hb
    have hbw := Below.step hbw hb (Nat.le_refl _)
    clear hb x0 x1 y0 y1
    obtain ⟨x0, x1, _, _⟩ := id X1
    obtain ⟨y0, y1, _, _⟩ := id X2
    go_wp2_with fail
    (with_reducible refine (eqV_same 0 _ _ _ (IntV.zero _) (IntV.zero _)).mono ?_)
    rintro e w7 ⟨rfl, hb⟩
    have hbw := Below.step hbw hb (Nat.le_refl _)
    clear hb x0 x1 y0 y1
    go_wp2
    go_ret
    exact ⟨rfl, hbw⟩

theorem parse_lawB (s : ByteArray) (hs : s.size ≤ maxLen) (w : World) (hE : Env w) :
    Calls Tryd.prog 10 #[.string s] w fun e w' => e = .returned (.bool true) ∧ Below w.heap.size w w' := by
  have e : s = ⟨s.data.toList.toArray⟩ := by cases s; simp
  have h := parse_law s.data.toList w (by unfold maxLen at hs; rw [Array.length_toList]; exact hs) hE
  rw [← e] at h
  exact h

end Go.Proofs.YtijjagofingpdaaDoor
