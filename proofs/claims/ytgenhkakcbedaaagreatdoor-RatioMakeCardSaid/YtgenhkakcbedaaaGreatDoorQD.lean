import Derived.Test.YtgenhkakcbedaaaGreatDoorQB
import Derived.Test.YtgenhkakcbedaaaGreatDoorQC
namespace Go.Proofs.YtgenhkakcbedaaaGreatDoor
open Go.RowKit

theorem good1 : GoodT [49] ∧ (1 : Int) = sgn (Lib.hasPrefix [49] [45]) (Bi.decVal (Lib.trimPrefix [49] [45])) := by
  have := goodT_itoa (z := 1) (sm_of (by decide) (by decide))
  rwa [show ((1 : Int)) = ((1 : Nat) : Int) from rfl, itoa_one 1 (by decide)] at this

/-- both ways of 'Parse' come to the same -/
theorem parse_both (s : List UInt8) (hs : s.length ≤ 1000000) : ∃ o : Option Rat,
    (∀ w : World, Env w → MaxV w → Calls Tryz.prog 24 #[.string ⟨s.toArray⟩] w fun e w' => PRes o w' e ∧ Below w.heap.size w w') ∧
    (∀ w : World, Env w → Calls Tryz.prog 25 #[.string ⟨s.toArray⟩] w fun e w' => PRes o w' e ∧ Below w.heap.size w w') := by
  rcases Rq.slash_cases s with h47 | ⟨n, d, rfl, h47⟩
  · have hc : Hid (Lib.cut s [47] = (s, [], false)) := Lib.hid (Rq.cut_none h47)
    have hsp : Hid (SplitT s s [49]) := Lib.hid (.inl ⟨h47, rfl, rfl⟩)
    by_cases hg : GoodT s
    · obtain ⟨z, hz⟩ : ∃ z, z = sgn (Lib.hasPrefix s [45]) (Bi.decVal (Lib.trimPrefix s [45])) := ⟨_, rfl⟩
      refine ⟨some (z : Rat), fun w hE hM => ParseQ_tail s s [] false z _ w hs hs (by simp) hc (Lib.hid hg) (Lib.hid hz) (.inl ⟨rfl, (z : Rat), rfl, Lib.hid rfl, Lib.hid rfl⟩) hE hM,
        fun w hE => rParseQ_case s s [49] _ w hs hs (by simp) hsp (.inr (.inr (.inr (.inr (.inr ⟨Lib.hid hg, Lib.hid good1.1, z, 1, (z : Rat), rfl, Lib.hid hz, Lib.hid good1.2, Lib.hid rfl, Lib.hid rfl, Lib.hid ?_⟩))))) hE⟩
      rw [Rq.textQ_one rfl]
      show Lib.itoa z = s
      rw [hz]; exact hg.2.2.2
    · exact ⟨none, fun w hE hM => ParseQ_bad1 s s [] false w hs hs hc (Lib.hid hg) hE hM, fun w hE => rParseQ_case s s [49] _ w hs hs (by simp) hsp (.inl ⟨rfl, Lib.hid hg, Lib.hid good1.1, 1, Lib.hid good1.2⟩) hE⟩
  · have hc : Hid (Lib.cut (n ++ 47 :: d) [47] = (n, d, true)) := Lib.hid (Rq.cut_split h47)
    have hsp : Hid (SplitT (n ++ 47 :: d) n d) := Lib.hid (.inr ⟨rfl, h47⟩)
    have hn : n.length ≤ 1000000 := by simp at hs; omega
    have hd : d.length ≤ 1000000 := by simp at hs; omega
    obtain ⟨z, hz⟩ : ∃ z, z = sgn (Lib.hasPrefix n [45]) (Bi.decVal (Lib.trimPrefix n [45])) := ⟨_, rfl⟩
    obtain ⟨q, hq⟩ : ∃ q, q = sgn (Lib.hasPrefix d [45]) (Bi.decVal (Lib.trimPrefix d [45])) := ⟨_, rfl⟩
    by_cases hg : GoodT n
    · by_cases hg2 : GoodT d
      · by_cases hq1 : q ≤ 1
        · refine ⟨none, fun w hE hM => ParseQ_tail _ n d true z _ w hs hn hd hc (Lib.hid hg) (Lib.hid hz) (.inr (.inr (.inl ⟨rfl, rfl, Lib.hid hg2, q, Lib.hid hq, Lib.hid hq1⟩))) hE hM, ?_⟩
          by_cases hv : Rq.VP z q
          · obtain ⟨r, hr1, hr2⟩ := hv.rat
            have hone : r.den = 1 := by have := hv.1; omega
            refine fun w hE => rParseQ_case _ n d _ w hs hn hd hsp (.inr (.inr (.inr (.inr (.inl ⟨rfl, Lib.hid hg, Lib.hid hg2, z, q, r, Lib.hid hz, Lib.hid hq, Lib.hid hr1, Lib.hid hr2, Lib.hid ?_⟩))))) hE
            rw [Rq.textQ_one hone, hr1, hz, hg.2.2.2]
            intro h
            exact h47 (by rw [h]; simp)
          · exact fun w hE => rParseQ_case _ n d _ w hs hn hd hsp (.inr (.inr (.inr (.inl ⟨rfl, Lib.hid hg, Lib.hid hg2, z, q, Lib.hid hz, Lib.hid hq, Lib.hid hv⟩)))) hE
        · by_cases hgcd : Int.gcd z q = 1
          · obtain ⟨r, hr1, hr2⟩ := Rq.VP.rat (p := z) (d := q) ⟨by omega, hgcd⟩
            refine ⟨some r, fun w hE hM => ParseQ_tail _ n d true z _ w hs hn hd hc (Lib.hid hg) (Lib.hid hz) (.inr (.inr (.inr (.inr ⟨rfl, Lib.hid hg2, q, r, rfl, Lib.hid hq, Lib.hid (by omega), Lib.hid hr1, Lib.hid hr2⟩)))) hE hM,
              fun w hE => rParseQ_case _ n d _ w hs hn hd hsp (.inr (.inr (.inr (.inr (.inr ⟨Lib.hid hg, Lib.hid hg2, z, q, r, rfl, Lib.hid hz, Lib.hid hq, Lib.hid hr1, Lib.hid hr2, Lib.hid ?_⟩))))) hE⟩
            rw [Rq.textQ_two (by omega), hr1, hr2, hz, hq, hg.2.2.2, hg2.2.2.2]
          · exact ⟨none, fun w hE hM => ParseQ_tail _ n d true z _ w hs hn hd hc (Lib.hid hg) (Lib.hid hz) (.inr (.inr (.inr (.inl ⟨rfl, rfl, Lib.hid hg2, q, Lib.hid hq, Lib.hid ⟨by omega, hgcd⟩⟩)))) hE hM,
              fun w hE => rParseQ_case _ n d _ w hs hn hd hsp (.inr (.inr (.inr (.inl ⟨rfl, Lib.hid hg, Lib.hid hg2, z, q, Lib.hid hz, Lib.hid hq, Lib.hid fun h => hgcd h.2⟩)))) hE⟩
      · exact ⟨none, fun w hE hM => ParseQ_tail _ n d true z _ w hs hn hd hc (Lib.hid hg) (Lib.hid hz) (.inr (.inl ⟨rfl, rfl, Lib.hid hg2⟩)) hE hM,
          fun w hE => rParseQ_case _ n d _ w hs hn hd hsp (.inr (.inr (.inl ⟨rfl, Lib.hid hg, ⟨z, Lib.hid hz⟩, Lib.hid hg2⟩))) hE⟩
    · refine ⟨none, fun w hE hM => ParseQ_bad1 _ n d true w hs hn hc (Lib.hid hg) hE hM, ?_⟩
      by_cases hg2 : GoodT d
      · exact fun w hE => rParseQ_case _ n d _ w hs hn hd hsp (.inl ⟨rfl, Lib.hid hg, Lib.hid hg2, q, Lib.hid hq⟩) hE
      · exact fun w hE => rParseQ_case _ n d _ w hs hn hd hsp (.inr (.inl ⟨rfl, Lib.hid hg, Lib.hid hg2⟩)) hE

/-- a result in parts: the error k, and the integers p and d -/
def ResP (w' : World) (k p d : Int) (e : Ending) : Prop :=
  ∃ (n1 : Bool) (a1 : Option Addr) (l1 c1 : Nat) (n2 : Bool) (a2 : Option Addr) (l2 c2 : Nat), e = .returned (.tuple #[.agg #[.bool n1, .slice a1 l1 c1, .bool n2, .slice a2 l2 c2], .int .i64 k]) ∧
    Hid (IntV w' (.agg #[.bool n1, .slice a1 l1 c1]) p) ∧ Hid (IntV w' (.agg #[.bool n2, .slice a2 l2 c2]) d)

theorem PRes.parts {o : Option Rat} : ∃ k p d : Int, ∀ (w' : World) (e : Ending), PRes o w' e → ResP w' k p d e := by
  cases o with
  | none => exact ⟨2, 0, 0, fun w' e h => ⟨false, none, 0, 0, false, none, 0, 0, h, Lib.hid (IntV.zero _), Lib.hid (IntV.zero _)⟩⟩
  | some r => exact ⟨0, r.num, r.den, fun w' e h => h⟩

/-- one call of each 'Parse' -/
theorem parse_two (s : List UInt8) (hs : s.length ≤ 1000000) : ∃ k p d : Int,
    (∀ w : World, Env w → MaxV w → Calls Tryz.prog 24 #[.string ⟨s.toArray⟩] w fun e w' => ResP w' k p d e ∧ Below w.heap.size w w') ∧
    (∀ w : World, Env w → Calls Tryz.prog 25 #[.string ⟨s.toArray⟩] w fun e w' => ResP w' k p d e ∧ Below w.heap.size w w') := by
  obtain ⟨o, h1, h2⟩ := parse_both s hs
  obtain ⟨k, p, d, h3⟩ := PRes.parts (o := o)
  exact ⟨k, p, d, fun w hE hM => (h1 w hE hM).mono fun _ _ ⟨h, hb⟩ => ⟨h3 _ _ h, hb⟩, fun w hE => (h2 w hE).mono fun _ _ ⟨h, hb⟩ => ⟨h3 _ _ h, hb⟩⟩

set_option maxRecDepth 100000 in
set_option maxHeartbeats 1600000 in
theorem parse_lawBig (s : List UInt8) (w : World) (hs : 700 < s.length) (hE : Env w) (hM : MaxV w) (_hs2 : s.length ≤ 9223372036854775807) :
    Calls Tryz.prog 5 #[.string ⟨s.toArray⟩] w fun e w' => e = .returned (.bool true) ∧ Below w.heap.size w w' := by
  have hll : (700 : Int) < (s.length : Int) := by omega
  have hE0 := hE
  have hbw := Below.refl w.heap.size w
  go_enter Tryz.func5, Tryz.ntmps5
  go_wp2_with fail
  (with_reducible refine (awakeQ w hE hM).mono ?_)
  rintro e v1 ⟨rfl, hb⟩
  have hM := hM.mono hb
  have hE := hE.mono hb
  have hbw := Below.step hbw hb (Nat.le_refl _)
  clear hb
  go_wp2_with fail
  (with_reducible refine (awakeQ v1 hE hM).mono ?_)
  rintro e v2 ⟨rfl, hb⟩
  have hM := hM.mono hb
  have hE := hE.mono hb
  have hbw := Below.step hbw hb (Nat.le_refl _)
  clear hb
  go_wp2
  go_ret
  exact ⟨rfl, hbw⟩

set_option maxRecDepth 100000 in
set_option maxHeartbeats 1600000 in
theorem parse_lawQ (s : List UInt8) (w : World) (hs : s.length ≤ 700) (hE : Env w) (hM : MaxV w) :
    Calls Tryz.prog 5 #[.string ⟨s.toArray⟩] w fun e w' => e = .returned (.bool true) ∧ Below w.heap.size w w' := by
  obtain ⟨kk, pp, dd, h1, h2⟩ := parse_two s (by omega)
  have H1 := Lib.hid h1
  have H2 := Lib.hid h2
  clear h1 h2
  have hll : decide ((700 : Int) < (s.length : Int)) = false := by simp; omega
  have hkk : (kk == kk) = true := by simp
  have hE0 := hE
  have hbw := Below.refl w.heap.size w
  go_enter Tryz.func5, Tryz.ntmps5
  go_wp2_with fail
  (with_reducible refine (awakeQ w hE hM).mono ?_)
  rintro e v1 ⟨rfl, hb⟩
  have hM := hM.mono hb
  have hE := hE.mono hb
  have hbw := Below.step hbw hb (Nat.le_refl _)
  clear hb
  go_wp2_with fail
  (with_reducible refine (H1.out v1 hE hM).mono ?_)
  rintro e v2 ⟨⟨ng1, ao1, n1, cap1, ng2, ao2, n2, cap2, rfl, HV1, HV2⟩, hb⟩
  have hM := hM.mono hb
  have hE := hE.mono hb
  have hbw := Below.step hbw hb (Nat.le_refl _)
  clear hb
  go_upto_region 4 with fail
  have X3 := Box4.new v2 (.bool ng1) (.slice ao1 n1 cap1) (.bool ng2) (.slice ao2 n2 cap2) 29
  have hb := below_alloc v2 (.cells #[.bool ng1, .slice ao1 n1 cap1, .bool ng2, .slice ao2 n2 cap2] 29)
  generalize v2.alloc (.cells #[.bool ng1, .slice ao1 n1 cap1, .bool ng2, .slice ao2 n2 cap2] 29) = v3 at *
  have hM := hM.mono hb
  have HV1 := Lib.hid (HV1.out.mono hb)
  have HV2 := Lib.hid (HV2.out.mono hb)
  have hE := hE.mono hb
  have hbw := Below.step hbw hb (Nat.le_refl _)
  clear hb
  go_wp2_with fail
  (with_reducible refine (H2.out v3 hE).mono ?_)
  rintro e v4 ⟨⟨ng3, ao3, n3, cap3, ng4, ao4, n4, cap4, rfl, HV3, HV4⟩, hb⟩
  have hM := hM.mono hb
  have HV1 := Lib.hid (HV1.out.mono hb)
  have HV2 := Lib.hid (HV2.out.mono hb)
  have X3 := X3.mono hb
  have hE := hE.mono hb
  have hbw := Below.step hbw hb (Nat.le_refl _)
  clear hb
  go_upto_region 5 with fail
  have lX5X3 := X3.lt
  have X5 := Box4.new v4 (.bool ng3) (.slice ao3 n3 cap3) (.bool ng4) (.slice ao4 n4 cap4) 29
  have hb := below_alloc v4 (.cells #[.bool ng3, .slice ao3 n3 cap3, .bool ng4, .slice ao4 n4 cap4] 29)
  generalize v4.alloc (.cells #[.bool ng3, .slice ao3 n3 cap3, .bool ng4, .slice ao4 n4 cap4] 29) = v5 at *
  have hM := hM.mono hb
  have HV1 := Lib.hid (HV1.out.mono hb)
  have HV2 := Lib.hid (HV2.out.mono hb)
  have X3 := X3.mono hb
  have HV3 := Lib.hid (HV3.out.mono hb)
  have HV4 := Lib.hid (HV4.out.mono hb)
  have hE := hE.mono hb
  have hbw := Below.step hbw hb (Nat.le_refl _)
  clear hb
  obtain ⟨cX3_0, cX3_1, cX3_2, cX3_3, _, _, _, _⟩ := id X3
  obtain ⟨cX5_0, cX5_1, cX5_2, cX5_3, _, _, _, _⟩ := id X5
  go_wp2_with fail
  (with_reducible refine (eqQ_same pp dd pp dd v5 (Lib.hid ⟨rfl, rfl⟩) HV1.out HV2.out HV3.out HV4.out hE).mono ?_)
  rintro e v6 ⟨rfl, hb⟩
  have hM := hM.mono hb
  have HV1 := Lib.hid (HV1.out.mono hb)
  have HV2 := Lib.hid (HV2.out.mono hb)
  have X3 := X3.mono hb
  have HV3 := Lib.hid (HV3.out.mono hb)
  have HV4 := Lib.hid (HV4.out.mono hb)
  have X5 := X5.mono hb
  have hE := hE.mono hb
  have hbw := Below.step hbw hb (Nat.le_refl _)
  clear hb
  clear cX3_0 cX3_1 cX3_2 cX3_3 cX5_0 cX5_1 cX5_2 cX5_3
  go_wp2
  go_ret
  exact ⟨rfl, hbw⟩

theorem ratioParse_law (s : ByteArray) (hs : s.size ≤ maxLen) (w : World) (hE : Env w) (hM : MaxV w) :
    Calls Tryz.prog 5 #[.string s] w fun e w' => e = .returned (.bool true) ∧ Below w.heap.size w w' := by
  obtain ⟨l, rfl⟩ : ∃ l : List UInt8, s = ⟨l.toArray⟩ := ⟨s.data.toList, by cases s; simp⟩
  have hl : l.length ≤ 9223372036854775807 := by unfold maxLen at hs; simpa [ByteArray.size] using hs
  by_cases h : 700 < l.length
  · exact parse_lawBig l w h hE hM hl
  · exact parse_lawQ l w (by omega) hE hM

end Go.Proofs.YtgenhkakcbedaaaGreatDoor
