/-
  Texts of fractions, plain.
-/
import Derived.Test.YtgenhkakcbedaaaGreatDoorJ1
import Derived.Test.YtgenhkakcbedaaaGreatDoorQ1
import Derived.Lib.IndexMore
import Derived.Test.YtgenhkakcbedaaaGreatDoorQ6
namespace Rq
open Go

/-- the text of a fraction -/
def textQ (r : Rat) : List UInt8 := if r.den = 1 then Lib.itoa r.num else Lib.itoa r.num ++ 47 :: Lib.itoa (r.den : Int)

theorem index_none {s : List UInt8} (h : (47 : UInt8) ∉ s) : Lib.index s [47] = -1 := by
  induction s with
  | nil => rfl
  | cons b l ih =>
    have hb : ((47 : UInt8) == b) = false := by
      rw [beq_eq_false_iff_ne]; rintro rfl; exact h (by simp)
    have hl : (47 : UInt8) ∉ l := fun hh => h (by simp [hh])
    simp [Lib.index, List.isPrefixOf, hb, ih hl]

theorem index_split {n d : List UInt8} (h : (47 : UInt8) ∉ n) : Lib.index (n ++ 47 :: d) [47] = n.length := by
  induction n with
  | nil => simp [Lib.index, List.isPrefixOf]
  | cons b l ih =>
    have hb : ((47 : UInt8) == b) = false := by
      rw [beq_eq_false_iff_ne]; rintro rfl; exact h (by simp)
    have hl : (47 : UInt8) ∉ l := fun hh => h (by simp [hh])
    have := ih hl
    simp only [List.cons_append, Lib.index, List.isPrefixOf, hb, Bool.false_and, this]
    rw [if_neg (by simp), if_neg (by simp), List.length_cons, Int.natCast_succ]

theorem cut_none {s : List UInt8} (h : (47 : UInt8) ∉ s) : Lib.cut s [47] = (s, [], false) := by
  unfold Lib.cut; rw [index_none h]; rfl

theorem cut_split {n d : List UInt8} (h : (47 : UInt8) ∉ n) : Lib.cut (n ++ 47 :: d) [47] = (n, d, true) := by
  unfold Lib.cut
  rw [index_split h, if_pos (by omega)]
  simp

theorem slash_cases (s : List UInt8) : (47 : UInt8) ∉ s ∨ ∃ n d, s = n ++ 47 :: d ∧ (47 : UInt8) ∉ n := by
  induction s with
  | nil => exact .inl (by simp)
  | cons b l ih =>
    by_cases hb : b = 47
    · subst hb; exact .inr ⟨[], l, rfl, by simp⟩
    · rcases ih with h | ⟨n, d, rfl, hn⟩
      · exact .inl (by simp [h]; exact fun h => hb h.symm)
      · exact .inr ⟨b :: n, d, rfl, by simp [hn]; exact fun h => hb h.symm⟩

theorem split_inj {n d n' d' : List UInt8} (h : n ++ 47 :: d = n' ++ 47 :: d') (hn : (47 : UInt8) ∉ n) (hn' : (47 : UInt8) ∉ n') : n = n' ∧ d = d' := by
  have h1 := cut_split (d := d) hn
  have h2 := cut_split (d := d') hn'
  rw [h, h2] at h1
  simp only [Prod.mk.injEq] at h1
  exact ⟨h1.1.symm, h1.2.1.symm⟩

theorem itoa_noslash {z : Int} (h : Sm z) : (47 : UInt8) ∉ Lib.itoa z := by
  obtain ⟨neg, t, h1, _, _, h4, _⟩ := Bi.itoa_parts h
  intro hm
  rw [h1] at hm
  rcases List.mem_append.1 hm with hm | hm
  · cases neg <;> simp at hm
  · have := h4.2.2.1 _ hm
    unfold Bi.isDig at this
    have : (47 : UInt8).toNat = 47 := rfl
    omega

theorem itoa_len301 {z : Int} (h : Sm z) : (Lib.itoa z).length ≤ 301 := by
  obtain ⟨neg, t, h1, _, _, h4, _⟩ := Bi.itoa_parts h
  have := h4.2.1
  rw [h1]
  cases neg <;> simp <;> omega

/-- s is the text of r, whose parts are not too great -/
def GoodQ (s : List UInt8) (r : Rat) : Prop := textQ r = s ∧ Sm r.num ∧ Sm (r.den : Int)

theorem textQ_len {r : Rat} (h1 : Sm r.num) (h2 : Sm (r.den : Int)) : (textQ r).length ≤ 700 := by
  have := itoa_len301 h1
  have := itoa_len301 h2
  unfold textQ; split <;> simp <;> omega

theorem textQ_one {r : Rat} (h : r.den = 1) : textQ r = Lib.itoa r.num := by unfold textQ; rw [if_pos h]
theorem textQ_two {r : Rat} (h : r.den ≠ 1) : textQ r = Lib.itoa r.num ++ 47 :: Lib.itoa (r.den : Int) := by unfold textQ; rw [if_neg h]

end Rq

namespace Go.Proofs.YtgenhkakcbedaaaGreatDoor
open Go.RowKit

/-- is it the text of a valid integer? -/
def GoodT (s : List UInt8) : Prop :=
  (∀ b ∈ Lib.trimPrefix s [45], Bi.isDig b) ∧ Lib.trimPrefix s [45] ≠ [] ∧ (Lib.trimPrefix s [45]).length ≤ 300 ∧ Lib.itoa (sgn (Lib.hasPrefix s [45]) (Bi.decVal (Lib.trimPrefix s [45]))) = s

/-- the result of 'Parse' on a text of z -/
def GotZ (w' : World) (z : Int) (e : Ending) : Prop :=
  ∃ (ng : Bool) (ao : Option Addr) (n cap : Nat), e = .returned (.tuple #[.agg #[.bool ng, .slice ao n cap], .int .i64 0]) ∧ Hid (IntV w' (.agg #[.bool ng, .slice ao n cap]) z)

theorem RParse.good {w' : World} {s : List UInt8} {e : Ending} (h : RParse w' (Lib.hasPrefix s [45]) (Lib.trimPrefix s [45]) s e) (hg : GoodT s) : GotZ w' (sgn (Lib.hasPrefix s [45]) (Bi.decVal (Lib.trimPrefix s [45]))) e := by
  obtain ⟨ng, ao, n, cap, k, rfl, H⟩ := h
  rcases H.out with ⟨_, _, _, _, hV, rfl⟩ | ⟨hn, _⟩
  · exact ⟨ng, ao, n, cap, rfl, Lib.hid hV⟩
  · exact absurd hg hn

theorem RParse.bad {w' : World} {s : List UInt8} {e : Ending} (h : RParse w' (Lib.hasPrefix s [45]) (Lib.trimPrefix s [45]) s e) (hg : ¬ GoodT s) : e = .returned (.tuple #[.agg #[.bool false, .slice none 0 0], .int .i64 2]) := by
  obtain ⟨ng, ao, n, cap, k, rfl, H⟩ := h
  rcases H.out with ⟨h1, h2, h3, h4, _, _⟩ | ⟨_, rfl, rfl, rfl, rfl, rfl⟩
  · exact absurd ⟨h1, h2, h3, h4⟩ hg
  · rfl

theorem Parse_good (s : List UInt8) (z : Int) (hz : Hid (z = sgn (Lib.hasPrefix s [45]) (Bi.decVal (Lib.trimPrefix s [45])))) (w : World) (hs : s.length ≤ 1000000) (hE : Env w) (hg : Hid (GoodT s)) :
    Calls Tryz.prog 70 #[.string ⟨s.toArray⟩] w fun e w' => GotZ w' z e ∧ Below w.heap.size w w' := by
  rw [hz.out]; exact (Parse_all s w hs hE).mono fun _ _ ⟨h, hb⟩ => ⟨h.good hg.out, hb⟩
theorem rParse_good (s : List UInt8) (z : Int) (hz : Hid (z = sgn (Lib.hasPrefix s [45]) (Bi.decVal (Lib.trimPrefix s [45])))) (w : World) (hs : s.length ≤ 1000000) (hg : Hid (GoodT s)) :
    Calls Tryz.prog 71 #[.string ⟨s.toArray⟩] w fun e w' => GotZ w' z e ∧ Below w.heap.size w w' := by
  rw [hz.out]; exact (rParse_all s w hs).mono fun _ _ ⟨h, hb⟩ => ⟨h.good hg.out, hb⟩
theorem Parse_none (s : List UInt8) (w : World) (hs : s.length ≤ 1000000) (hE : Env w) (hg : Hid (¬ GoodT s)) :
    Calls Tryz.prog 70 #[.string ⟨s.toArray⟩] w fun e w' => e = .returned (.tuple #[.agg #[.bool false, .slice none 0 0], .int .i64 2]) ∧ Below w.heap.size w w' :=
  (Parse_all s w hs hE).mono fun _ _ ⟨h, hb⟩ => ⟨h.bad hg.out, hb⟩
theorem rParse_none (s : List UInt8) (w : World) (hs : s.length ≤ 1000000) (hg : Hid (¬ GoodT s)) :
    Calls Tryz.prog 71 #[.string ⟨s.toArray⟩] w fun e w' => e = .returned (.tuple #[.agg #[.bool false, .slice none 0 0], .int .i64 2]) ∧ Below w.heap.size w w' :=
  (rParse_all s w hs).mono fun _ _ ⟨h, hb⟩ => ⟨h.bad hg.out, hb⟩

theorem Format_eq (a : Value) (x : Int) (s : List UInt8) (w : World) (hs : Hid (Lib.itoa x = s)) (ha : IntV w a x) (hE : Env w) :
    Calls Tryz.prog 54 #[a] w fun e w' => e = .returned (.tuple #[.string ⟨s.toArray⟩, .int .i64 0]) ∧ Below w.heap.size w w' := by
  rw [← hs.out]; exact Format_any a x w ha hE

end Go.Proofs.YtgenhkakcbedaaaGreatDoor

namespace Go.Proofs.YtgenhkakcbedaaaGreatDoor
open Go.RowKit

theorem ret_text {a b : List UInt8} {k : Int} (h : a = b) : Ending.returned (.tuple #[.string ⟨a.toArray⟩, .int .i64 k]) = .returned (.tuple #[.string ⟨b.toArray⟩, .int .i64 k]) := by rw [h]

set_option maxRecDepth 100000 in
set_option maxHeartbeats 1600000 in
theorem FormatQ_one (v : Value) (r : Rat) (w : World) (hr : RatV w v r) (hq : Hid (r.den = 1)) (hE : Env w) :
    Calls Tryz.prog 22 #[v] w fun e w' => e = .returned (.tuple #[.string ⟨(Rq.textQ r).toArray⟩, .int .i64 0]) ∧ Below w.heap.size w w' := by
  obtain ⟨s1, hs1⟩ : ∃ s, s = Lib.itoa r.num := ⟨_, rfl⟩
  obtain ⟨s2, hs2⟩ : ∃ s, s = Lib.itoa (r.den : Int) := ⟨_, rfl⟩
  have HT : Hid (Rq.textQ r = s1) := Lib.hid (by rw [hs1]; exact Rq.textQ_one hq.out)
  have HS1 : Hid (Lib.itoa r.num = s1) := Lib.hid hs1.symm
  have HS2 : Hid (Lib.itoa (r.den : Int) = s2) := Lib.hid hs2.symm
  clear hs1 hs2
  have hE0 := hE
  have hbw := Below.refl w.heap.size w
  obtain ⟨ng1, ao1, n1, cap1, ng2, ao2, n2, cap2, rfl, h1, h2⟩ := hr
  have HV1 := Lib.hid h1
  have HV2 := Lib.hid h2
  clear h1 h2
  go_enter Tryz.func22, Tryz.ntmps22
  have hl1 : s1.length ≤ 301 := by rw [← HS1.out]; exact Rq.itoa_len301 HV1.out.small
  have hl2 : s2.length ≤ 301 := by rw [← HS2.out]; exact Rq.itoa_len301 HV2.out.small
  go_upto_region 1 with fail
  have X1 := Box4.new w (.bool ng1) (.slice ao1 n1 cap1) (.bool ng2) (.slice ao2 n2 cap2) 29
  have hb := below_alloc w (.cells #[.bool ng1, .slice ao1 n1 cap1, .bool ng2, .slice ao2 n2 cap2] 29)
  generalize w.alloc (.cells #[.bool ng1, .slice ao1 n1 cap1, .bool ng2, .slice ao2 n2 cap2] 29) = v1 at *
  have HV1 := Lib.hid (HV1.out.mono hb)
  have HV2 := Lib.hid (HV2.out.mono hb)
  have hE := hE.mono hb
  have hbw := Below.step hbw hb (Nat.le_refl _)
  clear hb
  obtain ⟨cX1_0, cX1_1, cX1_2, cX1_3, _, _, _, _⟩ := id X1
  go_wp2_with fail
  (with_reducible refine (Valid_true _ r v1 (RatV.mk' HV1 HV2) hE).mono ?_)
  rintro e v2 ⟨rfl, hb⟩
  have HV1 := Lib.hid (HV1.out.mono hb)
  have HV2 := Lib.hid (HV2.out.mono hb)
  have X1 := X1.mono hb
  have hE := hE.mono hb
  have hbw := Below.step hbw hb (Nat.le_refl _)
  clear hb
  clear cX1_0 cX1_1 cX1_2 cX1_3
  obtain ⟨cX1_0, cX1_1, cX1_2, cX1_3, _, _, _, _⟩ := id X1
  go_wp2_with fail
  (with_reducible refine (Format_eq _ r.num s1 v2 HS1 HV1.out hE).mono ?_)
  rintro e v3 ⟨rfl, hb⟩
  have HV1 := Lib.hid (HV1.out.mono hb)
  have HV2 := Lib.hid (HV2.out.mono hb)
  have X1 := X1.mono hb
  have hE := hE.mono hb
  have hbw := Below.step hbw hb (Nat.le_refl _)
  clear hb
  clear cX1_0 cX1_1 cX1_2 cX1_3
  go_upto_region 4 with fail
  obtain ⟨cv, hcv, hc0⟩ : ∃ cv : Int, cmpZ (r.den : Int) 1 = cv ∧ (cv == 0) = true := ⟨_, rfl, by have := hq.out; unfold cmpZ; split <;> (try split) <;> simp <;> omega⟩
  have HC := Lib.hid hcv
  clear hcv
  obtain ⟨wy, rfl⟩ : ∃ wy : World, wy = v3 := ⟨_, rfl⟩
  go_cut [24] (fun s24 wc => s24 = .bool true ∧ Below wy.heap.size wy wc)
  case first =>
    obtain ⟨_, _, _, _⟩ := id X1
    go_region_with (first
      | (go_at_call 65; ((with_reducible refine (one_any _ (hE.mono ?_)).mono ?_); ((repeat' (first | with_reducible assumption | with_reducible exact Below.refl _ _ | with_reducible refine Below.drew ?_ | with_reducible refine Below.alloc ?_ ?_ _ | with_reducible refine Below.setCell ?_ ?_ _ | with_reducible refine Below.step ?_ he2 ?_ | with_reducible refine Below.step ?_ he1 ?_ | (first | exact Nat.le_refl _ | omega | (simp; done) | (simp; omega) | (unfold World.setCell; simp; done) | (unfold World.setCell; simp; omega)))))); rintro e t1 ⟨⟨ng5, ao5, n5, cap5, rfl, HV5⟩, he1⟩; have HT1 : Below wy.heap.size wy t1 := (by (repeat' (first | with_reducible assumption | with_reducible exact Below.refl _ _ | with_reducible refine Below.drew ?_ | with_reducible refine Below.alloc ?_ ?_ _ | with_reducible refine Below.setCell ?_ ?_ _ | with_reducible refine Below.step ?_ he2 ?_ | with_reducible refine Below.step ?_ he1 ?_ | (first | exact Nat.le_refl _ | omega | (simp; done) | (simp; omega) | (unfold World.setCell; simp; done) | (unfold World.setCell; simp; omega))))); have ht1 := HT1.size; have hX1 := X1.mono HT1; obtain ⟨_, _, _, _⟩ := id hX1)
      | (go_at_call 64; ((with_reducible refine (Cmp_eq _ _ (r.den : Int) 1 cv _ HC (HV2.out.mono ?_) (HV5.out.mono ?_) (hE.mono ?_)).mono ?_); ((repeat' (first | with_reducible assumption | with_reducible exact Below.refl _ _ | with_reducible refine Below.drew ?_ | with_reducible refine Below.alloc ?_ ?_ _ | with_reducible refine Below.setCell ?_ ?_ _ | with_reducible refine Below.step ?_ he2 ?_ | with_reducible refine Below.step ?_ he1 ?_ | (first | exact Nat.le_refl _ | omega | (simp; done) | (simp; omega) | (unfold World.setCell; simp; done) | (unfold World.setCell; simp; omega))))); ((repeat' (first | with_reducible assumption | with_reducible exact Below.refl _ _ | with_reducible refine Below.drew ?_ | with_reducible refine Below.alloc ?_ ?_ _ | with_reducible refine Below.setCell ?_ ?_ _ | with_reducible refine Below.step ?_ he2 ?_ | with_reducible refine Below.step ?_ he1 ?_ | (first | exact Nat.le_refl _ | omega | (simp; done) | (simp; omega) | (unfold World.setCell; simp; done) | (unfold World.setCell; simp; omega))))); ((repeat' (first | with_reducible assumption | with_reducible exact Below.refl _ _ | with_reducible refine Below.drew ?_ | with_reducible refine Below.alloc ?_ ?_ _ | with_reducible refine Below.setCell ?_ ?_ _ | with_reducible refine Below.step ?_ he2 ?_ | with_reducible refine Below.step ?_ he1 ?_ | (first | exact Nat.le_refl _ | omega | (simp; done) | (simp; omega) | (unfold World.setCell; simp; done) | (unfold World.setCell; simp; omega)))))); rintro e t2 ⟨rfl, he2⟩; have HT2 : Below wy.heap.size wy t2 := (by (repeat' (first | with_reducible assumption | with_reducible exact Below.refl _ _ | with_reducible refine Below.drew ?_ | with_reducible refine Below.alloc ?_ ?_ _ | with_reducible refine Below.setCell ?_ ?_ _ | with_reducible refine Below.step ?_ he2 ?_ | with_reducible refine Below.step ?_ he1 ?_ | (first | exact Nat.le_refl _ | omega | (simp; done) | (simp; omega) | (unfold World.setCell; simp; done) | (unfold World.setCell; simp; omega))))); have ht2 := HT2.size))
    all_goals (go_wp2_with fail; go_meet; exact ⟨rfl, HT2⟩)
  case rest =>
    obtain ⟨rfl, hb⟩ := hcut
    have HV1 := Lib.hid (HV1.out.mono hb)
    have HV2 := Lib.hid (HV2.out.mono hb)
    have X1 := X1.mono hb
    have hE := hE.mono hb
    have hbw := Below.step hbw hb (Nat.le_refl _)
    clear hb
    go_wp2
    go_ret2
    exact ⟨ret_text HT.out.symm, hbw⟩

set_option maxRecDepth 100000 in
set_option maxHeartbeats 1600000 in
theorem FormatQ_two (v : Value) (r : Rat) (w : World) (hr : RatV w v r) (hq : Hid (r.den ≠ 1)) (hE : Env w) :
    Calls Tryz.prog 22 #[v] w fun e w' => e = .returned (.tuple #[.string ⟨(Rq.textQ r).toArray⟩, .int .i64 0]) ∧ Below w.heap.size w w' := by
  obtain ⟨s1, hs1⟩ : ∃ s, s = Lib.itoa r.num := ⟨_, rfl⟩
  obtain ⟨s2, hs2⟩ : ∃ s, s = Lib.itoa (r.den : Int) := ⟨_, rfl⟩
  have HT : Hid (Rq.textQ r = s1 ++ 47 :: s2) := Lib.hid (by rw [hs1, hs2]; exact Rq.textQ_two hq.out)
  have HS1 : Hid (Lib.itoa r.num = s1) := Lib.hid hs1.symm
  have HS2 : Hid (Lib.itoa (r.den : Int) = s2) := Lib.hid hs2.symm
  clear hs1 hs2
  have hE0 := hE
  have hbw := Below.refl w.heap.size w
  obtain ⟨ng1, ao1, n1, cap1, ng2, ao2, n2, cap2, rfl, h1, h2⟩ := hr
  have HV1 := Lib.hid h1
  have HV2 := Lib.hid h2
  clear h1 h2
  go_enter Tryz.func22, Tryz.ntmps22
  have hl1 : s1.length ≤ 301 := by rw [← HS1.out]; exact Rq.itoa_len301 HV1.out.small
  have hl2 : s2.length ≤ 301 := by rw [← HS2.out]; exact Rq.itoa_len301 HV2.out.small
  go_upto_region 1 with fail
  have X1 := Box4.new w (.bool ng1) (.slice ao1 n1 cap1) (.bool ng2) (.slice ao2 n2 cap2) 29
  have hb := below_alloc w (.cells #[.bool ng1, .slice ao1 n1 cap1, .bool ng2, .slice ao2 n2 cap2] 29)
  generalize w.alloc (.cells #[.bool ng1, .slice ao1 n1 cap1, .bool ng2, .slice ao2 n2 cap2] 29) = v1 at *
  have HV1 := Lib.hid (HV1.out.mono hb)
  have HV2 := Lib.hid (HV2.out.mono hb)
  have hE := hE.mono hb
  have hbw := Below.step hbw hb (Nat.le_refl _)
  clear hb
  obtain ⟨cX1_0, cX1_1, cX1_2, cX1_3, _, _, _, _⟩ := id X1
  go_wp2_with fail
  (with_reducible refine (Valid_true _ r v1 (RatV.mk' HV1 HV2) hE).mono ?_)
  rintro e v2 ⟨rfl, hb⟩
  have HV1 := Lib.hid (HV1.out.mono hb)
  have HV2 := Lib.hid (HV2.out.mono hb)
  have X1 := X1.mono hb
  have hE := hE.mono hb
  have hbw := Below.step hbw hb (Nat.le_refl _)
  clear hb
  clear cX1_0 cX1_1 cX1_2 cX1_3
  obtain ⟨cX1_0, cX1_1, cX1_2, cX1_3, _, _, _, _⟩ := id X1
  go_wp2_with fail
  (with_reducible refine (Format_eq _ r.num s1 v2 HS1 HV1.out hE).mono ?_)
  rintro e v3 ⟨rfl, hb⟩
  have HV1 := Lib.hid (HV1.out.mono hb)
  have HV2 := Lib.hid (HV2.out.mono hb)
  have X1 := X1.mono hb
  have hE := hE.mono hb
  have hbw := Below.step hbw hb (Nat.le_refl _)
  clear hb
  clear cX1_0 cX1_1 cX1_2 cX1_3
  go_upto_region 4 with fail
  obtain ⟨cv, hcv, hc0⟩ : ∃ cv : Int, cmpZ (r.den : Int) 1 = cv ∧ (cv == 0) = false := ⟨_, rfl, by have := hq.out; unfold cmpZ; split <;> (try split) <;> simp <;> omega⟩
  have HC := Lib.hid hcv
  clear hcv
  obtain ⟨wy, rfl⟩ : ∃ wy : World, wy = v3 := ⟨_, rfl⟩
  go_cut [24] (fun s24 wc => s24 = .bool false ∧ Below wy.heap.size wy wc)
  case first =>
    obtain ⟨_, _, _, _⟩ := id X1
    go_region_with (first
      | (go_at_call 65; ((with_reducible refine (one_any _ (hE.mono ?_)).mono ?_); ((repeat' (first | with_reducible assumption | with_reducible exact Below.refl _ _ | with_reducible refine Below.drew ?_ | with_reducible refine Below.alloc ?_ ?_ _ | with_reducible refine Below.setCell ?_ ?_ _ | with_reducible refine Below.step ?_ he2 ?_ | with_reducible refine Below.step ?_ he1 ?_ | (first | exact Nat.le_refl _ | omega | (simp; done) | (simp; omega) | (unfold World.setCell; simp; done) | (unfold World.setCell; simp; omega)))))); rintro e t1 ⟨⟨ng5, ao5, n5, cap5, rfl, HV5⟩, he1⟩; have HT1 : Below wy.heap.size wy t1 := (by (repeat' (first | with_reducible assumption | with_reducible exact Below.refl _ _ | with_reducible refine Below.drew ?_ | with_reducible refine Below.alloc ?_ ?_ _ | with_reducible refine Below.setCell ?_ ?_ _ | with_reducible refine Below.step ?_ he2 ?_ | with_reducible refine Below.step ?_ he1 ?_ | (first | exact Nat.le_refl _ | omega | (simp; done) | (simp; omega) | (unfold World.setCell; simp; done) | (unfold World.setCell; simp; omega))))); have ht1 := HT1.size; have hX1 := X1.mono HT1; obtain ⟨_, _, _, _⟩ := id hX1)
      | (go_at_call 64; ((with_reducible refine (Cmp_eq _ _ (r.den : Int) 1 cv _ HC (HV2.out.mono ?_) (HV5.out.mono ?_) (hE.mono ?_)).mono ?_); ((repeat' (first | with_reducible assumption | with_reducible exact Below.refl _ _ | with_reducible refine Below.drew ?_ | with_reducible refine Below.alloc ?_ ?_ _ | with_reducible refine Below.setCell ?_ ?_ _ | with_reducible refine Below.step ?_ he2 ?_ | with_reducible refine Below.step ?_ he1 ?_ | (first | exact Nat.le_refl _ | omega | (simp; done) | (simp; omega) | (unfold World.setCell; simp; done) | (unfold World.setCell; simp; omega))))); ((repeat' (first | with_reducible assumption | with_reducible exact Below.refl _ _ | with_reducible refine Below.drew ?_ | with_reducible refine Below.alloc ?_ ?_ _ | with_reducible refine Below.setCell ?_ ?_ _ | with_reducible refine Below.step ?_ he2 ?_ | with_reducible refine Below.step ?_ he1 ?_ | (first | exact Nat.le_refl _ | omega | (simp; done) | (simp; omega) | (unfold World.setCell; simp; done) | (unfold World.setCell; simp; omega))))); ((repeat' (first | with_reducible assumption | with_reducible exact Below.refl _ _ | with_reducible refine Below.drew ?_ | with_reducible refine Below.alloc ?_ ?_ _ | with_reducible refine Below.setCell ?_ ?_ _ | with_reducible refine Below.step ?_ he2 ?_ | with_reducible refine Below.step ?_ he1 ?_ | (first | exact Nat.le_refl _ | omega | (simp; done) | (simp; omega) | (unfold World.setCell; simp; done) | (unfold World.setCell; simp; omega)))))); rintro e t2 ⟨rfl, he2⟩; have HT2 : Below wy.heap.size wy t2 := (by (repeat' (first | with_reducible assumption | with_reducible exact Below.refl _ _ | with_reducible refine Below.drew ?_ | with_reducible refine Below.alloc ?_ ?_ _ | with_reducible refine Below.setCell ?_ ?_ _ | with_reducible refine Below.step ?_ he2 ?_ | with_reducible refine Below.step ?_ he1 ?_ | (first | exact Nat.le_refl _ | omega | (simp; done) | (simp; omega) | (unfold World.setCell; simp; done) | (unfold World.setCell; simp; omega))))); have ht2 := HT2.size))
    all_goals (go_wp2_with fail; go_meet; exact ⟨rfl, HT2⟩)
  case rest =>
    obtain ⟨rfl, hb⟩ := hcut
    have HV1 := Lib.hid (HV1.out.mono hb)
    have HV2 := Lib.hid (HV2.out.mono hb)
    have X1 := X1.mono hb
    have hE := hE.mono hb
    have hbw := Below.step hbw hb (Nat.le_refl _)
    clear hb
    obtain ⟨cX1_0, cX1_1, cX1_2, cX1_3, _, _, _, _⟩ := id X1
    go_wp2_with fail
    (with_reducible refine (Format_eq _ (r.den : Int) s2 wc HS2 HV2.out hE).mono ?_)
    rintro e v4 ⟨rfl, hb⟩
    have HV1 := Lib.hid (HV1.out.mono hb)
    have HV2 := Lib.hid (HV2.out.mono hb)
    have X1 := X1.mono hb
    have hE := hE.mono hb
    have hbw := Below.step hbw hb (Nat.le_refl _)
    clear hb
    clear cX1_0 cX1_1 cX1_2 cX1_3
    go_wp2
    all_goals first | (exfalso; simp at *; omega) | (go_ret2; exact ⟨ret_text (by rw [HT.out]; simp), hbw⟩)

set_option maxRecDepth 100000 in
set_option maxHeartbeats 1600000 in
theorem FormatQ_inv (v : Value) (w : World) (hqa : VQ w v false) (hE : Env w) :
    Calls Tryz.prog 22 #[v] w fun e w' => e = .returned (.tuple #[.string ⟨#[]⟩, .int .i64 1]) ∧ Below w.heap.size w w' := by
  have hE0 := hE
  have hbw := Below.refl w.heap.size w
  obtain ⟨ng1, ao1, n1, cap1, ng2, ao2, n2, cap2, rfl⟩ := hqa.parts
  go_enter Tryz.func22, Tryz.ntmps22
  go_upto_region 1 with fail
  have X1 := Box4.new w (.bool ng1) (.slice ao1 n1 cap1) (.bool ng2) (.slice ao2 n2 cap2) 29
  have hb := below_alloc w (.cells #[.bool ng1, .slice ao1 n1 cap1, .bool ng2, .slice ao2 n2 cap2] 29)
  generalize w.alloc (.cells #[.bool ng1, .slice ao1 n1 cap1, .bool ng2, .slice ao2 n2 cap2] 29) = v1 at *
  have hqa := hqa.mono hb
  have hE := hE.mono hb
  have hbw := Below.step hbw hb (Nat.le_refl _)
  clear hb
  obtain ⟨cX1_0, cX1_1, cX1_2, cX1_3, _, _, _, _⟩ := id X1
  go_wp2_with fail
  (with_reducible refine (Valid_v _ false v1 hqa hE).mono ?_)
  rintro e v2 ⟨rfl, hb⟩
  have hqa := hqa.mono hb
  have X1 := X1.mono hb
  have hE := hE.mono hb
  have hbw := Below.step hbw hb (Nat.le_refl _)
  clear hb
  clear cX1_0 cX1_1 cX1_2 cX1_3
  go_wp2
  go_ret2
  exact ⟨rfl, hbw⟩

theorem FormatQ (v : Value) (r : Rat) (w : World) (hr : RatV w v r) (hE : Env w) :
    Calls Tryz.prog 22 #[v] w fun e w' => e = .returned (.tuple #[.string ⟨(Rq.textQ r).toArray⟩, .int .i64 0]) ∧ Below w.heap.size w w' := by
  by_cases h : r.den = 1
  · exact FormatQ_one v r w hr (Lib.hid h) hE
  · exact FormatQ_two v r w hr (Lib.hid h) hE

theorem rFormat_eq (a : Value) (x : Int) (s : List UInt8) (w : World) (hs : Hid (Lib.itoa x = s)) (ha : IntV w a x) :
    Calls Tryz.prog 68 #[a] w fun e w' => e = .returned (.string ⟨s.toArray⟩) ∧ Below w.heap.size w w' := by
  rw [← hs.out]; exact rFormat_any a x w ha

set_option maxRecDepth 100000 in
set_option maxHeartbeats 1600000 in
theorem rFormatQ_one (v : Value) (r : Rat) (w : World) (hr : RatV w v r) (hq : Hid (r.den = 1)) (hE : Env w) :
    Calls Tryz.prog 23 #[v] w fun e w' => e = .returned (.tuple #[.string ⟨(Rq.textQ r).toArray⟩, .int .i64 0]) ∧ Below w.heap.size w w' := by
  obtain ⟨s1, hs1⟩ : ∃ s, s = Lib.itoa r.num := ⟨_, rfl⟩
  obtain ⟨s2, hs2⟩ : ∃ s, s = Lib.itoa (r.den : Int) := ⟨_, rfl⟩
  have HT : Hid (Rq.textQ r = s1) := Lib.hid (by rw [hs1]; exact Rq.textQ_one hq.out)
  have HS1 : Hid (Lib.itoa r.num = s1) := Lib.hid hs1.symm
  have HS2 : Hid (Lib.itoa (r.den : Int) = s2) := Lib.hid hs2.symm
  clear hs1 hs2
  have hE0 := hE
  have hbw := Below.refl w.heap.size w
  obtain ⟨ng1, ao1, n1, cap1, ng2, ao2, n2, cap2, rfl, h1, h2⟩ := hr
  have HV1 := Lib.hid h1
  have HV2 := Lib.hid h2
  clear h1 h2
  go_enter Tryz.func23, Tryz.ntmps23
  have hl1 : s1.length ≤ 301 := by rw [← HS1.out]; exact Rq.itoa_len301 HV1.out.small
  have hl2 : s2.length ≤ 301 := by rw [← HS2.out]; exact Rq.itoa_len301 HV2.out.small
  go_upto_region 1 with fail
  have X1 := Box4.new w (.bool ng1) (.slice ao1 n1 cap1) (.bool ng2) (.slice ao2 n2 cap2) 29
  have hb := below_alloc w (.cells #[.bool ng1, .slice ao1 n1 cap1, .bool ng2, .slice ao2 n2 cap2] 29)
  generalize w.alloc (.cells #[.bool ng1, .slice ao1 n1 cap1, .bool ng2, .slice ao2 n2 cap2] 29) = v1 at *
  have HV1 := Lib.hid (HV1.out.mono hb)
  have HV2 := Lib.hid (HV2.out.mono hb)
  have hE := hE.mono hb
  have hbw := Below.step hbw hb (Nat.le_refl _)
  clear hb
  obtain ⟨cX1_0, cX1_1, cX1_2, cX1_3, _, _, _, _⟩ := id X1
  go_wp2_with fail
  (with_reducible refine (rValid_true _ r v1 (RatV.mk' HV1 HV2) hE).mono ?_)
  rintro e v2 ⟨rfl, hb⟩
  have HV1 := Lib.hid (HV1.out.mono hb)
  have HV2 := Lib.hid (HV2.out.mono hb)
  have X1 := X1.mono hb
  have hE := hE.mono hb
  have hbw := Below.step hbw hb (Nat.le_refl _)
  clear hb
  clear cX1_0 cX1_1 cX1_2 cX1_3
  obtain ⟨cX1_0, cX1_1, cX1_2, cX1_3, _, _, _, _⟩ := id X1
  go_wp2_with fail
  (with_reducible refine (rFormat_eq _ r.num s1 v2 HS1 HV1.out).mono ?_)
  rintro e v3 ⟨rfl, hb⟩
  have HV1 := Lib.hid (HV1.out.mono hb)
  have HV2 := Lib.hid (HV2.out.mono hb)
  have X1 := X1.mono hb
  have hE := hE.mono hb
  have hbw := Below.step hbw hb (Nat.le_refl _)
  clear hb
  clear cX1_0 cX1_1 cX1_2 cX1_3
  go_upto_region 4 with fail
  have HC : Hid (decide ((r.den : Int) = 1) = true) := Lib.hid (by have := hq.out; simp; omega)
  obtain ⟨wy, rfl⟩ : ∃ wy : World, wy = v3 := ⟨_, rfl⟩
  go_cut [15] (fun s15 wc => s15 = .bool (!true) ∧ Below wy.heap.size wy wc)
  case first =>
    obtain ⟨_, _, _, _⟩ := id X1
    go_region_with (first
      | (go_at_call 63; ((with_reducible refine (rof_any 1 (by decide) (by decide) _ (hE.mono ?_)).mono ?_); ((repeat' (first | with_reducible assumption | with_reducible exact Below.refl _ _ | with_reducible refine Below.drew ?_ | with_reducible refine Below.alloc ?_ ?_ _ | with_reducible refine Below.setCell ?_ ?_ _ | with_reducible refine Below.step ?_ he2 ?_ | with_reducible refine Below.step ?_ he1 ?_ | (first | exact Nat.le_refl _ | omega | (simp; done) | (simp; omega) | (unfold World.setCell; simp; done) | (unfold World.setCell; simp; omega)))))); rintro e t1 ⟨⟨ng5, ao5, n5, cap5, rfl, HV5⟩, he1⟩; have HT1 : Below wy.heap.size wy t1 := (by (repeat' (first | with_reducible assumption | with_reducible exact Below.refl _ _ | with_reducible refine Below.drew ?_ | with_reducible refine Below.alloc ?_ ?_ _ | with_reducible refine Below.setCell ?_ ?_ _ | with_reducible refine Below.step ?_ he2 ?_ | with_reducible refine Below.step ?_ he1 ?_ | (first | exact Nat.le_refl _ | omega | (simp; done) | (simp; omega) | (unfold World.setCell; simp; done) | (unfold World.setCell; simp; omega))))); have ht1 := HT1.size; have hX1 := X1.mono HT1; obtain ⟨_, _, _, _⟩ := id hX1)
      | (go_at_call 52; ((with_reducible refine (eqI_eq _ _ (r.den : Int) 1 true _ HC (HV2.out.mono ?_) (HV5.out.mono ?_)).mono ?_); ((repeat' (first | with_reducible assumption | with_reducible exact Below.refl _ _ | with_reducible refine Below.drew ?_ | with_reducible refine Below.alloc ?_ ?_ _ | with_reducible refine Below.setCell ?_ ?_ _ | with_reducible refine Below.step ?_ he2 ?_ | with_reducible refine Below.step ?_ he1 ?_ | (first | exact Nat.le_refl _ | omega | (simp; done) | (simp; omega) | (unfold World.setCell; simp; done) | (unfold World.setCell; simp; omega))))); ((repeat' (first | with_reducible assumption | with_reducible exact Below.refl _ _ | with_reducible refine Below.drew ?_ | with_reducible refine Below.alloc ?_ ?_ _ | with_reducible refine Below.setCell ?_ ?_ _ | with_reducible refine Below.step ?_ he2 ?_ | with_reducible refine Below.step ?_ he1 ?_ | (first | exact Nat.le_refl _ | omega | (simp; done) | (simp; omega) | (unfold World.setCell; simp; done) | (unfold World.setCell; simp; omega)))))); rintro e t2 ⟨rfl, he2⟩; have HT2 : Below wy.heap.size wy t2 := (by (repeat' (first | with_reducible assumption | with_reducible exact Below.refl _ _ | with_reducible refine Below.drew ?_ | with_reducible refine Below.alloc ?_ ?_ _ | with_reducible refine Below.setCell ?_ ?_ _ | with_reducible refine Below.step ?_ he2 ?_ | with_reducible refine Below.step ?_ he1 ?_ | (first | exact Nat.le_refl _ | omega | (simp; done) | (simp; omega) | (unfold World.setCell; simp; done) | (unfold World.setCell; simp; omega))))); have ht2 := HT2.size))
    all_goals (go_wp2_with fail; go_meet; exact ⟨rfl, HT2⟩)
  case rest =>
    obtain ⟨rfl, hb⟩ := hcut
    have HV1 := Lib.hid (HV1.out.mono hb)
    have HV2 := Lib.hid (HV2.out.mono hb)
    have X1 := X1.mono hb
    have hE := hE.mono hb
    have hbw := Below.step hbw hb (Nat.le_refl _)
    clear hb
    go_wp2
    go_ret2
    exact ⟨ret_text HT.out.symm, hbw⟩

set_option maxRecDepth 100000 in
set_option maxHeartbeats 1600000 in
theorem rFormatQ_two (v : Value) (r : Rat) (w : World) (hr : RatV w v r) (hq : Hid (r.den ≠ 1)) (hE : Env w) :
    Calls Tryz.prog 23 #[v] w fun e w' => e = .returned (.tuple #[.string ⟨(Rq.textQ r).toArray⟩, .int .i64 0]) ∧ Below w.heap.size w w' := by
  obtain ⟨s1, hs1⟩ : ∃ s, s = Lib.itoa r.num := ⟨_, rfl⟩
  obtain ⟨s2, hs2⟩ : ∃ s, s = Lib.itoa (r.den : Int) := ⟨_, rfl⟩
  have HT : Hid (Rq.textQ r = s1 ++ 47 :: s2) := Lib.hid (by rw [hs1, hs2]; exact Rq.textQ_two hq.out)
  have HS1 : Hid (Lib.itoa r.num = s1) := Lib.hid hs1.symm
  have HS2 : Hid (Lib.itoa (r.den : Int) = s2) := Lib.hid hs2.symm
  clear hs1 hs2
  have hE0 := hE
  have hbw := Below.refl w.heap.size w
  obtain ⟨ng1, ao1, n1, cap1, ng2, ao2, n2, cap2, rfl, h1, h2⟩ := hr
  have HV1 := Lib.hid h1
  have HV2 := Lib.hid h2
  clear h1 h2
  go_enter Tryz.func23, Tryz.ntmps23
  have hl1 : s1.length ≤ 301 := by rw [← HS1.out]; exact Rq.itoa_len301 HV1.out.small
  have hl2 : s2.length ≤ 301 := by rw [← HS2.out]; exact Rq.itoa_len301 HV2.out.small
  go_upto_region 1 with fail
  have X1 := Box4.new w (.bool ng1) (.slice ao1 n1 cap1) (.bool ng2) (.slice ao2 n2 cap2) 29
  have hb := below_alloc w (.cells #[.bool ng1, .slice ao1 n1 cap1, .bool ng2, .slice ao2 n2 cap2] 29)
  generalize w.alloc (.cells #[.bool ng1, .slice ao1 n1 cap1, .bool ng2, .slice ao2 n2 cap2] 29) = v1 at *
  have HV1 := Lib.hid (HV1.out.mono hb)
  have HV2 := Lib.hid (HV2.out.mono hb)
  have hE := hE.mono hb
  have hbw := Below.step hbw hb (Nat.le_refl _)
  clear hb
  obtain ⟨cX1_0, cX1_1, cX1_2, cX1_3, _, _, _, _⟩ := id X1
  go_wp2_with fail
  (with_reducible refine (rValid_true _ r v1 (RatV.mk' HV1 HV2) hE).mono ?_)
  rintro e v2 ⟨rfl, hb⟩
  have HV1 := Lib.hid (HV1.out.mono hb)
  have HV2 := Lib.hid (HV2.out.mono hb)
  have X1 := X1.mono hb
  have hE := hE.mono hb
  have hbw := Below.step hbw hb (Nat.le_refl _)
  clear hb
  clear cX1_0 cX1_1 cX1_2 cX1_3
  obtain ⟨cX1_0, cX1_1, cX1_2, cX1_3, _, _, _, _⟩ := id X1
  go_wp2_with fail
  (with_reducible refine (rFormat_eq _ r.num s1 v2 HS1 HV1.out).mono ?_)
  rintro e v3 ⟨rfl, hb⟩
  have HV1 := Lib.hid (HV1.out.mono hb)
  have HV2 := Lib.hid (HV2.out.mono hb)
  have X1 := X1.mono hb
  have hE := hE.mono hb
  have hbw := Below.step hbw hb (Nat.le_refl _)
  clear hb
  clear cX1_0 cX1_1 cX1_2 cX1_3
  go_upto_region 4 with fail
  have HC : Hid (decide ((r.den : Int) = 1) = false) := Lib.hid (by have := hq.out; simp; omega)
  obtain ⟨wy, rfl⟩ : ∃ wy : World, wy = v3 := ⟨_, rfl⟩
  go_cut [15] (fun s15 wc => s15 = .bool (!false) ∧ Below wy.heap.size wy wc)
  case first =>
    obtain ⟨_, _, _, _⟩ := id X1
    go_region_with (first
      | (go_at_call 63; ((with_reducible refine (rof_any 1 (by decide) (by decide) _ (hE.mono ?_)).mono ?_); ((repeat' (first | with_reducible assumption | with_reducible exact Below.refl _ _ | with_reducible refine Below.drew ?_ | with_reducible refine Below.alloc ?_ ?_ _ | with_reducible refine Below.setCell ?_ ?_ _ | with_reducible refine Below.step ?_ he2 ?_ | with_reducible refine Below.step ?_ he1 ?_ | (first | exact Nat.le_refl _ | omega | (simp; done) | (simp; omega) | (unfold World.setCell; simp; done) | (unfold World.setCell; simp; omega)))))); rintro e t1 ⟨⟨ng5, ao5, n5, cap5, rfl, HV5⟩, he1⟩; have HT1 : Below wy.heap.size wy t1 := (by (repeat' (first | with_reducible assumption | with_reducible exact Below.refl _ _ | with_reducible refine Below.drew ?_ | with_reducible refine Below.alloc ?_ ?_ _ | with_reducible refine Below.setCell ?_ ?_ _ | with_reducible refine Below.step ?_ he2 ?_ | with_reducible refine Below.step ?_ he1 ?_ | (first | exact Nat.le_refl _ | omega | (simp; done) | (simp; omega) | (unfold World.setCell; simp; done) | (unfold World.setCell; simp; omega))))); have ht1 := HT1.size; have hX1 := X1.mono HT1; obtain ⟨_, _, _, _⟩ := id hX1)
      | (go_at_call 52; ((with_reducible refine (eqI_eq _ _ (r.den : Int) 1 false _ HC (HV2.out.mono ?_) (HV5.out.mono ?_)).mono ?_); ((repeat' (first | with_reducible assumption | with_reducible exact Below.refl _ _ | with_reducible refine Below.drew ?_ | with_reducible refine Below.alloc ?_ ?_ _ | with_reducible refine Below.setCell ?_ ?_ _ | with_reducible refine Below.step ?_ he2 ?_ | with_reducible refine Below.step ?_ he1 ?_ | (first | exact Nat.le_refl _ | omega | (simp; done) | (simp; omega) | (unfold World.setCell; simp; done) | (unfold World.setCell; simp; omega))))); ((repeat' (first | with_reducible assumption | with_reducible exact Below.refl _ _ | with_reducible refine Below.drew ?_ | with_reducible refine Below.alloc ?_ ?_ _ | with_reducible refine Below.setCell ?_ ?_ _ | with_reducible refine Below.step ?_ he2 ?_ | with_reducible refine Below.step ?_ he1 ?_ | (first | exact Nat.le_refl _ | omega | (simp; done) | (simp; omega) | (unfold World.setCell; simp; done) | (unfold World.setCell; simp; omega)))))); rintro e t2 ⟨rfl, he2⟩; have HT2 : Below wy.heap.size wy t2 := (by (repeat' (first | with_reducible assumption | with_reducible exact Below.refl _ _ | with_reducible refine Below.drew ?_ | with_reducible refine Below.alloc ?_ ?_ _ | with_reducible refine Below.setCell ?_ ?_ _ | with_reducible refine Below.step ?_ he2 ?_ | with_reducible refine Below.step ?_ he1 ?_ | (first | exact Nat.le_refl _ | omega | (simp; done) | (simp; omega) | (unfold World.setCell; simp; done) | (unfold World.setCell; simp; omega))))); have ht2 := HT2.size))
    all_goals (go_wp2_with fail; go_meet; exact ⟨rfl, HT2⟩)
  case rest =>
    obtain ⟨rfl, hb⟩ := hcut
    have HV1 := Lib.hid (HV1.out.mono hb)
    have HV2 := Lib.hid (HV2.out.mono hb)
    have X1 := X1.mono hb
    have hE := hE.mono hb
    have hbw := Below.step hbw hb (Nat.le_refl _)
    clear hb
    obtain ⟨cX1_0, cX1_1, cX1_2, cX1_3, _, _, _, _⟩ := id X1
    go_wp2_with (go_at_call 68; (with_reducible refine (rFormat_eq _ (r.den : Int) s2 _ HS2 HV2.out).mono ?_); rintro e w9 ⟨rfl, hb⟩)
    all_goals first | (exfalso; simp at *; omega) | (go_ret2; exact ⟨ret_text (by rw [HT.out]; simp), Below.step hbw hb (Nat.le_refl _)⟩)

set_option maxRecDepth 100000 in
set_option maxHeartbeats 1600000 in
theorem rFormatQ_inv (v : Value) (w : World) (hqa : VQ w v false) (hE : Env w) :
    Calls Tryz.prog 23 #[v] w fun e w' => e = .returned (.tuple #[.string ⟨#[]⟩, .int .i64 1]) ∧ Below w.heap.size w w' := by
  have hE0 := hE
  have hbw := Below.refl w.heap.size w
  obtain ⟨ng1, ao1, n1, cap1, ng2, ao2, n2, cap2, rfl⟩ := hqa.parts
  go_enter Tryz.func23, Tryz.ntmps23
  go_upto_region 1 with fail
  have X1 := Box4.new w (.bool ng1) (.slice ao1 n1 cap1) (.bool ng2) (.slice ao2 n2 cap2) 29
  have hb := below_alloc w (.cells #[.bool ng1, .slice ao1 n1 cap1, .bool ng2, .slice ao2 n2 cap2] 29)
  generalize w.alloc (.cells #[.bool ng1, .slice ao1 n1 cap1, .bool ng2, .slice ao2 n2 cap2] 29) = v1 at *
  have hqa := hqa.mono hb
  have hE := hE.mono hb
  have hbw := Below.step hbw hb (Nat.le_refl _)
  clear hb
  obtain ⟨cX1_0, cX1_1, cX1_2, cX1_3, _, _, _, _⟩ := id X1
  go_wp2_with fail
  (with_reducible refine (rValid_v _ false v1 hqa hE).mono ?_)
  rintro e v2 ⟨rfl, hb⟩
  have hqa := hqa.mono hb
  have X1 := X1.mono hb
  have hE := hE.mono hb
  have hbw := Below.step hbw hb (Nat.le_refl _)
  clear hb
  clear cX1_0 cX1_1 cX1_2 cX1_3
  go_wp2
  go_ret2
  exact ⟨rfl, hbw⟩

theorem rFormatQ (v : Value) (r : Rat) (w : World) (hr : RatV w v r) (hE : Env w) :
    Calls Tryz.prog 23 #[v] w fun e w' => e = .returned (.tuple #[.string ⟨(Rq.textQ r).toArray⟩, .int .i64 0]) ∧ Below w.heap.size w w' := by
  by_cases h : r.den = 1
  · exact rFormatQ_one v r w hr (Lib.hid h) hE
  · exact rFormatQ_two v r w hr (Lib.hid h) hE

end Go.Proofs.YtgenhkakcbedaaaGreatDoor
