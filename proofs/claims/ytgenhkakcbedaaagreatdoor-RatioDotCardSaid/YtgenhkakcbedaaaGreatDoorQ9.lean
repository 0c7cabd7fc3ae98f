import Derived.Test.YtgenhkakcbedaaaGreatDoorQ8
import Derived.Test.YtgenhkakcbedaaaGreatDoorShelfC
namespace Go.Proofs.YtgenhkakcbedaaaGreatDoor
open Go.RowKit

/-- the library's variable that the search in strings reads -/
def MaxV (w : World) : Prop := ∃ m : Int, w.cell? ⟨0, 0, none⟩ = some (.int .i64 m)

theorem MaxV.mono {w w' : World} (h : MaxV w) (hb : Below w.heap.size w w') : MaxV w' := by
  obtain ⟨m, hm⟩ := h
  exact ⟨m, (hb.cell (p := ⟨0, 0, none⟩) (cell_lt hm)).trans hm⟩

theorem Box4.set4Z {w : World} {n : Nat} {x0 x1 x2 x3 : Value} (h : Box4 w n x0 x1 x2 x3) (y0 y1 y2 y3 : Value) : Box4 ((((w.setCell ⟨n, 0, none⟩ y0).setCell ⟨n, 1, none⟩ y1).setCell ⟨n, 2, none⟩ y2).setCell ⟨n, 3, none⟩ y3) n y0 y1 y2 y3 := by
  obtain ⟨h0, h1, h2, h3, f0, f1, f2, f3⟩ := h
  exact ⟨by simp [go_sem, h0], by simp [go_sem, h1], by simp [go_sem, h2], by simp [go_sem, h3], by simp [go_sem, f0], by simp [go_sem, f1], by simp [go_sem, f2], by simp [go_sem, f3]⟩

theorem Box4.set4N {w : World} {n : Nat} (h : Box4 w n (.bool false) (.slice none 0 0) (.bool false) (.slice none 0 0)) (y0 y1 y2 y3 : Value) : Box4 ((((w.setCell ⟨n, 0, none⟩ y0).setCell ⟨n, 1, none⟩ y1).setCell ⟨n, 2, none⟩ y2).setCell ⟨n, 3, none⟩ y3) n y0 y1 y2 y3 := h.set4Z y0 y1 y2 y3

theorem IntV.put4N {w : World} {n : Nat} {u : Value} {z : Int} (h : IntV w u z) (hB : Box4 w n (.bool false) (.slice none 0 0) (.bool false) (.slice none 0 0)) (x0 x1 x2 x3 : Value) :
    IntV ((((w.setCell ⟨n, 0, none⟩ x0).setCell ⟨n, 1, none⟩ x1).setCell ⟨n, 2, none⟩ x2).setCell ⟨n, 3, none⟩ x3) u z := IntV.put4B hB h x0 x1 x2 x3

/-- the second integer of a fraction's box is written anew -/
theorem Box4.set23 {w : World} {n : Nat} {x0 x1 x2 x3 : Value} (h : Box4 w n x0 x1 x2 x3) (y2 y3 : Value) : Box4 ((w.setCell ⟨n, 2, none⟩ y2).setCell ⟨n, 3, none⟩ y3) n x0 x1 y2 y3 := by
  obtain ⟨h0, h1, h2, h3, f0, f1, f2, f3⟩ := h
  exact ⟨by simp [go_sem, h0], by simp [go_sem, h1], by simp [go_sem, h2], by simp [go_sem, h3], by simp [go_sem, f0], by simp [go_sem, f1], by simp [go_sem, f2], by simp [go_sem, f3]⟩

theorem IntV.put23B {w : World} {n c2 d2 : Nat} {b2 : Bool} {s2 : Option Addr} {x0 x1 u : Value} {z : Int} (hB : Box4 w n x0 x1 (.bool b2) (.slice s2 c2 d2)) (h : IntV w u z) (y2 y3 : Value) : IntV ((w.setCell ⟨n, 2, none⟩ y2).setCell ⟨n, 3, none⟩ y3) u z := by
  have h2 := IntV.put (v := y2) hB.c2 (by simp) h
  have e3 : (w.setCell ⟨n, 2, none⟩ y2).cell? ⟨n, 3, none⟩ = some (.slice s2 c2 d2) := by rw [cell_next _ (by decide)]; exact hB.c3
  exact IntV.put (v := y3) e3 (by simp) h2

theorem Box4.other23 {w : World} {n m : Nat} {x0 x1 x2 x3 u v : Value} (h : Box4 w n x0 x1 x2 x3) (hne : n ≠ m) : Box4 ((w.setCell ⟨m, 2, none⟩ u).setCell ⟨m, 3, none⟩ v) n x0 x1 x2 x3 := by
  obtain ⟨h0, h1, h2, h3, f0, f1, f2, f3⟩ := h
  exact ⟨by rw [cell_other _ hne, cell_other _ hne]; exact h0, by rw [cell_other _ hne, cell_other _ hne]; exact h1, by rw [cell_other _ hne, cell_other _ hne]; exact h2, by rw [cell_other _ hne, cell_other _ hne]; exact h3,
    by simp [go_sem, f0], by simp [go_sem, f1], by simp [go_sem, f2], by simp [go_sem, f3]⟩

theorem Box.other23 {w : World} {n m : Nat} {x y u v : Value} (h : Box w n x y) (hne : n ≠ m) : Box ((w.setCell ⟨m, 2, none⟩ u).setCell ⟨m, 3, none⟩ v) n x y := by
  obtain ⟨h1, h2, h3, h4⟩ := h
  exact ⟨by rw [cell_other _ hne, cell_other _ hne]; exact h1, by rw [cell_other _ hne, cell_other _ hne]; exact h2, by simp [go_sem, h3], by simp [go_sem, h4]⟩

theorem Below.put23 {B : Nat} {w w' : World} {n : Nat} (h : Below B w w') (hn : B ≤ n) (x y : Value) : Below B w ((w'.setCell ⟨n, 2, none⟩ x).setCell ⟨n, 3, none⟩ y) :=
  (h.setCell hn _).setCell hn _

/-- a box has been made of an integer and 1 -/
def OneB (wy wc : World) (base : Nat) (s9 : Value) (ng : Bool) (ao : Option Addr) (l cap : Nat) : Prop :=
  ∃ (n : Nat) (ng2 : Bool) (ao2 : Option Addr) (l2 cap2 : Nat), s9 = .pointer (some ⟨n, 0, none⟩) ∧ base ≤ n ∧ Box4 wc n (.bool ng) (.slice ao l cap) (.bool ng2) (.slice ao2 l2 cap2) ∧ Hid (IntV wc (.agg #[.bool ng2, .slice ao2 l2 cap2]) 1) ∧ Below wy.heap.size wy wc

/-- what cut gives: the parts and whether there is a slash -/
theorem Cut_any (s n d : List UInt8) (fnd : Bool) (w : World) (hs : s.length ≤ 1000000) (h : Hid (Lib.cut s [47] = (n, d, fnd))) (hM : MaxV w) :
    Calls Tryz.prog 69 #[.string ⟨s.toArray⟩, .string ⟨#[47]⟩] w fun e w' => e = .returned (.tuple #[.string ⟨n.toArray⟩, .string ⟨d.toArray⟩, .bool fnd]) ∧ Below w.heap.size w w' := by
  obtain ⟨m, hm⟩ := hM
  refine (Tryz.strings_Cut ⟨s.toArray⟩ ⟨#[47]⟩ m w (by simp [ByteArray.size]; omega) hm).mono ?_
  rintro e w' ⟨he, k, rfl⟩
  refine ⟨?_, below_drewN (Below.refl _ _) k⟩
  rw [he]
  show Ending.returned (.tuple #[.string ⟨(Lib.cut s [47]).1.toArray⟩, .string ⟨(Lib.cut s [47]).2.1.toArray⟩, .bool (Lib.cut s [47]).2.2]) = _
  rw [h.out]

/-- the result of 'Parse': a fraction, or a syntax error -/
def PRes (o : Option Rat) (w' : World) (e : Ending) : Prop :=
  match o with
  | some r => GotQ w' r e
  | none => NoQ 2 e

/-- what follows a good numerator z -/
def PCase (fnd : Bool) (d : List UInt8) (z : Int) (o : Option Rat) : Prop :=
  (fnd = false ∧ ∃ r : Rat, o = some r ∧ Hid (r.num = z) ∧ Hid ((r.den : Int) = 1)) ∨
  (fnd = true ∧ o = none ∧ Hid (¬ GoodT d)) ∨
  (fnd = true ∧ o = none ∧ Hid (GoodT d) ∧ ∃ q : Int, Hid (q = sgn (Lib.hasPrefix d [45]) (Bi.decVal (Lib.trimPrefix d [45]))) ∧ Hid (q ≤ 1)) ∨
  (fnd = true ∧ o = none ∧ Hid (GoodT d) ∧ ∃ q : Int, Hid (q = sgn (Lib.hasPrefix d [45]) (Bi.decVal (Lib.trimPrefix d [45]))) ∧ Hid (1 < q ∧ Int.gcd z q ≠ 1)) ∨
  (fnd = true ∧ Hid (GoodT d) ∧ ∃ (q : Int) (r : Rat), o = some r ∧ Hid (q = sgn (Lib.hasPrefix d [45]) (Bi.decVal (Lib.trimPrefix d [45]))) ∧ Hid (1 < q) ∧ Hid (r.num = z) ∧ Hid ((r.den : Int) = q))

set_option maxRecDepth 100000 in
set_option maxHeartbeats 1600000 in
theorem ParseQ_bad1 (s n d : List UInt8) (fnd : Bool) (w : World) (hs : s.length ≤ 1000000) (hn : n.length ≤ 1000000) (hc : Hid (Lib.cut s [47] = (n, d, fnd))) (hg : Hid (¬ GoodT n)) (hE : Env w) (hM : MaxV w) :
    Calls Tryz.prog 24 #[.string ⟨s.toArray⟩] w fun e w' => NoQ 2 e ∧ Below w.heap.size w w' := by
  have hE0 := hE
  have hbw := Below.refl w.heap.size w
  go_enter Tryz.func24, Tryz.ntmps24
  go_upto_region 1 with fail
  have X2 := Box4.new w (.bool false) (.slice none 0 0) (.bool false) (.slice none 0 0) 29
  have hb := below_alloc w (.cells #[.bool false, .slice none 0 0, .bool false, .slice none 0 0] 29)
  generalize w.alloc (.cells #[.bool false, .slice none 0 0, .bool false, .slice none 0 0] 29) = v1 at *
  have hM := hM.mono hb
  have hE := hE.mono hb
  have hbw := Below.step hbw hb (Nat.le_refl _)
  clear hb
  go_wp2_with fail
  (with_reducible refine (Cut_any s n d fnd v1 hs hc hM).mono ?_)
  rintro e v2 ⟨rfl, hb⟩
  have hM := hM.mono hb
  have X2 := X2.mono hb
  have hE := hE.mono hb
  have hbw := Below.step hbw hb (Nat.le_refl _)
  clear hb
  go_wp2_with fail
  (with_reducible refine (Parse_none n v2 hn hE hg).mono ?_)
  rintro e v3 ⟨rfl, hb⟩
  have hM := hM.mono hb
  have X2 := X2.mono hb
  have hE := hE.mono hb
  have hbw := Below.step hbw hb (Nat.le_refl _)
  clear hb
  go_upto_region 3 with fail
  have lX7X2 := X2.lt
  have X7 := Box.new v3 (.bool false) (.slice none 0 0) 24
  have hb := below_alloc v3 (.cells #[.bool false, .slice none 0 0] 24)
  generalize v3.alloc (.cells #[.bool false, .slice none 0 0] 24) = v4 at *
  have hM := hM.mono hb
  have X2 := X2.mono hb
  have hE := hE.mono hb
  have hbw := Below.step hbw hb (Nat.le_refl _)
  clear hb
  obtain ⟨cX2_0, cX2_1, cX2_2, cX2_3, _, _, _, _⟩ := id X2
  go_wp2
  refine bodyPost_ret (v := .tuple #[.agg #[.bool false, .slice none 0 0, .bool false, .slice none 0 0], .int .i64 2]) (by simp [results, Tryz.results24, go_sem, cX2_0, cX2_1, cX2_2, cX2_3]) rfl ⟨rfl, Below.put4 hbw (by omega) (.bool false) (.slice none 0 0) (.bool false) (.slice none 0 0)⟩

set_option maxRecDepth 100000 in
set_option maxHeartbeats 6400000 in
theorem ParseQ_tail (s n d : List UInt8) (fnd : Bool) (z : Int) (o : Option Rat) (w : World) (hs : s.length ≤ 1000000) (hn : n.length ≤ 1000000) (hd : d.length ≤ 1000000) (hc : Hid (Lib.cut s [47] = (n, d, fnd))) (hg : Hid (GoodT n)) (hz : Hid (z = sgn (Lib.hasPrefix n [45]) (Bi.decVal (Lib.trimPrefix n [45])))) (hp : PCase fnd d z o) (hE : Env w) (hM : MaxV w) :
    Calls Tryz.prog 24 #[.string ⟨s.toArray⟩] w fun e w' => PRes o w' e ∧ Below w.heap.size w w' := by
  have hE0 := hE
  have hbw := Below.refl w.heap.size w
  go_enter Tryz.func24, Tryz.ntmps24
  have hM0 := hM
  go_upto_region 1 with fail
  have X2 := Box4.new w (.bool false) (.slice none 0 0) (.bool false) (.slice none 0 0) 29
  have hb := below_alloc w (.cells #[.bool false, .slice none 0 0, .bool false, .slice none 0 0] 29)
  generalize w.alloc (.cells #[.bool false, .slice none 0 0, .bool false, .slice none 0 0] 29) = v1 at *
  have hM := hM.mono hb
  have hE := hE.mono hb
  have hbw := Below.step hbw hb (Nat.le_refl _)
  clear hb
  go_wp2_with fail
  (with_reducible refine (Cut_any s n d fnd v1 hs hc hM).mono ?_)
  rintro e v2 ⟨rfl, hb⟩
  have hM := hM.mono hb
  have X2 := X2.mono hb
  have hE := hE.mono hb
  have hbw := Below.step hbw hb (Nat.le_refl _)
  clear hb
  go_wp2_with fail
  (with_reducible refine (Parse_good n z hz v2 hn hE hg).mono ?_)
  rintro e v3 ⟨⟨ng1, ao1, n1, cap1, rfl, HV1⟩, hb⟩
  have hM := hM.mono hb
  have X2 := X2.mono hb
  have hE := hE.mono hb
  have hbw := Below.step hbw hb (Nat.le_refl _)
  clear hb
  go_upto_region 3 with fail
  have lX7X2 := X2.lt
  have X7 := Box.new v3 (.bool ng1) (.slice ao1 n1 cap1) 24
  have hb := below_alloc v3 (.cells #[.bool ng1, .slice ao1 n1 cap1] 24)
  generalize v3.alloc (.cells #[.bool ng1, .slice ao1 n1 cap1] 24) = v4 at *
  have hM := hM.mono hb
  have X2 := X2.mono hb
  have HV1 := Lib.hid (HV1.out.mono hb)
  have hE := hE.mono hb
  have hbw := Below.step hbw hb (Nat.le_refl _)
  clear hb
  go_upto_region 5 with fail
  obtain ⟨wy, rfl⟩ : ∃ wy : World, wy = v4 := ⟨_, rfl⟩
  have l5X7 := X7.lt
  have l5X2 := X2.lt
  go_cut [9] (fun s9 wc => OneB wy wc wy.heap.size s9 ng1 ao1 n1 cap1)
  case first =>
    obtain ⟨_, _, _, _⟩ := id X7
    go_region_with (go_at_call 65; ((with_reducible refine (one_any _ (hE.mono ?_)).mono ?_); ((repeat' (first | with_reducible assumption | with_reducible exact Below.refl _ _ | with_reducible refine Below.drew ?_ | with_reducible refine Below.alloc ?_ ?_ _ | with_reducible refine Below.setCell ?_ ?_ _ | with_reducible refine Below.step ?_ he2 ?_ | with_reducible refine Below.step ?_ he1 ?_ | (first | exact Nat.le_refl _ | omega | (simp; done) | (simp; omega) | (unfold World.setCell; simp; done) | (unfold World.setCell; simp; omega)))))); rintro e t1 ⟨⟨ng5, ao5, n5, cap5, rfl, HV5⟩, he1⟩; have HT1 : Below wy.heap.size wy t1 := (by (repeat' (first | with_reducible assumption | with_reducible exact Below.refl _ _ | with_reducible refine Below.drew ?_ | with_reducible refine Below.alloc ?_ ?_ _ | with_reducible refine Below.setCell ?_ ?_ _ | with_reducible refine Below.step ?_ he2 ?_ | with_reducible refine Below.step ?_ he1 ?_ | (first | exact Nat.le_refl _ | omega | (simp; done) | (simp; omega) | (unfold World.setCell; simp; done) | (unfold World.setCell; simp; omega))))); have ht1 := HT1.size; have hX7 := X7.mono HT1; have lt7 := hX7.lt; obtain ⟨_, _, _, _⟩ := id hX7; (try ((have hY4 : Box4 t1 wy.heap.size (.bool false) (.slice none 0 0) (.bool false) (.slice none 0 0) := ?_); rotate_left; (· (refine Box4.mono ?_ he1; (repeat' (first | with_reducible assumption | with_reducible exact Box4.new _ _ _ _ _ _ | with_reducible refine Box4.set4N ?_ _ _ _ _ | with_reducible refine Box4.mono ?_ he1 | with_reducible refine Box4.mono ?_ (below_alloc _ _) | with_reducible refine Box4.mono ?_ (Below.drew (Below.refl _ _)))); done)); obtain ⟨_, _, _, _, _, _, _, _⟩ := id hY4)))
    all_goals (go_wp2_with fail; go_meet; exact ⟨_, ng5, ao5, n5, cap5, rfl, (by first | exact Nat.le_refl _ | omega), by (repeat' (first | with_reducible assumption | with_reducible exact Box4.new _ _ _ _ _ _ | with_reducible refine Box4.set4N ?_ _ _ _ _ | with_reducible refine Box4.mono ?_ he1 | with_reducible refine Box4.mono ?_ (below_alloc _ _) | with_reducible refine Box4.mono ?_ (Below.drew (Below.refl _ _)))), Lib.hid (by (repeat' (first | with_reducible exact HV5.out | with_reducible refine IntV.mono ?_ (below_alloc _ _) | with_reducible refine IntV.mono ?_ (Below.drew (Below.refl _ _)) | with_reducible refine IntV.put4N ?_ ?_ _ _ _ _ | with_reducible assumption | repeat' (first | with_reducible assumption | with_reducible exact Box4.new _ _ _ _ _ _ | with_reducible refine Box4.set4N ?_ _ _ _ _ | with_reducible refine Box4.mono ?_ he1 | with_reducible refine Box4.mono ?_ (below_alloc _ _) | with_reducible refine Box4.mono ?_ (Below.drew (Below.refl _ _)))))), by (repeat' (first | with_reducible assumption | with_reducible exact Below.refl _ _ | with_reducible refine Below.drew ?_ | with_reducible refine Below.alloc ?_ ?_ _ | with_reducible refine Below.setCell ?_ ?_ _ | with_reducible refine Below.step ?_ he2 ?_ | with_reducible refine Below.step ?_ he1 ?_ | (first | exact Nat.le_refl _ | omega | (simp; done) | (simp; omega) | (unfold World.setCell; simp; done) | (unfold World.setCell; simp; omega))))⟩)
  case rest =>
    obtain ⟨g9, ng2, ao2, n2, cap2, rfl, hg9, X9, HV2, hb⟩ := hcut
    have l9X2 := X2.lt
    have l9X7 := X7.lt
    have hM := hM.mono hb
    have X2 := X2.mono hb
    have HV1 := Lib.hid (HV1.out.mono hb)
    have X7 := X7.mono hb
    have hE := hE.mono hb
    have hbw := Below.step hbw hb (Nat.le_refl _)
    clear hb
    rcases hp with ⟨rfl, r, rfl, hr1, hr2⟩ | ⟨rfl, rfl, hg2⟩ | ⟨rfl, rfl, hg2, q, hz2, hq⟩ | ⟨rfl, rfl, hg2, q, hz2, hq⟩ | ⟨rfl, hg2, q, r, rfl, hz2, hq, hr1, hr2⟩
    · rw [← hr1.out] at HV1
      rw [← hr2.out] at HV2
      obtain ⟨cX9_0, cX9_1, cX9_2, cX9_3, _, _, _, _⟩ := id X9
      go_wp2_with fail
      (with_reducible refine (Valid_true _ r wc (RatV.mk' HV1 HV2) hE).mono ?_)
      rintro e v5 ⟨rfl, hb⟩
      have hM := hM.mono hb
      have X2 := X2.mono hb
      have HV1 := Lib.hid (HV1.out.mono hb)
      have X7 := X7.mono hb
      have X9 := X9.mono hb
      have HV2 := Lib.hid (HV2.out.mono hb)
      have hE := hE.mono hb
      have hbw := Below.step hbw hb (Nat.le_refl _)
      clear hb
      clear cX9_0 cX9_1 cX9_2 cX9_3
      obtain ⟨cX9_0, cX9_1, cX9_2, cX9_3, _, _, _, _⟩ := id X9
      obtain ⟨cX2_0, cX2_1, cX2_2, cX2_3, _, _, _, _⟩ := id X2
      go_wp2
      refine bodyPost_ret (v := .tuple #[.agg #[.bool ng1, .slice ao1 n1 cap1, .bool ng2, .slice ao2 n2 cap2], .int .i64 0]) (by simp [results, Tryz.results24, go_sem, cX2_0, cX2_1, cX2_2, cX2_3]) rfl ⟨⟨ng1, ao1, n1, cap1, ng2, ao2, n2, cap2, rfl, Lib.hid (HV1.out.put4B X2 (.bool ng1) (.slice ao1 n1 cap1) (.bool ng2) (.slice ao2 n2 cap2)), Lib.hid (HV2.out.put4B X2 (.bool ng1) (.slice ao1 n1 cap1) (.bool ng2) (.slice ao2 n2 cap2))⟩, Below.put4 hbw (by omega) (.bool ng1) (.slice ao1 n1 cap1) (.bool ng2) (.slice ao2 n2 cap2)⟩
    · go_wp2_with fail
      (with_reducible refine (Parse_none d wc hd hE hg2).mono ?_)
      rintro e v5 ⟨rfl, hb⟩
      have hM := hM.mono hb
      have X2 := X2.mono hb
      have HV1 := Lib.hid (HV1.out.mono hb)
      have X7 := X7.mono hb
      have X9 := X9.mono hb
      have HV2 := Lib.hid (HV2.out.mono hb)
      have hE := hE.mono hb
      have hbw := Below.step hbw hb (Nat.le_refl _)
      clear hb
      obtain ⟨cX9_0, cX9_1, cX9_2, cX9_3, _, _, _, _⟩ := id X9
      go_upto_region 8 with fail
      clear cX9_0 cX9_1 cX9_2 cX9_3
      have X2 := X2.other23 (u := .bool false) (v := .slice none 0 0) (show w.heap.size ≠ g9 by omega)
      have HV1 := Lib.hid (HV1.out.put23B X9 (.bool false) (.slice none 0 0))
      have X7 := X7.other23 (u := .bool false) (v := .slice none 0 0) (show v3.heap.size ≠ g9 by omega)
      have HV2 := Lib.hid (HV2.out.put23B X9 (.bool false) (.slice none 0 0))
      have X9 := X9.set23 (.bool false) (.slice none 0 0)
      have hbw := Below.put23 hbw (n := g9) (by omega) (.bool false) (.slice none 0 0)
      have hE := hE0.mono hbw
      have hM := hM0.mono hbw
      generalize (v5.setCell ⟨g9, 2, none⟩ (.bool false)).setCell ⟨g9, 3, none⟩ (.slice none 0 0) = v6 at *
      clear HV2
      obtain ⟨wz, rfl⟩ : ∃ wz : World, wz = v6 := ⟨_, rfl⟩
      go_cut [42] (fun s42 wc => s42 = .bool true ∧ Below wz.heap.size wz wc)
      case first =>
        go_quiet (fail)
        all_goals (go_wp2_with fail; go_meet; exact ⟨rfl, below_drewN (Below.refl _ _) _⟩)
      case rest =>
        obtain ⟨rfl, hb⟩ := hcut
        have hM := hM.mono hb
        have X2 := X2.mono hb
        have HV1 := Lib.hid (HV1.out.mono hb)
        have X7 := X7.mono hb
        have X9 := X9.mono hb
        have hE := hE.mono hb
        have hbw := Below.step hbw hb (Nat.le_refl _)
        clear hb
        obtain ⟨cX2_0, cX2_1, cX2_2, cX2_3, _, _, _, _⟩ := id X2
        go_wp2
        refine bodyPost_ret (v := .tuple #[.agg #[.bool false, .slice none 0 0, .bool false, .slice none 0 0], .int .i64 2]) (by simp [results, Tryz.results24, go_sem, cX2_0, cX2_1, cX2_2, cX2_3]) rfl ⟨rfl, Below.put4 hbw (by omega) (.bool false) (.slice none 0 0) (.bool false) (.slice none 0 0)⟩
    · go_wp2_with fail
      (with_reducible refine (Parse_good d q hz2 wc hd hE hg2).mono ?_)
      rintro e v5 ⟨⟨ng3, ao3, n3, cap3, rfl, HV3⟩, hb⟩
      have hM := hM.mono hb
      have X2 := X2.mono hb
      have HV1 := Lib.hid (HV1.out.mono hb)
      have X7 := X7.mono hb
      have X9 := X9.mono hb
      have HV2 := Lib.hid (HV2.out.mono hb)
      have hE := hE.mono hb
      have hbw := Below.step hbw hb (Nat.le_refl _)
      clear hb
      obtain ⟨cX9_0, cX9_1, cX9_2, cX9_3, _, _, _, _⟩ := id X9
      go_upto_region 8 with fail
      clear cX9_0 cX9_1 cX9_2 cX9_3
      have X2 := X2.other23 (u := .bool ng3) (v := .slice ao3 n3 cap3) (show w.heap.size ≠ g9 by omega)
      have HV1 := Lib.hid (HV1.out.put23B X9 (.bool ng3) (.slice ao3 n3 cap3))
      have X7 := X7.other23 (u := .bool ng3) (v := .slice ao3 n3 cap3) (show v3.heap.size ≠ g9 by omega)
      have HV2 := Lib.hid (HV2.out.put23B X9 (.bool ng3) (.slice ao3 n3 cap3))
      have HV3 := Lib.hid (HV3.out.put23B X9 (.bool ng3) (.slice ao3 n3 cap3))
      have X9 := X9.set23 (.bool ng3) (.slice ao3 n3 cap3)
      have hbw := Below.put23 hbw (n := g9) (by omega) (.bool ng3) (.slice ao3 n3 cap3)
      have hE := hE0.mono hbw
      have hM := hM0.mono hbw
      generalize (v5.setCell ⟨g9, 2, none⟩ (.bool ng3)).setCell ⟨g9, 3, none⟩ (.slice ao3 n3 cap3) = v6 at *
      clear HV2
      obtain ⟨cv, hcv, hc0⟩ : ∃ cv : Int, cmpZ q 1 = cv ∧ (decide (cv ≤ 0)) = true := ⟨_, rfl, by have := hq.out; unfold cmpZ; split <;> (try split) <;> simp <;> omega⟩
      have HC := Lib.hid hcv
      clear hcv
      obtain ⟨wz, rfl⟩ : ∃ wz : World, wz = v6 := ⟨_, rfl⟩
      go_cut [42] (fun s42 wc => s42 = .bool true ∧ Below wz.heap.size wz wc)
      case first =>
        obtain ⟨_, _, _, _, _, _, _, _⟩ := id X9
        go_region_with (first
          | (go_at_call 65; ((with_reducible refine (one_any _ (hE.mono ?_)).mono ?_); ((repeat' (first | with_reducible assumption | with_reducible exact Below.refl _ _ | with_reducible refine Below.drew ?_ | with_reducible refine Below.alloc ?_ ?_ _ | with_reducible refine Below.setCell ?_ ?_ _ | with_reducible refine Below.step ?_ he2 ?_ | with_reducible refine Below.step ?_ he1 ?_ | (first | exact Nat.le_refl _ | omega | (simp; done) | (simp; omega) | (unfold World.setCell; simp; done) | (unfold World.setCell; simp; omega)))))); rintro e t1 ⟨⟨ng5, ao5, n5, cap5, rfl, HV5⟩, he1⟩; have HT1 : Below wz.heap.size wz t1 := (by (repeat' (first | with_reducible assumption | with_reducible exact Below.refl _ _ | with_reducible refine Below.drew ?_ | with_reducible refine Below.alloc ?_ ?_ _ | with_reducible refine Below.setCell ?_ ?_ _ | with_reducible refine Below.step ?_ he2 ?_ | with_reducible refine Below.step ?_ he1 ?_ | (first | exact Nat.le_refl _ | omega | (simp; done) | (simp; omega) | (unfold World.setCell; simp; done) | (unfold World.setCell; simp; omega))))); have ht1 := HT1.size; have hX9 := X9.mono HT1; obtain ⟨_, _, _, _, _, _, _, _⟩ := id hX9)
          | (go_at_call 64; ((with_reducible refine (Cmp_eq _ _ q 1 cv _ HC (HV3.out.mono ?_) (HV5.out.mono ?_) (hE.mono ?_)).mono ?_); ((repeat' (first | with_reducible assumption | with_reducible exact Below.refl _ _ | with_reducible refine Below.drew ?_ | with_reducible refine Below.alloc ?_ ?_ _ | with_reducible refine Below.setCell ?_ ?_ _ | with_reducible refine Below.step ?_ he2 ?_ | with_reducible refine Below.step ?_ he1 ?_ | (first | exact Nat.le_refl _ | omega | (simp; done) | (simp; omega) | (unfold World.setCell; simp; done) | (unfold World.setCell; simp; omega))))); ((repeat' (first | with_reducible assumption | with_reducible exact Below.refl _ _ | with_reducible refine Below.drew ?_ | with_reducible refine Below.alloc ?_ ?_ _ | with_reducible refine Below.setCell ?_ ?_ _ | with_reducible refine Below.step ?_ he2 ?_ | with_reducible refine Below.step ?_ he1 ?_ | (first | exact Nat.le_refl _ | omega | (simp; done) | (simp; omega) | (unfold World.setCell; simp; done) | (unfold World.setCell; simp; omega))))); ((repeat' (first | with_reducible assumption | with_reducible exact Below.refl _ _ | with_reducible refine Below.drew ?_ | with_reducible refine Below.alloc ?_ ?_ _ | with_reducible refine Below.setCell ?_ ?_ _ | with_reducible refine Below.step ?_ he2 ?_ | with_reducible refine Below.step ?_ he1 ?_ | (first | exact Nat.le_refl _ | omega | (simp; done) | (simp; omega) | (unfold World.setCell; simp; done) | (unfold World.setCell; simp; omega)))))); rintro e t2 ⟨rfl, he2⟩; have HT2 : Below wz.heap.size wz t2 := (by (repeat' (first | with_reducible assumption | with_reducible exact Below.refl _ _ | with_reducible refine Below.drew ?_ | with_reducible refine Below.alloc ?_ ?_ _ | with_reducible refine Below.setCell ?_ ?_ _ | with_reducible refine Below.step ?_ he2 ?_ | with_reducible refine Below.step ?_ he1 ?_ | (first | exact Nat.le_refl _ | omega | (simp; done) | (simp; omega) | (unfold World.setCell; simp; done) | (unfold World.setCell; simp; omega))))); have ht2 := HT2.size))
        all_goals (go_wp2_with fail; go_meet; exact ⟨rfl, HT2⟩)
      case rest =>
        obtain ⟨rfl, hb⟩ := hcut
        have hM := hM.mono hb
        have X2 := X2.mono hb
        have HV1 := Lib.hid (HV1.out.mono hb)
        have X7 := X7.mono hb
        have X9 := X9.mono hb
        have HV3 := Lib.hid (HV3.out.mono hb)
        have hE := hE.mono hb
        have hbw := Below.step hbw hb (Nat.le_refl _)
        clear hb
        obtain ⟨cX2_0, cX2_1, cX2_2, cX2_3, _, _, _, _⟩ := id X2
        go_wp2
        refine bodyPost_ret (v := .tuple #[.agg #[.bool false, .slice none 0 0, .bool false, .slice none 0 0], .int .i64 2]) (by simp [results, Tryz.results24, go_sem, cX2_0, cX2_1, cX2_2, cX2_3]) rfl ⟨rfl, Below.put4 hbw (by omega) (.bool false) (.slice none 0 0) (.bool false) (.slice none 0 0)⟩
    · go_wp2_with fail
      (with_reducible refine (Parse_good d q hz2 wc hd hE hg2).mono ?_)
      rintro e v5 ⟨⟨ng3, ao3, n3, cap3, rfl, HV3⟩, hb⟩
      have hM := hM.mono hb
      have X2 := X2.mono hb
      have HV1 := Lib.hid (HV1.out.mono hb)
      have X7 := X7.mono hb
      have X9 := X9.mono hb
      have HV2 := Lib.hid (HV2.out.mono hb)
      have hE := hE.mono hb
      have hbw := Below.step hbw hb (Nat.le_refl _)
      clear hb
      obtain ⟨cX9_0, cX9_1, cX9_2, cX9_3, _, _, _, _⟩ := id X9
      go_upto_region 8 with fail
      clear cX9_0 cX9_1 cX9_2 cX9_3
      have X2 := X2.other23 (u := .bool ng3) (v := .slice ao3 n3 cap3) (show w.heap.size ≠ g9 by omega)
      have HV1 := Lib.hid (HV1.out.put23B X9 (.bool ng3) (.slice ao3 n3 cap3))
      have X7 := X7.other23 (u := .bool ng3) (v := .slice ao3 n3 cap3) (show v3.heap.size ≠ g9 by omega)
      have HV2 := Lib.hid (HV2.out.put23B X9 (.bool ng3) (.slice ao3 n3 cap3))
      have HV3 := Lib.hid (HV3.out.put23B X9 (.bool ng3) (.slice ao3 n3 cap3))
      have X9 := X9.set23 (.bool ng3) (.slice ao3 n3 cap3)
      have hbw := Below.put23 hbw (n := g9) (by omega) (.bool ng3) (.slice ao3 n3 cap3)
      have hE := hE0.mono hbw
      have hM := hM0.mono hbw
      generalize (v5.setCell ⟨g9, 2, none⟩ (.bool ng3)).setCell ⟨g9, 3, none⟩ (.slice ao3 n3 cap3) = v6 at *
      clear HV2
      obtain ⟨cv, hcv, hc0⟩ : ∃ cv : Int, cmpZ q 1 = cv ∧ (decide (cv ≤ 0)) = false := ⟨_, rfl, by have := hq.out.1; unfold cmpZ; split <;> (try split) <;> simp <;> omega⟩
      have HC := Lib.hid hcv
      clear hcv
      obtain ⟨wz, rfl⟩ : ∃ wz : World, wz = v6 := ⟨_, rfl⟩
      go_cut [42] (fun s42 wc => s42 = .bool false ∧ Below wz.heap.size wz wc)
      case first =>
        obtain ⟨_, _, _, _, _, _, _, _⟩ := id X9
        go_region_with (first
          | (go_at_call 65; ((with_reducible refine (one_any _ (hE.mono ?_)).mono ?_); ((repeat' (first | with_reducible assumption | with_reducible exact Below.refl _ _ | with_reducible refine Below.drew ?_ | with_reducible refine Below.alloc ?_ ?_ _ | with_reducible refine Below.setCell ?_ ?_ _ | with_reducible refine Below.step ?_ he2 ?_ | with_reducible refine Below.step ?_ he1 ?_ | (first | exact Nat.le_refl _ | omega | (simp; done) | (simp; omega) | (unfold World.setCell; simp; done) | (unfold World.setCell; simp; omega)))))); rintro e t1 ⟨⟨ng5, ao5, n5, cap5, rfl, HV5⟩, he1⟩; have HT1 : Below wz.heap.size wz t1 := (by (repeat' (first | with_reducible assumption | with_reducible exact Below.refl _ _ | with_reducible refine Below.drew ?_ | with_reducible refine Below.alloc ?_ ?_ _ | with_reducible refine Below.setCell ?_ ?_ _ | with_reducible refine Below.step ?_ he2 ?_ | with_reducible refine Below.step ?_ he1 ?_ | (first | exact Nat.le_refl _ | omega | (simp; done) | (simp; omega) | (unfold World.setCell; simp; done) | (unfold World.setCell; simp; omega))))); have ht1 := HT1.size; have hX9 := X9.mono HT1; obtain ⟨_, _, _, _, _, _, _, _⟩ := id hX9)
          | (go_at_call 64; ((with_reducible refine (Cmp_eq _ _ q 1 cv _ HC (HV3.out.mono ?_) (HV5.out.mono ?_) (hE.mono ?_)).mono ?_); ((repeat' (first | with_reducible assumption | with_reducible exact Below.refl _ _ | with_reducible refine Below.drew ?_ | with_reducible refine Below.alloc ?_ ?_ _ | with_reducible refine Below.setCell ?_ ?_ _ | with_reducible refine Below.step ?_ he2 ?_ | with_reducible refine Below.step ?_ he1 ?_ | (first | exact Nat.le_refl _ | omega | (simp; done) | (simp; omega) | (unfold World.setCell; simp; done) | (unfold World.setCell; simp; omega))))); ((repeat' (first | with_reducible assumption | with_reducible exact Below.refl _ _ | with_reducible refine Below.drew ?_ | with_reducible refine Below.alloc ?_ ?_ _ | with_reducible refine Below.setCell ?_ ?_ _ | with_reducible refine Below.step ?_ he2 ?_ | with_reducible refine Below.step ?_ he1 ?_ | (first | exact Nat.le_refl _ | omega | (simp; done) | (simp; omega) | (unfold World.setCell; simp; done) | (unfold World.setCell; simp; omega))))); ((repeat' (first | with_reducible assumption | with_reducible exact Below.refl _ _ | with_reducible refine Below.drew ?_ | with_reducible refine Below.alloc ?_ ?_ _ | with_reducible refine Below.setCell ?_ ?_ _ | with_reducible refine Below.step ?_ he2 ?_ | with_reducible refine Below.step ?_ he1 ?_ | (first | exact Nat.le_refl _ | omega | (simp; done) | (simp; omega) | (unfold World.setCell; simp; done) | (unfold World.setCell; simp; omega)))))); rintro e t2 ⟨rfl, he2⟩; have HT2 : Below wz.heap.size wz t2 := (by (repeat' (first | with_reducible assumption | with_reducible exact Below.refl _ _ | with_reducible refine Below.drew ?_ | with_reducible refine Below.alloc ?_ ?_ _ | with_reducible refine Below.setCell ?_ ?_ _ | with_reducible refine Below.step ?_ he2 ?_ | with_reducible refine Below.step ?_ he1 ?_ | (first | exact Nat.le_refl _ | omega | (simp; done) | (simp; omega) | (unfold World.setCell; simp; done) | (unfold World.setCell; simp; omega))))); have ht2 := HT2.size))
        all_goals (go_wp2_with fail; go_meet; exact ⟨rfl, HT2⟩)
      case rest =>
        obtain ⟨rfl, hb⟩ := hcut
        have hM := hM.mono hb
        have X2 := X2.mono hb
        have HV1 := Lib.hid (HV1.out.mono hb)
        have X7 := X7.mono hb
        have X9 := X9.mono hb
        have HV3 := Lib.hid (HV3.out.mono hb)
        have hE := hE.mono hb
        have hbw := Below.step hbw hb (Nat.le_refl _)
        clear hb
        obtain ⟨cX9_0, cX9_1, cX9_2, cX9_3, _, _, _, _⟩ := id X9
        go_wp2_with fail
        (with_reducible refine (Valid_gcd z q wc (Lib.hid ⟨by have := hq.out.1; omega, hq.out.2⟩) HV1.out HV3.out hE).mono ?_)
        rintro e v7 ⟨rfl, hb⟩
        have hM := hM.mono hb
        have X2 := X2.mono hb
        have HV1 := Lib.hid (HV1.out.mono hb)
        have X7 := X7.mono hb
        have X9 := X9.mono hb
        have HV3 := Lib.hid (HV3.out.mono hb)
        have hE := hE.mono hb
        have hbw := Below.step hbw hb (Nat.le_refl _)
        clear hb
        clear cX9_0 cX9_1 cX9_2 cX9_3
        obtain ⟨cX2_0, cX2_1, cX2_2, cX2_3, _, _, _, _⟩ := id X2
        go_wp2
        refine bodyPost_ret (v := .tuple #[.agg #[.bool false, .slice none 0 0, .bool false, .slice none 0 0], .int .i64 2]) (by simp [results, Tryz.results24, go_sem, cX2_0, cX2_1, cX2_2, cX2_3]) rfl ⟨rfl, Below.put4 hbw (by omega) (.bool false) (.slice none 0 0) (.bool false) (.slice none 0 0)⟩
    · go_wp2_with fail
      (with_reducible refine (Parse_good d q hz2 wc hd hE hg2).mono ?_)
      rintro e v5 ⟨⟨ng3, ao3, n3, cap3, rfl, HV3⟩, hb⟩
      have hM := hM.mono hb
      have X2 := X2.mono hb
      have HV1 := Lib.hid (HV1.out.mono hb)
      have X7 := X7.mono hb
      have X9 := X9.mono hb
      have HV2 := Lib.hid (HV2.out.mono hb)
      have hE := hE.mono hb
      have hbw := Below.step hbw hb (Nat.le_refl _)
      clear hb
      obtain ⟨cX9_0, cX9_1, cX9_2, cX9_3, _, _, _, _⟩ := id X9
      go_upto_region 8 with fail
      clear cX9_0 cX9_1 cX9_2 cX9_3
      have X2 := X2.other23 (u := .bool ng3) (v := .slice ao3 n3 cap3) (show w.heap.size ≠ g9 by omega)
      have HV1 := Lib.hid (HV1.out.put23B X9 (.bool ng3) (.slice ao3 n3 cap3))
      have X7 := X7.other23 (u := .bool ng3) (v := .slice ao3 n3 cap3) (show v3.heap.size ≠ g9 by omega)
      have HV2 := Lib.hid (HV2.out.put23B X9 (.bool ng3) (.slice ao3 n3 cap3))
      have HV3 := Lib.hid (HV3.out.put23B X9 (.bool ng3) (.slice ao3 n3 cap3))
      have X9 := X9.set23 (.bool ng3) (.slice ao3 n3 cap3)
      have hbw := Below.put23 hbw (n := g9) (by omega) (.bool ng3) (.slice ao3 n3 cap3)
      have hE := hE0.mono hbw
      have hM := hM0.mono hbw
      generalize (v5.setCell ⟨g9, 2, none⟩ (.bool ng3)).setCell ⟨g9, 3, none⟩ (.slice ao3 n3 cap3) = v6 at *
      clear HV2
      obtain ⟨cv, hcv, hc0⟩ : ∃ cv : Int, cmpZ q 1 = cv ∧ (decide (cv ≤ 0)) = false := ⟨_, rfl, by have := hq.out; unfold cmpZ; split <;> (try split) <;> simp <;> omega⟩
      have HC := Lib.hid hcv
      clear hcv
      obtain ⟨wz, rfl⟩ : ∃ wz : World, wz = v6 := ⟨_, rfl⟩
      go_cut [42] (fun s42 wc => s42 = .bool false ∧ Below wz.heap.size wz wc)
      case first =>
        obtain ⟨_, _, _, _, _, _, _, _⟩ := id X9
        go_region_with (first
          | (go_at_call 65; ((with_reducible refine (one_any _ (hE.mono ?_)).mono ?_); ((repeat' (first | with_reducible assumption | with_reducible exact Below.refl _ _ | with_reducible refine Below.drew ?_ | with_reducible refine Below.alloc ?_ ?_ _ | with_reducible refine Below.setCell ?_ ?_ _ | with_reducible refine Below.step ?_ he2 ?_ | with_reducible refine Below.step ?_ he1 ?_ | (first | exact Nat.le_refl _ | omega | (simp; done) | (simp; omega) | (unfold World.setCell; simp; done) | (unfold World.setCell; simp; omega)))))); rintro e t1 ⟨⟨ng5, ao5, n5, cap5, rfl, HV5⟩, he1⟩; have HT1 : Below wz.heap.size wz t1 := (by (repeat' (first | with_reducible assumption | with_reducible exact Below.refl _ _ | with_reducible refine Below.drew ?_ | with_reducible refine Below.alloc ?_ ?_ _ | with_reducible refine Below.setCell ?_ ?_ _ | with_reducible refine Below.step ?_ he2 ?_ | with_reducible refine Below.step ?_ he1 ?_ | (first | exact Nat.le_refl _ | omega | (simp; done) | (simp; omega) | (unfold World.setCell; simp; done) | (unfold World.setCell; simp; omega))))); have ht1 := HT1.size; have hX9 := X9.mono HT1; obtain ⟨_, _, _, _, _, _, _, _⟩ := id hX9)
          | (go_at_call 64; ((with_reducible refine (Cmp_eq _ _ q 1 cv _ HC (HV3.out.mono ?_) (HV5.out.mono ?_) (hE.mono ?_)).mono ?_); ((repeat' (first | with_reducible assumption | with_reducible exact Below.refl _ _ | with_reducible refine Below.drew ?_ | with_reducible refine Below.alloc ?_ ?_ _ | with_reducible refine Below.setCell ?_ ?_ _ | with_reducible refine Below.step ?_ he2 ?_ | with_reducible refine Below.step ?_ he1 ?_ | (first | exact Nat.le_refl _ | omega | (simp; done) | (simp; omega) | (unfold World.setCell; simp; done) | (unfold World.setCell; simp; omega))))); ((repeat' (first | with_reducible assumption | with_reducible exact Below.refl _ _ | with_reducible refine Below.drew ?_ | with_reducible refine Below.alloc ?_ ?_ _ | with_reducible refine Below.setCell ?_ ?_ _ | with_reducible refine Below.step ?_ he2 ?_ | with_reducible refine Below.step ?_ he1 ?_ | (first | exact Nat.le_refl _ | omega | (simp; done) | (simp; omega) | (unfold World.setCell; simp; done) | (unfold World.setCell; simp; omega))))); ((repeat' (first | with_reducible assumption | with_reducible exact Below.refl _ _ | with_reducible refine Below.drew ?_ | with_reducible refine Below.alloc ?_ ?_ _ | with_reducible refine Below.setCell ?_ ?_ _ | with_reducible refine Below.step ?_ he2 ?_ | with_reducible refine Below.step ?_ he1 ?_ | (first | exact Nat.le_refl _ | omega | (simp; done) | (simp; omega) | (unfold World.setCell; simp; done) | (unfold World.setCell; simp; omega)))))); rintro e t2 ⟨rfl, he2⟩; have HT2 : Below wz.heap.size wz t2 := (by (repeat' (first | with_reducible assumption | with_reducible exact Below.refl _ _ | with_reducible refine Below.drew ?_ | with_reducible refine Below.alloc ?_ ?_ _ | with_reducible refine Below.setCell ?_ ?_ _ | with_reducible refine Below.step ?_ he2 ?_ | with_reducible refine Below.step ?_ he1 ?_ | (first | exact Nat.le_refl _ | omega | (simp; done) | (simp; omega) | (unfold World.setCell; simp; done) | (unfold World.setCell; simp; omega))))); have ht2 := HT2.size))
        all_goals (go_wp2_with fail; go_meet; exact ⟨rfl, HT2⟩)
      case rest =>
        obtain ⟨rfl, hb⟩ := hcut
        have hM := hM.mono hb
        have X2 := X2.mono hb
        have HV1 := Lib.hid (HV1.out.mono hb)
        have X7 := X7.mono hb
        have X9 := X9.mono hb
        have HV3 := Lib.hid (HV3.out.mono hb)
        have hE := hE.mono hb
        have hbw := Below.step hbw hb (Nat.le_refl _)
        clear hb
        rw [← hr1.out] at HV1
        rw [← hr2.out] at HV3
        obtain ⟨cX9_0, cX9_1, cX9_2, cX9_3, _, _, _, _⟩ := id X9
        go_wp2_with fail
        (with_reducible refine (Valid_true _ r wc (RatV.mk' HV1 HV3) hE).mono ?_)
        rintro e v7 ⟨rfl, hb⟩
        have hM := hM.mono hb
        have X2 := X2.mono hb
        have HV1 := Lib.hid (HV1.out.mono hb)
        have X7 := X7.mono hb
        have X9 := X9.mono hb
        have HV3 := Lib.hid (HV3.out.mono hb)
        have hE := hE.mono hb
        have hbw := Below.step hbw hb (Nat.le_refl _)
        clear hb
        clear cX9_0 cX9_1 cX9_2 cX9_3
        obtain ⟨cX9_0, cX9_1, cX9_2, cX9_3, _, _, _, _⟩ := id X9
        obtain ⟨cX2_0, cX2_1, cX2_2, cX2_3, _, _, _, _⟩ := id X2
        go_wp2
        refine bodyPost_ret (v := .tuple #[.agg #[.bool ng1, .slice ao1 n1 cap1, .bool ng3, .slice ao3 n3 cap3], .int .i64 0]) (by simp [results, Tryz.results24, go_sem, cX2_0, cX2_1, cX2_2, cX2_3]) rfl ⟨⟨ng1, ao1, n1, cap1, ng3, ao3, n3, cap3, rfl, Lib.hid (HV1.out.put4B X2 (.bool ng1) (.slice ao1 n1 cap1) (.bool ng3) (.slice ao3 n3 cap3)), Lib.hid (HV3.out.put4B X2 (.bool ng1) (.slice ao1 n1 cap1) (.bool ng3) (.slice ao3 n3 cap3))⟩, Below.put4 hbw (by omega) (.bool ng1) (.slice ao1 n1 cap1) (.bool ng3) (.slice ao3 n3 cap3)⟩

end Go.Proofs.YtgenhkakcbedaaaGreatDoor
