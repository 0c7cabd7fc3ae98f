import Derived.Test.YtgenhkakcbedaaaGreatDoorQ9
namespace Go.Proofs.YtgenhkakcbedaaaGreatDoor
open Go.RowKit

theorem limbs_inj {a b : Nat} (h : Bi.limbs a = Bi.limbs b) : a = b := by
  have := congrArg Bi.val h
  rwa [Bi.val_limbs, Bi.val_limbs] at this

/-- two integers as a fraction: valid or not -/
theorem vq_of {w : World} {ng1 : Bool} {ao1 : Option Addr} {n1 cap1 : Nat} {ng2 : Bool} {ao2 : Option Addr} {n2 cap2 : Nat} {z q : Int} (b : Bool) (h1 : IntV w (.agg #[.bool ng1, .slice ao1 n1 cap1]) z) (h2 : IntV w (.agg #[.bool ng2, .slice ao2 n2 cap2]) q) (hb : b = true ↔ Rq.VP z q) :
    VQ w (.agg #[.bool ng1, .slice ao1 n1 cap1, .bool ng2, .slice ao2 n2 cap2]) b := by
  obtain ⟨m1, b1, L1, d1, e1, Hn1, HL1, HB1, hk1, hl1, hU1⟩ := h1
  obtain ⟨m2, b2, L2, d2, e2, Hn2, HL2, HB2, hk2, hl2, hU2⟩ := h2
  simp only [Value.agg.injEq, Array.mk.injEq, List.cons.injEq, Value.bool.injEq, Value.slice.injEq, and_true] at e1 e2
  obtain ⟨rfl, rfl, rfl, rfl⟩ := e1
  obtain ⟨rfl, rfl, rfl, rfl⟩ := e2
  refine ⟨ng1, ng2, L1, L2, ao1, ao2, cap1, cap2, rfl, by omega, by omega, hk1, hk2, hU1, hU2, Lib.hid (hb.trans ⟨fun h => validR_of Hn1.out HL1.out HB1.out Hn2.out HL2.out HB2.out h, ?_⟩)⟩
  rintro ⟨r, x1, x2, _, x4, x5, _⟩
  have a1 := limbs_inj (x2.symm.trans HL1.out)
  have a2 := limbs_inj (x5.symm.trans HL2.out)
  have a3 : decide (r.num < 0) = decide (z < 0) := x1.symm.trans Hn1.out
  have a4 : decide (q < 0) = false := Hn2.out.symm.trans x4
  have a5 : (r.num < 0 ↔ z < 0) := by simpa using a3
  have a6 : ¬ q < 0 := by simpa using a4
  have ez : r.num = z := by omega
  have eq : (r.den : Int) = q := by omega
  rw [← ez, ← eq]
  exact Rq.vp_rat r

/-- the parts of a text at its slash; '1' where there is none -/
def SplitT (s n d : List UInt8) : Prop := ((47 : UInt8) ∉ s ∧ n = s ∧ d = [49]) ∨ (s = n ++ 47 :: d ∧ (47 : UInt8) ∉ n)

theorem split_at {s n d : List UInt8} {i : Nat} (h : SplitT s n d) (hi : i < s.length) (h1 : s[i] = 47) (h2 : (47 : UInt8) ∉ s.take i) : n = s.take i ∧ d = s.drop (i + 1) := by
  have e : s = s.take i ++ 47 :: s.drop (i + 1) := by
    rw [← h1, ← List.drop_eq_getElem_cons hi, List.take_append_drop]
  rcases h with ⟨h3, _, _⟩ | ⟨h3, h4⟩
  · exact absurd (by rw [← h1]; exact List.getElem_mem hi) h3
  · obtain ⟨a, b⟩ := Rq.split_inj (h3.symm.trans e) h4 h2
    exact ⟨a, b⟩

theorem split_end {s n d : List UInt8} (h : SplitT s n d) (h2 : (47 : UInt8) ∉ s) : n = s ∧ d = [49] := by
  rcases h with ⟨_, h3, h4⟩ | ⟨h3, _⟩
  · exact ⟨h3, h4⟩
  · exact absurd (by rw [h3]; simp) h2

theorem take_none {s : List UInt8} {i : Nat} (hi : i < s.length) (h1 : s[i] ≠ 47) (h2 : (47 : UInt8) ∉ s.take i) : (47 : UInt8) ∉ s.take (i + 1) := by
  rw [List.take_succ_eq_append_getElem hi]
  simp only [List.mem_append, List.mem_singleton, not_or]
  exact ⟨h2, fun h => h1 h.symm⟩

/-- what the reference's 'Parse' comes to -/
def RCase (s n d : List UInt8) (o : Option Rat) : Prop :=
  (o = none ∧ Hid (¬ GoodT n) ∧ Hid (GoodT d) ∧ ∃ q : Int, Hid (q = sgn (Lib.hasPrefix d [45]) (Bi.decVal (Lib.trimPrefix d [45])))) ∨
  (o = none ∧ Hid (¬ GoodT n) ∧ Hid (¬ GoodT d)) ∨
  (o = none ∧ Hid (GoodT n) ∧ (∃ z : Int, Hid (z = sgn (Lib.hasPrefix n [45]) (Bi.decVal (Lib.trimPrefix n [45])))) ∧ Hid (¬ GoodT d)) ∨
  (o = none ∧ Hid (GoodT n) ∧ Hid (GoodT d) ∧ ∃ z q : Int, Hid (z = sgn (Lib.hasPrefix n [45]) (Bi.decVal (Lib.trimPrefix n [45]))) ∧ Hid (q = sgn (Lib.hasPrefix d [45]) (Bi.decVal (Lib.trimPrefix d [45]))) ∧ Hid (¬ Rq.VP z q)) ∨
  (o = none ∧ Hid (GoodT n) ∧ Hid (GoodT d) ∧ ∃ (z q : Int) (r : Rat), Hid (z = sgn (Lib.hasPrefix n [45]) (Bi.decVal (Lib.trimPrefix n [45]))) ∧ Hid (q = sgn (Lib.hasPrefix d [45]) (Bi.decVal (Lib.trimPrefix d [45]))) ∧ Hid (r.num = z) ∧ Hid ((r.den : Int) = q) ∧ Hid (Rq.textQ r ≠ s)) ∨
  (Hid (GoodT n) ∧ Hid (GoodT d) ∧ ∃ (z q : Int) (r : Rat), o = some r ∧ Hid (z = sgn (Lib.hasPrefix n [45]) (Bi.decVal (Lib.trimPrefix n [45]))) ∧ Hid (q = sgn (Lib.hasPrefix d [45]) (Bi.decVal (Lib.trimPrefix d [45]))) ∧ Hid (r.num = z) ∧ Hid ((r.den : Int) = q) ∧ Hid (Rq.textQ r = s))

theorem bytes_eq {a b : ByteArray} (h : a = b) : Value.string a = .string b := by rw [h]

theorem ext_take (s : List UInt8) (i : Nat) : (⟨s.toArray⟩ : ByteArray).extract 0 i = ⟨(s.take i).toArray⟩ := by
  apply ByteArray.ext
  simp only [ByteArray.data_extract]
  apply Array.toList_inj.1
  simp

theorem ext_drop (s : List UInt8) (i : Nat) : (⟨s.toArray⟩ : ByteArray).extract i s.length = ⟨(s.drop i).toArray⟩ := by
  apply ByteArray.ext
  simp only [ByteArray.data_extract]
  apply Array.toList_inj.1
  simp
  exact List.take_of_length_le (by simp)

theorem rFormatQ_eq (v : Value) (r : Rat) (t : List UInt8) (w : World) (ht : Hid (Rq.textQ r = t)) (hr : RatV w v r) (hE : Env w) :
    Calls Tryz.prog 23 #[v] w fun e w' => e = .returned (.tuple #[.string ⟨t.toArray⟩, .int .i64 0]) ∧ Below w.heap.size w w' := by
  rw [← ht.out]; exact rFormatQ v r w hr hE

set_option maxRecDepth 100000 in
set_option maxHeartbeats 6400000 in
theorem rParseQ_case (s n d : List UInt8) (o : Option Rat) (w : World) (hs : s.length ≤ 1000000) (hn : n.length ≤ 1000000) (hd : d.length ≤ 1000000) (hsplit : Hid (SplitT s n d)) (hp : RCase s n d o) (hE : Env w) :
    Calls Tryz.prog 25 #[.string ⟨s.toArray⟩] w fun e w' => PRes o w' e ∧ Below w.heap.size w w' := by
  have hE0 := hE
  have hbw := Below.refl w.heap.size w
  go_enter Tryz.func25, Tryz.ntmps25
  go_upto_region 1 with fail
  have X2 := Box4.new w (.bool false) (.slice none 0 0) (.bool false) (.slice none 0 0) 29
  have hb := below_alloc w (.cells #[.bool false, .slice none 0 0, .bool false, .slice none 0 0] 29)
  generalize w.alloc (.cells #[.bool false, .slice none 0 0, .bool false, .slice none 0 0] 29) = v1 at *
  have hE := hE.mono hb
  have hbw := Below.step hbw hb (Nat.le_refl _)
  clear hb
  go_upto_block 0 with fail
  obtain ⟨wy, rfl⟩ : ∃ wy : World, wy = v1 := ⟨_, rfl⟩
  go_cut [4, 5] (fun s4 s5 wc => s4 = .string ⟨n.toArray⟩ ∧ s5 = .string ⟨d.toArray⟩ ∧ Below wy.heap.size wy wc)
  case first =>
    clear X2 hE hbw
    go_wp2_with fail
    go_loopg [4, 5, 6] s.length (fun gk s4 s5 s6 wr => ∃ i : Nat, s4 = .string ⟨s.toArray⟩ ∧ s5 = .string ⟨#[49]⟩ ∧ i ≤ s.length ∧ gk = s.length - i ∧ s6 = .int .i64 i ∧ Hid ((47 : UInt8) ∉ s.take i) ∧ Below wy.heap.size wy wr)
    case atStart => exact ⟨0, rfl, rfl, by omega, by omega, rfl, Lib.hid (by simp), Below.refl _ _⟩
    case round =>
      obtain ⟨i, rfl, rfl, hi, rfl, rfl, HI, hbr⟩ := hrel
      by_cases hlt : i < s.length
      · obtain ⟨x, hx⟩ : ∃ x, s[i] = x := ⟨_, rfl⟩
        have hidx : ∀ h : i < (⟨s.toArray⟩ : ByteArray).size, (⟨s.toArray⟩ : ByteArray)[i]'h = x := fun h => hx
        have HX := Lib.hid hx
        clear hx
        by_cases h47 : x = 47
        · have hsp := split_at hsplit.out hlt (by rw [HX.out]; exact h47) HI.out
          have HSP := Lib.hid hsp
          clear hsp
          have hxb : ((x.toNat : Int) == 47) = true := by rw [h47]; rfl
          have ha : (0 : Int) ≤ (i : Int) + 1 := by omega
          have hbb : (i : Int) + 1 ≤ (s.length : Int) := by omega
          have hw1 : IntKind.i64.wrap ((i : Int) + 1) = (i : Int) + 1 := IntWalk.i64_in _ (by omega)
          have hn1 : ((i : Int) + 1).toNat = i + 1 := by omega
          clear h47
          go_wp2_with fail
          go_quiet (fail)
          clear hw1 hn1 hidx
          go_wp2_with fail
          go_meet
          exact ⟨bytes_eq (by rw [HSP.out.1, ext_take]), bytes_eq (by rw [HSP.out.2, ext_drop]), below_drewN hbr _⟩
        · have hxb : ((x.toNat : Int) == 47) = false := by
            rw [beq_eq_false_iff_ne]
            intro h
            exact h47 (UInt8.toNat_inj.1 (by have : (47 : UInt8).toNat = 47 := rfl; omega))
          have HN := take_none hlt (by rw [HX.out]; exact h47) HI.out
          have HN := Lib.hid HN
          clear h47
          go_wp2
          go_roundg (s.length - (i + 1))
          case measure => omega
          case rel => exact ⟨i + 1, rfl, rfl, by omega, rfl, by go_num, HN, hbr⟩
      · obtain rfl : i = s.length := by omega
        have hsp := split_end hsplit.out (by have := HI.out; rwa [List.take_length] at this)
        have HSP := Lib.hid hsp
        clear hsp
        go_wp2_with fail
        go_meet
        exact ⟨by rw [HSP.out.1], by rw [HSP.out.2], hbr⟩
  case rest =>
    obtain ⟨rfl, rfl, hb⟩ := hcut
    have X2 := X2.mono hb
    have hE := hE.mono hb
    have hbw := Below.step hbw hb (Nat.le_refl _)
    clear hb
    rcases hp with ⟨rfl, hg1, hg2, q, hz2⟩ | ⟨rfl, hg1, hg2⟩ | ⟨rfl, hg1, ⟨z, hz1⟩, hg2⟩ | ⟨rfl, hg1, hg2, z, q, hz1, hz2, hv⟩ | ⟨rfl, hg1, hg2, z, q, r, hz1, hz2, hr1, hr2, ht⟩ | ⟨hg1, hg2, z, q, r, rfl, hz1, hz2, hr1, hr2, ht⟩
    · go_wp2_with fail
      (with_reducible refine (rParse_none n wc hn hg1).mono ?_)
      rintro e v2 ⟨rfl, hb⟩
      have X2 := X2.mono hb
      have hE := hE.mono hb
      have hbw := Below.step hbw hb (Nat.le_refl _)
      clear hb
      go_upto_region 8 with fail
      have lX7X2 := X2.lt
      have X7 := Box.new v2 (.bool false) (.slice none 0 0) 24
      have hb := below_alloc v2 (.cells #[.bool false, .slice none 0 0] 24)
      generalize v2.alloc (.cells #[.bool false, .slice none 0 0] 24) = v3 at *
      have X2 := X2.mono hb
      have hE := hE.mono hb
      have hbw := Below.step hbw hb (Nat.le_refl _)
      clear hb
      go_wp2_with fail
      (with_reducible refine (rParse_good d q hz2 v3 hd hg2).mono ?_)
      rintro e v4 ⟨⟨ng2, ao2, n2, cap2, rfl, HV2⟩, hb⟩
      have X2 := X2.mono hb
      have X7 := X7.mono hb
      have hE := hE.mono hb
      have hbw := Below.step hbw hb (Nat.le_refl _)
      clear hb
      go_upto_region 9 with fail
      have lX9X2 := X2.lt
      have lX9X7 := X7.lt
      have X9 := Box.new v4 (.bool ng2) (.slice ao2 n2 cap2) 24
      have hb := below_alloc v4 (.cells #[.bool ng2, .slice ao2 n2 cap2] 24)
      generalize v4.alloc (.cells #[.bool ng2, .slice ao2 n2 cap2] 24) = v5 at *
      have X2 := X2.mono hb
      have X7 := X7.mono hb
      have HV2 := Lib.hid (HV2.out.mono hb)
      have hE := hE.mono hb
      have hbw := Below.step hbw hb (Nat.le_refl _)
      clear hb
      obtain ⟨cX2_0, cX2_1, cX2_2, cX2_3, _, _, _, _⟩ := id X2
      go_wp2
      refine bodyPost_ret (v := .tuple #[.agg #[.bool false, .slice none 0 0, .bool false, .slice none 0 0], .int .i64 2]) (by simp [results, Tryz.results25, go_sem, cX2_0, cX2_1, cX2_2, cX2_3]) rfl ⟨rfl, Below.put4 hbw (by omega) (.bool false) (.slice none 0 0) (.bool false) (.slice none 0 0)⟩
    · go_wp2_with fail
      (with_reducible refine (rParse_none n wc hn hg1).mono ?_)
      rintro e v2 ⟨rfl, hb⟩
      have X2 := X2.mono hb
      have hE := hE.mono hb
      have hbw := Below.step hbw hb (Nat.le_refl _)
      clear hb
      go_upto_region 8 with fail
      have lX7X2 := X2.lt
      have X7 := Box.new v2 (.bool false) (.slice none 0 0) 24
      have hb := below_alloc v2 (.cells #[.bool false, .slice none 0 0] 24)
      generalize v2.alloc (.cells #[.bool false, .slice none 0 0] 24) = v3 at *
      have X2 := X2.mono hb
      have hE := hE.mono hb
      have hbw := Below.step hbw hb (Nat.le_refl _)
      clear hb
      go_wp2_with fail
      (with_reducible refine (rParse_none d v3 hd hg2).mono ?_)
      rintro e v4 ⟨rfl, hb⟩
      have X2 := X2.mono hb
      have X7 := X7.mono hb
      have hE := hE.mono hb
      have hbw := Below.step hbw hb (Nat.le_refl _)
      clear hb
      go_upto_region 9 with fail
      have lX9X2 := X2.lt
      have lX9X7 := X7.lt
      have X9 := Box.new v4 (.bool false) (.slice none 0 0) 24
      have hb := below_alloc v4 (.cells #[.bool false, .slice none 0 0] 24)
      generalize v4.alloc (.cells #[.bool false, .slice none 0 0] 24) = v5 at *
      have X2 := X2.mono hb
      have X7 := X7.mono hb
      have hE := hE.mono hb
      have hbw := Below.step hbw hb (Nat.le_refl _)
      clear hb
      obtain ⟨cX2_0, cX2_1, cX2_2, cX2_3, _, _, _, _⟩ := id X2
      go_wp2
      refine bodyPost_ret (v := .tuple #[.agg #[.bool false, .slice none 0 0, .bool false, .slice none 0 0], .int .i64 2]) (by simp [results, Tryz.results25, go_sem, cX2_0, cX2_1, cX2_2, cX2_3]) rfl ⟨rfl, Below.put4 hbw (by omega) (.bool false) (.slice none 0 0) (.bool false) (.slice none 0 0)⟩
    · go_wp2_with fail
      (with_reducible refine (rParse_good n z hz1 wc hn hg1).mono ?_)
      rintro e v2 ⟨⟨ng1, ao1, n1, cap1, rfl, HV1⟩, hb⟩
      have X2 := X2.mono hb
      have hE := hE.mono hb
      have hbw := Below.step hbw hb (Nat.le_refl _)
      clear hb
      go_upto_region 8 with fail
      have lX7X2 := X2.lt
      have X7 := Box.new v2 (.bool ng1) (.slice ao1 n1 cap1) 24
      have hb := below_alloc v2 (.cells #[.bool ng1, .slice ao1 n1 cap1] 24)
      generalize v2.alloc (.cells #[.bool ng1, .slice ao1 n1 cap1] 24) = v3 at *
      have X2 := X2.mono hb
      have HV1 := Lib.hid (HV1.out.mono hb)
      have hE := hE.mono hb
      have hbw := Below.step hbw hb (Nat.le_refl _)
      clear hb
      go_wp2_with fail
      (with_reducible refine (rParse_none d v3 hd hg2).mono ?_)
      rintro e v4 ⟨rfl, hb⟩
      have X2 := X2.mono hb
      have HV1 := Lib.hid (HV1.out.mono hb)
      have X7 := X7.mono hb
      have hE := hE.mono hb
      have hbw := Below.step hbw hb (Nat.le_refl _)
      clear hb
      go_upto_region 9 with fail
      have lX9X2 := X2.lt
      have lX9X7 := X7.lt
      have X9 := Box.new v4 (.bool false) (.slice none 0 0) 24
      have hb := below_alloc v4 (.cells #[.bool false, .slice none 0 0] 24)
      generalize v4.alloc (.cells #[.bool false, .slice none 0 0] 24) = v5 at *
      have X2 := X2.mono hb
      have HV1 := Lib.hid (HV1.out.mono hb)
      have X7 := X7.mono hb
      have hE := hE.mono hb
      have hbw := Below.step hbw hb (Nat.le_refl _)
      clear hb
      obtain ⟨cX2_0, cX2_1, cX2_2, cX2_3, _, _, _, _⟩ := id X2
      go_wp2
      refine bodyPost_ret (v := .tuple #[.agg #[.bool false, .slice none 0 0, .bool false, .slice none 0 0], .int .i64 2]) (by simp [results, Tryz.results25, go_sem, cX2_0, cX2_1, cX2_2, cX2_3]) rfl ⟨rfl, Below.put4 hbw (by omega) (.bool false) (.slice none 0 0) (.bool false) (.slice none 0 0)⟩
    · go_wp2_with fail
      (with_reducible refine (rParse_good n z hz1 wc hn hg1).mono ?_)
      rintro e v2 ⟨⟨ng1, ao1, n1, cap1, rfl, HV1⟩, hb⟩
      have X2 := X2.mono hb
      have hE := hE.mono hb
      have hbw := Below.step hbw hb (Nat.le_refl _)
      clear hb
      go_upto_region 8 with fail
      have lX7X2 := X2.lt
      have X7 := Box.new v2 (.bool ng1) (.slice ao1 n1 cap1) 24
      have hb := below_alloc v2 (.cells #[.bool ng1, .slice ao1 n1 cap1] 24)
      generalize v2.alloc (.cells #[.bool ng1, .slice ao1 n1 cap1] 24) = v3 at *
      have X2 := X2.mono hb
      have HV1 := Lib.hid (HV1.out.mono hb)
      have hE := hE.mono hb
      have hbw := Below.step hbw hb (Nat.le_refl _)
      clear hb
      go_wp2_with fail
      (with_reducible refine (rParse_good d q hz2 v3 hd hg2).mono ?_)
      rintro e v4 ⟨⟨ng2, ao2, n2, cap2, rfl, HV2⟩, hb⟩
      have X2 := X2.mono hb
      have HV1 := Lib.hid (HV1.out.mono hb)
      have X7 := X7.mono hb
      have hE := hE.mono hb
      have hbw := Below.step hbw hb (Nat.le_refl _)
      clear hb
      go_upto_region 9 with fail
      have lX9X2 := X2.lt
      have lX9X7 := X7.lt
      have X9 := Box.new v4 (.bool ng2) (.slice ao2 n2 cap2) 24
      have hb := below_alloc v4 (.cells #[.bool ng2, .slice ao2 n2 cap2] 24)
      generalize v4.alloc (.cells #[.bool ng2, .slice ao2 n2 cap2] 24) = v5 at *
      have X2 := X2.mono hb
      have HV1 := Lib.hid (HV1.out.mono hb)
      have X7 := X7.mono hb
      have HV2 := Lib.hid (HV2.out.mono hb)
      have hE := hE.mono hb
      have hbw := Below.step hbw hb (Nat.le_refl _)
      clear hb
      obtain ⟨cX7_0, cX7_1, _, _⟩ := id X7
      obtain ⟨cX9_0, cX9_1, _, _⟩ := id X9
      go_upto_region 12 with fail
      clear cX7_0 cX7_1 cX9_0 cX9_1
      have lX8X2 := X2.lt
      have lX8X7 := X7.lt
      have lX8X9 := X9.lt
      have X8 := Box4.new v5 (.bool ng1) (.slice ao1 n1 cap1) (.bool ng2) (.slice ao2 n2 cap2) 29
      have hb := below_alloc v5 (.cells #[.bool ng1, .slice ao1 n1 cap1, .bool ng2, .slice ao2 n2 cap2] 29)
      generalize v5.alloc (.cells #[.bool ng1, .slice ao1 n1 cap1, .bool ng2, .slice ao2 n2 cap2] 29) = v6 at *
      have X2 := X2.mono hb
      have HV1 := Lib.hid (HV1.out.mono hb)
      have X7 := X7.mono hb
      have HV2 := Lib.hid (HV2.out.mono hb)
      have X9 := X9.mono hb
      have hE := hE.mono hb
      have hbw := Below.step hbw hb (Nat.le_refl _)
      clear hb
      obtain ⟨cX8_0, cX8_1, cX8_2, cX8_3, _, _, _, _⟩ := id X8
      go_wp2_with fail
      (with_reducible refine (rFormatQ_inv _ v6 (vq_of false HV1.out HV2.out (by simp [hv.out])) hE).mono ?_)
      rintro e v7 ⟨rfl, hb⟩
      have X2 := X2.mono hb
      have HV1 := Lib.hid (HV1.out.mono hb)
      have X7 := X7.mono hb
      have HV2 := Lib.hid (HV2.out.mono hb)
      have X9 := X9.mono hb
      have X8 := X8.mono hb
      have hE := hE.mono hb
      have hbw := Below.step hbw hb (Nat.le_refl _)
      clear hb
      clear cX8_0 cX8_1 cX8_2 cX8_3
      obtain ⟨cX2_0, cX2_1, cX2_2, cX2_3, _, _, _, _⟩ := id X2
      go_wp2
      refine bodyPost_ret (v := .tuple #[.agg #[.bool false, .slice none 0 0, .bool false, .slice none 0 0], .int .i64 2]) (by simp [results, Tryz.results25, go_sem, cX2_0, cX2_1, cX2_2, cX2_3]) rfl ⟨rfl, Below.put4 hbw (by omega) (.bool false) (.slice none 0 0) (.bool false) (.slice none 0 0)⟩
    · go_wp2_with fail
      (with_reducible refine (rParse_good n z hz1 wc hn hg1).mono ?_)
      rintro e v2 ⟨⟨ng1, ao1, n1, cap1, rfl, HV1⟩, hb⟩
      have X2 := X2.mono hb
      have hE := hE.mono hb
      have hbw := Below.step hbw hb (Nat.le_refl _)
      clear hb
      go_upto_region 8 with fail
      have lX7X2 := X2.lt
      have X7 := Box.new v2 (.bool ng1) (.slice ao1 n1 cap1) 24
      have hb := below_alloc v2 (.cells #[.bool ng1, .slice ao1 n1 cap1] 24)
      generalize v2.alloc (.cells #[.bool ng1, .slice ao1 n1 cap1] 24) = v3 at *
      have X2 := X2.mono hb
      have HV1 := Lib.hid (HV1.out.mono hb)
      have hE := hE.mono hb
      have hbw := Below.step hbw hb (Nat.le_refl _)
      clear hb
      go_wp2_with fail
      (with_reducible refine (rParse_good d q hz2 v3 hd hg2).mono ?_)
      rintro e v4 ⟨⟨ng2, ao2, n2, cap2, rfl, HV2⟩, hb⟩
      have X2 := X2.mono hb
      have HV1 := Lib.hid (HV1.out.mono hb)
      have X7 := X7.mono hb
      have hE := hE.mono hb
      have hbw := Below.step hbw hb (Nat.le_refl _)
      clear hb
      go_upto_region 9 with fail
      have lX9X2 := X2.lt
      have lX9X7 := X7.lt
      have X9 := Box.new v4 (.bool ng2) (.slice ao2 n2 cap2) 24
      have hb := below_alloc v4 (.cells #[.bool ng2, .slice ao2 n2 cap2] 24)
      generalize v4.alloc (.cells #[.bool ng2, .slice ao2 n2 cap2] 24) = v5 at *
      have X2 := X2.mono hb
      have HV1 := Lib.hid (HV1.out.mono hb)
      have X7 := X7.mono hb
      have HV2 := Lib.hid (HV2.out.mono hb)
      have hE := hE.mono hb
      have hbw := Below.step hbw hb (Nat.le_refl _)
      clear hb
      obtain ⟨cX7_0, cX7_1, _, _⟩ := id X7
      obtain ⟨cX9_0, cX9_1, _, _⟩ := id X9
      go_upto_region 12 with fail
      clear cX7_0 cX7_1 cX9_0 cX9_1
      have lX8X2 := X2.lt
      have lX8X7 := X7.lt
      have lX8X9 := X9.lt
      have X8 := Box4.new v5 (.bool ng1) (.slice ao1 n1 cap1) (.bool ng2) (.slice ao2 n2 cap2) 29
      have hb := below_alloc v5 (.cells #[.bool ng1, .slice ao1 n1 cap1, .bool ng2, .slice ao2 n2 cap2] 29)
      generalize v5.alloc (.cells #[.bool ng1, .slice ao1 n1 cap1, .bool ng2, .slice ao2 n2 cap2] 29) = v6 at *
      have X2 := X2.mono hb
      have HV1 := Lib.hid (HV1.out.mono hb)
      have X7 := X7.mono hb
      have HV2 := Lib.hid (HV2.out.mono hb)
      have X9 := X9.mono hb
      have hE := hE.mono hb
      have hbw := Below.step hbw hb (Nat.le_refl _)
      clear hb
      rw [← hr1.out] at HV1
      rw [← hr2.out] at HV2
      obtain ⟨tx, htx⟩ : ∃ tx, tx = Rq.textQ r := ⟨_, rfl⟩
      have HTX := Lib.hid htx.symm
      have hne : (tx == s) = false := by rw [beq_eq_false_iff_ne, htx]; exact ht.out
      have hne2 : (tx != s) = true := by simp [bne, hne]
      clear htx
      obtain ⟨cX8_0, cX8_1, cX8_2, cX8_3, _, _, _, _⟩ := id X8
      go_wp2_with fail
      (with_reducible refine (rFormatQ_eq _ r tx v6 HTX (RatV.mk' HV1 HV2) hE).mono ?_)
      rintro e v7 ⟨rfl, hb⟩
      have X2 := X2.mono hb
      have HV1 := Lib.hid (HV1.out.mono hb)
      have X7 := X7.mono hb
      have HV2 := Lib.hid (HV2.out.mono hb)
      have X9 := X9.mono hb
      have X8 := X8.mono hb
      have hE := hE.mono hb
      have hbw := Below.step hbw hb (Nat.le_refl _)
      clear hb
      clear cX8_0 cX8_1 cX8_2 cX8_3
      obtain ⟨cX2_0, cX2_1, cX2_2, cX2_3, _, _, _, _⟩ := id X2
      go_wp2
      refine bodyPost_ret (v := .tuple #[.agg #[.bool false, .slice none 0 0, .bool false, .slice none 0 0], .int .i64 2]) (by simp [results, Tryz.results25, go_sem, cX2_0, cX2_1, cX2_2, cX2_3]) rfl ⟨rfl, Below.put4 hbw (by omega) (.bool false) (.slice none 0 0) (.bool false) (.slice none 0 0)⟩
    · go_wp2_with fail
      (with_reducible refine (rParse_good n z hz1 wc hn hg1).mono ?_)
      rintro e v2 ⟨⟨ng1, ao1, n1, cap1, rfl, HV1⟩, hb⟩
      have X2 := X2.mono hb
      have hE := hE.mono hb
      have hbw := Below.step hbw hb (Nat.le_refl _)
      clear hb
      go_upto_region 8 with fail
      have lX7X2 := X2.lt
      have X7 := Box.new v2 (.bool ng1) (.slice ao1 n1 cap1) 24
      have hb := below_alloc v2 (.cells #[.bool ng1, .slice ao1 n1 cap1] 24)
      generalize v2.alloc (.cells #[.bool ng1, .slice ao1 n1 cap1] 24) = v3 at *
      have X2 := X2.mono hb
      have HV1 := Lib.hid (HV1.out.mono hb)
      have hE := hE.mono hb
      have hbw := Below.step hbw hb (Nat.le_refl _)
      clear hb
      go_wp2_with fail
      (with_reducible refine (rParse_good d q hz2 v3 hd hg2).mono ?_)
      rintro e v4 ⟨⟨ng2, ao2, n2, cap2, rfl, HV2⟩, hb⟩
      have X2 := X2.mono hb
      have HV1 := Lib.hid (HV1.out.mono hb)
      have X7 := X7.mono hb
      have hE := hE.mono hb
      have hbw := Below.step hbw hb (Nat.le_refl _)
      clear hb
      go_upto_region 9 with fail
      have lX9X2 := X2.lt
      have lX9X7 := X7.lt
      have X9 := Box.new v4 (.bool ng2) (.slice ao2 n2 cap2) 24
      have hb := below_alloc v4 (.cells #[.bool ng2, .slice ao2 n2 cap2] 24)
      generalize v4.alloc (.cells #[.bool ng2, .slice ao2 n2 cap2] 24) = v5 at *
      have X2 := X2.mono hb
      have HV1 := Lib.hid (HV1.out.mono hb)
      have X7 := X7.mono hb
      have HV2 := Lib.hid (HV2.out.mono hb)
      have hE := hE.mono hb
      have hbw := Below.step hbw hb (Nat.le_refl _)
      clear hb
      obtain ⟨cX7_0, cX7_1, _, _⟩ := id X7
      obtain ⟨cX9_0, cX9_1, _, _⟩ := id X9
      go_upto_region 12 with fail
      clear cX7_0 cX7_1 cX9_0 cX9_1
      have lX8X2 := X2.lt
      have lX8X7 := X7.lt
      have lX8X9 := X9.lt
      have X8 := Box4.new v5 (.bool ng1) (.slice ao1 n1 cap1) (.bool ng2) (.slice ao2 n2 cap2) 29
      have hb := below_alloc v5 (.cells #[.bool ng1, .slice ao1 n1 cap1, .bool ng2, .slice ao2 n2 cap2] 29)
      generalize v5.alloc (.cells #[.bool ng1, .slice ao1 n1 cap1, .bool ng2, .slice ao2 n2 cap2] 29) = v6 at *
      have X2 := X2.mono hb
      have HV1 := Lib.hid (HV1.out.mono hb)
      have X7 := X7.mono hb
      have HV2 := Lib.hid (HV2.out.mono hb)
      have X9 := X9.mono hb
      have hE := hE.mono hb
      have hbw := Below.step hbw hb (Nat.le_refl _)
      clear hb
      rw [← hr1.out] at HV1
      rw [← hr2.out] at HV2
      obtain ⟨tx, htx⟩ : ∃ tx, tx = Rq.textQ r := ⟨_, rfl⟩
      have HTX := Lib.hid htx.symm
      obtain rfl : tx = s := htx.trans ht.out
      clear htx
      obtain ⟨cX8_0, cX8_1, cX8_2, cX8_3, _, _, _, _⟩ := id X8
      go_wp2_with fail
      (with_reducible refine (rFormatQ_eq _ r tx v6 HTX (RatV.mk' HV1 HV2) hE).mono ?_)
      rintro e v7 ⟨rfl, hb⟩
      have X2 := X2.mono hb
      have HV1 := Lib.hid (HV1.out.mono hb)
      have X7 := X7.mono hb
      have HV2 := Lib.hid (HV2.out.mono hb)
      have X9 := X9.mono hb
      have X8 := X8.mono hb
      have hE := hE.mono hb
      have hbw := Below.step hbw hb (Nat.le_refl _)
      clear hb
      clear cX8_0 cX8_1 cX8_2 cX8_3
      obtain ⟨cX8_0, cX8_1, cX8_2, cX8_3, _, _, _, _⟩ := id X8
      obtain ⟨cX2_0, cX2_1, cX2_2, cX2_3, _, _, _, _⟩ := id X2
      go_wp2
      refine bodyPost_ret (v := .tuple #[.agg #[.bool ng1, .slice ao1 n1 cap1, .bool ng2, .slice ao2 n2 cap2], .int .i64 0]) (by simp [results, Tryz.results25, go_sem, cX2_0, cX2_1, cX2_2, cX2_3]) rfl ⟨⟨ng1, ao1, n1, cap1, ng2, ao2, n2, cap2, rfl, Lib.hid (HV1.out.put4B X2 (.bool ng1) (.slice ao1 n1 cap1) (.bool ng2) (.slice ao2 n2 cap2)), Lib.hid (HV2.out.put4B X2 (.bool ng1) (.slice ao1 n1 cap1) (.bool ng2) (.slice ao2 n2 cap2))⟩, Below.put4 hbw (by omega) (.bool ng1) (.slice ao1 n1 cap1) (.bool ng2) (.slice ao2 n2 cap2)⟩

open Classical in
/-- the fraction whose text s is -/
noncomputable def parseO (s : List UInt8) : Option Rat := if h : ∃ r, Rq.GoodQ s r then some h.choose else none

end Go.Proofs.YtgenhkakcbedaaaGreatDoor
