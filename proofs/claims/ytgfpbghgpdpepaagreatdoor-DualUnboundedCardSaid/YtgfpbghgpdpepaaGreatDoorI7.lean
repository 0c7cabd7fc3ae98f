import Derived.Test.YtgfpbghgpdpepaaGreatDoorI6
set_option maxRecDepth 100000
set_option maxHeartbeats 25600000
namespace Bi
theorem len_mono {a b : Nat} (h : a ≤ b) : (limbs a).length ≤ (limbs b).length := by
 apply Nat.le_of_not_lt
 intro h2;have := val_lt_of_length h2;omega
theorem bis_end {low n R : Nat} (h1 : n * low ≤ R) (h2 : R < n * (low + 1)) : low = R / n ∧ R - n * low = R % n := by
 obtain ⟨r, rfl⟩ : ∃ r, R = n * low + r := ⟨R - n * low, by omega⟩;rw [Nat.mul_add] at h2;have hn : 0 < n := by omega
 have hr : r < n := by omega
 rw [Nat.mul_add_div hn, Nat.div_eq_of_lt hr, Nat.mul_add_mod, Nat.mod_eq_of_lt hr];exact ⟨by omega, by omega⟩
theorem set_same {q : List Nat} {i : Nat} (hi : i < q.length) (h0 : q.getD i 0 = 0) : q.set i 0 = q := by
 apply List.ext_getElem?
 intro j
 by_cases hj : i = j
 ·subst hj;rw [List.getElem?_set_self hi, gE hi];rw [List.getD_eq_getElem?_getD, gE hi] at h0;simp only [Option.getD_some] at h0;rw [h0]
 ·rw [List.getElem?_set_ne hj]
theorem rdiv_zero {u q : List Nat} {i v rest x J : Nat} (hv : 0 < v) (hi : i < u.length) (hql : q.length = u.length) (hx : u.getD i 0 = x) (hJ : J = i + 1) (hinv : val (q.drop J) * v + rest = val (u.drop J)) (h0 : q.getD i 0 = 0) (hlt : rest * 1000000000 + x < v) {I : Nat} (hI : I = i) :
  val (q.drop I) * v + (rest * 1000000000 + x) = val (u.drop I) := by
 subst hJ hI;have := short_step hv hi hql hx hinv
 rwa [Nat.div_eq_of_lt hlt, Nat.mod_eq_of_lt hlt, set_same (by omega) h0] at this
theorem rdiv_step {u q : List Nat} {i v rest x J low : Nat} (hi : i < u.length) (hql : q.length = u.length) (hx : u.getD i 0 = x) (hJ : J = i + 1) (hinv : val (q.drop J) * v + rest = val (u.drop J)) (h1 : v * low ≤ rest * 1000000000 + x) (h2 : rest * 1000000000 + x < v * (low + 1)) {I : Nat} (hI : I = i) :
  val ((q.set i low).drop I) * v + (rest * 1000000000 + x - v * low) = val (u.drop I) ∧ rest * 1000000000 + x - v * low < v := by
 subst hJ hI;have hv : 0 < v := by
  rcases Nat.eq_zero_or_pos v with h | h
  ·subst h; omega
  ·exact h
 have := short_step hv hi hql hx hinv;obtain ⟨e1, e2⟩ := bis_end h1 h2;rw [e2, e1];rw [e1] at e2;exact ⟨this, Nat.mod_lt _ hv⟩
theorem val_cons9 (x : Nat) (l : List Nat) : val (x :: l) = val l * 1000000000 + x := by simp [val]; omega
end Bi
namespace Go.Proofs.YtgfpbghgpdpepaaGreatDoor
open Go.RowKit
theorem OwnU.lit1 (w : World) (Y : Int) (y : Nat) (hY : Y = (y : Int)) : OwnU (w.alloc (.cells #[.int .u32 Y] 133)) w.heap.size (.slice (some ⟨w.heap.size, 0, none⟩) 1 1) [y] := by
 subst hY;exact World.ownsRow_lit (base := w.heap.size) (e := 133) (size := 1) w #[.int .u32 (y : Int)] 1 nl (by simp [maxLen]) (by simp)
theorem rtimes0_any (a : List Nat) (n : Nat) (aoa : Option Addr) (ca : Nat) (w : World) (hma : a.length ≤ 1000000000) (hn : n < 1000000000) (hoa : Bi.Ok a) (ha : U w aoa a) :
  Calls Tryz.prog 197 #[.slice aoa a.length ca, .int .u64 n, .int .i64 0] w fun e w' => ∃ ao L cap, L = Bi.limbs (Bi.val a * n) ∧ e = .returned (.slice ao L.length cap) ∧ L.length ≤ cap ∧
   L.length ≤ a.length + 1 ∧ U w' ao L ∧ Below w.heap.size w w' :=
 (rtimes_any a n 0 aoa ca w hma (by omega) hn hoa ha).mono (by
  rintro e w' ⟨ao, L, cap, hL, h1, h2, h3, h4⟩;exact ⟨ao, L, cap, by rw [hL, Nat.pow_zero, Nat.one_mul], h1, h2, h3, h4⟩)
theorem rdiv_any (m n : Nat) (u v : List Nat) (Hu : Hid (u = Bi.limbs m)) (Hv : Hid (v = Bi.limbs n)) (au av : Option Addr) (cu cv : Nat) (w : World) (hmu : u.length ≤ 100000000) (hmv : v.length ≤ 100000000) (hn : 0 < n)
    (hu : U w au u) (hv : U w av v) :
    Calls Tryz.prog 159 #[.slice au u.length cu, .slice av v.length cv] w fun e w' => DivP w' m n e ∧ Below w.heap.size w w' := by
  have Hou : Hid (Bi.Ok u) := hii (by rw [Hu.out]; exact Bi.limbs_ok _)
  have Hov : Hid (Bi.Ok v) := hii (by rw [Hv.out]; exact Bi.limbs_ok _)
  have HVV : Hid (Bi.val v = n) := hii (by rw [Hv.out, Bi.val_limbs])
  have HN := hii hn
  clear hn
  go_enter Tryz.func159, Tryz.ntmps159
  go_wp2_with (at_make; refine make_u32_full _ rfl _ _ rfl w w.heap.size _ _ u.length rfl rfl rfl rfl (by omega) nl br ?_; intro w0 hown0 hb0)
  go_loopg [7, 8] (u.length) (fun gk s7 s8 wr => ∃ (j : Int) (R : Nat) (rs qs : List Nat) (ar : Option Addr) (cr : Nat), -1 ≤ j ∧ j < (gk : Int) ∧ j < u.length ∧ s8 = .int .i64 j ∧ s7 = .slice ar rs.length cr ∧ rs.length ≤ cr ∧ Hid (rs = Bi.limbs R) ∧ Hid (R < n) ∧
      Hid (Bi.val (qs.drop (j + 1).toNat) * n + R = Bi.val (u.drop (j + 1).toNat)) ∧ Hid (∀ t : Nat, (t : Int) ≤ j → qs.getD t 0 = 0) ∧ Bi.Ok qs ∧ OwnU wr w.heap.size (.slice (some ⟨w.heap.size, 0, none⟩) u.length u.length) qs ∧ U wr ar rs ∧ Below w.heap.size w wr)
  case atStart =>
    refine ⟨_, 0, [], _, none, 0, by omega, by omega, by omega, rfl, rfl, nl, hii rfl, hii HN.out, hii ?_, hii ?_, Bi.Ok.replicate _, hown0, U.nil _ _, hb0⟩
    · rw [List.drop_eq_nil_of_le (by simp), List.drop_eq_nil_of_le (by omega)]; simp [Bi.val]
    · intro t _
      rw [List.getD_eq_getElem?_getD, List.getElem?_replicate]
      split <;> rfl
  case round =>
    obtain ⟨j, R, rs, qs, ar, cr, hj1, hjg, hj2, rfl, rfl, hcr, HRS, HR, HI, HZ, hoq, hown, hUR, hbr⟩ := hrel
    have HQ := hii hown.len.1.symm
    clear hown0
    by_cases hj : j < 0
    · obtain rfl : j = -1 := by omega
      clear hu hv
      obtain ⟨aq, cq, eq, hcq, hUq⟩ := hown.read
      simp only [Value.slice.injEq] at eq
      obtain ⟨rfl, eq2, rfl⟩ := eq
      clear eq2
      go_wp2_with fail
      have ht := rtrim_any qs _ u.length wr (by rw [HQ.out]; omega) hcq hUq
      rw [HQ.out] at ht
      (with_reducible refine ht.mono ?_)
      clear ht
      rintro e w7 ⟨Q, hQ, hQl, rfl, hU7, rfl⟩
      have HQQ : Hid (Q = Bi.limbs (Bi.val qs)) := hii (by rw [hQ, Bi.trim_eq_limbs hoq])
      clear hQ
      have h1 := HI.out
      simp only [Int.reduceNeg, Int.reduceAdd, Int.toNat_zero, List.drop_zero] at h1
      have h2 := Bi.short_end HR.out h1
      have hmv : Bi.val u = m := by rw [Hu.out, Bi.val_limbs]
      rw [hmv] at h2
      have HE := hii h2
      clear h1 h2 hmv hown hcq
      go_wp2
      go_ret2
      exact ⟨⟨_, _, Q, rs, _, _, hii (by rw [HQQ.out, HE.out.1]), hii (by rw [HRS.out, HE.out.2]), hQl, hcr, rfl, hii hU7, hii hUR⟩, hbr⟩
    · obtain ⟨i, rfl⟩ : ∃ i : Nat, j = (i : Int) := ⟨j.toNat, by omega⟩
      obtain ⟨x, hx⟩ := get_some (l := u) (k := i) (by omega)
      have bx := Hou.out.at' hx
      obtain ⟨b1, o1, rfl, hcx⟩ := (hu.mono hbr).at' hx
      have HX := hii (Bi.getD_of hx)
      have hrl : rs.length ≤ v.length := by rw [HRS.out, Hv.out]; exact Bi.len_mono (Nat.le_of_lt HR.out)
      have hvr := hv.mono hbr
      have hown1 := OwnU.lit1 wr (x : Int) x rfl
      have hURr := hUR.mono (bA wr (.cells #[.int .u32 (x : Int)] 133))
      clear hx
      go_wp2_with (at_builtin; refine app_all_u32 _ rfl _ _ rfl wr wr.heap.size _ [x] rfl hown1 (by simp) (bA wr _) ar cr rs rfl hURr (by simp; omega) ?_; intro v' w1 hown2 hb1)
      obtain ⟨a2, c2, rfl, hc2, hU2⟩ := hown2.read
      have HAB := hii hown2.above
      have hszw := hown.len.2.2.2
      have hown3 := hown.kept hb1 nl
      have hvr1 := hvr.mono hb1
      have hbr1 := bu hbr hb1
      have hol : Bi.Ok (x :: rs) := Bi.Ok.cons bx (by rw [HRS.out]; exact Bi.limbs_ok _)
      clear hown2 hown hvr hURr hUR hown1 hcx
      simp only [List.singleton_append] at hc2 hU2 ⊢
      (with_reducible refine (rtrim_any (x :: rs) a2 c2 w1 ?_ hc2 hU2).mono ?_)
      · simp; omega
      rintro e w2 ⟨L, hL, hLl, rfl, hUL, rfl⟩
      obtain ⟨R1, hR1⟩ : ∃ R1, R1 = R * 1000000000 + x := ⟨_, rfl⟩
      have HL : Hid (L = Bi.limbs R1) := hii (by
        rw [hL, Bi.trim_eq_limbs hol, Bi.val_cons9, hR1]
        have : Bi.val rs = R := by rw [HRS.out, Bi.val_limbs]
        rw [this])
      have HR1 := hii hR1
      have hLl' : L.length ≤ 100000001 := by simp at hLl; omega
      have hLc : L.length ≤ c2 := Nat.le_trans hLl hc2
      clear hL hR1 hLl hol hU2
      go_wp2_with fail
      (with_reducible refine (rcmp_any R1 n L v HL Hv a2 _ c2 cv w1 ?_ ?_ hUL hvr1).mono ?_)
      · omega
      · omega
      rintro e w2 ⟨rfl, hb2⟩
      have hown4 := hown3.kept hb2 nl
      have hvr2 := hvr1.mono hb2
      have hUL2 := hUL.mono hb2
      have hbr2 := bu hbr1 hb2
      clear hown3 hvr1 hUL
      by_cases hlt : R1 < n
      · have hcmp : cmpN R1 n < 0 := by unfold cmpN; rw [if_pos hlt]; decide
        have HLT := hii hlt
        have HE := hii (Bi.rdiv_zero (J := ((i : Int) + 1).toNat) HN.out (by omega) HQ.out HX.out (by omega) HI.out (HZ.out i (by omega)) (by rw [← HR1.out]; exact hlt) (I := ((i : Int) - 1 + 1).toNat) (by omega))
        rw [← HR1.out] at HE
        clear hlt hu hv hvr2
        go_wp2
        go_roundg i
        case measure => omega
        case rel => exact ⟨(i : Int) - 1, R1, L, qs, a2, c2, by omega, by omega, by omega, rfl, rfl, hLc, HL, HLT, HE, hii (fun t ht => HZ.out t (by omega)), hoq, hown4, hUL2, hbr2⟩
      · have hcmp : ¬ cmpN R1 n < 0 := by unfold cmpN; rw [if_neg hlt]; split <;> omega
        have HLE : Hid (n * 1 ≤ R1) := hii (by omega)
        have HTT : Hid (R1 < n * 1000000000) := hii (by
          have h1 := HR.out
          have h2 := HR1.out
          have : (R + 1) * 1000000000 ≤ n * 1000000000 := Nat.mul_le_mul_right _ h1
          omega)
        clear hlt hu
        go_wp2_with fail
        obtain ⟨wo, rfl⟩ := exi w2
        go_loopw [9, 10] (fun s9 s10 wi => ∃ lo hi : Nat, s9 = .int .u64 lo ∧ s10 = .int .u64 hi ∧ 1 ≤ lo ∧ lo < hi ∧ hi ≤ 1000000000 ∧ Hid (n * lo ≤ R1) ∧ Hid (R1 < n * hi) ∧ Below wo.heap.size wo wi) (fun s9 s10 _ => (intOf s10 - intOf s9).toNat)
        case atStart => exact ⟨1, 1000000000, rfl, rfl, by omega, by omega, by omega, HLE, HTT, br⟩
        case round =>
          obtain ⟨lo, hi, rfl, rfl, h1, h2, h3, HLO, HHI, hbi⟩ := hrel
          by_cases hgo : (1 : Int) < (hi : Int) - lo
          · obtain ⟨md, hmd⟩ : ∃ md, md = (lo + hi) / 2 := ⟨_, rfl⟩
            have hmd1 : lo < md := by omega
            have hmd2 : md < hi := by omega
            have hmd' : ((lo : Int) + hi) / 2 = (md : Int) := by omega
            have hvi := hvr2.mono hbi
            have hLi := hUL2.mono hbi
            clear hmd hvr2 hUL2
            go_wp2_with fail
            (with_reducible refine (rtimes0_any v md _ _ _ ?_ ?_ Hov.out hvi).mono ?_)
            · omega
            · omega
            rintro e w3 ⟨a3, L3, c3, hL3, rfl, hc3, hl3, hU3, hb3⟩
            have HL3 : Hid (L3 = Bi.limbs (n * md)) := hii (by rw [hL3, HVV.out])
            have hL4 := hLi.mono hb3
            clear hL3 hvi hLi
            go_wp2_with fail
            (with_reducible refine (rcmp_any (n * md) R1 L3 L HL3 HL _ _ _ _ w3 ?_ ?_ hU3 hL4).mono ?_)
            · omega
            · omega
            rintro e w4 ⟨rfl, hb4⟩
            have hbf := Below.step (bu hbi hb3) hb4 nl
            clear hU3 hL4
            by_cases hc : n * md ≤ R1
            · have hcmp2 : cmpN (n * md) R1 ≤ 0 := by unfold cmpN; split; · omega
                                                      · rw [if_neg (by omega)]; omega
              have HC := hii hc
              clear hc
              go_wp2
              go_roundw
              case rel => exact ⟨md, hi, rfl, rfl, by omega, by omega, by omega, HC, HHI, hbf⟩
              case measure => (simp [intOf]; try omega)
            · have hcmp2 : ¬ cmpN (n * md) R1 ≤ 0 := by unfold cmpN; rw [if_neg (by omega), if_pos (by omega)]; omega
              have HC : Hid (R1 < n * md) := hii (by omega)
              clear hc
              go_wp2
              go_roundw
              case rel => exact ⟨lo, md, rfl, rfl, by omega, by omega, by omega, HLO, HC, hbf⟩
              case measure => (simp [intOf]; try omega)
          · obtain rfl : hi = lo + 1 := by omega
            have hown5 := hown4.kept hbi nl
            have hLi := hUL2.mono hbi
            have hbri := bu hbr2 hbi
            obtain ⟨z, hz⟩ := get_some (l := qs) (k := i) (by rw [HQ.out]; omega)
            have hcz := hown5.at' hz
            have hfz := hown5.free i
            have hlo : lo < 1000000000 := by omega
            have HE := hii (Bi.rdiv_step (J := ((i : Int) + 1).toNat) (low := lo) (by omega) HQ.out HX.out (by omega) HI.out (by rw [← HR1.out]; exact HLO.out) (by rw [← HR1.out]; exact HHI.out) (I := ((i : Int) - 1 + 1).toNat) (by omega))
            rw [← HR1.out] at HE
            have hown6 := hown5.set i (lo : Int) lo rfl
            have htq : Touch w.heap.size wr (wr.setCell ⟨w.heap.size, i, none⟩ (.int .u32 (lo : Int))) := (Touch.refl w.heap.size _).setCell (p := ⟨w.heap.size, i, none⟩) rfl _
            have hLt := hLi.touch htq (fun b off e => by have := HAB.out b off e; omega)
            have hbr6 := hbri.setCell (p := ⟨w.heap.size, i, none⟩) nl (.int .u32 (lo : Int))
            have hv6 := hv.mono hbr6
            clear hz hvr2 hUL2 hown4 hown5 hLi htq
            go_upto_region 15 with fail
            generalize wr.setCell ⟨w.heap.size, i, none⟩ (.int .u32 (lo : Int)) = w5 at *
            clear hcz hfz
            go_wp2_with fail
            (with_reducible refine (rtimes0_any v lo _ _ _ ?_ hlo Hov.out hv6).mono ?_)
            · omega
            rintro e w6 ⟨a3, L3, c3, hL3, rfl, hc3, hl3, hU3, hb3⟩
            have HL3 : Hid (L3 = Bi.limbs (n * lo)) := hii (by rw [hL3, HVV.out])
            have hL4 := hLt.mono hb3
            have hown7 := hown6.kept hb3 nl
            have hbr7 := bu hbr6 hb3
            have hvL : Hid (Bi.val L = R1) := hii (by rw [HL.out, Bi.val_limbs])
            have hvL3 : Hid (Bi.val L3 = n * lo) := hii (by rw [HL3.out, Bi.val_limbs])
            have hl34 : L3.length ≤ L.length := by rw [HL3.out, HL.out]; exact Bi.len_mono HLO.out
            clear hL3 hLt hv6
            go_wp2_with fail
            (with_reducible refine (rsub_any L L3 _ _ _ _ w6 ?_ hl34 (hii ?_) ?_ ?_ hL4 hU3).mono ?_)
            · omega
            · rw [hvL.out, hvL3.out]; exact HLO.out
            · rw [HL.out]; exact Bi.limbs_ok _
            · rw [HL3.out]; exact Bi.limbs_ok _
            rintro e w7 ⟨a8, L8, c8, hL8, rfl, hc8, hl8, hU8, hb8⟩
            have HL8 : Hid (L8 = Bi.limbs (R1 - n * lo)) := hii (by rw [hL8, hvL.out, hvL3.out])
            have hown8 := hown7.kept hb8 nl
            have hbr8 := bu hbr7 hb8
            clear hL8 hown7 hL4 hU3
            go_wp2
            go_roundg i
            case measure => omega
            case rel => exact ⟨(i : Int) - 1, R1 - n * lo, L8, qs.set i lo, a8, c8, by omega, by omega, by omega, rfl, rfl, hc8, HL8, hii HE.out.2, hii HE.out.1, hii (fun t ht => by
              rw [List.getD_eq_getElem?_getD, List.getElem?_set_ne (by omega), ← List.getD_eq_getElem?_getD]; exact HZ.out t (by omega)), hoq.set _ hlo, hown8, hU8, hbr8⟩
end Go.Proofs.YtgfpbghgpdpepaaGreatDoor
namespace Go.Proofs.YtgfpbghgpdpepaaGreatDoor
open Go.RowKit
theorem cmpN_bd (m n : Nat) : -1 ≤ cmpN m n ∧ cmpN m n ≤ 1 := by unfold cmpN; split <;> (try split) <;> omega
theorem cmpZ_bd (x y : Int) : -1 ≤ cmpZ x y ∧ cmpZ x y ≤ 1 := by unfold cmpZ; split <;> (try split) <;> omega
theorem cmpZ_sgn {x y : Int} (h : sgnI x ≠ sgnI y) : cmpZ x y = if sgnI x < sgnI y then -1 else 1 := by
 unfold sgnI cmpZ at *
 by_cases h1 : x = 0 <;> by_cases h2 : y = 0 <;> by_cases h3 : x < 0 <;> by_cases h4 : y < 0 <;> by_cases h5 : x < y <;> by_cases h6 : y < x <;> simp [h1, h2, h3, h4, h5, h6] at h ⊢ <;> omega
theorem cmpZ_same {x y : Int} (h : sgnI x = sgnI y) : cmpZ x y = if x < 0 then - cmpN x.natAbs y.natAbs else cmpN x.natAbs y.natAbs := by
 have h0 : (x = 0 ↔ y = 0) ∧ (x < 0 ↔ y < 0) := by
  unfold sgnI at h
  by_cases h1 : x = 0 <;> by_cases h2 : y = 0 <;> by_cases h3 : x < 0 <;> by_cases h4 : y < 0 <;> simp [h1, h2, h3, h4] at h ⊢
 unfold cmpZ cmpN
 by_cases h3 : x < 0
 ·rw [if_pos h3]
  by_cases h5 : x < y
  ·rw [if_pos h5, if_neg (by omega), if_pos (by omega)]
  ·rw [if_neg h5]
   by_cases h6 : y < x
   ·rw [if_pos h6, if_pos (by omega)]; rfl
   ·rw [if_neg h6, if_neg (by omega), if_neg (by omega)]; rfl
 ·rw [if_neg h3]
  by_cases h5 : x < y
  ·rw [if_pos h5, if_pos (by omega)]
  ·rw [if_neg h5]
   by_cases h6 : y < x
   ·rw [if_pos h6, if_neg (by omega), if_pos (by omega)]
   ·rw [if_neg h6, if_neg (by omega), if_neg (by omega)]
theorem cmpZ_mul {x y : Int} (h : sgnI x = sgnI y) : sgnI x * cmpN x.natAbs y.natAbs = cmpZ x y := by
 rw [cmpZ_same h]
 by_cases h1 : x = 0
 ·have h2 : y = 0 := by
   subst h1; unfold sgnI at h
   by_cases h2 : y = 0
   ·exact h2
   ·by_cases h4 : y < 0 <;> simp [h2, h4] at h
  subst h1 h2; decide
 ·unfold sgnI
  by_cases h3 : x < 0 <;> simp [h1, h3]
theorem Cmp_any (a b : Value) (x y : Int) (w : World) (ha : IntV w a x) (hb : IntV w b y) (hE : Env w) :
  Calls Tryz.prog 148 #[a, b] w fun e w' => e = .returned (.int .i64 (cmpZ x y)) ∧ Below w.heap.size w w' := by
 obtain ⟨n1, ao1, L1, c1, rfl, Hn1, HL1, HB1, hc1, hl1, hU1⟩ := ha;obtain ⟨n2, ao2, L2, c2, rfl, Hn2, HL2, HB2, hc2, hl2, hU2⟩ := hb;go_enter Tryz.func148, Tryz.ntmps148;go_wp2_with fail;obtain ⟨wx, hwx, hsz, B1, B2, hbx⟩ := boxes2 w (.bool n1) (.slice ao1 L1.length c1) (.bool n2) (.slice ao2 L2.length c2) 32;rw [← hwx];clear hwx;(with_reducible refine (check2 wx _ hsz n1 n2 ao1 ao2 L1 L2 c1 c2 (hU1.mono hbx) (hU2.mono hbx) ?_ ?_ (hE.mono hbx)).mono ?_)
 ·omega
 ·omega
 rintro e w1 ⟨⟨r, HR, HR2, rfl⟩, hb1'⟩;obtain rfl : r = 0 := HR.out.2 ⟨validP_of x n1 L1 Hn1.out HL1.out HB1.out, validP_of y n2 L2 Hn2.out HL2.out HB2.out⟩;clear HR HR2;have B1 := B1.mono hb1';have B2 := B2.mono hb1';have hbw := Below.step hbx hb1' nl;have hbd := hbw.drew;have D1 := B1.mono ((Below.refl w1.heap.size w1).drew);have D2 := B2.mono ((Below.refl w1.heap.size w1).drew);have hX1 := hU1.mono hbd;have hX2 := hU2.mono hbd;have hV1 : IntV w1.drew (.agg #[.bool n1, .slice ao1 L1.length c1]) x := ⟨n1, ao1, L1, c1, rfl, Hn1, HL1, HB1, hc1, hl1, hX1⟩;have hV2 : IntV w1.drew (.agg #[.bool n2, .slice ao2 L2.length c2]) y := ⟨n2, ao2, L2, c2, rfl, Hn2, HL2, HB2, hc2, hl2, hX2⟩;clear hU1 hU2 hE hsz;obtain ⟨a0, a1, _, _⟩ := B1;obtain ⟨b0, b1, _, _⟩ := B2;go_wp2_with fail;go_region_held3 (fun w' => w'.cell? ⟨w.heap.size, 0, none⟩ = some (.bool n1) ∧ w'.cell? ⟨w.heap.size, 1, none⟩ = some (.slice ao1 L1.length c1) ∧ w'.cell? ⟨w.heap.size + 1, 0, none⟩ = some (.bool n2) ∧ w'.cell? ⟨w.heap.size + 1, 1, none⟩ = some (.slice ao2 L2.length c2))
  (first | (with_reducible exact ⟨a0, a1, b0, b1⟩) | (with_reducible exact ⟨D1.c0, D1.c1, D2.c0, D2.c1⟩) | (with_reducible exact ⟨E1.c0, E1.c1, E2.c0, E2.c1⟩) | (with_reducible exact ⟨F1.c0, F1.c1, F2.c0, F2.c1⟩) | (simp [F1.c0, F1.c1, F2.c0, F2.c1, go_sem]; done))
  (first
   | (go_at_call 161; (with_reducible refine (sign_any _ x _ hV1).mono ?_); rintro e w2 ⟨rfl, hb2⟩; have E1 := D1.mono hb2; have E2 := D2.mono hb2; have hW2 := hV2.mono hb2)
   | (go_at_call 161; (with_reducible refine (sign_any _ y _ hW2).mono ?_); rintro e w3 ⟨rfl, hb3⟩; have F1 := E1.mono hb3; have F2 := E2.mono hb3))
 have hbw3 := Below.step (bu hbd hb2) hb3 nl;have hY1 := (hX1.mono hb2).mono hb3;have hY2 := (hX2.mono hb2).mono hb3;clear hX1 hX2 hV1 hV2 hW2 a0 a1 b0 b1 D1 D2 E1 E2;obtain ⟨a0, a1, _, _⟩ := F1;obtain ⟨b0, b1, _, _⟩ := F2
 by_cases hs : sgnI x = sgnI y
 ·have hsb : (sgnI x != sgnI y) = false := by rw [bne_eq_false_iff_eq]; exact hs
  have HC := hii (cmpZ_same hs);clear hs;go_wp2_with fail;(with_reducible refine (compare_any x.natAbs y.natAbs L1 L2 HL1 HL2 ao1 ao2 c1 c2 w3 ?_ ?_ hY1 hY2).mono ?_)
  ·omega
  ·omega
  rintro e w4 ⟨rfl, hb4⟩;have hcb := cmpN_bd x.natAbs y.natAbs;have a0 : w4.cell? ⟨w.heap.size, 0, none⟩ = some (.bool n1) := (hb4.cell (p := ⟨w.heap.size, 0, none⟩) (cell_lt a0)).trans a0;have hbw4 := bu hbw3 hb4;obtain ⟨hcb1, hcb2⟩ := hcb;clear hY1 hY2 a1 b0 b1
  cases n1
  ·have hx : ¬ x < 0 := by have := Hn1.out; simpa using this
   have HR : Hid (cmpZ x y = cmpN x.natAbs y.natAbs) := hii (by rw [HC.out, if_neg hx]);clear hx;go_wp2;go_ret;exact ⟨ret_int HR.out.symm, hbw4⟩
  ·have hx : x < 0 := by have := Hn1.out; simpa using this
   have HR : Hid (cmpZ x y = - cmpN x.natAbs y.natAbs) := hii (by rw [HC.out, if_pos hx]);clear hx;go_wp2;go_ret;exact ⟨ret_int HR.out.symm, hbw4⟩
 ·have hsb : (sgnI x != sgnI y) = true := by rw [bne_iff_ne]; exact hs
  have HC := hii (cmpZ_sgn hs);clear hs
  by_cases hlt : sgnI x < sgnI y
  ·have HR : Hid (cmpZ x y = -1) := hii (by rw [HC.out, if_pos hlt]);go_wp2;go_ret;exact ⟨ret_int HR.out.symm, hbw3⟩
  ·have HR : Hid (cmpZ x y = 1) := hii (by rw [HC.out, if_neg hlt]);go_wp2;go_ret;exact ⟨ret_int HR.out.symm, hbw3⟩
end Go.Proofs.YtgfpbghgpdpepaaGreatDoor
namespace Go.Proofs.YtgfpbghgpdpepaaGreatDoor
open Go.RowKit
theorem rCmp_any (a b : Value) (x y : Int) (w : World) (ha : IntV w a x) (hb : IntV w b y) :
  Calls Tryz.prog 160 #[a, b] w fun e w' => e = .returned (.int .i64 (cmpZ x y)) ∧ Below w.heap.size w w' := by
 obtain ⟨n1, ao1, L1, c1, rfl, Hn1, HL1, HB1, hc1, hl1, hU1⟩ := ha;obtain ⟨n2, ao2, L2, c2, rfl, Hn2, HL2, HB2, hc2, hl2, hU2⟩ := hb;go_enter Tryz.func160, Tryz.ntmps160;go_wp2_with fail;obtain ⟨wx, hwx, hsz, B1, B2, hbx⟩ := boxes2 w (.bool n1) (.slice ao1 L1.length c1) (.bool n2) (.slice ao2 L2.length c2) 32;rw [← hwx];clear hwx;have hbd := hbx.drew;have D1 := B1.mono ((Below.refl wx.heap.size wx).drew);have D2 := B2.mono ((Below.refl wx.heap.size wx).drew);have hX1 := hU1.mono hbd;have hX2 := hU2.mono hbd;have hV1 : IntV wx.drew (.agg #[.bool n1, .slice ao1 L1.length c1]) x := ⟨n1, ao1, L1, c1, rfl, Hn1, HL1, HB1, hc1, hl1, hX1⟩;have hV2 : IntV wx.drew (.agg #[.bool n2, .slice ao2 L2.length c2]) y := ⟨n2, ao2, L2, c2, rfl, Hn2, HL2, HB2, hc2, hl2, hX2⟩;clear hU1 hU2 hsz;obtain ⟨a0, a1, _, _⟩ := B1;obtain ⟨b0, b1, _, _⟩ := B2;go_region_held3 (fun w' => w'.cell? ⟨w.heap.size, 0, none⟩ = some (.bool n1) ∧ w'.cell? ⟨w.heap.size, 1, none⟩ = some (.slice ao1 L1.length c1) ∧ w'.cell? ⟨w.heap.size + 1, 0, none⟩ = some (.bool n2) ∧ w'.cell? ⟨w.heap.size + 1, 1, none⟩ = some (.slice ao2 L2.length c2))
  (first | (with_reducible exact ⟨a0, a1, b0, b1⟩) | (with_reducible exact ⟨D1.c0, D1.c1, D2.c0, D2.c1⟩) | (with_reducible exact ⟨E1.c0, E1.c1, E2.c0, E2.c1⟩) | (with_reducible exact ⟨F1.c0, F1.c1, F2.c0, F2.c1⟩) | (simp [F1.c0, F1.c1, F2.c0, F2.c1, go_sem]; done))
  (first
   | (go_at_call 78; (with_reducible refine (rSign_any _ x _ hV1).mono ?_); rintro e w2 ⟨rfl, hb2⟩; have E1 := D1.mono hb2; have E2 := D2.mono hb2; have hW2 := hV2.mono hb2)
   | (go_at_call 78; (with_reducible refine (rSign_any _ y _ hW2).mono ?_); rintro e w3 ⟨rfl, hb3⟩; have F1 := E1.mono hb3; have F2 := E2.mono hb3))
 have hbw3 := Below.step (bu hbd hb2) hb3 nl;have hV1 := (hV1.mono hb2).mono hb3;have hV2 := hW2.mono hb3;have hY1 := (hX1.mono hb2).mono hb3;have hY2 := (hX2.mono hb2).mono hb3;clear hX1 hX2 a0 a1 b0 b1 D1 D2 E1 E2 hW2 hb2 hb3 hbd hbx;have hbd3 := hbw3.drew;have D1 := F1.mono ((Below.refl w3.heap.size w3).drew);have D2 := F2.mono ((Below.refl w3.heap.size w3).drew);have hV1 := hV1.mono ((Below.refl w3.heap.size w3).drew);have hV2 := hV2.mono ((Below.refl w3.heap.size w3).drew);have hY1 := hY1.mono ((Below.refl w3.heap.size w3).drew);have hY2 := hY2.mono ((Below.refl w3.heap.size w3).drew);obtain ⟨a0, a1, _, _⟩ := F1;obtain ⟨b0, b1, _, _⟩ := F2
 by_cases hs : sgnI x = sgnI y
 ·have hsb : (sgnI x != sgnI y) = false := by rw [bne_eq_false_iff_eq]; exact hs
  have hwr : IntKind.i64.wrap (sgnI x * cmpN x.natAbs y.natAbs) = cmpZ x y := by
   rw [cmpZ_mul hs]; have := cmpZ_bd x y; exact IntWalk.i64_in _ (by omega)
  clear hs;go_wp2_with fail;go_region_held3 (fun w' => w'.cell? ⟨w.heap.size, 0, none⟩ = some (.bool n1) ∧ w'.cell? ⟨w.heap.size, 1, none⟩ = some (.slice ao1 L1.length c1) ∧ w'.cell? ⟨w.heap.size + 1, 0, none⟩ = some (.bool n2) ∧ w'.cell? ⟨w.heap.size + 1, 1, none⟩ = some (.slice ao2 L2.length c2))
   (first | (with_reducible exact ⟨a0, a1, b0, b1⟩) | (with_reducible exact ⟨D1.c0, D1.c1, D2.c0, D2.c1⟩) | (with_reducible exact ⟨E1.c0, E1.c1, E2.c0, E2.c1⟩) | (with_reducible exact ⟨F1.c0, F1.c1, F2.c0, F2.c1⟩) | (simp [F1.c0, F1.c1, F2.c0, F2.c1, go_sem]; done))
   (first
    | (go_at_call 78; (with_reducible refine (rSign_any _ x _ hV1).mono ?_); rintro e w2 ⟨rfl, hb2⟩; have E1 := D1.mono hb2; have E2 := D2.mono hb2; have hZ1 := hY1.mono hb2; have hZ2 := hY2.mono hb2)
    | (go_at_call 190; ((with_reducible refine (rcmp_any x.natAbs y.natAbs L1 L2 HL1 HL2 _ _ _ _ _ ?_ ?_ hZ1 hZ2).mono ?_); (omega); (omega)); rintro e w4 ⟨rfl, hb4⟩; have F1 := E1.mono hb4; have F2 := E2.mono hb4))
  go_wp2;go_ret;exact ⟨rfl, Below.step (bu hbd3 hb2) hb4 nl⟩
 ·have hsb : (sgnI x != sgnI y) = true := by rw [bne_iff_ne]; exact hs
  have HC := hii (cmpZ_sgn hs);clear hs hY1 hY2;go_wp2_with fail;go_region_held3 (fun w' => w'.cell? ⟨w.heap.size, 0, none⟩ = some (.bool n1) ∧ w'.cell? ⟨w.heap.size, 1, none⟩ = some (.slice ao1 L1.length c1) ∧ w'.cell? ⟨w.heap.size + 1, 0, none⟩ = some (.bool n2) ∧ w'.cell? ⟨w.heap.size + 1, 1, none⟩ = some (.slice ao2 L2.length c2))
   (first | (with_reducible exact ⟨a0, a1, b0, b1⟩) | (with_reducible exact ⟨D1.c0, D1.c1, D2.c0, D2.c1⟩) | (with_reducible exact ⟨E1.c0, E1.c1, E2.c0, E2.c1⟩) | (with_reducible exact ⟨F1.c0, F1.c1, F2.c0, F2.c1⟩) | (simp [F1.c0, F1.c1, F2.c0, F2.c1, go_sem]; done))
   (first
    | (go_at_call 78; (with_reducible refine (rSign_any _ x _ hV1).mono ?_); rintro e w2 ⟨rfl, hb2⟩; have E1 := D1.mono hb2; have E2 := D2.mono hb2; have hW2 := hV2.mono hb2)
    | (go_at_call 78; (with_reducible refine (rSign_any _ y _ hW2).mono ?_); rintro e w4 ⟨rfl, hb4⟩; have F1 := E1.mono hb4; have F2 := E2.mono hb4))
  have hbf := Below.step (bu hbd3 hb2) hb4 nl
  by_cases hlt : sgnI x < sgnI y
  ·have HR : Hid (cmpZ x y = -1) := hii (by rw [HC.out, if_pos hlt]);go_wp2;go_ret;exact ⟨ret_int HR.out.symm, hbf⟩
  ·have HR : Hid (cmpZ x y = 1) := hii (by rw [HC.out, if_neg hlt]);go_wp2;go_ret;exact ⟨ret_int HR.out.symm, hbf⟩
end Go.Proofs.YtgfpbghgpdpepaaGreatDoor
