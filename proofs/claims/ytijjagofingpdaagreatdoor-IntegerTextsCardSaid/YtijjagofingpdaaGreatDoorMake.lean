import Derived.Test.YtijjagofingpdaaGreatDoorDigits
namespace Go.Proofs.YtijjagofingpdaaGreatDoor
open Go.RowKit

theorem OwnU.lit0 (w : World) (B : Nat) (hB : B ≤ w.heap.size) : OwnU (w.alloc (.cells #[] 45)) B (.slice (some ⟨w.heap.size, 0, none⟩) 0 0) [] :=
  World.ownsRow_lit (base := B) (e := 45) (size := 1) w #[] 0 hB (by simp [maxLen]) (by simp)

theorem U.setCell {w : World} {ao : Option Addr} {l : List Nat} (hU : U w ao l) {p : Addr} {v : Value} (hne : ∀ b off, ao = some ⟨b, off, none⟩ → b ≠ p.block) : U (w.setCell p v) ao l := by
  intro i h
  obtain ⟨b, off, e, hc⟩ := hU i h
  refine ⟨b, off, e, ?_⟩
  rw [World.cell?_of_block (w := w) (w' := w.setCell p v) (Below.heap_setCell w p v b (hne b off e))]
  exact hc

theorem OwnU.above {w : World} {B n cap : Nat} {ao : Option Addr} {l : List Nat} (h : OwnU w B (.slice ao n cap) l) : ∀ b off, ao = some ⟨b, off, none⟩ → B ≤ b := by
  rintro b off rfl
  exact (World.ownsRow.lt h b rfl).1

set_option maxHeartbeats 800000 in
theorem rmake_any (neg : Bool) (l : List Nat) (ao : Option Addr) (cap : Nat) (w : World) (hm : l.length ≤ 1000000000) (hU : U w ao l) (ho : Hid (Bi.Ok l)) :
    Calls Tryz.prog 21 #[.bool neg, .slice ao l.length cap] w fun e w' => ResZ w' (sgn neg (Bi.val l)) e ∧ Below w.heap.size w w' := by
  go_enter Tryz.func21, Tryz.ntmps21
  have hU1 : ∀ o1 o2, U ((w.alloc o1).alloc o2) ao l := fun o1 o2 => hU.mono (((Below.refl _ _).alloc (Nat.le_refl _) _).alloc (by simp) _)
  have hown : OwnU ((w.alloc (.cells #[.bool false, .slice none 0 0] 25)).alloc (.cells #[] 45)) (w.heap.size + 1) (.slice (some ⟨w.heap.size + 1, 0, none⟩) 0 0) [] := by
    have := OwnU.lit0 (w.alloc (.cells #[.bool false, .slice none 0 0] 25)) (w.heap.size + 1) (by simp)
    simpa using this
  go_wp2_with (at_builtin; (refine app_all_u32 _ rfl _ _ rfl (w.alloc (.cells #[.bool false, .slice none 0 0] 25)) (w.heap.size + 1) _ [] rfl hown (by simp) ((Below.refl _ _).alloc (by simp) _) ao cap l rfl (hU1 _ _) (by simp; omega) ?_; intro v' w1 hown1 hb1))
  have hb1' : Below (w.alloc (.cells #[.bool false, .slice none 0 0] 25)).heap.size (w.alloc (.cells #[.bool false, .slice none 0 0] 25)) w1 := by simpa using hb1
  obtain ⟨c0, c1, f0, f1, hsz, hbl⟩ := box2 hb1'
  obtain ⟨ao1, cap1, rfl, hcap1, hU1'⟩ := hown1.read
  have hab := hown1.above
  simp only [List.nil_append] at hcap1 hU1' ⊢
  clear hown1 hb1 hb1' hown hU1
  refine (rtrim_any l ao1 cap1 _ (by omega) hcap1 hU1').mono ?_
  rintro e w2 ⟨L, hL, hLl, rfl, hUL, rfl⟩
  have HL : Hid (L = Bi.limbs (Bi.val l)) := Lib.hid (by rw [hL, Bi.trim_eq_limbs ho.out])
  clear hL hU1'
  go_wp2_with fail
  refine (rdigits_any _ L HL ao1 cap1 _ (by omega) hUL).mono ?_
  rintro e w2 ⟨⟨d, HD, hd, rfl⟩, rfl⟩
  clear hU
  have hUf : ∀ x y, U ((w1.setCell ⟨w.heap.size, 0, none⟩ x).setCell ⟨w.heap.size, 1, none⟩ y) ao1 L := fun x y =>
    (hUL.setCell (fun b off e => by have := hab b off e; simp only; omega)).setCell (fun b off e => by have := hab b off e; simp only; omega)
  have HUf := Lib.hid hUf
  clear hUf hUL hab
  by_cases hd3 : (300 : Int) < (d : Int)
  · have hbig : ¬ Bi.val l < Bi.Big := by rw [← Bi.dlen_le, ← HD.out]; omega
    have HB := Lib.hid hbig; clear hbig
    go_wp2
    refine bodyPost_ret (v := .tuple #[.agg #[.bool false, .slice none 0 0], .int .i64 3]) (by simp [results, Tryz.results21, go_sem, c0, c1]) rfl ⟨⟨false, none, 0, 0, 3, rfl, Lib.hid (.inr ⟨by rw [sgn_natAbs]; exact HB.out, rfl, rfl⟩)⟩, ?_⟩
    exact (hbl.setCell (Nat.le_refl _) _).setCell (Nat.le_refl _) _
  · have hbig : Bi.val l < Bi.Big := by rw [← Bi.dlen_le, ← HD.out]; omega
    have HB := Lib.hid hbig
    have h34 : L.length ≤ 34 := by rw [HL.out]; exact limbs_len34 hbig
    clear hbig
    by_cases hL0 : L = []
    · subst hL0
      have hv0 : Bi.val l = 0 := Bi.limbs_eq_nil.1 HL.out.symm
      have hz := Lib.hid hv0; clear hv0 hcap1 hLl
      go_wp2
      refine bodyPost_ret (v := .tuple #[.agg #[.bool false, .slice none 0 0], .int .i64 0]) (by simp [results, Tryz.results21, go_sem, c0, c1]) rfl ⟨⟨false, none, 0, 0, 0, rfl, Lib.hid (.inl ⟨by rw [sgn_natAbs]; exact HB.out, rfl, ?_⟩)⟩, ?_⟩
      · rw [hz.out, show sgn neg 0 = 0 by unfold sgn; split <;> rfl]
        exact IntV.zero _
      · exact (hbl.setCell (Nat.le_refl _) _).setCell (Nat.le_refl _) _
    · have hL1 : 0 < L.length := List.length_pos_iff.2 hL0
      have hv0 : Bi.val l ≠ 0 := fun h => hL0 (by rw [HL.out, h]; rfl)
      have hz := Lib.hid hv0
      have hLz : ((L.length : Int) == 0) = false := by rw [beq_eq_false_iff_ne]; omega
      clear hv0
      go_wp2
      refine bodyPost_ret (v := .tuple #[.agg #[.bool neg, .slice ao1 L.length cap1], .int .i64 0]) (by simp [results, Tryz.results21, go_sem, c0, c1]) rfl ⟨⟨neg, ao1, L.length, cap1, 0, rfl, Lib.hid (.inl ⟨by rw [sgn_natAbs]; exact HB.out, rfl, ?_⟩)⟩, ?_⟩
      · refine ⟨neg, ao1, L, cap1, rfl, Lib.hid ?_, Lib.hid ?_, Lib.hid ?_, by omega, h34, HUf.out _ _⟩
        · have := hz.out
          unfold sgn
          cases neg
          · simp
          · simp; omega
        · rw [sgn_natAbs]; exact HL.out
        · rw [sgn_natAbs]; exact HB.out
      · exact (hbl.setCell (Nat.le_refl _) _).setCell (Nat.le_refl _) _

end Go.Proofs.YtijjagofingpdaaGreatDoor
