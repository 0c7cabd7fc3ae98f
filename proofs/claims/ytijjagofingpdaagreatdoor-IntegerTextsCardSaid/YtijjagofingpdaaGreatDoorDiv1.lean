import Derived.Test.YtijjagofingpdaaGreatDoorClone
namespace Go.Proofs.YtijjagofingpdaaGreatDoor
open Go.RowKit

theorem U.lit1 (w : World) (Y : Int) (y : Nat) (t : TypeId) (h0 : Y = (y : Int)) : U (w.alloc (.cells #[.int .u32 Y] t)) (some ⟨w.heap.size, 0, none⟩) [y] := by
  subst h0
  intro i h
  match i, h with
  | 0, _ => exact ⟨w.heap.size, 0, rfl, by simp [go_sem]⟩
  | i + 1, h => simp at h

theorem trim1 (w : World) (g : Nat) (hg : w.heap.size = g) (r : Nat) (hr : r < 1000000000) :
    Calls Tryz.prog 60 #[.slice (some ⟨g, 0, none⟩) 1 1] (w.alloc (.cells #[.int .u32 (r : Int)] 45)) fun e w' => (∃ (a2 : Option Addr) (c2 : Nat) (L : List Nat), Hid (L = Bi.limbs r) ∧ e = .returned (.slice a2 L.length c2) ∧ L.length ≤ c2 ∧ L.length ≤ 1 ∧ Hid (U w' a2 L)) ∧ Below w.heap.size w w' := by
  subst hg
  refine (trim_any [r] (some ⟨w.heap.size, 0, none⟩) 1 _ (by simp) (by simp) (U.lit1 w r r 45 rfl)).mono ?_
  rintro e w' ⟨L, hL, hl, rfl, hU, rfl⟩
  have hok : Bi.Ok [r] := Bi.Ok.cons hr Bi.Ok.nil
  refine ⟨⟨_, 1, L, Lib.hid ?_, rfl, by simpa using hl, by simpa using hl, Lib.hid hU⟩, below_alloc _ _⟩
  rw [hL, Bi.trim_eq_limbs hok]
  simp [Bi.val]

set_option maxRecDepth 100000 in
set_option maxHeartbeats 1600000 in
theorem divide_one (m n : Nat) (u : List Nat) (Hu : Hid (u = Bi.limbs m)) (au av : Option Addr) (cu cv : Nat) (w : World) (hmu : u.length ≤ 1000000000) (hn0 : 0 < n) (hn : n < 1000000000) (hle : Hid (n ≤ m))
    (hu : U w au u) (hv : U w av [n]) :
    Calls Tryz.prog 40 #[.slice au u.length cu, .slice av 1 cv] w fun e w' => DivP w' m n e ∧ Below w.heap.size w w' := by
  have Hv : Hid ([n] = Bi.limbs n) := Lib.hid (by have := Bi.limbs_cons (x := n) (n := 0) hn (by omega); simpa [Bi.limbs_zero] using this.symm)
  have Ho : Hid (Bi.Ok u) := Lib.hid (by rw [Hu.out]; exact Bi.limbs_ok _)
  have Hval : Hid (Bi.val u = m) := Lib.hid (by rw [Hu.out, Bi.val_limbs])
  go_enter Tryz.func40, Tryz.ntmps40
  go_wp2_with fail
  have hc := compare_any m n u [n] Hu Hv au av cu cv w (by omega) (by simp) hu hv
  rw [List.length_singleton] at hc
  (with_reducible refine hc.mono ?_)
  clear hc
  rintro e w1 ⟨rfl, hb1⟩
  have hcmp : ¬ cmpN m n < 0 := by have := hle.out; unfold cmpN; rw [if_neg (by omega)]; split <;> omega
  have hu1 := hu.mono hb1
  obtain ⟨b1, o1, rfl, hcv⟩ := (hv.mono hb1).at' (k := 0) (x := n) rfl
  rw [Nat.add_zero] at hcv
  clear hu hv
  go_wp2_with fail
  (with_reducible refine (short_any u n au cu w1 ?_ hn0 hn Ho.out hu1).mono ?_)
  · omega
  rintro e w2 ⟨⟨a2, L, c2, r, HL, HR, hr, hl, hc2, rfl, HU2⟩, hb2⟩
  go_wp2_with fail
  (with_reducible refine (trim1 w2 _ rfl r hr).mono ?_)
  rintro e w3 ⟨⟨a3, c3, R, HR3, rfl, hc3, hl3, HU3⟩, hb3⟩
  go_wp2
  go_ret2
  refine ⟨⟨a2, a3, L, R, c2, c3, Lib.hid ?_, Lib.hid ?_, hc2, hc3, rfl, Lib.hid (HU2.out.mono hb3), HU3⟩, Below.step (Below.step hb1 hb2 (Nat.le_refl _)) hb3 (Nat.le_refl _)⟩
  · rw [HL.out, Hval.out]
  · rw [HR3.out, HR.out, Hval.out]

end Go.Proofs.YtijjagofingpdaaGreatDoor
