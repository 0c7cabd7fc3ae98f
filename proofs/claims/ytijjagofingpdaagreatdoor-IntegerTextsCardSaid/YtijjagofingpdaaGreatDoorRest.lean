import Derived.Test.YtijjagofingpdaaGreatDoorSub
namespace Go.Proofs.YtijjagofingpdaaGreatDoor
open Go.RowKit

def RestP (g B N cap off m : Nat) (xs ys : List Nat) (e : Ending) (w' : World) : Prop :=
  ∃ (zs : List Nat) (ca : Nat), zs.length = xs.length ∧ Bi.Ok zs ∧ ca ≤ 1 ∧ e = .returned (.tuple #[]) ∧
      Hid (Bi.val ((zs.drop off).take m) + 1000000000 ^ m * ca = Bi.val ((xs.drop off).take m) + Bi.val ys) ∧ Hid (∀ j, (j < off ∨ off + m ≤ j) → zs[j]? = xs[j]?) ∧
      OwnU w' B (.slice (some ⟨g, 0, none⟩) N cap) zs

set_option maxHeartbeats 1600000 in
/-- x[off : off+m] += y -/
theorem restore_any (g B N cap off m c : Nat) (xs ys : List Nat) (aoy : Option Addr) (cy : Nat) (w : World) (hm : xs.length ≤ 1000000000) (hoff : off + m ≤ xs.length) (hym : ys.length ≤ m)
    (hox : Bi.Ok xs) (hoy : Bi.Ok ys) (hown : OwnU w B (.slice (some ⟨g, 0, none⟩) N cap) xs) (hy : U w aoy ys) (hne : ∀ b o, aoy = some ⟨b, o, none⟩ → b ≠ g) :
    Calls Tryz.prog 71 #[.slice (some ⟨g, off, none⟩) m c, .slice aoy ys.length cy] w fun e w' => RestP g B N cap off m xs ys e w' ∧ Touch g w w' := by
  have HN := Lib.hid hne; clear hne
  go_enter Tryz.func71, Tryz.ntmps71
  go_wp2
  go_loopw [4, 9] (fun s4 s9 wr => ∃ (k ca : Nat) (zs : List Nat), k ≤ m ∧ s9 = .int .i64 k ∧ s4 = .int .u32 ca ∧ ca ≤ 1 ∧ zs.length = xs.length ∧ Bi.Ok zs ∧
      Hid (Bi.val ((zs.drop off).take k) + 1000000000 ^ k * ca = Bi.val ((xs.drop off).take k) + Bi.val (ys.take k)) ∧ Hid (∀ j, (j < off ∨ off + k ≤ j) → zs[j]? = xs[j]?) ∧
      OwnU wr B (.slice (some ⟨g, 0, none⟩) N cap) zs ∧ Touch g w wr) (fun _ s9 _ => m - (intOf s9).toNat)
  case atStart => exact ⟨0, 0, xs, Nat.zero_le _, rfl, rfl, by omega, rfl, hox, Lib.hid (by simp [Bi.val]), Lib.hid (fun _ _ => rfl), hown, Touch.refl _ _⟩
  case round =>
    clear hown
    obtain ⟨k, ca, zs, hk, rfl, rfl, hca, hzl, hoz, HI, HF, hown, htr⟩ := hrel
    have HZL := Lib.hid hzl
    have hzl2 : xs.length ≤ zs.length := Nat.le_of_eq hzl.symm
    clear hzl
    by_cases hlt : k < m
    · obtain ⟨z, hz⟩ := get_some (l := zs) (k := off + k) (by omega)
      have bz := hoz.at' hz
      have hcz := hown.at' hz
      have hfz := hown.free (off + k)
      have HZ := Lib.hid hz
      clear hz
      by_cases hky : k < ys.length
      · obtain ⟨y, hyk⟩ := get_some hky
        have by' := hoy.at' hyk
        obtain ⟨b2, o2, rfl, hcy⟩ := (hy.touch htr HN.out).at' hyk
        have HY := Lib.hid (Bi.getD_of hyk)
        clear hyk hy
        by_cases hs : (1000000000 : Int) ≤ (z : Int) + ca + y
        · go_wp2
          have hown' := hown.set (off + k) ((z : Int) + ca + y - 1000000000) (z + ca + y - 1000000000) (by omega)
          have htr' := htr.setCell (p := ⟨g, off + k, none⟩) rfl (.int .u32 ((z : Int) + ca + y - 1000000000))
          go_roundw
          case rel =>
            refine ⟨k + 1, 1, zs.set (off + k) (z + ca + y - 1000000000), by omega, by go_num, by go_num, by omega, by rw [List.length_set]; exact HZL.out, hoz.set _ (by omega), Lib.hid (Bi.restore_step HZ.out ((HF.out _ (.inr (Nat.le_refl _))).symm.trans HZ.out) HI.out ?_), Lib.hid fun j hj => ?_, hown', htr'⟩
            · rw [HY.out]; omega
            · rw [List.getElem?_set_ne (by omega)]
              exact HF.out j (by omega)
          case measure => (simp [intOf]; try omega)
        · go_wp2
          have hown' := hown.set (off + k) ((z : Int) + ca + y) (z + ca + y) (by omega)
          have htr' := htr.setCell (p := ⟨g, off + k, none⟩) rfl (.int .u32 ((z : Int) + ca + y))
          go_roundw
          case rel =>
            refine ⟨k + 1, 0, zs.set (off + k) (z + ca + y), by omega, by go_num, by go_num, by omega, by rw [List.length_set]; exact HZL.out, hoz.set _ (by omega), Lib.hid (Bi.restore_step HZ.out ((HF.out _ (.inr (Nat.le_refl _))).symm.trans HZ.out) HI.out ?_), Lib.hid fun j hj => ?_, hown', htr'⟩
            · rw [HY.out]; omega
            · rw [List.getElem?_set_ne (by omega)]
              exact HF.out j (by omega)
          case measure => (simp [intOf]; try omega)
      · have HY := Lib.hid (Bi.getD_out (l := ys) (k := k) (by omega))
        clear hy
        by_cases hs : (1000000000 : Int) ≤ (z : Int) + ca
        · go_wp2
          have hown' := hown.set (off + k) ((z : Int) + ca - 1000000000) (z + ca - 1000000000) (by omega)
          have htr' := htr.setCell (p := ⟨g, off + k, none⟩) rfl (.int .u32 ((z : Int) + ca - 1000000000))
          go_roundw
          case rel =>
            refine ⟨k + 1, 1, zs.set (off + k) (z + ca - 1000000000), by omega, by go_num, by go_num, by omega, by rw [List.length_set]; exact HZL.out, hoz.set _ (by omega), Lib.hid (Bi.restore_step HZ.out ((HF.out _ (.inr (Nat.le_refl _))).symm.trans HZ.out) HI.out ?_), Lib.hid fun j hj => ?_, hown', htr'⟩
            · rw [HY.out]; omega
            · rw [List.getElem?_set_ne (by omega)]
              exact HF.out j (by omega)
          case measure => (simp [intOf]; try omega)
        · go_wp2
          have hown' := hown.set (off + k) ((z : Int) + ca) (z + ca) (by omega)
          have htr' := htr.setCell (p := ⟨g, off + k, none⟩) rfl (.int .u32 ((z : Int) + ca))
          go_roundw
          case rel =>
            refine ⟨k + 1, 0, zs.set (off + k) (z + ca), by omega, by go_num, by go_num, by omega, by rw [List.length_set]; exact HZL.out, hoz.set _ (by omega), Lib.hid (Bi.restore_step HZ.out ((HF.out _ (.inr (Nat.le_refl _))).symm.trans HZ.out) HI.out ?_), Lib.hid fun j hj => ?_, hown', htr'⟩
            · rw [HY.out]; omega
            · rw [List.getElem?_set_ne (by omega)]
              exact HF.out j (by omega)
          case measure => (simp [intOf]; try omega)
    · obtain rfl : k = m := by omega
      clear hy
      go_wp2
      go_end0
      refine ⟨⟨zs, ca, HZL.out, hoz, hca, rfl, Lib.hid ?_, HF, hown⟩, htr⟩
      have h1 := HI.out
      rw [Bi.val_take_all (l := ys) hym] at h1
      exact h1

end Go.Proofs.YtijjagofingpdaaGreatDoor
