import Derived.Test.YtijjagofingpdaaGreatDoorShort
import Derived.Test.YtijjagofingpdaaGreatDoorPlainK
namespace Go.Proofs.YtijjagofingpdaaGreatDoor
open Go.RowKit

/-- only the block g may have turned, and nothing is new -/
structure Touch (g : Nat) (w w' : World) : Prop where
  os : w'.os = w.os
  tape : w'.tape = w.tape
  output : w'.output = w.output
  size : w'.heap.size = w.heap.size
  block : ∀ k, k ≠ g → w'.heap[k]? = w.heap[k]?

theorem Touch.refl (g : Nat) (w : World) : Touch g w w := ⟨rfl, rfl, rfl, rfl, fun _ _ => rfl⟩
theorem Touch.trans {g : Nat} {a b c : World} (h : Touch g a b) (k : Touch g b c) : Touch g a c :=
  ⟨k.os.trans h.os, k.tape.trans h.tape, k.output.trans h.output, k.size.trans h.size, fun i hi => (k.block i hi).trans (h.block i hi)⟩
theorem Touch.setCell {g : Nat} {a w : World} (h : Touch g a w) {p : Addr} (hp : p.block = g) (u : Value) : Touch g a (w.setCell p u) :=
  h.trans ⟨rfl, rfl, rfl, by simp [World.setCell], fun k hk => Below.heap_setCell _ _ _ _ (by omega)⟩
theorem Touch.below {g B : Nat} {w w' : World} (h : Touch g w w') (hB : B ≤ g) : Below B w w' :=
  ⟨h.os, h.tape, h.output, Nat.le_of_eq h.size.symm, fun k hk => h.block k (by omega)⟩
theorem Touch.cell {g : Nat} {w w' : World} (h : Touch g w w') {p : Addr} (hp : p.block ≠ g) : w'.cell? p = w.cell? p := World.cell?_of_block (w := w) (h.block p.block hp)
theorem U.touch {g : Nat} {w w' : World} {ao : Option Addr} {l : List Nat} (hU : U w ao l) (h : Touch g w w') (hne : ∀ b off, ao = some ⟨b, off, none⟩ → b ≠ g) : U w' ao l := by
  intro i hi
  obtain ⟨b, off, e, hc⟩ := hU i hi
  exact ⟨b, off, e, (h.cell (p := ⟨b, off + i, none⟩) (hne b off e)).trans hc⟩

def SubP (g B N cap off m : Nat) (xs ys : List Nat) (f : Nat) (e : Ending) (w' : World) : Prop :=
  (∃ (zs : List Nat) (bo : Nat) (q : Bool), zs.length = xs.length ∧ Bi.Ok zs ∧ bo ≤ 1 ∧ e = .returned (.bool q) ∧ Hid (q = true ↔ bo = 1) ∧
      Hid (Bi.val ((zs.drop off).take m) + f * Bi.val ys = Bi.val ((xs.drop off).take m) + 1000000000 ^ m * bo) ∧ Hid (∀ j, (j < off ∨ off + m ≤ j) → zs[j]? = xs[j]?) ∧
      OwnU w' B (.slice (some ⟨g, 0, none⟩) N cap) zs)

set_option maxHeartbeats 1600000 in
/-- x[off : off+m] -= factor * y -/
theorem subtract_any (g B N cap off m c : Nat) (xs ys : List Nat) (aoy : Option Addr) (cy f : Nat) (w : World) (hm : xs.length ≤ 1000000000) (hoff : off + m ≤ xs.length) (hym : ys.length < m) (hf : f ≤ 1000000000)
    (hox : Bi.Ok xs) (hoy : Bi.Ok ys) (hown : OwnU w B (.slice (some ⟨g, 0, none⟩) N cap) xs) (hy : U w aoy ys) (hne : ∀ b o, aoy = some ⟨b, o, none⟩ → b ≠ g) :
    Calls Tryz.prog 70 #[.slice (some ⟨g, off, none⟩) m c, .slice aoy ys.length cy, .int .u64 f] w fun e w' => SubP g B N cap off m xs ys f e w' ∧ Touch g w w' := by
  have HN := Lib.hid hne; clear hne
  go_enter Tryz.func70, Tryz.ntmps70
  go_wp2
  go_loopw [7, 8, 13] (fun s7 s8 s13 wr => ∃ (k ca bo : Nat) (zs : List Nat), k ≤ m ∧ s13 = .int .i64 k ∧ s7 = .int .u64 ca ∧ s8 = .int .i64 bo ∧ bo ≤ 1 ∧ ca ≤ f - 1 ∧ (ys.length < k → ca = 0) ∧ zs.length = xs.length ∧ Bi.Ok zs ∧
      Hid (Bi.val ((zs.drop off).take k) + f * Bi.val (ys.take k) = Bi.val ((xs.drop off).take k) + 1000000000 ^ k * (ca + bo)) ∧ Hid (∀ j, (j < off ∨ off + k ≤ j) → zs[j]? = xs[j]?) ∧
      OwnU wr B (.slice (some ⟨g, 0, none⟩) N cap) zs ∧ Touch g w wr) (fun _ _ s13 _ => m - (intOf s13).toNat)
  case atStart => exact ⟨0, 0, 0, xs, Nat.zero_le _, rfl, rfl, rfl, by omega, by omega, fun _ => rfl, rfl, hox, Lib.hid (by simp [Bi.val]), Lib.hid (fun _ _ => rfl), hown, Touch.refl _ _⟩
  case round =>
    clear hown
    obtain ⟨k, ca, bo, zs, hk, rfl, rfl, rfl, hbo, hca, hc0, hzl, hoz, HI, HF, hown, htr⟩ := hrel
    have HZL := Lib.hid hzl
    have hzl2 : xs.length ≤ zs.length := Nat.le_of_eq hzl.symm
    clear hzl
    by_cases hlt : k < m
    · obtain ⟨z, hz⟩ := get_some (l := zs) (k := off + k) (by omega)
      have bz := hoz.at' hz
      have hcz := hown.at' hz
      have hfz := hown.free (off + k)
      have HZ := Lib.hid hz
      clear hz
      by_cases hky : k < ys.length
      · obtain ⟨y, hyk⟩ := get_some hky
        have by' := hoy.at' hyk
        obtain ⟨b2, o2, rfl, hcy⟩ := (hy.touch htr HN.out).at' hyk
        have HY := Lib.hid (Bi.getD_of hyk)
        clear hyk hy
        obtain ⟨p, hp⟩ : ∃ p : Nat, p = y * f := ⟨_, rfl⟩
        have hp2 : p ≤ 999999999000000000 := by rw [hp]; exact Nat.le_trans (Nat.mul_le_mul (show y ≤ 999999999 by omega) hf) (by decide)
        have hp3 : (y : Int) * (f : Int) = (p : Int) := by rw [hp]; simp
        have hca2 : (ca + p) / 1000000000 ≤ f - 1 := by
          rcases Nat.eq_zero_or_pos f with h0 | h0
          · subst h0; simp at hp; omega
          · apply Nat.le_sub_one_of_lt
            rw [Nat.div_lt_iff_lt_mul (by decide)]
            have : y * f ≤ 999999999 * f := Nat.mul_le_mul_right _ (by omega)
            omega
        have HP := Lib.hid hp; clear hp
        have HC := Lib.hid hc0; clear hc0
        by_cases hs : (z : Int) - ((ca : Int) + p) % 1000000000 - bo < 0
        · go_wp2
          have hown' := hown.set (off + k) ((z : Int) - ((ca : Int) + p) % 1000000000 - bo + 1000000000) (z + 1000000000 - (ca + p) % 1000000000 - bo) (by omega)
          have htr' := htr.setCell (p := ⟨g, off + k, none⟩) rfl (.int .u32 ((z : Int) - ((ca : Int) + p) % 1000000000 - bo + 1000000000))
          go_roundw
          case rel =>
            refine ⟨k + 1, (ca + p) / 1000000000, 1, zs.set (off + k) (z + 1000000000 - (ca + p) % 1000000000 - bo), by omega, by go_num, by go_num, by go_num, by omega, by omega, fun h => by omega, by rw [List.length_set]; exact HZL.out, hoz.set _ (by omega), Lib.hid (Bi.sub_step HZ.out ((HF.out _ (.inr (Nat.le_refl _))).symm.trans HZ.out) HI.out ?_), Lib.hid fun j hj => ?_, hown', htr'⟩
            · rw [HY.out, Nat.mul_comm f, ← HP.out]; omega
            · rw [List.getElem?_set_ne (by omega)]
              exact HF.out j (by omega)
          case measure => (simp [intOf]; try omega)
        · go_wp2
          have hown' := hown.set (off + k) ((z : Int) - ((ca : Int) + p) % 1000000000 - bo) (z - (ca + p) % 1000000000 - bo) (by omega)
          have htr' := htr.setCell (p := ⟨g, off + k, none⟩) rfl (.int .u32 ((z : Int) - ((ca : Int) + p) % 1000000000 - bo))
          go_roundw
          case rel =>
            refine ⟨k + 1, (ca + p) / 1000000000, 0, zs.set (off + k) (z - (ca + p) % 1000000000 - bo), by omega, by go_num, by go_num, by go_num, by omega, by omega, fun h => by omega, by rw [List.length_set]; exact HZL.out, hoz.set _ (by omega), Lib.hid (Bi.sub_step HZ.out ((HF.out _ (.inr (Nat.le_refl _))).symm.trans HZ.out) HI.out ?_), Lib.hid fun j hj => ?_, hown', htr'⟩
            · rw [HY.out, Nat.mul_comm f, ← HP.out]; omega
            · rw [List.getElem?_set_ne (by omega)]
              exact HF.out j (by omega)
          case measure => (simp [intOf]; try omega)
      · have HY := Lib.hid (Bi.getD_out (l := ys) (k := k) (by omega))
        have hca9 : ca < 1000000000 := by omega
        have HC := Lib.hid hc0; clear hc0 hy
        by_cases hs : (z : Int) - (ca : Int) % 1000000000 - bo < 0
        · go_wp2
          have hown' := hown.set (off + k) ((z : Int) - (ca : Int) % 1000000000 - bo + 1000000000) (z + 1000000000 - ca - bo) (by omega)
          have htr' := htr.setCell (p := ⟨g, off + k, none⟩) rfl (.int .u32 ((z : Int) - (ca : Int) % 1000000000 - bo + 1000000000))
          go_roundw
          case rel =>
            refine ⟨k + 1, 0, 1, zs.set (off + k) (z + 1000000000 - ca - bo), by omega, by go_num, by go_num, by go_num, by omega, by omega, fun _ => rfl, by rw [List.length_set]; exact HZL.out, hoz.set _ (by omega), Lib.hid (Bi.sub_step HZ.out ((HF.out _ (.inr (Nat.le_refl _))).symm.trans HZ.out) HI.out ?_), Lib.hid fun j hj => ?_, hown', htr'⟩
            · rw [HY.out]; omega
            · rw [List.getElem?_set_ne (by omega)]
              exact HF.out j (by omega)
          case measure => (simp [intOf]; try omega)
        · go_wp2
          have hown' := hown.set (off + k) ((z : Int) - (ca : Int) % 1000000000 - bo) (z - ca - bo) (by omega)
          have htr' := htr.setCell (p := ⟨g, off + k, none⟩) rfl (.int .u32 ((z : Int) - (ca : Int) % 1000000000 - bo))
          go_roundw
          case rel =>
            refine ⟨k + 1, 0, 0, zs.set (off + k) (z - ca - bo), by omega, by go_num, by go_num, by go_num, by omega, by omega, fun _ => rfl, by rw [List.length_set]; exact HZL.out, hoz.set _ (by omega), Lib.hid (Bi.sub_step HZ.out ((HF.out _ (.inr (Nat.le_refl _))).symm.trans HZ.out) HI.out ?_), Lib.hid fun j hj => ?_, hown', htr'⟩
            · rw [HY.out]; omega
            · rw [List.getElem?_set_ne (by omega)]
              exact HF.out j (by omega)
          case measure => (simp [intOf]; try omega)
    · obtain rfl : k = m := by omega
      obtain rfl : ca = 0 := hc0 hym
      clear hy
      rcases (show bo = 0 ∨ bo = 1 by omega) with rfl | rfl
      all_goals
        go_wp2
        go_ret
        refine ⟨⟨zs, _, _, HZL.out, hoz, hbo, rfl, Lib.hid (by simp), Lib.hid ?_, HF, hown⟩, htr⟩
        have h1 := HI.out
        rw [Bi.val_take_all (l := ys) (by omega)] at h1
        simpa using h1

end Go.Proofs.YtijjagofingpdaaGreatDoor
