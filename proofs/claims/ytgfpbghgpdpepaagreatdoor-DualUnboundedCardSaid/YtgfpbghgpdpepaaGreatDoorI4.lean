import Derived.Test.YtgfpbghgpdpepaaGreatDoorI2
import Derived.Test.YtgfpbghgpdpepaaGreatDoorI3
set_option maxRecDepth 100000
set_option maxHeartbeats 25600000
namespace Bi
theorem guess_init {q X Y P top head x2 xl T H yl second : Nat} (hq : q * Y ≤ X) (hY : Y = T * P + yl) (hT : T = top * 1000000000 + second)
  (hX : X = H * P + xl) (hxl : xl < P) (hH : H = head * 1000000000 + x2) (hx2 : x2 < 1000000000) : q * top ≤ head := by
 have h1 : q * (T * P) ≤ q * Y := Nat.mul_le_mul_left _ (by omega);have h2 : X < (H + 1) * P := by rw [hX, Nat.add_mul]; omega
 have h3 : (q * T) * P < (H + 1) * P := by rw [Nat.mul_assoc]; omega
 have h4 : q * T < H + 1 := Nat.lt_of_mul_lt_mul_right h3;have h5 : q * (top * 1000000000) ≤ q * T := Nat.mul_le_mul_left _ (by omega);have h6 : (q * top) * 1000000000 < (head + 1) * 1000000000 := by rw [Nat.mul_assoc]; omega
 have := Nat.lt_of_mul_lt_mul_right h6;omega
theorem guess_step {q g rest X Y P top head x2 xl T H yl second : Nat} (hq : q * Y ≤ X) (hXY : X < Y * 1000000000) (hY : Y = T * P + yl) (hT : T = top * 1000000000 + second)
  (hX : X = H * P + xl) (hxl : xl < P) (hH : H = head * 1000000000 + x2) (hg : g * top + rest = head)
  (hc : 1000000000 ≤ g ∨ rest * 1000000000 + x2 < g * second) : q < g := by
 rcases hc with hc | hc
 ·have h1 : q * Y < 1000000000 * Y := by rw [Nat.mul_comm 1000000000]; omega
  have := Nat.lt_of_mul_lt_mul_right h1;omega
 ·apply Nat.lt_of_not_le
  intro hle;have h0 : g * Y ≤ X := Nat.le_trans (Nat.mul_le_mul_right _ hle) hq;have h1 : g * (T * P) ≤ g * Y := Nat.mul_le_mul_left _ (by omega);have h2 : X < (H + 1) * P := by rw [hX, Nat.add_mul]; omega
  have h3 : (g * T) * P < (H + 1) * P := by rw [Nat.mul_assoc]; omega
  have h4 : g * T < H + 1 := Nat.lt_of_mul_lt_mul_right h3;have h5 : g * T = g * top * 1000000000 + g * second := by rw [hT, Nat.mul_add, Nat.mul_assoc]
  have h6 : head * 1000000000 = g * top * 1000000000 + rest * 1000000000 := by rw [← hg, Nat.add_mul]
  omega
theorem guess_end {g rest X Y P top head x2 xl T H yl second : Nat} (hY : Y = T * P + yl) (hyl : yl < P) (hT : T = top * 1000000000 + second) (hs : second < 1000000000) (ht : 1 ≤ top)
  (hX : X = H * P + xl) (hH : H = head * 1000000000 + x2) (hg : g * top + rest = head) (hgB : g ≤ 1000000000)
  (hc : g * second ≤ rest * 1000000000 + x2 ∨ 1000000000 ≤ rest) : (g - 1) * Y ≤ X := by
 have h5 : g * T = g * top * 1000000000 + g * second := by rw [hT, Nat.mul_add, Nat.mul_assoc]
 have h6 : head * 1000000000 = g * top * 1000000000 + rest * 1000000000 := by rw [← hg, Nat.add_mul]
 have h7 : g * T ≤ H := by
  rcases hc with hc | hc
  ·omega
  ·have : g * second ≤ 1000000000 * second := Nat.mul_le_mul_right _ hgB;have : 1000000000 * 1000000000 ≤ rest * 1000000000 := Nat.mul_le_mul_right _ hc;omega
 have h8 : Y ≤ (T + 1) * P := by rw [hY, Nat.add_mul]; omega
 have h9 : (g - 1) * Y ≤ (g - 1) * ((T + 1) * P) := Nat.mul_le_mul_left _ h8;have h10 : (g - 1) * (T + 1) ≤ H := by
  rcases Nat.eq_zero_or_pos g with h0 | h0
  ·subst h0; simp
  ·obtain ⟨k, rfl⟩ : ∃ k, g = k + 1 := ⟨g - 1, by omega⟩;simp only [Nat.add_sub_cancel, Nat.mul_add, Nat.mul_one, Nat.add_mul, Nat.one_mul] at h7 ⊢;omega
 have h11 : (g - 1) * ((T + 1) * P) ≤ H * P := by rw [← Nat.mul_assoc]; exact Nat.mul_le_mul_right _ h10
 omega
theorem guess_first_le {x0 x1 top : Nat} (hx0 : x0 ≤ top) (hx1 : x1 < 1000000000) (ht : 500000000 ≤ top) : (x0 * 1000000000 + x1) / top ≤ 1000000001 := by
 apply Nat.le_of_lt_succ
 rw [Nat.div_lt_iff_lt_mul (by omega)];omega
theorem take_set_drop {zs : List Nat} {off k d : Nat} : ((zs.set (off + k) d).drop off).take k = (zs.drop off).take k := by
 apply List.ext_getElem?
 intro j
 by_cases hj : j < k
 ·rw [List.getElem?_take_of_lt hj, List.getElem?_take_of_lt hj, List.getElem?_drop, List.getElem?_drop, List.getElem?_set_ne (by omega)]
 ·rw [List.getElem?_take_eq_none (by omega), List.getElem?_take_eq_none (by omega)]
theorem drop_getD {zs : List Nat} {off k z : Nat} (h : zs[off + k]? = some z) : (zs.drop off).getD k 0 = z := by
 rw [List.getD_eq_getElem?_getD, List.getElem?_drop, h]; rfl
theorem sub_step {xs zs ys : List Nat} {off k z d f ca bo ca' bo' : Nat} (hz : zs[off + k]? = some z) (hxz : xs[off + k]? = some z)
  (hinv : val ((zs.drop off).take k) + f * val (ys.take k) = val ((xs.drop off).take k) + 1000000000 ^ k * (ca + bo))
  (hd : d + f * ys.getD k 0 + (ca + bo) = z + 1000000000 * (ca' + bo')) :
  val (((zs.set (off + k) d).drop off).take (k + 1)) + f * val (ys.take (k + 1)) = val ((xs.drop off).take (k + 1)) + 1000000000 ^ (k + 1) * (ca' + bo') := by
 have hlt : off + k < zs.length := (List.getElem?_eq_some_iff.1 hz).1;rw [val_take_succ, val_take_succ, val_take_succ, take_set_drop, drop_getD hxz, drop_getD (z := d) (by rw [List.getElem?_set_self hlt]), Nat.pow_succ, Nat.mul_add f];have h1 : 1000000000 ^ k * d + 1000000000 ^ k * (f * ys.getD k 0) + 1000000000 ^ k * (ca + bo) = 1000000000 ^ k * z + 1000000000 ^ k * 1000000000 * (ca' + bo') := by
  rw [Nat.mul_assoc, ← Nat.mul_add, ← Nat.mul_add, ← Nat.mul_add, hd]
 have h2 : f * (1000000000 ^ k * ys.getD k 0) = 1000000000 ^ k * (f * ys.getD k 0) := by rw [← Nat.mul_assoc, Nat.mul_comm f, Nat.mul_assoc]
 rw [h2];omega
theorem restore_step {xs zs ys : List Nat} {off k z d ca ca' : Nat} (hz : zs[off + k]? = some z) (hxz : xs[off + k]? = some z)
  (hinv : val ((zs.drop off).take k) + 1000000000 ^ k * ca = val ((xs.drop off).take k) + val (ys.take k))
  (hd : d + 1000000000 * ca' = z + ys.getD k 0 + ca) :
  val (((zs.set (off + k) d).drop off).take (k + 1)) + 1000000000 ^ (k + 1) * ca' = val ((xs.drop off).take (k + 1)) + val (ys.take (k + 1)) := by
 have hlt : off + k < zs.length := (List.getElem?_eq_some_iff.1 hz).1;rw [val_take_succ, val_take_succ, val_take_succ, take_set_drop, drop_getD hxz, drop_getD (z := d) (by rw [List.getElem?_set_self hlt]), Nat.pow_succ];have h1 : 1000000000 ^ k * d + 1000000000 ^ k * 1000000000 * ca' = 1000000000 ^ k * z + 1000000000 ^ k * ys.getD k 0 + 1000000000 ^ k * ca := by
  rw [Nat.mul_assoc, ← Nat.mul_add, hd, Nat.mul_add, Nat.mul_add]
 omega
end Bi
namespace Go.Proofs.YtgfpbghgpdpepaaGreatDoor
open Go.RowKit
structure Touch (g : Nat) (w w' : World) : Prop where
 os : w'.os = w.os
 tape : w'.tape = w.tape
 output : w'.output = w.output
 size : w'.heap.size = w.heap.size
 block : ∀ k, k ≠ g → w'.heap[k]? = w.heap[k]?
theorem Touch.refl (g : Nat) (w : World) : Touch g w w := ⟨rfl, rfl, rfl, rfl, fun _ _ => rfl⟩
theorem Touch.trans {g : Nat} {a b c : World} (h : Touch g a b) (k : Touch g b c) : Touch g a c :=
 ⟨k.os.trans h.os, k.tape.trans h.tape, k.output.trans h.output, k.size.trans h.size, fun i hi => (k.block i hi).trans (h.block i hi)⟩
theorem Touch.setCell {g : Nat} {a w : World} (h : Touch g a w) {p : Addr} (hp : p.block = g) (u : Value) : Touch g a (w.setCell p u) :=
 h.trans ⟨rfl, rfl, rfl, by simp [World.setCell], fun k hk => Below.heap_setCell _ _ _ _ (by omega)⟩
theorem Touch.below {g B : Nat} {w w' : World} (h : Touch g w w') (hB : B ≤ g) : Below B w w' :=
 ⟨h.os, h.tape, h.output, Nat.le_of_eq h.size.symm, fun k hk => h.block k (by omega)⟩
theorem Touch.cell {g : Nat} {w w' : World} (h : Touch g w w') {p : Addr} (hp : p.block ≠ g) : w'.cell? p = w.cell? p := World.cell?_of_block (w := w) (h.block p.block hp)
theorem U.touch {g : Nat} {w w' : World} {ao : Option Addr} {l : List Nat} (hU : U w ao l) (h : Touch g w w') (hne : ∀ b off, ao = some ⟨b, off, none⟩ → b ≠ g) : U w' ao l := by
 intro i hi;obtain ⟨b, off, e, hc⟩ := hU i hi;exact ⟨b, off, e, (h.cell (p := ⟨b, off + i, none⟩) (hne b off e)).trans hc⟩
def SubP (g B N cap off m : Nat) (xs ys : List Nat) (f : Nat) (e : Ending) (w' : World) : Prop :=
 (∃ (zs : List Nat) (bo : Nat) (q : Bool), zs.length = xs.length ∧ Bi.Ok zs ∧ bo ≤ 1 ∧ e = .returned (.bool q) ∧ Hid (q = true ↔ bo = 1) ∧
   Hid (Bi.val ((zs.drop off).take m) + f * Bi.val ys = Bi.val ((xs.drop off).take m) + 1000000000 ^ m * bo) ∧ Hid (∀ j, (j < off ∨ off + m ≤ j) → zs[j]? = xs[j]?) ∧
   OwnU w' B (.slice (some ⟨g, 0, none⟩) N cap) zs)
theorem subtract_any (g B N cap off m c : Nat) (xs ys : List Nat) (aoy : Option Addr) (cy f : Nat) (w : World) (hm : xs.length ≤ 1000000000) (hoff : off + m ≤ xs.length) (hym : ys.length < m) (hf : f ≤ 1000000000)
  (hox : Bi.Ok xs) (hoy : Bi.Ok ys) (hown : OwnU w B (.slice (some ⟨g, 0, none⟩) N cap) xs) (hy : U w aoy ys) (hne : ∀ b o, aoy = some ⟨b, o, none⟩ → b ≠ g) :
  Calls Tryz.prog 226 #[.slice (some ⟨g, off, none⟩) m c, .slice aoy ys.length cy, .int .u64 f] w fun e w' => SubP g B N cap off m xs ys f e w' ∧ Touch g w w' := by
 have HN := hii hne; clear hne;go_enter Tryz.func226, Tryz.ntmps226;go_wp2;go_loopw [7, 8, 13] (fun s7 s8 s13 wr => ∃ (k ca bo : Nat) (zs : List Nat), k ≤ m ∧ s13 = .int .i64 k ∧ s7 = .int .u64 ca ∧ s8 = .int .i64 bo ∧ bo ≤ 1 ∧ ca ≤ f - 1 ∧ (ys.length < k → ca = 0) ∧ zs.length = xs.length ∧ Bi.Ok zs ∧
   Hid (Bi.val ((zs.drop off).take k) + f * Bi.val (ys.take k) = Bi.val ((xs.drop off).take k) + 1000000000 ^ k * (ca + bo)) ∧ Hid (∀ j, (j < off ∨ off + k ≤ j) → zs[j]? = xs[j]?) ∧
   OwnU wr B (.slice (some ⟨g, 0, none⟩) N cap) zs ∧ Touch g w wr) (fun _ _ s13 _ => m - (intOf s13).toNat)
 case atStart => exact ⟨0, 0, 0, xs, Nat.zero_le _, rfl, rfl, rfl, by omega, by omega, fun _ => rfl, rfl, hox, hii (by simp [Bi.val]), hii (fun _ _ => rfl), hown, Touch.refl _ _⟩
 case round =>
  clear hown;obtain ⟨k, ca, bo, zs, hk, rfl, rfl, rfl, hbo, hca, hc0, hzl, hoz, HI, HF, hown, htr⟩ := hrel;have HZL := hii hzl;have hzl2 : xs.length ≤ zs.length := Nat.le_of_eq hzl.symm;clear hzl
  by_cases hlt : k < m
  ·obtain ⟨z, hz⟩ := get_some (l := zs) (k := off + k) (by omega);have bz := hoz.at' hz;have hcz := hown.at' hz;have hfz := hown.free (off + k);have HZ := hii hz;clear hz
   by_cases hky : k < ys.length
   ·obtain ⟨y, hyk⟩ := get_some hky;have by' := hoy.at' hyk;obtain ⟨b2, o2, rfl, hcy⟩ := (hy.touch htr HN.out).at' hyk;have HY := hii (Bi.getD_of hyk);clear hyk hy;obtain ⟨p, hp⟩ : ∃ p : Nat, p = y * f := ⟨_, rfl⟩;have hp2 : p ≤ 999999999000000000 := by rw [hp]; exact Nat.le_trans (Nat.mul_le_mul (show y ≤ 999999999 by omega) hf) (by decide)
    have hp3 : (y : Int) * (f : Int) = (p : Int) := by rw [hp]; simp
    have hca2 : (ca + p) / 1000000000 ≤ f - 1 := by
     rcases Nat.eq_zero_or_pos f with h0 | h0
     ·subst h0; simp at hp; omega
     ·apply Nat.le_sub_one_of_lt
      rw [Nat.div_lt_iff_lt_mul (by decide)];have : y * f ≤ 999999999 * f := Nat.mul_le_mul_right _ (by omega);omega
    have HP := hii hp; clear hp;have HC := hii hc0; clear hc0
    by_cases hs : (z : Int) - ((ca : Int) + p) % 1000000000 - bo < 0
    ·go_wp2;have hown' := hown.set (off + k) ((z : Int) - ((ca : Int) + p) % 1000000000 - bo + 1000000000) (z + 1000000000 - (ca + p) % 1000000000 - bo) (by omega);have htr' := htr.setCell (p := ⟨g, off + k, none⟩) rfl (.int .u32 ((z : Int) - ((ca : Int) + p) % 1000000000 - bo + 1000000000));go_roundw
     case rel =>
      refine ⟨k + 1, (ca + p) / 1000000000, 1, zs.set (off + k) (z + 1000000000 - (ca + p) % 1000000000 - bo), by omega, by go_num, by go_num, by go_num, by omega, by omega, fun h => by omega, by rw [List.length_set]; exact HZL.out, hoz.set _ (by omega), hii (Bi.sub_step HZ.out ((HF.out _ (.inr nl)).symm.trans HZ.out) HI.out ?_), hii fun j hj => ?_, hown', htr'⟩
      ·rw [HY.out, Nat.mul_comm f, ← HP.out]; omega
      ·rw [List.getElem?_set_ne (by omega)];exact HF.out j (by omega)
     case measure => (simp [intOf]; try omega)
    ·go_wp2;have hown' := hown.set (off + k) ((z : Int) - ((ca : Int) + p) % 1000000000 - bo) (z - (ca + p) % 1000000000 - bo) (by omega);have htr' := htr.setCell (p := ⟨g, off + k, none⟩) rfl (.int .u32 ((z : Int) - ((ca : Int) + p) % 1000000000 - bo));go_roundw
     case rel =>
      refine ⟨k + 1, (ca + p) / 1000000000, 0, zs.set (off + k) (z - (ca + p) % 1000000000 - bo), by omega, by go_num, by go_num, by go_num, by omega, by omega, fun h => by omega, by rw [List.length_set]; exact HZL.out, hoz.set _ (by omega), hii (Bi.sub_step HZ.out ((HF.out _ (.inr nl)).symm.trans HZ.out) HI.out ?_), hii fun j hj => ?_, hown', htr'⟩
      ·rw [HY.out, Nat.mul_comm f, ← HP.out]; omega
      ·rw [List.getElem?_set_ne (by omega)];exact HF.out j (by omega)
     case measure => (simp [intOf]; try omega)
   ·have HY := hii (Bi.getD_out (l := ys) (k := k) (by omega));have hca9 : ca < 1000000000 := by omega
    have HC := hii hc0; clear hc0 hy
    by_cases hs : (z : Int) - (ca : Int) % 1000000000 - bo < 0
    ·go_wp2;have hown' := hown.set (off + k) ((z : Int) - (ca : Int) % 1000000000 - bo + 1000000000) (z + 1000000000 - ca - bo) (by omega);have htr' := htr.setCell (p := ⟨g, off + k, none⟩) rfl (.int .u32 ((z : Int) - (ca : Int) % 1000000000 - bo + 1000000000));go_roundw
     case rel =>
      refine ⟨k + 1, 0, 1, zs.set (off + k) (z + 1000000000 - ca - bo), by omega, by go_num, by go_num, by go_num, by omega, by omega, fun _ => rfl, by rw [List.length_set]; exact HZL.out, hoz.set _ (by omega), hii (Bi.sub_step HZ.out ((HF.out _ (.inr nl)).symm.trans HZ.out) HI.out ?_), hii fun j hj => ?_, hown', htr'⟩
      ·rw [HY.out]; omega
      ·rw [List.getElem?_set_ne (by omega)];exact HF.out j (by omega)
     case measure => (simp [intOf]; try omega)
    ·go_wp2;have hown' := hown.set (off + k) ((z : Int) - (ca : Int) % 1000000000 - bo) (z - ca - bo) (by omega);have htr' := htr.setCell (p := ⟨g, off + k, none⟩) rfl (.int .u32 ((z : Int) - (ca : Int) % 1000000000 - bo));go_roundw
     case rel =>
      refine ⟨k + 1, 0, 0, zs.set (off + k) (z - ca - bo), by omega, by go_num, by go_num, by go_num, by omega, by omega, fun _ => rfl, by rw [List.length_set]; exact HZL.out, hoz.set _ (by omega), hii (Bi.sub_step HZ.out ((HF.out _ (.inr nl)).symm.trans HZ.out) HI.out ?_), hii fun j hj => ?_, hown', htr'⟩
      ·rw [HY.out]; omega
      ·rw [List.getElem?_set_ne (by omega)];exact HF.out j (by omega)
     case measure => (simp [intOf]; try omega)
  ·obtain rfl : k = m := by omega
   obtain rfl : ca = 0 := hc0 hym;clear hy;rcases (show bo = 0 ∨ bo = 1 by omega) with rfl | rfl
   all_goals
    go_wp2;go_ret;refine ⟨⟨zs, _, _, HZL.out, hoz, hbo, rfl, hii (by simp), hii ?_, HF, hown⟩, htr⟩;have h1 := HI.out;rw [Bi.val_take_all (l := ys) (by omega)] at h1
    simpa using h1
end Go.Proofs.YtgfpbghgpdpepaaGreatDoor
namespace Go.Proofs.YtgfpbghgpdpepaaGreatDoor
open Go.RowKit
def RestP (g B N cap off m : Nat) (xs ys : List Nat) (e : Ending) (w' : World) : Prop :=
 ∃ (zs : List Nat) (ca : Nat), zs.length = xs.length ∧ Bi.Ok zs ∧ ca ≤ 1 ∧ e = .returned (.tuple #[]) ∧
   Hid (Bi.val ((zs.drop off).take m) + 1000000000 ^ m * ca = Bi.val ((xs.drop off).take m) + Bi.val ys) ∧ Hid (∀ j, (j < off ∨ off + m ≤ j) → zs[j]? = xs[j]?) ∧
   OwnU w' B (.slice (some ⟨g, 0, none⟩) N cap) zs
theorem restore_any (g B N cap off m c : Nat) (xs ys : List Nat) (aoy : Option Addr) (cy : Nat) (w : World) (hm : xs.length ≤ 1000000000) (hoff : off + m ≤ xs.length) (hym : ys.length ≤ m)
  (hox : Bi.Ok xs) (hoy : Bi.Ok ys) (hown : OwnU w B (.slice (some ⟨g, 0, none⟩) N cap) xs) (hy : U w aoy ys) (hne : ∀ b o, aoy = some ⟨b, o, none⟩ → b ≠ g) :
  Calls Tryz.prog 227 #[.slice (some ⟨g, off, none⟩) m c, .slice aoy ys.length cy] w fun e w' => RestP g B N cap off m xs ys e w' ∧ Touch g w w' := by
 have HN := hii hne; clear hne;go_enter Tryz.func227, Tryz.ntmps227;go_wp2;go_loopw [4, 9] (fun s4 s9 wr => ∃ (k ca : Nat) (zs : List Nat), k ≤ m ∧ s9 = .int .i64 k ∧ s4 = .int .u32 ca ∧ ca ≤ 1 ∧ zs.length = xs.length ∧ Bi.Ok zs ∧
   Hid (Bi.val ((zs.drop off).take k) + 1000000000 ^ k * ca = Bi.val ((xs.drop off).take k) + Bi.val (ys.take k)) ∧ Hid (∀ j, (j < off ∨ off + k ≤ j) → zs[j]? = xs[j]?) ∧
   OwnU wr B (.slice (some ⟨g, 0, none⟩) N cap) zs ∧ Touch g w wr) (fun _ s9 _ => m - (intOf s9).toNat)
 case atStart => exact ⟨0, 0, xs, Nat.zero_le _, rfl, rfl, by omega, rfl, hox, hii (by simp [Bi.val]), hii (fun _ _ => rfl), hown, Touch.refl _ _⟩
 case round =>
  clear hown;obtain ⟨k, ca, zs, hk, rfl, rfl, hca, hzl, hoz, HI, HF, hown, htr⟩ := hrel;have HZL := hii hzl;have hzl2 : xs.length ≤ zs.length := Nat.le_of_eq hzl.symm;clear hzl
  by_cases hlt : k < m
  ·obtain ⟨z, hz⟩ := get_some (l := zs) (k := off + k) (by omega);have bz := hoz.at' hz;have hcz := hown.at' hz;have hfz := hown.free (off + k);have HZ := hii hz;clear hz
   by_cases hky : k < ys.length
   ·obtain ⟨y, hyk⟩ := get_some hky;have by' := hoy.at' hyk;obtain ⟨b2, o2, rfl, hcy⟩ := (hy.touch htr HN.out).at' hyk;have HY := hii (Bi.getD_of hyk);clear hyk hy
    by_cases hs : (1000000000 : Int) ≤ (z : Int) + ca + y
    ·go_wp2;have hown' := hown.set (off + k) ((z : Int) + ca + y - 1000000000) (z + ca + y - 1000000000) (by omega);have htr' := htr.setCell (p := ⟨g, off + k, none⟩) rfl (.int .u32 ((z : Int) + ca + y - 1000000000));go_roundw
     case rel =>
      refine ⟨k + 1, 1, zs.set (off + k) (z + ca + y - 1000000000), by omega, by go_num, by go_num, by omega, by rw [List.length_set]; exact HZL.out, hoz.set _ (by omega), hii (Bi.restore_step HZ.out ((HF.out _ (.inr nl)).symm.trans HZ.out) HI.out ?_), hii fun j hj => ?_, hown', htr'⟩
      ·rw [HY.out]; omega
      ·rw [List.getElem?_set_ne (by omega)];exact HF.out j (by omega)
     case measure => (simp [intOf]; try omega)
    ·go_wp2;have hown' := hown.set (off + k) ((z : Int) + ca + y) (z + ca + y) (by omega);have htr' := htr.setCell (p := ⟨g, off + k, none⟩) rfl (.int .u32 ((z : Int) + ca + y));go_roundw
     case rel =>
      refine ⟨k + 1, 0, zs.set (off + k) (z + ca + y), by omega, by go_num, by go_num, by omega, by rw [List.length_set]; exact HZL.out, hoz.set _ (by omega), hii (Bi.restore_step HZ.out ((HF.out _ (.inr nl)).symm.trans HZ.out) HI.out ?_), hii fun j hj => ?_, hown', htr'⟩
      ·rw [HY.out]; omega
      ·rw [List.getElem?_set_ne (by omega)];exact HF.out j (by omega)
     case measure => (simp [intOf]; try omega)
   ·have HY := hii (Bi.getD_out (l := ys) (k := k) (by omega));clear hy
    by_cases hs : (1000000000 : Int) ≤ (z : Int) + ca
    ·go_wp2;have hown' := hown.set (off + k) ((z : Int) + ca - 1000000000) (z + ca - 1000000000) (by omega);have htr' := htr.setCell (p := ⟨g, off + k, none⟩) rfl (.int .u32 ((z : Int) + ca - 1000000000));go_roundw
     case rel =>
      refine ⟨k + 1, 1, zs.set (off + k) (z + ca - 1000000000), by omega, by go_num, by go_num, by omega, by rw [List.length_set]; exact HZL.out, hoz.set _ (by omega), hii (Bi.restore_step HZ.out ((HF.out _ (.inr nl)).symm.trans HZ.out) HI.out ?_), hii fun j hj => ?_, hown', htr'⟩
      ·rw [HY.out]; omega
      ·rw [List.getElem?_set_ne (by omega)];exact HF.out j (by omega)
     case measure => (simp [intOf]; try omega)
    ·go_wp2;have hown' := hown.set (off + k) ((z : Int) + ca) (z + ca) (by omega);have htr' := htr.setCell (p := ⟨g, off + k, none⟩) rfl (.int .u32 ((z : Int) + ca));go_roundw
     case rel =>
      refine ⟨k + 1, 0, zs.set (off + k) (z + ca), by omega, by go_num, by go_num, by omega, by rw [List.length_set]; exact HZL.out, hoz.set _ (by omega), hii (Bi.restore_step HZ.out ((HF.out _ (.inr nl)).symm.trans HZ.out) HI.out ?_), hii fun j hj => ?_, hown', htr'⟩
      ·rw [HY.out]; omega
      ·rw [List.getElem?_set_ne (by omega)];exact HF.out j (by omega)
     case measure => (simp [intOf]; try omega)
  ·obtain rfl : k = m := by omega
   clear hy;go_wp2;go_end0;refine ⟨⟨zs, ca, HZL.out, hoz, hca, rfl, hii ?_, HF, hown⟩, htr⟩;have h1 := HI.out;rw [Bi.val_take_all (l := ys) hym] at h1;exact h1
end Go.Proofs.YtgfpbghgpdpepaaGreatDoor
namespace Go.Proofs.YtgfpbghgpdpepaaGreatDoor
open Go.RowKit
theorem clone_any (l : List Nat) (ao : Option Addr) (cap : Nat) (w : World) (hm : l.length ≤ 1000000000) (hU : U w ao l) :
  Calls Tryz.prog 195 #[.slice ao l.length cap] w fun e w' => (∃ (a2 : Option Addr) (c2 : Nat), e = .returned (.slice a2 l.length c2) ∧ l.length ≤ c2 ∧ Hid (U w' a2 l)) ∧ Below w.heap.size w w' := by
 cases ao with
 | none =>
  have hl : l = [] := by
   cases l with
   | nil => rfl
   | cons x r => obtain ⟨b, off, e, _⟩ := hU 0 (by simp); cases e
  subst hl;have hn := fun w : World => Lib.run_eql_slice_nil (P := Tryz.prog) w 30 133 none 0 cap 0 0 Tryz.underlying30
  simp only [Option.isNone_none] at hn;go_enter Tryz.func195, Tryz.ntmps195;go_wp2;go_ret;exact ⟨⟨none, 0, rfl, nl, hii (U.nil _ _)⟩, br⟩
 | some a =>
  have hn := fun w : World => Lib.run_eql_slice_nil (P := Tryz.prog) w 30 133 (some a) l.length cap 0 0 Tryz.underlying30
  simp only [Option.isNone_some] at hn;have hown := OwnU.lit0 w w.heap.size nl;have hUx := hU.mono (bA w (.cells #[] 133));go_enter Tryz.func195, Tryz.ntmps195;go_wp2_with (at_builtin; refine app_all_u32 _ rfl _ _ rfl w w.heap.size _ [] rfl hown (by simp) (bA w _) (some a) cap l rfl hUx (by simp; omega) ?_; intro v' w1 hown1 hb1);obtain ⟨a2, c2, rfl, hc2, hU2⟩ := hown1.read;simp only [List.nil_append] at hc2 hU2;go_ret;exact ⟨⟨a2, c2, rfl, hc2, hii hU2⟩, hb1⟩
def DivP (w' : World) (m n : Nat) (e : Ending) : Prop :=
 ∃ (a1 a2 : Option Addr) (Q R : List Nat) (c1 c2 : Nat), Hid (Q = Bi.limbs (m / n)) ∧ Hid (R = Bi.limbs (m % n)) ∧ Q.length ≤ c1 ∧ R.length ≤ c2 ∧
  e = .returned (.tuple #[.slice a1 Q.length c1, .slice a2 R.length c2]) ∧ Hid (U w' a1 Q) ∧ Hid (U w' a2 R)
theorem divide_lt (m n : Nat) (u v : List Nat) (Hu : Hid (u = Bi.limbs m)) (Hv : Hid (v = Bi.limbs n)) (au av : Option Addr) (cu cv : Nat) (w : World) (hmu : u.length ≤ 1000000000) (hmv : v.length ≤ 1000000000) (hlt : Hid (m < n))
  (hu : U w au u) (hv : U w av v) :
  Calls Tryz.prog 196 #[.slice au u.length cu, .slice av v.length cv] w fun e w' => DivP w' m n e ∧ Below w.heap.size w w' := by
 go_enter Tryz.func196, Tryz.ntmps196;go_wp2_with fail;(with_reducible refine (compare_any m n u v Hu Hv au av cu cv w ?_ ?_ hu hv).mono ?_)
 ·omega
 ·omega
 rintro e w1 ⟨rfl, hb1⟩;have hcmp : cmpN m n < 0 := by have := hlt.out; unfold cmpN; rw [if_pos this]; decide
 have hu1 := hu.mono hb1;clear hu hv;go_wp2_with fail;(with_reducible refine (clone_any u au cu w1 ?_ hu1).mono ?_)
 ·omega
 rintro e w2 ⟨⟨a2, c2, rfl, hc2, HU2⟩, hb2⟩;go_wp2;go_ret2;exact ⟨⟨none, a2, [], u, 0, c2, hii (by rw [Nat.div_eq_of_lt hlt.out]; rfl), hii (by rw [Nat.mod_eq_of_lt hlt.out]; exact Hu.out), nl, hc2, rfl, hii (U.nil _ _), HU2⟩, bu hb1 hb2⟩
end Go.Proofs.YtgfpbghgpdpepaaGreatDoor
namespace Go.Proofs.YtgfpbghgpdpepaaGreatDoor
open Go.RowKit
theorem U.lit1 (w : World) (Y : Int) (y : Nat) (t : TypeId) (h0 : Y = (y : Int)) : U (w.alloc (.cells #[.int .u32 Y] t)) (some ⟨w.heap.size, 0, none⟩) [y] := by
 subst h0;intro i h
 match i, h with
 | 0, _ => exact ⟨w.heap.size, 0, rfl, by simp [go_sem]⟩
 | i + 1, h => simp at h
theorem trim1 (w : World) (g : Nat) (hg : w.heap.size = g) (r : Nat) (hr : r < 1000000000) :
  Calls Tryz.prog 202 #[.slice (some ⟨g, 0, none⟩) 1 1] (w.alloc (.cells #[.int .u32 (r : Int)] 133)) fun e w' => (∃ (a2 : Option Addr) (c2 : Nat) (L : List Nat), Hid (L = Bi.limbs r) ∧ e = .returned (.slice a2 L.length c2) ∧ L.length ≤ c2 ∧ L.length ≤ 1 ∧ Hid (U w' a2 L)) ∧ Below w.heap.size w w' := by
 subst hg;refine (trim_any [r] (some ⟨w.heap.size, 0, none⟩) 1 _ (by simp) (by simp) (U.lit1 w r r 133 rfl)).mono ?_;rintro e w' ⟨L, hL, hl, rfl, hU, rfl⟩;have hok : Bi.Ok [r] := Bi.Ok.cons hr Bi.Ok.nil;refine ⟨⟨_, 1, L, hii ?_, rfl, by simpa using hl, by simpa using hl, hii hU⟩, bA _ _⟩;rw [hL, Bi.trim_eq_limbs hok];simp [Bi.val]
theorem divide_one (m n : Nat) (u : List Nat) (Hu : Hid (u = Bi.limbs m)) (au av : Option Addr) (cu cv : Nat) (w : World) (hmu : u.length ≤ 1000000000) (hn0 : 0 < n) (hn : n < 1000000000) (hle : Hid (n ≤ m))
  (hu : U w au u) (hv : U w av [n]) :
  Calls Tryz.prog 196 #[.slice au u.length cu, .slice av 1 cv] w fun e w' => DivP w' m n e ∧ Below w.heap.size w w' := by
 have Hv : Hid ([n] = Bi.limbs n) := hii (by have := Bi.limbs_cons (x := n) (n := 0) hn (by omega); simpa [Bi.limbs_zero] using this.symm);have Ho : Hid (Bi.Ok u) := hii (by rw [Hu.out]; exact Bi.limbs_ok _);have Hval : Hid (Bi.val u = m) := hii (by rw [Hu.out, Bi.val_limbs]);go_enter Tryz.func196, Tryz.ntmps196;go_wp2_with fail;have hc := compare_any m n u [n] Hu Hv au av cu cv w (by omega) (by simp) hu hv;rw [List.length_singleton] at hc;(with_reducible refine hc.mono ?_);clear hc;rintro e w1 ⟨rfl, hb1⟩;have hcmp : ¬ cmpN m n < 0 := by have := hle.out; unfold cmpN; rw [if_neg (by omega)]; split <;> omega
 have hu1 := hu.mono hb1;obtain ⟨b1, o1, rfl, hcv⟩ := (hv.mono hb1).at' (k := 0) (x := n) rfl;rw [Nat.add_zero] at hcv;clear hu hv;go_wp2_with fail;(with_reducible refine (short_any u n au cu w1 ?_ hn0 hn Ho.out hu1).mono ?_)
 ·omega
 rintro e w2 ⟨⟨a2, L, c2, r, HL, HR, hr, hl, hc2, rfl, HU2⟩, hb2⟩;go_wp2_with fail;(with_reducible refine (trim1 w2 _ rfl r hr).mono ?_);rintro e w3 ⟨⟨a3, c3, R, HR3, rfl, hc3, hl3, HU3⟩, hb3⟩;go_wp2;go_ret2;refine ⟨⟨a2, a3, L, R, c2, c3, hii ?_, hii ?_, hc2, hc3, rfl, hii (HU2.out.mono hb3), HU3⟩, Below.step (bu hb1 hb2) hb3 nl⟩
 ·rw [HL.out, Hval.out]
 ·rw [HR3.out, HR.out, Hval.out]
end Go.Proofs.YtgfpbghgpdpepaaGreatDoor
namespace Bi
theorem norm_top {t : Nat} (h1 : 1 ≤ t) (h2 : t < 1000000000) : 500000000 ≤ t * (1000000000 / (t + 1)) := by
 have hd : 1 ≤ 1000000000 / (t + 1) := by
  rw [Nat.le_div_iff_mul_le (by omega)]; omega
 generalize hD : 1000000000 / (t + 1) = d at *;have h3 : 1000000000 < (d + 1) * (t + 1) := by
  have := Nat.lt_mul_div_succ 1000000000 (show 0 < t + 1 by omega);rw [hD] at this;rw [Nat.mul_comm]; exact this
 rw [Nat.add_mul, Nat.one_mul, Nat.mul_add, Nat.mul_one] at h3;have h4 : d + t ≤ d * t + 1 := by
  obtain ⟨a, rfl⟩ : ∃ a, d = a + 1 := ⟨d - 1, by omega⟩;obtain ⟨b, rfl⟩ : ∃ b, t = b + 1 := ⟨t - 1, by omega⟩;rw [Nat.add_mul, Nat.mul_add];have : 0 ≤ a * b := Nat.zero_le _;omega
 have h5 : t * d = d * t := Nat.mul_comm _ _;omega
theorem val_split (l : List Nat) (k : Nat) (h : k ≤ l.length) : val l = val (l.take k) + 1000000000 ^ k * val (l.drop k) := by
 have := val_append (l.take k) (l.drop k);rw [List.take_append_drop, List.length_take, Nat.min_eq_left h] at this;exact this
theorem val_top {l : List Nat} {n x : Nat} (hl : l.length = n + 1) (hx : l[n]? = some x) : val l = val (l.take n) + 1000000000 ^ n * x := by
 rw [val_split l n (by omega)];have : l.drop n = [x] := by
  obtain ⟨h, e⟩ := List.getElem?_eq_some_iff.1 hx;rw [List.drop_eq_getElem_cons h, e, List.drop_eq_nil_of_le (by omega)]
 rw [this]; simp [val]
theorem val_take_lt {l : List Nat} (ho : Ok l) {k : Nat} (h : k ≤ l.length) : val (l.take k) < 1000000000 ^ k := by
 have := val_lt (ho.take k)
 rwa [List.length_take, Nat.min_eq_left h] at this
theorem norm_fit {v : List Nat} {n t : Nat} (ho : Ok v) (hl : v.length = n + 1) (ht : v[n]? = some t) : val v * (1000000000 / (t + 1)) < 1000000000 ^ (n + 1) := by
 have h1 := val_take_lt ho (k := n) (by omega);rw [val_top hl ht, Nat.pow_succ];have h2 : (1000000000 / (t + 1)) * (t + 1) ≤ 1000000000 := Nat.div_mul_le_self _ _;have hd : 1 ≤ 1000000000 / (t + 1) := by
  have := ho.at' ht;rw [Nat.le_div_iff_mul_le (by omega)]; omega
 generalize 1000000000 / (t + 1) = d at *;have h3 : (val (v.take n) + 1000000000 ^ n * t) * d < (1000000000 ^ n * (t + 1)) * d := by
  apply Nat.mul_lt_mul_of_pos_right _ hd
  rw [Nat.mul_add]; omega
 have h4 : (1000000000 ^ n * (t + 1)) * d ≤ 1000000000 ^ n * 1000000000 := by
  rw [Nat.mul_assoc, Nat.mul_comm (t + 1)];exact Nat.mul_le_mul_left _ h2
 omega
theorem norm_half {v ys : List Nat} {n t y : Nat} (ho : Ok v) (hoy : Ok ys) (hl : v.length = n + 1) (hly : ys.length = n + 1) (ht : v[n]? = some t) (ht0 : t ≠ 0) (hy : ys[n]? = some y) (hv : val ys = val v * (1000000000 / (t + 1))) : 500000000 ≤ y := by
 have h1 := norm_top (t := t) (by omega) (ho.at' ht);have h2 := val_take_lt hoy (k := n) (by omega);rw [val_top hly hy, val_top hl ht, Nat.add_mul] at hv;generalize 1000000000 / (t + 1) = d at *;have h3 : 1000000000 ^ n * (t * d) < 1000000000 ^ n * (y + 1) := by
  rw [Nat.mul_add, ← Nat.mul_assoc]; omega
 have := Nat.lt_of_mul_lt_mul_left h3;omega
theorem val_seg {l : List Nat} {j m : Nat} (h : j + m ≤ l.length) : val l = val (l.take j) + 1000000000 ^ j * val ((l.drop j).take m) + 1000000000 ^ (j + m) * val (l.drop (j + m)) := by
 rw [val_split l j (by omega), val_split (l.drop j) m (by simp; omega), List.drop_drop, Nat.mul_add, ← Nat.mul_assoc, ← Nat.pow_add];omega
theorem seg_high {l : List Nat} {j m P : Nat} (h : j + m ≤ l.length) (hlt : val l < P) (hP : P ≤ 1000000000 ^ (j + m)) : val (l.drop (j + m)) = 0 := by
 have h1 := val_seg h;rcases Nat.eq_zero_or_pos (val (l.drop (j + m))) with h0 | h0
 ·exact h0
 ·have : 1000000000 ^ (j + m) * 1 ≤ 1000000000 ^ (j + m) * val (l.drop (j + m)) := Nat.mul_le_mul_left _ h0;omega
theorem same_drop {a b : List Nat} {k : Nat} (h : ∀ j, k ≤ j → a[j]? = b[j]?) : a.drop k = b.drop k := by
 apply List.ext_getElem?
 intro j;rw [List.getElem?_drop, List.getElem?_drop];exact h _ (by omega)
theorem same_take {a b : List Nat} {k : Nat} (h : ∀ j, j < k → a[j]? = b[j]?) : a.take k = b.take k := by
 apply List.ext_getElem?
 intro j
 by_cases hj : j < k
 ·rw [List.getElem?_take_of_lt hj, List.getElem?_take_of_lt hj]; exact h j hj
 ·rw [List.getElem?_take_eq_none (by omega), List.getElem?_take_eq_none (by omega)]
theorem val_three {l : List Nat} {n x0 x1 x2 : Nat} (hl : l.length = n + 3) (h0 : l[n + 2]? = some x0) (h1 : l[n + 1]? = some x1) (h2 : l[n]? = some x2) :
  val l = ((x0 * 1000000000 + x1) * 1000000000 + x2) * 1000000000 ^ n + val (l.take n) := by
 have e := val_take_succ l n;have e1 := val_take_succ l (n + 1);have e2 := val_take_succ l (n + 2);rw [getD_of h2] at e;rw [getD_of h1, Nat.pow_succ] at e1;rw [getD_of h0, Nat.pow_succ, Nat.pow_succ] at e2;rw [List.take_of_length_le (by omega)] at e2;rw [e2, e1, e, Nat.add_mul, Nat.add_mul, Nat.add_mul];have a1 : x0 * 1000000000 * 1000000000 * 1000000000 ^ n = 1000000000 ^ n * 1000000000 * 1000000000 * x0 := by
  rw [Nat.mul_comm, Nat.mul_comm x0, Nat.mul_comm (1000000000 * x0), ← Nat.mul_assoc, ← Nat.mul_assoc]
 have a2 : x1 * 1000000000 * 1000000000 ^ n = 1000000000 ^ n * 1000000000 * x1 := by
  rw [Nat.mul_comm, Nat.mul_comm x1, ← Nat.mul_assoc]
 have a3 : x2 * 1000000000 ^ n = 1000000000 ^ n * x2 := Nat.mul_comm _ _;omega
theorem val_two {l : List Nat} {n x0 x1 : Nat} (hl : l.length = n + 2) (h0 : l[n + 1]? = some x0) (h1 : l[n]? = some x1) :
  val l = (x0 * 1000000000 + x1) * 1000000000 ^ n + val (l.take n) := by
 have e := val_take_succ l n;have e1 := val_take_succ l (n + 1);rw [getD_of h1] at e;rw [getD_of h0, Nat.pow_succ] at e1;rw [List.take_of_length_le (by omega)] at e1;rw [e1, e, Nat.add_mul];have a2 : x0 * 1000000000 * 1000000000 ^ n = 1000000000 ^ n * 1000000000 * x0 := by
  rw [Nat.mul_comm, Nat.mul_comm x0, ← Nat.mul_assoc]
 have a3 : x1 * 1000000000 ^ n = 1000000000 ^ n * x1 := Nat.mul_comm _ _;omega
theorem div_start {u v : List Nat} {k M t d : Nat} (hou : Ok u) (hul : u.length = M + (k + 2)) (hvl : v.length = k + 2) (ht : v[k + 1]? = some t) (ht0 : t ≠ 0) (hd : 1 ≤ d) : val u * d < val v * d * 1000000000 ^ (M + 1) := by
 rw [Nat.mul_assoc, Nat.mul_comm d, ← Nat.mul_assoc]
 apply Nat.mul_lt_mul_of_pos_right _ hd
 have h1 := val_lt hou;rw [hul, show M + (k + 2) = (k + 1) + (M + 1) by omega, Nat.pow_add] at h1;have h2 : 1000000000 ^ (k + 1) * 1 ≤ val v := by
  rw [val_top (n := k + 1) hvl ht];have : 1000000000 ^ (k + 1) * 1 ≤ 1000000000 ^ (k + 1) * t := Nat.mul_le_mul_left _ (by omega);omega
 have h3 := Nat.mul_le_mul_right (1000000000 ^ (M + 1)) h2;rw [Nat.mul_one] at h3;omega
theorem div_begin {xs ys : List Nat} {J L V : Nat} (hJ : L ≤ J) (hx : val xs = V) : val xs + val ys * (1000000000 ^ J * val ((List.replicate L 0).drop J)) = V := by
 rw [List.drop_eq_nil_of_le (by simpa using hJ)];simp [val, hx]
theorem div_start' {u v xs ys : List Nat} {k M t d J : Nat} (hou : Ok u) (hul : u.length = M + (k + 2)) (hvl : v.length = k + 2) (ht : v[k + 1]? = some t) (ht0 : t ≠ 0) (hd : 1 ≤ d) (hx : val xs = val u * d) (hy : val ys = val v * d) (hJ : J = M + 1) :
  val xs < val ys * 1000000000 ^ J := by
 rw [hx, hy, hJ]; exact div_start hou hul hvl ht ht0 hd
theorem div_end {Z Q m n d : Nat} (hd : 1 ≤ d) (h1 : Z + n * d * Q = m * d) (h2 : Z < n * d) : Q = m / n ∧ Z / d = m % n := by
 have hn : 0 < n := by
  rcases Nat.eq_zero_or_pos n with h | h
  ·subst h; simp at h2
  ·exact h
 have e1 : n * d * Q = (n * Q) * d := by rw [Nat.mul_assoc, Nat.mul_comm d, ← Nat.mul_assoc]
 rw [e1] at h1;have h3 : n * Q ≤ m := by
  apply Nat.le_of_mul_le_mul_right _ (show 0 < d by omega)
  omega
 obtain ⟨r, rfl⟩ : ∃ r, m = n * Q + r := ⟨m - n * Q, by omega⟩;rw [Nat.add_mul] at h1;have hZ : Z = r * d := by omega
 have hr : r < n := by
  rw [hZ] at h2;exact Nat.lt_of_mul_lt_mul_right h2
 subst hZ;rw [Nat.mul_add_div hn, Nat.div_eq_of_lt hr, Nat.mul_add_mod, Nat.mod_eq_of_lt hr, Nat.mul_div_cancel _ (by omega)];exact ⟨by omega, rfl⟩
theorem val_take_small {l : List Nat} {k : Nat} (hk : k ≤ l.length) (h : val l < 1000000000 ^ k) : val (l.take k) = val l := by
 have h1 := val_split l k hk;rcases Nat.eq_zero_or_pos (val (l.drop k)) with h0 | h0
 ·rw [h0] at h1; omega
 ·have : 1000000000 ^ k * 1 ≤ 1000000000 ^ k * val (l.drop k) := Nat.mul_le_mul_left _ h0;omega
end Bi
