import Derived.Test.YtackeigdehfmmaaDoorYI
import Derived.Test.YtackeigdehfmmaaDoorWA
namespace Go.Proofs.YtackeigdehfmmaaDoor
open Go.RowKit

theorem Made.cx {w w' : World} {S p : Nat} {G : Nat → Prop} {v : Value} (h : Made w w' S p G v) (hE : Env w) (hb : Below w.heap.size w w') : Cx w' G :=
  ⟨fun _ hV => hE.mono (hb.trans (hV.below h.lo hb.size)), h.hi⟩

theorem Disk.kept {w w' : World} {G : Nat → Prop} {p S : Nat} {d : Wl.Dk} (h : Disk w G p S d) (hb : Below w.heap.size w w') : Disk w' G p S d := h.mono hb

theorem Prefix_true (s t : Wl.Bs) (w : World) (h : Hid (Lib.hasPrefix s t = true)) :
    Calls Tryd.prog 21 #[sv s, sv t] w fun e w' => e = .returned (.bool true) ∧ w = w' := by
  refine (Tryd.strings_HasPrefix ⟨s.toArray⟩ ⟨t.toArray⟩ w).mono ?_
  rintro e w' ⟨he, rfl⟩
  refine ⟨?_, rfl⟩
  rw [he]
  show Ending.returned (.bool (Lib.hasPrefix s t)) = _
  rw [h.out]
theorem Suffix_true (s t : Wl.Bs) (w : World) (hs : s.length ≤ 1000000) (h : Hid (Lib.hasSuffix s t = true)) :
    Calls Tryd.prog 22 #[sv s, sv t] w fun e w' => e = .returned (.bool true) ∧ w = w' := by
  refine (Tryd.strings_HasSuffix ⟨s.toArray⟩ ⟨t.toArray⟩ w (by simp [ByteArray.size]; omega)).mono ?_
  rintro e w' ⟨he, rfl⟩
  refine ⟨?_, rfl⟩
  rw [he]
  show Ending.returned (.bool (Lib.hasSuffix s t)) = _
  rw [h.out]

set_option maxRecDepth 100000 in
set_option maxHeartbeats 6400000 in
theorem awake_any (w : World) (hE : Env w) :
    Calls Tryd.prog 6 #[] w fun e w' => e = .returned (.bool true) ∧ Below w.heap.size w w' := by
  obtain ⟨d0, d1, d2, h0, h1, h2, h3, hd0, hd1, hd2, l0, l1, l2, l3, l4⟩ := Wl.examples
  have hEn := Encode_yes 3 [97, 98] w (by unfold Wl.lim; omega) (by decide) hE
  have HP := Lib.hid Wl.ex_head
  have HS := Lib.hid Wl.ex_tail
  have hsl : (Wl.encB 3 [97, 98]).length ≤ 65100 := Wl.encB_len (by unfold Wl.lim; omega) (by decide)
  generalize Wl.encB 3 [97, 98] = s at *
  have hMa := fun w hE => made_any 4 w (by omega) (by omega) hE
  rw [show ((4 : Nat) : Int) = 4 from rfl] at hMa
  rw [show ((3 : Nat) : Int) = 3 from rfl] at hEn
  go_enter Tryd.func6, Tryd.ntmps6
  go_wp2_with fail
  (with_reducible refine hEn.mono ?_)
  rintro e w1 ⟨rfl, hb1⟩
  have hE1 := hE.mono hb1
  clear hEn
  go_wp2_with fail
  (with_reducible refine (hMa w1 hE1).mono ?_)
  rintro e w2 ⟨⟨p, G, v, rfl, HM⟩, hb2⟩
  have hD := HM.disk
  have hCx := HM.cx hE1 hb2
  have hlo : ∀ b, G b → w.heap.size ≤ b := fun b hb => Nat.le_trans hb1.size (HM.lo b hb)
  have HLO := Lib.hid hlo
  obtain ⟨a1, c1, a2, c2, a3, c3, rfl, -⟩ := HM.ref
  rw [← hd0] at hD
  have hb := Below.step hb1 hb2 (Nat.le_refl _)
  clear hMa hE1 HM hb1 hb2 hlo hd0
  go_upto_region 3 with fail
  have hb3 := below_alloc w2 (.cells #[.slice a1 4 c1, .slice a2 4 c2, .slice a3 4 c3] 36)
  have hD := hD.mono hb3
  have hCx := hCx.mono hb3
  have hb := Below.step hb hb3 (Nat.le_refl _)
  generalize w2.alloc (.cells #[.slice a1 4 c1, .slice a2 4 c2, .slice a3 4 c3] 36) = w3 at *
  clear hb3
  go_wp2_with fail
  (with_reducible refine (Prefix_true s [119, 51, 32, 50, 32] _ HP).mono ?_)
  rintro e w' ⟨rfl, rfl⟩
  go_wp2_with fail
  (with_reducible refine (Suffix_true s [10, 97, 98] _ (by omega) HS).mono ?_)
  rintro e w' ⟨rfl, rfl⟩
  clear HP HS hsl
  have hA1 : Calls Tryd.prog 14 #[.pointer (some ⟨p, 0, none⟩), sv [97]] w3 fun e w' => e = .returned (.tuple #[.int .i64 0, .int .i64 0]) ∧ Disk w' G p 4 (d0.wrt (Wl.place (4 - 2) 0) (Wl.enc ((0 : Nat) : Int) [97])) ∧ Kept G w3 w' :=
    Append_ok [97] ⟨h0, 0, []⟩ hD hCx.env (Lib.hid l0) (by simp) (by simp) (by simp [Wl.lim])
  rw [← hd1] at hA1
  go_wp2_with fail
  (with_reducible refine hA1.mono ?_)
  rintro e w4 ⟨rfl, hD, hk4⟩
  have hCx := hCx.kept hk4
  have hb := hb.trans (hk4.below HLO.out hb.size)
  clear hA1 hk4 hd1 l0
  have hA2 : Calls Tryd.prog 14 #[.pointer (some ⟨p, 0, none⟩), sv [98]] w4 fun e w' => e = .returned (.tuple #[.int .i64 1, .int .i64 0]) ∧ Disk w' G p 4 (d1.wrt (Wl.place (4 - 2) 1) (Wl.enc ((1 : Nat) : Int) [98])) ∧ Kept G w4 w' :=
    Append_ok [98] ⟨h1, 0, [[97]]⟩ hD hCx.env (Lib.hid l1) (by simp) (by simp) (by simp [Wl.lim])
  rw [← hd2] at hA2
  go_wp2_with fail
  (with_reducible refine hA2.mono ?_)
  rintro e w5 ⟨rfl, hD, hk5⟩
  have hCx := hCx.kept hk5
  have hb := hb.trans (hk5.below HLO.out hb.size)
  clear hA2 hk5 hd2 l1
  have hA3 : Calls Tryd.prog 14 #[.pointer (some ⟨p, 0, none⟩), sv [99]] w5 fun e w' => e = .returned (.tuple #[.int .i64 0, .int .i64 3]) ∧ Below w5.heap.size w5 w' :=
    Append_full [99] ⟨h2, 0, [[97], [98]]⟩ hD hCx.env (Lib.hid l2) (by simp) (.inr (.inl (by simp)))
  go_wp2_with fail
  (with_reducible refine hA3.mono ?_)
  rintro e w6 ⟨rfl, hb6⟩
  have hD := hD.mono hb6
  have hCx := hCx.mono hb6
  have hb := Below.step hb hb6 (Nat.le_refl _)
  clear hA3 hb6 l2
  go_wp2_with fail
  have hlt6 := hCx.lt
  have hb7 := below_alloc w6 (.cells #[.int .u8 2, .int .u8 1] 5)
  have hD := hD.mono hb7
  have hCx := hCx.mono hb7
  have hb := Below.step hb hb7 (Nat.le_refl _)
  have hr7 : Row (w6.alloc (.cells #[.int .u8 2, .int .u8 1] 5)) w6.heap.size 5 (uvs [2, 1]) := heap_alloc_new _ _
  have hn7 : ¬ G w6.heap.size := fun hg => Nat.lt_irrefl _ (hlt6 _ hg)
  generalize w6.alloc (.cells #[.int .u8 2, .int .u8 1] 5) = w7 at *
  have hCr : Calls Tryd.prog 17 #[.pointer (some ⟨p, 0, none⟩), .slice (some ⟨w6.heap.size, 0, none⟩) 2 2] w7 fun e w' => e = .returned (.int .i64 d2.changed.length) ∧ Disk w' G p 4 (d2.crash [2, 1]) ∧ Kept G w7 w' :=
    Crash_any [2, 1] (some ⟨w6.heap.size, 0, none⟩) 2 hD hCx.lt (hr7.rg hn7) (by decide)
  (with_reducible refine hCr.mono ?_)
  rintro e w8 ⟨rfl, hD, hk8⟩
  have hCx := hCx.kept hk8
  have hb := hb.trans (hk8.below HLO.out hb.size)
  clear hCr hk8 hr7 hn7 hb7 hlt6
  generalize d2.crash [2, 1] = d3 at *
  generalize d2.changed.length = nn at *
  have hRe := Recover_some ⟨h3, 0, []⟩ hD hCx (Lib.hid l3)
  go_wp2_with fail
  (with_reducible refine hRe.mono ?_)
  rintro e w9 ⟨⟨vv, rfl, hown⟩, hD, hk9⟩
  obtain ⟨ao, cap, rfl, hcap, -⟩ := hown.read
  have hCx := hCx.kept hk9
  have hb := hb.trans (hk9.below HLO.out hb.size)
  simp only [List.map_nil, List.length_nil] at hcap ⊢
  clear hRe hk9 hown l3
  have hA5 : Calls Tryd.prog 14 #[.pointer (some ⟨p, 0, none⟩), sv [100]] w9 fun e w' => e = .returned (.tuple #[.int .i64 0, .int .i64 0]) ∧ Disk w' G p 4 (d3.rec'.1.wrt (Wl.place (4 - 2) 0) (Wl.enc ((0 : Nat) : Int) [100])) ∧ Kept G w9 w' :=
    Append_ok [100] ⟨h3, 0, []⟩ hD hCx.env (Lib.hid l4) (by simp) (by simp) (by simp [Wl.lim])
  go_wp2_with fail
  (with_reducible refine hA5.mono ?_)
  rintro e w10 ⟨rfl, hD, hk10⟩
  have hb := hb.trans (hk10.below HLO.out hb.size)
  clear hA5
  go_wp2
  go_ret
  exact ⟨rfl, hb⟩

end Go.Proofs.YtackeigdehfmmaaDoor
