/-
  The examples of the chapter, plain.
-/
import Derived.Test.YtackeigdehfmmaaGreatDoorG1
import Derived.Lib.Strings
import Derived.Test.YtackeigdehfmmaaGreatDoorG6
namespace Wl
open Go

theorem CInv.app_ok {S c : Nat} {s : St} (h : CInv S c s) (hc : c ≤ 1000) {r : Bs} (hr : r.length ≤ 500) (hl : s.all.length < s.first + (S - 2)) :
    CInv S (c + 1) ⟨s.d.wrt (place (S - 2) s.all.length) (enc ((s.all.length : Nat) : Int) r), s.all ++ [r], s.first, s.synced⟩ := by
  obtain ⟨hd, _, _, h3⟩ := h.log hc
  have hfs := h.fs
  have hsa := h.sa
  have hac := h.ac
  have hlen : (s.all.drop s.first).length = s.all.length - s.first := by simp
  have e : s.first + (s.all.drop s.first).length = s.all.length := by rw [hlen]; omega
  have ha : s.d.app r = (s.d.wrt (place (S - 2) s.all.length) (enc ((s.all.length : Nat) : Int) r), s.all.length, 0) := by
    unfold Dk.app
    rw [h3]
    simp only
    rw [e, h.ok.now, if_neg (by rw [hlen]; unfold lim; omega)]
  rcases h.app hc hr with h' | ⟨d', h', hi⟩
  · rw [ha] at h'
    have := congrArg (fun x => x.2.2) h'
    simp at this
  · rw [ha] at h'
    have := congrArg Prod.fst h'
    simp only at this
    rw [this]; exact hi

/-- what the crash of the examples leaves -/
theorem ex_crash {d2 : Dk} (c2 : CInv 4 2 ⟨d2, [[97], [98]], 0, 0⟩) (hch : d2.changed = [2, 3]) : ∃ h3 : Nat, log (d2.crash [2, 1]).now = some ⟨h3, 0, []⟩ ∧ log (d2.crash [2, 1]).rec'.1.now = some ⟨h3, 0, []⟩ := by
  obtain ⟨h3, g, l3, _, _⟩ := c2.crash (by omega) [2, 1]
  have l3' : log (d2.crash [2, 1]).now = some ⟨h3, 0, (([[97], [98]] : List Bs).drop 0).take g⟩ := l3
  have hl : (d2.crash [2, 1]).now.length = 4 := (c2.ok.crash [2, 1]).now
  have hsec : dec ((d2.crash [2, 1]).now.getD 2 []) = none := by
    have hd := ap_done d2 [2, 1] d2.changed.length 0 (Nat.le_refl _) (by rw [hch]; decide) (by rw [hch, c2.ok.now]; decide)
    have hp : d2.changed.getD 0 0 = 2 := by rw [hch]; rfl
    rw [hp] at hd
    have he : (d2.crash [2, 1]).now = ap d2 [2, 1] d2.changed.length := rfl
    rw [he, hd]
    have hn : d2.now.getD 2 [] = encB 0 [97] := by
      have hr := c2.recAt 0 (Nat.le_refl _) (by simp)
      rw [show place (4 - 2) 0 = 2 from rfl] at hr
      rw [hr]
      congr 1
    rw [hn]
    exact dec_half
  generalize d2.crash [2, 1] = e3 at *
  obtain ⟨_, _, hr⟩ := log_some l3'
  simp only [hl] at hr
  have hnil : recs e3.now 2 (1 + 1) 0 = [] := recs_stop (f := 1) (k := 0) (by rw [show place 2 0 = 2 from rfl]; exact hsec)
  have l3'' : log e3.now = some ⟨h3, 0, []⟩ := by
    rw [l3']
    congr 2
    exact hr.trans hnil
  refine ⟨h3, l3'', ?_⟩
  have he : e3.rec'.1.now = swp e3.now (used (e3.now.length - 2) 0 ([] : List Bs).length) e3.now.length := by
    unfold Dk.rec' Dk.syn; simp only [l3'']
  have hs := log_swp l3''
  simp only at hs
  rw [he, hs]

theorem changed_of {d : Dk} (h : d.dirty = [false, false, true, true]) : d.changed = [2, 3] := by
  unfold Dk.changed; rw [h]; rfl

theorem fmt_dirty : ((Dk.new 4).fmt.1).dirty = [false, false, false, false] := by
  unfold Dk.fmt; rw [if_neg (by simp [Dk.new])]; rfl

/-- the disks of the examples -/
theorem examples : ∃ (d0 d1 d2 : Dk) (h0 h1 h2 h3 : Nat), d0 = (Dk.new 4).fmt.1 ∧ d1 = d0.wrt (place (4 - 2) 0) (enc ((0 : Nat) : Int) [97]) ∧ d2 = d1.wrt (place (4 - 2) 1) (enc ((1 : Nat) : Int) [98]) ∧
    log d0.now = some ⟨h0, 0, []⟩ ∧ log d1.now = some ⟨h1, 0, [[97]]⟩ ∧ log d2.now = some ⟨h2, 0, [[97], [98]]⟩ ∧ log (d2.crash [2, 1]).now = some ⟨h3, 0, []⟩ ∧ log (d2.crash [2, 1]).rec'.1.now = some ⟨h3, 0, []⟩ := by
  obtain ⟨d0, hd0⟩ : ∃ d0, d0 = (Dk.new 4).fmt.1 := ⟨_, rfl⟩
  have c0 : CInv 4 0 ⟨d0, [], 0, 0⟩ := by rw [hd0]; exact (CInv.start (S := 4) (by omega) (Dk.new 4) (by simp [Dk.new])).1
  have y0 : d0.dirty = [false, false, false, false] := by rw [hd0]; exact fmt_dirty
  obtain ⟨d1, hd1⟩ : ∃ d1, d1 = d0.wrt (place (4 - 2) 0) (enc ((0 : Nat) : Int) [97]) := ⟨_, rfl⟩
  have c1 : CInv 4 1 ⟨d1, [[97]], 0, 0⟩ := by rw [hd1]; exact c0.app_ok (r := [97]) (by omega) (by decide) (by simp)
  have y1 : d1.dirty = [false, false, true, false] := by rw [hd1]; show d0.dirty.set (place 2 0) true = _; rw [y0]; rfl
  obtain ⟨d2, hd2⟩ : ∃ d2, d2 = d1.wrt (place (4 - 2) 1) (enc ((1 : Nat) : Int) [98]) := ⟨_, rfl⟩
  have c2 : CInv 4 2 ⟨d2, [[97], [98]], 0, 0⟩ := by rw [hd2]; exact c1.app_ok (r := [98]) (by omega) (by decide) (by simp)
  have y2 : d2.dirty = [false, false, true, true] := by rw [hd2]; show d1.dirty.set (place 2 1) true = _; rw [y1]; rfl
  obtain ⟨h0, _, _, l0⟩ := c0.log (by omega)
  obtain ⟨h1, _, _, l1⟩ := c1.log (by omega)
  obtain ⟨h2, _, _, l2⟩ := c2.log (by omega)
  obtain ⟨h3, l3, l4⟩ := ex_crash c2 (changed_of y2)
  exact ⟨d0, d1, d2, h0, h1, h2, h3, hd0, hd1, hd2, l0, l1, l2, l3, l4⟩

theorem ex_head : Lib.hasPrefix (encB 3 [97, 98]) [119, 51, 32, 50, 32] = true := by
  have h3 : txt 3 = [51] := by rw [txt_eq, Lib.decDigits_one (by decide)]; rfl
  have h2 : txt 2 = [50] := by rw [txt_eq, Lib.decDigits_one (by decide)]; rfl
  unfold encB Lib.hasPrefix
  rw [h3, show ([97, 98] : Bs).length = 2 from rfl, h2]
  simp [List.isPrefixOf]

theorem ex_tail : Lib.hasSuffix (encB 3 [97, 98]) [10, 97, 98] = true := by
  unfold Lib.hasSuffix
  rw [List.isSuffixOf_iff_suffix, encB_head]
  exact ⟨headB 3 [97, 98], rfl⟩

end Wl

namespace Go.Proofs.YtackeigdehfmmaaGreatDoor
open Go.RowKit

theorem Made.cx {w w' : World} {S p : Nat} {G : Nat → Prop} {v : Value} (h : Made w w' S p G v) (hE : Env w) (hb : Below w.heap.size w w') : Cx w' G :=
  ⟨fun _ hV => hE.mono (hb.trans (hV.below h.lo hb.size)), h.hi⟩

theorem Disk.kept {w w' : World} {G : Nat → Prop} {p S : Nat} {d : Wl.Dk} (h : Disk w G p S d) (hb : Below w.heap.size w w') : Disk w' G p S d := h.mono hb

theorem Prefix_true (s t : Wl.Bs) (w : World) (h : Hid (Lib.hasPrefix s t = true)) :
    Calls Tryz.prog 24 #[sv s, sv t] w fun e w' => e = .returned (.bool true) ∧ w = w' := by
  refine (Tryz.strings_HasPrefix ⟨s.toArray⟩ ⟨t.toArray⟩ w).mono ?_
  rintro e w' ⟨he, rfl⟩
  refine ⟨?_, rfl⟩
  rw [he]
  show Ending.returned (.bool (Lib.hasPrefix s t)) = _
  rw [h.out]
theorem Suffix_true (s t : Wl.Bs) (w : World) (hs : s.length ≤ 1000000) (h : Hid (Lib.hasSuffix s t = true)) :
    Calls Tryz.prog 25 #[sv s, sv t] w fun e w' => e = .returned (.bool true) ∧ w = w' := by
  refine (Tryz.strings_HasSuffix ⟨s.toArray⟩ ⟨t.toArray⟩ w (by simp [ByteArray.size]; omega)).mono ?_
  rintro e w' ⟨he, rfl⟩
  refine ⟨?_, rfl⟩
  rw [he]
  show Ending.returned (.bool (Lib.hasSuffix s t)) = _
  rw [h.out]

set_option maxRecDepth 100000 in
set_option maxHeartbeats 6400000 in
theorem awake_any (w : World) (hE : Env w) :
    Calls Tryz.prog 7 #[] w fun e w' => e = .returned (.bool true) ∧ Below w.heap.size w w' := by
  obtain ⟨d0, d1, d2, h0, h1, h2, h3, hd0, hd1, hd2, l0, l1, l2, l3, l4⟩ := Wl.examples
  have hEn := Encode_yes 3 [97, 98] w (by unfold Wl.lim; omega) (by decide) hE
  have HP := Lib.hid Wl.ex_head
  have HS := Lib.hid Wl.ex_tail
  have hsl : (Wl.encB 3 [97, 98]).length ≤ 65100 := Wl.encB_len (by unfold Wl.lim; omega) (by decide)
  generalize Wl.encB 3 [97, 98] = s at *
  have hMa := fun w hE => made_any 4 w (by omega) (by omega) hE
  rw [show ((4 : Nat) : Int) = 4 from rfl] at hMa
  rw [show ((3 : Nat) : Int) = 3 from rfl] at hEn
  go_enter Tryz.func7, Tryz.ntmps7
  go_wp2_with fail
  (with_reducible refine hEn.mono ?_)
  rintro e w1 ⟨rfl, hb1⟩
  have hE1 := hE.mono hb1
  clear hEn
  go_wp2_with fail
  (with_reducible refine (hMa w1 hE1).mono ?_)
  rintro e w2 ⟨⟨p, G, v, rfl, HM⟩, hb2⟩
  have hD := HM.disk
  have hCx := HM.cx hE1 hb2
  have hlo : ∀ b, G b → w.heap.size ≤ b := fun b hb => Nat.le_trans hb1.size (HM.lo b hb)
  have HLO := Lib.hid hlo
  obtain ⟨a1, c1, a2, c2, a3, c3, rfl, -⟩ := HM.ref
  rw [← hd0] at hD
  have hb := Below.step hb1 hb2 (Nat.le_refl _)
  clear hMa hE1 HM hb1 hb2 hlo hd0
  go_upto_region 3 with fail
  have hb3 := below_alloc w2 (.cells #[.slice a1 4 c1, .slice a2 4 c2, .slice a3 4 c3] 28)
  have hD := hD.mono hb3
  have hCx := hCx.mono hb3
  have hb := Below.step hb hb3 (Nat.le_refl _)
  generalize w2.alloc (.cells #[.slice a1 4 c1, .slice a2 4 c2, .slice a3 4 c3] 28) = w3 at *
  clear hb3
  go_wp2_with fail
  (with_reducible refine (Prefix_true s [119, 51, 32, 50, 32] _ HP).mono ?_)
  rintro e w' ⟨rfl, rfl⟩
  go_wp2_with fail
  (with_reducible refine (Suffix_true s [10, 97, 98] _ (by omega) HS).mono ?_)
  rintro e w' ⟨rfl, rfl⟩
  clear HP HS hsl
  have hA1 : Calls Tryz.prog 26 #[.pointer (some ⟨p, 0, none⟩), sv [97]] w3 fun e w' => e = .returned (.tuple #[.int .i64 0, .int .i64 0]) ∧ Disk w' G p 4 (d0.wrt (Wl.place (4 - 2) 0) (Wl.enc ((0 : Nat) : Int) [97])) ∧ Kept G w3 w' :=
    Append_ok [97] ⟨h0, 0, []⟩ hD hCx.env (Lib.hid l0) (by simp) (by simp) (by simp [Wl.lim])
  rw [← hd1] at hA1
  go_wp2_with fail
  (with_reducible refine hA1.mono ?_)
  rintro e w4 ⟨rfl, hD, hk4⟩
  have hCx := hCx.kept hk4
  have hb := hb.trans (hk4.below HLO.out hb.size)
  clear hA1 hk4 hd1 l0
  have hA2 : Calls Tryz.prog 26 #[.pointer (some ⟨p, 0, none⟩), sv [98]] w4 fun e w' => e = .returned (.tuple #[.int .i64 1, .int .i64 0]) ∧ Disk w' G p 4 (d1.wrt (Wl.place (4 - 2) 1) (Wl.enc ((1 : Nat) : Int) [98])) ∧ Kept G w4 w' :=
    Append_ok [98] ⟨h1, 0, [[97]]⟩ hD hCx.env (Lib.hid l1) (by simp) (by simp) (by simp [Wl.lim])
  rw [← hd2] at hA2
  go_wp2_with fail
  (with_reducible refine hA2.mono ?_)
  rintro e w5 ⟨rfl, hD, hk5⟩
  have hCx := hCx.kept hk5
  have hb := hb.trans (hk5.below HLO.out hb.size)
  clear hA2 hk5 hd2 l1
  have hA3 : Calls Tryz.prog 26 #[.pointer (some ⟨p, 0, none⟩), sv [99]] w5 fun e w' => e = .returned (.tuple #[.int .i64 0, .int .i64 3]) ∧ Below w5.heap.size w5 w' :=
    Append_full [99] ⟨h2, 0, [[97], [98]]⟩ hD hCx.env (Lib.hid l2) (by simp) (.inr (.inl (by simp)))
  go_wp2_with fail
  (with_reducible refine hA3.mono ?_)
  rintro e w6 ⟨rfl, hb6⟩
  have hD := hD.mono hb6
  have hCx := hCx.mono hb6
  have hb := Below.step hb hb6 (Nat.le_refl _)
  clear hA3 hb6 l2
  go_wp2_with fail
  have hlt6 := hCx.lt
  have hb7 := below_alloc w6 (.cells #[.int .u8 2, .int .u8 1] 5)
  have hD := hD.mono hb7
  have hCx := hCx.mono hb7
  have hb := Below.step hb hb7 (Nat.le_refl _)
  have hr7 : Row (w6.alloc (.cells #[.int .u8 2, .int .u8 1] 5)) w6.heap.size 5 (uvs [2, 1]) := heap_alloc_new _ _
  have hn7 : ¬ G w6.heap.size := fun hg => Nat.lt_irrefl _ (hlt6 _ hg)
  generalize w6.alloc (.cells #[.int .u8 2, .int .u8 1] 5) = w7 at *
  have hCr : Calls Tryz.prog 11 #[.pointer (some ⟨p, 0, none⟩), .slice (some ⟨w6.heap.size, 0, none⟩) 2 2] w7 fun e w' => e = .returned (.int .i64 d2.changed.length) ∧ Disk w' G p 4 (d2.crash [2, 1]) ∧ Kept G w7 w' :=
    Crash_any [2, 1] (some ⟨w6.heap.size, 0, none⟩) 2 hD hCx.lt (hr7.rg hn7) (by decide)
  (with_reducible refine hCr.mono ?_)
  rintro e w8 ⟨rfl, hD, hk8⟩
  have hCx := hCx.kept hk8
  have hb := hb.trans (hk8.below HLO.out hb.size)
  clear hCr hk8 hr7 hn7 hb7 hlt6
  generalize d2.crash [2, 1] = d3 at *
  generalize d2.changed.length = nn at *
  have hRe := Recover_some ⟨h3, 0, []⟩ hD hCx (Lib.hid l3)
  go_wp2_with fail
  (with_reducible refine hRe.mono ?_)
  rintro e w9 ⟨⟨vv, rfl, hown⟩, hD, hk9⟩
  obtain ⟨ao, cap, rfl, hcap, -⟩ := hown.read
  have hCx := hCx.kept hk9
  have hb := hb.trans (hk9.below HLO.out hb.size)
  simp only [List.map_nil, List.length_nil] at hcap ⊢
  clear hRe hk9 hown l3
  have hA5 : Calls Tryz.prog 26 #[.pointer (some ⟨p, 0, none⟩), sv [100]] w9 fun e w' => e = .returned (.tuple #[.int .i64 0, .int .i64 0]) ∧ Disk w' G p 4 (d3.rec'.1.wrt (Wl.place (4 - 2) 0) (Wl.enc ((0 : Nat) : Int) [100])) ∧ Kept G w9 w' :=
    Append_ok [100] ⟨h3, 0, []⟩ hD hCx.env (Lib.hid l4) (by simp) (by simp) (by simp [Wl.lim])
  go_wp2_with fail
  (with_reducible refine hA5.mono ?_)
  rintro e w10 ⟨rfl, hD, hk10⟩
  have hb := hb.trans (hk10.below HLO.out hb.size)
  clear hA5
  go_wp2
  go_ret
  exact ⟨rfl, hb⟩

end Go.Proofs.YtackeigdehfmmaaGreatDoor

namespace Go.Proofs.YtackeigdehfmmaaGreatDoor
open Go.RowKit

section
variable {ops : Array Oper} {rest : List Oper} {o : Oper} {a : Act} {Q : Exit → Act → World → Prop}

/-- append(out, x) of one cell, out from block B on: what lies below stays -/
theorem app_v2 (w : World) (x : Value) (T E : TypeId) (bytes : Nat) (z : Value) (hgd : o.guard = none) (s y : Operand) (ho : o.op = .call { callee := .builtin .append, args := #[s, y], argTypes := #[T, T] })
    (hT : Tryz.prog.underlying T = some (.slice E)) (hE : (Tryz.prog.info? E).map (fun i => (i.zero, i.size, i.bytes)) = some (some z, 1, bytes)) (hz : z.cells.size = 1) (hby : bytes ≤ 16)
    (B : Nat) (v : Value) (l : List Value) (hs : a.eval s = v) (hown : OwnV w B E v l) (hB : B ≤ w.heap.size) (h1x : x.oneCell' = true)
    (hx : a.eval y = .slice (some ⟨w.heap.size, 0, none⟩) 1 1) (hl : l.length ≤ 1000000000)
    (hK : ∀ v' w', OwnV w' B E v' (l ++ [x]) → Kept (fun b => B ≤ b) w w' → wpList Tryz.prog ops Q rest (a.put o.dst v') w') :
    wpList Tryz.prog ops Q (o :: rest) a (w.alloc (.cells #[x] E)) := by
  obtain ⟨i0, hi, hz0, hz1, hz2⟩ := info_parts hE
  refine wpList_append_own _ hgd s y T ho B E i0 z 1 bytes hT hi hz0 hz1 hz2 hz (by decide) v l.length l hs (World.ownsRow.alloc hown _) ⟨w.heap.size, 0, none⟩ 1 1 [x] hx rfl ?_ ?_ ?_ ?_ ?_ ?_
  · intro j u hj
    match j, hj with
    | 0, hj => simp at hj; subst hj; simp [Addr.add]
  · intro u hu; simp at hu; subst hu; exact h1x
  · unfold maxLen; omega
  · have := Nat.mul_le_mul_left (l.length + 1) hby; omega
  · simp; omega
  · intro v' w' h1 h2 _
    refine hK v' w' ?_ ?_
    · unfold OwnV
      rw [List.length_append]
      exact h1
    · have hba := (Kept.refl (G := fun b => B ≤ b) w).alloc (.cells #[x] E)
      refine ⟨h2.os.trans hba.os, h2.tape.trans hba.tape, h2.output.trans hba.output, Nat.le_trans hba.size h2.size, fun k hk hg => ?_⟩
      have hks := hba.size
      refine (h2.block k (by omega) (fun e => ?_)).trans (hba.block k hk hg)
      have := (World.ownsRow.lt hown k e.symm).1
      have hg' : ¬ B ≤ k := hg
      omega
end

theorem Disk.keptG {w w' : World} {G H : Nat → Prop} {p S : Nat} {d : Wl.Dk} (h : Disk w G p S d) (hk : Kept H w w') (hp : ¬ H p) (hn : ∀ g, G g → ¬ H g) : Disk w' G p S d := by
  obtain ⟨g1, g2, g3, h⟩ := h
  exact ⟨g1, g2, g3, hk.cell h.c0 hp, hk.cell h.c1 hp, hk.cell h.c2 hp, h.np, h.G1, h.G2, h.G3, h.n12, h.n13, h.n23, h.r1.mono hk (hn _ h.G1), h.r2.mono hk (hn _ h.G2), h.r3.mono hk (hn _ h.G3), h.ok, h.lo, h.hi⟩
theorem Disk.p_lt {w : World} {G : Nat → Prop} {p S : Nat} {d : Wl.Dk} (h : Disk w G p S d) : p < w.heap.size := by
  obtain ⟨g1, g2, g3, h⟩ := h
  exact cell_lt h.c0
theorem Kept.thenB {w w' w'' : World} {G : Nat → Prop} (h : Kept G w w') (k : Kept (fun b => w.heap.size ≤ b) w' w'') : Kept G w w'' :=
  ⟨k.os.trans h.os, k.tape.trans h.tape, k.output.trans h.output, Nat.le_trans h.size k.size, fun i hi hg => (k.block i (Nat.lt_of_lt_of_le hi h.size) (by omega)).trans (h.block i hi hg)⟩

end Go.Proofs.YtackeigdehfmmaaGreatDoor

namespace Go.Proofs.YtackeigdehfmmaaGreatDoor
open Go.RowKit

section
variable {w : World} {G : Nat → Prop} {S : Nat} {d : Wl.Dk}

set_option maxRecDepth 100000 in
theorem rplace_any (k : Nat) {a1 a2 a3 : Option Addr} {c1 c2 c3 : Nat} (h4 : 4 ≤ S) (h8 : S ≤ 1024) (hk : k ≤ 1000000000000000) :
    Calls Tryz.prog 51 #[.agg #[.slice a1 S c1, .slice a2 S c2, .slice a3 S c3], .int .i64 k] w fun e w' => e = .returned (.int .i64 (Wl.place (S - 2) k : Nat)) ∧ Below w.heap.size w w' := by
  have e1 : (2 : Int) + (k : Int) % ((S : Int) - 2) = ((Wl.place (S - 2) k : Nat) : Int) := by
    unfold Wl.place
    rw [Int.natCast_add, Int.natCast_emod, show ((S - 2 : Nat) : Int) = (S : Int) - 2 by omega]; rfl
  have H1 := Lib.hid e1
  have hm1 : 0 ≤ (k : Int) % ((S : Int) - 2) := Int.emod_nonneg _ (by omega)
  have hm2 : (k : Int) % ((S : Int) - 2) < (S : Int) - 2 := Int.emod_lt_of_pos _ (by omega)
  clear e1
  go_enter Tryz.func51, Tryz.ntmps51
  go_upto_region 1 with fail
  have hb := below_alloc w (.cells #[.slice a1 S c1, .slice a2 S c2, .slice a3 S c3] 28)
  have x0 := (show Row (w.alloc (.cells #[.slice a1 S c1, .slice a2 S c2, .slice a3 S c3] 28)) w.heap.size 28 [.slice a1 S c1, .slice a2 S c2, .slice a3 S c3] from heap_alloc_new _ _).cell (k := 0) (by simp)
  simp only [List.getElem_cons_zero] at x0
  generalize w.alloc (.cells #[.slice a1 S c1, .slice a2 S c2, .slice a3 S c3] 28) = w1 at *
  go_wp2
  go_ret
  exact ⟨by rw [← H1.out]; rfl, hb⟩

theorem bvs_at (l : List Bool) {k : Nat} (h : k < l.length) (h' : k < (bvs l).length) : (bvs l)[k]'h' = .bool (l.getD k false) := by
  simp [List.getD_eq_getElem?_getD, List.getElem?_eq_getElem h]

set_option maxRecDepth 100000 in
set_option maxHeartbeats 1600000 in
theorem rChanged_any {a1 a2 a3 : Option Addr} {c1 c2 c3 : Nat} (h : RefD w G S a1 a2 a3 d) :
    Calls Tryz.prog 41 #[.agg #[.slice a1 S c1, .slice a2 S c2, .slice a3 S c3]] w fun e w' => NewV w 3 (nvs d.changed) e w' ∧ Below w.heap.size w w' := by
  have hS := h.hi
  have H := Lib.hid h
  have K2 := Lib.hid h.ok.dirty
  clear h
  go_enter Tryz.func41, Tryz.ntmps41
  go_upto_region 1 with fail
  have hb := below_alloc w (.cells #[.slice a1 S c1, .slice a2 S c2, .slice a3 S c3] 28)
  have x2 := (show Row (w.alloc (.cells #[.slice a1 S c1, .slice a2 S c2, .slice a3 S c3] 28)) w.heap.size 28 [.slice a1 S c1, .slice a2 S c2, .slice a3 S c3] from heap_alloc_new _ _).cell (k := 2) (by simp)
  simp only [List.getElem_cons_zero, List.getElem_cons_succ] at x2
  generalize w.alloc (.cells #[.slice a1 S c1, .slice a2 S c2, .slice a3 S c3] 28) = w1 at *
  have hD := Lib.hid (H.out.dirty.mono (Kept.of_below hb))
  generalize hn : w.heap.size = n1 at *
  have HB := Lib.hid hb
  clear hb
  go_wp2_with fail
  go_loopw [3, 4] (fun v c wr => ∃ k : Nat, k ≤ S ∧ c = .int .i64 k ∧ OwnV wr w1.heap.size 3 v (nvs (Wl.chg d.dirty k)) ∧ Kept (fun _ => False) w1 wr) (fun _ c _ => S - (intOf c).toNat)
  case atStart => exact ⟨0, Nat.zero_le _, rfl, OwnV.nil _ _ _, Kept.refl _⟩
  case round =>
    obtain ⟨k, hk, rfl, hown, hkp⟩ := hrel
    have x2 := hkp.cell x2 (fun h => h)
    by_cases hlt : k < S
    · obtain ⟨b, off, rfl, -, a3⟩ := (hD.out.mono (Kept.of_below hkp.to)).at' (k := k) (by simp [K2.out]; exact hlt)
      rw [bvs_at _ (by rw [K2.out]; exact hlt)] at a3
      have hln := Wl.chg_len d.dirty k
      by_cases hd : d.dirty.getD k false = true
      · have hs : Wl.chg d.dirty (k + 1) = Wl.chg d.dirty k ++ [k] := by rw [Wl.chg, if_pos hd]
        have HS := Lib.hid hs
        rw [hd] at a3
        clear hd hs
        go_wp2_with (at_builtin; refine app_v _ (.int .i64 (k : Int)) 73 3 8 (.int .i64 0) rfl (.tmp 17) (.tmp 19) rfl Tryz.underlying73 Tryz.info3 rfl (by omega) w1 w1.heap.size _ (nvs (Wl.chg d.dirty k)) rfl hown hkp.size (fun _ => False) hkp (Nat.le_refl _) rfl rfl (by simp; omega) ?_; intro v2 wz hown2 hkp2 hsz2)
        go_roundw
        case rel => exact ⟨k + 1, by omega, by go_num, by rw [HS.out]; simpa using hown2, hkp2⟩
        case measure => simp [intOf]; omega
      · have hs : Wl.chg d.dirty (k + 1) = Wl.chg d.dirty k := by rw [Wl.chg, if_neg hd]
        have HS := Lib.hid hs
        rw [Bool.eq_false_iff.2 hd] at a3
        clear hd hs
        go_wp2
        go_roundw
        case rel => exact ⟨k + 1, by omega, by go_num, by rw [HS.out]; exact hown, hkp⟩
        case measure => simp [intOf]; omega
    · have hkS : k = S := by omega
      go_wp2
      go_ret
      subst hn
      exact ⟨⟨_, rfl, by unfold Wl.Dk.changed; rw [K2.out, ← hkS]; exact hown.weak HB.out.size⟩, HB.out.trans (hkp.below (fun _ h => h.elim) HB.out.size)⟩

end

end Go.Proofs.YtackeigdehfmmaaGreatDoor

namespace Go.Proofs.YtackeigdehfmmaaGreatDoor
open Go.RowKit

section
variable {w : World} {G : Nat → Prop} {p S : Nat} {d : Wl.Dk}

theorem Room_none (h : Disk w G p S d) (hE : Env w) (hl : Hid (Wl.log d.now = none)) :
    Calls Tryz.prog 13 #[.pointer (some ⟨p, 0, none⟩)] w fun e w' => e = .returned (.tuple #[.int .i64 0, .int .i64 21]) ∧ Below w.heap.size w w' := by
  have hF := records_none h hE hl
  clear h hE hl
  go_enter Tryz.func13, Tryz.ntmps13
  go_wp2_with fail
  (with_reducible refine hF.mono ?_)
  rintro e w1 ⟨rfl, hb1⟩
  go_wp2
  go_ret2
  exact ⟨rfl, hb1⟩

theorem Room_some (L : Wl.Log) (h : Disk w G p S d) (hE : Env w) (hl : Hid (Wl.log d.now = some L)) :
    Calls Tryz.prog 13 #[.pointer (some ⟨p, 0, none⟩)] w fun e w' => e = .returned (.tuple #[.int .i64 ((S - 2 - L.recs.length : Nat) : Int), .int .i64 0]) ∧ Below w.heap.size w w' := by
  have hF := records_some L h hE hl
  obtain ⟨_, h2, h3, h4⟩ := Wl.log_le hl.out
  rw [h.ok.now] at h3 h4
  have hS := h.S_le
  have hq : (S : Int) - 2 - (L.recs.length : Int) = ((S - 2 - L.recs.length : Nat) : Int) := by omega
  have HQ := Lib.hid hq
  have hvl : (svs L.recs).length = L.recs.length := List.length_map ..
  go_enter Tryz.func13, Tryz.ntmps13
  go_wp2_with fail
  (with_reducible refine hF.mono ?_)
  rintro e w1 ⟨⟨v, rfl, hown⟩, hb1⟩
  obtain ⟨ao, cap, rfl, hcap, -⟩ := hown.read
  rw [hvl] at hcap ⊢
  have hL := Len_any (h.mono hb1)
  clear hq hF hown
  go_wp2_with fail
  (with_reducible refine hL.mono ?_)
  rintro e w' ⟨rfl, rfl⟩
  go_wp2
  go_ret2
  exact ⟨by rw [← HQ.out]; rfl, hb1⟩
end

end Go.Proofs.YtackeigdehfmmaaGreatDoor
