import Derived.Test.YtackeigdehfmmaaDoorWC
import Derived.Lib.Strings
/-
  The examples of the chapter, plain.
-/
namespace Wl
open Go

theorem CInv.app_ok {S c : Nat} {s : St} (h : CInv S c s) (hc : c ≤ 1000) {r : Bs} (hr : r.length ≤ 500) (hl : s.all.length < s.first + (S - 2)) :
    CInv S (c + 1) ⟨s.d.wrt (place (S - 2) s.all.length) (enc ((s.all.length : Nat) : Int) r), s.all ++ [r], s.first, s.synced⟩ := by
  obtain ⟨hd, _, _, h3⟩ := h.log hc
  have hfs := h.fs
  have hsa := h.sa
  have hac := h.ac
  have hlen : (s.all.drop s.first).length = s.all.length - s.first := by simp
  have e : s.first + (s.all.drop s.first).length = s.all.length := by rw [hlen]; omega
  have ha : s.d.app r = (s.d.wrt (place (S - 2) s.all.length) (enc ((s.all.length : Nat) : Int) r), s.all.length, 0) := by
    unfold Dk.app
    rw [h3]
    simp only
    rw [e, h.ok.now, if_neg (by rw [hlen]; unfold lim; omega)]
  rcases h.app hc hr with h' | ⟨d', h', hi⟩
  · rw [ha] at h'
    have := congrArg (fun x => x.2.2) h'
    simp at this
  · rw [ha] at h'
    have := congrArg Prod.fst h'
    simp only at this
    rw [this]; exact hi

/-- what the crash of the examples leaves -/
theorem ex_crash {d2 : Dk} (c2 : CInv 4 2 ⟨d2, [[97], [98]], 0, 0⟩) (hch : d2.changed = [2, 3]) : ∃ h3 : Nat, log (d2.crash [2, 1]).now = some ⟨h3, 0, []⟩ ∧ log (d2.crash [2, 1]).rec'.1.now = some ⟨h3, 0, []⟩ := by
  obtain ⟨h3, g, l3, _, _⟩ := c2.crash (by omega) [2, 1]
  have l3' : log (d2.crash [2, 1]).now = some ⟨h3, 0, (([[97], [98]] : List Bs).drop 0).take g⟩ := l3
  have hl : (d2.crash [2, 1]).now.length = 4 := (c2.ok.crash [2, 1]).now
  have hsec : dec ((d2.crash [2, 1]).now.getD 2 []) = none := by
    have hd := ap_done d2 [2, 1] d2.changed.length 0 (Nat.le_refl _) (by rw [hch]; decide) (by rw [hch, c2.ok.now]; decide)
    have hp : d2.changed.getD 0 0 = 2 := by rw [hch]; rfl
    rw [hp] at hd
    have he : (d2.crash [2, 1]).now = ap d2 [2, 1] d2.changed.length := rfl
    rw [he, hd]
    have hn : d2.now.getD 2 [] = encB 0 [97] := by
      have hr := c2.recAt 0 (Nat.le_refl _) (by simp)
      rw [show place (4 - 2) 0 = 2 from rfl] at hr
      rw [hr]
      congr 1
    rw [hn]
    exact dec_half
  generalize d2.crash [2, 1] = e3 at *
  obtain ⟨_, _, hr⟩ := log_some l3'
  simp only [hl] at hr
  have hnil : recs e3.now 2 (1 + 1) 0 = [] := recs_stop (f := 1) (k := 0) (by rw [show place 2 0 = 2 from rfl]; exact hsec)
  have l3'' : log e3.now = some ⟨h3, 0, []⟩ := by
    rw [l3']
    congr 2
    exact hr.trans hnil
  refine ⟨h3, l3'', ?_⟩
  have he : e3.rec'.1.now = swp e3.now (used (e3.now.length - 2) 0 ([] : List Bs).length) e3.now.length := by
    unfold Dk.rec' Dk.syn; simp only [l3'']
  have hs := log_swp l3''
  simp only at hs
  rw [he, hs]

theorem changed_of {d : Dk} (h : d.dirty = [false, false, true, true]) : d.changed = [2, 3] := by
  unfold Dk.changed; rw [h]; rfl

theorem fmt_dirty : ((Dk.new 4).fmt.1).dirty = [false, false, false, false] := by
  unfold Dk.fmt; rw [if_neg (by simp [Dk.new])]; rfl

/-- the disks of the examples -/
theorem examples : ∃ (d0 d1 d2 : Dk) (h0 h1 h2 h3 : Nat), d0 = (Dk.new 4).fmt.1 ∧ d1 = d0.wrt (place (4 - 2) 0) (enc ((0 : Nat) : Int) [97]) ∧ d2 = d1.wrt (place (4 - 2) 1) (enc ((1 : Nat) : Int) [98]) ∧
    log d0.now = some ⟨h0, 0, []⟩ ∧ log d1.now = some ⟨h1, 0, [[97]]⟩ ∧ log d2.now = some ⟨h2, 0, [[97], [98]]⟩ ∧ log (d2.crash [2, 1]).now = some ⟨h3, 0, []⟩ ∧ log (d2.crash [2, 1]).rec'.1.now = some ⟨h3, 0, []⟩ := by
  obtain ⟨d0, hd0⟩ : ∃ d0, d0 = (Dk.new 4).fmt.1 := ⟨_, rfl⟩
  have c0 : CInv 4 0 ⟨d0, [], 0, 0⟩ := by rw [hd0]; exact (CInv.start (S := 4) (by omega) (Dk.new 4) (by simp [Dk.new])).1
  have y0 : d0.dirty = [false, false, false, false] := by rw [hd0]; exact fmt_dirty
  obtain ⟨d1, hd1⟩ : ∃ d1, d1 = d0.wrt (place (4 - 2) 0) (enc ((0 : Nat) : Int) [97]) := ⟨_, rfl⟩
  have c1 : CInv 4 1 ⟨d1, [[97]], 0, 0⟩ := by rw [hd1]; exact c0.app_ok (r := [97]) (by omega) (by decide) (by simp)
  have y1 : d1.dirty = [false, false, true, false] := by rw [hd1]; show d0.dirty.set (place 2 0) true = _; rw [y0]; rfl
  obtain ⟨d2, hd2⟩ : ∃ d2, d2 = d1.wrt (place (4 - 2) 1) (enc ((1 : Nat) : Int) [98]) := ⟨_, rfl⟩
  have c2 : CInv 4 2 ⟨d2, [[97], [98]], 0, 0⟩ := by rw [hd2]; exact c1.app_ok (r := [98]) (by omega) (by decide) (by simp)
  have y2 : d2.dirty = [false, false, true, true] := by rw [hd2]; show d1.dirty.set (place 2 1) true = _; rw [y1]; rfl
  obtain ⟨h0, _, _, l0⟩ := c0.log (by omega)
  obtain ⟨h1, _, _, l1⟩ := c1.log (by omega)
  obtain ⟨h2, _, _, l2⟩ := c2.log (by omega)
  obtain ⟨h3, l3, l4⟩ := ex_crash c2 (changed_of y2)
  exact ⟨d0, d1, d2, h0, h1, h2, h3, hd0, hd1, hd2, l0, l1, l2, l3, l4⟩

theorem ex_head : Lib.hasPrefix (encB 3 [97, 98]) [119, 51, 32, 50, 32] = true := by
  have h3 : txt 3 = [51] := by rw [txt_eq, Lib.decDigits_one (by decide)]; rfl
  have h2 : txt 2 = [50] := by rw [txt_eq, Lib.decDigits_one (by decide)]; rfl
  unfold encB Lib.hasPrefix
  rw [h3, show ([97, 98] : Bs).length = 2 from rfl, h2]
  simp [List.isPrefixOf]

theorem ex_tail : Lib.hasSuffix (encB 3 [97, 98]) [10, 97, 98] = true := by
  unfold Lib.hasSuffix
  rw [List.isSuffixOf_iff_suffix, encB_head]
  exact ⟨headB 3 [97, 98], rfl⟩

end Wl
