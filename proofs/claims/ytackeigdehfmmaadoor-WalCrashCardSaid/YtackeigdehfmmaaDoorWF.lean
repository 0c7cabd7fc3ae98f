import Derived.Test.YtackeigdehfmmaaDoorWE
namespace Go.Proofs.YtackeigdehfmmaaDoor
open Go.RowKit

theorem nvs_get {l : List Nat} {k : Nat} (h : k < l.length) : (nvs l)[k]'(by simpa using h) = .int .i64 ((l.getD k 0 : Nat) : Int) := by
  simp [List.getD_eq_getElem?_getD, List.getElem?_eq_getElem h]

abbrev uvs (l : List Nat) : List Value := l.map fun (n : Nat) => Value.int .u8 (n : Int)

theorem uvs_get {l : List Nat} {k : Nat} (h : k < l.length) : (uvs l)[k]'(by simpa using h) = .int .u8 ((l.getD k 0 : Nat) : Int) := by
  simp [List.getD_eq_getElem?_getD, List.getElem?_eq_getElem h]

theorem set_same {l : List Wl.Bs} {i : Nat} : l.set i (l.getD i []) = l := by
  refine List.ext_getElem? fun j => ?_
  by_cases hj : i = j
  · subst hj
    by_cases hl : i < l.length
    · rw [List.getElem?_set_self hl, List.getD_eq_getElem?_getD, List.getElem?_eq_getElem hl]; rfl
    · rw [List.getElem?_eq_none (by simp; omega), List.getElem?_eq_none (by omega)]
  · rw [List.getElem?_set_ne hj]

/-- the disk where one more dirty sector has met the crash -/
theorem ap_next_at {w : World} {G : Nat → Prop} {p S g1 g2 g3 : Nat} {d : Wl.Dk} {bits : List Nat} {k i b : Nat} {s : Wl.Bs} (h : DiskAt w G p S g1 g2 g3 ⟨Wl.ap d bits k, d.old, d.dirty⟩) (hok : d.Ok S) (hi : d.changed.getD k 0 = i)
    (hb : Wl.bit bits k = b) (hs : Wl.left b (d.old.getD i []) (d.now.getD i []) = s) : DiskAt (w.setCell ⟨g1, i, none⟩ (sv s)) G p S g1 g2 g3 ⟨Wl.ap d bits (k + 1), d.old, d.dirty⟩ := by
  have hsm : s.length ≤ 65536 := by rw [← hs]; exact Wl.left_small (Wl.getD_small hok.small' _) (Wl.getD_small hok.small _)
  have := h.setNow i hsm
  have e : Wl.ap d bits (k + 1) = (Wl.ap d bits k).set i s := by
    show (Wl.ap d bits k).set (d.changed.getD k 0) _ = _
    rw [hi, hb, hs]
  rw [e]; exact this

theorem ap_same_at {w : World} {G : Nat → Prop} {p S g1 g2 g3 : Nat} {d : Wl.Dk} {bits : List Nat} {k i b : Nat} (h : DiskAt w G p S g1 g2 g3 ⟨Wl.ap d bits k, d.old, d.dirty⟩) (hk : k < d.changed.length) (hi : d.changed.getD k 0 = i)
    (hb : Wl.bit bits k = b) (hs : Wl.left b (d.old.getD i []) (d.now.getD i []) = d.now.getD i []) : DiskAt w G p S g1 g2 g3 ⟨Wl.ap d bits (k + 1), d.old, d.dirty⟩ := by
  have e : Wl.ap d bits (k + 1) = Wl.ap d bits k := by
    show (Wl.ap d bits k).set (d.changed.getD k 0) _ = _
    rw [hi, hb, hs]
    have := Wl.ap_next d bits hk
    rw [hi] at this
    rw [← this, set_same]
  rw [e]; exact h

theorem half_ba (s : Wl.Bs) : (⟨s.toArray⟩ : ByteArray).extract 0 (s.length / 2) = ⟨(s.take (s.length / 2)).toArray⟩ := by
  rw [extract_ba]; simp

section
variable {w : World} {G : Nat → Prop} {p S : Nat} {d : Wl.Dk}

set_option maxRecDepth 100000 in
set_option maxHeartbeats 3200000 in
theorem Crash_any (bits : List Nat) (ab : Option Addr) (cb : Nat) (h : Disk w G p S d) (hG : ∀ b, G b → b < w.heap.size) (hB : RG w G ab (uvs bits)) (hbl : bits.length ≤ 1000000) :
    Calls Tryd.prog 17 #[.pointer (some ⟨p, 0, none⟩), .slice ab bits.length cb] w fun e w' => e = .returned (.int .i64 d.changed.length) ∧ Disk w' G p S (d.crash bits) ∧ Kept G w w' := by
  have hD := Dirty_any h
  obtain ⟨g1, g2, g3, h⟩ := h
  have H := Lib.hid h
  have hS := h.hi
  have k2 := h.ok.dirty
  have K2 := Lib.hid k2
  have hcl : d.changed.length ≤ 1024 := by
    have := Wl.chg_len d.dirty d.dirty.length
    unfold Wl.Dk.changed; omega
  clear h k2
  go_enter Tryd.func17, Tryd.ntmps17
  go_wp2_with fail
  (with_reducible refine hD.mono ?_)
  rintro e w1 ⟨⟨v, rfl, hown⟩, hb1⟩
  have hk1 : Kept G w w1 := Kept.of_below hb1
  have H := Lib.hid (H.out.below hb1)
  have hB := hB.mono hk1
  obtain ⟨ao, cap, rfl, -, hL0⟩ := hown.read
  have hL := hL0 G hG
  simp only [List.length_map] at *
  clear hown hL0 hb1 hD hG
  go_wp2_with fail
  go_loopw [13] (fun c wr => ∃ k : Nat, k ≤ d.changed.length ∧ c = .int .i64 k ∧ DiskAt wr G p S g1 g2 g3 ⟨Wl.ap d bits k, d.old, d.dirty⟩ ∧ Kept G w1 wr) (fun c _ => d.changed.length - (intOf c).toNat)
  case atStart => exact ⟨0, Nat.zero_le _, rfl, H.out, Kept.refl _⟩
  case round =>
    obtain ⟨k, hk, rfl, hd, hkp⟩ := hrel
    by_cases hlt : k < d.changed.length
    · obtain ⟨i, hi⟩ : ∃ i, d.changed.getD k 0 = i := ⟨_, rfl⟩
      have hiS : i < S := by
        have hm : d.changed.getD k 0 ∈ d.changed := by rw [List.getD_eq_getElem?_getD, List.getElem?_eq_getElem hlt]; exact List.getElem_mem hlt
        have := (Wl.chg_lt _ _ _ hm).1
        rw [hi, K2.out] at this; exact this
      obtain ⟨b2, off2, rfl, hb2, cl⟩ := (hL.mono hkp).at' (k := k) (by simpa using hlt)
      rw [nvs_get hlt, hi] at cl
      have a1 := hd.now hiS
      have e1 := Wl.ap_next d bits hlt
      rw [hi] at e1
      simp only [e1] at a1
      have a2 := hd.old hiS
      have hso : (d.old.getD i []).length ≤ 65536 := Wl.getD_small H.out.ok.small' _
      have hsn : (d.now.getD i []).length ≤ 65536 := Wl.getD_small H.out.ok.small _
      obtain ⟨so, hso'⟩ : ∃ s, s = d.old.getD i [] := ⟨_, rfl⟩
      obtain ⟨sn, hsn'⟩ : ∃ s, s = d.now.getD i [] := ⟨_, rfl⟩
      simp only at a2
      rw [← hso'] at a2 hso
      rw [← hsn'] at a1 hsn
      have HO := Lib.hid hso'
      have HN := Lib.hid hsn'
      have HI := Lib.hid hi
      have c0 := hd.c0
      have c1 := hd.c1
      have f1 := hd.r1.free i
      have HD := Lib.hid hd
      clear hd hi e1 hso' hsn' hb2
      by_cases hkb : k < bits.length
      · obtain ⟨b3, off3, rfl, hb3, cb3⟩ := (hB.mono hkp).at' (k := k) (by simpa using hkb)
        rw [uvs_get hkb] at cb3
        obtain ⟨q, hq⟩ : ∃ q, bits.getD k 0 = q := ⟨_, rfl⟩
        rw [hq] at cb3
        have HQ := Lib.hid hq
        have HKB := Lib.hid hkb
        have hkb2 : decide (k < bits.length) = true := by simpa using hkb
        clear hkb hq hb3
        have hr4 : q % 4 = 0 ∨ q % 4 = 1 ∨ q % 4 = 2 ∨ q % 4 = 3 := by omega
        rcases hr4 with hr | hr | hr | hr
        · have HB : Hid (Wl.bit bits k = 0) := Lib.hid (by unfold Wl.bit; rw [if_pos HKB.out]; rw [HQ.out]; exact hr)
          have t0 : (((q : Int) % 4) == 0) = true := by simp; omega
          have t2 : (((q : Int) % 4) == 2) = false := by simp; omega
          have t3 : (((q : Int) % 4) == 3) = false := by simp; omega
          clear hr
          go_wp2
          go_region
          go_wp2
          go_roundw
          case rel => exact ⟨k + 1, by omega, by go_num, (ap_next_at HD.out H.out.ok HI.out HB.out (by unfold Wl.left; rw [if_pos rfl, HO.out])).drew, (hkp.setCell HD.out.G1 _).drew⟩
          case measure => simp [intOf]; omega
        · have HB : Hid (Wl.bit bits k = 1) := Lib.hid (by unfold Wl.bit; rw [if_pos HKB.out]; rw [HQ.out]; exact hr)
          have t0 : (((q : Int) % 4) == 0) = false := by simp; omega
          have t2 : (((q : Int) % 4) == 2) = false := by simp; omega
          have t3 : (((q : Int) % 4) == 3) = false := by simp; omega
          clear hr
          go_wp2
          go_roundw
          case rel => exact ⟨k + 1, by omega, by go_num, ap_same_at HD.out hlt HI.out HB.out (by unfold Wl.left; rw [if_neg (by decide), if_neg (by decide), if_neg (by decide)]), hkp⟩
          case measure => simp [intOf]; omega
        · have HB : Hid (Wl.bit bits k = 2) := Lib.hid (by unfold Wl.bit; rw [if_pos HKB.out]; rw [HQ.out]; exact hr)
          have t0 : (((q : Int) % 4) == 0) = false := by simp; omega
          have t2 : (((q : Int) % 4) == 2) = true := by simp; omega
          have t3 : (((q : Int) % 4) == 3) = false := by simp; omega
          clear hr
          go_wp2
          go_region
          rw [half_ba sn]
          go_wp2
          go_roundw
          case rel => exact ⟨k + 1, by omega, by go_num, (ap_next_at HD.out H.out.ok HI.out HB.out (by unfold Wl.left; rw [if_neg (by decide), if_pos rfl, HN.out])).drew, (hkp.setCell HD.out.G1 _).drew⟩
          case measure => simp [intOf]; omega
        · have HB : Hid (Wl.bit bits k = 3) := Lib.hid (by unfold Wl.bit; rw [if_pos HKB.out]; rw [HQ.out]; exact hr)
          have t0 : (((q : Int) % 4) == 0) = false := by simp; omega
          have t2 : (((q : Int) % 4) == 2) = false := by simp; omega
          have t3 : (((q : Int) % 4) == 3) = true := by simp; omega
          clear hr
          go_wp2
          go_roundw
          case rel => exact ⟨k + 1, by omega, by go_num, ap_next_at (s := []) HD.out H.out.ok HI.out HB.out (by unfold Wl.left; rw [if_neg (by decide), if_neg (by decide), if_pos rfl]), hkp.setCell HD.out.G1 _⟩
          case measure => simp [intOf]; omega
      · have hkb2 : decide (k < bits.length) = false := by simpa using hkb
        have HB : Hid (Wl.bit bits k = 0) := Lib.hid (by unfold Wl.bit; rw [if_neg hkb])
        clear hkb
        go_wp2
        go_region
        go_wp2
        go_roundw
        case rel => exact ⟨k + 1, by omega, by go_num, (ap_next_at HD.out H.out.ok HI.out HB.out (by unfold Wl.left; rw [if_pos rfl, HO.out])).drew, (hkp.setCell HD.out.G1 _).drew⟩
        case measure => simp [intOf]; omega
    · have hkl : k = d.changed.length := by omega
      have hds : Disk wr G p S ⟨Wl.ap d bits d.changed.length, d.old, d.dirty⟩ := ⟨g1, g2, g3, hkl ▸ hd⟩
      clear hd
      go_wp2_with fail
      (with_reducible refine (Sync_any hds).mono ?_)
      rintro e w3 ⟨rfl, hd3, hk3⟩
      go_wp2
      go_ret
      exact ⟨rfl, hd3, (hk1.trans hkp).trans hk3⟩
end

end Go.Proofs.YtackeigdehfmmaaDoor
