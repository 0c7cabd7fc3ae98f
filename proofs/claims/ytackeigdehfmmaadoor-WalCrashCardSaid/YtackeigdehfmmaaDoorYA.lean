import Derived.Test.YtackeigdehfmmaaDoorWZ
namespace Go.Proofs.YtackeigdehfmmaaDoor
open Go.RowKit

section
variable {w : World} {G : Nat → Prop} {p S : Nat} {d : Wl.Dk}

/-- a place of x, or -1 -/
def IdxR (l : List Nat) (x : Nat) (e : Ending) : Prop := ∃ k : Int, e = .returned (.int .i64 k) ∧ -1 ≤ k ∧ k ≤ 1000000 ∧ (0 ≤ k ↔ x ∈ l)

set_option maxHeartbeats 800000 in
theorem Index_any (l : List Nat) (x : Nat) (ao : Option Addr) (c : Nat) (hl : l.length ≤ 1000000) (hr : RG w (fun _ => False) ao (nvs l)) (hlb : ∀ y ∈ l, y ≤ 1000000) :
    Calls Tryd.prog 64 #[.slice ao l.length c, .int .i64 x] w fun e w' => IdxR l x e ∧ w = w' := by
  have HLB := Lib.hid hlb
  clear hlb
  go_enter Tryd.func64, Tryd.ntmps64
  go_wp2
  go_loop [8] (fun s8 => ∃ k : Nat, k ≤ l.length ∧ s8 = .int .i64 k ∧ Hid (x ∉ l.take k)) (fun s8 => l.length - (intOf s8).toNat)
  case atStart => exact ⟨0, Nat.zero_le _, rfl, Lib.hid (by simp)⟩
  case round =>
    obtain ⟨k, hk, rfl, HN⟩ := hrel
    by_cases hlt : k < l.length
    · obtain ⟨b, off, rfl, -, hc⟩ := hr.at' (k := k) (by simpa using hlt)
      rw [nvs_get hlt] at hc
      obtain ⟨y, hy⟩ : ∃ y, l.getD k 0 = y := ⟨_, rfl⟩
      rw [hy] at hc
      have hym : y ∈ l := by rw [← hy, List.getD_eq_getElem?_getD, List.getElem?_eq_getElem hlt]; exact List.getElem_mem hlt
      have hyb := HLB.out y hym
      have hyt : l.take (k + 1) = l.take k ++ [y] := by
        rw [List.take_succ_eq_append_getElem hlt, ← hy, List.getD_eq_getElem?_getD, List.getElem?_eq_getElem hlt]; rfl
      have HY := Lib.hid hym
      have HT := Lib.hid hyt
      clear hy hym hyt
      by_cases he : x = y
      · have hb2 : ((x : Int) == (y : Int)) = true := by simp; omega
        have HX : Hid (x = y) := Lib.hid he
        clear he
        go_wp2
        go_ret
        exact ⟨⟨k, rfl, by omega, by omega, fun _ => by rw [HX.out]; exact HY.out, fun _ => by omega⟩, rfl⟩
      · have hb2 : ((x : Int) == (y : Int)) = false := by simp; omega
        have HN2 : Hid (x ∉ l.take (k + 1)) := Lib.hid (by rw [HT.out]; simp only [List.mem_append, List.mem_singleton, not_or]; exact ⟨HN.out, he⟩)
        clear he
        go_wp2
        go_round
        case rel => exact ⟨k + 1, by omega, by go_num, HN2⟩
        case measure => simp [intOf]; omega
    · have HN2 : Hid (x ∉ l) := Lib.hid (by have := HN.out; rwa [List.take_of_length_le (by omega)] at this)
      go_wp2
      go_ret
      exact ⟨⟨-1, rfl, by omega, by omega, fun h => by omega, fun h => absurd h HN2.out⟩, rfl⟩

theorem Contains_any (l : List Nat) (x : Nat) (ao : Option Addr) (c : Nat) (hl : l.length ≤ 1000000) (hr : RG w (fun _ => False) ao (nvs l)) (hlb : ∀ y ∈ l, y ≤ 1000000) (q : Bool) (hq : Hid (q = true ↔ x ∈ l)) :
    Calls Tryd.prog 46 #[.slice ao l.length c, .int .i64 x] w fun e w' => e = .returned (.bool q) ∧ w = w' := by
  have hI := Index_any l x ao c hl hr hlb
  clear hlb hr
  go_enter Tryd.func46, Tryd.ntmps46
  go_wp2_with fail
  (with_reducible refine hI.mono ?_)
  rintro e w' ⟨⟨k, rfl, hk1, hk2, hiff⟩, rfl⟩
  have HI := Lib.hid hiff
  clear hI hiff
  have hqd : decide (0 ≤ k) = q := by
    cases q
    · simp only [decide_eq_false_iff_not]; exact fun h => absurd (hq.out.2 (HI.out.1 h)) (by simp)
    · simp only [decide_eq_true_eq]; exact HI.out.2 (hq.out.1 rfl)
  have HQ := Lib.hid hqd
  clear hqd
  go_wp2
  go_ret
  exact ⟨by rw [← HQ.out]; rfl, rfl⟩

theorem RG.weak {w : World} {G : Nat → Prop} {ao : Option Addr} {xs : List Value} (h : RG w G ao xs) : RG w (fun _ => False) ao xs := by
  intro i x hx
  obtain ⟨b, off, e, _, hc⟩ := h i x hx
  exact ⟨b, off, e, fun h => h, hc⟩

theorem Recover_none (h : Disk w G p S d) (hE : Env w) (hl : Hid (Wl.log d.now = none)) :
    Calls Tryd.prog 18 #[.pointer (some ⟨p, 0, none⟩)] w fun e w' => e = .returned (.tuple #[.slice none 0 0, .int .i64 0, .int .i64 21]) ∧ Below w.heap.size w w' := by
  have hF := records_none h hE hl
  clear h hE hl
  go_enter Tryd.func18, Tryd.ntmps18
  go_wp2_with fail
  (with_reducible refine hF.mono ?_)
  rintro e w1 ⟨rfl, hb1⟩
  go_wp2
  go_ret3
  exact ⟨rfl, hb1⟩

set_option maxRecDepth 100000 in
set_option maxHeartbeats 3200000 in
theorem Recover_some (L : Wl.Log) (h : Disk w G p S d) (hC : Cx w G) (hl : Hid (Wl.log d.now = some L)) :
    Calls Tryd.prog 18 #[.pointer (some ⟨p, 0, none⟩)] w fun e w' => RecsR w w' L e ∧ Disk w' G p S d.rec'.1 ∧ Kept G w w' := by
  have hF := records_some L h hC.env hl
  have hdr : d.rec'.1 = Wl.Dk.syn ⟨Wl.swp d.now (Wl.used (S - 2) L.first L.recs.length) S, d.old, d.dirty⟩ := by
    unfold Wl.Dk.rec'; rw [hl.out, ← h.ok.now]
  have HDR := Lib.hid hdr
  clear hdr
  obtain ⟨_, h2, h3, h4⟩ := Wl.log_le hl.out
  have hnl := h.ok.now
  rw [hnl] at h3 h4
  have HNL := Lib.hid hnl
  clear hnl
  have hS := h.S_le
  unfold Wl.lim at h2
  obtain ⟨b, hb0⟩ : ∃ b, b = L.first := ⟨_, rfl⟩
  obtain ⟨n, hn0⟩ : ∃ n, n = L.recs.length := ⟨_, rfl⟩
  rw [← hb0] at h2 HDR
  rw [← hn0] at h3 HDR
  have HB := Lib.hid hb0
  have HN := Lib.hid hn0
  clear hb0 hn0
  go_enter Tryd.func18, Tryd.ntmps18
  go_wp2_with fail
  (with_reducible refine hF.mono ?_)
  rintro e w1 ⟨⟨v, rfl, hown⟩, hb1⟩
  have HOWN := Lib.hid hown
  obtain ⟨ao, cap, rfl, hcap, -⟩ := hown.read
  simp only [List.length_map, ← HN.out, ← HB.out] at hcap HOWN ⊢
  have h1 := h.mono hb1
  have hC1 := hC.mono hb1
  have HLT := Lib.hid hC.lt
  clear hF hown h hC
  go_wp2_with fail
  go_loopw [8, 24] (fun s8 s24 wr => ∃ k : Nat, k ≤ n ∧ s24 = .int .i64 k ∧ OwnV wr w1.heap.size 3 s8 (nvs (Wl.usedL (S - 2) b k)) ∧ Below w1.heap.size w1 wr) (fun _ s24 _ => n - (intOf s24).toNat)
  case atStart => exact ⟨0, Nat.zero_le _, rfl, OwnV.nil _ _ _, Below.refl _ _⟩
  case round =>
    obtain ⟨k, hk, rfl, hou, hb⟩ := hrel
    have hulen : (Wl.usedL (S - 2) b k).length = k := by simp [Wl.usedL]
    by_cases hlt : k < n
    · have hP := place_any (b + k) (h1.mono hb) h4 (by omega)
      have hsu := Wl.usedL_succ (S - 2) b k
      rw [Int.natCast_add] at hP
      generalize Wl.place (S - 2) (b + k) = q at *
      have HSU := Lib.hid hsu
      have HUL := Lib.hid hulen
      clear hsu hulen
      go_wp2_with fail
      (with_reducible refine hP.mono ?_)
      rintro e w' ⟨rfl, rfl⟩
      clear hP
      go_wp2_with (at_builtin; refine app_v _ (.int .i64 (q : Int)) 86 3 8 (.int .i64 0) rfl (.tmp 27) (.tmp 33) rfl Tryd.underlying86 Tryd.info3 rfl (by omega) w1 w1.heap.size _ (nvs (Wl.usedL (S - 2) b k)) rfl hou hb.size (fun _ => False) (Kept.of_below hb) (Nat.le_refl _) rfl rfl (by simp [HUL.out]; omega) ?_; intro v2 w2 hown2 hkp2 hsz2)
      go_roundw
      case rel => exact ⟨k + 1, by omega, by go_num, by rw [HSU.out]; simpa using hown2, hkp2.to⟩
      case measure => simp [intOf]; omega
    · obtain rfl : k = n := by omega
      obtain ⟨ao2, cap2, rfl, hcap2, hRG0⟩ := hou.read
      have hRG := hRG0 G hC1.lt
      clear hRG0
      have hum : ∀ j, j ∈ Wl.usedL (S - 2) b k ↔ Wl.used (S - 2) b k j = true := fun j => Wl.usedL_iff
      have hub : ∀ y ∈ Wl.usedL (S - 2) b k, y ≤ 1000000 := by
        intro y hy
        obtain ⟨t, _, rfl⟩ := List.mem_map.1 hy
        have := (Wl.place_lt (m := S - 2) (k := b + t) (by omega)).2
        omega
      simp only [List.length_map] at hcap2 ⊢
      have hlu : (Wl.usedL (S - 2) b k).length ≤ 1000000 := by omega
      have HUM := Lib.hid hum
      have HUB := Lib.hid hub
      clear hum hub hulen hlt
      generalize Wl.usedL (S - 2) b k = ul at *
      generalize Wl.used (S - 2) b k = u at *
      have hsz := hb.size
      have hd1 := h1.mono hb
      have hC2 := hC1.mono hb
      clear h1 hou
      go_wp2_with fail
      obtain ⟨wl, rfl⟩ : ∃ wl : World, wl = wr := ⟨_, rfl⟩
      go_loopw [10] (fun s10 wr => ∃ (i : Nat) (dy : List Bool), i ≤ S ∧ 2 ≤ i ∧ s10 = .int .i64 i ∧ Disk wr G p S ⟨Wl.swp d.now u i, d.old, dy⟩ ∧ Kept G wl wr) (fun s10 _ => S - (intOf s10).toNat)
      case atStart =>
        refine ⟨2, d.dirty, by omega, by omega, rfl, ?_, Kept.refl _⟩
        have : Wl.swp d.now u 2 = d.now := by simp [Wl.swp]
        rw [this]; exact hd1
      case round =>
        obtain ⟨i, dy, hi, hi2, rfl, hd2, hkp⟩ := hrel
        have hL := Len_any hd2
        by_cases hlt2 : i < S
        · have hlt3 : (i : Int) < (S : Int) := by omega
          have hRd := Read_yes i hd2 hlt2
          have hab := Wl.swp_above d.now u i i (Nat.le_refl _)
          simp only [hab] at hRd
          clear hab
          by_cases hs : d.now.getD i [] = []
          · have HS2 : Hid (Wl.swp d.now u (i + 1) = Wl.swp d.now u i) := Lib.hid (Wl.swp_same d.now u (by rw [HNL.out]; exact hlt2) hs)
            rw [hs] at hRd
            clear hs
            go_wp2_with fail
            (with_reducible refine hL.mono ?_)
            rintro e w' ⟨rfl, rfl⟩
            go_wp2_with fail
            (with_reducible refine hRd.mono ?_)
            rintro e w' ⟨rfl, rfl⟩
            clear hL hRd
            go_wp2
            go_roundw
            case rel => exact ⟨i + 1, dy, by omega, by omega, by go_num, by rw [HS2.out]; exact hd2, hkp⟩
            case measure => simp [intOf]; omega
          · obtain ⟨s, hs0⟩ : ∃ s, d.now.getD i [] = s := ⟨_, rfl⟩
            rw [hs0] at hRd hs
            have hse : s.isEmpty = false := by simpa using hs
            have hse2 : (s == []) = false := by simpa using hs
            clear hs hs0
            have hRGr : RG wr (fun _ => False) ao2 (nvs ul) := (hRG.mono hkp).weak
            cases hu : u i with
            | true =>
              have HS2 : Hid (Wl.swp d.now u (i + 1) = Wl.swp d.now u i) := Lib.hid (by rw [Wl.swp, if_neg (by rw [hu]; simp)])
              have hCo := Contains_any ul i ao2 cap2 hlu hRGr HUB.out true (Lib.hid (by simp [HUM.out i, hu]))
              clear hu hRGr
              go_wp2_with fail
              (with_reducible refine hL.mono ?_)
              rintro e w' ⟨rfl, rfl⟩
              go_wp2_with fail
              (with_reducible refine hRd.mono ?_)
              rintro e w' ⟨rfl, rfl⟩
              go_wp2_with fail
              (with_reducible refine hCo.mono ?_)
              rintro e w' ⟨rfl, rfl⟩
              clear hL hRd hCo
              go_wp2
              go_roundw
              case rel => exact ⟨i + 1, dy, by omega, by omega, by go_num, by rw [HS2.out]; exact hd2, hkp⟩
              case measure => simp [intOf]; omega
            | false =>
              have HS2 : Hid (Wl.swp d.now u (i + 1) = (Wl.swp d.now u i).set i []) := Lib.hid (by rw [Wl.swp, if_pos ⟨hi2, hu⟩])
              have hCo := Contains_any ul i ao2 cap2 hlu hRGr HUB.out false (Lib.hid (by simp [HUM.out i, hu]))
              have hW := Write_yes i [] hd2 hlt2 (by simp)
              clear hu hRGr hd2
              go_wp2_with fail
              (with_reducible refine hL.mono ?_)
              rintro e w' ⟨rfl, rfl⟩
              go_wp2_with fail
              (with_reducible refine hRd.mono ?_)
              rintro e w' ⟨rfl, rfl⟩
              go_wp2_with fail
              (with_reducible refine hCo.mono ?_)
              rintro e w' ⟨rfl, rfl⟩
              clear hL hRd hCo
              go_wp2_with fail
              (with_reducible refine hW.mono ?_)
              rintro e w3 ⟨rfl, hd3, hk3⟩
              clear hW
              go_wp2
              go_roundw
              case rel => exact ⟨i + 1, dy.set i true, by omega, by omega, by go_num, by rw [HS2.out]; exact hd3, hkp.trans hk3⟩
              case measure => simp [intOf]; omega
        · have hi3 : i = S := by omega
          subst hi3
          have hlt3 : decide ((i : Int) < (i : Int)) = false := by simp
          have hY := Sync_any hd2
          rw [show (Wl.Dk.mk (Wl.swp d.now u i) d.old dy).syn = d.rec'.1 by rw [HDR.out]; rfl] at hY
          clear hd2
          go_wp2_with fail
          (with_reducible refine hL.mono ?_)
          rintro e w' ⟨rfl, rfl⟩
          clear hL
          go_wp2_with fail
          (with_reducible refine hY.mono ?_)
          rintro e w3 ⟨rfl, hd3, hk3⟩
          clear hY
          go_wp2
          go_ret3
          have hkw := ((Kept.of_below (G := G) hb).trans hkp).trans hk3
          exact ⟨⟨_, by rw [← HB.out]; rfl, HOWN.out.kept hkw HLT.out⟩, hd3, (Kept.of_below hb1).trans hkw⟩
end

end Go.Proofs.YtackeigdehfmmaaDoor
