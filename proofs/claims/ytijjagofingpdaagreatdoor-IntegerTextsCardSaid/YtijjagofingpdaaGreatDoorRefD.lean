import Derived.Test.YtijjagofingpdaaGreatDoorRefC
namespace Go.Proofs.YtijjagofingpdaaGreatDoor
open Go.RowKit

/-- a Boolean answer -/
def BoolP (P : Prop) (e : Ending) : Prop := ∃ r : Bool, Hid (r = true ↔ P) ∧ e = .returned (.bool r)

theorem last_split {l : List Nat} {x : Nat} (hx : l[l.length - 1]? = some x) : ∃ r, l = r ++ [x] := by
  rcases List.eq_nil_or_concat l with h | ⟨r, y, h⟩
  · subst h; simp at hx
  · rw [List.concat_eq_append] at h
    subst h
    simp at hx
    exact ⟨r, by rw [hx]⟩

set_option maxHeartbeats 1600000 in
theorem rValid_any (neg : Bool) (l : List Nat) (ao : Option Addr) (cap : Nat) (w : World) (hm : l.length ≤ 1000000000) (hU : U w ao l) :
    Calls Tryz.prog 15 #[.agg #[.bool neg, .slice ao l.length cap]] w fun e w' => BoolP (validP neg l) e ∧ Below w.heap.size w w' := by
  go_enter Tryz.func15, Tryz.ntmps15
  go_wp2_with fail
  have hbx := below_alloc w (.cells #[.bool neg, .slice ao l.length cap] 25)
  have B1 := Box.new w (.bool neg) (.slice ao l.length cap) 25
  have hUx := hU.mono hbx
  clear hU
  generalize w.alloc (.cells #[.bool neg, .slice ao l.length cap] 25) = wx at *
  obtain ⟨a0, a1, _, _⟩ := B1
  go_loop [3] (fun s => ∃ k : Nat, k ≤ l.length ∧ s = .int .i64 k ∧ Hid (Bi.Ok (l.take k))) (fun s => l.length - (intOf s).toNat)
  case atStart => exact ⟨0, Nat.zero_le _, rfl, Lib.hid (by simp [Bi.Ok])⟩
  case round =>
    obtain ⟨k, hk, rfl, HK⟩ := hrel
    by_cases hlt : k < l.length
    · obtain ⟨x, hx⟩ := get_some hlt
      obtain ⟨b, off, rfl, hc⟩ := hUx.at' hx
      have HX := Lib.hid hx
      clear hx hUx
      by_cases hs : (1000000000 : Int) ≤ (x : Int)
      · have hno : ¬ validP neg l := by
          intro h
          unfold validP at h
          rw [if_neg (by rintro rfl; simp at hlt)] at h
          have := h.1.at' HX.out
          omega
        have HNO := Lib.hid hno
        clear hno
        go_wp2
        go_ret
        exact ⟨⟨false, Lib.hid (by simp [HNO.out]), rfl⟩, hbx⟩
      · go_wp2
        go_round
        case rel =>
          refine ⟨k + 1, by omega, by go_num, Lib.hid ?_⟩
          have h1 : l[k]'hlt = x := (List.getElem?_eq_some_iff.1 HX.out).2
          rw [List.take_succ_eq_append_getElem hlt, h1]
          exact HK.out.snoc (by omega)
        case measure => simp [intOf]; omega
    · obtain rfl : k = l.length := by omega
      have HO : Hid (Bi.Ok l) := Lib.hid (by have := HK.out; rwa [List.take_length] at this)
      clear HK
      by_cases hl0 : l = []
      · subst hl0
        clear hUx
        go_wp2
        go_ret
        exact ⟨⟨_, Lib.hid (by simp [validP]), rfl⟩, hbx⟩
      · have hl1 : 0 < l.length := List.length_pos_iff.2 hl0
        have hlz : ((l.length : Int) == 0) = false := by rw [beq_eq_false_iff_ne]; omega
        obtain ⟨x, hx⟩ := get_some (l := l) (k := l.length - 1) (by omega)
        obtain ⟨b, off, rfl, hc⟩ := hUx.at' hx
        have HV : Hid (validP neg l ↔ Bi.Ok l ∧ x ≠ 0 ∧ Bi.val l < Bi.Big) := Lib.hid (by
          obtain ⟨r, rfl⟩ := last_split hx
          exact valid_last)
        have HS := Lib.hid (last_split hx)
        clear hx hl0
        by_cases hx0 : x = 0
        · subst hx0
          clear hUx
          go_wp2
          go_ret
          exact ⟨⟨false, Lib.hid (by rw [HV.out]; simp), rfl⟩, hbx⟩
        · have hxb : ((x : Int) != 0) = true := by rw [bne_iff_ne]; omega
          have HL : Hid (l = Bi.limbs (Bi.val l)) := Lib.hid (by
            obtain ⟨r, hr⟩ := HS.out
            have ho := HO.out
            rw [hr] at ho ⊢
            exact canon_snoc ho hx0)
          go_wp2_with fail
          (with_reducible refine (rdigits_any _ l HL _ _ _ ?_ hUx).mono ?_)
          · omega
          rintro e w2 ⟨⟨d, HD, hd, rfl⟩, rfl⟩
          clear hUx
          go_wp2
          go_ret
          refine ⟨⟨_, Lib.hid ?_, rfl⟩, hbx⟩
          rw [HV.out, ← Bi.dlen_le, ← HD.out]
          simp [HO.out, hx0]
          omega

end Go.Proofs.YtijjagofingpdaaGreatDoor
