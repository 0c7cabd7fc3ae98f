import Derived.Test.YtackeigdehfmmaaDoorYJ
namespace Go.Proofs.YtackeigdehfmmaaDoor
open Go.RowKit

theorem svs_at (l : List Wl.Bs) {k : Nat} (h : k < l.length) (h' : k < (svs l).length) : (svs l)[k]'h' = sv (l.getD k []) := by
  simp [List.getD_eq_getElem?_getD, List.getElem?_eq_getElem h]

set_option maxRecDepth 100000 in
set_option maxHeartbeats 1600000 in
/-- equal lists are the same -/
theorem Same_yes (l : List Wl.Bs) (w : World) (ga gb : Nat → Prop) (a b : Option Addr) (c1 c2 : Nat) (ha : RG w ga a (svs l)) (hb : RG w gb b (svs l)) (hll : l.length ≤ 1000000) :
    Calls Tryd.prog 20 #[.slice a l.length c1, .slice b l.length c2] w fun e w' => e = .returned (.bool true) ∧ Below w.heap.size w w' := by
  have HA := Lib.hid ha
  have HB := Lib.hid hb
  clear ha hb
  go_enter Tryd.func20, Tryd.ntmps20
  go_wp2
  go_loopw [5] (fun s5 wr => ∃ k : Nat, k ≤ l.length ∧ s5 = .int .i64 k ∧ Below w.heap.size w wr) (fun s5 _ => l.length - (intOf s5).toNat)
  case atStart => exact ⟨0, Nat.zero_le _, rfl, Below.refl _ _⟩
  case round =>
    obtain ⟨k, hk, rfl, hbw⟩ := hrel
    by_cases hlt : k < l.length
    · obtain ⟨b1, o1, ea, -, ca⟩ := (HA.out.mono (Kept.of_below hbw)).at' (k := k) (by simpa using hlt)
      obtain ⟨b2, o2, eb, -, cb⟩ := (HB.out.mono (Kept.of_below hbw)).at' (k := k) (by simpa using hlt)
      rw [svs_at l hlt] at ca cb
      generalize l.getD k [] = s at ca cb
      subst ea eb
      go_wp2
      go_region
      go_wp2
      go_roundw
      case rel => exact ⟨k + 1, by omega, by go_num, hbw.drew⟩
      case measure => simp [intOf]; omega
    · have hkl : k = l.length := by omega
      subst hkl
      go_wp2
      go_ret
      exact ⟨rfl, hbw⟩

end Go.Proofs.YtackeigdehfmmaaDoor
