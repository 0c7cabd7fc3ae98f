import Derived.Test.YtgenhkakcbedaaaGreatDoorQE
namespace Rq
/-- the limbs that 'Made' takes of a description -/
def madeL (l : List Nat) (k : Nat) : List Nat := (List.range k).map fun i => if i = 33 then l.getD i 0 % 1000000000 % 1000 else l.getD i 0 % 1000000000

theorem madeL_succ (l : List Nat) (k : Nat) : madeL l (k + 1) = madeL l k ++ [if k = 33 then l.getD k 0 % 1000000000 % 1000 else l.getD k 0 % 1000000000] := by
  unfold madeL; rw [List.range_succ, List.map_append]; rfl
end Rq
namespace Go.Proofs.YtgenhkakcbedaaaGreatDoor
open Go.RowKit

set_option maxHeartbeats 800000 in
theorem made_det (neg : Bool) (l : List Nat) (ao : Option Addr) (cap : Nat) (w : World) (hm : l.length ≤ 9223372036854775807) (hU : U w ao l) (hl32 : Hid (∀ x ∈ l, x < 4294967296)) :
    Calls Tryz.prog 67 #[.agg #[.bool neg, .slice ao l.length cap]] w fun e w' => (∃ (ng : Bool) (ao : Option Addr) (n cap : Nat), e = .returned (.agg #[.bool ng, .slice ao n cap]) ∧ Hid (IntV w' (.agg #[.bool ng, .slice ao n cap]) (sgn neg (Bi.val (Rq.madeL l (min l.length 34)))))) ∧ Below w.heap.size w w' := by
  go_enter Tryz.func67, Tryz.ntmps67
  go_wp2
  have hbx : Below w.heap.size w ((w.alloc (.cells #[.bool neg, .slice ao l.length cap] 37)).alloc (.cells #[.bool false, .slice none 0 0] 24)) := ((Below.refl _ _).alloc (Nat.le_refl _) _).alloc (by simp) _
  have B1 : Box ((w.alloc (.cells #[.bool neg, .slice ao l.length cap] 37)).alloc (.cells #[.bool false, .slice none 0 0] 24)) w.heap.size (.bool neg) (.slice ao l.length cap) := (Box.new w _ _ _).mono (below_alloc _ _)
  have B2 : Box ((w.alloc (.cells #[.bool neg, .slice ao l.length cap] 37)).alloc (.cells #[.bool false, .slice none 0 0] 24)) (w.heap.size + 1) (.bool false) (.slice none 0 0) := by
    have := Box.new (w.alloc (.cells #[.bool neg, .slice ao l.length cap] 37)) (.bool false) (.slice none 0 0) 24
    simpa using this
  have hsz : ((w.alloc (.cells #[.bool neg, .slice ao l.length cap] 37)).alloc (.cells #[.bool false, .slice none 0 0] 24)).heap.size = w.heap.size + 1 + 1 := by simp
  generalize (w.alloc (.cells #[.bool neg, .slice ao l.length cap] 37)).alloc (.cells #[.bool false, .slice none 0 0] 24) = wx at *
  have hUx := hU.mono hbx
  clear hU
  go_loopw [3, 4] (fun out i wr => ∃ (k : Nat) (q : List Nat), k ≤ l.length ∧ k ≤ 34 ∧ i = .int .i64 k ∧ OwnU wr wx.heap.size out q ∧ q.length = k ∧ Bi.Ok q ∧ Hid (Bi.val q < Bi.Big ∧ (k < 34 → Bi.val q < 1000000000 ^ 33)) ∧ Hid (q = Rq.madeL l k) ∧ Below wx.heap.size wx wr) (fun _ i _ => l.length - (intOf i).toNat)
  case atStart => exact ⟨0, [], Nat.zero_le _, Nat.zero_le _, rfl, OwnU.nil _ _, rfl, Bi.Ok.nil, Lib.hid ⟨by simp only [Bi.val]; unfold Bi.Big; decide, fun _ => by simp only [Bi.val]; exact Nat.pow_pos (by decide)⟩, Lib.hid rfl, Below.refl _ _⟩
  case round =>
    obtain ⟨k, q, hk, hk34, rfl, hown, hql, hoq, HB, HM, hbr⟩ := hrel
    have HQL := Lib.hid hql; have hq2 : q.length ≤ k := Nat.le_of_eq hql; clear hql
    obtain ⟨p0, p1, _, _⟩ := B1.mono hbr
    by_cases hgo : k < l.length ∧ k < 34
    · obtain ⟨h1, h2⟩ := hgo
      obtain ⟨x, hx⟩ := get_some h1
      obtain ⟨b1, o1, rfl, hcx⟩ := (hUx.mono hbr).at' hx
      have hx32 : x < 4294967296 := hl32.out x (List.mem_of_getElem? hx)
      have HM2 : Hid (q ++ [if k = 33 then x % 1000000000 % 1000 else x % 1000000000] = Rq.madeL l (k + 1)) := Lib.hid (by rw [HM.out, Rq.madeL_succ, List.getD_eq_getElem?_getD, hx]; rfl)
      clear hx hUx HM
      by_cases h33 : k = 33
      · subst h33
        go_wp2_with (at_builtin; refine app_u32 _ _ (x % 1000000000 % 1000) (by omega) rfl _ _ rfl wx wx.heap.size _ q rfl hown hbr.size hbr rfl (by omega) ?_; intro v' w' hown' hb')
        go_roundw
        case rel => exact ⟨34, q ++ [x % 1000000000 % 1000], by omega, by omega, by go_num, hown', by simp [HQL.out], hoq.snoc (by omega), Lib.hid (made_bound HQL.out hoq h2 (by omega) (fun _ => by omega) HB.out.2), Lib.hid (by rw [← HM2.out]; rfl), hb'⟩
        case measure => simp [intOf]; omega
      · have hk33 : ((k : Int) == 33) = false := by rw [beq_eq_false_iff_ne]; omega
        go_wp2_with (at_builtin; refine app_u32 _ _ (x % 1000000000) (by omega) rfl _ _ rfl wx wx.heap.size _ q rfl hown hbr.size hbr rfl (by omega) ?_; intro v' w' hown' hb')
        go_roundw
        case rel => exact ⟨k + 1, q ++ [x % 1000000000], by omega, by omega, by go_num, hown', by simp [HQL.out], hoq.snoc (by omega), Lib.hid (made_bound HQL.out hoq h2 (by omega) (fun h => absurd h h33) HB.out.2), Lib.hid (by rw [← HM2.out, if_neg h33]), hb'⟩
        case measure => simp [intOf]; omega
    · have hgo' : (¬ k < l.length) ∨ (k < l.length ∧ ¬ (k : Int) < 34) := by omega
      have HQ : Hid (q = Rq.madeL l (min l.length 34)) := Lib.hid (by rw [HM.out]; congr 1; omega)
      clear hgo HM
      obtain ⟨a2, c2, rfl, hc2, hU2⟩ := hown.read
      rcases hgo' with h1 | ⟨h1, h2⟩
      all_goals
        go_wp2_with fail
        (with_reducible refine (rmake_any neg q a2 c2 wr ?_ hU2 (Lib.hid hoq)).mono ?_)
        · omega
        rintro e w3 ⟨⟨ng, a3, n3, c3, k3, rfl, HR⟩, hb3⟩
        have hB := (B2.mono hbr).mono hb3
        have hlt := hB.lt
        obtain ⟨p0, p1, q0, q1⟩ := hB
        go_wp2
        have hV : Hid (IntV w3 (.agg #[.bool ng, .slice a3 n3 c3]) (sgn neg (Bi.val q))) := Lib.hid (by
          rcases HR.out with ⟨_, _, h⟩ | ⟨h, _⟩
          · exact h
          · rw [sgn_natAbs] at h; exact absurd HB.out.1 h)
        refine bodyPost_ret (v := .agg #[.bool ng, .slice a3 n3 c3]) (by simp [results, Tryz.results67, go_sem, p0, p1, hlt]) rfl ⟨⟨ng, a3, n3, c3, rfl, Lib.hid (by rw [← HQ.out]; exact (hV.out.put2 p0 p1 _ _).mono (below_alloc _ _))⟩, ?_⟩
        refine (Below.put2 (Below.step (Below.step hbx hbr (Nat.le_refl _)) hb3 (Nat.le_refl _)) (by omega) _ _).alloc ?_ _
        have := hb3.size; have := hbr.size; have := hbx.size; simp [World.setCell]; omega


/-- 'Made' of one description is one integer, whenever it is called -/
theorem made_fix {neg : Bool} {ao : Option Addr} {n cap : Nat} {w : World} (h : DraftV w (.agg #[.bool neg, .slice ao n cap])) : ∃ z : Int, ∀ w1 : World, Below w.heap.size w w1 →
    Calls Tryz.prog 67 #[.agg #[.bool neg, .slice ao n cap]] w1 fun e w' => (∃ (ng : Bool) (ao : Option Addr) (n cap : Nat), e = .returned (.agg #[.bool ng, .slice ao n cap]) ∧ Hid (IntV w' (.agg #[.bool ng, .slice ao n cap]) z)) ∧ Below w1.heap.size w1 w' := by
  obtain ⟨neg', ao', l, cap', e, h1, h2, h3⟩ := h
  simp only [Value.agg.injEq, Array.mk.injEq, List.cons.injEq, Value.bool.injEq, Value.slice.injEq, and_true] at e
  obtain ⟨rfl, rfl, rfl, rfl⟩ := e
  exact ⟨_, fun w1 hb => made_det neg l ao cap w1 h1 (h2.mono hb) h3⟩

end Go.Proofs.YtgenhkakcbedaaaGreatDoor
