import Derived.Test.YtijjagofingpdaaGreatDoorOf
import Derived.Deep.RegionHeldLaw
namespace Go.Proofs.YtijjagofingpdaaGreatDoor
open Go.RowKit

theorem U.put2 {w : World} {n c d : Nat} {b : Bool} {s ao : Option Addr} {l : List Nat} (p0 : w.cell? ⟨n, 0, none⟩ = some (.bool b)) (p1 : w.cell? ⟨n, 1, none⟩ = some (.slice s c d)) (h : U w ao l) (x y : Value) :
    U ((w.setCell ⟨n, 0, none⟩ x).setCell ⟨n, 1, none⟩ y) ao l :=
  U.put (x := .slice s c d) (by rw [World.cell?_setCell_other _ _ _ _ (by simp)]; exact p1) (by simp) (U.put p0 (by simp) h)

section
variable {ops : Array Oper} {o : Oper} {a : Act} {Q : Exit → Act → World → Prop} {K : Act → World → Prop} {E : Prop}
/-- append(out, src...) within a region -/
theorem step_all_u32 (w : World) (hgd : o.guard = none) (s x : Operand) (ho : o.op = .call { callee := .builtin .append, args := #[s, x], argTypes := #[22, 22] })
    (W : World) (B : Nat) (v : Value) (l : List Nat) (hs : a.eval s = v) (hown : OwnU w B v l) (hB : B ≤ w.heap.size) (hb : Below B W w) (ao : Option Addr) (c : Nat) (ls : List Nat)
    (hx : a.eval x = .slice ao ls.length c) (hU : U w ao ls) (hl : l.length + ls.length ≤ 1000000000000)
    (hK : ∀ ao' c' w', OwnU w' B (.slice ao' (l ++ ls).length c') (l ++ ls) → Below B W w' → K (a.put o.dst (.slice ao' (l ++ ls).length c')) w') :
    if Region.wanted o (yielded ops a.tmps) = true then Oper.wp Tryz.prog o a w K Q else E := by
  rw [if_pos (by simp [Region.wanted, hgd])]
  obtain ⟨i0, hi, hz0, hz1, hz2⟩ := info_parts Tryz.info45
  have hK' : ∀ v' w', OwnU w' B v' (l ++ ls) → Below B W w' → K (a.put o.dst v') w' := by
    intro v' w' h1 h2
    obtain ⟨ao', c', rfl, _, _⟩ := h1.read
    exact hK ao' c' w' h1 h2
  by_cases hls : ls = []
  · subst hls
    have hrun : (Builtin.append_ #[22, 22] o.type #[v, .slice ao 0 c]).run Tryz.prog w = .ok v w := by
      rcases hown.2 with ⟨rfl, _⟩ | ⟨g, cap, cur, rfl, _, _, hnc, _⟩
      · cases ao <;> simp [Builtin.append_, run_underlying Tryz.underlying22, sizeOf, typeInfo, hi, Builtin.lenOf, Builtin.firstCells, loadCells, loadCellsFrom]
      · cases ao <;> simp [Builtin.append_, run_underlying Tryz.underlying22, sizeOf, typeInfo, hi, Builtin.lenOf, Builtin.firstCells, hnc, storeCells, loadCells, loadCellsFrom]
    unfold Oper.wp
    simp only [List.length_nil] at hx
    simp [execOp, ho, resolve, invoke, builtin, hs, hx, hrun, Result.andThen]
    exact hK' v w (by simpa using hown) hb
  · obtain ⟨b, off, rfl, _⟩ := hU 0 (List.length_pos_iff.2 hls)
    refine wp_append_own w s x 22 ho B 45 i0 (.int .u32 0) 1 4 Tryz.underlying22 hi hz0 hz1 hz2 rfl (by decide) v l.length (cellsU l) hs hown ⟨b, off, none⟩ ls.length c (cellsU ls) hx (by simp) ?_ ?_ ?_ ?_ hB ?_
    · intro j u hj
      simp only [List.getElem?_map, Option.map_eq_some_iff] at hj
      obtain ⟨y, hy, rfl⟩ := hj
      obtain ⟨b', off', e, hc⟩ := hU.at' hy
      simp only [Option.some.injEq, Addr.mk.injEq] at e
      obtain ⟨rfl, rfl, _⟩ := e
      have : (⟨b, off, none⟩ : Addr).add j = ⟨b, off + j, none⟩ := by
        unfold Addr.add; split
        · subst j; rfl
        · rfl
      rw [this]; exact hc
    · intro u hu
      obtain ⟨y, _, rfl⟩ := List.mem_map.1 hu
      rfl
    · unfold maxLen; omega
    · omega
    · intro v' w' h1 h2 _
      refine hK' v' w' ?_ (hb.grown h2 hB fun k hk => (World.ownsRow.lt hown k hk).1)
      unfold OwnU cellsU
      rw [List.length_append, List.map_append]
      exact h1
end

set_option maxHeartbeats 800000 in
theorem own_any (neg : Bool) (l : List Nat) (ao : Option Addr) (cap : Nat) (w : World) (hm : l.length ≤ 1000000000) (hU : U w ao l) :
    Calls Tryz.prog 8 #[.agg #[.bool neg, .slice ao l.length cap]] w fun e w' => (∃ (a2 : Option Addr) (c2 : Nat), e = .returned (.agg #[.bool neg, .slice a2 l.length c2]) ∧ Hid (U w' a2 l) ∧ l.length ≤ c2) ∧ Below w.heap.size w w' := by
  go_enter Tryz.func8, Tryz.ntmps8
  go_wp2_with fail
  obtain ⟨wx, hwx, hsz, B1, B2, hbx⟩ := boxes2 w (.bool neg) (.slice ao l.length cap) (.bool false) (.slice none 0 0) 25
  rw [← hwx]
  clear hwx
  have hb1 : Below w.heap.size w (wx.alloc (.cells #[] 45)).drew := (hbx.alloc hbx.size _).drew
  have hB1 : Below wx.heap.size wx (wx.alloc (.cells #[] 45)).drew := (below_alloc wx _).drew
  have hUx := hU.mono hb1
  have hown : OwnU (wx.alloc (.cells #[] 45)).drew wx.heap.size (.slice (some ⟨wx.heap.size, 0, none⟩) 0 0) [] := OwnU.lit0 wx wx.heap.size (Nat.le_refl _)
  rw [hsz] at hown
  have A1 := B1.mono hB1
  have A2 := B2.mono hB1
  have hl1 := B1.lt
  have hlx : wx.heap.size ≤ (wx.alloc (.cells #[] 45)).drew.heap.size := hB1.size
  go_region_held_law (fun w' => w'.cell? ⟨w.heap.size, 0, none⟩ = some (.bool neg) ∧ w'.cell? ⟨w.heap.size, 1, none⟩ = some (.slice ao l.length cap))
    (first | (with_reducible exact ⟨B1.c0, B1.c1⟩) | (with_reducible exact ⟨A1.c0, A1.c1⟩) | (with_reducible exact ⟨C1.c0, C1.c1⟩) | (simp [B1.c0, B1.c1, go_sem]; done) | (simp [C1.c0, C1.c1, go_sem]; done))
    (first
      | (refine step_all_u32 _ rfl _ _ rfl wx (w.heap.size + 1 + 1) _ [] rfl hown (by omega) (by rw [← hsz]; exact hB1) ao cap l rfl hUx (by simp; omega) ?_; intro a2 c2 w2 hown2 hb2; rw [← hsz] at hb2; have C1 := B1.mono hb2; obtain ⟨p0, p1, q0, q1⟩ := B2.mono hb2))
  obtain ⟨_, c2', e1, hc2, hU2⟩ := hown2.read
  simp only [Value.slice.injEq, true_and] at e1
  obtain ⟨rfl, rfl⟩ := e1
  simp only [List.nil_append] at hU2 hc2
  go_wp2
  refine bodyPost_ret (v := .agg #[.bool neg, .slice a2 l.length c2]) (by simp [results, Tryz.results8, go_sem, p0, p1]) rfl ⟨⟨a2, c2, rfl, Lib.hid (hU2.put2 p0 p1 _ _), hc2⟩, ?_⟩
  exact Below.put2 (Below.step hbx hb2 (Nat.le_refl _)) (by omega) _ _

theorem made_bound {q : List Nat} {x k : Nat} (hq : q.length = k) (ho : Bi.Ok q) (hk : k < 34) (hx : x < 1000000000) (h33 : k = 33 → x < 1000) (h0 : k < 34 → Bi.val q < 1000000000 ^ 33) :
    Bi.val (q ++ [x]) < Bi.Big ∧ (k + 1 < 34 → Bi.val (q ++ [x]) < 1000000000 ^ 33) := by
  have h1 := Bi.val_lt (ho.snoc hx)
  simp only [List.length_append, List.length_singleton, hq] at h1
  by_cases hk2 : k + 1 < 34
  · have h2 : 1000000000 ^ (k + 1) ≤ 1000000000 ^ 33 := Nat.pow_le_pow_right (by decide) (by omega)
    have := Bi.big_ge_limbs
    exact ⟨by omega, fun _ => by omega⟩
  · obtain rfl : k = 33 := by omega
    refine ⟨?_, fun h => by omega⟩
    have h2 := h0 hk
    have h3 := h33 rfl
    rw [Bi.val_snoc, hq]
    have h4 : 1000000000 ^ 33 * x ≤ 1000000000 ^ 33 * 999 := Nat.mul_le_mul_left _ (by omega)
    have h5 : 1000000000 ^ 33 * 1000 ≤ Bi.Big := by unfold Bi.Big; decide +kernel
    omega

set_option maxHeartbeats 800000 in
theorem made_any (neg : Bool) (l : List Nat) (ao : Option Addr) (cap : Nat) (w : World) (hm : l.length ≤ 9223372036854775807) (hU : U w ao l) (hl32 : Hid (∀ x ∈ l, x < 4294967296)) :
    Calls Tryz.prog 5 #[.agg #[.bool neg, .slice ao l.length cap]] w fun e w' => (∃ (z : Int) (ng : Bool) (ao : Option Addr) (n cap : Nat), e = .returned (.agg #[.bool ng, .slice ao n cap]) ∧ Hid (IntV w' (.agg #[.bool ng, .slice ao n cap]) z)) ∧ Below w.heap.size w w' := by
  go_enter Tryz.func5, Tryz.ntmps5
  go_wp2
  have hbx : Below w.heap.size w ((w.alloc (.cells #[.bool neg, .slice ao l.length cap] 24)).alloc (.cells #[.bool false, .slice none 0 0] 25)) := ((Below.refl _ _).alloc (Nat.le_refl _) _).alloc (by simp) _
  have B1 : Box ((w.alloc (.cells #[.bool neg, .slice ao l.length cap] 24)).alloc (.cells #[.bool false, .slice none 0 0] 25)) w.heap.size (.bool neg) (.slice ao l.length cap) := (Box.new w _ _ _).mono (below_alloc _ _)
  have B2 : Box ((w.alloc (.cells #[.bool neg, .slice ao l.length cap] 24)).alloc (.cells #[.bool false, .slice none 0 0] 25)) (w.heap.size + 1) (.bool false) (.slice none 0 0) := by
    have := Box.new (w.alloc (.cells #[.bool neg, .slice ao l.length cap] 24)) (.bool false) (.slice none 0 0) 25
    simpa using this
  have hsz : ((w.alloc (.cells #[.bool neg, .slice ao l.length cap] 24)).alloc (.cells #[.bool false, .slice none 0 0] 25)).heap.size = w.heap.size + 1 + 1 := by simp
  generalize (w.alloc (.cells #[.bool neg, .slice ao l.length cap] 24)).alloc (.cells #[.bool false, .slice none 0 0] 25) = wx at *
  have hUx := hU.mono hbx
  clear hU
  go_loopw [3, 4] (fun out i wr => ∃ (k : Nat) (q : List Nat), k ≤ l.length ∧ k ≤ 34 ∧ i = .int .i64 k ∧ OwnU wr wx.heap.size out q ∧ q.length = k ∧ Bi.Ok q ∧ Hid (Bi.val q < Bi.Big ∧ (k < 34 → Bi.val q < 1000000000 ^ 33)) ∧ Below wx.heap.size wx wr) (fun _ i _ => l.length - (intOf i).toNat)
  case atStart => exact ⟨0, [], Nat.zero_le _, Nat.zero_le _, rfl, OwnU.nil _ _, rfl, Bi.Ok.nil, Lib.hid ⟨by simp only [Bi.val]; unfold Bi.Big; decide, fun _ => by simp only [Bi.val]; exact Nat.pow_pos (by decide)⟩, Below.refl _ _⟩
  case round =>
    obtain ⟨k, q, hk, hk34, rfl, hown, hql, hoq, HB, hbr⟩ := hrel
    have HQL := Lib.hid hql; have hq2 : q.length ≤ k := Nat.le_of_eq hql; clear hql
    obtain ⟨p0, p1, _, _⟩ := B1.mono hbr
    by_cases hgo : k < l.length ∧ k < 34
    · obtain ⟨h1, h2⟩ := hgo
      obtain ⟨x, hx⟩ := get_some h1
      obtain ⟨b1, o1, rfl, hcx⟩ := (hUx.mono hbr).at' hx
      have hx32 : x < 4294967296 := hl32.out x (List.mem_of_getElem? hx)
      clear hx hUx
      by_cases h33 : k = 33
      · subst h33
        go_wp2_with (at_builtin; refine app_u32 _ _ (x % 1000000000 % 1000) (by omega) rfl _ _ rfl wx wx.heap.size _ q rfl hown hbr.size hbr rfl (by omega) ?_; intro v' w' hown' hb')
        go_roundw
        case rel => exact ⟨34, q ++ [x % 1000000000 % 1000], by omega, by omega, by go_num, hown', by simp [HQL.out], hoq.snoc (by omega), Lib.hid (made_bound HQL.out hoq h2 (by omega) (fun _ => by omega) HB.out.2), hb'⟩
        case measure => simp [intOf]; omega
      · have hk33 : ((k : Int) == 33) = false := by rw [beq_eq_false_iff_ne]; omega
        go_wp2_with (at_builtin; refine app_u32 _ _ (x % 1000000000) (by omega) rfl _ _ rfl wx wx.heap.size _ q rfl hown hbr.size hbr rfl (by omega) ?_; intro v' w' hown' hb')
        go_roundw
        case rel => exact ⟨k + 1, q ++ [x % 1000000000], by omega, by omega, by go_num, hown', by simp [HQL.out], hoq.snoc (by omega), Lib.hid (made_bound HQL.out hoq h2 (by omega) (fun h => absurd h h33) HB.out.2), hb'⟩
        case measure => simp [intOf]; omega
    · have hgo' : (¬ k < l.length) ∨ (k < l.length ∧ ¬ (k : Int) < 34) := by omega
      clear hgo
      obtain ⟨a2, c2, rfl, hc2, hU2⟩ := hown.read
      rcases hgo' with h1 | ⟨h1, h2⟩
      all_goals
        go_wp2_with fail
        (with_reducible refine (rmake_any neg q a2 c2 wr ?_ hU2 (Lib.hid hoq)).mono ?_)
        · omega
        rintro e w3 ⟨⟨ng, a3, n3, c3, k3, rfl, HR⟩, hb3⟩
        have hB := (B2.mono hbr).mono hb3
        have hlt := hB.lt
        obtain ⟨p0, p1, q0, q1⟩ := hB
        go_wp2
        have hV : Hid (IntV w3 (.agg #[.bool ng, .slice a3 n3 c3]) (sgn neg (Bi.val q))) := Lib.hid (by
          rcases HR.out with ⟨_, _, h⟩ | ⟨h, _⟩
          · exact h
          · rw [sgn_natAbs] at h; exact absurd HB.out.1 h)
        refine bodyPost_ret (v := .agg #[.bool ng, .slice a3 n3 c3]) (by simp [results, Tryz.results5, go_sem, p0, p1, hlt]) rfl ⟨⟨_, ng, a3, n3, c3, rfl, Lib.hid ((hV.out.put2 p0 p1 _ _).mono (below_alloc _ _))⟩, ?_⟩
        refine (Below.put2 (Below.step (Below.step hbx hbr (Nat.le_refl _)) hb3 (Nat.le_refl _)) (by omega) _ _).alloc ?_ _
        have := hb3.size; have := hbr.size; have := hbx.size; simp [World.setCell]; omega

/-- one box and the answer's -/
theorem boxes2' (w : World) (a b c d : Value) (t u : TypeId) : ∃ wx, wx = (w.alloc (.cells #[a, b] t)).alloc (.cells #[c, d] u) ∧ wx.heap.size = w.heap.size + 1 + 1 ∧
    Box wx w.heap.size a b ∧ Box wx (w.heap.size + 1) c d ∧ Below w.heap.size w wx := by
  refine ⟨_, rfl, by simp, ?_, ?_, ?_⟩
  · exact (Box.new w a b t).mono (below_alloc _ _)
  · have := Box.new (w.alloc (.cells #[a, b] t)) c d u
    simpa using this
  · exact ((Below.refl _ _).alloc (Nat.le_refl _) _).alloc (by simp) _

end Go.Proofs.YtijjagofingpdaaGreatDoor
