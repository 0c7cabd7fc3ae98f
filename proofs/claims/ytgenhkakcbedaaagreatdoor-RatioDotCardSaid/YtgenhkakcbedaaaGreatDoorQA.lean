/-
  The decimal text of a fraction, plain.
-/
import Derived.Test.YtgenhkakcbedaaaGreatDoorQ8
import Derived.Test.YtgenhkakcbedaaaGreatDoorI9
namespace Rq
open Go

/-- zeros ahead, so that there are more than k digits -/
def padT (t : List UInt8) (k : Nat) : List UInt8 := List.replicate (k + 1 - t.length) 48 ++ t

/-- the point ahead of the last k digits -/
def pointT (p : List UInt8) (k : Nat) : List UInt8 := if k = 0 then p else p.take (p.length - k) ++ 46 :: p.drop (p.length - k)

/-- the decimal text of q / 10^k -/
def decT (q : Int) (k : Nat) : List UInt8 := if q < 0 then 45 :: pointT (padT (Lib.decDigits q.natAbs) k) k else pointT (padT (Lib.decDigits q.natAbs) k) k

theorem sm_pow {z : Int} {i k : Nat} (h : Sm (z * 10 ^ k)) (hi : i ≤ k) : Sm (z * 10 ^ i) := by
  unfold Sm at *
  refine Nat.lt_of_le_of_lt ?_ h
  rw [Int.natAbs_mul, Int.natAbs_mul]
  refine Nat.mul_le_mul_left _ ?_
  rw [Int.natAbs_pow, Int.natAbs_pow]
  exact Nat.pow_le_pow_right (by decide) hi

theorem sm_tdiv {z d : Int} (h : Sm z) : Sm (z.tdiv d) := by
  unfold Sm at *
  refine Nat.lt_of_le_of_lt ?_ h
  rw [Int.natAbs_tdiv]
  exact Nat.div_le_self _ _

/-- the text of an integer without its sign -/
theorem itoa_cut (q : Int) : Lib.trimPrefix (Lib.itoa q) [45] = Lib.decDigits q.natAbs ∧ Lib.hasPrefix (Lib.itoa q) [45] = decide (q < 0) := by
  by_cases hq : q < 0
  · have e : Lib.itoa q = 45 :: Lib.decDigits q.natAbs := by unfold Lib.itoa; rw [if_pos hq]
    have hp : Lib.hasPrefix (45 :: Lib.decDigits q.natAbs) [45] = true := by simp [Lib.hasPrefix]
    rw [e]
    refine ⟨?_, by rw [hp]; simp [hq]⟩
    unfold Lib.trimPrefix; rw [if_pos hp]; rfl
  · have e : Lib.itoa q = Lib.decDigits q.natAbs := by unfold Lib.itoa; rw [if_neg hq, show q.toNat = q.natAbs by omega]
    obtain ⟨h1, _, h3, _⟩ := Bi.dec_all q.natAbs
    have hp : Lib.hasPrefix (Lib.decDigits q.natAbs) [45] = false := by
      cases hd : Lib.decDigits q.natAbs with
      | nil => exact absurd hd h3
      | cons x r =>
        have hx : Bi.isDig x := h1 x (by rw [hd]; simp)
        have hb : ((45 : UInt8) == x) = false := by
          rw [beq_eq_false_iff_ne]
          rintro rfl
          unfold Bi.isDig at hx
          have : (45 : UInt8).toNat = 45 := rfl
          omega
        unfold Lib.hasPrefix
        rw [List.isPrefixOf, hb]
        rfl
    rw [e]
    refine ⟨?_, by rw [hp]; simp [hq]⟩
    unfold Lib.trimPrefix; rw [if_neg (by rw [hp]; simp)]

theorem dec_len301 {q : Int} (h : Sm q) : (Lib.decDigits q.natAbs).length ≤ 300 := Bi.dec_len h

end Rq

namespace Go.Proofs.YtgenhkakcbedaaaGreatDoor
open Go.RowKit

/-- two boxes of integers have been made -/
def TwoB (wy wc : World) (base : Nat) (s6 s7 : Value) (x y : Int) : Prop :=
  ∃ (g6 g7 : Nat) (ng : Bool) (ao : Option Addr) (l cap : Nat) (ng2 : Bool) (ao2 : Option Addr) (l2 cap2 : Nat), s6 = .pointer (some ⟨g6, 0, none⟩) ∧ s7 = .pointer (some ⟨g7, 0, none⟩) ∧ g6 ≠ g7 ∧ base ≤ g6 ∧ base ≤ g7 ∧
    Box wc g6 (.bool ng) (.slice ao l cap) ∧ Box wc g7 (.bool ng2) (.slice ao2 l2 cap2) ∧ Hid (IntV wc (.agg #[.bool ng, .slice ao l cap]) x) ∧ Hid (IntV wc (.agg #[.bool ng2, .slice ao2 l2 cap2]) y) ∧ Below wy.heap.size wy wc

theorem Slot.at {W : World} {base : Nat} {st : Prop} {p : Value} {z : Int} (h : Slot W base (fun W v => IntV W v z) st p) (hs : st) :
    ∃ (g : Nat) (ng : Bool) (ao : Option Addr) (l cap : Nat), p = .pointer (some ⟨g, 0, none⟩) ∧ base ≤ g ∧ Box W g (.bool ng) (.slice ao l cap) ∧ IntV W (.agg #[.bool ng, .slice ao l cap]) z := by
  obtain ⟨b, e, hb, _, h3, _⟩ := h
  obtain ⟨x, y, B, hr⟩ := h3 hs
  obtain ⟨ng, ao, n, cap, e2⟩ := hr.parts
  simp only [Value.agg.injEq, Array.mk.injEq, List.cons.injEq, and_true] at e2
  obtain ⟨rfl, rfl⟩ := e2
  exact ⟨b, ng, ao, n, cap, e, hb, B, hr⟩

theorem ret_bytes {a : ByteArray} {l : List UInt8} {k : Int} (h : a = ⟨l.toArray⟩) : Ending.returned (.tuple #[.string a, .int .i64 k]) = .returned (.tuple #[.string ⟨l.toArray⟩, .int .i64 k]) := by rw [h]

theorem point_bytes (p : List UInt8) (a : Nat) : ({ data := p.toArray } : ByteArray).extract 0 a ++ { data := #[46] } ++ ({ data := p.toArray } : ByteArray).extract a p.length = { data := (p.take a ++ 46 :: p.drop a).toArray } := by
  apply ByteArray.ext
  simp only [ByteArray.data_append, ByteArray.data_extract]
  apply Array.toList_inj.1
  simp
  exact List.take_of_length_le (by simp)

theorem S14 {wx W : World} {n : Nat} {x0 x1 x2 x3 : Value} (B1 : Box4 wx n x0 x1 x2 x3) (h : Below wx.heap.size wx W) : W.cell? ⟨n, 0, none⟩ = some x0 ∧ W.cell? ⟨n, 1, none⟩ = some x1 :=
  ⟨(B1.mono h).c0, (B1.mono h).c1⟩

set_option maxRecDepth 100000 in
set_option maxHeartbeats 6400000 in
theorem DecimalQ (v : Value) (r : Rat) (k : Nat) (w : World) (hr : RatV w v r) (hk : k ≤ 20) (hs : Hid (Rq.Sm (r.num * 10 ^ k))) (hE : Env w) :
    Calls Tryz.prog 26 #[v, .int .i64 k] w fun e w' => e = .returned (.tuple #[.string ⟨(Rq.decT ((r.num * 10 ^ k).tdiv (r.den : Int)) k).toArray⟩, .int .i64 0]) ∧ Below w.heap.size w w' := by
  have hE0 := hE
  have hbw := Below.refl w.heap.size w
  obtain ⟨ng1, ao1, n1, cap1, ng2, ao2, n2, cap2, rfl, h1, h2⟩ := hr
  have HV1 := Lib.hid h1
  have HV2 := Lib.hid h2
  clear h1 h2
  go_enter Tryz.func26, Tryz.ntmps26
  have hk1 : (0 : Int) ≤ (k : Int) := by omega
  have hk20 : (k : Int) ≤ 20 := by omega
  go_upto_region 1 with fail
  have X1 := Box4.new w (.bool ng1) (.slice ao1 n1 cap1) (.bool ng2) (.slice ao2 n2 cap2) 29
  have hb := below_alloc w (.cells #[.bool ng1, .slice ao1 n1 cap1, .bool ng2, .slice ao2 n2 cap2] 29)
  generalize w.alloc (.cells #[.bool ng1, .slice ao1 n1 cap1, .bool ng2, .slice ao2 n2 cap2] 29) = v1 at *
  have HV1 := Lib.hid (HV1.out.mono hb)
  have HV2 := Lib.hid (HV2.out.mono hb)
  have hE := hE.mono hb
  have hbw := Below.step hbw hb (Nat.le_refl _)
  clear hb
  obtain ⟨cX1_0, cX1_1, cX1_2, cX1_3, _, _, _, _⟩ := id X1
  go_wp2_with fail
  (with_reducible refine (Valid_true _ r v1 (RatV.mk' HV1 HV2) hE).mono ?_)
  rintro e v2 ⟨rfl, hb⟩
  have HV1 := Lib.hid (HV1.out.mono hb)
  have HV2 := Lib.hid (HV2.out.mono hb)
  have X1 := X1.mono hb
  have hE := hE.mono hb
  have hbw := Below.step hbw hb (Nat.le_refl _)
  clear hb
  clear cX1_0 cX1_1 cX1_2 cX1_3
  go_upto_region 5 with fail
  obtain ⟨wy, rfl⟩ : ∃ wy : World, wy = v2 := ⟨_, rfl⟩
  have l5X1 := X1.lt
  go_cut [6, 7] (fun s6 s7 wc => TwoB wy wc wy.heap.size s6 s7 r.num 10)
  case first =>
    refine wp_region_flow (fun L T W => Below wy.heap.size wy W ∧ (L 0 → T 23 = .pointer (some ⟨w.heap.size, 0, none⟩)) ∧ (L 1 → (fun W v => IntV W v r.num) W (T 24)) ∧ (L 2 → (fun W v => IntV W v 10) W (T 25)) ∧ (L 3 → Slot W wy.heap.size (fun W v => IntV W v r.num) (L 5) (T 6)) ∧ (L 4 → Slot W wy.heap.size (fun W v => IntV W v 10) (L 6) (T 7)) ∧ (L 3 → L 4 → T 6 ≠ T 7) ∧ (L 5 → L 3) ∧ (L 6 → L 4)) [23, 24, 25, 6, 7] (by kernel_rfl) (by kernel_rfl) (by kernel_rfl) ?h0 ⟨?s0, ?s1, ?s2, ?s3, ?s4, ?s5, ?s6, trivial⟩ ?he ?hm
    case h0 => exact fun T => ⟨(Below.refl _ _).drew, fun h => h.elim, fun h => h.elim, fun h => h.elim, fun h => h.elim, fun h => h.elim, fun h => h.elim, fun h => h.elim, fun h => h.elim⟩
    case hm =>
      rintro L T W hL ⟨hb, f0, f1, f2, f3, f4, n3_4, c3, c4⟩
      exact ⟨hb, fun _ => f0 (hL _ (by decide)), fun _ => f1 (hL _ (by decide)), fun _ => f2 (hL _ (by decide)), fun _ => (f3 (hL _ (by decide))).congr ⟨fun _ => by decide, fun _ => hL _ (by decide)⟩, fun _ => (f4 (hL _ (by decide))).congr ⟨fun _ => by decide, fun _ => hL _ (by decide)⟩, fun _ _ => n3_4 (hL _ (by decide)) (hL _ (by decide)), fun _ => by decide, fun _ => by decide⟩
    case s0 =>
      rintro L T W hd hn hJ K hK
      have HJ := Lib.hid hJ
      clear hJ
      have hb := HJ.out.1
      simp only [ovr, Act.put, List.setIfInBounds_toArray, List.set_cons_zero, List.set_cons_succ] at hK ⊢
      have HK := Lib.hid hK
      clear hK
      refine wpOp_want rfl rfl ?_
      go_simp
      obtain ⟨hb, f0, f1, f2, f3, f4, n3_4, c3, c4⟩ := HJ.out
      exact HK.out _ _ ⟨hb, fun _ => rfl, fun h => f1 (h.resolve_left (by decide)), fun h => f2 (h.resolve_left (by decide)), fun h => ((f3 (h.resolve_left (by decide)))).congr ⟨fun h => .inr h, fun h => h.resolve_left (by decide)⟩, fun h => ((f4 (h.resolve_left (by decide)))).congr ⟨fun h => .inr h, fun h => h.resolve_left (by decide)⟩, fun h1 h2 => n3_4 (h1.resolve_left (by decide)) (h2.resolve_left (by decide)), fun h => .inr (c3 (h.resolve_left (by decide))), fun h => .inr (c4 (h.resolve_left (by decide)))⟩
    case s1 =>
      rintro L T W hd hn hJ K hK
      have HJ := Lib.hid hJ
      clear hJ
      have hb := HJ.out.1
      have e0 := HJ.out.2.1 hd.1
      obtain ⟨c0, c1⟩ := S14 X1 hb
      simp only [ovr, Act.put, List.setIfInBounds_toArray, List.set_cons_zero, List.set_cons_succ, e0] at hK ⊢
      have HK := Lib.hid hK
      clear hK
      refine wpOp_want rfl rfl ?_
      go_simp
      obtain ⟨hb, f0, f1, f2, f3, f4, n3_4, c3, c4⟩ := HJ.out
      exact HK.out _ _ ⟨hb, fun h => f0 (h.resolve_left (by decide)), fun _ => HV1.out.mono hb, fun h => f2 (h.resolve_left (by decide)), fun h => ((f3 (h.resolve_left (by decide)))).congr ⟨fun h => .inr h, fun h => h.resolve_left (by decide)⟩, fun h => ((f4 (h.resolve_left (by decide)))).congr ⟨fun h => .inr h, fun h => h.resolve_left (by decide)⟩, fun h1 h2 => n3_4 (h1.resolve_left (by decide)) (h2.resolve_left (by decide)), fun h => .inr (c3 (h.resolve_left (by decide))), fun h => .inr (c4 (h.resolve_left (by decide)))⟩
    case s2 =>
      rintro L T W hd hn hJ K hK
      have HJ := Lib.hid hJ
      clear hJ
      have hb := HJ.out.1
      simp only [ovr, Act.put, List.setIfInBounds_toArray, List.set_cons_zero, List.set_cons_succ] at hK ⊢
      have HK := Lib.hid hK
      clear hK
      refine wpOp_want rfl rfl ?_
      go_simp
      (with_reducible refine (of_any 10 (by decide) (by decide) _ (hE.mono hb)).mono ?_)
      rintro e w1 ⟨⟨ng7, ao7, n7, cap7, rfl, HV7⟩, hb1⟩
      have hr : IntV w1 (.agg #[.bool ng7, .slice ao7 n7 cap7]) 10 := HV7.out
      dsimp only
      obtain ⟨hb, f0, f1, f2, f3, f4, n3_4, c3, c4⟩ := HJ.out
      exact HK.out _ _ ⟨Below.step hb hb1 (Nat.le_refl _), fun h => f0 (h.resolve_left (by decide)), fun h => (stay_int r.num).mono (f1 (h.resolve_left (by decide))) hb1, fun _ => hr, fun h => ((f3 (h.resolve_left (by decide))).mono (stay_int r.num) hb1).congr ⟨fun h => .inr h, fun h => h.resolve_left (by decide)⟩, fun h => ((f4 (h.resolve_left (by decide))).mono (stay_int 10) hb1).congr ⟨fun h => .inr h, fun h => h.resolve_left (by decide)⟩, fun h1 h2 => n3_4 (h1.resolve_left (by decide)) (h2.resolve_left (by decide)), fun h => .inr (c3 (h.resolve_left (by decide))), fun h => .inr (c4 (h.resolve_left (by decide)))⟩
    case s3 =>
      rintro L T W hd hn hJ K hK
      have HJ := Lib.hid hJ
      clear hJ
      have hb := HJ.out.1
      simp only [ovr, Act.put, List.setIfInBounds_toArray, List.set_cons_zero, List.set_cons_succ] at hK ⊢
      have HK := Lib.hid hK
      clear hK
      refine wpOp_want rfl rfl ?_
      go_simp
      have hb1 := below_alloc W (.cells #[.bool false, .slice none 0 0] 24)
      obtain ⟨hb, f0, f1, f2, f3, f4, n3_4, c3, c4⟩ := HJ.out
      exact HK.out _ _ ⟨Below.step hb hb1 (Nat.le_refl _), fun h => f0 (h.resolve_left (by decide)), fun h => (stay_int r.num).mono (f1 (h.resolve_left (by decide))) hb1, fun h => (stay_int 10).mono (f2 (h.resolve_left (by decide))) hb1, fun _ => Slot.new W (fun h => hn (c3 (h.resolve_left (by decide)))) _ hb.size, fun h => ((f4 (h.resolve_left (by decide))).mono (stay_int 10) hb1).congr ⟨fun h => .inr h, fun h => h.resolve_left (by decide)⟩, fun _ h2 => (f4 (h2.resolve_left (by decide))).ne_new.symm, fun _ => .inl (by decide), fun h => .inr (c4 (h.resolve_left (by decide)))⟩
    case s4 =>
      rintro L T W hd hn hJ K hK
      have HJ := Lib.hid hJ
      clear hJ
      have hb := HJ.out.1
      simp only [ovr, Act.put, List.setIfInBounds_toArray, List.set_cons_zero, List.set_cons_succ] at hK ⊢
      have HK := Lib.hid hK
      clear hK
      refine wpOp_want rfl rfl ?_
      go_simp
      have hb1 := below_alloc W (.cells #[.bool false, .slice none 0 0] 24)
      obtain ⟨hb, f0, f1, f2, f3, f4, n3_4, c3, c4⟩ := HJ.out
      exact HK.out _ _ ⟨Below.step hb hb1 (Nat.le_refl _), fun h => f0 (h.resolve_left (by decide)), fun h => (stay_int r.num).mono (f1 (h.resolve_left (by decide))) hb1, fun h => (stay_int 10).mono (f2 (h.resolve_left (by decide))) hb1, fun h => ((f3 (h.resolve_left (by decide))).mono (stay_int r.num) hb1).congr ⟨fun h => .inr h, fun h => h.resolve_left (by decide)⟩, fun _ => Slot.new W (fun h => hn (c4 (h.resolve_left (by decide)))) _ hb.size, fun h1 _ => (f3 (h1.resolve_left (by decide))).ne_new, fun h => .inr (c3 (h.resolve_left (by decide))), fun _ => .inl (by decide)⟩
    case s5 =>
      rintro L T W hd hn hJ K hK
      have HJ := Lib.hid hJ
      clear hJ
      have hb := HJ.out.1
      have r1 := HJ.out.2.2.1 hd.2.1
      have r2 := HJ.out.2.2.2.1 hd.2.2.1
      have e0 := HJ.out.2.1 hd.2.2.2.1
      have da := hd.1
      have hr := r1
      obtain ⟨m, em, hm1, hm2, hB⟩ := (HJ.out.2.2.2.2.1 da).open hn
      obtain ⟨ng, ao, nn, cap, ev⟩ := IntV.parts hr
      rw [ev] at hr
      obtain ⟨b0, b1, b2, b3⟩ := id hB
      simp only [ovr, Act.put, List.setIfInBounds_toArray, List.set_cons_zero, List.set_cons_succ, e0, em, ev] at hK ⊢
      have HK := Lib.hid hK
      clear hK
      refine wpOp_want rfl rfl ?_
      go_simp
      obtain ⟨hb, f0, f1, f2, f3, f4, n3_4, c3, c4⟩ := HJ.out
      exact HK.out undef _ ⟨Below.put2 hb hm1 _ _, fun h => f0 (h.resolve_left (by decide)), fun h => (stay_int r.num).put (f1 (h.resolve_left (by decide))) hB, fun h => (stay_int 10).put (f2 (h.resolve_left (by decide))) hB, fun h => by show Slot _ _ _ _ (T 6); rw [em]; exact Slot.stored (stay_int r.num) hm1 hB (.inl (by decide)) hr, fun h => ((f4 (h.resolve_left (by decide))).other (stay_int 10) (by rw [← em]; exact (n3_4 da (h.resolve_left (by decide))).symm) hB).congr ⟨fun h => .inr h, fun h => h.resolve_left (by decide)⟩, fun h1 h2 => n3_4 (h1.resolve_left (by decide)) (h2.resolve_left (by decide)), fun _ => .inr da, fun h => .inr (c4 (h.resolve_left (by decide)))⟩
    case s6 =>
      rintro L T W hd hn hJ K hK
      have HJ := Lib.hid hJ
      clear hJ
      have hb := HJ.out.1
      have r2 := HJ.out.2.2.2.1 hd.2.1
      have e0 := HJ.out.2.1 hd.2.2.2.1
      have r1 := HJ.out.2.2.1 hd.2.2.2.2.1
      have da := hd.1
      have hr := r2
      obtain ⟨m, em, hm1, hm2, hB⟩ := (HJ.out.2.2.2.2.2.1 da).open hn
      obtain ⟨ng, ao, nn, cap, ev⟩ := IntV.parts hr
      rw [ev] at hr
      obtain ⟨b0, b1, b2, b3⟩ := id hB
      simp only [ovr, Act.put, List.setIfInBounds_toArray, List.set_cons_zero, List.set_cons_succ, e0, em, ev] at hK ⊢
      have HK := Lib.hid hK
      clear hK
      refine wpOp_want rfl rfl ?_
      go_simp
      obtain ⟨hb, f0, f1, f2, f3, f4, n3_4, c3, c4⟩ := HJ.out
      exact HK.out undef _ ⟨Below.put2 hb hm1 _ _, fun h => f0 (h.resolve_left (by decide)), fun h => (stay_int r.num).put (f1 (h.resolve_left (by decide))) hB, fun h => (stay_int 10).put (f2 (h.resolve_left (by decide))) hB, fun h => ((f3 (h.resolve_left (by decide))).other (stay_int r.num) (by rw [← em]; exact n3_4 (h.resolve_left (by decide)) da) hB).congr ⟨fun h => .inr h, fun h => h.resolve_left (by decide)⟩, fun h => by show Slot _ _ _ _ (T 7); rw [em]; exact Slot.stored (stay_int 10) hm1 hB (.inl (by decide)) hr, fun h1 h2 => n3_4 (h1.resolve_left (by decide)) (h2.resolve_left (by decide)), fun h => .inr (c3 (h.resolve_left (by decide))), fun _ => .inr da⟩
    case he =>
      rintro T W ⟨hb, f0, f1, f2, f3, f4, n3_4, c3, c4⟩
      simp only [ovr, List.setIfInBounds_toArray, List.set_cons_zero, List.set_cons_succ]
      obtain ⟨g6, ng5, ao5, n5, cap5, e6, hg6, B6, V6⟩ := (f3 (by decide)).at (by decide)
      obtain ⟨g7, ng6, ao6, n6, cap6, e7, hg7, B7, V7⟩ := (f4 (by decide)).at (by decide)
      have hne := n3_4 (by decide) (by decide)
      rw [e6, e7]
      go_wp2_with fail
      go_meet
      exact ⟨g6, g7, ng5, ao5, n5, cap5, ng6, ao6, n6, cap6, rfl, rfl, fun h => hne (by rw [e6, e7, h]), hg6, hg7, B6, B7, Lib.hid V6, Lib.hid V7, hb⟩
  case rest =>
    obtain ⟨g6, g7, ng5, ao5, n5, cap5, ng6, ao6, n6, cap6, rfl, rfl, hg67, hg6, hg7, X6, X7, HV5, HV6, hb⟩ := hcut
    have HV1 := Lib.hid (HV1.out.mono hb)
    have HV2 := Lib.hid (HV2.out.mono hb)
    have X1 := X1.mono hb
    have hE := hE.mono hb
    have hbw := Below.step hbw hb (Nat.le_refl _)
    clear hb
    go_wp2_with fail
    go_loopg [8, 27] k (fun gk s8 s27 wr => ∃ (i : Nat) (ng : Bool) (ao : Option Addr) (l cap : Nat), i ≤ k ∧ gk = k - i ∧ s27 = .int .i64 i ∧ Box wr g6 (.bool ng) (.slice ao l cap) ∧ Hid (IntV wr (.agg #[.bool ng, .slice ao l cap]) (r.num * 10 ^ i)) ∧ Box wr g7 (.bool ng6) (.slice ao6 n6 cap6) ∧ Hid (IntV wr (.agg #[.bool ng6, .slice ao6 n6 cap6]) 10) ∧ Box4 wr w.heap.size (.bool ng1) (.slice ao1 n1 cap1) (.bool ng2) (.slice ao2 n2 cap2) ∧ Hid (IntV wr (.agg #[.bool ng2, .slice ao2 n2 cap2]) (r.den : Int)) ∧ Env wr ∧ Below w.heap.size w wr)
    case atStart => exact ⟨0, ng5, ao5, n5, cap5, by omega, by omega, rfl, X6, Lib.hid (by simpa using HV5.out), X7, HV6, X1, HV2, hE, hbw⟩
    case round =>
      clear X6 HV5 X7 HV6 X1 HV1 HV2 hE hbw
      obtain ⟨i, ng3, ao3, n3, cap3, hik, rfl, rfl, X6, HV3, X7, HV6, X1, HV2, hE, hbw⟩ := hrel
      by_cases hlt : i < k
      · have HS : Hid (Rq.Sm (r.num * 10 ^ i * 10)) := Lib.hid (by rw [Int.mul_assoc, ← Int.pow_succ]; exact Rq.sm_pow hs.out (by omega))
        obtain ⟨cX6_0, cX6_1, _, _⟩ := id X6
        obtain ⟨cX7_0, cX7_1, _, _⟩ := id X7
        go_wp2_with fail
        (with_reducible refine (Mul_ok _ _ (r.num * 10 ^ i) 10 wr HV3.out HV6.out HS hE).mono ?_)
        rintro e v51 ⟨⟨ng4, ao4, n4, cap4, rfl, HV4⟩, hb⟩
        have X6 := X6.mono hb
        have X7 := X7.mono hb
        have X1 := X1.mono hb
        have HV3 := Lib.hid (HV3.out.mono hb)
        have HV6 := Lib.hid (HV6.out.mono hb)
        have HV2 := Lib.hid (HV2.out.mono hb)
        have hE := hE.mono hb
        have hbw := Below.step hbw hb (Nat.le_refl _)
        clear hb
        clear cX6_0 cX6_1 cX7_0 cX7_1
        obtain ⟨cX6_0, cX6_1, _, _⟩ := id X6
        go_upto_region 10 with fail
        clear cX6_0 cX6_1
        have X7 := X7.other2 (u := .bool ng4) (v := .slice ao4 n4 cap4) (show g7 ≠ g6 by omega)
        have X1 := X1.other2 (u := .bool ng4) (v := .slice ao4 n4 cap4) (show w.heap.size ≠ g6 by omega)
        have HV3 := Lib.hid (HV3.out.put2B X6 (.bool ng4) (.slice ao4 n4 cap4))
        have HV6 := Lib.hid (HV6.out.put2B X6 (.bool ng4) (.slice ao4 n4 cap4))
        have HV2 := Lib.hid (HV2.out.put2B X6 (.bool ng4) (.slice ao4 n4 cap4))
        have HV4 := Lib.hid (HV4.out.put2B X6 (.bool ng4) (.slice ao4 n4 cap4))
        have X6 := X6.set2I (.bool ng4) (.slice ao4 n4 cap4)
        have hbw := Below.put2 hbw (n := g6) (by omega) (.bool ng4) (.slice ao4 n4 cap4)
        have hE := hE0.mono hbw
        generalize ((v51.setCell ⟨g6, 0, none⟩ (.bool ng4)).setCell ⟨g6, 1, none⟩ (.slice ao4 n4 cap4)) = v52 at *
        go_wp2
        go_roundg (k - (i + 1))
        case measure => omega
        case rel => exact ⟨i + 1, ng4, ao4, n4, cap4, by omega, rfl, by go_num, X6, Lib.hid (by rw [Int.pow_succ, ← Int.mul_assoc]; exact HV4.out), X7, HV6, X1, HV2, hE, hbw⟩
      · obtain rfl : i = k := by omega
        have HD : Hid (((r.den : Nat) : Int) ≠ 0) := Lib.hid (Rq.den_ne r)
        obtain ⟨q, hq⟩ : ∃ q, q = (r.num * 10 ^ i).tdiv (r.den : Int) := ⟨_, rfl⟩
        have HQ := Lib.hid hq.symm
        clear hq
        obtain ⟨cX6_0, cX6_1, _, _⟩ := id X6
        obtain ⟨cX1_0, cX1_1, cX1_2, cX1_3, _, _, _, _⟩ := id X1
        go_wp2_with fail
        (with_reducible refine (Div_ok _ _ (r.num * 10 ^ i) (r.den : Int) wr HV3.out HV2.out HD hE).mono ?_)
        rintro e v51 ⟨⟨ngA, aoA, nA, capA, ngB, aoB, nB, capB, rfl, HVA⟩, hb⟩
        have X6 := X6.mono hb
        have X7 := X7.mono hb
        have X1 := X1.mono hb
        have HV3 := Lib.hid (HV3.out.mono hb)
        have HV6 := Lib.hid (HV6.out.mono hb)
        have HV2 := Lib.hid (HV2.out.mono hb)
        have hE := hE.mono hb
        have hbw := Below.step hbw hb (Nat.le_refl _)
        clear hb
        clear cX6_0 cX6_1 cX1_0 cX1_1 cX1_2 cX1_3
        go_upto_region 14 with fail
        have lXAX6 := X6.lt
        have lXAX7 := X7.lt
        have lXAX1 := X1.lt
        obtain ⟨wx, hwx, hszx, XA, XB, hb⟩ := boxes_22 v51 (.bool ngA) (.slice aoA nA capA) 24 (.bool ngB) (.slice aoB nB capB) 24
        rw [← hwx]
        clear hwx
        obtain ⟨v52, rfl⟩ : ∃ v52 : World, v52 = wx := ⟨_, rfl⟩
        have X6 := X6.mono hb
        have X7 := X7.mono hb
        have X1 := X1.mono hb
        have HV3 := Lib.hid (HV3.out.mono hb)
        have HV6 := Lib.hid (HV6.out.mono hb)
        have HV2 := Lib.hid (HV2.out.mono hb)
        have HVA := Lib.hid (HVA.out.mono hb)
        have hE := hE.mono hb
        have hbw := Below.step hbw hb (Nat.le_refl _)
        clear hb
        rw [HQ.out] at HVA
        have hls := Rq.dec_len301 HVA.out.small
        have HCUT := Lib.hid (Rq.itoa_cut q)
        obtain ⟨cXA_0, cXA_1, _, _⟩ := id XA
        go_wp2_with fail
        (with_reducible refine (Format_any _ q v52 HVA.out hE).mono ?_)
        rintro e v53 ⟨rfl, hb⟩
        have X6 := X6.mono hb
        have X7 := X7.mono hb
        have X1 := X1.mono hb
        have HV3 := Lib.hid (HV3.out.mono hb)
        have HV6 := Lib.hid (HV6.out.mono hb)
        have HV2 := Lib.hid (HV2.out.mono hb)
        have HVA := Lib.hid (HVA.out.mono hb)
        have XA := XA.mono hb
        have XB := XB.mono hb
        have hE := hE.mono hb
        have hbw := Below.step hbw hb (Nat.le_refl _)
        clear hb
        clear cXA_0 cXA_1
        go_wp2_with fail
        (with_reducible refine (Tryz.strings_CutPrefix _ _ _).mono ?_)
        rintro e w9 ⟨rfl, rfl⟩
        have e1 : (⟨(Lib.itoa q).toArray⟩ : ByteArray).data.toList = Lib.itoa q := rfl
        have e2 : (⟨#[45]⟩ : ByteArray).data.toList = [45] := rfl
        rw [e1, e2, HCUT.out.1, HCUT.out.2]
        clear e1 e2
        obtain ⟨t, ht⟩ : ∃ t, t = Lib.decDigits q.natAbs := ⟨_, rfl⟩
        rw [← ht] at hls ⊢
        have HT := Lib.hid ht
        clear ht
        go_wp2_with fail
        (with_reducible refine (repeat0 (i + 1 - t.length) _ ?_ ?_ _).mono ?_)
        · omega
        · omega
        rintro e w10 ⟨rfl, hb⟩
        have hbw := Below.step hbw hb (Nat.le_refl _)
        clear hb X6 X7 X1 XA XB HV3 HV6 HV2 HVA hE
        obtain ⟨p, hp⟩ : ∃ p, p = Rq.padT t i := ⟨_, rfl⟩
        have hpl : (i : Int) + 1 ≤ (p.length : Int) := by rw [hp]; unfold Rq.padT; simp; omega
        have hpm : p.length ≤ 400 := by rw [hp]; unfold Rq.padT; simp; omega
        have HP : Hid (List.replicate (i + 1 - t.length) 48 ++ t = p) := Lib.hid hp.symm
        clear hp
        go_upto_region 21 with fail
        have HBA : ({ data := Array.replicate (i + 1 - t.length) 48 } : ByteArray) ++ { data := t.toArray } = { data := p.toArray } := by
          rw [← HP.out, ← ba_cat, List.toArray_replicate]
        rw [HBA]
        clear HBA hs HD
        have HTP : Hid (Rq.decT q i = if q < 0 then 45 :: Rq.pointT p i else Rq.pointT p i) := Lib.hid (by unfold Rq.decT Rq.padT; rw [← HT.out, HP.out])
        clear HT HP HCUT
        obtain ⟨b, hb⟩ : ∃ b, b = decide (q < 0) := ⟨_, rfl⟩
        rw [← hb]
        have HD : Hid (Rq.decT ((r.num * 10 ^ i).tdiv (r.den : Int)) i = (if b = true then [45] else []) ++ Rq.pointT p i) := Lib.hid (by rw [HQ.out, HTP.out, hb]; by_cases h : q < 0 <;> simp [h])
        clear hb HTP HQ
        rcases Nat.eq_zero_or_pos i with h0 | h0
        · subst h0
          cases b
          all_goals
            go_wp2
            go_ret2
            exact ⟨ret_bytes (by ((first | rw [HD.out] | (have h := HD.out; simp only [Int.pow_zero, Int.mul_one] at h; rw [h])); first | rfl | exact ba_cat [45] p)), hbw⟩
        · have hi0 : (0 : Int) < (i : Int) := by omega
          have HPB : Hid (Rq.pointT p i = p.take (p.length - i) ++ 46 :: p.drop (p.length - i)) := Lib.hid (by unfold Rq.pointT; rw [if_neg (by omega)])
          go_wp2_with fail
          go_quiet (fail)
          cases b
          all_goals
            go_wp2
            go_ret2
            exact ⟨ret_bytes (by rw [HD.out, HPB.out, point_bytes]; first | rfl | exact ba_cat [45] _), below_drewN hbw _⟩

set_option maxRecDepth 100000 in
set_option maxHeartbeats 6400000 in
theorem DecimalQ_big (v : Value) (r : Rat) (k : Nat) (w : World) (hr : RatV w v r) (hk : k ≤ 20) (hs : Hid (¬ Rq.Sm (r.num * 10 ^ k))) (hE : Env w) :
    Calls Tryz.prog 26 #[v, .int .i64 k] w fun e w' => e = .returned (.tuple #[.string ⟨#[]⟩, .int .i64 3]) ∧ Below w.heap.size w w' := by
  have hE0 := hE
  have hbw := Below.refl w.heap.size w
  obtain ⟨ng1, ao1, n1, cap1, ng2, ao2, n2, cap2, rfl, h1, h2⟩ := hr
  have HV1 := Lib.hid h1
  have HV2 := Lib.hid h2
  clear h1 h2
  go_enter Tryz.func26, Tryz.ntmps26
  have hk1 : (0 : Int) ≤ (k : Int) := by omega
  have hk20 : (k : Int) ≤ 20 := by omega
  go_upto_region 1 with fail
  have X1 := Box4.new w (.bool ng1) (.slice ao1 n1 cap1) (.bool ng2) (.slice ao2 n2 cap2) 29
  have hb := below_alloc w (.cells #[.bool ng1, .slice ao1 n1 cap1, .bool ng2, .slice ao2 n2 cap2] 29)
  generalize w.alloc (.cells #[.bool ng1, .slice ao1 n1 cap1, .bool ng2, .slice ao2 n2 cap2] 29) = v1 at *
  have HV1 := Lib.hid (HV1.out.mono hb)
  have HV2 := Lib.hid (HV2.out.mono hb)
  have hE := hE.mono hb
  have hbw := Below.step hbw hb (Nat.le_refl _)
  clear hb
  obtain ⟨cX1_0, cX1_1, cX1_2, cX1_3, _, _, _, _⟩ := id X1
  go_wp2_with fail
  (with_reducible refine (Valid_true _ r v1 (RatV.mk' HV1 HV2) hE).mono ?_)
  rintro e v2 ⟨rfl, hb⟩
  have HV1 := Lib.hid (HV1.out.mono hb)
  have HV2 := Lib.hid (HV2.out.mono hb)
  have X1 := X1.mono hb
  have hE := hE.mono hb
  have hbw := Below.step hbw hb (Nat.le_refl _)
  clear hb
  clear cX1_0 cX1_1 cX1_2 cX1_3
  go_upto_region 5 with fail
  obtain ⟨wy, rfl⟩ : ∃ wy : World, wy = v2 := ⟨_, rfl⟩
  have l5X1 := X1.lt
  go_cut [6, 7] (fun s6 s7 wc => TwoB wy wc wy.heap.size s6 s7 r.num 10)
  case first =>
    refine wp_region_flow (fun L T W => Below wy.heap.size wy W ∧ (L 0 → T 23 = .pointer (some ⟨w.heap.size, 0, none⟩)) ∧ (L 1 → (fun W v => IntV W v r.num) W (T 24)) ∧ (L 2 → (fun W v => IntV W v 10) W (T 25)) ∧ (L 3 → Slot W wy.heap.size (fun W v => IntV W v r.num) (L 5) (T 6)) ∧ (L 4 → Slot W wy.heap.size (fun W v => IntV W v 10) (L 6) (T 7)) ∧ (L 3 → L 4 → T 6 ≠ T 7) ∧ (L 5 → L 3) ∧ (L 6 → L 4)) [23, 24, 25, 6, 7] (by kernel_rfl) (by kernel_rfl) (by kernel_rfl) ?h0 ⟨?s0, ?s1, ?s2, ?s3, ?s4, ?s5, ?s6, trivial⟩ ?he ?hm
    case h0 => exact fun T => ⟨(Below.refl _ _).drew, fun h => h.elim, fun h => h.elim, fun h => h.elim, fun h => h.elim, fun h => h.elim, fun h => h.elim, fun h => h.elim, fun h => h.elim⟩
    case hm =>
      rintro L T W hL ⟨hb, f0, f1, f2, f3, f4, n3_4, c3, c4⟩
      exact ⟨hb, fun _ => f0 (hL _ (by decide)), fun _ => f1 (hL _ (by decide)), fun _ => f2 (hL _ (by decide)), fun _ => (f3 (hL _ (by decide))).congr ⟨fun _ => by decide, fun _ => hL _ (by decide)⟩, fun _ => (f4 (hL _ (by decide))).congr ⟨fun _ => by decide, fun _ => hL _ (by decide)⟩, fun _ _ => n3_4 (hL _ (by decide)) (hL _ (by decide)), fun _ => by decide, fun _ => by decide⟩
    case s0 =>
      rintro L T W hd hn hJ K hK
      have HJ := Lib.hid hJ
      clear hJ
      have hb := HJ.out.1
      simp only [ovr, Act.put, List.setIfInBounds_toArray, List.set_cons_zero, List.set_cons_succ] at hK ⊢
      have HK := Lib.hid hK
      clear hK
      refine wpOp_want rfl rfl ?_
      go_simp
      obtain ⟨hb, f0, f1, f2, f3, f4, n3_4, c3, c4⟩ := HJ.out
      exact HK.out _ _ ⟨hb, fun _ => rfl, fun h => f1 (h.resolve_left (by decide)), fun h => f2 (h.resolve_left (by decide)), fun h => ((f3 (h.resolve_left (by decide)))).congr ⟨fun h => .inr h, fun h => h.resolve_left (by decide)⟩, fun h => ((f4 (h.resolve_left (by decide)))).congr ⟨fun h => .inr h, fun h => h.resolve_left (by decide)⟩, fun h1 h2 => n3_4 (h1.resolve_left (by decide)) (h2.resolve_left (by decide)), fun h => .inr (c3 (h.resolve_left (by decide))), fun h => .inr (c4 (h.resolve_left (by decide)))⟩
    case s1 =>
      rintro L T W hd hn hJ K hK
      have HJ := Lib.hid hJ
      clear hJ
      have hb := HJ.out.1
      have e0 := HJ.out.2.1 hd.1
      obtain ⟨c0, c1⟩ := S14 X1 hb
      simp only [ovr, Act.put, List.setIfInBounds_toArray, List.set_cons_zero, List.set_cons_succ, e0] at hK ⊢
      have HK := Lib.hid hK
      clear hK
      refine wpOp_want rfl rfl ?_
      go_simp
      obtain ⟨hb, f0, f1, f2, f3, f4, n3_4, c3, c4⟩ := HJ.out
      exact HK.out _ _ ⟨hb, fun h => f0 (h.resolve_left (by decide)), fun _ => HV1.out.mono hb, fun h => f2 (h.resolve_left (by decide)), fun h => ((f3 (h.resolve_left (by decide)))).congr ⟨fun h => .inr h, fun h => h.resolve_left (by decide)⟩, fun h => ((f4 (h.resolve_left (by decide)))).congr ⟨fun h => .inr h, fun h => h.resolve_left (by decide)⟩, fun h1 h2 => n3_4 (h1.resolve_left (by decide)) (h2.resolve_left (by decide)), fun h => .inr (c3 (h.resolve_left (by decide))), fun h => .inr (c4 (h.resolve_left (by decide)))⟩
    case s2 =>
      rintro L T W hd hn hJ K hK
      have HJ := Lib.hid hJ
      clear hJ
      have hb := HJ.out.1
      simp only [ovr, Act.put, List.setIfInBounds_toArray, List.set_cons_zero, List.set_cons_succ] at hK ⊢
      have HK := Lib.hid hK
      clear hK
      refine wpOp_want rfl rfl ?_
      go_simp
      (with_reducible refine (of_any 10 (by decide) (by decide) _ (hE.mono hb)).mono ?_)
      rintro e w1 ⟨⟨ng7, ao7, n7, cap7, rfl, HV7⟩, hb1⟩
      have hr : IntV w1 (.agg #[.bool ng7, .slice ao7 n7 cap7]) 10 := HV7.out
      dsimp only
      obtain ⟨hb, f0, f1, f2, f3, f4, n3_4, c3, c4⟩ := HJ.out
      exact HK.out _ _ ⟨Below.step hb hb1 (Nat.le_refl _), fun h => f0 (h.resolve_left (by decide)), fun h => (stay_int r.num).mono (f1 (h.resolve_left (by decide))) hb1, fun _ => hr, fun h => ((f3 (h.resolve_left (by decide))).mono (stay_int r.num) hb1).congr ⟨fun h => .inr h, fun h => h.resolve_left (by decide)⟩, fun h => ((f4 (h.resolve_left (by decide))).mono (stay_int 10) hb1).congr ⟨fun h => .inr h, fun h => h.resolve_left (by decide)⟩, fun h1 h2 => n3_4 (h1.resolve_left (by decide)) (h2.resolve_left (by decide)), fun h => .inr (c3 (h.resolve_left (by decide))), fun h => .inr (c4 (h.resolve_left (by decide)))⟩
    case s3 =>
      rintro L T W hd hn hJ K hK
      have HJ := Lib.hid hJ
      clear hJ
      have hb := HJ.out.1
      simp only [ovr, Act.put, List.setIfInBounds_toArray, List.set_cons_zero, List.set_cons_succ] at hK ⊢
      have HK := Lib.hid hK
      clear hK
      refine wpOp_want rfl rfl ?_
      go_simp
      have hb1 := below_alloc W (.cells #[.bool false, .slice none 0 0] 24)
      obtain ⟨hb, f0, f1, f2, f3, f4, n3_4, c3, c4⟩ := HJ.out
      exact HK.out _ _ ⟨Below.step hb hb1 (Nat.le_refl _), fun h => f0 (h.resolve_left (by decide)), fun h => (stay_int r.num).mono (f1 (h.resolve_left (by decide))) hb1, fun h => (stay_int 10).mono (f2 (h.resolve_left (by decide))) hb1, fun _ => Slot.new W (fun h => hn (c3 (h.resolve_left (by decide)))) _ hb.size, fun h => ((f4 (h.resolve_left (by decide))).mono (stay_int 10) hb1).congr ⟨fun h => .inr h, fun h => h.resolve_left (by decide)⟩, fun _ h2 => (f4 (h2.resolve_left (by decide))).ne_new.symm, fun _ => .inl (by decide), fun h => .inr (c4 (h.resolve_left (by decide)))⟩
    case s4 =>
      rintro L T W hd hn hJ K hK
      have HJ := Lib.hid hJ
      clear hJ
      have hb := HJ.out.1
      simp only [ovr, Act.put, List.setIfInBounds_toArray, List.set_cons_zero, List.set_cons_succ] at hK ⊢
      have HK := Lib.hid hK
      clear hK
      refine wpOp_want rfl rfl ?_
      go_simp
      have hb1 := below_alloc W (.cells #[.bool false, .slice none 0 0] 24)
      obtain ⟨hb, f0, f1, f2, f3, f4, n3_4, c3, c4⟩ := HJ.out
      exact HK.out _ _ ⟨Below.step hb hb1 (Nat.le_refl _), fun h => f0 (h.resolve_left (by decide)), fun h => (stay_int r.num).mono (f1 (h.resolve_left (by decide))) hb1, fun h => (stay_int 10).mono (f2 (h.resolve_left (by decide))) hb1, fun h => ((f3 (h.resolve_left (by decide))).mono (stay_int r.num) hb1).congr ⟨fun h => .inr h, fun h => h.resolve_left (by decide)⟩, fun _ => Slot.new W (fun h => hn (c4 (h.resolve_left (by decide)))) _ hb.size, fun h1 _ => (f3 (h1.resolve_left (by decide))).ne_new, fun h => .inr (c3 (h.resolve_left (by decide))), fun _ => .inl (by decide)⟩
    case s5 =>
      rintro L T W hd hn hJ K hK
      have HJ := Lib.hid hJ
      clear hJ
      have hb := HJ.out.1
      have r1 := HJ.out.2.2.1 hd.2.1
      have r2 := HJ.out.2.2.2.1 hd.2.2.1
      have e0 := HJ.out.2.1 hd.2.2.2.1
      have da := hd.1
      have hr := r1
      obtain ⟨m, em, hm1, hm2, hB⟩ := (HJ.out.2.2.2.2.1 da).open hn
      obtain ⟨ng, ao, nn, cap, ev⟩ := IntV.parts hr
      rw [ev] at hr
      obtain ⟨b0, b1, b2, b3⟩ := id hB
      simp only [ovr, Act.put, List.setIfInBounds_toArray, List.set_cons_zero, List.set_cons_succ, e0, em, ev] at hK ⊢
      have HK := Lib.hid hK
      clear hK
      refine wpOp_want rfl rfl ?_
      go_simp
      obtain ⟨hb, f0, f1, f2, f3, f4, n3_4, c3, c4⟩ := HJ.out
      exact HK.out undef _ ⟨Below.put2 hb hm1 _ _, fun h => f0 (h.resolve_left (by decide)), fun h => (stay_int r.num).put (f1 (h.resolve_left (by decide))) hB, fun h => (stay_int 10).put (f2 (h.resolve_left (by decide))) hB, fun h => by show Slot _ _ _ _ (T 6); rw [em]; exact Slot.stored (stay_int r.num) hm1 hB (.inl (by decide)) hr, fun h => ((f4 (h.resolve_left (by decide))).other (stay_int 10) (by rw [← em]; exact (n3_4 da (h.resolve_left (by decide))).symm) hB).congr ⟨fun h => .inr h, fun h => h.resolve_left (by decide)⟩, fun h1 h2 => n3_4 (h1.resolve_left (by decide)) (h2.resolve_left (by decide)), fun _ => .inr da, fun h => .inr (c4 (h.resolve_left (by decide)))⟩
    case s6 =>
      rintro L T W hd hn hJ K hK
      have HJ := Lib.hid hJ
      clear hJ
      have hb := HJ.out.1
      have r2 := HJ.out.2.2.2.1 hd.2.1
      have e0 := HJ.out.2.1 hd.2.2.2.1
      have r1 := HJ.out.2.2.1 hd.2.2.2.2.1
      have da := hd.1
      have hr := r2
      obtain ⟨m, em, hm1, hm2, hB⟩ := (HJ.out.2.2.2.2.2.1 da).open hn
      obtain ⟨ng, ao, nn, cap, ev⟩ := IntV.parts hr
      rw [ev] at hr
      obtain ⟨b0, b1, b2, b3⟩ := id hB
      simp only [ovr, Act.put, List.setIfInBounds_toArray, List.set_cons_zero, List.set_cons_succ, e0, em, ev] at hK ⊢
      have HK := Lib.hid hK
      clear hK
      refine wpOp_want rfl rfl ?_
      go_simp
      obtain ⟨hb, f0, f1, f2, f3, f4, n3_4, c3, c4⟩ := HJ.out
      exact HK.out undef _ ⟨Below.put2 hb hm1 _ _, fun h => f0 (h.resolve_left (by decide)), fun h => (stay_int r.num).put (f1 (h.resolve_left (by decide))) hB, fun h => (stay_int 10).put (f2 (h.resolve_left (by decide))) hB, fun h => ((f3 (h.resolve_left (by decide))).other (stay_int r.num) (by rw [← em]; exact n3_4 (h.resolve_left (by decide)) da) hB).congr ⟨fun h => .inr h, fun h => h.resolve_left (by decide)⟩, fun h => by show Slot _ _ _ _ (T 7); rw [em]; exact Slot.stored (stay_int 10) hm1 hB (.inl (by decide)) hr, fun h1 h2 => n3_4 (h1.resolve_left (by decide)) (h2.resolve_left (by decide)), fun h => .inr (c3 (h.resolve_left (by decide))), fun _ => .inr da⟩
    case he =>
      rintro T W ⟨hb, f0, f1, f2, f3, f4, n3_4, c3, c4⟩
      simp only [ovr, List.setIfInBounds_toArray, List.set_cons_zero, List.set_cons_succ]
      obtain ⟨g6, ng5, ao5, n5, cap5, e6, hg6, B6, V6⟩ := (f3 (by decide)).at (by decide)
      obtain ⟨g7, ng6, ao6, n6, cap6, e7, hg7, B7, V7⟩ := (f4 (by decide)).at (by decide)
      have hne := n3_4 (by decide) (by decide)
      rw [e6, e7]
      go_wp2_with fail
      go_meet
      exact ⟨g6, g7, ng5, ao5, n5, cap5, ng6, ao6, n6, cap6, rfl, rfl, fun h => hne (by rw [e6, e7, h]), hg6, hg7, B6, B7, Lib.hid V6, Lib.hid V7, hb⟩
  case rest =>
    obtain ⟨g6, g7, ng5, ao5, n5, cap5, ng6, ao6, n6, cap6, rfl, rfl, hg67, hg6, hg7, X6, X7, HV5, HV6, hb⟩ := hcut
    have HV1 := Lib.hid (HV1.out.mono hb)
    have HV2 := Lib.hid (HV2.out.mono hb)
    have X1 := X1.mono hb
    have hE := hE.mono hb
    have hbw := Below.step hbw hb (Nat.le_refl _)
    clear hb
    go_wp2_with fail
    go_loopg [8, 27] k (fun gk s8 s27 wr => ∃ (i : Nat) (ng : Bool) (ao : Option Addr) (l cap : Nat), i ≤ k ∧ gk = k - i ∧ s27 = .int .i64 i ∧ Box wr g6 (.bool ng) (.slice ao l cap) ∧ Hid (IntV wr (.agg #[.bool ng, .slice ao l cap]) (r.num * 10 ^ i)) ∧ Box wr g7 (.bool ng6) (.slice ao6 n6 cap6) ∧ Hid (IntV wr (.agg #[.bool ng6, .slice ao6 n6 cap6]) 10) ∧ Box4 wr w.heap.size (.bool ng1) (.slice ao1 n1 cap1) (.bool ng2) (.slice ao2 n2 cap2) ∧ Hid (IntV wr (.agg #[.bool ng2, .slice ao2 n2 cap2]) (r.den : Int)) ∧ Env wr ∧ Below w.heap.size w wr)
    case atStart => exact ⟨0, ng5, ao5, n5, cap5, by omega, by omega, rfl, X6, Lib.hid (by simpa using HV5.out), X7, HV6, X1, HV2, hE, hbw⟩
    case round =>
      clear X6 HV5 X7 HV6 X1 HV1 HV2 hE hbw
      obtain ⟨i, ng3, ao3, n3, cap3, hik, rfl, rfl, X6, HV3, X7, HV6, X1, HV2, hE, hbw⟩ := hrel
      by_cases hlt : i < k
      · by_cases hnx : Rq.Sm (r.num * 10 ^ i * 10)
        · have HS := Lib.hid hnx
          obtain ⟨cX6_0, cX6_1, _, _⟩ := id X6
          obtain ⟨cX7_0, cX7_1, _, _⟩ := id X7
          go_wp2_with fail
          (with_reducible refine (Mul_ok _ _ (r.num * 10 ^ i) 10 wr HV3.out HV6.out HS hE).mono ?_)
          rintro e v51 ⟨⟨ng4, ao4, n4, cap4, rfl, HV4⟩, hb⟩
          have X6 := X6.mono hb
          have X7 := X7.mono hb
          have X1 := X1.mono hb
          have HV3 := Lib.hid (HV3.out.mono hb)
          have HV6 := Lib.hid (HV6.out.mono hb)
          have HV2 := Lib.hid (HV2.out.mono hb)
          have hE := hE.mono hb
          have hbw := Below.step hbw hb (Nat.le_refl _)
          clear hb
          clear cX6_0 cX6_1 cX7_0 cX7_1
          obtain ⟨cX6_0, cX6_1, _, _⟩ := id X6
          go_upto_region 10 with fail
          clear cX6_0 cX6_1
          have X7 := X7.other2 (u := .bool ng4) (v := .slice ao4 n4 cap4) (show g7 ≠ g6 by omega)
          have X1 := X1.other2 (u := .bool ng4) (v := .slice ao4 n4 cap4) (show w.heap.size ≠ g6 by omega)
          have HV3 := Lib.hid (HV3.out.put2B X6 (.bool ng4) (.slice ao4 n4 cap4))
          have HV6 := Lib.hid (HV6.out.put2B X6 (.bool ng4) (.slice ao4 n4 cap4))
          have HV2 := Lib.hid (HV2.out.put2B X6 (.bool ng4) (.slice ao4 n4 cap4))
          have HV4 := Lib.hid (HV4.out.put2B X6 (.bool ng4) (.slice ao4 n4 cap4))
          have X6 := X6.set2I (.bool ng4) (.slice ao4 n4 cap4)
          have hbw := Below.put2 hbw (n := g6) (by omega) (.bool ng4) (.slice ao4 n4 cap4)
          have hE := hE0.mono hbw
          generalize ((v51.setCell ⟨g6, 0, none⟩ (.bool ng4)).setCell ⟨g6, 1, none⟩ (.slice ao4 n4 cap4)) = v52 at *
          go_wp2
          go_roundg (k - (i + 1))
          case measure => omega
          case rel => exact ⟨i + 1, ng4, ao4, n4, cap4, by omega, rfl, by go_num, X6, Lib.hid (by rw [Int.pow_succ, ← Int.mul_assoc]; exact HV4.out), X7, HV6, X1, HV2, hE, hbw⟩
        · have HS := Lib.hid hnx
          obtain ⟨cX6_0, cX6_1, _, _⟩ := id X6
          obtain ⟨cX7_0, cX7_1, _, _⟩ := id X7
          go_wp2_with fail
          (with_reducible refine (Mul_big _ _ (r.num * 10 ^ i) 10 wr HV3.out HV6.out HS hE).mono ?_)
          rintro e v51 ⟨rfl, hb⟩
          have X6 := X6.mono hb
          have X7 := X7.mono hb
          have X1 := X1.mono hb
          have HV3 := Lib.hid (HV3.out.mono hb)
          have HV6 := Lib.hid (HV6.out.mono hb)
          have HV2 := Lib.hid (HV2.out.mono hb)
          have hE := hE.mono hb
          have hbw := Below.step hbw hb (Nat.le_refl _)
          clear hb
          clear cX6_0 cX6_1 cX7_0 cX7_1
          obtain ⟨cX6_0, cX6_1, _, _⟩ := id X6
          go_upto_region 10 with fail
          clear cX6_0 cX6_1
          have X7 := X7.other2 (u := .bool false) (v := .slice none 0 0) (show g7 ≠ g6 by omega)
          have X1 := X1.other2 (u := .bool false) (v := .slice none 0 0) (show w.heap.size ≠ g6 by omega)
          have HV3 := Lib.hid (HV3.out.put2B X6 (.bool false) (.slice none 0 0))
          have HV6 := Lib.hid (HV6.out.put2B X6 (.bool false) (.slice none 0 0))
          have HV2 := Lib.hid (HV2.out.put2B X6 (.bool false) (.slice none 0 0))
          have X6 := X6.set2I (.bool false) (.slice none 0 0)
          have hbw := Below.put2 hbw (n := g6) (by omega) (.bool false) (.slice none 0 0)
          have hE := hE0.mono hbw
          generalize ((v51.setCell ⟨g6, 0, none⟩ (.bool false)).setCell ⟨g6, 1, none⟩ (.slice none 0 0)) = v52 at *
          go_wp2
          go_ret2
          exact ⟨rfl, hbw⟩
      · obtain rfl : i = k := by omega
        exact absurd HV3.out.small hs.out

set_option maxRecDepth 100000 in
set_option maxHeartbeats 1600000 in
theorem DecimalQ_low (v : Value) (r : Rat) (k : Int) (w : World) (hr : RatV w v r) (hk : k < 0) (hE : Env w) :
    Calls Tryz.prog 26 #[v, .int .i64 k] w fun e w' => e = .returned (.tuple #[.string ⟨#[]⟩, .int .i64 7]) ∧ Below w.heap.size w w' := by
  have h0 := hk
  have hE0 := hE
  have hbw := Below.refl w.heap.size w
  obtain ⟨ng1, ao1, n1, cap1, ng2, ao2, n2, cap2, rfl, h1, h2⟩ := hr
  have HV1 := Lib.hid h1
  have HV2 := Lib.hid h2
  clear h1 h2
  go_enter Tryz.func26, Tryz.ntmps26
  go_upto_region 1 with fail
  have X1 := Box4.new w (.bool ng1) (.slice ao1 n1 cap1) (.bool ng2) (.slice ao2 n2 cap2) 29
  have hb := below_alloc w (.cells #[.bool ng1, .slice ao1 n1 cap1, .bool ng2, .slice ao2 n2 cap2] 29)
  generalize w.alloc (.cells #[.bool ng1, .slice ao1 n1 cap1, .bool ng2, .slice ao2 n2 cap2] 29) = v1 at *
  have HV1 := Lib.hid (HV1.out.mono hb)
  have HV2 := Lib.hid (HV2.out.mono hb)
  have hE := hE.mono hb
  have hbw := Below.step hbw hb (Nat.le_refl _)
  clear hb
  obtain ⟨cX1_0, cX1_1, cX1_2, cX1_3, _, _, _, _⟩ := id X1
  go_wp2_with fail
  (with_reducible refine (Valid_true _ r v1 (RatV.mk' HV1 HV2) hE).mono ?_)
  rintro e v2 ⟨rfl, hb⟩
  have HV1 := Lib.hid (HV1.out.mono hb)
  have HV2 := Lib.hid (HV2.out.mono hb)
  have X1 := X1.mono hb
  have hE := hE.mono hb
  have hbw := Below.step hbw hb (Nat.le_refl _)
  clear hb
  clear cX1_0 cX1_1 cX1_2 cX1_3
  go_wp2
  go_ret2
  exact ⟨rfl, hbw⟩

set_option maxRecDepth 100000 in
set_option maxHeartbeats 1600000 in
theorem DecimalQ_high (v : Value) (r : Rat) (k : Int) (w : World) (hr : RatV w v r) (hk : 20 < k) (hE : Env w) :
    Calls Tryz.prog 26 #[v, .int .i64 k] w fun e w' => e = .returned (.tuple #[.string ⟨#[]⟩, .int .i64 7]) ∧ Below w.heap.size w w' := by
  have h0 := hk
  have h1 : decide (k < 0) = false := by simp; omega
  have hE0 := hE
  have hbw := Below.refl w.heap.size w
  obtain ⟨ng1, ao1, n1, cap1, ng2, ao2, n2, cap2, rfl, h1, h2⟩ := hr
  have HV1 := Lib.hid h1
  have HV2 := Lib.hid h2
  clear h1 h2
  go_enter Tryz.func26, Tryz.ntmps26
  go_upto_region 1 with fail
  have X1 := Box4.new w (.bool ng1) (.slice ao1 n1 cap1) (.bool ng2) (.slice ao2 n2 cap2) 29
  have hb := below_alloc w (.cells #[.bool ng1, .slice ao1 n1 cap1, .bool ng2, .slice ao2 n2 cap2] 29)
  generalize w.alloc (.cells #[.bool ng1, .slice ao1 n1 cap1, .bool ng2, .slice ao2 n2 cap2] 29) = v1 at *
  have HV1 := Lib.hid (HV1.out.mono hb)
  have HV2 := Lib.hid (HV2.out.mono hb)
  have hE := hE.mono hb
  have hbw := Below.step hbw hb (Nat.le_refl _)
  clear hb
  obtain ⟨cX1_0, cX1_1, cX1_2, cX1_3, _, _, _, _⟩ := id X1
  go_wp2_with fail
  (with_reducible refine (Valid_true _ r v1 (RatV.mk' HV1 HV2) hE).mono ?_)
  rintro e v2 ⟨rfl, hb⟩
  have HV1 := Lib.hid (HV1.out.mono hb)
  have HV2 := Lib.hid (HV2.out.mono hb)
  have X1 := X1.mono hb
  have hE := hE.mono hb
  have hbw := Below.step hbw hb (Nat.le_refl _)
  clear hb
  clear cX1_0 cX1_1 cX1_2 cX1_3
  go_wp2
  go_ret2
  exact ⟨rfl, hbw⟩

set_option maxRecDepth 100000 in
set_option maxHeartbeats 1600000 in
theorem DecimalQ_inv (v : Value) (k : Int) (w : World) (hqa : VQ w v false) (hE : Env w) :
    Calls Tryz.prog 26 #[v, .int .i64 k] w fun e w' => e = .returned (.tuple #[.string ⟨#[]⟩, .int .i64 1]) ∧ Below w.heap.size w w' := by
  have hE0 := hE
  have hbw := Below.refl w.heap.size w
  obtain ⟨ng1, ao1, n1, cap1, ng2, ao2, n2, cap2, rfl⟩ := hqa.parts
  go_enter Tryz.func26, Tryz.ntmps26
  go_upto_region 1 with fail
  have X1 := Box4.new w (.bool ng1) (.slice ao1 n1 cap1) (.bool ng2) (.slice ao2 n2 cap2) 29
  have hb := below_alloc w (.cells #[.bool ng1, .slice ao1 n1 cap1, .bool ng2, .slice ao2 n2 cap2] 29)
  generalize w.alloc (.cells #[.bool ng1, .slice ao1 n1 cap1, .bool ng2, .slice ao2 n2 cap2] 29) = v1 at *
  have hqa := hqa.mono hb
  have hE := hE.mono hb
  have hbw := Below.step hbw hb (Nat.le_refl _)
  clear hb
  obtain ⟨cX1_0, cX1_1, cX1_2, cX1_3, _, _, _, _⟩ := id X1
  go_wp2_with fail
  (with_reducible refine (Valid_v _ false v1 hqa hE).mono ?_)
  rintro e v2 ⟨rfl, hb⟩
  have hqa := hqa.mono hb
  have X1 := X1.mono hb
  have hE := hE.mono hb
  have hbw := Below.step hbw hb (Nat.le_refl _)
  clear hb
  clear cX1_0 cX1_1 cX1_2 cX1_3
  go_wp2
  go_ret2
  exact ⟨rfl, hbw⟩

end Go.Proofs.YtgenhkakcbedaaaGreatDoor
