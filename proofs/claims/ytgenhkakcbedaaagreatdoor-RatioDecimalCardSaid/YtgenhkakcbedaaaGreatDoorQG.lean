import Derived.Test.YtgenhkakcbedaaaGreatDoorQC
import Derived.Test.YtgenhkakcbedaaaGreatDoorQA
namespace Go.Proofs.YtgenhkakcbedaaaGreatDoor
open Go.RowKit

/-- an integer and an error -/
def TupI (z k : Int) (W : World) (v : Value) : Prop := ∃ a, v = .tuple #[a, .int .i64 k] ∧ IntV W a z
theorem stay_tup (z k : Int) : Stay (TupI z k) := ⟨fun ⟨a, e, h⟩ hb => ⟨a, e, h.mono hb⟩, fun ⟨a, e, h⟩ hB => ⟨a, e, h.putFN hB⟩⟩

/-- a box of an integer has been made -/
def OneI (wy wc : World) (s : Value) (z : Int) : Prop :=
  ∃ (g : Nat) (ng : Bool) (ao : Option Addr) (l cap : Nat), s = .pointer (some ⟨g, 0, none⟩) ∧ wy.heap.size ≤ g ∧ Box wc g (.bool ng) (.slice ao l cap) ∧ Hid (IntV wc (.agg #[.bool ng, .slice ao l cap]) z) ∧ Below wy.heap.size wy wc

theorem S21 {wx W : World} {n : Nat} {x0 x1 : Value} (B1 : Box wx n x0 x1) (h : Below wx.heap.size wx W) : W.cell? ⟨n, 0, none⟩ = some x0 ∧ W.cell? ⟨n, 1, none⟩ = some x1 :=
  ⟨(B1.mono h).c0, (B1.mono h).c1⟩

theorem rDecimalPad (t : List UInt8) (k : Nat) (h : t.length < k + 1) : Rq.padT (48 :: t) k = Rq.padT t k := by
  unfold Rq.padT
  rw [List.length_cons, show k + 1 - t.length = (k + 1 - (t.length + 1)) + 1 by omega, List.replicate_succ', List.append_assoc]
  rfl

theorem padT_done (t : List UInt8) (k : Nat) (h : ¬ t.length < k + 1) : Rq.padT t k = t := by
  unfold Rq.padT
  rw [show k + 1 - t.length = 0 by omega]; rfl

set_option maxRecDepth 100000 in
set_option maxHeartbeats 6400000 in
theorem rDecimalQ (v : Value) (r : Rat) (k : Nat) (w : World) (hr : RatV w v r) (hk : k ≤ 20) (hs : Hid (Rq.Sm (r.num * 10 ^ k))) (hE : Env w) :
    Calls Tryz.prog 27 #[v, .int .i64 k] w fun e w' => e = .returned (.tuple #[.string ⟨(Rq.decT ((r.num * 10 ^ k).tdiv (r.den : Int)) k).toArray⟩, .int .i64 0]) ∧ Below w.heap.size w w' := by
  have hE0 := hE
  have hbw := Below.refl w.heap.size w
  obtain ⟨ng1, ao1, n1, cap1, ng2, ao2, n2, cap2, rfl, h1, h2⟩ := hr
  have HV1 := Lib.hid h1
  have HV2 := Lib.hid h2
  clear h1 h2
  go_enter Tryz.func27, Tryz.ntmps27
  have hk1 : (0 : Int) ≤ (k : Int) := by omega
  have hk20 : (k : Int) ≤ 20 := by omega
  go_upto_region 1 with fail
  have X1 := Box4.new w (.bool ng1) (.slice ao1 n1 cap1) (.bool ng2) (.slice ao2 n2 cap2) 29
  have hb := below_alloc w (.cells #[.bool ng1, .slice ao1 n1 cap1, .bool ng2, .slice ao2 n2 cap2] 29)
  generalize w.alloc (.cells #[.bool ng1, .slice ao1 n1 cap1, .bool ng2, .slice ao2 n2 cap2] 29) = v1 at *
  have HV1 := Lib.hid (HV1.out.mono hb)
  have HV2 := Lib.hid (HV2.out.mono hb)
  have hE := hE.mono hb
  have hbw := Below.step hbw hb (Nat.le_refl _)
  clear hb
  obtain ⟨cX1_0, cX1_1, cX1_2, cX1_3, _, _, _, _⟩ := id X1
  go_wp2_with fail
  (with_reducible refine (rValid_true _ r v1 (RatV.mk' HV1 HV2) hE).mono ?_)
  rintro e v2 ⟨rfl, hb⟩
  have HV1 := Lib.hid (HV1.out.mono hb)
  have HV2 := Lib.hid (HV2.out.mono hb)
  have X1 := X1.mono hb
  have hE := hE.mono hb
  have hbw := Below.step hbw hb (Nat.le_refl _)
  clear hb
  clear cX1_0 cX1_1 cX1_2 cX1_3
  obtain ⟨cX1_0, cX1_1, cX1_2, cX1_3, _, _, _, _⟩ := id X1
  go_upto_region 6 with fail
  clear cX1_0 cX1_1 cX1_2 cX1_3
  have lX6X1 := X1.lt
  have X6 := Box.new v2 (.bool ng1) (.slice ao1 n1 cap1) 24
  have hb := below_alloc v2 (.cells #[.bool ng1, .slice ao1 n1 cap1] 24)
  generalize v2.alloc (.cells #[.bool ng1, .slice ao1 n1 cap1] 24) = v3 at *
  have HV1 := Lib.hid (HV1.out.mono hb)
  have HV2 := Lib.hid (HV2.out.mono hb)
  have X1 := X1.mono hb
  have hE := hE.mono hb
  have hbw := Below.step hbw hb (Nat.le_refl _)
  clear hb
  go_wp2_with fail
  go_loopg [7, 8, 9] k (fun gk s7 s8 s9 wr => ∃ (i : Nat) (ng : Bool) (ao : Option Addr) (l cap : Nat), i ≤ k ∧ gk = k - i ∧ s7 = .int .i64 i ∧ Box wr v2.heap.size (.bool ng) (.slice ao l cap) ∧ Hid (IntV wr (.agg #[.bool ng, .slice ao l cap]) (r.num * 10 ^ i)) ∧ Box4 wr w.heap.size (.bool ng1) (.slice ao1 n1 cap1) (.bool ng2) (.slice ao2 n2 cap2) ∧ Hid (IntV wr (.agg #[.bool ng2, .slice ao2 n2 cap2]) (r.den : Int)) ∧ Env wr ∧ Below w.heap.size w wr)
  case atStart => exact ⟨0, ng1, ao1, n1, cap1, by omega, by omega, rfl, X6, Lib.hid (by simpa using HV1.out), X1, HV2, hE, hbw⟩
  case round =>
    clear X6 X1 HV1 HV2 hE hbw
    obtain ⟨i, ng3, ao3, n3, cap3, hik, rfl, rfl, X6, HV3, X1, HV2, hE, hbw⟩ := hrel
    have l6X6 := X6.lt
    have l6X1 := X1.lt
    by_cases hlt : i < k
    · have HS : Hid (Rq.Sm (r.num * 10 ^ i * 10)) := Lib.hid (by rw [Int.mul_assoc, ← Int.pow_succ]; exact Rq.sm_pow hs.out (by omega))
      go_upto_region 9 with fail
      obtain ⟨wy, rfl⟩ : ∃ wy : World, wy = wr := ⟨_, rfl⟩
      go_cut [8, 9] from 30 to 35 (fun s8 s9 wc => OneI wy wc s8 ((r.num * 10 ^ i) * 10) ∧ s9 = .int .i64 0)
      case first =>
        refine wp_region_flow (fun L T W => Below wy.heap.size wy W ∧ (L 0 → (fun W v => IntV W v (r.num * 10 ^ i)) W (T 31)) ∧ (L 1 → (fun W v => IntV W v 10) W (T 32)) ∧ (L 2 → (TupI ((r.num * 10 ^ i) * 10) 0) W (T 33)) ∧ (L 3 → (TupI ((r.num * 10 ^ i) * 10) 0) W (T 30)) ∧ (L 4 → (fun W v => IntV W v ((r.num * 10 ^ i) * 10)) W (T 34)) ∧ (L 5 → T 35 = .int .i64 0) ∧ (L 6 → Slot W wy.heap.size (fun W v => IntV W v ((r.num * 10 ^ i) * 10)) (L 7) (T 8)) ∧ (L 8 → T 9 = .int .i64 0) ∧ (L 7 → L 6)) [31, 32, 33, 30, 34, 35, 8, 9] (by kernel_rfl) (by kernel_rfl) (by kernel_rfl) ?h0 ⟨?s0, ?s1, ?s2, ?s3, ?s4, ?s5, ?s6, ?s7, ?s8, trivial⟩ ?he ?hm
        case h0 => exact fun T => ⟨(Below.refl _ _).drew, fun h => h.elim, fun h => h.elim, fun h => h.elim, fun h => h.elim, fun h => h.elim, fun h => h.elim, fun h => h.elim, fun h => h.elim, fun h => h.elim⟩
        case hm =>
          rintro L T W hL ⟨hb, f0, f1, f2, f3, f4, f5, f6, f8, c6⟩
          exact ⟨hb, fun _ => f0 (hL _ (by decide)), fun _ => f1 (hL _ (by decide)), fun _ => f2 (hL _ (by decide)), fun _ => f3 (hL _ (by decide)), fun _ => f4 (hL _ (by decide)), fun _ => f5 (hL _ (by decide)), fun _ => (f6 (hL _ (by decide))).congr ⟨fun _ => by decide, fun _ => hL _ (by decide)⟩, fun _ => f8 (hL _ (by decide)), fun _ => by decide⟩
        case s0 =>
          rintro L T W hd hn hJ K hK
          have HJ := Lib.hid hJ
          clear hJ
          have hb := HJ.out.1
          obtain ⟨c0, c1⟩ := S21 X6 hb
          simp only [ovr, Act.put, List.setIfInBounds_toArray, List.set_cons_zero, List.set_cons_succ] at hK ⊢
          have HK := Lib.hid hK
          clear hK
          refine wpOp_want rfl rfl ?_
          go_simp
          obtain ⟨hb, f0, f1, f2, f3, f4, f5, f6, f8, c6⟩ := HJ.out
          exact HK.out _ _ ⟨hb, fun _ => HV3.out.mono hb, fun h => f1 (h.resolve_left (by decide)), fun h => f2 (h.resolve_left (by decide)), fun h => f3 (h.resolve_left (by decide)), fun h => f4 (h.resolve_left (by decide)), fun h => f5 (h.resolve_left (by decide)), fun h => ((f6 (h.resolve_left (by decide)))).congr ⟨fun h => .inr h, fun h => h.resolve_left (by decide)⟩, fun h => f8 (h.resolve_left (by decide)), fun h => .inr (c6 (h.resolve_left (by decide)))⟩
        case s1 =>
          rintro L T W hd hn hJ K hK
          have HJ := Lib.hid hJ
          clear hJ
          have hb := HJ.out.1
          simp only [ovr, Act.put, List.setIfInBounds_toArray, List.set_cons_zero, List.set_cons_succ] at hK ⊢
          have HK := Lib.hid hK
          clear hK
          refine wpOp_want rfl rfl ?_
          go_simp
          (with_reducible refine (rof_any 10 (by decide) (by decide) _ (hE.mono hb)).mono ?_)
          rintro e w1 ⟨⟨ngt, aot, nt, capt, rfl, HVt⟩, hb1⟩
          have hr : IntV w1 (.agg #[.bool ngt, .slice aot nt capt]) 10 := HVt.out
          dsimp only
          obtain ⟨hb, f0, f1, f2, f3, f4, f5, f6, f8, c6⟩ := HJ.out
          exact HK.out _ _ ⟨Below.step hb hb1 (Nat.le_refl _), fun h => (stay_int (r.num * 10 ^ i)).mono (f0 (h.resolve_left (by decide))) hb1, fun _ => hr, fun h => (stay_tup ((r.num * 10 ^ i) * 10) 0).mono (f2 (h.resolve_left (by decide))) hb1, fun h => (stay_tup ((r.num * 10 ^ i) * 10) 0).mono (f3 (h.resolve_left (by decide))) hb1, fun h => (stay_int ((r.num * 10 ^ i) * 10)).mono (f4 (h.resolve_left (by decide))) hb1, fun h => f5 (h.resolve_left (by decide)), fun h => ((f6 (h.resolve_left (by decide))).mono (stay_int ((r.num * 10 ^ i) * 10)) hb1).congr ⟨fun h => .inr h, fun h => h.resolve_left (by decide)⟩, fun h => f8 (h.resolve_left (by decide)), fun h => .inr (c6 (h.resolve_left (by decide)))⟩
        case s2 =>
          rintro L T W hd hn hJ K hK
          have HJ := Lib.hid hJ
          clear hJ
          have hb := HJ.out.1
          have r0 := HJ.out.2.1 hd.1
          have r1 := HJ.out.2.2.1 hd.2.1
          simp only [ovr, Act.put, List.setIfInBounds_toArray, List.set_cons_zero, List.set_cons_succ] at hK ⊢
          have HK := Lib.hid hK
          clear hK
          refine wpOp_want rfl rfl ?_
          go_simp
          (with_reducible refine (rMul_ok _ _ (r.num * 10 ^ i) 10 _ r0 r1 HS).mono ?_)
          rintro e w1 ⟨⟨ngm, aom, nm, capm, rfl, HVm⟩, hb1⟩
          have hr : TupI ((r.num * 10 ^ i) * 10) 0 w1 (.tuple #[.agg #[.bool ngm, .slice aom nm capm], .int .i64 0]) := ⟨_, rfl, HVm.out⟩
          dsimp only
          obtain ⟨hb, f0, f1, f2, f3, f4, f5, f6, f8, c6⟩ := HJ.out
          exact HK.out _ _ ⟨Below.step hb hb1 (Nat.le_refl _), fun h => (stay_int (r.num * 10 ^ i)).mono (f0 (h.resolve_left (by decide))) hb1, fun h => (stay_int 10).mono (f1 (h.resolve_left (by decide))) hb1, fun _ => hr, fun h => (stay_tup ((r.num * 10 ^ i) * 10) 0).mono (f3 (h.resolve_left (by decide))) hb1, fun h => (stay_int ((r.num * 10 ^ i) * 10)).mono (f4 (h.resolve_left (by decide))) hb1, fun h => f5 (h.resolve_left (by decide)), fun h => ((f6 (h.resolve_left (by decide))).mono (stay_int ((r.num * 10 ^ i) * 10)) hb1).congr ⟨fun h => .inr h, fun h => h.resolve_left (by decide)⟩, fun h => f8 (h.resolve_left (by decide)), fun h => .inr (c6 (h.resolve_left (by decide)))⟩
        case s3 =>
          rintro L T W hd hn hJ K hK
          have HJ := Lib.hid hJ
          clear hJ
          have hb := HJ.out.1
          have r2 := HJ.out.2.2.2.1 hd.1
          simp only [ovr, Act.put, List.setIfInBounds_toArray, List.set_cons_zero, List.set_cons_succ] at hK ⊢
          have HK := Lib.hid hK
          clear hK
          refine wpOp_want rfl rfl ?_
          go_simp
          obtain ⟨hb, f0, f1, f2, f3, f4, f5, f6, f8, c6⟩ := HJ.out
          exact HK.out _ _ ⟨hb, fun h => f0 (h.resolve_left (by decide)), fun h => f1 (h.resolve_left (by decide)), fun h => f2 (h.resolve_left (by decide)), fun _ => r2, fun h => f4 (h.resolve_left (by decide)), fun h => f5 (h.resolve_left (by decide)), fun h => ((f6 (h.resolve_left (by decide)))).congr ⟨fun h => .inr h, fun h => h.resolve_left (by decide)⟩, fun h => f8 (h.resolve_left (by decide)), fun h => .inr (c6 (h.resolve_left (by decide)))⟩
        case s4 =>
          rintro L T W hd hn hJ K hK
          have HJ := Lib.hid hJ
          clear hJ
          have hb := HJ.out.1
          have r3 := HJ.out.2.2.2.2.1 hd.1
          obtain ⟨a, ev, hq⟩ := r3
          simp only [ovr, Act.put, List.setIfInBounds_toArray, List.set_cons_zero, List.set_cons_succ, ev] at hK ⊢
          have HK := Lib.hid hK
          clear hK
          refine wpOp_want rfl rfl ?_
          go_simp
          obtain ⟨hb, f0, f1, f2, f3, f4, f5, f6, f8, c6⟩ := HJ.out
          exact HK.out _ _ ⟨hb, fun h => f0 (h.resolve_left (by decide)), fun h => f1 (h.resolve_left (by decide)), fun h => f2 (h.resolve_left (by decide)), fun h => f3 (h.resolve_left (by decide)), fun _ => hq, fun h => f5 (h.resolve_left (by decide)), fun h => ((f6 (h.resolve_left (by decide)))).congr ⟨fun h => .inr h, fun h => h.resolve_left (by decide)⟩, fun h => f8 (h.resolve_left (by decide)), fun h => .inr (c6 (h.resolve_left (by decide)))⟩
        case s5 =>
          rintro L T W hd hn hJ K hK
          have HJ := Lib.hid hJ
          clear hJ
          have hb := HJ.out.1
          have r3 := HJ.out.2.2.2.2.1 hd.1
          obtain ⟨a, ev, hq⟩ := r3
          simp only [ovr, Act.put, List.setIfInBounds_toArray, List.set_cons_zero, List.set_cons_succ, ev] at hK ⊢
          have HK := Lib.hid hK
          clear hK
          refine wpOp_want rfl rfl ?_
          go_simp
          obtain ⟨hb, f0, f1, f2, f3, f4, f5, f6, f8, c6⟩ := HJ.out
          exact HK.out _ _ ⟨hb, fun h => f0 (h.resolve_left (by decide)), fun h => f1 (h.resolve_left (by decide)), fun h => f2 (h.resolve_left (by decide)), fun h => f3 (h.resolve_left (by decide)), fun h => f4 (h.resolve_left (by decide)), fun _ => rfl, fun h => ((f6 (h.resolve_left (by decide)))).congr ⟨fun h => .inr h, fun h => h.resolve_left (by decide)⟩, fun h => f8 (h.resolve_left (by decide)), fun h => .inr (c6 (h.resolve_left (by decide)))⟩
        case s6 =>
          rintro L T W hd hn hJ K hK
          have HJ := Lib.hid hJ
          clear hJ
          have hb := HJ.out.1
          simp only [ovr, Act.put, List.setIfInBounds_toArray, List.set_cons_zero, List.set_cons_succ] at hK ⊢
          have HK := Lib.hid hK
          clear hK
          refine wpOp_want rfl rfl ?_
          go_simp
          have hb1 := below_alloc W (.cells #[.bool false, .slice none 0 0] 24)
          obtain ⟨hb, f0, f1, f2, f3, f4, f5, f6, f8, c6⟩ := HJ.out
          exact HK.out _ _ ⟨Below.step hb hb1 (Nat.le_refl _), fun h => (stay_int (r.num * 10 ^ i)).mono (f0 (h.resolve_left (by decide))) hb1, fun h => (stay_int 10).mono (f1 (h.resolve_left (by decide))) hb1, fun h => (stay_tup ((r.num * 10 ^ i) * 10) 0).mono (f2 (h.resolve_left (by decide))) hb1, fun h => (stay_tup ((r.num * 10 ^ i) * 10) 0).mono (f3 (h.resolve_left (by decide))) hb1, fun h => (stay_int ((r.num * 10 ^ i) * 10)).mono (f4 (h.resolve_left (by decide))) hb1, fun h => f5 (h.resolve_left (by decide)), fun _ => Slot.new W (fun h => hn (c6 (h.resolve_left (by decide)))) _ hb.size, fun h => f8 (h.resolve_left (by decide)), fun _ => .inl (by decide)⟩
        case s7 =>
          rintro L T W hd hn hJ K hK
          have HJ := Lib.hid hJ
          clear hJ
          have hb := HJ.out.1
          have r4 := HJ.out.2.2.2.2.2.1 hd.2.1
          have r2 := HJ.out.2.2.2.1 hd.2.2.1
          have r0 := HJ.out.2.1 hd.2.2.2.1
          have r1 := HJ.out.2.2.1 hd.2.2.2.2.1
          have r3 := HJ.out.2.2.2.2.1 hd.2.2.2.2.2.2.1
          have da := hd.1
          have hr := r4
          obtain ⟨m, em, hm1, hm2, hB⟩ := (HJ.out.2.2.2.2.2.2.2.1 da).open hn
          obtain ⟨ng, ao, nn, cap, ev⟩ := IntV.parts hr
          rw [ev] at hr
          obtain ⟨b0, b1, b2, b3⟩ := id hB
          simp only [ovr, Act.put, List.setIfInBounds_toArray, List.set_cons_zero, List.set_cons_succ, em, ev] at hK ⊢
          have HK := Lib.hid hK
          clear hK
          refine wpOp_want rfl rfl ?_
          go_simp
          obtain ⟨hb, f0, f1, f2, f3, f4, f5, f6, f8, c6⟩ := HJ.out
          exact HK.out undef _ ⟨Below.put2 hb hm1 _ _, fun h => (stay_int (r.num * 10 ^ i)).put (f0 (h.resolve_left (by decide))) hB, fun h => (stay_int 10).put (f1 (h.resolve_left (by decide))) hB, fun h => (stay_tup ((r.num * 10 ^ i) * 10) 0).put (f2 (h.resolve_left (by decide))) hB, fun h => (stay_tup ((r.num * 10 ^ i) * 10) 0).put (f3 (h.resolve_left (by decide))) hB, fun h => (stay_int ((r.num * 10 ^ i) * 10)).put (f4 (h.resolve_left (by decide))) hB, fun h => f5 (h.resolve_left (by decide)), fun h => by show Slot _ _ _ _ (T 8); rw [em]; exact Slot.stored (stay_int ((r.num * 10 ^ i) * 10)) hm1 hB (.inl (by decide)) hr, fun h => f8 (h.resolve_left (by decide)), fun _ => .inr da⟩
        case s8 =>
          rintro L T W hd hn hJ K hK
          have HJ := Lib.hid hJ
          clear hJ
          have hb := HJ.out.1
          have e5 := HJ.out.2.2.2.2.2.2.1 hd.1
          have r0 := HJ.out.2.1 hd.2.2.1
          have r1 := HJ.out.2.2.1 hd.2.2.2.1
          have r2 := HJ.out.2.2.2.1 hd.2.2.2.2.1
          have r3 := HJ.out.2.2.2.2.1 hd.2.2.2.2.2.1
          have r4 := HJ.out.2.2.2.2.2.1 hd.2.2.2.2.2.2.1
          simp only [ovr, Act.put, List.setIfInBounds_toArray, List.set_cons_zero, List.set_cons_succ, e5] at hK ⊢
          have HK := Lib.hid hK
          clear hK
          refine wpOp_want rfl rfl ?_
          go_simp
          obtain ⟨hb, f0, f1, f2, f3, f4, f5, f6, f8, c6⟩ := HJ.out
          exact HK.out _ _ ⟨hb, fun h => f0 (h.resolve_left (by decide)), fun h => f1 (h.resolve_left (by decide)), fun h => f2 (h.resolve_left (by decide)), fun h => f3 (h.resolve_left (by decide)), fun h => f4 (h.resolve_left (by decide)), fun h => f5 (h.resolve_left (by decide)), fun h => ((f6 (h.resolve_left (by decide)))).congr ⟨fun h => .inr h, fun h => h.resolve_left (by decide)⟩, fun _ => rfl, fun h => .inr (c6 (h.resolve_left (by decide)))⟩
        case he =>
          rintro T W ⟨hb, f0, f1, f2, f3, f4, f5, f6, f8, c6⟩
          simp only [ovr, List.setIfInBounds_toArray, List.set_cons_zero, List.set_cons_succ]
          obtain ⟨g, ngx, aox, nx, capx, e6, hg, B6, V6⟩ := (f6 (by decide)).at (by decide)
          have e9 := f8 (by decide)
          rw [e6, e9]
          go_wp2_with fail
          go_meet
          exact ⟨⟨g, ngx, aox, nx, capx, rfl, hg, B6, Lib.hid V6, hb⟩, rfl⟩
      case rest =>
        obtain ⟨⟨g8, ng4, ao4, n4, cap4, rfl, hg8, X8, HV4, hb⟩, rfl⟩ := hcut
        have X6 := X6.mono hb
        have X1 := X1.mono hb
        have HV3 := Lib.hid (HV3.out.mono hb)
        have HV2 := Lib.hid (HV2.out.mono hb)
        have hE := hE.mono hb
        have hbw := Below.step hbw hb (Nat.le_refl _)
        clear hb
        obtain ⟨cX8_0, cX8_1, _, _⟩ := id X8
        obtain ⟨cX6_0, cX6_1, _, _⟩ := id X6
        go_upto_region 8 with fail
        clear cX8_0 cX8_1 cX6_0 cX6_1
        have X1 := X1.other2 (u := .bool ng4) (v := .slice ao4 n4 cap4) (show w.heap.size ≠ v2.heap.size by omega)
        have HV3 := Lib.hid (HV3.out.put2B X6 (.bool ng4) (.slice ao4 n4 cap4))
        have HV2 := Lib.hid (HV2.out.put2B X6 (.bool ng4) (.slice ao4 n4 cap4))
        have X8 := X8.other2 (u := .bool ng4) (v := .slice ao4 n4 cap4) (show g8 ≠ v2.heap.size by omega)
        have HV4 := Lib.hid (HV4.out.put2B X6 (.bool ng4) (.slice ao4 n4 cap4))
        have X6 := X6.set2I (.bool ng4) (.slice ao4 n4 cap4)
        have hbw := Below.put2 hbw (n := v2.heap.size) (by omega) (.bool ng4) (.slice ao4 n4 cap4)
        have hE := hE0.mono hbw
        generalize ((wc.setCell ⟨v2.heap.size, 0, none⟩ (.bool ng4)).setCell ⟨v2.heap.size, 1, none⟩ (.slice ao4 n4 cap4)) = v51 at *
        go_wp2
        go_roundg (k - (i + 1))
        case measure => omega
        case rel => exact ⟨i + 1, ng4, ao4, n4, cap4, by omega, rfl, by go_num, X6, Lib.hid (by rw [Int.pow_succ, ← Int.mul_assoc]; exact HV4.out), X1, HV2, hE, hbw⟩
    · obtain rfl : i = k := by omega
      have HD : Hid (((r.den : Nat) : Int) ≠ 0) := Lib.hid (Rq.den_ne r)
      obtain ⟨q, hq⟩ : ∃ q, q = (r.num * 10 ^ i).tdiv (r.den : Int) := ⟨_, rfl⟩
      have HQ := Lib.hid hq.symm
      clear hq
      obtain ⟨cX6_0, cX6_1, _, _⟩ := id X6
      obtain ⟨cX1_0, cX1_1, cX1_2, cX1_3, _, _, _, _⟩ := id X1
      go_wp2_with fail
      (with_reducible refine (rDiv_ok _ _ (r.num * 10 ^ i) (r.den : Int) wr HV3.out HV2.out HD).mono ?_)
      rintro e v51 ⟨⟨ngA, aoA, nA, capA, ngB, aoB, nB, capB, rfl, HVA⟩, hb⟩
      have X6 := X6.mono hb
      have X1 := X1.mono hb
      have HV3 := Lib.hid (HV3.out.mono hb)
      have HV2 := Lib.hid (HV2.out.mono hb)
      have hE := hE.mono hb
      have hbw := Below.step hbw hb (Nat.le_refl _)
      clear hb
      clear cX6_0 cX6_1 cX1_0 cX1_1 cX1_2 cX1_3
      go_upto_region 14 with fail
      have lXAX6 := X6.lt
      have lXAX1 := X1.lt
      obtain ⟨wx, hwx, hszx, XA, XB, hb⟩ := boxes_22 v51 (.bool ngA) (.slice aoA nA capA) 24 (.bool ngB) (.slice aoB nB capB) 24
      rw [← hwx]
      clear hwx
      obtain ⟨v52, rfl⟩ : ∃ v52 : World, v52 = wx := ⟨_, rfl⟩
      have X6 := X6.mono hb
      have X1 := X1.mono hb
      have HV3 := Lib.hid (HV3.out.mono hb)
      have HV2 := Lib.hid (HV2.out.mono hb)
      have HVA := Lib.hid (HVA.out.mono hb)
      have hE := hE.mono hb
      have hbw := Below.step hbw hb (Nat.le_refl _)
      clear hb
      rw [HQ.out] at HVA
      obtain ⟨t, ht⟩ : ∃ t, t = Lib.decDigits q.natAbs := ⟨_, rfl⟩
      have hls : t.length ≤ 300 := by rw [ht]; exact Rq.dec_len301 HVA.out.small
      have HT := Lib.hid ht
      have HTI : Hid (Lib.itoa (q.natAbs : Int) = t) := Lib.hid (by rw [ht]; exact itoa_nat _)
      clear ht
      obtain ⟨cXA_0, cXA_1, _, _⟩ := id XA
      go_wp2_with fail
      (with_reducible refine (abs_any _ q v52 HVA.out).mono ?_)
      rintro e v53 ⟨⟨ngC, aoC, nC, capC, rfl, HVC⟩, hb⟩
      have X6 := X6.mono hb
      have X1 := X1.mono hb
      have HV3 := Lib.hid (HV3.out.mono hb)
      have HV2 := Lib.hid (HV2.out.mono hb)
      have HVA := Lib.hid (HVA.out.mono hb)
      have XA := XA.mono hb
      have XB := XB.mono hb
      have hE := hE.mono hb
      have hbw := Below.step hbw hb (Nat.le_refl _)
      clear hb
      clear cXA_0 cXA_1
      go_wp2_with fail
      (with_reducible refine (rFormat_eq _ (q.natAbs : Int) t v53 HTI HVC.out).mono ?_)
      rintro e v54 ⟨rfl, hb⟩
      have X6 := X6.mono hb
      have X1 := X1.mono hb
      have HV3 := Lib.hid (HV3.out.mono hb)
      have HV2 := Lib.hid (HV2.out.mono hb)
      have HVA := Lib.hid (HVA.out.mono hb)
      have XA := XA.mono hb
      have XB := XB.mono hb
      have HVC := Lib.hid (HVC.out.mono hb)
      have hE := hE.mono hb
      have hbw := Below.step hbw hb (Nat.le_refl _)
      clear hb
      obtain ⟨s, hsg⟩ : ∃ s, sgnI q = s := ⟨_, rfl⟩
      have HSG := Lib.hid hsg
      have hsd : s < 0 ∨ decide (s < 0) = false := by by_cases h : s < 0; exact .inl h; exact .inr (by simpa using h)
      have hsq : Hid (s < 0 ↔ q < 0) := Lib.hid (by rw [← hsg]; unfold sgnI; split <;> (try split) <;> omega)
      clear hsg
      go_wp2_with fail
      go_loopg [13] (i + 1 - t.length) (fun gk s13 wq => ∃ u : List UInt8, s13 = .string ⟨u.toArray⟩ ∧ u.length ≤ 400 ∧ gk = i + 1 - u.length ∧ Hid (Rq.padT u i = Rq.padT t i) ∧ wq = v54)
      case atStart => exact ⟨t, rfl, by omega, by omega, Lib.hid rfl, rfl⟩
      case round =>
        obtain ⟨u, rfl, hu, rfl, HU, rfl⟩ := hrel
        by_cases hp : u.length < i + 1
        · have hpi : (u.length : Int) < (i : Int) + 1 := by omega
          go_wp2
          go_roundg (i + 1 - (u.length + 1))
          case measure => omega
          case rel => exact ⟨48 :: u, by first | rfl | exact bytes_eq (ba_cat [48] u), by simp; omega, by simp, Lib.hid (by rw [← HU.out]; exact rDecimalPad u i hp), rfl⟩
        · have hpi : decide ((u.length : Int) < (i : Int) + 1) = false := by simp; omega
          have HPU : Hid (Rq.padT t i = u) := Lib.hid (by rw [← HU.out]; exact padT_done u i hp)
          have hpl : (i : Int) + 1 ≤ (u.length : Int) := by omega
          have HD2 : Hid (Rq.decT ((r.num * 10 ^ i).tdiv (r.den : Int)) i = if s < 0 then 45 :: Rq.pointT u i else Rq.pointT u i) := Lib.hid (by
            rw [HQ.out]; unfold Rq.decT; rw [← HT.out, HPU.out]
            by_cases h : q < 0
            · rw [if_pos h, if_pos (hsq.out.2 h)]
            · rw [if_neg h, if_neg (fun hh => h (hsq.out.1 hh))])
          have HCAT := Lib.hid (fun l : List UInt8 => ba_cat [45] l)
          obtain ⟨cA0, cA1, _, _⟩ := id XA
          have HVZ := HVA
          have hbz := hbw
          clear hp HPU HU HQ HT hs HD hls
          rcases Nat.eq_zero_or_pos i with h0 | h0
          · subst h0
            go_wp2_with fail
            (with_reducible refine (rSign_eq _ q s _ HSG HVZ.out).mono ?_)
            rintro e w9 ⟨rfl, hb⟩
            have hbw := Below.step hbz hb (Nat.le_refl _)
            rcases hsd with hs0 | hs0
            · have HD3 : Hid (Rq.decT ((r.num * 10 ^ 0).tdiv (r.den : Int)) 0 = 45 :: u) := Lib.hid (by rw [HD2.out, if_pos hs0]; rfl)
              go_wp2
              go_ret2
              exact ⟨ret_bytes (by (first | rw [HD3.out] | (have h := HD3.out; simp only [Int.pow_zero, Int.mul_one] at h; rw [h])); exact HCAT.out u), hbw⟩
            · have HD3 : Hid (Rq.decT ((r.num * 10 ^ 0).tdiv (r.den : Int)) 0 = u) := Lib.hid (by rw [HD2.out, if_neg (by simpa using hs0)]; rfl)
              go_wp2
              go_ret2
              exact ⟨ret_bytes (by (first | rw [HD3.out] | (have h := HD3.out; simp only [Int.pow_zero, Int.mul_one] at h; rw [h]))), hbw⟩
          · have hi0 : (0 : Int) < (i : Int) := by omega
            have HPB : Hid (Rq.pointT u i = u.take (u.length - i) ++ 46 :: u.drop (u.length - i)) := Lib.hid (by unfold Rq.pointT; rw [if_neg (by omega)])
            go_wp2_with fail
            go_quiet (fail)
            go_wp2_with fail
            (with_reducible refine (rSign_eq _ q s _ HSG (HVZ.out.mono (below_drewN (Below.refl _ _) _))).mono ?_)
            rintro e w9 ⟨rfl, hb⟩
            have hbw := Below.step (below_drewN hbz _) hb (Nat.le_refl _)
            rcases hsd with hs0 | hs0
            · have HD3 := Lib.hid (HD2.out.trans (if_pos hs0))
              go_wp2
              go_ret2
              exact ⟨ret_bytes (by rw [HD3.out, HPB.out, point_bytes]; exact HCAT.out _), hbw⟩
            · have HD3 := Lib.hid (HD2.out.trans (if_neg (by simpa using hs0)))
              go_wp2
              go_ret2
              exact ⟨ret_bytes (by rw [HD3.out, HPB.out, point_bytes]), hbw⟩

set_option maxRecDepth 100000 in
set_option maxHeartbeats 6400000 in
theorem rDecimalQ_big (v : Value) (r : Rat) (k : Nat) (w : World) (hr : RatV w v r) (hk : k ≤ 20) (hs : Hid (¬ Rq.Sm (r.num * 10 ^ k))) (hE : Env w) :
    Calls Tryz.prog 27 #[v, .int .i64 k] w fun e w' => e = .returned (.tuple #[.string ⟨#[]⟩, .int .i64 3]) ∧ Below w.heap.size w w' := by
  have hE0 := hE
  have hbw := Below.refl w.heap.size w
  obtain ⟨ng1, ao1, n1, cap1, ng2, ao2, n2, cap2, rfl, h1, h2⟩ := hr
  have HV1 := Lib.hid h1
  have HV2 := Lib.hid h2
  clear h1 h2
  go_enter Tryz.func27, Tryz.ntmps27
  have hk1 : (0 : Int) ≤ (k : Int) := by omega
  have hk20 : (k : Int) ≤ 20 := by omega
  go_upto_region 1 with fail
  have X1 := Box4.new w (.bool ng1) (.slice ao1 n1 cap1) (.bool ng2) (.slice ao2 n2 cap2) 29
  have hb := below_alloc w (.cells #[.bool ng1, .slice ao1 n1 cap1, .bool ng2, .slice ao2 n2 cap2] 29)
  generalize w.alloc (.cells #[.bool ng1, .slice ao1 n1 cap1, .bool ng2, .slice ao2 n2 cap2] 29) = v1 at *
  have HV1 := Lib.hid (HV1.out.mono hb)
  have HV2 := Lib.hid (HV2.out.mono hb)
  have hE := hE.mono hb
  have hbw := Below.step hbw hb (Nat.le_refl _)
  clear hb
  obtain ⟨cX1_0, cX1_1, cX1_2, cX1_3, _, _, _, _⟩ := id X1
  go_wp2_with fail
  (with_reducible refine (rValid_true _ r v1 (RatV.mk' HV1 HV2) hE).mono ?_)
  rintro e v2 ⟨rfl, hb⟩
  have HV1 := Lib.hid (HV1.out.mono hb)
  have HV2 := Lib.hid (HV2.out.mono hb)
  have X1 := X1.mono hb
  have hE := hE.mono hb
  have hbw := Below.step hbw hb (Nat.le_refl _)
  clear hb
  clear cX1_0 cX1_1 cX1_2 cX1_3
  obtain ⟨cX1_0, cX1_1, cX1_2, cX1_3, _, _, _, _⟩ := id X1
  go_upto_region 6 with fail
  clear cX1_0 cX1_1 cX1_2 cX1_3
  have lX6X1 := X1.lt
  have X6 := Box.new v2 (.bool ng1) (.slice ao1 n1 cap1) 24
  have hb := below_alloc v2 (.cells #[.bool ng1, .slice ao1 n1 cap1] 24)
  generalize v2.alloc (.cells #[.bool ng1, .slice ao1 n1 cap1] 24) = v3 at *
  have HV1 := Lib.hid (HV1.out.mono hb)
  have HV2 := Lib.hid (HV2.out.mono hb)
  have X1 := X1.mono hb
  have hE := hE.mono hb
  have hbw := Below.step hbw hb (Nat.le_refl _)
  clear hb
  go_wp2_with fail
  go_loopg [7, 8, 9] k (fun gk s7 s8 s9 wr => ∃ (i : Nat) (ng : Bool) (ao : Option Addr) (l cap : Nat), i ≤ k ∧ gk = k - i ∧ s7 = .int .i64 i ∧ Box wr v2.heap.size (.bool ng) (.slice ao l cap) ∧ Hid (IntV wr (.agg #[.bool ng, .slice ao l cap]) (r.num * 10 ^ i)) ∧ Box4 wr w.heap.size (.bool ng1) (.slice ao1 n1 cap1) (.bool ng2) (.slice ao2 n2 cap2) ∧ Hid (IntV wr (.agg #[.bool ng2, .slice ao2 n2 cap2]) (r.den : Int)) ∧ Env wr ∧ Below w.heap.size w wr)
  case atStart => exact ⟨0, ng1, ao1, n1, cap1, by omega, by omega, rfl, X6, Lib.hid (by simpa using HV1.out), X1, HV2, hE, hbw⟩
  case round =>
    clear X6 X1 HV1 HV2 hE hbw
    obtain ⟨i, ng3, ao3, n3, cap3, hik, rfl, rfl, X6, HV3, X1, HV2, hE, hbw⟩ := hrel
    have l6X6 := X6.lt
    have l6X1 := X1.lt
    by_cases hlt : i < k
    · by_cases hnx : Rq.Sm (r.num * 10 ^ i * 10)
      · have HS := Lib.hid hnx
        go_upto_region 9 with fail
        obtain ⟨wy, rfl⟩ : ∃ wy : World, wy = wr := ⟨_, rfl⟩
        go_cut [8, 9] from 30 to 35 (fun s8 s9 wc => OneI wy wc s8 ((r.num * 10 ^ i) * 10) ∧ s9 = .int .i64 0)
        case first =>
          refine wp_region_flow (fun L T W => Below wy.heap.size wy W ∧ (L 0 → (fun W v => IntV W v (r.num * 10 ^ i)) W (T 31)) ∧ (L 1 → (fun W v => IntV W v 10) W (T 32)) ∧ (L 2 → (TupI ((r.num * 10 ^ i) * 10) 0) W (T 33)) ∧ (L 3 → (TupI ((r.num * 10 ^ i) * 10) 0) W (T 30)) ∧ (L 4 → (fun W v => IntV W v ((r.num * 10 ^ i) * 10)) W (T 34)) ∧ (L 5 → T 35 = .int .i64 0) ∧ (L 6 → Slot W wy.heap.size (fun W v => IntV W v ((r.num * 10 ^ i) * 10)) (L 7) (T 8)) ∧ (L 8 → T 9 = .int .i64 0) ∧ (L 7 → L 6)) [31, 32, 33, 30, 34, 35, 8, 9] (by kernel_rfl) (by kernel_rfl) (by kernel_rfl) ?h0 ⟨?s0, ?s1, ?s2, ?s3, ?s4, ?s5, ?s6, ?s7, ?s8, trivial⟩ ?he ?hm
          case h0 => exact fun T => ⟨(Below.refl _ _).drew, fun h => h.elim, fun h => h.elim, fun h => h.elim, fun h => h.elim, fun h => h.elim, fun h => h.elim, fun h => h.elim, fun h => h.elim, fun h => h.elim⟩
          case hm =>
            rintro L T W hL ⟨hb, f0, f1, f2, f3, f4, f5, f6, f8, c6⟩
            exact ⟨hb, fun _ => f0 (hL _ (by decide)), fun _ => f1 (hL _ (by decide)), fun _ => f2 (hL _ (by decide)), fun _ => f3 (hL _ (by decide)), fun _ => f4 (hL _ (by decide)), fun _ => f5 (hL _ (by decide)), fun _ => (f6 (hL _ (by decide))).congr ⟨fun _ => by decide, fun _ => hL _ (by decide)⟩, fun _ => f8 (hL _ (by decide)), fun _ => by decide⟩
          case s0 =>
            rintro L T W hd hn hJ K hK
            have HJ := Lib.hid hJ
            clear hJ
            have hb := HJ.out.1
            obtain ⟨c0, c1⟩ := S21 X6 hb
            simp only [ovr, Act.put, List.setIfInBounds_toArray, List.set_cons_zero, List.set_cons_succ] at hK ⊢
            have HK := Lib.hid hK
            clear hK
            refine wpOp_want rfl rfl ?_
            go_simp
            obtain ⟨hb, f0, f1, f2, f3, f4, f5, f6, f8, c6⟩ := HJ.out
            exact HK.out _ _ ⟨hb, fun _ => HV3.out.mono hb, fun h => f1 (h.resolve_left (by decide)), fun h => f2 (h.resolve_left (by decide)), fun h => f3 (h.resolve_left (by decide)), fun h => f4 (h.resolve_left (by decide)), fun h => f5 (h.resolve_left (by decide)), fun h => ((f6 (h.resolve_left (by decide)))).congr ⟨fun h => .inr h, fun h => h.resolve_left (by decide)⟩, fun h => f8 (h.resolve_left (by decide)), fun h => .inr (c6 (h.resolve_left (by decide)))⟩
          case s1 =>
            rintro L T W hd hn hJ K hK
            have HJ := Lib.hid hJ
            clear hJ
            have hb := HJ.out.1
            simp only [ovr, Act.put, List.setIfInBounds_toArray, List.set_cons_zero, List.set_cons_succ] at hK ⊢
            have HK := Lib.hid hK
            clear hK
            refine wpOp_want rfl rfl ?_
            go_simp
            (with_reducible refine (rof_any 10 (by decide) (by decide) _ (hE.mono hb)).mono ?_)
            rintro e w1 ⟨⟨ngt, aot, nt, capt, rfl, HVt⟩, hb1⟩
            have hr : IntV w1 (.agg #[.bool ngt, .slice aot nt capt]) 10 := HVt.out
            dsimp only
            obtain ⟨hb, f0, f1, f2, f3, f4, f5, f6, f8, c6⟩ := HJ.out
            exact HK.out _ _ ⟨Below.step hb hb1 (Nat.le_refl _), fun h => (stay_int (r.num * 10 ^ i)).mono (f0 (h.resolve_left (by decide))) hb1, fun _ => hr, fun h => (stay_tup ((r.num * 10 ^ i) * 10) 0).mono (f2 (h.resolve_left (by decide))) hb1, fun h => (stay_tup ((r.num * 10 ^ i) * 10) 0).mono (f3 (h.resolve_left (by decide))) hb1, fun h => (stay_int ((r.num * 10 ^ i) * 10)).mono (f4 (h.resolve_left (by decide))) hb1, fun h => f5 (h.resolve_left (by decide)), fun h => ((f6 (h.resolve_left (by decide))).mono (stay_int ((r.num * 10 ^ i) * 10)) hb1).congr ⟨fun h => .inr h, fun h => h.resolve_left (by decide)⟩, fun h => f8 (h.resolve_left (by decide)), fun h => .inr (c6 (h.resolve_left (by decide)))⟩
          case s2 =>
            rintro L T W hd hn hJ K hK
            have HJ := Lib.hid hJ
            clear hJ
            have hb := HJ.out.1
            have r0 := HJ.out.2.1 hd.1
            have r1 := HJ.out.2.2.1 hd.2.1
            simp only [ovr, Act.put, List.setIfInBounds_toArray, List.set_cons_zero, List.set_cons_succ] at hK ⊢
            have HK := Lib.hid hK
            clear hK
            refine wpOp_want rfl rfl ?_
            go_simp
            (with_reducible refine (rMul_ok _ _ (r.num * 10 ^ i) 10 _ r0 r1 HS).mono ?_)
            rintro e w1 ⟨⟨ngm, aom, nm, capm, rfl, HVm⟩, hb1⟩
            have hr : TupI ((r.num * 10 ^ i) * 10) 0 w1 (.tuple #[.agg #[.bool ngm, .slice aom nm capm], .int .i64 0]) := ⟨_, rfl, HVm.out⟩
            dsimp only
            obtain ⟨hb, f0, f1, f2, f3, f4, f5, f6, f8, c6⟩ := HJ.out
            exact HK.out _ _ ⟨Below.step hb hb1 (Nat.le_refl _), fun h => (stay_int (r.num * 10 ^ i)).mono (f0 (h.resolve_left (by decide))) hb1, fun h => (stay_int 10).mono (f1 (h.resolve_left (by decide))) hb1, fun _ => hr, fun h => (stay_tup ((r.num * 10 ^ i) * 10) 0).mono (f3 (h.resolve_left (by decide))) hb1, fun h => (stay_int ((r.num * 10 ^ i) * 10)).mono (f4 (h.resolve_left (by decide))) hb1, fun h => f5 (h.resolve_left (by decide)), fun h => ((f6 (h.resolve_left (by decide))).mono (stay_int ((r.num * 10 ^ i) * 10)) hb1).congr ⟨fun h => .inr h, fun h => h.resolve_left (by decide)⟩, fun h => f8 (h.resolve_left (by decide)), fun h => .inr (c6 (h.resolve_left (by decide)))⟩
          case s3 =>
            rintro L T W hd hn hJ K hK
            have HJ := Lib.hid hJ
            clear hJ
            have hb := HJ.out.1
            have r2 := HJ.out.2.2.2.1 hd.1
            simp only [ovr, Act.put, List.setIfInBounds_toArray, List.set_cons_zero, List.set_cons_succ] at hK ⊢
            have HK := Lib.hid hK
            clear hK
            refine wpOp_want rfl rfl ?_
            go_simp
            obtain ⟨hb, f0, f1, f2, f3, f4, f5, f6, f8, c6⟩ := HJ.out
            exact HK.out _ _ ⟨hb, fun h => f0 (h.resolve_left (by decide)), fun h => f1 (h.resolve_left (by decide)), fun h => f2 (h.resolve_left (by decide)), fun _ => r2, fun h => f4 (h.resolve_left (by decide)), fun h => f5 (h.resolve_left (by decide)), fun h => ((f6 (h.resolve_left (by decide)))).congr ⟨fun h => .inr h, fun h => h.resolve_left (by decide)⟩, fun h => f8 (h.resolve_left (by decide)), fun h => .inr (c6 (h.resolve_left (by decide)))⟩
          case s4 =>
            rintro L T W hd hn hJ K hK
            have HJ := Lib.hid hJ
            clear hJ
            have hb := HJ.out.1
            have r3 := HJ.out.2.2.2.2.1 hd.1
            obtain ⟨a, ev, hq⟩ := r3
            simp only [ovr, Act.put, List.setIfInBounds_toArray, List.set_cons_zero, List.set_cons_succ, ev] at hK ⊢
            have HK := Lib.hid hK
            clear hK
            refine wpOp_want rfl rfl ?_
            go_simp
            obtain ⟨hb, f0, f1, f2, f3, f4, f5, f6, f8, c6⟩ := HJ.out
            exact HK.out _ _ ⟨hb, fun h => f0 (h.resolve_left (by decide)), fun h => f1 (h.resolve_left (by decide)), fun h => f2 (h.resolve_left (by decide)), fun h => f3 (h.resolve_left (by decide)), fun _ => hq, fun h => f5 (h.resolve_left (by decide)), fun h => ((f6 (h.resolve_left (by decide)))).congr ⟨fun h => .inr h, fun h => h.resolve_left (by decide)⟩, fun h => f8 (h.resolve_left (by decide)), fun h => .inr (c6 (h.resolve_left (by decide)))⟩
          case s5 =>
            rintro L T W hd hn hJ K hK
            have HJ := Lib.hid hJ
            clear hJ
            have hb := HJ.out.1
            have r3 := HJ.out.2.2.2.2.1 hd.1
            obtain ⟨a, ev, hq⟩ := r3
            simp only [ovr, Act.put, List.setIfInBounds_toArray, List.set_cons_zero, List.set_cons_succ, ev] at hK ⊢
            have HK := Lib.hid hK
            clear hK
            refine wpOp_want rfl rfl ?_
            go_simp
            obtain ⟨hb, f0, f1, f2, f3, f4, f5, f6, f8, c6⟩ := HJ.out
            exact HK.out _ _ ⟨hb, fun h => f0 (h.resolve_left (by decide)), fun h => f1 (h.resolve_left (by decide)), fun h => f2 (h.resolve_left (by decide)), fun h => f3 (h.resolve_left (by decide)), fun h => f4 (h.resolve_left (by decide)), fun _ => rfl, fun h => ((f6 (h.resolve_left (by decide)))).congr ⟨fun h => .inr h, fun h => h.resolve_left (by decide)⟩, fun h => f8 (h.resolve_left (by decide)), fun h => .inr (c6 (h.resolve_left (by decide)))⟩
          case s6 =>
            rintro L T W hd hn hJ K hK
            have HJ := Lib.hid hJ
            clear hJ
            have hb := HJ.out.1
            simp only [ovr, Act.put, List.setIfInBounds_toArray, List.set_cons_zero, List.set_cons_succ] at hK ⊢
            have HK := Lib.hid hK
            clear hK
            refine wpOp_want rfl rfl ?_
            go_simp
            have hb1 := below_alloc W (.cells #[.bool false, .slice none 0 0] 24)
            obtain ⟨hb, f0, f1, f2, f3, f4, f5, f6, f8, c6⟩ := HJ.out
            exact HK.out _ _ ⟨Below.step hb hb1 (Nat.le_refl _), fun h => (stay_int (r.num * 10 ^ i)).mono (f0 (h.resolve_left (by decide))) hb1, fun h => (stay_int 10).mono (f1 (h.resolve_left (by decide))) hb1, fun h => (stay_tup ((r.num * 10 ^ i) * 10) 0).mono (f2 (h.resolve_left (by decide))) hb1, fun h => (stay_tup ((r.num * 10 ^ i) * 10) 0).mono (f3 (h.resolve_left (by decide))) hb1, fun h => (stay_int ((r.num * 10 ^ i) * 10)).mono (f4 (h.resolve_left (by decide))) hb1, fun h => f5 (h.resolve_left (by decide)), fun _ => Slot.new W (fun h => hn (c6 (h.resolve_left (by decide)))) _ hb.size, fun h => f8 (h.resolve_left (by decide)), fun _ => .inl (by decide)⟩
          case s7 =>
            rintro L T W hd hn hJ K hK
            have HJ := Lib.hid hJ
            clear hJ
            have hb := HJ.out.1
            have r4 := HJ.out.2.2.2.2.2.1 hd.2.1
            have r2 := HJ.out.2.2.2.1 hd.2.2.1
            have r0 := HJ.out.2.1 hd.2.2.2.1
            have r1 := HJ.out.2.2.1 hd.2.2.2.2.1
            have r3 := HJ.out.2.2.2.2.1 hd.2.2.2.2.2.2.1
            have da := hd.1
            have hr := r4
            obtain ⟨m, em, hm1, hm2, hB⟩ := (HJ.out.2.2.2.2.2.2.2.1 da).open hn
            obtain ⟨ng, ao, nn, cap, ev⟩ := IntV.parts hr
            rw [ev] at hr
            obtain ⟨b0, b1, b2, b3⟩ := id hB
            simp only [ovr, Act.put, List.setIfInBounds_toArray, List.set_cons_zero, List.set_cons_succ, em, ev] at hK ⊢
            have HK := Lib.hid hK
            clear hK
            refine wpOp_want rfl rfl ?_
            go_simp
            obtain ⟨hb, f0, f1, f2, f3, f4, f5, f6, f8, c6⟩ := HJ.out
            exact HK.out undef _ ⟨Below.put2 hb hm1 _ _, fun h => (stay_int (r.num * 10 ^ i)).put (f0 (h.resolve_left (by decide))) hB, fun h => (stay_int 10).put (f1 (h.resolve_left (by decide))) hB, fun h => (stay_tup ((r.num * 10 ^ i) * 10) 0).put (f2 (h.resolve_left (by decide))) hB, fun h => (stay_tup ((r.num * 10 ^ i) * 10) 0).put (f3 (h.resolve_left (by decide))) hB, fun h => (stay_int ((r.num * 10 ^ i) * 10)).put (f4 (h.resolve_left (by decide))) hB, fun h => f5 (h.resolve_left (by decide)), fun h => by show Slot _ _ _ _ (T 8); rw [em]; exact Slot.stored (stay_int ((r.num * 10 ^ i) * 10)) hm1 hB (.inl (by decide)) hr, fun h => f8 (h.resolve_left (by decide)), fun _ => .inr da⟩
          case s8 =>
            rintro L T W hd hn hJ K hK
            have HJ := Lib.hid hJ
            clear hJ
            have hb := HJ.out.1
            have e5 := HJ.out.2.2.2.2.2.2.1 hd.1
            have r0 := HJ.out.2.1 hd.2.2.1
            have r1 := HJ.out.2.2.1 hd.2.2.2.1
            have r2 := HJ.out.2.2.2.1 hd.2.2.2.2.1
            have r3 := HJ.out.2.2.2.2.1 hd.2.2.2.2.2.1
            have r4 := HJ.out.2.2.2.2.2.1 hd.2.2.2.2.2.2.1
            simp only [ovr, Act.put, List.setIfInBounds_toArray, List.set_cons_zero, List.set_cons_succ, e5] at hK ⊢
            have HK := Lib.hid hK
            clear hK
            refine wpOp_want rfl rfl ?_
            go_simp
            obtain ⟨hb, f0, f1, f2, f3, f4, f5, f6, f8, c6⟩ := HJ.out
            exact HK.out _ _ ⟨hb, fun h => f0 (h.resolve_left (by decide)), fun h => f1 (h.resolve_left (by decide)), fun h => f2 (h.resolve_left (by decide)), fun h => f3 (h.resolve_left (by decide)), fun h => f4 (h.resolve_left (by decide)), fun h => f5 (h.resolve_left (by decide)), fun h => ((f6 (h.resolve_left (by decide)))).congr ⟨fun h => .inr h, fun h => h.resolve_left (by decide)⟩, fun _ => rfl, fun h => .inr (c6 (h.resolve_left (by decide)))⟩
          case he =>
            rintro T W ⟨hb, f0, f1, f2, f3, f4, f5, f6, f8, c6⟩
            simp only [ovr, List.setIfInBounds_toArray, List.set_cons_zero, List.set_cons_succ]
            obtain ⟨g, ngx, aox, nx, capx, e6, hg, B6, V6⟩ := (f6 (by decide)).at (by decide)
            have e9 := f8 (by decide)
            rw [e6, e9]
            go_wp2_with fail
            go_meet
            exact ⟨⟨g, ngx, aox, nx, capx, rfl, hg, B6, Lib.hid V6, hb⟩, rfl⟩
        case rest =>
          obtain ⟨⟨g8, ng4, ao4, n4, cap4, rfl, hg8, X8, HV4, hb⟩, rfl⟩ := hcut
          have X6 := X6.mono hb
          have X1 := X1.mono hb
          have HV3 := Lib.hid (HV3.out.mono hb)
          have HV2 := Lib.hid (HV2.out.mono hb)
          have hE := hE.mono hb
          have hbw := Below.step hbw hb (Nat.le_refl _)
          clear hb
          obtain ⟨cX8_0, cX8_1, _, _⟩ := id X8
          obtain ⟨cX6_0, cX6_1, _, _⟩ := id X6
          go_upto_region 8 with fail
          clear cX8_0 cX8_1 cX6_0 cX6_1
          have X1 := X1.other2 (u := .bool ng4) (v := .slice ao4 n4 cap4) (show w.heap.size ≠ v2.heap.size by omega)
          have HV3 := Lib.hid (HV3.out.put2B X6 (.bool ng4) (.slice ao4 n4 cap4))
          have HV2 := Lib.hid (HV2.out.put2B X6 (.bool ng4) (.slice ao4 n4 cap4))
          have X8 := X8.other2 (u := .bool ng4) (v := .slice ao4 n4 cap4) (show g8 ≠ v2.heap.size by omega)
          have HV4 := Lib.hid (HV4.out.put2B X6 (.bool ng4) (.slice ao4 n4 cap4))
          have X6 := X6.set2I (.bool ng4) (.slice ao4 n4 cap4)
          have hbw := Below.put2 hbw (n := v2.heap.size) (by omega) (.bool ng4) (.slice ao4 n4 cap4)
          have hE := hE0.mono hbw
          generalize ((wc.setCell ⟨v2.heap.size, 0, none⟩ (.bool ng4)).setCell ⟨v2.heap.size, 1, none⟩ (.slice ao4 n4 cap4)) = v51 at *
          go_wp2
          go_roundg (k - (i + 1))
          case measure => omega
          case rel => exact ⟨i + 1, ng4, ao4, n4, cap4, by omega, rfl, by go_num, X6, Lib.hid (by rw [Int.pow_succ, ← Int.mul_assoc]; exact HV4.out), X1, HV2, hE, hbw⟩
      · have HS := Lib.hid hnx
        go_upto_region 9 with fail
        obtain ⟨wy, rfl⟩ : ∃ wy : World, wy = wr := ⟨_, rfl⟩
        go_cut [8, 9] from 30 to 35 (fun s8 s9 wc => OneI wy wc s8 0 ∧ s9 = .int .i64 3)
        case first =>
          refine wp_region_flow (fun L T W => Below wy.heap.size wy W ∧ (L 0 → (fun W v => IntV W v (r.num * 10 ^ i)) W (T 31)) ∧ (L 1 → (fun W v => IntV W v 10) W (T 32)) ∧ (L 2 → (TupI 0 3) W (T 33)) ∧ (L 3 → (TupI 0 3) W (T 30)) ∧ (L 4 → (fun W v => IntV W v 0) W (T 34)) ∧ (L 5 → T 35 = .int .i64 3) ∧ (L 6 → Slot W wy.heap.size (fun W v => IntV W v 0) (L 7) (T 8)) ∧ (L 8 → T 9 = .int .i64 3) ∧ (L 7 → L 6)) [31, 32, 33, 30, 34, 35, 8, 9] (by kernel_rfl) (by kernel_rfl) (by kernel_rfl) ?h0 ⟨?s0, ?s1, ?s2, ?s3, ?s4, ?s5, ?s6, ?s7, ?s8, trivial⟩ ?he ?hm
          case h0 => exact fun T => ⟨(Below.refl _ _).drew, fun h => h.elim, fun h => h.elim, fun h => h.elim, fun h => h.elim, fun h => h.elim, fun h => h.elim, fun h => h.elim, fun h => h.elim, fun h => h.elim⟩
          case hm =>
            rintro L T W hL ⟨hb, f0, f1, f2, f3, f4, f5, f6, f8, c6⟩
            exact ⟨hb, fun _ => f0 (hL _ (by decide)), fun _ => f1 (hL _ (by decide)), fun _ => f2 (hL _ (by decide)), fun _ => f3 (hL _ (by decide)), fun _ => f4 (hL _ (by decide)), fun _ => f5 (hL _ (by decide)), fun _ => (f6 (hL _ (by decide))).congr ⟨fun _ => by decide, fun _ => hL _ (by decide)⟩, fun _ => f8 (hL _ (by decide)), fun _ => by decide⟩
          case s0 =>
            rintro L T W hd hn hJ K hK
            have HJ := Lib.hid hJ
            clear hJ
            have hb := HJ.out.1
            obtain ⟨c0, c1⟩ := S21 X6 hb
            simp only [ovr, Act.put, List.setIfInBounds_toArray, List.set_cons_zero, List.set_cons_succ] at hK ⊢
            have HK := Lib.hid hK
            clear hK
            refine wpOp_want rfl rfl ?_
            go_simp
            obtain ⟨hb, f0, f1, f2, f3, f4, f5, f6, f8, c6⟩ := HJ.out
            exact HK.out _ _ ⟨hb, fun _ => HV3.out.mono hb, fun h => f1 (h.resolve_left (by decide)), fun h => f2 (h.resolve_left (by decide)), fun h => f3 (h.resolve_left (by decide)), fun h => f4 (h.resolve_left (by decide)), fun h => f5 (h.resolve_left (by decide)), fun h => ((f6 (h.resolve_left (by decide)))).congr ⟨fun h => .inr h, fun h => h.resolve_left (by decide)⟩, fun h => f8 (h.resolve_left (by decide)), fun h => .inr (c6 (h.resolve_left (by decide)))⟩
          case s1 =>
            rintro L T W hd hn hJ K hK
            have HJ := Lib.hid hJ
            clear hJ
            have hb := HJ.out.1
            simp only [ovr, Act.put, List.setIfInBounds_toArray, List.set_cons_zero, List.set_cons_succ] at hK ⊢
            have HK := Lib.hid hK
            clear hK
            refine wpOp_want rfl rfl ?_
            go_simp
            (with_reducible refine (rof_any 10 (by decide) (by decide) _ (hE.mono hb)).mono ?_)
            rintro e w1 ⟨⟨ngt, aot, nt, capt, rfl, HVt⟩, hb1⟩
            have hr : IntV w1 (.agg #[.bool ngt, .slice aot nt capt]) 10 := HVt.out
            dsimp only
            obtain ⟨hb, f0, f1, f2, f3, f4, f5, f6, f8, c6⟩ := HJ.out
            exact HK.out _ _ ⟨Below.step hb hb1 (Nat.le_refl _), fun h => (stay_int (r.num * 10 ^ i)).mono (f0 (h.resolve_left (by decide))) hb1, fun _ => hr, fun h => (stay_tup 0 3).mono (f2 (h.resolve_left (by decide))) hb1, fun h => (stay_tup 0 3).mono (f3 (h.resolve_left (by decide))) hb1, fun h => (stay_int 0).mono (f4 (h.resolve_left (by decide))) hb1, fun h => f5 (h.resolve_left (by decide)), fun h => ((f6 (h.resolve_left (by decide))).mono (stay_int 0) hb1).congr ⟨fun h => .inr h, fun h => h.resolve_left (by decide)⟩, fun h => f8 (h.resolve_left (by decide)), fun h => .inr (c6 (h.resolve_left (by decide)))⟩
          case s2 =>
            rintro L T W hd hn hJ K hK
            have HJ := Lib.hid hJ
            clear hJ
            have hb := HJ.out.1
            have r0 := HJ.out.2.1 hd.1
            have r1 := HJ.out.2.2.1 hd.2.1
            simp only [ovr, Act.put, List.setIfInBounds_toArray, List.set_cons_zero, List.set_cons_succ] at hK ⊢
            have HK := Lib.hid hK
            clear hK
            refine wpOp_want rfl rfl ?_
            go_simp
            (with_reducible refine (rMul_big _ _ (r.num * 10 ^ i) 10 _ r0 r1 HS).mono ?_)
            rintro e w1 ⟨rfl, hb1⟩
            have hr : TupI 0 3 w1 (.tuple #[.agg #[.bool false, .slice none 0 0], .int .i64 3]) := ⟨_, rfl, IntV.zero _⟩
            dsimp only
            obtain ⟨hb, f0, f1, f2, f3, f4, f5, f6, f8, c6⟩ := HJ.out
            exact HK.out _ _ ⟨Below.step hb hb1 (Nat.le_refl _), fun h => (stay_int (r.num * 10 ^ i)).mono (f0 (h.resolve_left (by decide))) hb1, fun h => (stay_int 10).mono (f1 (h.resolve_left (by decide))) hb1, fun _ => hr, fun h => (stay_tup 0 3).mono (f3 (h.resolve_left (by decide))) hb1, fun h => (stay_int 0).mono (f4 (h.resolve_left (by decide))) hb1, fun h => f5 (h.resolve_left (by decide)), fun h => ((f6 (h.resolve_left (by decide))).mono (stay_int 0) hb1).congr ⟨fun h => .inr h, fun h => h.resolve_left (by decide)⟩, fun h => f8 (h.resolve_left (by decide)), fun h => .inr (c6 (h.resolve_left (by decide)))⟩
          case s3 =>
            rintro L T W hd hn hJ K hK
            have HJ := Lib.hid hJ
            clear hJ
            have hb := HJ.out.1
            have r2 := HJ.out.2.2.2.1 hd.1
            simp only [ovr, Act.put, List.setIfInBounds_toArray, List.set_cons_zero, List.set_cons_succ] at hK ⊢
            have HK := Lib.hid hK
            clear hK
            refine wpOp_want rfl rfl ?_
            go_simp
            obtain ⟨hb, f0, f1, f2, f3, f4, f5, f6, f8, c6⟩ := HJ.out
            exact HK.out _ _ ⟨hb, fun h => f0 (h.resolve_left (by decide)), fun h => f1 (h.resolve_left (by decide)), fun h => f2 (h.resolve_left (by decide)), fun _ => r2, fun h => f4 (h.resolve_left (by decide)), fun h => f5 (h.resolve_left (by decide)), fun h => ((f6 (h.resolve_left (by decide)))).congr ⟨fun h => .inr h, fun h => h.resolve_left (by decide)⟩, fun h => f8 (h.resolve_left (by decide)), fun h => .inr (c6 (h.resolve_left (by decide)))⟩
          case s4 =>
            rintro L T W hd hn hJ K hK
            have HJ := Lib.hid hJ
            clear hJ
            have hb := HJ.out.1
            have r3 := HJ.out.2.2.2.2.1 hd.1
            obtain ⟨a, ev, hq⟩ := r3
            simp only [ovr, Act.put, List.setIfInBounds_toArray, List.set_cons_zero, List.set_cons_succ, ev] at hK ⊢
            have HK := Lib.hid hK
            clear hK
            refine wpOp_want rfl rfl ?_
            go_simp
            obtain ⟨hb, f0, f1, f2, f3, f4, f5, f6, f8, c6⟩ := HJ.out
            exact HK.out _ _ ⟨hb, fun h => f0 (h.resolve_left (by decide)), fun h => f1 (h.resolve_left (by decide)), fun h => f2 (h.resolve_left (by decide)), fun h => f3 (h.resolve_left (by decide)), fun _ => hq, fun h => f5 (h.resolve_left (by decide)), fun h => ((f6 (h.resolve_left (by decide)))).congr ⟨fun h => .inr h, fun h => h.resolve_left (by decide)⟩, fun h => f8 (h.resolve_left (by decide)), fun h => .inr (c6 (h.resolve_left (by decide)))⟩
          case s5 =>
            rintro L T W hd hn hJ K hK
            have HJ := Lib.hid hJ
            clear hJ
            have hb := HJ.out.1
            have r3 := HJ.out.2.2.2.2.1 hd.1
            obtain ⟨a, ev, hq⟩ := r3
            simp only [ovr, Act.put, List.setIfInBounds_toArray, List.set_cons_zero, List.set_cons_succ, ev] at hK ⊢
            have HK := Lib.hid hK
            clear hK
            refine wpOp_want rfl rfl ?_
            go_simp
            obtain ⟨hb, f0, f1, f2, f3, f4, f5, f6, f8, c6⟩ := HJ.out
            exact HK.out _ _ ⟨hb, fun h => f0 (h.resolve_left (by decide)), fun h => f1 (h.resolve_left (by decide)), fun h => f2 (h.resolve_left (by decide)), fun h => f3 (h.resolve_left (by decide)), fun h => f4 (h.resolve_left (by decide)), fun _ => rfl, fun h => ((f6 (h.resolve_left (by decide)))).congr ⟨fun h => .inr h, fun h => h.resolve_left (by decide)⟩, fun h => f8 (h.resolve_left (by decide)), fun h => .inr (c6 (h.resolve_left (by decide)))⟩
          case s6 =>
            rintro L T W hd hn hJ K hK
            have HJ := Lib.hid hJ
            clear hJ
            have hb := HJ.out.1
            simp only [ovr, Act.put, List.setIfInBounds_toArray, List.set_cons_zero, List.set_cons_succ] at hK ⊢
            have HK := Lib.hid hK
            clear hK
            refine wpOp_want rfl rfl ?_
            go_simp
            have hb1 := below_alloc W (.cells #[.bool false, .slice none 0 0] 24)
            obtain ⟨hb, f0, f1, f2, f3, f4, f5, f6, f8, c6⟩ := HJ.out
            exact HK.out _ _ ⟨Below.step hb hb1 (Nat.le_refl _), fun h => (stay_int (r.num * 10 ^ i)).mono (f0 (h.resolve_left (by decide))) hb1, fun h => (stay_int 10).mono (f1 (h.resolve_left (by decide))) hb1, fun h => (stay_tup 0 3).mono (f2 (h.resolve_left (by decide))) hb1, fun h => (stay_tup 0 3).mono (f3 (h.resolve_left (by decide))) hb1, fun h => (stay_int 0).mono (f4 (h.resolve_left (by decide))) hb1, fun h => f5 (h.resolve_left (by decide)), fun _ => Slot.new W (fun h => hn (c6 (h.resolve_left (by decide)))) _ hb.size, fun h => f8 (h.resolve_left (by decide)), fun _ => .inl (by decide)⟩
          case s7 =>
            rintro L T W hd hn hJ K hK
            have HJ := Lib.hid hJ
            clear hJ
            have hb := HJ.out.1
            have r4 := HJ.out.2.2.2.2.2.1 hd.2.1
            have r2 := HJ.out.2.2.2.1 hd.2.2.1
            have r0 := HJ.out.2.1 hd.2.2.2.1
            have r1 := HJ.out.2.2.1 hd.2.2.2.2.1
            have r3 := HJ.out.2.2.2.2.1 hd.2.2.2.2.2.2.1
            have da := hd.1
            have hr := r4
            obtain ⟨m, em, hm1, hm2, hB⟩ := (HJ.out.2.2.2.2.2.2.2.1 da).open hn
            obtain ⟨ng, ao, nn, cap, ev⟩ := IntV.parts hr
            rw [ev] at hr
            obtain ⟨b0, b1, b2, b3⟩ := id hB
            simp only [ovr, Act.put, List.setIfInBounds_toArray, List.set_cons_zero, List.set_cons_succ, em, ev] at hK ⊢
            have HK := Lib.hid hK
            clear hK
            refine wpOp_want rfl rfl ?_
            go_simp
            obtain ⟨hb, f0, f1, f2, f3, f4, f5, f6, f8, c6⟩ := HJ.out
            exact HK.out undef _ ⟨Below.put2 hb hm1 _ _, fun h => (stay_int (r.num * 10 ^ i)).put (f0 (h.resolve_left (by decide))) hB, fun h => (stay_int 10).put (f1 (h.resolve_left (by decide))) hB, fun h => (stay_tup 0 3).put (f2 (h.resolve_left (by decide))) hB, fun h => (stay_tup 0 3).put (f3 (h.resolve_left (by decide))) hB, fun h => (stay_int 0).put (f4 (h.resolve_left (by decide))) hB, fun h => f5 (h.resolve_left (by decide)), fun h => by show Slot _ _ _ _ (T 8); rw [em]; exact Slot.stored (stay_int 0) hm1 hB (.inl (by decide)) hr, fun h => f8 (h.resolve_left (by decide)), fun _ => .inr da⟩
          case s8 =>
            rintro L T W hd hn hJ K hK
            have HJ := Lib.hid hJ
            clear hJ
            have hb := HJ.out.1
            have e5 := HJ.out.2.2.2.2.2.2.1 hd.1
            have r0 := HJ.out.2.1 hd.2.2.1
            have r1 := HJ.out.2.2.1 hd.2.2.2.1
            have r2 := HJ.out.2.2.2.1 hd.2.2.2.2.1
            have r3 := HJ.out.2.2.2.2.1 hd.2.2.2.2.2.1
            have r4 := HJ.out.2.2.2.2.2.1 hd.2.2.2.2.2.2.1
            simp only [ovr, Act.put, List.setIfInBounds_toArray, List.set_cons_zero, List.set_cons_succ, e5] at hK ⊢
            have HK := Lib.hid hK
            clear hK
            refine wpOp_want rfl rfl ?_
            go_simp
            obtain ⟨hb, f0, f1, f2, f3, f4, f5, f6, f8, c6⟩ := HJ.out
            exact HK.out _ _ ⟨hb, fun h => f0 (h.resolve_left (by decide)), fun h => f1 (h.resolve_left (by decide)), fun h => f2 (h.resolve_left (by decide)), fun h => f3 (h.resolve_left (by decide)), fun h => f4 (h.resolve_left (by decide)), fun h => f5 (h.resolve_left (by decide)), fun h => ((f6 (h.resolve_left (by decide)))).congr ⟨fun h => .inr h, fun h => h.resolve_left (by decide)⟩, fun _ => rfl, fun h => .inr (c6 (h.resolve_left (by decide)))⟩
          case he =>
            rintro T W ⟨hb, f0, f1, f2, f3, f4, f5, f6, f8, c6⟩
            simp only [ovr, List.setIfInBounds_toArray, List.set_cons_zero, List.set_cons_succ]
            obtain ⟨g, ngx, aox, nx, capx, e6, hg, B6, V6⟩ := (f6 (by decide)).at (by decide)
            have e9 := f8 (by decide)
            rw [e6, e9]
            go_wp2_with fail
            go_meet
            exact ⟨⟨g, ngx, aox, nx, capx, rfl, hg, B6, Lib.hid V6, hb⟩, rfl⟩
        case rest =>
          obtain ⟨⟨g8, ng4, ao4, n4, cap4, rfl, hg8, X8, HV4, hb⟩, rfl⟩ := hcut
          have X6 := X6.mono hb
          have X1 := X1.mono hb
          have HV3 := Lib.hid (HV3.out.mono hb)
          have HV2 := Lib.hid (HV2.out.mono hb)
          have hE := hE.mono hb
          have hbw := Below.step hbw hb (Nat.le_refl _)
          clear hb
          go_wp2
          go_ret2
          exact ⟨rfl, hbw⟩
    · obtain rfl : i = k := by omega
      exact absurd HV3.out.small hs.out

set_option maxRecDepth 100000 in
set_option maxHeartbeats 1600000 in
theorem rDecimalQ_low (v : Value) (r : Rat) (k : Int) (w : World) (hr : RatV w v r) (hk : k < 0) (hE : Env w) :
    Calls Tryz.prog 27 #[v, .int .i64 k] w fun e w' => e = .returned (.tuple #[.string ⟨#[]⟩, .int .i64 7]) ∧ Below w.heap.size w w' := by
  have h0 := hk
  have hE0 := hE
  have hbw := Below.refl w.heap.size w
  obtain ⟨ng1, ao1, n1, cap1, ng2, ao2, n2, cap2, rfl, h1, h2⟩ := hr
  have HV1 := Lib.hid h1
  have HV2 := Lib.hid h2
  clear h1 h2
  go_enter Tryz.func27, Tryz.ntmps27
  go_upto_region 1 with fail
  have X1 := Box4.new w (.bool ng1) (.slice ao1 n1 cap1) (.bool ng2) (.slice ao2 n2 cap2) 29
  have hb := below_alloc w (.cells #[.bool ng1, .slice ao1 n1 cap1, .bool ng2, .slice ao2 n2 cap2] 29)
  generalize w.alloc (.cells #[.bool ng1, .slice ao1 n1 cap1, .bool ng2, .slice ao2 n2 cap2] 29) = v1 at *
  have HV1 := Lib.hid (HV1.out.mono hb)
  have HV2 := Lib.hid (HV2.out.mono hb)
  have hE := hE.mono hb
  have hbw := Below.step hbw hb (Nat.le_refl _)
  clear hb
  obtain ⟨cX1_0, cX1_1, cX1_2, cX1_3, _, _, _, _⟩ := id X1
  go_wp2_with fail
  (with_reducible refine (rValid_true _ r v1 (RatV.mk' HV1 HV2) hE).mono ?_)
  rintro e v2 ⟨rfl, hb⟩
  have HV1 := Lib.hid (HV1.out.mono hb)
  have HV2 := Lib.hid (HV2.out.mono hb)
  have X1 := X1.mono hb
  have hE := hE.mono hb
  have hbw := Below.step hbw hb (Nat.le_refl _)
  clear hb
  clear cX1_0 cX1_1 cX1_2 cX1_3
  go_wp2
  go_ret2
  exact ⟨rfl, hbw⟩

set_option maxRecDepth 100000 in
set_option maxHeartbeats 1600000 in
theorem rDecimalQ_high (v : Value) (r : Rat) (k : Int) (w : World) (hr : RatV w v r) (hk : 20 < k) (hE : Env w) :
    Calls Tryz.prog 27 #[v, .int .i64 k] w fun e w' => e = .returned (.tuple #[.string ⟨#[]⟩, .int .i64 7]) ∧ Below w.heap.size w w' := by
  have h0 := hk
  have h1 : decide (k < 0) = false := by simp; omega
  have hE0 := hE
  have hbw := Below.refl w.heap.size w
  obtain ⟨ng1, ao1, n1, cap1, ng2, ao2, n2, cap2, rfl, h1, h2⟩ := hr
  have HV1 := Lib.hid h1
  have HV2 := Lib.hid h2
  clear h1 h2
  go_enter Tryz.func27, Tryz.ntmps27
  go_upto_region 1 with fail
  have X1 := Box4.new w (.bool ng1) (.slice ao1 n1 cap1) (.bool ng2) (.slice ao2 n2 cap2) 29
  have hb := below_alloc w (.cells #[.bool ng1, .slice ao1 n1 cap1, .bool ng2, .slice ao2 n2 cap2] 29)
  generalize w.alloc (.cells #[.bool ng1, .slice ao1 n1 cap1, .bool ng2, .slice ao2 n2 cap2] 29) = v1 at *
  have HV1 := Lib.hid (HV1.out.mono hb)
  have HV2 := Lib.hid (HV2.out.mono hb)
  have hE := hE.mono hb
  have hbw := Below.step hbw hb (Nat.le_refl _)
  clear hb
  obtain ⟨cX1_0, cX1_1, cX1_2, cX1_3, _, _, _, _⟩ := id X1
  go_wp2_with fail
  (with_reducible refine (rValid_true _ r v1 (RatV.mk' HV1 HV2) hE).mono ?_)
  rintro e v2 ⟨rfl, hb⟩
  have HV1 := Lib.hid (HV1.out.mono hb)
  have HV2 := Lib.hid (HV2.out.mono hb)
  have X1 := X1.mono hb
  have hE := hE.mono hb
  have hbw := Below.step hbw hb (Nat.le_refl _)
  clear hb
  clear cX1_0 cX1_1 cX1_2 cX1_3
  go_wp2
  go_ret2
  exact ⟨rfl, hbw⟩

/-- 'Decimal' of both comes to the same -/
theorem decimal_two (r : Rat) (k : Int) : ∃ (t : List UInt8) (e0 : Int),
    (∀ (v : Value) (w : World), RatV w v r → Env w → Calls Tryz.prog 26 #[v, .int .i64 k] w fun e w' => e = .returned (.tuple #[.string ⟨t.toArray⟩, .int .i64 e0]) ∧ Below w.heap.size w w') ∧
    (∀ (v : Value) (w : World), RatV w v r → Env w → Calls Tryz.prog 27 #[v, .int .i64 k] w fun e w' => e = .returned (.tuple #[.string ⟨t.toArray⟩, .int .i64 e0]) ∧ Below w.heap.size w w') := by
  by_cases h1 : k < 0
  · exact ⟨[], 7, fun v w hr hE => DecimalQ_low v r k w hr h1 hE, fun v w hr hE => rDecimalQ_low v r k w hr h1 hE⟩
  by_cases h2 : 20 < k
  · exact ⟨[], 7, fun v w hr hE => DecimalQ_high v r k w hr h2 hE, fun v w hr hE => rDecimalQ_high v r k w hr h2 hE⟩
  obtain ⟨n, rfl⟩ : ∃ n : Nat, k = (n : Int) := ⟨k.toNat, by omega⟩
  by_cases h3 : Rq.Sm (r.num * 10 ^ n)
  · exact ⟨_, 0, fun v w hr hE => DecimalQ v r n w hr (by omega) (Lib.hid h3) hE, fun v w hr hE => rDecimalQ v r n w hr (by omega) (Lib.hid h3) hE⟩
  · exact ⟨[], 3, fun v w hr hE => DecimalQ_big v r n w hr (by omega) (Lib.hid h3) hE, fun v w hr hE => rDecimalQ_big v r n w hr (by omega) (Lib.hid h3) hE⟩

end Go.Proofs.YtgenhkakcbedaaaGreatDoor
