/-
  'sederuntlaw01.IntegerTexts' returns true for every input, and leaves its arguments as they were. The row's listed variables of Go's library hold what the program's text lays (the card ties them to it).
-/
import Derived.Test.YtijjagofingpdaaGreatDoorWit
import Derived.Test.YtijjagofingpdaaGreatDoorSmallR
import Derived.Test.YtijjagofingpdaaGreatDoorParseG
import Derived.Test.YtijjagofingpdaaGreatDoorPlainF
namespace Go.Proofs.YtijjagofingpdaaGreatDoor
open Go.RowKit

/-- the result of 'Parse' on the text of z -/
def GotI (w' : World) (z : Int) (e : Ending) : Prop :=
  ∃ (ng : Bool) (ao : Option Addr) (n cap : Nat), e = .returned (.tuple #[.agg #[.bool ng, .slice ao n cap], .int .i64 0]) ∧ Hid (IntV w' (.agg #[.bool ng, .slice ao n cap]) z)

theorem Parse_itoa (z : Int) (hz : z.natAbs < Bi.Big) (w : World) (hE : Env w) :
    Calls Tryz.prog 9 #[.string ⟨(Lib.itoa z).toArray⟩] w fun e w' => GotI w' z e ∧ Below w.heap.size w w' := by
  obtain ⟨neg, t, _, h2, h3, h4, h5⟩ := Bi.itoa_parts hz
  have h5' : sgn neg (Bi.decVal t) = z := h5
  refine (Parse_ok (Lib.itoa z) neg t (Lib.hid h2.symm) (Lib.hid h3.symm) w (Lib.hid h4) hE).mono ?_
  rintro e w' ⟨⟨ng, ao, n, cap, k, rfl, HR⟩, hb⟩
  have hR := HR.out
  rw [h5'] at hR
  obtain ⟨rfl, hV⟩ := hR.fits hz
  exact ⟨⟨ng, ao, n, cap, rfl, Lib.hid hV⟩, hb⟩

theorem small_same {x v k v' k' : Int} (h : (-9223372036854775808 ≤ x ∧ x ≤ 9223372036854775807 ∧ v = x ∧ k = 0) ∨ (¬ (-9223372036854775808 ≤ x ∧ x ≤ 9223372036854775807) ∧ v = 0 ∧ k = 7))
    (h' : (-9223372036854775808 ≤ x ∧ x ≤ 9223372036854775807 ∧ v' = x ∧ k' = 0) ∨ (¬ (-9223372036854775808 ≤ x ∧ x ≤ 9223372036854775807) ∧ v' = 0 ∧ k' = 7)) : v = v' ∧ k = k' := by
  omega

set_option maxRecDepth 100000 in
set_option maxHeartbeats 3200000 in
theorem texts_law (c : Value) (w : World) (hc : DraftV w c) (hE : Env w) :
    Calls Tryz.prog 3 #[c] w fun e w' => e = .returned (.bool true) ∧ Below w.heap.size w w' := by
  obtain ⟨ncg, aoc, lc, capc, rfl, hc1, hc2, hc3⟩ := id hc
  clear hc1 hc2 hc3
  have hbw := below_alloc w (.cells #[.bool ncg, .slice aoc lc.length capc] 24)
  have hc0 := hc.mono hbw
  have hE := hE.mono hbw
  clear hc
  go_enter Tryz.func3, Tryz.ntmps3
  go_wp2_with fail
  (with_reducible refine (madeV ncg aoc _ capc _ hc0).mono ?_)
  rintro e w1 ⟨⟨z, ng1, ao1, n1, cap1, rfl, HV1⟩, hb⟩
  have hE := hE.mono hb
  have hbw := Below.step hbw hb (Nat.le_refl _)
  clear hb hc0
  go_upto_region 2 with fail
  have X1 := Box.new w1 (.bool ng1) (.slice ao1 n1 cap1) 25
  have hb := below_alloc w1 (.cells #[.bool ng1, .slice ao1 n1 cap1] 25)
  generalize w1.alloc (.cells #[.bool ng1, .slice ao1 n1 cap1] 25) = w2 at *
  have HV1 := Lib.hid (HV1.out.mono hb)
  have hE := hE.mono hb
  have hbw := Below.step hbw hb (Nat.le_refl _)
  clear hb
  go_wp2_with fail
  (with_reducible refine (awake_any _ hE).mono ?_)
  rintro e w3 ⟨rfl, hb⟩
  have X1 := X1.mono hb
  have HV1 := Lib.hid (HV1.out.mono hb)
  have hE := hE.mono hb
  have hbw := Below.step hbw hb (Nat.le_refl _)
  clear hb
  obtain ⟨x0, x1, _, _⟩ := id X1
  go_wp2_with fail
  (with_reducible refine (ownV _ z _ HV1.out).mono ?_)
  rintro e w4 ⟨⟨ng2, ao2, n2, cap2, rfl, HV2⟩, hb⟩
  have X1 := X1.mono hb
  have HV1 := Lib.hid (HV1.out.mono hb)
  have hE := hE.mono hb
  have hbw := Below.step hbw hb (Nat.le_refl _)
  clear hb x0 x1
  go_wp2_with fail
  (with_reducible refine (Format_any _ z _ HV2.out hE).mono ?_)
  rintro e w5 ⟨rfl, hb⟩
  have X1 := X1.mono hb
  have HV1 := Lib.hid (HV1.out.mono hb)
  have hE := hE.mono hb
  have hbw := Below.step hbw hb (Nat.le_refl _)
  clear hb HV2
  go_wp2_with fail
  (with_reducible refine (Parse_itoa z HV1.out.small _ hE).mono ?_)
  rintro e w6 ⟨⟨ng3, ao3, n3, cap3, rfl, HV3⟩, hb⟩
  have X1 := X1.mono hb
  have HV1 := Lib.hid (HV1.out.mono hb)
  have hE := hE.mono hb
  have hbw := Below.step hbw hb (Nat.le_refl _)
  clear hb
  go_upto_region 6 with fail
  have X3 := Box.new w6 (.bool ng3) (.slice ao3 n3 cap3) 25
  have hb := below_alloc w6 (.cells #[.bool ng3, .slice ao3 n3 cap3] 25)
  generalize w6.alloc (.cells #[.bool ng3, .slice ao3 n3 cap3] 25) = w7 at *
  have X1 := X1.mono hb
  have HV1 := Lib.hid (HV1.out.mono hb)
  have HV3 := Lib.hid (HV3.out.mono hb)
  have hE := hE.mono hb
  have hbw := Below.step hbw hb (Nat.le_refl _)
  clear hb
  obtain ⟨x0, x1, _, _⟩ := id X1
  go_wp2_with fail
  (with_reducible refine (ownV _ z _ HV1.out).mono ?_)
  rintro e w8 ⟨⟨ng4, ao4, n4, cap4, rfl, HV4⟩, hb⟩
  have X1 := X1.mono hb
  have X3 := X3.mono hb
  have HV1 := Lib.hid (HV1.out.mono hb)
  have HV3 := Lib.hid (HV3.out.mono hb)
  have hE := hE.mono hb
  have hbw := Below.step hbw hb (Nat.le_refl _)
  clear hb x0 x1
  go_wp2_with fail
  (with_reducible refine (Small_all _ z _ HV4.out hE).mono ?_)
  rintro e w9 ⟨⟨v, k, rfl, HS⟩, hb⟩
  have X1 := X1.mono hb
  have X3 := X3.mono hb
  have HV1 := Lib.hid (HV1.out.mono hb)
  have HV3 := Lib.hid (HV3.out.mono hb)
  have hE := hE.mono hb
  have hbw := Below.step hbw hb (Nat.le_refl _)
  clear hb HV4
  obtain ⟨x0, x1, _, _⟩ := id X1
  go_wp2_with fail
  (with_reducible refine (rSmall_any _ z _ HV1.out hE).mono ?_)
  rintro e w10 ⟨⟨v', k', rfl, HS'⟩, hb⟩
  obtain ⟨rfl, rfl⟩ := small_same HS.out HS'.out
  have X1 := X1.mono hb
  have X3 := X3.mono hb
  have HV1 := Lib.hid (HV1.out.mono hb)
  have HV3 := Lib.hid (HV3.out.mono hb)
  have hbw := Below.step hbw hb (Nat.le_refl _)
  clear hb x0 x1 HS HS' hE
  have hvv : (v == v) = true := by simp
  have hkk : (k == k) = true := by simp
  obtain ⟨x0, x1, _, _⟩ := id X1
  go_wp2_with fail
  (with_reducible refine (rFormat_any _ z _ HV1.out).mono ?_)
  rintro e w11 ⟨rfl, hb⟩
  have X1 := X1.mono hb
  have X3 := X3.mono hb
  have HV1 := Lib.hid (HV1.out.mono hb)
  have HV3 := Lib.hid (HV3.out.mono hb)
  have hbw := Below.step hbw hb (Nat.le_refl _)
  clear hb x0 x1
  obtain ⟨x0, x1, _, _⟩ := id X1
  obtain ⟨y0, y1, _, _⟩ := id X3
  go_wp2_with fail
  (with_reducible refine (eqV_same z _ _ _ HV3.out HV1.out).mono ?_)
  rintro e w12 ⟨rfl, hb⟩
  have hbw := Below.step hbw hb (Nat.le_refl _)
  clear hb x0 x1 y0 y1
  go_wp2
  go_ret
  exact ⟨rfl, hbw⟩

end Go.Proofs.YtijjagofingpdaaGreatDoor


namespace Go.Proofs.YtijjagofingpdaaGreatDoor.integerTexts
open Go.ChangeShapes Go.WideShapes Go.ChangeAt Go.RowKit Go.Deep

set_option maxRecDepth 100000 in
theorem contract (H : Type) (enc : TypeId × Value → H) (W : World) (base : Nat) (args : Array Value) (ds gs : List (DataW H)) (before : List MemPlace)
    (hval : ∀ (j : Nat) t v, Tryz.f3.params[j]? = some t → args[j]? = some v → Value.okWide Tryz.prog W .any base t v)
    (hW : DataW.Whole enc Tryz.prog Tryz.f3.params.toList Rows.integerTextsSpec.vars false W args.toList ds gs before) (hL : laidMetH Tryz.prog Rows.integerTextsRow.laid W) :
    Calls Tryz.prog 3 args W fun e W' => ∃ v, e = .returned v ∧ Rows.integerTextsSpec.post enc Tryz.prog Tryz.f3 false true false false W args v W' := by
  have hE : Env W := env_of hL
  have hW' := hW
  obtain ⟨p, q, hA0, hV, rfl, hfz, hnd⟩ := hW
  have hA : DataW.TrodAll enc Tryz.prog W 0 (fun _ => true) true Tryz.f3.params.toList args.toList ds p := hA0
  have hlt : ∀ x ∈ p, x.block < W.heap.size := fun x hx => hW'.lt x (by simp [hx])
  obtain ⟨rfl, rfl⟩ := trodVars_none hV
  rw [Tryz.params3] at hA hval
  obtain ⟨v0, vs0, d0, ds0, p0, q0, hargs, rfl, rfl, h0, r0⟩ := trodAll_cons hA
  obtain ⟨rfl, rfl, rfl⟩ := trodAll_nil r0
  obtain rfl : args = #[v0] := by cases args; simp_all
  have V0 : DraftV W v0 := open_bu Tryz.underlying24 (by kernel_rfl) (by kernel_rfl) (by kernel_rfl) (by kernel_rfl) (hval 0 24 v0 rfl rfl) h0
  refine (texts_law v0 W V0 hE).mono fun e W' ⟨he, hb⟩ => ?_
  subst he
  refine ⟨_, rfl, post_of_below (pa := _) (pv := []) hW' (fun _ _ _ => trodAll_cons_mk (shut_bool Tryz.underlying4 _) trodAll_mk0) (fun sp hs => ?_) (fun _ _ => rfl) rfl hb (ok_one (by kernel_rfl) rfl (okWide_bool_mk Tryz.underlying4 _))⟩
  exact trodAll_stays laidOut hb (fun t ht => by
    have : Tryz.f3.params.toList = [24] := by rw [Tryz.params3]
    rw [this] at ht
    obtain rfl : t = 24 := by simpa using ht
    exact ⟨by kernel_rfl, of_decide_eq_true (by kernel_rfl)⟩) hA0 hlt sp (fun x hx => hs x (by simp at hx ⊢; exact hx))

theorem reads (os : Os) {H : Type} (enc : TypeId × Value → H) : ∃ places, DataW.whole enc Tryz.prog ((laidWorld os).forCall (fun _ _ => 0) ⟨#[], #[.agg #[.bool false, .slice none 0 0]], []⟩).memory Tryz.f3.params.toList Rows.integerTextsSpec.vars false #[Value.agg #[.bool false, .slice none 0 0]].toList 8 = some ([.agg [.lit (.bool false), .nil]], [], places) :=
  ⟨[], by kernel_rfl⟩

set_option maxRecDepth 100000 in
theorem lifted (os : Os) (started : os.Started) (H : Type) (enc : TypeId × Value → H) (F : Stop.Interp) :
    ReturnsInHanded {} Tryz.checked os 3 .any ((OpenSpec.ofChange Rows.integerTextsSpec).preRow enc Tryz.prog Tryz.f3 Rows.integerTextsRow.domain false Rows.integerTextsRow.laid) (((OpenSpec.ofChange Rows.integerTextsSpec).at F).post enc Tryz.prog Tryz.f3 false true false false) := by
  obtain ⟨places, hx⟩ := reads os enc
  refine returnsInHanded_of_row (C := Tryz.checked) (s := OpenSpec.ofChange Rows.integerTextsSpec) own started (by kernel_rfl) Tryz.func3
    (witness_row_atRef (enc := enc) (C := Tryz.checked) false (laidWorld os) #[.agg #[.bool false, .slice none 0 0]] rfl (by kernel_rfl) (by kernel_rfl) (by kernel_rfl)
      (OpenSpec.preRow_of_cond 8 hx (by kernel_rfl) (fun k hk => by cases hk) (by kernel_rfl) (laid_met os _))) ?_
  intro W base args ds gs before hval hW _ _ _ hL _ _
  exact contract H enc W base args ds gs before hval hW hL

theorem said : Rows.IntegerTextsSaid :=
  OpenClaim.holds_of_cond 3 Tryz.f3 rfl rfl rfl rfl rfl rfl rfl ⟨rfl, rfl, rfl, rfl, rfl⟩ rfl rfl rfl rfl rfl (by kernel_rfl) Tryz.func3 (by kernel_rfl)
    (of_decide_eq_true (by kernel_rfl)) (by unfold Func.isWrapper; first | (rw [if_pos (by decide +kernel)]; kernel_rfl) | (rw [if_neg (by decide +kernel)]; exact ⟨rfl, rfl⟩))
    (fun os started H enc _ F => by rw [OpenClaim.pre_eq_preRow]; exact lifted os started H enc F)

theorem plain (f : FuncId) (fn : Func) (hf : Tryz.pinned.checked.prog.funcNamed "sederunt/sederuntlaw01.IntegerTexts" = some f) (hfn : Tryz.pinned.checked.prog.funcs[f]? = some fn) :
    true = Tryz.pinned.checked.prog.looks [] ∧ ∀ (j : Nat) t, fn.params[j]? = some t → Tryz.pinned.checked.prog.wantsStandIn t = false := by
  obtain rfl : f = 3 := Option.some.inj ((show Tryz.prog.funcNamed "sederunt/sederuntlaw01.IntegerTexts" = some 3 by kernel_rfl).symm.trans hf) |>.symm
  obtain rfl : fn = Tryz.f3 := (Option.some.inj (Tryz.func3.symm.trans hfn)).symm
  refine ⟨by kernel_rfl, fun j t ht => ?_⟩
  rw [Tryz.params3] at ht
  have ht' := Array.mem_of_getElem? ht
  obtain rfl : t = 24 := by simpa using ht'
  exact (show Tryz.prog.wantsStandIn 24 = false by kernel_rfl)

/-- the card -/
theorem card : Rows.IntegerTextsCardSaid :=
  Claim7.holds_tied_plain_at .later [] _ _ _ _ said (fun _ h => by cases h) (by kernel_rfl) (fun _ h => by cases h) integerTexts_row_tie rfl ⟨rfl, rfl⟩ (by kernel_rfl) rfl plain (by kernel_rfl)

end Go.Proofs.YtijjagofingpdaaGreatDoor.integerTexts
