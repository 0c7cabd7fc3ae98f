/-
  The error of lists of fractions in the program; the conditions of Valid as function values.
-/
import Derived.Test.YtgfpbghgpdpepaaGreatDoorD2
set_option linter.unusedVariables false
set_option linter.unusedSimpArgs false
set_option maxRecDepth 100000
set_option maxHeartbeats 25600000
namespace Go.Proofs.YtgfpbghgpdpepaaGreatDoor
open Go.RowKit
def St (E : Int) (l : List Qo) : Prop := (∀ x ∈ l, x.isNone = false) ∧ E = if longQ l then 3 else 0
theorem St.start : St 0 [] := ⟨fun x h => by simp at h, rfl⟩
theorem longQ_snoc (l : List Qo) (o : Qo) : longQ (l ++ [o]) = (longQ l || longO o) := by simp [longQ]
theorem some_snoc {l : List Qo} (h : ∀ x ∈ l, x.isNone = false) (r : Rat) : ∀ x ∈ l ++ [some r], x.isNone = false := by
 intro x hx;rcases List.mem_append.1 hx with hx | hx
 ·exact h x hx
 ·simp at hx; subst hx; rfl
theorem St.short {E : Int} {l : List Qo} {r : Rat} (h : St E l) (hs : shortB r = true) : St E (l ++ [some r]) :=
 ⟨some_snoc h.1 r, by rw [longQ_snoc]; simp [longO, hs, h.2]⟩
theorem St.long {E : Int} {l : List Qo} {r : Rat} (h : St E l) (hs : shortB r = false) : St 3 (l ++ [some r]) :=
 ⟨some_snoc h.1 r, by rw [longQ_snoc]; simp [longO, hs]⟩
theorem St.err {E : Int} {l : List Qo} (h : St E l) : E = numErr l := by
 rw [h.2]; unfold numErr; rw [badQ_none h.1]
 cases longQ l <;> rfl
theorem flat_snoc {rows : List (List Qo)} {k : Nat} {row : List Qo} (h : rows[k]? = some row) : (rows.take (k + 1)).flatten = (rows.take k).flatten ++ row := by
 rw [List.take_add_one, h]; simp
theorem part_snoc {l row : List Qo} {j : Nat} {o : Qo} (h : row[j]? = some o) : l ++ row.take (j + 1) = (l ++ row.take j) ++ [o] := by
 rw [List.take_add_one, h]; simp
theorem numbers_any (rows : List (List Qo)) (aa : Option Addr) (ca : Nat) (w : World) (hl : rows.length ≤ 1000000) (hr : ∀ r ∈ rows, r.length ≤ 1000000) (ua : UM w aa rows) (hE : Env w) :
  Calls Tryz.prog 81 #[.slice aa rows.length ca] w fun e w' => e = .returned (.int .i64 (numErr rows.flatten)) ∧ Below w.heap.size w w' := by
 have hbw := Below.refl w.heap.size w;have Hr := hii hr;clear hr;go_enter Tryz.func81, Tryz.ntmps81;go_wp2_with fail;go_loopw [3, 10] (fun s c wr => ∃ (k : Nat) (E : Int), k ≤ rows.length ∧ c = .int .i64 k ∧ s = .int .i64 E ∧ Hid (St E (rows.take k).flatten) ∧ Env wr ∧ Below w.heap.size w wr) (fun _ c _ => rows.length - (intOf c).toNat)
 case atStart => exact ⟨0, 0, Nat.zero_le _, rfl, rfl, hii St.start, hE, hbw⟩
 case round =>
  clear hbw hE;obtain ⟨k, E, hk, rfl, rfl, HS, hE, hbw⟩ := hrel
  by_cases hlt : k < rows.length
  ·obtain ⟨row, hrow⟩ : ∃ x, rows[k]? = some x := ⟨rows[k], gE hlt⟩;have hrl := Hr.out row (List.mem_of_getElem? hrow);obtain ⟨b0, off0, ar, cr, ea, hc, uR⟩ := (ua.mono hbw) k row hrow;have HF := hii (flat_snoc hrow);have HM : Hid (row ∈ rows) := hii (List.mem_of_getElem? hrow);obtain ⟨pre, hpre⟩ : ∃ pre, pre = (rows.take k).flatten := ⟨_, rfl⟩;rw [← hpre] at HS HF;clear hrow hpre;subst ea;obtain ⟨wo, rfl⟩ := exi wr;have hb1 := Below.refl wo.heap.size wo;go_wp2_with fail;clear hc;go_loopw [3, 16] (fun s c wr => ∃ (j : Nat) (E : Int), j ≤ row.length ∧ c = .int .i64 j ∧ s = .int .i64 E ∧ Hid (St E (pre ++ row.take j)) ∧ Env wr ∧ Below wo.heap.size wo wr) (fun _ c _ => row.length - (intOf c).toNat)
   case atStart => exact ⟨0, E, Nat.zero_le _, rfl, rfl, hii (by simpa using HS.out), hE, hb1⟩
   case round =>
    clear hb1 hE HS;obtain ⟨j, E, hj, rfl, rfl, HS, hE, hb1⟩ := hrel
    by_cases hlj : j < row.length
    ·obtain ⟨o, ho⟩ : ∃ x, row[j]? = some x := ⟨row[j], gE hlj⟩;obtain ⟨b1, off1, ngp, aop, np, capp, ngq, aoq, nq, capq, eb, FA, HVA⟩ := (uR.mono hb1) j o ho;have HP := hii (part_snoc (l := pre) ho);have Ho := hii ho;clear ho uR;subst eb;obtain ⟨cFA_0, cFA_1, cFA_2, cFA_3, _, _, _, _⟩ := id FA;go_upto_region 8 with fail;have Y := Box4.new wr (.bool ngp) (.slice aop np capp) (.bool ngq) (.slice aoq nq capq) 34;have hb := bA wr (.cells #[.bool ngp, .slice aop np capp, .bool ngq, .slice aoq nq capq] 34);generalize wr.alloc (.cells #[.bool ngp, .slice aop np capp, .bool ngq, .slice aoq nq capq] 34) = wa at *;have HVA := HVA.mono hb;have hE := hE.mono hb;have hb1 := bu hb1 hb;clear hb cFA_0 cFA_1 cFA_2 cFA_3 FA;obtain ⟨d0, d1, d2, d3, _, _, _, _⟩ := id Y
     cases o with
     | none =>
      go_wp2_with fail;(with_reducible refine (Valid_v _ false wa HVA.vq hE).mono ?_);rintro e v2 ⟨rfl, hb⟩;have hb1 := bu hb1 hb;have hbw := bu hbw hb1;clear hb d0 d1 d2 d3;go_wp2;go_ret;refine ⟨?_, hbw⟩;rw [numErr_bad (List.mem_flatten.2 ⟨row, HM.out, List.mem_of_getElem? Ho.out⟩)]; rfl
     | some r =>
      go_wp2_with fail;(with_reducible refine (Valid_v _ true wa HVA.vq hE).mono ?_);rintro e v2 ⟨rfl, hb⟩;have HVA : RatV _ _ r := HVA.mono hb;have Y := Y.mono hb;have hE := hE.mono hb;have hb1 := bu hb1 hb;clear hb d0 d1 d2 d3;obtain ⟨d0, d1, d2, d3, _, _, _, _⟩ := Y
      cases hs : shortB r with
      | true =>
       have Hs := hii hs;go_wp2_with fail;(with_reducible refine (sshort_any _ r _ HVA hE).mono ?_);rw [hs];clear hs;rintro e v3 ⟨rfl, hb⟩;have hE := hE.mono hb;have hb1 := bu hb1 hb;clear hb d0 d1 d2 d3;go_wp2;go_roundw
       case rel => exact ⟨j + 1, E, by omega, by go_num, rfl, hii (by rw [HP.out]; exact HS.out.short Hs.out), hE, hb1⟩
       case measure => simp [intOf]; omega
      | false =>
       have Hs := hii hs;go_wp2_with fail;(with_reducible refine (sshort_any _ r _ HVA hE).mono ?_);rw [hs];clear hs;rintro e v3 ⟨rfl, hb⟩;have hE := hE.mono hb;have hb1 := bu hb1 hb;clear hb d0 d1 d2 d3;go_wp2;go_roundw
       case rel => exact ⟨j + 1, 3, by omega, by go_num, rfl, hii (by rw [HP.out]; exact HS.out.long Hs.out), hE, hb1⟩
       case measure => simp [intOf]; omega
    ·obtain rfl : j = row.length := by omega
     have HS : Hid (St E (pre ++ row)) := hii (by have := HS.out; rw [List.take_length] at this; exact this);have hbw := bu hbw hb1;go_wp2;go_roundw
     case rel => exact ⟨k + 1, E, by omega, by go_num, rfl, hii (by rw [HF.out]; exact HS.out), hE, hbw⟩
     case measure => simp [intOf]; omega
  ·obtain rfl : k = rows.length := by omega
   have HS : Hid (E = numErr rows.flatten) := hii (by have := HS.out.err; rw [List.take_length] at this; exact this);go_wp2;go_ret;exact ⟨by rw [← HS.out]; rfl, hbw⟩
theorem ssign_any (v : Value) (r : Rat) (s : Int) (w : World) (hs : Hid (sgnI r.num = s)) (h : RatV w v r) (hE : Env w) :
  Calls Tryz.prog 84 #[v] w fun e w' => e = .returned (.int .i64 s) ∧ Below w.heap.size w w' := by
 obtain ⟨ng1, ao1, n1, cap1, ng2, ao2, n2, cap2, rfl, h1, h2⟩ := h;have HV1 := hii h1;clear h1 h2;go_enter Tryz.func84, Tryz.ntmps84;go_upto_region 1 with fail;have X1 := Box4.new w (.bool ng1) (.slice ao1 n1 cap1) (.bool ng2) (.slice ao2 n2 cap2) 34;have hb0 := bA w (.cells #[.bool ng1, .slice ao1 n1 cap1, .bool ng2, .slice ao2 n2 cap2] 34);generalize w.alloc (.cells #[.bool ng1, .slice ao1 n1 cap1, .bool ng2, .slice ao2 n2 cap2] 34) = v1 at *;have HV1 := hii (HV1.out.mono hb0);have hE := hE.mono hb0;obtain ⟨x1a, x1b, x1c, x1d, _, _, _, _⟩ := id X1;go_wp2_with fail;(with_reducible refine (Sign_eq _ r.num s v1 hs HV1.out hE).mono ?_);rintro e v2 ⟨rfl, hb⟩;have hbw := hb0.trans (hb.mono hb0.size);clear hb x1a x1b x1c x1d;go_wp2;go_ret;exact ⟨rfl, hbw⟩
theorem svalid2_any (v : Value) (r : Rat) (w : World) (h : RatV w v r) (hE : Env w) :
  Calls Tryz.prog 83 #[v] w fun e w' => e = .returned (.bool (negR r)) ∧ Below w.heap.size w w' := by
 have e0 : negR r = decide (sgnI r.num < 0) := by rw [sgnI_neg]; rfl
 rw [e0];clear e0;obtain ⟨s, hs⟩ : ∃ s, sgnI r.num = s := ⟨_, rfl⟩;rw [hs];have Hs := hii hs;clear hs;obtain ⟨ng1, ao1, n1, cap1, ng2, ao2, n2, cap2, rfl⟩ := h.parts;go_enter Tryz.func83, Tryz.ntmps83;go_upto_region 1 with fail;have X1 := Box4.new w (.bool ng1) (.slice ao1 n1 cap1) (.bool ng2) (.slice ao2 n2 cap2) 34;have hb0 := bA w (.cells #[.bool ng1, .slice ao1 n1 cap1, .bool ng2, .slice ao2 n2 cap2] 34);generalize w.alloc (.cells #[.bool ng1, .slice ao1 n1 cap1, .bool ng2, .slice ao2 n2 cap2] 34) = v1 at *;have h := h.mono hb0;have hE := hE.mono hb0;obtain ⟨x1a, x1b, x1c, x1d, _, _, _, _⟩ := id X1;go_wp2_with fail;(with_reducible refine (ssign_any _ r s v1 Hs h hE).mono ?_);rintro e v2 ⟨rfl, hb⟩;have hbw := hb0.trans (hb.mono hb0.size);clear hb x1a x1b x1c x1d;go_wp2
 all_goals go_ret
 all_goals exact ⟨by simp_all, hbw⟩
end Go.Proofs.YtgfpbghgpdpepaaGreatDoor
namespace Go.Proofs.YtgfpbghgpdpepaaGreatDoor
open Go.RowKit
def TellsR (g : Nat) (lb : Array Value) (p : List Qo → Bool) (l : List (List Qo)) (w : World) : Prop :=
 ∀ (o : List Qo) (ar : Option Addr) (cr : Nat) (W : World), o ∈ l → UQ W ar o → Env W → Below w.heap.size w W → Calls Tryz.prog g (#[.slice ar o.length cr] ++ lb) W fun e W' => e = .returned (.bool (p o)) ∧ Below W.heap.size W W'
def idxR (p : List Qo → Bool) (l : List (List Qo)) : Int := match l.findIdx? p with
 | some i => i
 | none => -1
theorem idxR_hit {p : List Qo → Bool} {l : List (List Qo)} {k : Nat} {o : List Qo} (hk : l[k]? = some o) (ho : p o = true) (h : ∀ x ∈ l.take k, p x = false) : idxR p l = k := by
 have : l.findIdx? p = some k := by
  rw [List.findIdx?_eq_some_iff_getElem];have hl : k < l.length := by
   rcases Nat.lt_or_ge k l.length with h | h
   ·exact h
   ·rw [List.getElem?_eq_none h] at hk; cases hk
  refine ⟨hl, by rw [gE hl] at hk; cases hk; exact ho, fun j hj => ?_⟩;have := h (l[j]'(by omega)) (List.mem_take_iff_getElem.2 ⟨j, by omega, rfl⟩);simp [this]
 unfold idxR;rw [this]
theorem idxR_miss {p : List Qo → Bool} {l : List (List Qo)} (h : ∀ x ∈ l, p x = false) : idxR p l = -1 := by
 have : l.findIdx? p = none := by rw [List.findIdx?_eq_none_iff]; exact h
 unfold idxR;rw [this]
theorem idxR_any (p : List Qo → Bool) (l : List (List Qo)) : decide (0 ≤ idxR p l) = l.any p := by
 cases h : l.any p with
 | false =>
  rw [List.any_eq_false] at h;rw [idxR_miss (fun x hx => by have := h x hx; simpa using this)]; rfl
 | true =>
  have : (l.findIdx? p).isSome := by rw [List.findIdx?_isSome]; exact h
  unfold idxR
  cases hf : l.findIdx? p with
  | none => rw [hf] at this; cases this
  | some i => simp
theorem IndexFunc_r (g : Nat) (lb : Array Value) (p : List Qo → Bool) (eg : ∀ args w, (callFunc g args).run Tryz.prog w = .ok (.enter g args) w) (l : List (List Qo)) (aa : Option Addr) (ca : Nat) (w : World) (hl : l.length ≤ 1000000000) (ua : UM w aa l) (hE : Env w) (hp : TellsR g lb p l w) :
  Calls Tryz.prog 132 #[.slice aa l.length ca, .func (.func g) #[] lb] w fun e w' => e = .returned (.int .i64 (idxR p l)) ∧ Below w.heap.size w w' := by
 have hbw := Below.refl w.heap.size w;have hp := hii hp;go_enter Tryz.func132, Tryz.ntmps132;go_wp2_with fail;go_loopw [8] (fun s wr => ∃ k : Nat, k ≤ l.length ∧ s = .int .i64 k ∧ Hid (∀ x ∈ l.take k, p x = false) ∧ Env wr ∧ Below w.heap.size w wr) (fun s _ => l.length - (intOf s).toNat)
 case atStart => exact ⟨0, Nat.zero_le _, rfl, hii (by simp), hE, hbw⟩
 case round =>
  clear hE hbw;obtain ⟨k, hk, rfl, HN, hE, hbw⟩ := hrel
  by_cases hlt : k < l.length
  ·obtain ⟨o, ho⟩ : ∃ x, l[k]? = some x := ⟨l[k], gE hlt⟩;obtain ⟨b1, off1, ar, cr, ea, FA, HVA⟩ := (ua.mono hbw) k o ho;have hcall := hp.out o ar cr wr (List.mem_of_getElem? ho) HVA hE hbw;have Ho := hii ho;clear ho HVA ua;subst ea
   cases hq : p o with
   | true =>
    rw [hq] at hcall;have Hq := hii hq;clear hq;go_wp2_with (go_at_fn g; refine hcall.mono ?_; rintro e v2 ⟨rfl, hb⟩);have hbw := bu hbw hb;go_ret;exact ⟨by rw [idxR_hit Ho.out Hq.out HN.out]; rfl, hbw⟩
   | false =>
    rw [hq] at hcall;have Hq := hii hq;clear hq;go_wp2_with (go_at_fn g; refine hcall.mono ?_; rintro e v2 ⟨rfl, hb⟩);have hE := hE.mono hb;have hbw := bu hbw hb;go_roundw
    case rel =>
     refine ⟨k + 1, by omega, by go_num, hii fun x hx => ?_, hE, hbw⟩;rw [List.take_add_one, Ho.out] at hx;rcases List.mem_append.1 hx with h | h
     ·exact HN.out x h
     ·simp at h; subst h; exact Hq.out
    case measure => simp [intOf]; omega
  ·obtain rfl : k = l.length := by omega
   go_wp2;go_ret;exact ⟨by rw [idxR_miss (fun x hx => HN.out x (by rw [List.take_length]; exact hx))]; rfl, hbw⟩
theorem ContainsFunc_r (g : Nat) (lb : Array Value) (p : List Qo → Bool) (eg : ∀ args w, (callFunc g args).run Tryz.prog w = .ok (.enter g args) w) (l : List (List Qo)) (aa : Option Addr) (ca : Nat) (w : World) (hl : l.length ≤ 1000000000) (ua : UM w aa l) (hE : Env w) (hp : TellsR g lb p l w) :
  Calls Tryz.prog 79 #[.slice aa l.length ca, .func (.func g) #[] lb] w fun e w' => e = .returned (.bool (l.any p)) ∧ Below w.heap.size w w' := by
 have hC := IndexFunc_r g lb p eg l aa ca w hl ua hE hp;rw [← idxR_any];generalize idxR p l = i at hC ⊢;clear ua hp eg;go_enter Tryz.func79, Tryz.ntmps79;go_wp2_with fail;(with_reducible refine hC.mono ?_);rintro e v2 ⟨rfl, hb⟩;go_wp2
 all_goals go_ret
 all_goals exact ⟨by simp_all, hb⟩
theorem svalid1_any (ar : Option Addr) (n cr m g : Nat) (w : World) (hc : w.cell? ⟨g, 0, none⟩ = some (.int .i64 m)) :
  Calls Tryz.prog 80 #[.slice ar n cr, .pointer (some ⟨g, 0, none⟩)] w fun e w' => e = .returned (.bool (n != m)) ∧ Below w.heap.size w w' := by
 have hbw := Below.refl w.heap.size w
 by_cases hnm : n = m
 ·subst hnm;go_enter Tryz.func80, Tryz.ntmps80;go_wp2;go_ret;exact ⟨by simp, hbw⟩
 ·have h1 : ((n : Int) != (m : Int)) = true := by rw [bne_iff_ne]; omega
  have h2 : (n != m) = true := by rw [bne_iff_ne]; exact hnm
  rw [h2];go_enter Tryz.func80, Tryz.ntmps80;go_wp2;go_ret;exact ⟨by simp [h1], hbw⟩
def OwnS (w : World) (B : Nat) (v : Value) (xs : List Value) : Prop := w.ownsRow B 27 1 v xs.length xs
theorem OwnS.mono {w w' : World} {B : Nat} {v : Value} {xs : List Value} (h : OwnS w B v xs) (hb : Below w.heap.size w w') : OwnS w' B v xs := ownsRow_below h hb
theorem Tryz.info27 : (Tryz.prog.info? 27).map (fun i => (i.zero, i.size, i.bytes)) = some (some (.slice none 0 0), 1, 24) := by kernel_rfl
theorem run_app_s (w W : World) (ty : TypeId) (B : Nat) (v : Value) (xs ys : List Value) (b off c : Nat) (hown : OwnS w B v xs) (hB : B ≤ w.heap.size) (hb : Below B W w)
  (hy : ∀ j u, ys[j]? = some u → w.cell? ⟨b, off + j, none⟩ = some u) (h1 : ∀ u ∈ ys, u.oneCell' = true) (hl : xs.length + ys.length ≤ 1000000) :
  ∃ v' w', (Builtin.append_ #[26, 26] ty #[v, .slice (some ⟨b, off, none⟩) ys.length c]).run Tryz.prog w = .ok v' w' ∧ OwnS w' B v' (xs ++ ys) ∧ Below B W w' ∧ w.heap.size ≤ w'.heap.size := by
 obtain ⟨i0, hi, hz0, hz1, hz2⟩ := info_parts Tryz.info27;obtain ⟨v', w', hr, h3, h4, h5⟩ := run_append_own (P := Tryz.prog) w B 26 ty 27 i0 (.slice none 0 0) i0.size i0.bytes Tryz.underlying26 hi hz0 rfl rfl (by rw [hz1]; rfl) (by rw [hz1]; decide) v xs.length xs (by rw [hz1]; exact hown) ⟨b, off, none⟩ ys.length c ys (by rw [hz1]; omega)
  (by
   intro j u hj;have := hy j u hj;have ha : (⟨b, off, none⟩ : Addr).add j = ⟨b, off + j, none⟩ := by
    unfold Addr.add; split
    ·subst j; rfl
    ·rfl
   rw [ha]; exact this)
  h1 (by unfold maxLen; omega) (by rw [hz2]; omega) hB
 refine ⟨v', w', hr, ?_, hb.grown h4 hB fun k hk => (hown.lt k hk).1, h4.size⟩;unfold OwnS;rw [List.length_append]; rw [hz1] at h3; exact h3
end Go.Proofs.YtgfpbghgpdpepaaGreatDoor
