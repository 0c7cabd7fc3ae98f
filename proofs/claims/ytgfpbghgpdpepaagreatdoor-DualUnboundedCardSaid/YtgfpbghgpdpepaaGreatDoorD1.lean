/-
  What the checks of chapter 14 return, as functions of the numbers.
-/
import Derived.Test.YtgfpbghgpdpepaaGreatDoorPY
import Derived.Test.YtgfpbghgpdpepaaGreatDoorOQ
set_option linter.unusedVariables false
set_option linter.unusedSimpArgs false
set_option maxRecDepth 100000
set_option maxHeartbeats 25600000
namespace Go.Proofs.YtgfpbghgpdpepaaGreatDoor
open Go.RowKit
abbrev Qo := Option Rat
def shortB (r : Rat) : Bool := decide ((Lib.decDigits r.num.natAbs).length ≤ 20) && decide ((Lib.decDigits r.den).length ≤ 20)
def badQ (l : List Qo) : Bool := l.any (·.isNone)
def longO : Qo → Bool
 | some r => !shortB r
 | none => false
def longQ (l : List Qo) : Bool := l.any longO
def numErr (l : List Qo) : Nat := if badQ l then 1 else if longQ l then 3 else 0
def negO : Qo → Bool
 | some r => decide (r.num < 0)
 | none => false
def negQ (l : List Qo) : Bool := l.any negO
def valO : Qo → Rat
 | some r => r
 | none => 0
def valsQ (l : List Qo) : List Rat := l.map valO
theorem vals_some {l : List Qo} (h : badQ l = false) : (valsQ l).map some = l := by
 unfold valsQ;rw [List.map_map];refine (List.map_congr_left fun o ho => ?_).trans (List.map_id l);unfold badQ at h;rw [List.any_eq_false] at h;have := h o ho
 cases o with
 | none => simp at this
 | some r => rfl
structure Prg where
 A : List (List Qo)
 B : List Qo
 C : List Qo
def Prg.all (p : Prg) : List Qo := p.A.flatten ++ p.B ++ p.C
def Prg.err (p : Prg) : Nat :=
 if p.B.length < 1 ∨ 14 < p.B.length ∨ p.C.length < 1 ∨ 400 < p.C.length ∨ p.A.length ≠ p.B.length then 6
 else if p.A.any (fun r => r.length != p.C.length) then 6
 else if numErr p.all ≠ 0 then numErr p.all
 else if negQ p.B then 7 else 0
open Classical in
noncomputable def dotO (la lb : List Rat) : Option Rat := Classical.choose (dotS_ex la lb 0)
theorem dotO_spec (la lb : List Rat) : DotS 0 la lb (dotO la lb) := Classical.choose_spec (dotS_ex la lb 0)
open Classical in
noncomputable def agn (a x : List Rat) (b : Rat) : Nat × Int := match dotO a x with
 | none => (3, 0)
 | some s => if CrS s b then (0, Rq.cmpQ s b) else (3, 0)
noncomputable def rowsErr : List (List Rat) → List Rat → List Rat → Nat
 | r :: A, b :: B, x => if (agn r x b).1 ≠ 0 then (agn r x b).1 else if 0 < (agn r x b).2 then 12 else rowsErr A B x
 | _, _, _ => 0
def colR (A : List (List Rat)) (k : Nat) : List Rat := A.map fun r => r.getD k 0
noncomputable def colsErr (A : List (List Rat)) (y : List Rat) : Nat → List Rat → Nat
 | k, c :: C => if (agn (colR A k) y c).1 ≠ 0 then (agn (colR A k) y c).1 else if (agn (colR A k) y c).2 < 0 then 12 else colsErr A y (k + 1) C
 | _, [] => 0
noncomputable def solErr (A : List (List Rat)) (B x : List Rat) : Nat := if x.any (fun r => decide (r.num < 0)) then 12 else rowsErr A B x
noncomputable def priErr (A : List (List Rat)) (C y : List Rat) : Nat := if y.any (fun r => decide (r.num < 0)) then 12 else colsErr A y 0 C
noncomputable def chkErr (p : Prg) (x y : List Qo) : Nat :=
 if p.err ≠ 0 then p.err
 else if x.length ≠ p.C.length ∨ y.length ≠ p.B.length then 6
 else if badQ x ∨ badQ y then 1
 else if solErr (p.A.map valsQ) (valsQ p.B) (valsQ x) ≠ 0 then solErr (p.A.map valsQ) (valsQ p.B) (valsQ x)
 else priErr (p.A.map valsQ) (valsQ p.C) (valsQ y)
def UM (w : World) (ao : Option Addr) (rows : List (List Qo)) : Prop :=
 ∀ i row, rows[i]? = some row → ∃ b off ar cr, ao = some ⟨b, off, none⟩ ∧ w.cell? ⟨b, off + i, none⟩ = some (.slice ar row.length cr) ∧ UQ w ar row
theorem UM.mono {w w' : World} {ao : Option Addr} {l : List (List Qo)} (h : UM w ao l) (hb : Below w.heap.size w w') : UM w' ao l := by
 intro i row hi;obtain ⟨b, off, ar, cr, e, hc, hq⟩ := h i row hi;exact ⟨b, off, ar, cr, e, (hb.cell (cell_lt hc)).trans hc, hq.mono hb⟩
theorem UM.nil (w : World) (ao : Option Addr) : UM w ao [] := fun i o h => by simp at h
def PrgV (w : World) (v : Value) (p : Prg) : Prop :=
 ∃ aA cA aB cB aC cC, v = .agg #[.slice aA p.A.length cA, .slice aB p.B.length cB, .slice aC p.C.length cC] ∧ UM w aA p.A ∧ UQ w aB p.B ∧ UQ w aC p.C
theorem PrgV.mono {w w' : World} {v : Value} {p : Prg} (h : PrgV w v p) (hb : Below w.heap.size w w') : PrgV w' v p := by
 obtain ⟨aA, cA, aB, cB, aC, cC, e, h1, h2, h3⟩ := h;exact ⟨aA, cA, aB, cB, aC, cC, e, h1.mono hb, h2.mono hb, h3.mono hb⟩
end Go.Proofs.YtgfpbghgpdpepaaGreatDoor
namespace Go.Proofs.YtgfpbghgpdpepaaGreatDoor
open Go.RowKit
theorem sgnI_neg (z : Int) : decide (sgnI z < 0) = decide (z < 0) := by
 unfold sgnI
 split
 ·next h => subst h; rfl
 ·split
  ·next h => simp [h]
  ·next h => simp [h]
theorem dneg_any (v : Value) (r : Rat) (w : World) (h : RatV w v r) (hE : Env w) :
  Calls Tryz.prog 69 #[v] w fun e w' => e = .returned (.bool (decide (r.num < 0))) ∧ Below w.heap.size w w' := by
 rw [← sgnI_neg];obtain ⟨s, hs⟩ : ∃ s, sgnI r.num = s := ⟨_, rfl⟩;rw [hs];have Hs := hii hs;clear hs;have hbw := Below.refl w.heap.size w;obtain ⟨ng1, ao1, n1, cap1, ng2, ao2, n2, cap2, rfl, h1, h2⟩ := h;have HV1 := hii h1;clear h1 h2;go_enter Tryz.func69, Tryz.ntmps69;go_upto_region 1 with fail;have X1 := Box4.new w (.bool ng1) (.slice ao1 n1 cap1) (.bool ng2) (.slice ao2 n2 cap2) 34;have hb := bA w (.cells #[.bool ng1, .slice ao1 n1 cap1, .bool ng2, .slice ao2 n2 cap2] 34);generalize w.alloc (.cells #[.bool ng1, .slice ao1 n1 cap1, .bool ng2, .slice ao2 n2 cap2] 34) = v1 at *;have HV1 := hup HV1 hb;have hE := hE.mono hb;have hbw := bu hbw hb;clear hb;obtain ⟨x1a, x1b, x1c, x1d, _, _, _, _⟩ := id X1;go_wp2_with fail;(with_reducible refine (Sign_eq _ r.num s v1 Hs HV1.out hE).mono ?_);rintro e v2 ⟨rfl, hb⟩;have hbw := bu hbw hb;clear hb x1a x1b x1c x1d;go_wp2
 all_goals go_ret
 all_goals exact ⟨by simp_all, hbw⟩
theorem dwrong_any (v : Value) (b : Bool) (w : World) (h : VQ w v b) (hE : Env w) :
  Calls Tryz.prog 52 #[v] w fun e w' => e = .returned (.bool !b) ∧ Below w.heap.size w w' := by
 have hbw := Below.refl w.heap.size w;obtain ⟨ng1, ao1, n1, cap1, ng2, ao2, n2, cap2, rfl⟩ := h.parts;go_enter Tryz.func52, Tryz.ntmps52;go_upto_region 1 with fail;have X1 := Box4.new w (.bool ng1) (.slice ao1 n1 cap1) (.bool ng2) (.slice ao2 n2 cap2) 34;have hb := bA w (.cells #[.bool ng1, .slice ao1 n1 cap1, .bool ng2, .slice ao2 n2 cap2] 34);generalize w.alloc (.cells #[.bool ng1, .slice ao1 n1 cap1, .bool ng2, .slice ao2 n2 cap2] 34) = v1 at *;have h := h.mono hb;have hE := hE.mono hb;have hbw := bu hbw hb;clear hb;obtain ⟨x1a, x1b, x1c, x1d, _, _, _, _⟩ := id X1;go_wp2_with fail;(with_reducible refine (Valid_v _ b v1 h hE).mono ?_);rintro e v2 ⟨rfl, hb⟩;have hbw := bu hbw hb;clear hb x1a x1b x1c x1d;go_wp2
 all_goals go_ret
 all_goals exact ⟨by simp_all, hbw⟩
def Tells (g : Nat) (lb : Array Value) (p : Qo → Bool) (l : List Qo) (w : World) : Prop :=
 ∀ (o : Qo) (v : Value) (W : World), o ∈ l → QV W v o → Env W → Below w.heap.size w W → Calls Tryz.prog g (#[v] ++ lb) W fun e W' => e = .returned (.bool (p o)) ∧ Below W.heap.size W W'
def idxQ (p : Qo → Bool) (l : List Qo) : Int := match l.findIdx? p with
 | some i => i
 | none => -1
theorem idxQ_hit {p : Qo → Bool} {l : List Qo} {k : Nat} {o : Qo} (hk : l[k]? = some o) (ho : p o = true) (h : ∀ x ∈ l.take k, p x = false) : idxQ p l = k := by
 have : l.findIdx? p = some k := by
  rw [List.findIdx?_eq_some_iff_getElem];have hl : k < l.length := by
   rcases Nat.lt_or_ge k l.length with h | h
   ·exact h
   ·rw [List.getElem?_eq_none h] at hk; cases hk
  refine ⟨hl, by rw [gE hl] at hk; cases hk; exact ho, fun j hj => ?_⟩;have := h (l[j]'(by omega)) (List.mem_take_iff_getElem.2 ⟨j, by omega, rfl⟩);simp [this]
 unfold idxQ;rw [this]
theorem idxQ_miss {p : Qo → Bool} {l : List Qo} (h : ∀ x ∈ l, p x = false) : idxQ p l = -1 := by
 have : l.findIdx? p = none := by rw [List.findIdx?_eq_none_iff]; exact h
 unfold idxQ;rw [this]
theorem idxQ_any (p : Qo → Bool) (l : List Qo) : decide (0 ≤ idxQ p l) = l.any p := by
 cases h : l.any p with
 | false =>
  rw [List.any_eq_false] at h;rw [idxQ_miss (fun x hx => by have := h x hx; simpa using this)]; rfl
 | true =>
  have : (l.findIdx? p).isSome := by rw [List.findIdx?_isSome]; exact h
  unfold idxQ
  cases hf : l.findIdx? p with
  | none => rw [hf] at this; cases this
  | some i => simp
theorem IndexFunc_q (g : Nat) (lb : Array Value) (p : Qo → Bool) (eg : ∀ args w, (callFunc g args).run Tryz.prog w = .ok (.enter g args) w) (l : List Qo) (aa : Option Addr) (ca : Nat) (w : World) (hl : l.length ≤ 1000000000) (ua : UQ w aa l) (hE : Env w) (hp : Tells g lb p l w) :
  Calls Tryz.prog 126 #[.slice aa l.length ca, .func (.func g) #[] lb] w fun e w' => e = .returned (.int .i64 (idxQ p l)) ∧ Below w.heap.size w w' := by
 have hbw := Below.refl w.heap.size w;have hp := hii hp;go_enter Tryz.func126, Tryz.ntmps126;go_wp2_with fail;go_loopw [8] (fun s wr => ∃ k : Nat, k ≤ l.length ∧ s = .int .i64 k ∧ Hid (∀ x ∈ l.take k, p x = false) ∧ Env wr ∧ Below w.heap.size w wr) (fun s _ => l.length - (intOf s).toNat)
 case atStart => exact ⟨0, Nat.zero_le _, rfl, hii (by simp), hE, hbw⟩
 case round =>
  clear hE hbw;obtain ⟨k, hk, rfl, HN, hE, hbw⟩ := hrel
  by_cases hlt : k < l.length
  ·obtain ⟨o, ho⟩ : ∃ x, l[k]? = some x := ⟨l[k], gE hlt⟩;obtain ⟨b1, off1, ngp, aop, np, capp, ngq, aoq, nq, capq, ea, FA, HVA⟩ := (ua.mono hbw) k o ho;have hcall := hp.out o _ wr (List.mem_of_getElem? ho) HVA hE hbw;have Ho := hii ho;clear ho HVA ua;subst ea;obtain ⟨cFA_0, cFA_1, cFA_2, cFA_3, _, _, _, _⟩ := id FA
   cases hq : p o with
   | true =>
    rw [hq] at hcall;have Hq := hii hq;clear hq;go_wp2_with (go_at_fn g; refine hcall.mono ?_; rintro e v2 ⟨rfl, hb⟩);have hbw := bu hbw hb;go_ret;exact ⟨by rw [idxQ_hit Ho.out Hq.out HN.out]; rfl, hbw⟩
   | false =>
    rw [hq] at hcall;have Hq := hii hq;clear hq;go_wp2_with (go_at_fn g; refine hcall.mono ?_; rintro e v2 ⟨rfl, hb⟩);have hE := hE.mono hb;have hbw := bu hbw hb;go_roundw
    case rel =>
     refine ⟨k + 1, by omega, by go_num, hii fun x hx => ?_, hE, hbw⟩;rw [List.take_add_one, Ho.out] at hx;rcases List.mem_append.1 hx with h | h
     ·exact HN.out x h
     ·simp at h; subst h; exact Hq.out
    case measure => simp [intOf]; omega
  ·obtain rfl : k = l.length := by omega
   go_wp2;go_ret;exact ⟨by rw [idxQ_miss (fun x hx => HN.out x (by rw [List.take_length]; exact hx))]; rfl, hbw⟩
theorem ContainsFunc_q (g : Nat) (lb : Array Value) (p : Qo → Bool) (eg : ∀ args w, (callFunc g args).run Tryz.prog w = .ok (.enter g args) w) (l : List Qo) (aa : Option Addr) (ca : Nat) (w : World) (hl : l.length ≤ 1000000000) (ua : UQ w aa l) (hE : Env w) (hp : Tells g lb p l w) :
  Calls Tryz.prog 68 #[.slice aa l.length ca, .func (.func g) #[] lb] w fun e w' => e = .returned (.bool (l.any p)) ∧ Below w.heap.size w w' := by
 have hC := IndexFunc_q g lb p eg l aa ca w hl ua hE hp;rw [← idxQ_any];generalize idxQ p l = i at hC ⊢;clear ua hp eg;go_enter Tryz.func68, Tryz.ntmps68;go_wp2_with fail;(with_reducible refine hC.mono ?_);rintro e v2 ⟨rfl, hb⟩;go_wp2
 all_goals go_ret
 all_goals exact ⟨by simp_all, hb⟩
end Go.Proofs.YtgfpbghgpdpepaaGreatDoor
