import Derived.Test.YtgenhkakcbedaaaGreatDoorFlow4
import Derived.Test.YtgenhkakcbedaaaGreatDoorQB
import Derived.Test.YtgenhkakcbedaaaGreatDoorQ7
namespace Go.Proofs.YtgenhkakcbedaaaGreatDoor
open Go.RowKit

/-- a fraction that is read: its value, or none where it is not valid -/
def QV (w : World) (v : Value) : Option Rat → Prop
  | some r => RatV w v r
  | none => VQ w v false

theorem QV.mono {w w' : World} {v : Value} {o : Option Rat} (h : QV w v o) (hb : Below w.heap.size w w') : QV w' v o := by
  cases o
  · exact VQ.mono h hb
  · exact RatV.mono h hb

theorem QV.parts {w : World} {v : Value} {o : Option Rat} (h : QV w v o) : ∃ (ng : Bool) (ao : Option Addr) (n cap : Nat) (ng2 : Bool) (ao2 : Option Addr) (n2 cap2 : Nat), v = .agg #[.bool ng, .slice ao n cap, .bool ng2, .slice ao2 n2 cap2] := by
  cases o
  · exact VQ.parts h
  · exact RatV.parts h

theorem QV.vq {w : World} {v : Value} {o : Option Rat} (h : QV w v o) : VQ w v o.isSome := by
  cases o
  · exact h
  · exact RatV.vq h

/-- four cells of a row -/
structure Four (w : World) (b o : Nat) (x0 x1 x2 x3 : Value) : Prop where
  c0 : w.cell? ⟨b, o, none⟩ = some x0
  c1 : w.cell? ⟨b, o + 1, none⟩ = some x1
  c2 : w.cell? ⟨b, o + 2, none⟩ = some x2
  c3 : w.cell? ⟨b, o + 3, none⟩ = some x3
  f0 : True
  f1 : True
  f2 : True
  f3 : True

theorem Four.lt {w : World} {b o : Nat} {x0 x1 x2 x3 : Value} (h : Four w b o x0 x1 x2 x3) : b < w.heap.size := cell_lt h.c0

theorem Four.mono {w w' : World} {b o : Nat} {x0 x1 x2 x3 : Value} (h : Four w b o x0 x1 x2 x3) (hb : Below w.heap.size w w') : Four w' b o x0 x1 x2 x3 :=
  ⟨(hb.cell (p := ⟨b, o, none⟩) h.lt).trans h.c0, (hb.cell (p := ⟨b, o + 1, none⟩) h.lt).trans h.c1, (hb.cell (p := ⟨b, o + 2, none⟩) h.lt).trans h.c2, (hb.cell (p := ⟨b, o + 3, none⟩) h.lt).trans h.c3, trivial, trivial, trivial, trivial⟩

theorem S8 {wx W : World} {n m o p : Nat} {x0 x1 x2 x3 y0 y1 y2 y3 : Value} (B1 : Four wx n o x0 x1 x2 x3) (B2 : Four wx m p y0 y1 y2 y3) (h : Below wx.heap.size wx W) :
    W.cell? ⟨n, o, none⟩ = some x0 ∧ W.cell? ⟨n, o + 1, none⟩ = some x1 ∧ W.cell? ⟨n, o + 2, none⟩ = some x2 ∧ W.cell? ⟨n, o + 3, none⟩ = some x3 ∧
    W.cell? ⟨m, p, none⟩ = some y0 ∧ W.cell? ⟨m, p + 1, none⟩ = some y1 ∧ W.cell? ⟨m, p + 2, none⟩ = some y2 ∧ W.cell? ⟨m, p + 3, none⟩ = some y3 :=
  ⟨(B1.mono h).c0, (B1.mono h).c1, (B1.mono h).c2, (B1.mono h).c3, (B2.mono h).c0, (B2.mono h).c1, (B2.mono h).c2, (B2.mono h).c3⟩

/-- a slice of fractions -/
def UQ (w : World) (ao : Option Addr) (l : List (Option Rat)) : Prop :=
  ∀ i o, l[i]? = some o → ∃ (b off : Nat) (n1 : Bool) (a1 : Option Addr) (l1 c1 : Nat) (n2 : Bool) (a2 : Option Addr) (l2 c2 : Nat), ao = some ⟨b, off, none⟩ ∧
    Four w b (off + i * 4) (.bool n1) (.slice a1 l1 c1) (.bool n2) (.slice a2 l2 c2) ∧
    QV w (.agg #[.bool n1, .slice a1 l1 c1, .bool n2, .slice a2 l2 c2]) o

theorem UQ.mono {w w' : World} {ao : Option Addr} {l : List (Option Rat)} (h : UQ w ao l) (hb : Below w.heap.size w w') : UQ w' ao l := by
  intro i o hi
  obtain ⟨b, off, n1, a1, l1, c1, n2, a2, l2, c2, e, h0, hq⟩ := h i o hi
  exact ⟨b, off, n1, a1, l1, c1, n2, a2, l2, c2, e, h0.mono hb, hq.mono hb⟩

theorem UQ.nil (w : World) (ao : Option Addr) : UQ w ao [] := fun i o h => by simp at h

/-- the product sum: o is the value, or none where a step is too large -/
def DotS : Rat → List Rat → List Rat → Option Rat → Prop
  | acc, a :: l, b :: m, o => (MulS a b ∧ AddS acc (a * b) ∧ DotS (acc + a * b) l m o) ∨ (¬ (MulS a b ∧ AddS acc (a * b)) ∧ o = none)
  | acc, _, _, o => o = some acc

theorem dotS_ex : ∀ (la lb : List Rat) (acc : Rat), ∃ o, DotS acc la lb o
  | [], _, acc => ⟨some acc, rfl⟩
  | _ :: _, [], acc => ⟨some acc, rfl⟩
  | a :: l, b :: m, acc => by
    by_cases h : MulS a b ∧ AddS acc (a * b)
    · obtain ⟨o, ho⟩ := dotS_ex l m (acc + a * b)
      exact ⟨o, .inl ⟨h.1, h.2, ho⟩⟩
    · exact ⟨none, .inr ⟨h, rfl⟩⟩

def DotP (o : Option Rat) (w' : World) (e : Ending) : Prop :=
  match o with
  | some r => GotQ w' r e
  | none => NoQ 3 e

theorem DotP.got {w' : World} {e : Ending} {r : Rat} {o : Option Rat} (ho : Hid (o = some r)) (h : GotQ w' r e) : DotP o w' e := by rw [ho.out]; exact h
theorem DotP.no {w' : World} {e : Ending} {o : Option Rat} (ho : Hid (o = none)) (h : NoQ 3 e) : DotP o w' e := by rw [ho.out]; exact h

theorem drop_at {α : Type} {l : List α} {k : Nat} {a : α} (h : l[k]? = some a) : l.drop k = a :: l.drop (k + 1) := by
  obtain ⟨hk, rfl⟩ := List.getElem?_eq_some_iff.1 h
  exact List.drop_eq_getElem_cons hk

theorem Box4.put4I {w : World} {n : Nat} {x0 x1 x2 x3 : Value} (h : Box4 w n x0 x1 x2 x3) (y0 y1 y2 y3 : Value) : Box4 ((((w.setCell ⟨n, 0, none⟩ y0).setCell ⟨n, 1, none⟩ y1).setCell ⟨n, 2, none⟩ y2).setCell ⟨n, 3, none⟩ y3) n y0 y1 y2 y3 := h.set4Z y0 y1 y2 y3

/-- the fraction r and no error -/
def TupQ4 (r : Rat) (W : World) (v : Value) : Prop := ∃ a, v = .tuple #[a, .int .i64 0] ∧ RatV W a r
theorem stay4_tupQ4 (r : Rat) : Stay4 (TupQ4 r) := ⟨fun ⟨a, e, h⟩ hb => ⟨a, e, h.mono hb⟩, fun ⟨a, e, h⟩ hB => ⟨a, e, h.put4N hB _ _ _ _⟩⟩
/-- the very value -/
def IsV4 (u : Value) (_ : World) (v : Value) : Prop := v = u
theorem stay4_isV (u : Value) : Stay4 (IsV4 u) := ⟨fun h _ => h, fun h _ => h⟩
theorem IsV4.parts {W : World} {v : Value} (h : IsV4 (.agg #[.bool false, .slice none 0 0, .bool false, .slice none 0 0]) W v) : ∃ (ng : Bool) (ao : Option Addr) (n cap : Nat) (ng2 : Bool) (ao2 : Option Addr) (n2 cap2 : Nat), v = .agg #[.bool ng, .slice ao n cap, .bool ng2, .slice ao2 n2 cap2] := ⟨_, _, _, _, _, _, _, _, h⟩

/-- a new box of the fraction r -/
def BoxQ4 (wc : World) (base : Nat) (s : Value) (r : Rat) : Prop :=
  ∃ (g : Nat) (n1 : Bool) (a1 : Option Addr) (l1 c1 : Nat) (n2 : Bool) (a2 : Option Addr) (l2 c2 : Nat), s = .pointer (some ⟨g, 0, none⟩) ∧ base ≤ g ∧ Box4 wc g (.bool n1) (.slice a1 l1 c1) (.bool n2) (.slice a2 l2 c2) ∧
    Hid (IntV wc (.agg #[.bool n1, .slice a1 l1 c1]) r.num) ∧ Hid (IntV wc (.agg #[.bool n2, .slice a2 l2 c2]) (r.den : Int))

theorem Slot4.boxF4 {W : World} {base : Nat} {st : Prop} {p : Value} {r : Rat} (h : Slot4 W base (fun W v => RatV W v r) st p) (hs : st) : BoxQ4 W base p r := by
  obtain ⟨g, n1, a1, l1, c1, n2, a2, l2, c2, e, hg, B, hr⟩ := h.at hs (fun _ h => ⟨r, h⟩)
  obtain ⟨m1, b1, k1, d1, m2, b2, k2, d2, e2, h1, h2⟩ := hr
  simp only [Value.agg.injEq, Array.mk.injEq, List.cons.injEq, Value.bool.injEq, Value.slice.injEq, and_true] at e2
  obtain ⟨rfl, ⟨rfl, rfl, rfl⟩, rfl, rfl, rfl, rfl⟩ := e2
  exact ⟨g, _, _, _, _, _, _, _, _, e, hg, B, Lib.hid h1, Lib.hid h2⟩

set_option maxRecDepth 100000 in
set_option maxHeartbeats 1600000 in
theorem Dot_arity {α β : Type} (la : List α) (lb : List β) (aa ab : Option Addr) (ca cb : Nat) (w : World) (hl : la.length ≠ lb.length) (hE : Env w) :
    Calls Tryz.prog 40 #[.slice aa la.length ca, .slice ab lb.length cb] w fun e w' => NoQ 6 e ∧ Below w.heap.size w w' := by
  have hE0 := hE
  have hbw := Below.refl w.heap.size w
  go_enter Tryz.func40, Tryz.ntmps40
  go_upto_region 1 with fail
  have X4 := Box4.new w (.bool false) (.slice none 0 0) (.bool false) (.slice none 0 0) 29
  have hb := below_alloc w (.cells #[.bool false, .slice none 0 0, .bool false, .slice none 0 0] 29)
  generalize w.alloc (.cells #[.bool false, .slice none 0 0, .bool false, .slice none 0 0] 29) = v1 at *
  have hE := hE.mono hb
  have hbw := Below.step hbw hb (Nat.le_refl _)
  clear hb
  have hne : ((la.length : Int) != lb.length) = true := by rw [bne_iff_ne]; omega
  obtain ⟨cX4_0, cX4_1, cX4_2, cX4_3, _, _, _, _⟩ := id X4
  go_wp2
  refine bodyPost_ret (v := .tuple #[.agg #[.bool false, .slice none 0 0, .bool false, .slice none 0 0], .int .i64 6]) (by simp [results, Tryz.results40, go_sem, cX4_0, cX4_1, cX4_2, cX4_3]) rfl ⟨rfl, Below.put4 hbw (by omega) (.bool false) (.slice none 0 0) (.bool false) (.slice none 0 0)⟩

set_option maxRecDepth 100000 in
set_option maxHeartbeats 6400000 in
theorem Dot_any (la lb : List Rat) (o : Option Rat) (aa ab : Option Addr) (ca cb : Nat) (w : World) (hm : la.length ≤ 1000000000) (hl : la.length = lb.length) (ua : UQ w aa (la.map some)) (ub : UQ w ab (lb.map some)) (hD : Hid (DotS 0 la lb o)) (hE : Env w) :
    Calls Tryz.prog 40 #[.slice aa la.length ca, .slice ab lb.length cb] w fun e w' => DotP o w' e ∧ Below w.heap.size w w' := by
  have hlb : lb.length ≤ 1000000000 := by omega
  have hne : ((la.length : Int) != lb.length) = false := by rw [bne_eq_false_iff_eq]; omega
  have hl1 : la.length ≤ lb.length := by omega
  have hl2 : lb.length ≤ la.length := by omega
  clear hl
  have hE0 := hE
  have hE00 := hE
  have hbw := Below.refl w.heap.size w
  go_enter Tryz.func40, Tryz.ntmps40
  go_upto_region 1 with fail
  have X4 := Box4.new w (.bool false) (.slice none 0 0) (.bool false) (.slice none 0 0) 29
  have hb := below_alloc w (.cells #[.bool false, .slice none 0 0, .bool false, .slice none 0 0] 29)
  generalize w.alloc (.cells #[.bool false, .slice none 0 0, .bool false, .slice none 0 0] 29) = v1 at *
  have hE := hE.mono hb
  have hbw := Below.step hbw hb (Nat.le_refl _)
  clear hb
  go_wp2_with fail
  go_loopw [19] (fun s wr => ∃ k : Nat, k ≤ la.length ∧ s = .int .i64 k ∧ Box4 wr w.heap.size (.bool false) (.slice none 0 0) (.bool false) (.slice none 0 0) ∧ Env wr ∧ Below w.heap.size w wr) (fun s _ => la.length - (intOf s).toNat)
  case atStart => exact ⟨0, Nat.zero_le _, rfl, X4, hE, hbw⟩
  case round =>
    clear X4 hE hbw
    obtain ⟨k, hk, rfl, X4, hE, hbw⟩ := hrel
    by_cases hlt : k < la.length
    · have hltb : k < lb.length := by omega
      obtain ⟨ra, hra⟩ : ∃ x, la[k]? = some x := ⟨la[k], List.getElem?_eq_getElem hlt⟩
      obtain ⟨rb, hrb⟩ : ∃ x, lb[k]? = some x := ⟨lb[k], List.getElem?_eq_getElem hltb⟩
      obtain ⟨b1, off1, ngp, aop, np, capp, ngq, aoq, nq, capq, ea, FA, HVA⟩ := (ua.mono hbw) k (some ra) (by simp [hra])
      obtain ⟨b2, off2, ngr, aor, nr, capr, ngs, aos, ns, caps, eb, FB, HVB⟩ := (ub.mono hbw) k (some rb) (by simp [hrb])
      have VA : VQ wr _ true := RatV.vq HVA
      have VB : VQ wr _ true := RatV.vq HVB
      clear hra hrb HVA HVB ua ub
      subst ea
      subst eb
      obtain ⟨cFA_0, cFA_1, cFA_2, cFA_3, _, _, _, _⟩ := id FA
      go_wp2_with fail
      (with_reducible refine (Valid_v _ true wr VA hE).mono ?_)
      rintro e v2 ⟨rfl, hb⟩
      have VA := VA.mono hb
      have VB := VB.mono hb
      have FA := FA.mono hb
      have FB := FB.mono hb
      have X4 := X4.mono hb
      have hE := hE.mono hb
      have hbw := Below.step hbw hb (Nat.le_refl _)
      clear hb
      clear cFA_0 cFA_1 cFA_2 cFA_3
      obtain ⟨cFB_0, cFB_1, cFB_2, cFB_3, _, _, _, _⟩ := id FB
      go_wp2_with fail
      (with_reducible refine (Valid_v _ true v2 VB hE).mono ?_)
      rintro e v3 ⟨rfl, hb⟩
      have VA := VA.mono hb
      have VB := VB.mono hb
      have FA := FA.mono hb
      have FB := FB.mono hb
      have X4 := X4.mono hb
      have hE := hE.mono hb
      have hbw := Below.step hbw hb (Nat.le_refl _)
      clear hb
      clear cFB_0 cFB_1 cFB_2 cFB_3
      go_wp2
      go_roundw
      case rel => exact ⟨k + 1, by omega, by go_num, X4, hE, hbw⟩
      case measure => simp [intOf]; omega
    · obtain rfl : k = la.length := by omega
      have hsz := hbw.size
      go_wp2_with fail
      (with_reducible refine (one_any wr hE).mono ?_)
      rintro e v2 ⟨⟨ngf, aof, nf, capf, rfl, HVf⟩, hb⟩
      have X4 := X4.mono hb
      have hE := hE.mono hb
      have hbw := Below.step hbw hb (Nat.le_refl _)
      clear hb
      go_upto_region 10 with fail
      have lX7X4 := X4.lt
      have X7 := Box4.new v2 (.bool false) (.slice none 0 0) (.bool ngf) (.slice aof nf capf) 29
      have hb := below_alloc v2 (.cells #[.bool false, .slice none 0 0, .bool ngf, .slice aof nf capf] 29)
      generalize v2.alloc (.cells #[.bool false, .slice none 0 0, .bool ngf, .slice aof nf capf] 29) = v3 at *
      have X4 := X4.mono hb
      have HVf := Lib.hid (HVf.out.mono hb)
      have hE := hE.mono hb
      have hbw := Below.step hbw hb (Nat.le_refl _)
      clear hb
      obtain ⟨nge, aoe, ne, cape, he1, he2, he3, he4⟩ : ∃ (ng : Bool) (ao : Option Addr) (n cap : Nat), ng = false ∧ ao = none ∧ n = 0 ∧ cap = 0 := ⟨_, _, _, _, rfl, rfl, rfl, rfl⟩
      have HVe : Hid (IntV v3 (.agg #[.bool false, .slice none 0 0]) 0) := Lib.hid (IntV.zero _)
      obtain ⟨g7, hg7⟩ : ∃ g, g = v2.heap.size := ⟨_, rfl⟩
      rw [← hg7] at X7 ⊢
      have lg7 : w.heap.size < g7 := by rw [hg7]; have := lX7X4; omega
      clear hg7
      clear lX7X4
      go_wp2_with fail
      go_loopw [42] (fun s wr => ∃ (k : Nat) (acc : Rat), k ≤ la.length ∧ s = .int .i64 k ∧ Hid (DotS acc (la.drop k) (lb.drop k) o) ∧ (∃ (n1 : Bool) (a1 : Option Addr) (l1 c1 : Nat) (n2 : Bool) (a2 : Option Addr) (l2 c2 : Nat), Box4 wr g7 (.bool n1) (.slice a1 l1 c1) (.bool n2) (.slice a2 l2 c2) ∧ Hid (IntV wr (.agg #[.bool n1, .slice a1 l1 c1]) acc.num) ∧ Hid (IntV wr (.agg #[.bool n2, .slice a2 l2 c2]) (acc.den : Int))) ∧ Box4 wr w.heap.size (.bool false) (.slice none 0 0) (.bool false) (.slice none 0 0) ∧ Env wr ∧ Below w.heap.size w wr) (fun s _ => la.length - (intOf s).toNat)
      case atStart => exact ⟨0, 0, Nat.zero_le _, rfl, hD, ⟨_, _, _, _, _, _, _, _, X7, HVe, HVf⟩, X4, hE, hbw⟩
      case round =>
        clear X4 X7 HVe HVf hE hbw hsz
        obtain ⟨k, acc, hk, rfl, HD, ⟨nge, aoe, ne, cape, ngf, aof, nf, capf, X7, HVe, HVf⟩, X4, hE, hbw⟩ := hrel
        by_cases hlt : k < la.length
        · have hltb : k < lb.length := by omega
          obtain ⟨ra, hra⟩ : ∃ x, la[k]? = some x := ⟨la[k], List.getElem?_eq_getElem hlt⟩
          obtain ⟨rb, hrb⟩ : ∃ x, lb[k]? = some x := ⟨lb[k], List.getElem?_eq_getElem hltb⟩
          have HD2 : Hid ((MulS ra rb ∧ AddS acc (ra * rb) ∧ DotS (acc + ra * rb) (la.drop (k + 1)) (lb.drop (k + 1)) o) ∨ (¬ (MulS ra rb ∧ AddS acc (ra * rb)) ∧ o = none)) := Lib.hid (by have h := HD.out; rw [drop_at hra, drop_at hrb] at h; exact h)
          obtain ⟨b1, off1, ngp, aop, np, capp, ngq, aoq, nq, capq, ea, FA, HA⟩ := (ua.mono hbw) k (some ra) (by simp [hra])
          obtain ⟨b2, off2, ngr, aor, nr, capr, ngs, aos, ns, caps, eb, FB, HB⟩ := (ub.mono hbw) k (some rb) (by simp [hrb])
          have HA : RatV wr _ ra := HA
          have HB : RatV wr _ rb := HB
          clear hra hrb ua ub HD
          subst ea
          subst eb
          by_cases hM : MulS ra rb
          · have HM := Lib.hid hM
            go_upto_region 13 with fail
            obtain ⟨wy, rfl⟩ : ∃ wy : World, wy = wr := ⟨_, rfl⟩
            go_cut [9, 10] (fun s9 s10 wc => BoxQ4 wc wy.heap.size s9 (ra * rb) ∧ s10 = .int .i64 0 ∧ Below wy.heap.size wy wc)
            case first =>
              refine wp_region_flow (fun L T W => Below wy.heap.size wy W ∧ (L 0 → T 46 = .slice (some ⟨b1, off1, none⟩) la.length ca) ∧ (L 1 → T 47 = .int .i64 k) ∧ (L 2 → T 48 = .pointer (some ⟨b1, off1 + k * 4, none⟩)) ∧ (L 3 → T 49 = .agg #[.bool ngp, .slice aop np capp, .bool ngq, .slice aoq nq capq]) ∧ (L 4 → T 50 = .slice (some ⟨b2, off2, none⟩) lb.length cb) ∧ (L 5 → T 51 = .int .i64 k) ∧ (L 6 → T 52 = .pointer (some ⟨b2, off2 + k * 4, none⟩)) ∧ (L 7 → T 53 = .agg #[.bool ngr, .slice aor nr capr, .bool ngs, .slice aos ns caps]) ∧ (L 8 → (TupQ4 (ra * rb)) W (T 54)) ∧ (L 9 → (TupQ4 (ra * rb)) W (T 45)) ∧ (L 10 → (fun W v => RatV W v (ra * rb)) W (T 55)) ∧ (L 11 → T 56 = .int .i64 0) ∧ (L 12 → Slot4 W wy.heap.size (fun W v => RatV W v (ra * rb)) (L 13) (T 9)) ∧ (L 14 → T 10 = .int .i64 0) ∧ (L 13 → L 12)) [46, 47, 48, 49, 50, 51, 52, 53, 54, 45, 55, 56, 9, 10] (by kernel_rfl) (by kernel_rfl) (by kernel_rfl) ?h0 ⟨?s0, ?s1, ?s2, ?s3, ?s4, ?s5, ?s6, ?s7, ?s8, ?s9, ?s10, ?s11, ?s12, ?s13, ?s14, trivial⟩ ?he ?hm
              case h0 => exact fun T => ⟨(Below.refl _ _).drew, fun h => h.elim, fun h => h.elim, fun h => h.elim, fun h => h.elim, fun h => h.elim, fun h => h.elim, fun h => h.elim, fun h => h.elim, fun h => h.elim, fun h => h.elim, fun h => h.elim, fun h => h.elim, fun h => h.elim, fun h => h.elim, fun h => h.elim⟩
              case hm =>
                rintro L T W hL ⟨hb, f0, f1, f2, f3, f4, f5, f6, f7, f8, f9, f10, f11, f12, f14, c12⟩
                exact ⟨hb, fun _ => f0 (hL _ (by decide)), fun _ => f1 (hL _ (by decide)), fun _ => f2 (hL _ (by decide)), fun _ => f3 (hL _ (by decide)), fun _ => f4 (hL _ (by decide)), fun _ => f5 (hL _ (by decide)), fun _ => f6 (hL _ (by decide)), fun _ => f7 (hL _ (by decide)), fun _ => f8 (hL _ (by decide)), fun _ => f9 (hL _ (by decide)), fun _ => f10 (hL _ (by decide)), fun _ => f11 (hL _ (by decide)), fun _ => (f12 (hL _ (by decide))).congr ⟨fun _ => by decide, fun _ => hL _ (by decide)⟩, fun _ => f14 (hL _ (by decide)), fun _ => by decide⟩
              case s0 =>
                rintro L T W hd hn hJ K hK
                have HJ := Lib.hid hJ
                clear hJ
                have hb := HJ.out.1
                simp only [ovr, Act.put, List.setIfInBounds_toArray, List.set_cons_zero, List.set_cons_succ] at hK ⊢
                have HK := Lib.hid hK
                clear hK
                refine wpOp_want rfl rfl ?_
                go_simp
                obtain ⟨hb, f0, f1, f2, f3, f4, f5, f6, f7, f8, f9, f10, f11, f12, f14, c12⟩ := HJ.out
                exact HK.out _ _ ⟨hb, fun _ => rfl, fun h => f1 (h.resolve_left (by decide)), fun h => f2 (h.resolve_left (by decide)), fun h => f3 (h.resolve_left (by decide)), fun h => f4 (h.resolve_left (by decide)), fun h => f5 (h.resolve_left (by decide)), fun h => f6 (h.resolve_left (by decide)), fun h => f7 (h.resolve_left (by decide)), fun h => f8 (h.resolve_left (by decide)), fun h => f9 (h.resolve_left (by decide)), fun h => f10 (h.resolve_left (by decide)), fun h => f11 (h.resolve_left (by decide)), fun h => ((f12 (h.resolve_left (by decide)))).congr ⟨fun h => .inr h, fun h => h.resolve_left (by decide)⟩, fun h => f14 (h.resolve_left (by decide)), fun h => .inr (c12 (h.resolve_left (by decide)))⟩
              case s1 =>
                rintro L T W hd hn hJ K hK
                have HJ := Lib.hid hJ
                clear hJ
                have hb := HJ.out.1
                simp only [ovr, Act.put, List.setIfInBounds_toArray, List.set_cons_zero, List.set_cons_succ] at hK ⊢
                have HK := Lib.hid hK
                clear hK
                refine wpOp_want rfl rfl ?_
                go_simp
                obtain ⟨hb, f0, f1, f2, f3, f4, f5, f6, f7, f8, f9, f10, f11, f12, f14, c12⟩ := HJ.out
                exact HK.out _ _ ⟨hb, fun h => f0 (h.resolve_left (by decide)), fun _ => rfl, fun h => f2 (h.resolve_left (by decide)), fun h => f3 (h.resolve_left (by decide)), fun h => f4 (h.resolve_left (by decide)), fun h => f5 (h.resolve_left (by decide)), fun h => f6 (h.resolve_left (by decide)), fun h => f7 (h.resolve_left (by decide)), fun h => f8 (h.resolve_left (by decide)), fun h => f9 (h.resolve_left (by decide)), fun h => f10 (h.resolve_left (by decide)), fun h => f11 (h.resolve_left (by decide)), fun h => ((f12 (h.resolve_left (by decide)))).congr ⟨fun h => .inr h, fun h => h.resolve_left (by decide)⟩, fun h => f14 (h.resolve_left (by decide)), fun h => .inr (c12 (h.resolve_left (by decide)))⟩
              case s2 =>
                rintro L T W hd hn hJ K hK
                have HJ := Lib.hid hJ
                clear hJ
                have hb := HJ.out.1
                have e0 := HJ.out.2.1 hd.1
                have e1 := HJ.out.2.2.1 hd.2.1
                simp only [ovr, Act.put, List.setIfInBounds_toArray, List.set_cons_zero, List.set_cons_succ, e0, e1] at hK ⊢
                have HK := Lib.hid hK
                clear hK
                refine wpOp_want rfl rfl ?_
                go_simp
                obtain ⟨hb, f0, f1, f2, f3, f4, f5, f6, f7, f8, f9, f10, f11, f12, f14, c12⟩ := HJ.out
                exact HK.out _ _ ⟨hb, fun h => f0 (h.resolve_left (by decide)), fun h => f1 (h.resolve_left (by decide)), fun _ => rfl, fun h => f3 (h.resolve_left (by decide)), fun h => f4 (h.resolve_left (by decide)), fun h => f5 (h.resolve_left (by decide)), fun h => f6 (h.resolve_left (by decide)), fun h => f7 (h.resolve_left (by decide)), fun h => f8 (h.resolve_left (by decide)), fun h => f9 (h.resolve_left (by decide)), fun h => f10 (h.resolve_left (by decide)), fun h => f11 (h.resolve_left (by decide)), fun h => ((f12 (h.resolve_left (by decide)))).congr ⟨fun h => .inr h, fun h => h.resolve_left (by decide)⟩, fun h => f14 (h.resolve_left (by decide)), fun h => .inr (c12 (h.resolve_left (by decide)))⟩
              case s3 =>
                rintro L T W hd hn hJ K hK
                have HJ := Lib.hid hJ
                clear hJ
                have hb := HJ.out.1
                have e2 := HJ.out.2.2.2.1 hd.1
                simp only [ovr, Act.put, List.setIfInBounds_toArray, List.set_cons_zero, List.set_cons_succ, e2] at hK ⊢
                have HK := Lib.hid hK
                clear hK
                obtain ⟨c0, c1, c2, c3, c4, c5, c6, c7⟩ := (fun W => S8 (W := W) FA FB) W hb
                refine wpOp_want rfl rfl ?_
                go_simp
                obtain ⟨hb, f0, f1, f2, f3, f4, f5, f6, f7, f8, f9, f10, f11, f12, f14, c12⟩ := HJ.out
                exact HK.out _ _ ⟨hb, fun h => f0 (h.resolve_left (by decide)), fun h => f1 (h.resolve_left (by decide)), fun h => f2 (h.resolve_left (by decide)), fun _ => rfl, fun h => f4 (h.resolve_left (by decide)), fun h => f5 (h.resolve_left (by decide)), fun h => f6 (h.resolve_left (by decide)), fun h => f7 (h.resolve_left (by decide)), fun h => f8 (h.resolve_left (by decide)), fun h => f9 (h.resolve_left (by decide)), fun h => f10 (h.resolve_left (by decide)), fun h => f11 (h.resolve_left (by decide)), fun h => ((f12 (h.resolve_left (by decide)))).congr ⟨fun h => .inr h, fun h => h.resolve_left (by decide)⟩, fun h => f14 (h.resolve_left (by decide)), fun h => .inr (c12 (h.resolve_left (by decide)))⟩
              case s4 =>
                rintro L T W hd hn hJ K hK
                have HJ := Lib.hid hJ
                clear hJ
                have hb := HJ.out.1
                simp only [ovr, Act.put, List.setIfInBounds_toArray, List.set_cons_zero, List.set_cons_succ] at hK ⊢
                have HK := Lib.hid hK
                clear hK
                refine wpOp_want rfl rfl ?_
                go_simp
                obtain ⟨hb, f0, f1, f2, f3, f4, f5, f6, f7, f8, f9, f10, f11, f12, f14, c12⟩ := HJ.out
                exact HK.out _ _ ⟨hb, fun h => f0 (h.resolve_left (by decide)), fun h => f1 (h.resolve_left (by decide)), fun h => f2 (h.resolve_left (by decide)), fun h => f3 (h.resolve_left (by decide)), fun _ => rfl, fun h => f5 (h.resolve_left (by decide)), fun h => f6 (h.resolve_left (by decide)), fun h => f7 (h.resolve_left (by decide)), fun h => f8 (h.resolve_left (by decide)), fun h => f9 (h.resolve_left (by decide)), fun h => f10 (h.resolve_left (by decide)), fun h => f11 (h.resolve_left (by decide)), fun h => ((f12 (h.resolve_left (by decide)))).congr ⟨fun h => .inr h, fun h => h.resolve_left (by decide)⟩, fun h => f14 (h.resolve_left (by decide)), fun h => .inr (c12 (h.resolve_left (by decide)))⟩
              case s5 =>
                rintro L T W hd hn hJ K hK
                have HJ := Lib.hid hJ
                clear hJ
                have hb := HJ.out.1
                simp only [ovr, Act.put, List.setIfInBounds_toArray, List.set_cons_zero, List.set_cons_succ] at hK ⊢
                have HK := Lib.hid hK
                clear hK
                refine wpOp_want rfl rfl ?_
                go_simp
                obtain ⟨hb, f0, f1, f2, f3, f4, f5, f6, f7, f8, f9, f10, f11, f12, f14, c12⟩ := HJ.out
                exact HK.out _ _ ⟨hb, fun h => f0 (h.resolve_left (by decide)), fun h => f1 (h.resolve_left (by decide)), fun h => f2 (h.resolve_left (by decide)), fun h => f3 (h.resolve_left (by decide)), fun h => f4 (h.resolve_left (by decide)), fun _ => rfl, fun h => f6 (h.resolve_left (by decide)), fun h => f7 (h.resolve_left (by decide)), fun h => f8 (h.resolve_left (by decide)), fun h => f9 (h.resolve_left (by decide)), fun h => f10 (h.resolve_left (by decide)), fun h => f11 (h.resolve_left (by decide)), fun h => ((f12 (h.resolve_left (by decide)))).congr ⟨fun h => .inr h, fun h => h.resolve_left (by decide)⟩, fun h => f14 (h.resolve_left (by decide)), fun h => .inr (c12 (h.resolve_left (by decide)))⟩
              case s6 =>
                rintro L T W hd hn hJ K hK
                have HJ := Lib.hid hJ
                clear hJ
                have hb := HJ.out.1
                have e4 := HJ.out.2.2.2.2.2.1 hd.1
                have e5 := HJ.out.2.2.2.2.2.2.1 hd.2.1
                simp only [ovr, Act.put, List.setIfInBounds_toArray, List.set_cons_zero, List.set_cons_succ, e4, e5] at hK ⊢
                have HK := Lib.hid hK
                clear hK
                refine wpOp_want rfl rfl ?_
                go_simp
                obtain ⟨hb, f0, f1, f2, f3, f4, f5, f6, f7, f8, f9, f10, f11, f12, f14, c12⟩ := HJ.out
                exact HK.out _ _ ⟨hb, fun h => f0 (h.resolve_left (by decide)), fun h => f1 (h.resolve_left (by decide)), fun h => f2 (h.resolve_left (by decide)), fun h => f3 (h.resolve_left (by decide)), fun h => f4 (h.resolve_left (by decide)), fun h => f5 (h.resolve_left (by decide)), fun _ => rfl, fun h => f7 (h.resolve_left (by decide)), fun h => f8 (h.resolve_left (by decide)), fun h => f9 (h.resolve_left (by decide)), fun h => f10 (h.resolve_left (by decide)), fun h => f11 (h.resolve_left (by decide)), fun h => ((f12 (h.resolve_left (by decide)))).congr ⟨fun h => .inr h, fun h => h.resolve_left (by decide)⟩, fun h => f14 (h.resolve_left (by decide)), fun h => .inr (c12 (h.resolve_left (by decide)))⟩
              case s7 =>
                rintro L T W hd hn hJ K hK
                have HJ := Lib.hid hJ
                clear hJ
                have hb := HJ.out.1
                have e6 := HJ.out.2.2.2.2.2.2.2.1 hd.1
                simp only [ovr, Act.put, List.setIfInBounds_toArray, List.set_cons_zero, List.set_cons_succ, e6] at hK ⊢
                have HK := Lib.hid hK
                clear hK
                obtain ⟨c0, c1, c2, c3, c4, c5, c6, c7⟩ := (fun W => S8 (W := W) FA FB) W hb
                refine wpOp_want rfl rfl ?_
                go_simp
                obtain ⟨hb, f0, f1, f2, f3, f4, f5, f6, f7, f8, f9, f10, f11, f12, f14, c12⟩ := HJ.out
                exact HK.out _ _ ⟨hb, fun h => f0 (h.resolve_left (by decide)), fun h => f1 (h.resolve_left (by decide)), fun h => f2 (h.resolve_left (by decide)), fun h => f3 (h.resolve_left (by decide)), fun h => f4 (h.resolve_left (by decide)), fun h => f5 (h.resolve_left (by decide)), fun h => f6 (h.resolve_left (by decide)), fun _ => rfl, fun h => f8 (h.resolve_left (by decide)), fun h => f9 (h.resolve_left (by decide)), fun h => f10 (h.resolve_left (by decide)), fun h => f11 (h.resolve_left (by decide)), fun h => ((f12 (h.resolve_left (by decide)))).congr ⟨fun h => .inr h, fun h => h.resolve_left (by decide)⟩, fun h => f14 (h.resolve_left (by decide)), fun h => .inr (c12 (h.resolve_left (by decide)))⟩
              case s8 =>
                rintro L T W hd hn hJ K hK
                have HJ := Lib.hid hJ
                clear hJ
                have hb := HJ.out.1
                have e3 := HJ.out.2.2.2.2.1 hd.1
                have e7 := HJ.out.2.2.2.2.2.2.2.2.1 hd.2.1
                simp only [ovr, Act.put, List.setIfInBounds_toArray, List.set_cons_zero, List.set_cons_succ, e3, e7] at hK ⊢
                have HK := Lib.hid hK
                clear hK
                refine wpOp_want rfl rfl ?_
                go_simp
                (with_reducible refine (Mul_q _ _ ra rb _ (HA.mono hb) (HB.mono hb) HM (hE.mono hb)).mono ?_)
                rintro e w1 ⟨⟨nga, aoa, na, capa, ngb, aob, nb, capb, rfl, HVa, HVb⟩, hb1⟩
                have hr : TupQ4 (ra * rb) w1 (.tuple #[.agg #[.bool nga, .slice aoa na capa, .bool ngb, .slice aob nb capb], .int .i64 0]) := ⟨_, rfl, RatV.mk' HVa HVb⟩
                dsimp only
                obtain ⟨hb, f0, f1, f2, f3, f4, f5, f6, f7, f8, f9, f10, f11, f12, f14, c12⟩ := HJ.out
                exact HK.out _ _ ⟨Below.step hb hb1 (Nat.le_refl _), fun h => f0 (h.resolve_left (by decide)), fun h => f1 (h.resolve_left (by decide)), fun h => f2 (h.resolve_left (by decide)), fun h => f3 (h.resolve_left (by decide)), fun h => f4 (h.resolve_left (by decide)), fun h => f5 (h.resolve_left (by decide)), fun h => f6 (h.resolve_left (by decide)), fun h => f7 (h.resolve_left (by decide)), fun _ => hr, fun h => (stay4_tupQ4 (ra * rb)).mono (f9 (h.resolve_left (by decide))) hb1, fun h => (stay4_rat (ra * rb)).mono (f10 (h.resolve_left (by decide))) hb1, fun h => f11 (h.resolve_left (by decide)), fun h => ((f12 (h.resolve_left (by decide))).mono (stay4_rat (ra * rb)) hb1).congr ⟨fun h => .inr h, fun h => h.resolve_left (by decide)⟩, fun h => f14 (h.resolve_left (by decide)), fun h => .inr (c12 (h.resolve_left (by decide)))⟩
              case s9 =>
                rintro L T W hd hn hJ K hK
                have HJ := Lib.hid hJ
                clear hJ
                have hb := HJ.out.1
                have r8 := HJ.out.2.2.2.2.2.2.2.2.2.1 hd.1
                simp only [ovr, Act.put, List.setIfInBounds_toArray, List.set_cons_zero, List.set_cons_succ] at hK ⊢
                have HK := Lib.hid hK
                clear hK
                refine wpOp_want rfl rfl ?_
                go_simp
                obtain ⟨hb, f0, f1, f2, f3, f4, f5, f6, f7, f8, f9, f10, f11, f12, f14, c12⟩ := HJ.out
                exact HK.out _ _ ⟨hb, fun h => f0 (h.resolve_left (by decide)), fun h => f1 (h.resolve_left (by decide)), fun h => f2 (h.resolve_left (by decide)), fun h => f3 (h.resolve_left (by decide)), fun h => f4 (h.resolve_left (by decide)), fun h => f5 (h.resolve_left (by decide)), fun h => f6 (h.resolve_left (by decide)), fun h => f7 (h.resolve_left (by decide)), fun h => f8 (h.resolve_left (by decide)), fun _ => r8, fun h => f10 (h.resolve_left (by decide)), fun h => f11 (h.resolve_left (by decide)), fun h => ((f12 (h.resolve_left (by decide)))).congr ⟨fun h => .inr h, fun h => h.resolve_left (by decide)⟩, fun h => f14 (h.resolve_left (by decide)), fun h => .inr (c12 (h.resolve_left (by decide)))⟩
              case s10 =>
                rintro L T W hd hn hJ K hK
                have HJ := Lib.hid hJ
                clear hJ
                have hb := HJ.out.1
                have r9 := HJ.out.2.2.2.2.2.2.2.2.2.2.1 hd.1
                obtain ⟨a, ev, hq⟩ := r9
                simp only [ovr, Act.put, List.setIfInBounds_toArray, List.set_cons_zero, List.set_cons_succ, ev] at hK ⊢
                have HK := Lib.hid hK
                clear hK
                refine wpOp_want rfl rfl ?_
                go_simp
                obtain ⟨hb, f0, f1, f2, f3, f4, f5, f6, f7, f8, f9, f10, f11, f12, f14, c12⟩ := HJ.out
                exact HK.out _ _ ⟨hb, fun h => f0 (h.resolve_left (by decide)), fun h => f1 (h.resolve_left (by decide)), fun h => f2 (h.resolve_left (by decide)), fun h => f3 (h.resolve_left (by decide)), fun h => f4 (h.resolve_left (by decide)), fun h => f5 (h.resolve_left (by decide)), fun h => f6 (h.resolve_left (by decide)), fun h => f7 (h.resolve_left (by decide)), fun h => f8 (h.resolve_left (by decide)), fun h => f9 (h.resolve_left (by decide)), fun _ => hq, fun h => f11 (h.resolve_left (by decide)), fun h => ((f12 (h.resolve_left (by decide)))).congr ⟨fun h => .inr h, fun h => h.resolve_left (by decide)⟩, fun h => f14 (h.resolve_left (by decide)), fun h => .inr (c12 (h.resolve_left (by decide)))⟩
              case s11 =>
                rintro L T W hd hn hJ K hK
                have HJ := Lib.hid hJ
                clear hJ
                have hb := HJ.out.1
                have r9 := HJ.out.2.2.2.2.2.2.2.2.2.2.1 hd.1
                obtain ⟨a, ev, hq⟩ := r9
                simp only [ovr, Act.put, List.setIfInBounds_toArray, List.set_cons_zero, List.set_cons_succ, ev] at hK ⊢
                have HK := Lib.hid hK
                clear hK
                refine wpOp_want rfl rfl ?_
                go_simp
                obtain ⟨hb, f0, f1, f2, f3, f4, f5, f6, f7, f8, f9, f10, f11, f12, f14, c12⟩ := HJ.out
                exact HK.out _ _ ⟨hb, fun h => f0 (h.resolve_left (by decide)), fun h => f1 (h.resolve_left (by decide)), fun h => f2 (h.resolve_left (by decide)), fun h => f3 (h.resolve_left (by decide)), fun h => f4 (h.resolve_left (by decide)), fun h => f5 (h.resolve_left (by decide)), fun h => f6 (h.resolve_left (by decide)), fun h => f7 (h.resolve_left (by decide)), fun h => f8 (h.resolve_left (by decide)), fun h => f9 (h.resolve_left (by decide)), fun h => f10 (h.resolve_left (by decide)), fun _ => rfl, fun h => ((f12 (h.resolve_left (by decide)))).congr ⟨fun h => .inr h, fun h => h.resolve_left (by decide)⟩, fun h => f14 (h.resolve_left (by decide)), fun h => .inr (c12 (h.resolve_left (by decide)))⟩
              case s12 =>
                rintro L T W hd hn hJ K hK
                have HJ := Lib.hid hJ
                clear hJ
                have hb := HJ.out.1
                simp only [ovr, Act.put, List.setIfInBounds_toArray, List.set_cons_zero, List.set_cons_succ] at hK ⊢
                have HK := Lib.hid hK
                clear hK
                refine wpOp_want rfl rfl ?_
                go_simp
                have hb1 := below_alloc W (.cells #[.bool false, .slice none 0 0, .bool false, .slice none 0 0] 29)
                obtain ⟨hb, f0, f1, f2, f3, f4, f5, f6, f7, f8, f9, f10, f11, f12, f14, c12⟩ := HJ.out
                exact HK.out _ _ ⟨Below.step hb hb1 (Nat.le_refl _), fun h => f0 (h.resolve_left (by decide)), fun h => f1 (h.resolve_left (by decide)), fun h => f2 (h.resolve_left (by decide)), fun h => f3 (h.resolve_left (by decide)), fun h => f4 (h.resolve_left (by decide)), fun h => f5 (h.resolve_left (by decide)), fun h => f6 (h.resolve_left (by decide)), fun h => f7 (h.resolve_left (by decide)), fun h => (stay4_tupQ4 (ra * rb)).mono (f8 (h.resolve_left (by decide))) hb1, fun h => (stay4_tupQ4 (ra * rb)).mono (f9 (h.resolve_left (by decide))) hb1, fun h => (stay4_rat (ra * rb)).mono (f10 (h.resolve_left (by decide))) hb1, fun h => f11 (h.resolve_left (by decide)), fun _ => Slot4.new W (fun h => hn (c12 (h.resolve_left (by decide)))) _ hb.size, fun h => f14 (h.resolve_left (by decide)), fun _ => .inl (by decide)⟩
              case s13 =>
                rintro L T W hd hn hJ K hK
                have HJ := Lib.hid hJ
                clear hJ
                have hb := HJ.out.1
                have r10 := HJ.out.2.2.2.2.2.2.2.2.2.2.2.1 hd.2.1
                have r8 := HJ.out.2.2.2.2.2.2.2.2.2.1 hd.2.2.1
                have e0 := HJ.out.2.1 hd.2.2.2.1
                have e1 := HJ.out.2.2.1 hd.2.2.2.2.1
                have e2 := HJ.out.2.2.2.1 hd.2.2.2.2.2.1
                have e3 := HJ.out.2.2.2.2.1 hd.2.2.2.2.2.2.1
                have e4 := HJ.out.2.2.2.2.2.1 hd.2.2.2.2.2.2.2.1
                have e5 := HJ.out.2.2.2.2.2.2.1 hd.2.2.2.2.2.2.2.2.1
                have e6 := HJ.out.2.2.2.2.2.2.2.1 hd.2.2.2.2.2.2.2.2.2.1
                have e7 := HJ.out.2.2.2.2.2.2.2.2.1 hd.2.2.2.2.2.2.2.2.2.2.1
                have r9 := HJ.out.2.2.2.2.2.2.2.2.2.2.1 hd.2.2.2.2.2.2.2.2.2.2.2.2.1
                have da := hd.1
                have hr := r10
                obtain ⟨m, em, hm1, hm2, hB⟩ := (HJ.out.2.2.2.2.2.2.2.2.2.2.2.2.2.1 da).open hn
                obtain ⟨ng, ao, nn, cap, ng2, ao2, nn2, cap2, ev⟩ := RatV.parts hr
                rw [ev] at hr
                obtain ⟨b0, b1, b2, b3, b4, b5, b6, b7⟩ := id hB
                simp only [ovr, Act.put, List.setIfInBounds_toArray, List.set_cons_zero, List.set_cons_succ, e0, e1, e2, e3, e4, e5, e6, e7, em, ev] at hK ⊢
                have HK := Lib.hid hK
                clear hK
                refine wpOp_want rfl rfl ?_
                go_simp
                obtain ⟨hb, f0, f1, f2, f3, f4, f5, f6, f7, f8, f9, f10, f11, f12, f14, c12⟩ := HJ.out
                exact HK.out undef _ ⟨Below.put4 hb hm1 _ _ _ _, fun h => f0 (h.resolve_left (by decide)), fun h => f1 (h.resolve_left (by decide)), fun h => f2 (h.resolve_left (by decide)), fun h => f3 (h.resolve_left (by decide)), fun h => f4 (h.resolve_left (by decide)), fun h => f5 (h.resolve_left (by decide)), fun h => f6 (h.resolve_left (by decide)), fun h => f7 (h.resolve_left (by decide)), fun h => (stay4_tupQ4 (ra * rb)).put (f8 (h.resolve_left (by decide))) hB, fun h => (stay4_tupQ4 (ra * rb)).put (f9 (h.resolve_left (by decide))) hB, fun h => (stay4_rat (ra * rb)).put (f10 (h.resolve_left (by decide))) hB, fun h => f11 (h.resolve_left (by decide)), fun h => by show Slot4 _ _ _ _ (T 9); rw [em]; exact Slot4.stored (stay4_rat (ra * rb)) hm1 hB (.inl (by decide)) hr, fun h => f14 (h.resolve_left (by decide)), fun _ => .inr da⟩
              case s14 =>
                rintro L T W hd hn hJ K hK
                have HJ := Lib.hid hJ
                clear hJ
                have hb := HJ.out.1
                have e11 := HJ.out.2.2.2.2.2.2.2.2.2.2.2.2.1 hd.1
                have e0 := HJ.out.2.1 hd.2.2.1
                have e1 := HJ.out.2.2.1 hd.2.2.2.1
                have e2 := HJ.out.2.2.2.1 hd.2.2.2.2.1
                have e3 := HJ.out.2.2.2.2.1 hd.2.2.2.2.2.1
                have e4 := HJ.out.2.2.2.2.2.1 hd.2.2.2.2.2.2.1
                have e5 := HJ.out.2.2.2.2.2.2.1 hd.2.2.2.2.2.2.2.1
                have e6 := HJ.out.2.2.2.2.2.2.2.1 hd.2.2.2.2.2.2.2.2.1
                have e7 := HJ.out.2.2.2.2.2.2.2.2.1 hd.2.2.2.2.2.2.2.2.2.1
                have r8 := HJ.out.2.2.2.2.2.2.2.2.2.1 hd.2.2.2.2.2.2.2.2.2.2.1
                have r9 := HJ.out.2.2.2.2.2.2.2.2.2.2.1 hd.2.2.2.2.2.2.2.2.2.2.2.1
                have r10 := HJ.out.2.2.2.2.2.2.2.2.2.2.2.1 hd.2.2.2.2.2.2.2.2.2.2.2.2.1
                simp only [ovr, Act.put, List.setIfInBounds_toArray, List.set_cons_zero, List.set_cons_succ, e11, e0, e1, e2, e3, e4, e5, e6, e7] at hK ⊢
                have HK := Lib.hid hK
                clear hK
                refine wpOp_want rfl rfl ?_
                go_simp
                obtain ⟨hb, f0, f1, f2, f3, f4, f5, f6, f7, f8, f9, f10, f11, f12, f14, c12⟩ := HJ.out
                exact HK.out _ _ ⟨hb, fun h => f0 (h.resolve_left (by decide)), fun h => f1 (h.resolve_left (by decide)), fun h => f2 (h.resolve_left (by decide)), fun h => f3 (h.resolve_left (by decide)), fun h => f4 (h.resolve_left (by decide)), fun h => f5 (h.resolve_left (by decide)), fun h => f6 (h.resolve_left (by decide)), fun h => f7 (h.resolve_left (by decide)), fun h => f8 (h.resolve_left (by decide)), fun h => f9 (h.resolve_left (by decide)), fun h => f10 (h.resolve_left (by decide)), fun h => f11 (h.resolve_left (by decide)), fun h => ((f12 (h.resolve_left (by decide)))).congr ⟨fun h => .inr h, fun h => h.resolve_left (by decide)⟩, fun _ => rfl, fun h => .inr (c12 (h.resolve_left (by decide)))⟩
              case he =>
                rintro T W ⟨hb, f0, f1, f2, f3, f4, f5, f6, f7, f8, f9, f10, f11, f12, f14, c12⟩
                simp only [ovr, List.setIfInBounds_toArray, List.set_cons_zero, List.set_cons_succ]
                have hr := (f12 (by decide)).boxF4 (by decide)
                go_wp2_with fail
                go_meet
                exact ⟨hr, rfl, hb⟩
            case rest =>
              obtain ⟨⟨g9, ngg, aog, ng, capg, ngh, aoh, nh, caph, rfl, hg9, X9, HVg, HVh⟩, rfl, hb⟩ := hcut
              have X4 := X4.mono hb
              have X7 := X7.mono hb
              have HVe := Lib.hid (HVe.out.mono hb)
              have HVf := Lib.hid (HVf.out.mono hb)
              have hE := hE.mono hb
              have hbw := Below.step hbw hb (Nat.le_refl _)
              clear hb
              by_cases hA : AddS acc (ra * rb)
              · have HA2 := Lib.hid hA
                have HD3 : Hid (DotS (acc + ra * rb) (la.drop (k + 1)) (lb.drop (k + 1)) o) := Lib.hid (by rcases HD2.out with h | h; exact h.2.2; exact absurd ⟨hM, hA⟩ h.1)
                clear HD2
                obtain ⟨cX7_0, cX7_1, cX7_2, cX7_3, _, _, _, _⟩ := id X7
                obtain ⟨cX9_0, cX9_1, cX9_2, cX9_3, _, _, _, _⟩ := id X9
                go_wp2_with fail
                (with_reducible refine (Add_q _ _ acc (ra * rb) wc (RatV.mk' HVe HVf) (RatV.mk' HVg HVh) HA2 hE).mono ?_)
                rintro e v51 ⟨⟨ngi, aoi, ni, capi, ngj, aoj, nj, capj, rfl, HVi, HVj⟩, hb⟩
                have X4 := X4.mono hb
                have X7 := X7.mono hb
                have HVe := Lib.hid (HVe.out.mono hb)
                have HVf := Lib.hid (HVf.out.mono hb)
                have X9 := X9.mono hb
                have HVg := Lib.hid (HVg.out.mono hb)
                have HVh := Lib.hid (HVh.out.mono hb)
                have hE := hE.mono hb
                have hbw := Below.step hbw hb (Nat.le_refl _)
                clear hb
                clear cX7_0 cX7_1 cX7_2 cX7_3 cX9_0 cX9_1 cX9_2 cX9_3
                obtain ⟨cX7_0, cX7_1, cX7_2, cX7_3, _, _, _, _⟩ := id X7
                go_upto_region 17 with fail
                clear cX7_0 cX7_1 cX7_2 cX7_3
                have HVi := Lib.hid (HVi.out.put4B X7 (.bool ngi) (.slice aoi ni capi) (.bool ngj) (.slice aoj nj capj))
                have HVj := Lib.hid (HVj.out.put4B X7 (.bool ngi) (.slice aoi ni capi) (.bool ngj) (.slice aoj nj capj))
                have X4 : Box4 _ w.heap.size _ _ _ _ := X4.putOther (m := g7) (y0 := .bool ngi) (y1 := .slice aoi ni capi) (y2 := .bool ngj) (y3 := .slice aoj nj capj) (by omega)
                have X7 := X7.put4I (.bool ngi) (.slice aoi ni capi) (.bool ngj) (.slice aoj nj capj)
                have hbw := Below.put4 hbw (n := g7) (by omega) (.bool ngi) (.slice aoi ni capi) (.bool ngj) (.slice aoj nj capj)
                have hE := hE00.mono hbw
                generalize ((((v51.setCell ⟨g7, 0, none⟩ (.bool ngi)).setCell ⟨g7, 1, none⟩ (.slice aoi ni capi)).setCell ⟨g7, 2, none⟩ (.bool ngj)).setCell ⟨g7, 3, none⟩ (.slice aoj nj capj)) = wq at *
                go_wp2
                go_roundw
                case rel => exact ⟨k + 1, acc + ra * rb, by omega, by go_num, HD3, ⟨_, _, _, _, _, _, _, _, X7, HVi, HVj⟩, X4, hE, hbw⟩
                case measure => simp [intOf]; omega
              · have HA2 := Lib.hid hA
                have HO : Hid (o = none) := Lib.hid (by rcases HD2.out with h | h; exact absurd h.2.1 hA; exact h.2)
                clear HD2
                obtain ⟨cX7_0, cX7_1, cX7_2, cX7_3, _, _, _, _⟩ := id X7
                obtain ⟨cX9_0, cX9_1, cX9_2, cX9_3, _, _, _, _⟩ := id X9
                go_wp2_with fail
                (with_reducible refine (Add_qbig _ _ acc (ra * rb) wc (RatV.mk' HVe HVf) (RatV.mk' HVg HVh) HA2 hE).mono ?_)
                rintro e v51 ⟨rfl, hb⟩
                have X4 := X4.mono hb
                have X7 := X7.mono hb
                have HVe := Lib.hid (HVe.out.mono hb)
                have HVf := Lib.hid (HVf.out.mono hb)
                have X9 := X9.mono hb
                have HVg := Lib.hid (HVg.out.mono hb)
                have HVh := Lib.hid (HVh.out.mono hb)
                have hE := hE.mono hb
                have hbw := Below.step hbw hb (Nat.le_refl _)
                clear hb
                clear cX7_0 cX7_1 cX7_2 cX7_3 cX9_0 cX9_1 cX9_2 cX9_3
                obtain ⟨cX7_0, cX7_1, cX7_2, cX7_3, _, _, _, _⟩ := id X7
                go_upto_region 17 with fail
                clear cX7_0 cX7_1 cX7_2 cX7_3
                have X4 : Box4 _ w.heap.size _ _ _ _ := X4.putOther (m := g7) (y0 := .bool false) (y1 := .slice none 0 0) (y2 := .bool false) (y3 := .slice none 0 0) (by omega)
                have X7 := X7.put4I (.bool false) (.slice none 0 0) (.bool false) (.slice none 0 0)
                have hbw := Below.put4 hbw (n := g7) (by omega) (.bool false) (.slice none 0 0) (.bool false) (.slice none 0 0)
                have hE := hE00.mono hbw
                generalize ((((v51.setCell ⟨g7, 0, none⟩ (.bool false)).setCell ⟨g7, 1, none⟩ (.slice none 0 0)).setCell ⟨g7, 2, none⟩ (.bool false)).setCell ⟨g7, 3, none⟩ (.slice none 0 0)) = wq at *
                clear X9 HVg HVh HVe HVf
                obtain ⟨cX4_0, cX4_1, cX4_2, cX4_3, _, _, _, _⟩ := id X4
                go_wp2
                refine bodyPost_ret (v := .tuple #[.agg #[.bool false, .slice none 0 0, .bool false, .slice none 0 0], .int .i64 3]) (by simp [results, Tryz.results40, go_sem, cX4_0, cX4_1, cX4_2, cX4_3]) rfl ⟨DotP.no HO rfl, Below.put4 hbw (by omega) (.bool false) (.slice none 0 0) (.bool false) (.slice none 0 0)⟩
          · have HM := Lib.hid hM
            go_upto_region 13 with fail
            obtain ⟨wy, rfl⟩ : ∃ wy : World, wy = wr := ⟨_, rfl⟩
            go_cut [9, 10] (fun s9 s10 wc => s10 = .int .i64 3 ∧ Below wy.heap.size wy wc)
            case first =>
              refine wp_region_flow (fun L T W => Below wy.heap.size wy W ∧ (L 0 → T 46 = .slice (some ⟨b1, off1, none⟩) la.length ca) ∧ (L 1 → T 47 = .int .i64 k) ∧ (L 2 → T 48 = .pointer (some ⟨b1, off1 + k * 4, none⟩)) ∧ (L 3 → T 49 = .agg #[.bool ngp, .slice aop np capp, .bool ngq, .slice aoq nq capq]) ∧ (L 4 → T 50 = .slice (some ⟨b2, off2, none⟩) lb.length cb) ∧ (L 5 → T 51 = .int .i64 k) ∧ (L 6 → T 52 = .pointer (some ⟨b2, off2 + k * 4, none⟩)) ∧ (L 7 → T 53 = .agg #[.bool ngr, .slice aor nr capr, .bool ngs, .slice aos ns caps]) ∧ (L 8 → (IsV4 (.tuple #[.agg #[.bool false, .slice none 0 0, .bool false, .slice none 0 0], .int .i64 3])) W (T 54)) ∧ (L 9 → T 45 = .tuple #[.agg #[.bool false, .slice none 0 0, .bool false, .slice none 0 0], .int .i64 3]) ∧ (L 10 → (IsV4 (.agg #[.bool false, .slice none 0 0, .bool false, .slice none 0 0])) W (T 55)) ∧ (L 11 → T 56 = .int .i64 3) ∧ (L 12 → Slot4 W wy.heap.size (IsV4 (.agg #[.bool false, .slice none 0 0, .bool false, .slice none 0 0])) (L 13) (T 9)) ∧ (L 14 → T 10 = .int .i64 3) ∧ (L 13 → L 12)) [46, 47, 48, 49, 50, 51, 52, 53, 54, 45, 55, 56, 9, 10] (by kernel_rfl) (by kernel_rfl) (by kernel_rfl) ?h0 ⟨?s0, ?s1, ?s2, ?s3, ?s4, ?s5, ?s6, ?s7, ?s8, ?s9, ?s10, ?s11, ?s12, ?s13, ?s14, trivial⟩ ?he ?hm
              case h0 => exact fun T => ⟨(Below.refl _ _).drew, fun h => h.elim, fun h => h.elim, fun h => h.elim, fun h => h.elim, fun h => h.elim, fun h => h.elim, fun h => h.elim, fun h => h.elim, fun h => h.elim, fun h => h.elim, fun h => h.elim, fun h => h.elim, fun h => h.elim, fun h => h.elim, fun h => h.elim⟩
              case hm =>
                rintro L T W hL ⟨hb, f0, f1, f2, f3, f4, f5, f6, f7, f8, f9, f10, f11, f12, f14, c12⟩
                exact ⟨hb, fun _ => f0 (hL _ (by decide)), fun _ => f1 (hL _ (by decide)), fun _ => f2 (hL _ (by decide)), fun _ => f3 (hL _ (by decide)), fun _ => f4 (hL _ (by decide)), fun _ => f5 (hL _ (by decide)), fun _ => f6 (hL _ (by decide)), fun _ => f7 (hL _ (by decide)), fun _ => f8 (hL _ (by decide)), fun _ => f9 (hL _ (by decide)), fun _ => f10 (hL _ (by decide)), fun _ => f11 (hL _ (by decide)), fun _ => (f12 (hL _ (by decide))).congr ⟨fun _ => by decide, fun _ => hL _ (by decide)⟩, fun _ => f14 (hL _ (by decide)), fun _ => by decide⟩
              case s0 =>
                rintro L T W hd hn hJ K hK
                have HJ := Lib.hid hJ
                clear hJ
                have hb := HJ.out.1
                simp only [ovr, Act.put, List.setIfInBounds_toArray, List.set_cons_zero, List.set_cons_succ] at hK ⊢
                have HK := Lib.hid hK
                clear hK
                refine wpOp_want rfl rfl ?_
                go_simp
                obtain ⟨hb, f0, f1, f2, f3, f4, f5, f6, f7, f8, f9, f10, f11, f12, f14, c12⟩ := HJ.out
                exact HK.out _ _ ⟨hb, fun _ => rfl, fun h => f1 (h.resolve_left (by decide)), fun h => f2 (h.resolve_left (by decide)), fun h => f3 (h.resolve_left (by decide)), fun h => f4 (h.resolve_left (by decide)), fun h => f5 (h.resolve_left (by decide)), fun h => f6 (h.resolve_left (by decide)), fun h => f7 (h.resolve_left (by decide)), fun h => f8 (h.resolve_left (by decide)), fun h => f9 (h.resolve_left (by decide)), fun h => f10 (h.resolve_left (by decide)), fun h => f11 (h.resolve_left (by decide)), fun h => ((f12 (h.resolve_left (by decide)))).congr ⟨fun h => .inr h, fun h => h.resolve_left (by decide)⟩, fun h => f14 (h.resolve_left (by decide)), fun h => .inr (c12 (h.resolve_left (by decide)))⟩
              case s1 =>
                rintro L T W hd hn hJ K hK
                have HJ := Lib.hid hJ
                clear hJ
                have hb := HJ.out.1
                simp only [ovr, Act.put, List.setIfInBounds_toArray, List.set_cons_zero, List.set_cons_succ] at hK ⊢
                have HK := Lib.hid hK
                clear hK
                refine wpOp_want rfl rfl ?_
                go_simp
                obtain ⟨hb, f0, f1, f2, f3, f4, f5, f6, f7, f8, f9, f10, f11, f12, f14, c12⟩ := HJ.out
                exact HK.out _ _ ⟨hb, fun h => f0 (h.resolve_left (by decide)), fun _ => rfl, fun h => f2 (h.resolve_left (by decide)), fun h => f3 (h.resolve_left (by decide)), fun h => f4 (h.resolve_left (by decide)), fun h => f5 (h.resolve_left (by decide)), fun h => f6 (h.resolve_left (by decide)), fun h => f7 (h.resolve_left (by decide)), fun h => f8 (h.resolve_left (by decide)), fun h => f9 (h.resolve_left (by decide)), fun h => f10 (h.resolve_left (by decide)), fun h => f11 (h.resolve_left (by decide)), fun h => ((f12 (h.resolve_left (by decide)))).congr ⟨fun h => .inr h, fun h => h.resolve_left (by decide)⟩, fun h => f14 (h.resolve_left (by decide)), fun h => .inr (c12 (h.resolve_left (by decide)))⟩
              case s2 =>
                rintro L T W hd hn hJ K hK
                have HJ := Lib.hid hJ
                clear hJ
                have hb := HJ.out.1
                have e0 := HJ.out.2.1 hd.1
                have e1 := HJ.out.2.2.1 hd.2.1
                simp only [ovr, Act.put, List.setIfInBounds_toArray, List.set_cons_zero, List.set_cons_succ, e0, e1] at hK ⊢
                have HK := Lib.hid hK
                clear hK
                refine wpOp_want rfl rfl ?_
                go_simp
                obtain ⟨hb, f0, f1, f2, f3, f4, f5, f6, f7, f8, f9, f10, f11, f12, f14, c12⟩ := HJ.out
                exact HK.out _ _ ⟨hb, fun h => f0 (h.resolve_left (by decide)), fun h => f1 (h.resolve_left (by decide)), fun _ => rfl, fun h => f3 (h.resolve_left (by decide)), fun h => f4 (h.resolve_left (by decide)), fun h => f5 (h.resolve_left (by decide)), fun h => f6 (h.resolve_left (by decide)), fun h => f7 (h.resolve_left (by decide)), fun h => f8 (h.resolve_left (by decide)), fun h => f9 (h.resolve_left (by decide)), fun h => f10 (h.resolve_left (by decide)), fun h => f11 (h.resolve_left (by decide)), fun h => ((f12 (h.resolve_left (by decide)))).congr ⟨fun h => .inr h, fun h => h.resolve_left (by decide)⟩, fun h => f14 (h.resolve_left (by decide)), fun h => .inr (c12 (h.resolve_left (by decide)))⟩
              case s3 =>
                rintro L T W hd hn hJ K hK
                have HJ := Lib.hid hJ
                clear hJ
                have hb := HJ.out.1
                have e2 := HJ.out.2.2.2.1 hd.1
                simp only [ovr, Act.put, List.setIfInBounds_toArray, List.set_cons_zero, List.set_cons_succ, e2] at hK ⊢
                have HK := Lib.hid hK
                clear hK
                obtain ⟨c0, c1, c2, c3, c4, c5, c6, c7⟩ := (fun W => S8 (W := W) FA FB) W hb
                refine wpOp_want rfl rfl ?_
                go_simp
                obtain ⟨hb, f0, f1, f2, f3, f4, f5, f6, f7, f8, f9, f10, f11, f12, f14, c12⟩ := HJ.out
                exact HK.out _ _ ⟨hb, fun h => f0 (h.resolve_left (by decide)), fun h => f1 (h.resolve_left (by decide)), fun h => f2 (h.resolve_left (by decide)), fun _ => rfl, fun h => f4 (h.resolve_left (by decide)), fun h => f5 (h.resolve_left (by decide)), fun h => f6 (h.resolve_left (by decide)), fun h => f7 (h.resolve_left (by decide)), fun h => f8 (h.resolve_left (by decide)), fun h => f9 (h.resolve_left (by decide)), fun h => f10 (h.resolve_left (by decide)), fun h => f11 (h.resolve_left (by decide)), fun h => ((f12 (h.resolve_left (by decide)))).congr ⟨fun h => .inr h, fun h => h.resolve_left (by decide)⟩, fun h => f14 (h.resolve_left (by decide)), fun h => .inr (c12 (h.resolve_left (by decide)))⟩
              case s4 =>
                rintro L T W hd hn hJ K hK
                have HJ := Lib.hid hJ
                clear hJ
                have hb := HJ.out.1
                simp only [ovr, Act.put, List.setIfInBounds_toArray, List.set_cons_zero, List.set_cons_succ] at hK ⊢
                have HK := Lib.hid hK
                clear hK
                refine wpOp_want rfl rfl ?_
                go_simp
                obtain ⟨hb, f0, f1, f2, f3, f4, f5, f6, f7, f8, f9, f10, f11, f12, f14, c12⟩ := HJ.out
                exact HK.out _ _ ⟨hb, fun h => f0 (h.resolve_left (by decide)), fun h => f1 (h.resolve_left (by decide)), fun h => f2 (h.resolve_left (by decide)), fun h => f3 (h.resolve_left (by decide)), fun _ => rfl, fun h => f5 (h.resolve_left (by decide)), fun h => f6 (h.resolve_left (by decide)), fun h => f7 (h.resolve_left (by decide)), fun h => f8 (h.resolve_left (by decide)), fun h => f9 (h.resolve_left (by decide)), fun h => f10 (h.resolve_left (by decide)), fun h => f11 (h.resolve_left (by decide)), fun h => ((f12 (h.resolve_left (by decide)))).congr ⟨fun h => .inr h, fun h => h.resolve_left (by decide)⟩, fun h => f14 (h.resolve_left (by decide)), fun h => .inr (c12 (h.resolve_left (by decide)))⟩
              case s5 =>
                rintro L T W hd hn hJ K hK
                have HJ := Lib.hid hJ
                clear hJ
                have hb := HJ.out.1
                simp only [ovr, Act.put, List.setIfInBounds_toArray, List.set_cons_zero, List.set_cons_succ] at hK ⊢
                have HK := Lib.hid hK
                clear hK
                refine wpOp_want rfl rfl ?_
                go_simp
                obtain ⟨hb, f0, f1, f2, f3, f4, f5, f6, f7, f8, f9, f10, f11, f12, f14, c12⟩ := HJ.out
                exact HK.out _ _ ⟨hb, fun h => f0 (h.resolve_left (by decide)), fun h => f1 (h.resolve_left (by decide)), fun h => f2 (h.resolve_left (by decide)), fun h => f3 (h.resolve_left (by decide)), fun h => f4 (h.resolve_left (by decide)), fun _ => rfl, fun h => f6 (h.resolve_left (by decide)), fun h => f7 (h.resolve_left (by decide)), fun h => f8 (h.resolve_left (by decide)), fun h => f9 (h.resolve_left (by decide)), fun h => f10 (h.resolve_left (by decide)), fun h => f11 (h.resolve_left (by decide)), fun h => ((f12 (h.resolve_left (by decide)))).congr ⟨fun h => .inr h, fun h => h.resolve_left (by decide)⟩, fun h => f14 (h.resolve_left (by decide)), fun h => .inr (c12 (h.resolve_left (by decide)))⟩
              case s6 =>
                rintro L T W hd hn hJ K hK
                have HJ := Lib.hid hJ
                clear hJ
                have hb := HJ.out.1
                have e4 := HJ.out.2.2.2.2.2.1 hd.1
                have e5 := HJ.out.2.2.2.2.2.2.1 hd.2.1
                simp only [ovr, Act.put, List.setIfInBounds_toArray, List.set_cons_zero, List.set_cons_succ, e4, e5] at hK ⊢
                have HK := Lib.hid hK
                clear hK
                refine wpOp_want rfl rfl ?_
                go_simp
                obtain ⟨hb, f0, f1, f2, f3, f4, f5, f6, f7, f8, f9, f10, f11, f12, f14, c12⟩ := HJ.out
                exact HK.out _ _ ⟨hb, fun h => f0 (h.resolve_left (by decide)), fun h => f1 (h.resolve_left (by decide)), fun h => f2 (h.resolve_left (by decide)), fun h => f3 (h.resolve_left (by decide)), fun h => f4 (h.resolve_left (by decide)), fun h => f5 (h.resolve_left (by decide)), fun _ => rfl, fun h => f7 (h.resolve_left (by decide)), fun h => f8 (h.resolve_left (by decide)), fun h => f9 (h.resolve_left (by decide)), fun h => f10 (h.resolve_left (by decide)), fun h => f11 (h.resolve_left (by decide)), fun h => ((f12 (h.resolve_left (by decide)))).congr ⟨fun h => .inr h, fun h => h.resolve_left (by decide)⟩, fun h => f14 (h.resolve_left (by decide)), fun h => .inr (c12 (h.resolve_left (by decide)))⟩
              case s7 =>
                rintro L T W hd hn hJ K hK
                have HJ := Lib.hid hJ
                clear hJ
                have hb := HJ.out.1
                have e6 := HJ.out.2.2.2.2.2.2.2.1 hd.1
                simp only [ovr, Act.put, List.setIfInBounds_toArray, List.set_cons_zero, List.set_cons_succ, e6] at hK ⊢
                have HK := Lib.hid hK
                clear hK
                obtain ⟨c0, c1, c2, c3, c4, c5, c6, c7⟩ := (fun W => S8 (W := W) FA FB) W hb
                refine wpOp_want rfl rfl ?_
                go_simp
                obtain ⟨hb, f0, f1, f2, f3, f4, f5, f6, f7, f8, f9, f10, f11, f12, f14, c12⟩ := HJ.out
                exact HK.out _ _ ⟨hb, fun h => f0 (h.resolve_left (by decide)), fun h => f1 (h.resolve_left (by decide)), fun h => f2 (h.resolve_left (by decide)), fun h => f3 (h.resolve_left (by decide)), fun h => f4 (h.resolve_left (by decide)), fun h => f5 (h.resolve_left (by decide)), fun h => f6 (h.resolve_left (by decide)), fun _ => rfl, fun h => f8 (h.resolve_left (by decide)), fun h => f9 (h.resolve_left (by decide)), fun h => f10 (h.resolve_left (by decide)), fun h => f11 (h.resolve_left (by decide)), fun h => ((f12 (h.resolve_left (by decide)))).congr ⟨fun h => .inr h, fun h => h.resolve_left (by decide)⟩, fun h => f14 (h.resolve_left (by decide)), fun h => .inr (c12 (h.resolve_left (by decide)))⟩
              case s8 =>
                rintro L T W hd hn hJ K hK
                have HJ := Lib.hid hJ
                clear hJ
                have hb := HJ.out.1
                have e3 := HJ.out.2.2.2.2.1 hd.1
                have e7 := HJ.out.2.2.2.2.2.2.2.2.1 hd.2.1
                simp only [ovr, Act.put, List.setIfInBounds_toArray, List.set_cons_zero, List.set_cons_succ, e3, e7] at hK ⊢
                have HK := Lib.hid hK
                clear hK
                refine wpOp_want rfl rfl ?_
                go_simp
                (with_reducible refine (Mul_qbig _ _ ra rb _ (HA.mono hb) (HB.mono hb) HM (hE.mono hb)).mono ?_)
                rintro e w1 ⟨rfl, hb1⟩
                have hr : IsV4 (.tuple #[.agg #[.bool false, .slice none 0 0, .bool false, .slice none 0 0], .int .i64 3]) w1 (.tuple #[.agg #[.bool false, .slice none 0 0, .bool false, .slice none 0 0], .int .i64 3]) := rfl
                dsimp only
                obtain ⟨hb, f0, f1, f2, f3, f4, f5, f6, f7, f8, f9, f10, f11, f12, f14, c12⟩ := HJ.out
                exact HK.out _ _ ⟨Below.step hb hb1 (Nat.le_refl _), fun h => f0 (h.resolve_left (by decide)), fun h => f1 (h.resolve_left (by decide)), fun h => f2 (h.resolve_left (by decide)), fun h => f3 (h.resolve_left (by decide)), fun h => f4 (h.resolve_left (by decide)), fun h => f5 (h.resolve_left (by decide)), fun h => f6 (h.resolve_left (by decide)), fun h => f7 (h.resolve_left (by decide)), fun _ => hr, fun h => f9 (h.resolve_left (by decide)), fun h => (stay4_isV _).mono (f10 (h.resolve_left (by decide))) hb1, fun h => f11 (h.resolve_left (by decide)), fun h => ((f12 (h.resolve_left (by decide))).mono (stay4_isV _) hb1).congr ⟨fun h => .inr h, fun h => h.resolve_left (by decide)⟩, fun h => f14 (h.resolve_left (by decide)), fun h => .inr (c12 (h.resolve_left (by decide)))⟩
              case s9 =>
                rintro L T W hd hn hJ K hK
                have HJ := Lib.hid hJ
                clear hJ
                have hb := HJ.out.1
                have r8 := HJ.out.2.2.2.2.2.2.2.2.2.1 hd.1
                have ev : T 54 = .tuple #[.agg #[.bool false, .slice none 0 0, .bool false, .slice none 0 0], .int .i64 3] := r8
                simp only [ovr, Act.put, List.setIfInBounds_toArray, List.set_cons_zero, List.set_cons_succ, ev] at hK ⊢
                have HK := Lib.hid hK
                clear hK
                refine wpOp_want rfl rfl ?_
                go_simp
                obtain ⟨hb, f0, f1, f2, f3, f4, f5, f6, f7, f8, f9, f10, f11, f12, f14, c12⟩ := HJ.out
                exact HK.out _ _ ⟨hb, fun h => f0 (h.resolve_left (by decide)), fun h => f1 (h.resolve_left (by decide)), fun h => f2 (h.resolve_left (by decide)), fun h => f3 (h.resolve_left (by decide)), fun h => f4 (h.resolve_left (by decide)), fun h => f5 (h.resolve_left (by decide)), fun h => f6 (h.resolve_left (by decide)), fun h => f7 (h.resolve_left (by decide)), fun h => f8 (h.resolve_left (by decide)), fun _ => rfl, fun h => f10 (h.resolve_left (by decide)), fun h => f11 (h.resolve_left (by decide)), fun h => ((f12 (h.resolve_left (by decide)))).congr ⟨fun h => .inr h, fun h => h.resolve_left (by decide)⟩, fun h => f14 (h.resolve_left (by decide)), fun h => .inr (c12 (h.resolve_left (by decide)))⟩
              case s10 =>
                rintro L T W hd hn hJ K hK
                have HJ := Lib.hid hJ
                clear hJ
                have hb := HJ.out.1
                have e9 := HJ.out.2.2.2.2.2.2.2.2.2.2.1 hd.1
                simp only [ovr, Act.put, List.setIfInBounds_toArray, List.set_cons_zero, List.set_cons_succ, e9] at hK ⊢
                have HK := Lib.hid hK
                clear hK
                refine wpOp_want rfl rfl ?_
                go_simp
                obtain ⟨hb, f0, f1, f2, f3, f4, f5, f6, f7, f8, f9, f10, f11, f12, f14, c12⟩ := HJ.out
                exact HK.out _ _ ⟨hb, fun h => f0 (h.resolve_left (by decide)), fun h => f1 (h.resolve_left (by decide)), fun h => f2 (h.resolve_left (by decide)), fun h => f3 (h.resolve_left (by decide)), fun h => f4 (h.resolve_left (by decide)), fun h => f5 (h.resolve_left (by decide)), fun h => f6 (h.resolve_left (by decide)), fun h => f7 (h.resolve_left (by decide)), fun h => f8 (h.resolve_left (by decide)), fun h => f9 (h.resolve_left (by decide)), fun _ => rfl, fun h => f11 (h.resolve_left (by decide)), fun h => ((f12 (h.resolve_left (by decide)))).congr ⟨fun h => .inr h, fun h => h.resolve_left (by decide)⟩, fun h => f14 (h.resolve_left (by decide)), fun h => .inr (c12 (h.resolve_left (by decide)))⟩
              case s11 =>
                rintro L T W hd hn hJ K hK
                have HJ := Lib.hid hJ
                clear hJ
                have hb := HJ.out.1
                have e9 := HJ.out.2.2.2.2.2.2.2.2.2.2.1 hd.1
                simp only [ovr, Act.put, List.setIfInBounds_toArray, List.set_cons_zero, List.set_cons_succ, e9] at hK ⊢
                have HK := Lib.hid hK
                clear hK
                refine wpOp_want rfl rfl ?_
                go_simp
                obtain ⟨hb, f0, f1, f2, f3, f4, f5, f6, f7, f8, f9, f10, f11, f12, f14, c12⟩ := HJ.out
                exact HK.out _ _ ⟨hb, fun h => f0 (h.resolve_left (by decide)), fun h => f1 (h.resolve_left (by decide)), fun h => f2 (h.resolve_left (by decide)), fun h => f3 (h.resolve_left (by decide)), fun h => f4 (h.resolve_left (by decide)), fun h => f5 (h.resolve_left (by decide)), fun h => f6 (h.resolve_left (by decide)), fun h => f7 (h.resolve_left (by decide)), fun h => f8 (h.resolve_left (by decide)), fun h => f9 (h.resolve_left (by decide)), fun h => f10 (h.resolve_left (by decide)), fun _ => rfl, fun h => ((f12 (h.resolve_left (by decide)))).congr ⟨fun h => .inr h, fun h => h.resolve_left (by decide)⟩, fun h => f14 (h.resolve_left (by decide)), fun h => .inr (c12 (h.resolve_left (by decide)))⟩
              case s12 =>
                rintro L T W hd hn hJ K hK
                have HJ := Lib.hid hJ
                clear hJ
                have hb := HJ.out.1
                simp only [ovr, Act.put, List.setIfInBounds_toArray, List.set_cons_zero, List.set_cons_succ] at hK ⊢
                have HK := Lib.hid hK
                clear hK
                refine wpOp_want rfl rfl ?_
                go_simp
                have hb1 := below_alloc W (.cells #[.bool false, .slice none 0 0, .bool false, .slice none 0 0] 29)
                obtain ⟨hb, f0, f1, f2, f3, f4, f5, f6, f7, f8, f9, f10, f11, f12, f14, c12⟩ := HJ.out
                exact HK.out _ _ ⟨Below.step hb hb1 (Nat.le_refl _), fun h => f0 (h.resolve_left (by decide)), fun h => f1 (h.resolve_left (by decide)), fun h => f2 (h.resolve_left (by decide)), fun h => f3 (h.resolve_left (by decide)), fun h => f4 (h.resolve_left (by decide)), fun h => f5 (h.resolve_left (by decide)), fun h => f6 (h.resolve_left (by decide)), fun h => f7 (h.resolve_left (by decide)), fun h => (stay4_isV _).mono (f8 (h.resolve_left (by decide))) hb1, fun h => f9 (h.resolve_left (by decide)), fun h => (stay4_isV _).mono (f10 (h.resolve_left (by decide))) hb1, fun h => f11 (h.resolve_left (by decide)), fun _ => Slot4.new W (fun h => hn (c12 (h.resolve_left (by decide)))) _ hb.size, fun h => f14 (h.resolve_left (by decide)), fun _ => .inl (by decide)⟩
              case s13 =>
                rintro L T W hd hn hJ K hK
                have HJ := Lib.hid hJ
                clear hJ
                have hb := HJ.out.1
                have r10 := HJ.out.2.2.2.2.2.2.2.2.2.2.2.1 hd.2.1
                have r8 := HJ.out.2.2.2.2.2.2.2.2.2.1 hd.2.2.1
                have e0 := HJ.out.2.1 hd.2.2.2.1
                have e1 := HJ.out.2.2.1 hd.2.2.2.2.1
                have e2 := HJ.out.2.2.2.1 hd.2.2.2.2.2.1
                have e3 := HJ.out.2.2.2.2.1 hd.2.2.2.2.2.2.1
                have e4 := HJ.out.2.2.2.2.2.1 hd.2.2.2.2.2.2.2.1
                have e5 := HJ.out.2.2.2.2.2.2.1 hd.2.2.2.2.2.2.2.2.1
                have e6 := HJ.out.2.2.2.2.2.2.2.1 hd.2.2.2.2.2.2.2.2.2.1
                have e7 := HJ.out.2.2.2.2.2.2.2.2.1 hd.2.2.2.2.2.2.2.2.2.2.1
                have e9 := HJ.out.2.2.2.2.2.2.2.2.2.2.1 hd.2.2.2.2.2.2.2.2.2.2.2.2.1
                have da := hd.1
                have hr := r10
                obtain ⟨m, em, hm1, hm2, hB⟩ := (HJ.out.2.2.2.2.2.2.2.2.2.2.2.2.2.1 da).open hn
                obtain ⟨ng, ao, nn, cap, ng2, ao2, nn2, cap2, ev⟩ := IsV4.parts hr
                rw [ev] at hr
                obtain ⟨b0, b1, b2, b3, b4, b5, b6, b7⟩ := id hB
                simp only [ovr, Act.put, List.setIfInBounds_toArray, List.set_cons_zero, List.set_cons_succ, e0, e1, e2, e3, e4, e5, e6, e7, e9, em, ev] at hK ⊢
                have HK := Lib.hid hK
                clear hK
                refine wpOp_want rfl rfl ?_
                go_simp
                obtain ⟨hb, f0, f1, f2, f3, f4, f5, f6, f7, f8, f9, f10, f11, f12, f14, c12⟩ := HJ.out
                exact HK.out undef _ ⟨Below.put4 hb hm1 _ _ _ _, fun h => f0 (h.resolve_left (by decide)), fun h => f1 (h.resolve_left (by decide)), fun h => f2 (h.resolve_left (by decide)), fun h => f3 (h.resolve_left (by decide)), fun h => f4 (h.resolve_left (by decide)), fun h => f5 (h.resolve_left (by decide)), fun h => f6 (h.resolve_left (by decide)), fun h => f7 (h.resolve_left (by decide)), fun h => (stay4_isV _).put (f8 (h.resolve_left (by decide))) hB, fun h => f9 (h.resolve_left (by decide)), fun h => (stay4_isV _).put (f10 (h.resolve_left (by decide))) hB, fun h => f11 (h.resolve_left (by decide)), fun h => by show Slot4 _ _ _ _ (T 9); rw [em]; exact Slot4.stored (stay4_isV _) hm1 hB (.inl (by decide)) hr, fun h => f14 (h.resolve_left (by decide)), fun _ => .inr da⟩
              case s14 =>
                rintro L T W hd hn hJ K hK
                have HJ := Lib.hid hJ
                clear hJ
                have hb := HJ.out.1
                have e11 := HJ.out.2.2.2.2.2.2.2.2.2.2.2.2.1 hd.1
                have e0 := HJ.out.2.1 hd.2.2.1
                have e1 := HJ.out.2.2.1 hd.2.2.2.1
                have e2 := HJ.out.2.2.2.1 hd.2.2.2.2.1
                have e3 := HJ.out.2.2.2.2.1 hd.2.2.2.2.2.1
                have e4 := HJ.out.2.2.2.2.2.1 hd.2.2.2.2.2.2.1
                have e5 := HJ.out.2.2.2.2.2.2.1 hd.2.2.2.2.2.2.2.1
                have e6 := HJ.out.2.2.2.2.2.2.2.1 hd.2.2.2.2.2.2.2.2.1
                have e7 := HJ.out.2.2.2.2.2.2.2.2.1 hd.2.2.2.2.2.2.2.2.2.1
                have r8 := HJ.out.2.2.2.2.2.2.2.2.2.1 hd.2.2.2.2.2.2.2.2.2.2.1
                have e9 := HJ.out.2.2.2.2.2.2.2.2.2.2.1 hd.2.2.2.2.2.2.2.2.2.2.2.1
                have r10 := HJ.out.2.2.2.2.2.2.2.2.2.2.2.1 hd.2.2.2.2.2.2.2.2.2.2.2.2.1
                simp only [ovr, Act.put, List.setIfInBounds_toArray, List.set_cons_zero, List.set_cons_succ, e11, e0, e1, e2, e3, e4, e5, e6, e7, e9] at hK ⊢
                have HK := Lib.hid hK
                clear hK
                refine wpOp_want rfl rfl ?_
                go_simp
                obtain ⟨hb, f0, f1, f2, f3, f4, f5, f6, f7, f8, f9, f10, f11, f12, f14, c12⟩ := HJ.out
                exact HK.out _ _ ⟨hb, fun h => f0 (h.resolve_left (by decide)), fun h => f1 (h.resolve_left (by decide)), fun h => f2 (h.resolve_left (by decide)), fun h => f3 (h.resolve_left (by decide)), fun h => f4 (h.resolve_left (by decide)), fun h => f5 (h.resolve_left (by decide)), fun h => f6 (h.resolve_left (by decide)), fun h => f7 (h.resolve_left (by decide)), fun h => f8 (h.resolve_left (by decide)), fun h => f9 (h.resolve_left (by decide)), fun h => f10 (h.resolve_left (by decide)), fun h => f11 (h.resolve_left (by decide)), fun h => ((f12 (h.resolve_left (by decide)))).congr ⟨fun h => .inr h, fun h => h.resolve_left (by decide)⟩, fun _ => rfl, fun h => .inr (c12 (h.resolve_left (by decide)))⟩
              case he =>
                rintro T W ⟨hb, f0, f1, f2, f3, f4, f5, f6, f7, f8, f9, f10, f11, f12, f14, c12⟩
                simp only [ovr, List.setIfInBounds_toArray, List.set_cons_zero, List.set_cons_succ]
                go_wp2_with fail
                go_meet
                exact ⟨rfl, hb⟩
            case rest =>
              obtain ⟨rfl, hb⟩ := hcut
              have X4 := X4.mono hb
              have X7 := X7.mono hb
              have HVe := Lib.hid (HVe.out.mono hb)
              have HVf := Lib.hid (HVf.out.mono hb)
              have hE := hE.mono hb
              have hbw := Below.step hbw hb (Nat.le_refl _)
              clear hb
              have HO : Hid (o = none) := Lib.hid (by rcases HD2.out with h | h; exact absurd h.1 hM; exact h.2)
              obtain ⟨cX4_0, cX4_1, cX4_2, cX4_3, _, _, _, _⟩ := id X4
              go_wp2
              refine bodyPost_ret (v := .tuple #[.agg #[.bool false, .slice none 0 0, .bool false, .slice none 0 0], .int .i64 3]) (by simp [results, Tryz.results40, go_sem, cX4_0, cX4_1, cX4_2, cX4_3]) rfl ⟨DotP.no HO rfl, Below.put4 hbw (by omega) (.bool false) (.slice none 0 0) (.bool false) (.slice none 0 0)⟩
        · obtain rfl : k = la.length := by omega
          have HO : Hid (o = some acc) := Lib.hid (by have h := HD.out; rw [List.drop_length] at h; exact h)
          obtain ⟨cX7_0, cX7_1, cX7_2, cX7_3, _, _, _, _⟩ := id X7
          obtain ⟨cX4_0, cX4_1, cX4_2, cX4_3, _, _, _, _⟩ := id X4
          go_wp2
          refine bodyPost_ret (v := .tuple #[.agg #[.bool nge, .slice aoe ne cape, .bool ngf, .slice aof nf capf], .int .i64 0]) (by simp [results, Tryz.results40, go_sem, cX4_0, cX4_1, cX4_2, cX4_3]) rfl ⟨DotP.got HO ⟨nge, aoe, ne, cape, ngf, aof, nf, capf, rfl, Lib.hid (HVe.out.put4B X4 (.bool nge) (.slice aoe ne cape) (.bool ngf) (.slice aof nf capf)), Lib.hid (HVf.out.put4B X4 (.bool nge) (.slice aoe ne cape) (.bool ngf) (.slice aof nf capf))⟩, Below.put4 hbw (by omega) (.bool nge) (.slice aoe ne cape) (.bool ngf) (.slice aof nf capf)⟩

set_option maxRecDepth 100000 in
set_option maxHeartbeats 1600000 in
theorem rDot_arity {α β : Type} (la : List α) (lb : List β) (aa ab : Option Addr) (ca cb : Nat) (w : World) (hl : la.length ≠ lb.length) (hE : Env w) :
    Calls Tryz.prog 41 #[.slice aa la.length ca, .slice ab lb.length cb] w fun e w' => NoQ 6 e ∧ Below w.heap.size w w' := by
  have hE0 := hE
  have hbw := Below.refl w.heap.size w
  go_enter Tryz.func41, Tryz.ntmps41
  go_upto_region 1 with fail
  have X4 := Box4.new w (.bool false) (.slice none 0 0) (.bool false) (.slice none 0 0) 29
  have hb := below_alloc w (.cells #[.bool false, .slice none 0 0, .bool false, .slice none 0 0] 29)
  generalize w.alloc (.cells #[.bool false, .slice none 0 0, .bool false, .slice none 0 0] 29) = v1 at *
  have hE := hE.mono hb
  have hbw := Below.step hbw hb (Nat.le_refl _)
  clear hb
  have hne : ((la.length : Int) != lb.length) = true := by rw [bne_iff_ne]; omega
  obtain ⟨cX4_0, cX4_1, cX4_2, cX4_3, _, _, _, _⟩ := id X4
  go_wp2
  refine bodyPost_ret (v := .tuple #[.agg #[.bool false, .slice none 0 0, .bool false, .slice none 0 0], .int .i64 6]) (by simp [results, Tryz.results41, go_sem, cX4_0, cX4_1, cX4_2, cX4_3]) rfl ⟨rfl, Below.put4 hbw (by omega) (.bool false) (.slice none 0 0) (.bool false) (.slice none 0 0)⟩

set_option maxRecDepth 100000 in
set_option maxHeartbeats 6400000 in
theorem rDot_any (la lb : List Rat) (o : Option Rat) (aa ab : Option Addr) (ca cb : Nat) (w : World) (hm : la.length ≤ 1000000000) (hl : la.length = lb.length) (ua : UQ w aa (la.map some)) (ub : UQ w ab (lb.map some)) (hD : Hid (DotS 0 la lb o)) (hE : Env w) :
    Calls Tryz.prog 41 #[.slice aa la.length ca, .slice ab lb.length cb] w fun e w' => DotP o w' e ∧ Below w.heap.size w w' := by
  have hlb : lb.length ≤ 1000000000 := by omega
  have hne : ((la.length : Int) != lb.length) = false := by rw [bne_eq_false_iff_eq]; omega
  have hl1 : la.length ≤ lb.length := by omega
  have hl2 : lb.length ≤ la.length := by omega
  clear hl
  have hE0 := hE
  have hE00 := hE
  have hbw := Below.refl w.heap.size w
  go_enter Tryz.func41, Tryz.ntmps41
  go_upto_region 1 with fail
  have X4 := Box4.new w (.bool false) (.slice none 0 0) (.bool false) (.slice none 0 0) 29
  have hb := below_alloc w (.cells #[.bool false, .slice none 0 0, .bool false, .slice none 0 0] 29)
  generalize w.alloc (.cells #[.bool false, .slice none 0 0, .bool false, .slice none 0 0] 29) = v1 at *
  have hE := hE.mono hb
  have hbw := Below.step hbw hb (Nat.le_refl _)
  clear hb
  go_wp2_with fail
  go_loopw [6] (fun s wr => ∃ k : Nat, k ≤ la.length ∧ s = .int .i64 k ∧ Box4 wr w.heap.size (.bool false) (.slice none 0 0) (.bool false) (.slice none 0 0) ∧ Env wr ∧ Below w.heap.size w wr) (fun s _ => la.length - (intOf s).toNat)
  case atStart => exact ⟨0, Nat.zero_le _, rfl, X4, hE, hbw⟩
  case round =>
    clear X4 hE hbw
    obtain ⟨k, hk, rfl, X4, hE, hbw⟩ := hrel
    by_cases hlt : k < la.length
    · have hltb : k < lb.length := by omega
      obtain ⟨ra, hra⟩ : ∃ x, la[k]? = some x := ⟨la[k], List.getElem?_eq_getElem hlt⟩
      obtain ⟨rb, hrb⟩ : ∃ x, lb[k]? = some x := ⟨lb[k], List.getElem?_eq_getElem hltb⟩
      obtain ⟨b1, off1, ngp, aop, np, capp, ngq, aoq, nq, capq, ea, FA, HVA⟩ := (ua.mono hbw) k (some ra) (by simp [hra])
      obtain ⟨b2, off2, ngr, aor, nr, capr, ngs, aos, ns, caps, eb, FB, HVB⟩ := (ub.mono hbw) k (some rb) (by simp [hrb])
      have VA : VQ wr _ true := RatV.vq HVA
      have VB : VQ wr _ true := RatV.vq HVB
      clear hra hrb HVA HVB ua ub
      subst ea
      subst eb
      obtain ⟨cFA_0, cFA_1, cFA_2, cFA_3, _, _, _, _⟩ := id FA
      go_wp2_with fail
      (with_reducible refine (rValid_v _ true wr VA hE).mono ?_)
      rintro e v2 ⟨rfl, hb⟩
      have VA := VA.mono hb
      have VB := VB.mono hb
      have FA := FA.mono hb
      have FB := FB.mono hb
      have X4 := X4.mono hb
      have hE := hE.mono hb
      have hbw := Below.step hbw hb (Nat.le_refl _)
      clear hb
      clear cFA_0 cFA_1 cFA_2 cFA_3
      obtain ⟨cFB_0, cFB_1, cFB_2, cFB_3, _, _, _, _⟩ := id FB
      go_wp2_with fail
      (with_reducible refine (rValid_v _ true v2 VB hE).mono ?_)
      rintro e v3 ⟨rfl, hb⟩
      have VA := VA.mono hb
      have VB := VB.mono hb
      have FA := FA.mono hb
      have FB := FB.mono hb
      have X4 := X4.mono hb
      have hE := hE.mono hb
      have hbw := Below.step hbw hb (Nat.le_refl _)
      clear hb
      clear cFB_0 cFB_1 cFB_2 cFB_3
      go_wp2
      go_roundw
      case rel => exact ⟨k + 1, by omega, by go_num, X4, hE, hbw⟩
      case measure => simp [intOf]; omega
    · obtain rfl : k = la.length := by omega
      have hsz := hbw.size
      go_wp2_with fail
      (with_reducible refine (zero_ok wr hE).mono ?_)
      rintro e v2 ⟨⟨nge, aoe, ne, cape, ngf, aof, nf, capf, rfl, HVe, HVf⟩, hb⟩
      have X4 := X4.mono hb
      have hE := hE.mono hb
      have hbw := Below.step hbw hb (Nat.le_refl _)
      clear hb
      go_upto_region 9 with fail
      have lX7X4 := X4.lt
      have X7 := Box4.new v2 (.bool nge) (.slice aoe ne cape) (.bool ngf) (.slice aof nf capf) 29
      have hb := below_alloc v2 (.cells #[.bool nge, .slice aoe ne cape, .bool ngf, .slice aof nf capf] 29)
      generalize v2.alloc (.cells #[.bool nge, .slice aoe ne cape, .bool ngf, .slice aof nf capf] 29) = v3 at *
      have X4 := X4.mono hb
      have HVe := Lib.hid (HVe.out.mono hb)
      have HVf := Lib.hid (HVf.out.mono hb)
      have hE := hE.mono hb
      have hbw := Below.step hbw hb (Nat.le_refl _)
      clear hb
      obtain ⟨g7, hg7⟩ : ∃ g, g = v2.heap.size := ⟨_, rfl⟩
      rw [← hg7] at X7 ⊢
      have lg7 : w.heap.size < g7 := by rw [hg7]; have := lX7X4; omega
      clear hg7
      clear lX7X4
      go_wp2_with fail
      go_loopw [8] (fun s wr => ∃ (k : Nat) (acc : Rat), k ≤ la.length ∧ s = .int .i64 k ∧ Hid (DotS acc (la.drop k) (lb.drop k) o) ∧ (∃ (n1 : Bool) (a1 : Option Addr) (l1 c1 : Nat) (n2 : Bool) (a2 : Option Addr) (l2 c2 : Nat), Box4 wr g7 (.bool n1) (.slice a1 l1 c1) (.bool n2) (.slice a2 l2 c2) ∧ Hid (IntV wr (.agg #[.bool n1, .slice a1 l1 c1]) acc.num) ∧ Hid (IntV wr (.agg #[.bool n2, .slice a2 l2 c2]) (acc.den : Int))) ∧ Box4 wr w.heap.size (.bool false) (.slice none 0 0) (.bool false) (.slice none 0 0) ∧ Env wr ∧ Below w.heap.size w wr) (fun s _ => la.length - (intOf s).toNat)
      case atStart => exact ⟨0, 0, Nat.zero_le _, rfl, hD, ⟨_, _, _, _, _, _, _, _, X7, HVe, HVf⟩, X4, hE, hbw⟩
      case round =>
        clear X4 X7 HVe HVf hE hbw hsz
        obtain ⟨k, acc, hk, rfl, HD, ⟨nge, aoe, ne, cape, ngf, aof, nf, capf, X7, HVe, HVf⟩, X4, hE, hbw⟩ := hrel
        by_cases hlt : k < la.length
        · have hltb : k < lb.length := by omega
          obtain ⟨ra, hra⟩ : ∃ x, la[k]? = some x := ⟨la[k], List.getElem?_eq_getElem hlt⟩
          obtain ⟨rb, hrb⟩ : ∃ x, lb[k]? = some x := ⟨lb[k], List.getElem?_eq_getElem hltb⟩
          have HD2 : Hid ((MulS ra rb ∧ AddS acc (ra * rb) ∧ DotS (acc + ra * rb) (la.drop (k + 1)) (lb.drop (k + 1)) o) ∨ (¬ (MulS ra rb ∧ AddS acc (ra * rb)) ∧ o = none)) := Lib.hid (by have h := HD.out; rw [drop_at hra, drop_at hrb] at h; exact h)
          obtain ⟨b1, off1, ngp, aop, np, capp, ngq, aoq, nq, capq, ea, FA, HA⟩ := (ua.mono hbw) k (some ra) (by simp [hra])
          obtain ⟨b2, off2, ngr, aor, nr, capr, ngs, aos, ns, caps, eb, FB, HB⟩ := (ub.mono hbw) k (some rb) (by simp [hrb])
          have HA : RatV wr _ ra := HA
          have HB : RatV wr _ rb := HB
          clear hra hrb ua ub HD
          subst ea
          subst eb
          by_cases hM : MulS ra rb
          · have HM := Lib.hid hM
            go_upto_region 12 with fail
            obtain ⟨wy, rfl⟩ : ∃ wy : World, wy = wr := ⟨_, rfl⟩
            go_cut [9, 10] (fun s9 s10 wc => BoxQ4 wc wy.heap.size s9 (ra * rb) ∧ s10 = .int .i64 0 ∧ Below wy.heap.size wy wc)
            case first =>
              refine wp_region_flow (fun L T W => Below wy.heap.size wy W ∧ (L 0 → T 46 = .slice (some ⟨b1, off1, none⟩) la.length ca) ∧ (L 1 → T 47 = .int .i64 k) ∧ (L 2 → T 48 = .pointer (some ⟨b1, off1 + k * 4, none⟩)) ∧ (L 3 → T 49 = .agg #[.bool ngp, .slice aop np capp, .bool ngq, .slice aoq nq capq]) ∧ (L 4 → T 50 = .slice (some ⟨b2, off2, none⟩) lb.length cb) ∧ (L 5 → T 51 = .int .i64 k) ∧ (L 6 → T 52 = .pointer (some ⟨b2, off2 + k * 4, none⟩)) ∧ (L 7 → T 53 = .agg #[.bool ngr, .slice aor nr capr, .bool ngs, .slice aos ns caps]) ∧ (L 8 → (TupQ4 (ra * rb)) W (T 54)) ∧ (L 9 → (TupQ4 (ra * rb)) W (T 45)) ∧ (L 10 → (fun W v => RatV W v (ra * rb)) W (T 55)) ∧ (L 11 → T 56 = .int .i64 0) ∧ (L 12 → Slot4 W wy.heap.size (fun W v => RatV W v (ra * rb)) (L 13) (T 9)) ∧ (L 14 → T 10 = .int .i64 0) ∧ (L 13 → L 12)) [46, 47, 48, 49, 50, 51, 52, 53, 54, 45, 55, 56, 9, 10] (by kernel_rfl) (by kernel_rfl) (by kernel_rfl) ?h0 ⟨?s0, ?s1, ?s2, ?s3, ?s4, ?s5, ?s6, ?s7, ?s8, ?s9, ?s10, ?s11, ?s12, ?s13, ?s14, trivial⟩ ?he ?hm
              case h0 => exact fun T => ⟨(Below.refl _ _).drew, fun h => h.elim, fun h => h.elim, fun h => h.elim, fun h => h.elim, fun h => h.elim, fun h => h.elim, fun h => h.elim, fun h => h.elim, fun h => h.elim, fun h => h.elim, fun h => h.elim, fun h => h.elim, fun h => h.elim, fun h => h.elim, fun h => h.elim⟩
              case hm =>
                rintro L T W hL ⟨hb, f0, f1, f2, f3, f4, f5, f6, f7, f8, f9, f10, f11, f12, f14, c12⟩
                exact ⟨hb, fun _ => f0 (hL _ (by decide)), fun _ => f1 (hL _ (by decide)), fun _ => f2 (hL _ (by decide)), fun _ => f3 (hL _ (by decide)), fun _ => f4 (hL _ (by decide)), fun _ => f5 (hL _ (by decide)), fun _ => f6 (hL _ (by decide)), fun _ => f7 (hL _ (by decide)), fun _ => f8 (hL _ (by decide)), fun _ => f9 (hL _ (by decide)), fun _ => f10 (hL _ (by decide)), fun _ => f11 (hL _ (by decide)), fun _ => (f12 (hL _ (by decide))).congr ⟨fun _ => by decide, fun _ => hL _ (by decide)⟩, fun _ => f14 (hL _ (by decide)), fun _ => by decide⟩
              case s0 =>
                rintro L T W hd hn hJ K hK
                have HJ := Lib.hid hJ
                clear hJ
                have hb := HJ.out.1
                simp only [ovr, Act.put, List.setIfInBounds_toArray, List.set_cons_zero, List.set_cons_succ] at hK ⊢
                have HK := Lib.hid hK
                clear hK
                refine wpOp_want rfl rfl ?_
                go_simp
                obtain ⟨hb, f0, f1, f2, f3, f4, f5, f6, f7, f8, f9, f10, f11, f12, f14, c12⟩ := HJ.out
                exact HK.out _ _ ⟨hb, fun _ => rfl, fun h => f1 (h.resolve_left (by decide)), fun h => f2 (h.resolve_left (by decide)), fun h => f3 (h.resolve_left (by decide)), fun h => f4 (h.resolve_left (by decide)), fun h => f5 (h.resolve_left (by decide)), fun h => f6 (h.resolve_left (by decide)), fun h => f7 (h.resolve_left (by decide)), fun h => f8 (h.resolve_left (by decide)), fun h => f9 (h.resolve_left (by decide)), fun h => f10 (h.resolve_left (by decide)), fun h => f11 (h.resolve_left (by decide)), fun h => ((f12 (h.resolve_left (by decide)))).congr ⟨fun h => .inr h, fun h => h.resolve_left (by decide)⟩, fun h => f14 (h.resolve_left (by decide)), fun h => .inr (c12 (h.resolve_left (by decide)))⟩
              case s1 =>
                rintro L T W hd hn hJ K hK
                have HJ := Lib.hid hJ
                clear hJ
                have hb := HJ.out.1
                simp only [ovr, Act.put, List.setIfInBounds_toArray, List.set_cons_zero, List.set_cons_succ] at hK ⊢
                have HK := Lib.hid hK
                clear hK
                refine wpOp_want rfl rfl ?_
                go_simp
                obtain ⟨hb, f0, f1, f2, f3, f4, f5, f6, f7, f8, f9, f10, f11, f12, f14, c12⟩ := HJ.out
                exact HK.out _ _ ⟨hb, fun h => f0 (h.resolve_left (by decide)), fun _ => rfl, fun h => f2 (h.resolve_left (by decide)), fun h => f3 (h.resolve_left (by decide)), fun h => f4 (h.resolve_left (by decide)), fun h => f5 (h.resolve_left (by decide)), fun h => f6 (h.resolve_left (by decide)), fun h => f7 (h.resolve_left (by decide)), fun h => f8 (h.resolve_left (by decide)), fun h => f9 (h.resolve_left (by decide)), fun h => f10 (h.resolve_left (by decide)), fun h => f11 (h.resolve_left (by decide)), fun h => ((f12 (h.resolve_left (by decide)))).congr ⟨fun h => .inr h, fun h => h.resolve_left (by decide)⟩, fun h => f14 (h.resolve_left (by decide)), fun h => .inr (c12 (h.resolve_left (by decide)))⟩
              case s2 =>
                rintro L T W hd hn hJ K hK
                have HJ := Lib.hid hJ
                clear hJ
                have hb := HJ.out.1
                have e0 := HJ.out.2.1 hd.1
                have e1 := HJ.out.2.2.1 hd.2.1
                simp only [ovr, Act.put, List.setIfInBounds_toArray, List.set_cons_zero, List.set_cons_succ, e0, e1] at hK ⊢
                have HK := Lib.hid hK
                clear hK
                refine wpOp_want rfl rfl ?_
                go_simp
                obtain ⟨hb, f0, f1, f2, f3, f4, f5, f6, f7, f8, f9, f10, f11, f12, f14, c12⟩ := HJ.out
                exact HK.out _ _ ⟨hb, fun h => f0 (h.resolve_left (by decide)), fun h => f1 (h.resolve_left (by decide)), fun _ => rfl, fun h => f3 (h.resolve_left (by decide)), fun h => f4 (h.resolve_left (by decide)), fun h => f5 (h.resolve_left (by decide)), fun h => f6 (h.resolve_left (by decide)), fun h => f7 (h.resolve_left (by decide)), fun h => f8 (h.resolve_left (by decide)), fun h => f9 (h.resolve_left (by decide)), fun h => f10 (h.resolve_left (by decide)), fun h => f11 (h.resolve_left (by decide)), fun h => ((f12 (h.resolve_left (by decide)))).congr ⟨fun h => .inr h, fun h => h.resolve_left (by decide)⟩, fun h => f14 (h.resolve_left (by decide)), fun h => .inr (c12 (h.resolve_left (by decide)))⟩
              case s3 =>
                rintro L T W hd hn hJ K hK
                have HJ := Lib.hid hJ
                clear hJ
                have hb := HJ.out.1
                have e2 := HJ.out.2.2.2.1 hd.1
                simp only [ovr, Act.put, List.setIfInBounds_toArray, List.set_cons_zero, List.set_cons_succ, e2] at hK ⊢
                have HK := Lib.hid hK
                clear hK
                obtain ⟨c0, c1, c2, c3, c4, c5, c6, c7⟩ := (fun W => S8 (W := W) FA FB) W hb
                refine wpOp_want rfl rfl ?_
                go_simp
                obtain ⟨hb, f0, f1, f2, f3, f4, f5, f6, f7, f8, f9, f10, f11, f12, f14, c12⟩ := HJ.out
                exact HK.out _ _ ⟨hb, fun h => f0 (h.resolve_left (by decide)), fun h => f1 (h.resolve_left (by decide)), fun h => f2 (h.resolve_left (by decide)), fun _ => rfl, fun h => f4 (h.resolve_left (by decide)), fun h => f5 (h.resolve_left (by decide)), fun h => f6 (h.resolve_left (by decide)), fun h => f7 (h.resolve_left (by decide)), fun h => f8 (h.resolve_left (by decide)), fun h => f9 (h.resolve_left (by decide)), fun h => f10 (h.resolve_left (by decide)), fun h => f11 (h.resolve_left (by decide)), fun h => ((f12 (h.resolve_left (by decide)))).congr ⟨fun h => .inr h, fun h => h.resolve_left (by decide)⟩, fun h => f14 (h.resolve_left (by decide)), fun h => .inr (c12 (h.resolve_left (by decide)))⟩
              case s4 =>
                rintro L T W hd hn hJ K hK
                have HJ := Lib.hid hJ
                clear hJ
                have hb := HJ.out.1
                simp only [ovr, Act.put, List.setIfInBounds_toArray, List.set_cons_zero, List.set_cons_succ] at hK ⊢
                have HK := Lib.hid hK
                clear hK
                refine wpOp_want rfl rfl ?_
                go_simp
                obtain ⟨hb, f0, f1, f2, f3, f4, f5, f6, f7, f8, f9, f10, f11, f12, f14, c12⟩ := HJ.out
                exact HK.out _ _ ⟨hb, fun h => f0 (h.resolve_left (by decide)), fun h => f1 (h.resolve_left (by decide)), fun h => f2 (h.resolve_left (by decide)), fun h => f3 (h.resolve_left (by decide)), fun _ => rfl, fun h => f5 (h.resolve_left (by decide)), fun h => f6 (h.resolve_left (by decide)), fun h => f7 (h.resolve_left (by decide)), fun h => f8 (h.resolve_left (by decide)), fun h => f9 (h.resolve_left (by decide)), fun h => f10 (h.resolve_left (by decide)), fun h => f11 (h.resolve_left (by decide)), fun h => ((f12 (h.resolve_left (by decide)))).congr ⟨fun h => .inr h, fun h => h.resolve_left (by decide)⟩, fun h => f14 (h.resolve_left (by decide)), fun h => .inr (c12 (h.resolve_left (by decide)))⟩
              case s5 =>
                rintro L T W hd hn hJ K hK
                have HJ := Lib.hid hJ
                clear hJ
                have hb := HJ.out.1
                simp only [ovr, Act.put, List.setIfInBounds_toArray, List.set_cons_zero, List.set_cons_succ] at hK ⊢
                have HK := Lib.hid hK
                clear hK
                refine wpOp_want rfl rfl ?_
                go_simp
                obtain ⟨hb, f0, f1, f2, f3, f4, f5, f6, f7, f8, f9, f10, f11, f12, f14, c12⟩ := HJ.out
                exact HK.out _ _ ⟨hb, fun h => f0 (h.resolve_left (by decide)), fun h => f1 (h.resolve_left (by decide)), fun h => f2 (h.resolve_left (by decide)), fun h => f3 (h.resolve_left (by decide)), fun h => f4 (h.resolve_left (by decide)), fun _ => rfl, fun h => f6 (h.resolve_left (by decide)), fun h => f7 (h.resolve_left (by decide)), fun h => f8 (h.resolve_left (by decide)), fun h => f9 (h.resolve_left (by decide)), fun h => f10 (h.resolve_left (by decide)), fun h => f11 (h.resolve_left (by decide)), fun h => ((f12 (h.resolve_left (by decide)))).congr ⟨fun h => .inr h, fun h => h.resolve_left (by decide)⟩, fun h => f14 (h.resolve_left (by decide)), fun h => .inr (c12 (h.resolve_left (by decide)))⟩
              case s6 =>
                rintro L T W hd hn hJ K hK
                have HJ := Lib.hid hJ
                clear hJ
                have hb := HJ.out.1
                have e4 := HJ.out.2.2.2.2.2.1 hd.1
                have e5 := HJ.out.2.2.2.2.2.2.1 hd.2.1
                simp only [ovr, Act.put, List.setIfInBounds_toArray, List.set_cons_zero, List.set_cons_succ, e4, e5] at hK ⊢
                have HK := Lib.hid hK
                clear hK
                refine wpOp_want rfl rfl ?_
                go_simp
                obtain ⟨hb, f0, f1, f2, f3, f4, f5, f6, f7, f8, f9, f10, f11, f12, f14, c12⟩ := HJ.out
                exact HK.out _ _ ⟨hb, fun h => f0 (h.resolve_left (by decide)), fun h => f1 (h.resolve_left (by decide)), fun h => f2 (h.resolve_left (by decide)), fun h => f3 (h.resolve_left (by decide)), fun h => f4 (h.resolve_left (by decide)), fun h => f5 (h.resolve_left (by decide)), fun _ => rfl, fun h => f7 (h.resolve_left (by decide)), fun h => f8 (h.resolve_left (by decide)), fun h => f9 (h.resolve_left (by decide)), fun h => f10 (h.resolve_left (by decide)), fun h => f11 (h.resolve_left (by decide)), fun h => ((f12 (h.resolve_left (by decide)))).congr ⟨fun h => .inr h, fun h => h.resolve_left (by decide)⟩, fun h => f14 (h.resolve_left (by decide)), fun h => .inr (c12 (h.resolve_left (by decide)))⟩
              case s7 =>
                rintro L T W hd hn hJ K hK
                have HJ := Lib.hid hJ
                clear hJ
                have hb := HJ.out.1
                have e6 := HJ.out.2.2.2.2.2.2.2.1 hd.1
                simp only [ovr, Act.put, List.setIfInBounds_toArray, List.set_cons_zero, List.set_cons_succ, e6] at hK ⊢
                have HK := Lib.hid hK
                clear hK
                obtain ⟨c0, c1, c2, c3, c4, c5, c6, c7⟩ := (fun W => S8 (W := W) FA FB) W hb
                refine wpOp_want rfl rfl ?_
                go_simp
                obtain ⟨hb, f0, f1, f2, f3, f4, f5, f6, f7, f8, f9, f10, f11, f12, f14, c12⟩ := HJ.out
                exact HK.out _ _ ⟨hb, fun h => f0 (h.resolve_left (by decide)), fun h => f1 (h.resolve_left (by decide)), fun h => f2 (h.resolve_left (by decide)), fun h => f3 (h.resolve_left (by decide)), fun h => f4 (h.resolve_left (by decide)), fun h => f5 (h.resolve_left (by decide)), fun h => f6 (h.resolve_left (by decide)), fun _ => rfl, fun h => f8 (h.resolve_left (by decide)), fun h => f9 (h.resolve_left (by decide)), fun h => f10 (h.resolve_left (by decide)), fun h => f11 (h.resolve_left (by decide)), fun h => ((f12 (h.resolve_left (by decide)))).congr ⟨fun h => .inr h, fun h => h.resolve_left (by decide)⟩, fun h => f14 (h.resolve_left (by decide)), fun h => .inr (c12 (h.resolve_left (by decide)))⟩
              case s8 =>
                rintro L T W hd hn hJ K hK
                have HJ := Lib.hid hJ
                clear hJ
                have hb := HJ.out.1
                have e3 := HJ.out.2.2.2.2.1 hd.1
                have e7 := HJ.out.2.2.2.2.2.2.2.2.1 hd.2.1
                simp only [ovr, Act.put, List.setIfInBounds_toArray, List.set_cons_zero, List.set_cons_succ, e3, e7] at hK ⊢
                have HK := Lib.hid hK
                clear hK
                refine wpOp_want rfl rfl ?_
                go_simp
                (with_reducible refine (rMul_q _ _ ra rb _ (HA.mono hb) (HB.mono hb) HM (hE.mono hb)).mono ?_)
                rintro e w1 ⟨⟨nga, aoa, na, capa, ngb, aob, nb, capb, rfl, HVa, HVb⟩, hb1⟩
                have hr : TupQ4 (ra * rb) w1 (.tuple #[.agg #[.bool nga, .slice aoa na capa, .bool ngb, .slice aob nb capb], .int .i64 0]) := ⟨_, rfl, RatV.mk' HVa HVb⟩
                dsimp only
                obtain ⟨hb, f0, f1, f2, f3, f4, f5, f6, f7, f8, f9, f10, f11, f12, f14, c12⟩ := HJ.out
                exact HK.out _ _ ⟨Below.step hb hb1 (Nat.le_refl _), fun h => f0 (h.resolve_left (by decide)), fun h => f1 (h.resolve_left (by decide)), fun h => f2 (h.resolve_left (by decide)), fun h => f3 (h.resolve_left (by decide)), fun h => f4 (h.resolve_left (by decide)), fun h => f5 (h.resolve_left (by decide)), fun h => f6 (h.resolve_left (by decide)), fun h => f7 (h.resolve_left (by decide)), fun _ => hr, fun h => (stay4_tupQ4 (ra * rb)).mono (f9 (h.resolve_left (by decide))) hb1, fun h => (stay4_rat (ra * rb)).mono (f10 (h.resolve_left (by decide))) hb1, fun h => f11 (h.resolve_left (by decide)), fun h => ((f12 (h.resolve_left (by decide))).mono (stay4_rat (ra * rb)) hb1).congr ⟨fun h => .inr h, fun h => h.resolve_left (by decide)⟩, fun h => f14 (h.resolve_left (by decide)), fun h => .inr (c12 (h.resolve_left (by decide)))⟩
              case s9 =>
                rintro L T W hd hn hJ K hK
                have HJ := Lib.hid hJ
                clear hJ
                have hb := HJ.out.1
                have r8 := HJ.out.2.2.2.2.2.2.2.2.2.1 hd.1
                simp only [ovr, Act.put, List.setIfInBounds_toArray, List.set_cons_zero, List.set_cons_succ] at hK ⊢
                have HK := Lib.hid hK
                clear hK
                refine wpOp_want rfl rfl ?_
                go_simp
                obtain ⟨hb, f0, f1, f2, f3, f4, f5, f6, f7, f8, f9, f10, f11, f12, f14, c12⟩ := HJ.out
                exact HK.out _ _ ⟨hb, fun h => f0 (h.resolve_left (by decide)), fun h => f1 (h.resolve_left (by decide)), fun h => f2 (h.resolve_left (by decide)), fun h => f3 (h.resolve_left (by decide)), fun h => f4 (h.resolve_left (by decide)), fun h => f5 (h.resolve_left (by decide)), fun h => f6 (h.resolve_left (by decide)), fun h => f7 (h.resolve_left (by decide)), fun h => f8 (h.resolve_left (by decide)), fun _ => r8, fun h => f10 (h.resolve_left (by decide)), fun h => f11 (h.resolve_left (by decide)), fun h => ((f12 (h.resolve_left (by decide)))).congr ⟨fun h => .inr h, fun h => h.resolve_left (by decide)⟩, fun h => f14 (h.resolve_left (by decide)), fun h => .inr (c12 (h.resolve_left (by decide)))⟩
              case s10 =>
                rintro L T W hd hn hJ K hK
                have HJ := Lib.hid hJ
                clear hJ
                have hb := HJ.out.1
                have r9 := HJ.out.2.2.2.2.2.2.2.2.2.2.1 hd.1
                obtain ⟨a, ev, hq⟩ := r9
                simp only [ovr, Act.put, List.setIfInBounds_toArray, List.set_cons_zero, List.set_cons_succ, ev] at hK ⊢
                have HK := Lib.hid hK
                clear hK
                refine wpOp_want rfl rfl ?_
                go_simp
                obtain ⟨hb, f0, f1, f2, f3, f4, f5, f6, f7, f8, f9, f10, f11, f12, f14, c12⟩ := HJ.out
                exact HK.out _ _ ⟨hb, fun h => f0 (h.resolve_left (by decide)), fun h => f1 (h.resolve_left (by decide)), fun h => f2 (h.resolve_left (by decide)), fun h => f3 (h.resolve_left (by decide)), fun h => f4 (h.resolve_left (by decide)), fun h => f5 (h.resolve_left (by decide)), fun h => f6 (h.resolve_left (by decide)), fun h => f7 (h.resolve_left (by decide)), fun h => f8 (h.resolve_left (by decide)), fun h => f9 (h.resolve_left (by decide)), fun _ => hq, fun h => f11 (h.resolve_left (by decide)), fun h => ((f12 (h.resolve_left (by decide)))).congr ⟨fun h => .inr h, fun h => h.resolve_left (by decide)⟩, fun h => f14 (h.resolve_left (by decide)), fun h => .inr (c12 (h.resolve_left (by decide)))⟩
              case s11 =>
                rintro L T W hd hn hJ K hK
                have HJ := Lib.hid hJ
                clear hJ
                have hb := HJ.out.1
                have r9 := HJ.out.2.2.2.2.2.2.2.2.2.2.1 hd.1
                obtain ⟨a, ev, hq⟩ := r9
                simp only [ovr, Act.put, List.setIfInBounds_toArray, List.set_cons_zero, List.set_cons_succ, ev] at hK ⊢
                have HK := Lib.hid hK
                clear hK
                refine wpOp_want rfl rfl ?_
                go_simp
                obtain ⟨hb, f0, f1, f2, f3, f4, f5, f6, f7, f8, f9, f10, f11, f12, f14, c12⟩ := HJ.out
                exact HK.out _ _ ⟨hb, fun h => f0 (h.resolve_left (by decide)), fun h => f1 (h.resolve_left (by decide)), fun h => f2 (h.resolve_left (by decide)), fun h => f3 (h.resolve_left (by decide)), fun h => f4 (h.resolve_left (by decide)), fun h => f5 (h.resolve_left (by decide)), fun h => f6 (h.resolve_left (by decide)), fun h => f7 (h.resolve_left (by decide)), fun h => f8 (h.resolve_left (by decide)), fun h => f9 (h.resolve_left (by decide)), fun h => f10 (h.resolve_left (by decide)), fun _ => rfl, fun h => ((f12 (h.resolve_left (by decide)))).congr ⟨fun h => .inr h, fun h => h.resolve_left (by decide)⟩, fun h => f14 (h.resolve_left (by decide)), fun h => .inr (c12 (h.resolve_left (by decide)))⟩
              case s12 =>
                rintro L T W hd hn hJ K hK
                have HJ := Lib.hid hJ
                clear hJ
                have hb := HJ.out.1
                simp only [ovr, Act.put, List.setIfInBounds_toArray, List.set_cons_zero, List.set_cons_succ] at hK ⊢
                have HK := Lib.hid hK
                clear hK
                refine wpOp_want rfl rfl ?_
                go_simp
                have hb1 := below_alloc W (.cells #[.bool false, .slice none 0 0, .bool false, .slice none 0 0] 29)
                obtain ⟨hb, f0, f1, f2, f3, f4, f5, f6, f7, f8, f9, f10, f11, f12, f14, c12⟩ := HJ.out
                exact HK.out _ _ ⟨Below.step hb hb1 (Nat.le_refl _), fun h => f0 (h.resolve_left (by decide)), fun h => f1 (h.resolve_left (by decide)), fun h => f2 (h.resolve_left (by decide)), fun h => f3 (h.resolve_left (by decide)), fun h => f4 (h.resolve_left (by decide)), fun h => f5 (h.resolve_left (by decide)), fun h => f6 (h.resolve_left (by decide)), fun h => f7 (h.resolve_left (by decide)), fun h => (stay4_tupQ4 (ra * rb)).mono (f8 (h.resolve_left (by decide))) hb1, fun h => (stay4_tupQ4 (ra * rb)).mono (f9 (h.resolve_left (by decide))) hb1, fun h => (stay4_rat (ra * rb)).mono (f10 (h.resolve_left (by decide))) hb1, fun h => f11 (h.resolve_left (by decide)), fun _ => Slot4.new W (fun h => hn (c12 (h.resolve_left (by decide)))) _ hb.size, fun h => f14 (h.resolve_left (by decide)), fun _ => .inl (by decide)⟩
              case s13 =>
                rintro L T W hd hn hJ K hK
                have HJ := Lib.hid hJ
                clear hJ
                have hb := HJ.out.1
                have r10 := HJ.out.2.2.2.2.2.2.2.2.2.2.2.1 hd.2.1
                have r8 := HJ.out.2.2.2.2.2.2.2.2.2.1 hd.2.2.1
                have e0 := HJ.out.2.1 hd.2.2.2.1
                have e1 := HJ.out.2.2.1 hd.2.2.2.2.1
                have e2 := HJ.out.2.2.2.1 hd.2.2.2.2.2.1
                have e3 := HJ.out.2.2.2.2.1 hd.2.2.2.2.2.2.1
                have e4 := HJ.out.2.2.2.2.2.1 hd.2.2.2.2.2.2.2.1
                have e5 := HJ.out.2.2.2.2.2.2.1 hd.2.2.2.2.2.2.2.2.1
                have e6 := HJ.out.2.2.2.2.2.2.2.1 hd.2.2.2.2.2.2.2.2.2.1
                have e7 := HJ.out.2.2.2.2.2.2.2.2.1 hd.2.2.2.2.2.2.2.2.2.2.1
                have r9 := HJ.out.2.2.2.2.2.2.2.2.2.2.1 hd.2.2.2.2.2.2.2.2.2.2.2.2.1
                have da := hd.1
                have hr := r10
                obtain ⟨m, em, hm1, hm2, hB⟩ := (HJ.out.2.2.2.2.2.2.2.2.2.2.2.2.2.1 da).open hn
                obtain ⟨ng, ao, nn, cap, ng2, ao2, nn2, cap2, ev⟩ := RatV.parts hr
                rw [ev] at hr
                obtain ⟨b0, b1, b2, b3, b4, b5, b6, b7⟩ := id hB
                simp only [ovr, Act.put, List.setIfInBounds_toArray, List.set_cons_zero, List.set_cons_succ, e0, e1, e2, e3, e4, e5, e6, e7, em, ev] at hK ⊢
                have HK := Lib.hid hK
                clear hK
                refine wpOp_want rfl rfl ?_
                go_simp
                obtain ⟨hb, f0, f1, f2, f3, f4, f5, f6, f7, f8, f9, f10, f11, f12, f14, c12⟩ := HJ.out
                exact HK.out undef _ ⟨Below.put4 hb hm1 _ _ _ _, fun h => f0 (h.resolve_left (by decide)), fun h => f1 (h.resolve_left (by decide)), fun h => f2 (h.resolve_left (by decide)), fun h => f3 (h.resolve_left (by decide)), fun h => f4 (h.resolve_left (by decide)), fun h => f5 (h.resolve_left (by decide)), fun h => f6 (h.resolve_left (by decide)), fun h => f7 (h.resolve_left (by decide)), fun h => (stay4_tupQ4 (ra * rb)).put (f8 (h.resolve_left (by decide))) hB, fun h => (stay4_tupQ4 (ra * rb)).put (f9 (h.resolve_left (by decide))) hB, fun h => (stay4_rat (ra * rb)).put (f10 (h.resolve_left (by decide))) hB, fun h => f11 (h.resolve_left (by decide)), fun h => by show Slot4 _ _ _ _ (T 9); rw [em]; exact Slot4.stored (stay4_rat (ra * rb)) hm1 hB (.inl (by decide)) hr, fun h => f14 (h.resolve_left (by decide)), fun _ => .inr da⟩
              case s14 =>
                rintro L T W hd hn hJ K hK
                have HJ := Lib.hid hJ
                clear hJ
                have hb := HJ.out.1
                have e11 := HJ.out.2.2.2.2.2.2.2.2.2.2.2.2.1 hd.1
                have e0 := HJ.out.2.1 hd.2.2.1
                have e1 := HJ.out.2.2.1 hd.2.2.2.1
                have e2 := HJ.out.2.2.2.1 hd.2.2.2.2.1
                have e3 := HJ.out.2.2.2.2.1 hd.2.2.2.2.2.1
                have e4 := HJ.out.2.2.2.2.2.1 hd.2.2.2.2.2.2.1
                have e5 := HJ.out.2.2.2.2.2.2.1 hd.2.2.2.2.2.2.2.1
                have e6 := HJ.out.2.2.2.2.2.2.2.1 hd.2.2.2.2.2.2.2.2.1
                have e7 := HJ.out.2.2.2.2.2.2.2.2.1 hd.2.2.2.2.2.2.2.2.2.1
                have r8 := HJ.out.2.2.2.2.2.2.2.2.2.1 hd.2.2.2.2.2.2.2.2.2.2.1
                have r9 := HJ.out.2.2.2.2.2.2.2.2.2.2.1 hd.2.2.2.2.2.2.2.2.2.2.2.1
                have r10 := HJ.out.2.2.2.2.2.2.2.2.2.2.2.1 hd.2.2.2.2.2.2.2.2.2.2.2.2.1
                simp only [ovr, Act.put, List.setIfInBounds_toArray, List.set_cons_zero, List.set_cons_succ, e11, e0, e1, e2, e3, e4, e5, e6, e7] at hK ⊢
                have HK := Lib.hid hK
                clear hK
                refine wpOp_want rfl rfl ?_
                go_simp
                obtain ⟨hb, f0, f1, f2, f3, f4, f5, f6, f7, f8, f9, f10, f11, f12, f14, c12⟩ := HJ.out
                exact HK.out _ _ ⟨hb, fun h => f0 (h.resolve_left (by decide)), fun h => f1 (h.resolve_left (by decide)), fun h => f2 (h.resolve_left (by decide)), fun h => f3 (h.resolve_left (by decide)), fun h => f4 (h.resolve_left (by decide)), fun h => f5 (h.resolve_left (by decide)), fun h => f6 (h.resolve_left (by decide)), fun h => f7 (h.resolve_left (by decide)), fun h => f8 (h.resolve_left (by decide)), fun h => f9 (h.resolve_left (by decide)), fun h => f10 (h.resolve_left (by decide)), fun h => f11 (h.resolve_left (by decide)), fun h => ((f12 (h.resolve_left (by decide)))).congr ⟨fun h => .inr h, fun h => h.resolve_left (by decide)⟩, fun _ => rfl, fun h => .inr (c12 (h.resolve_left (by decide)))⟩
              case he =>
                rintro T W ⟨hb, f0, f1, f2, f3, f4, f5, f6, f7, f8, f9, f10, f11, f12, f14, c12⟩
                simp only [ovr, List.setIfInBounds_toArray, List.set_cons_zero, List.set_cons_succ]
                have hr := (f12 (by decide)).boxF4 (by decide)
                go_wp2_with fail
                go_meet
                exact ⟨hr, rfl, hb⟩
            case rest =>
              obtain ⟨⟨g9, ngg, aog, ng, capg, ngh, aoh, nh, caph, rfl, hg9, X9, HVg, HVh⟩, rfl, hb⟩ := hcut
              have X4 := X4.mono hb
              have X7 := X7.mono hb
              have HVe := Lib.hid (HVe.out.mono hb)
              have HVf := Lib.hid (HVf.out.mono hb)
              have hE := hE.mono hb
              have hbw := Below.step hbw hb (Nat.le_refl _)
              clear hb
              by_cases hA : AddS acc (ra * rb)
              · have HA2 := Lib.hid hA
                have HD3 : Hid (DotS (acc + ra * rb) (la.drop (k + 1)) (lb.drop (k + 1)) o) := Lib.hid (by rcases HD2.out with h | h; exact h.2.2; exact absurd ⟨hM, hA⟩ h.1)
                clear HD2
                obtain ⟨cX7_0, cX7_1, cX7_2, cX7_3, _, _, _, _⟩ := id X7
                obtain ⟨cX9_0, cX9_1, cX9_2, cX9_3, _, _, _, _⟩ := id X9
                go_wp2_with fail
                (with_reducible refine (rAdd_q _ _ acc (ra * rb) wc (RatV.mk' HVe HVf) (RatV.mk' HVg HVh) HA2 hE).mono ?_)
                rintro e v51 ⟨⟨ngi, aoi, ni, capi, ngj, aoj, nj, capj, rfl, HVi, HVj⟩, hb⟩
                have X4 := X4.mono hb
                have X7 := X7.mono hb
                have HVe := Lib.hid (HVe.out.mono hb)
                have HVf := Lib.hid (HVf.out.mono hb)
                have X9 := X9.mono hb
                have HVg := Lib.hid (HVg.out.mono hb)
                have HVh := Lib.hid (HVh.out.mono hb)
                have hE := hE.mono hb
                have hbw := Below.step hbw hb (Nat.le_refl _)
                clear hb
                clear cX7_0 cX7_1 cX7_2 cX7_3 cX9_0 cX9_1 cX9_2 cX9_3
                obtain ⟨cX7_0, cX7_1, cX7_2, cX7_3, _, _, _, _⟩ := id X7
                go_upto_region 16 with fail
                clear cX7_0 cX7_1 cX7_2 cX7_3
                have HVi := Lib.hid (HVi.out.put4B X7 (.bool ngi) (.slice aoi ni capi) (.bool ngj) (.slice aoj nj capj))
                have HVj := Lib.hid (HVj.out.put4B X7 (.bool ngi) (.slice aoi ni capi) (.bool ngj) (.slice aoj nj capj))
                have X4 : Box4 _ w.heap.size _ _ _ _ := X4.putOther (m := g7) (y0 := .bool ngi) (y1 := .slice aoi ni capi) (y2 := .bool ngj) (y3 := .slice aoj nj capj) (by omega)
                have X7 := X7.put4I (.bool ngi) (.slice aoi ni capi) (.bool ngj) (.slice aoj nj capj)
                have hbw := Below.put4 hbw (n := g7) (by omega) (.bool ngi) (.slice aoi ni capi) (.bool ngj) (.slice aoj nj capj)
                have hE := hE00.mono hbw
                generalize ((((v51.setCell ⟨g7, 0, none⟩ (.bool ngi)).setCell ⟨g7, 1, none⟩ (.slice aoi ni capi)).setCell ⟨g7, 2, none⟩ (.bool ngj)).setCell ⟨g7, 3, none⟩ (.slice aoj nj capj)) = wq at *
                go_wp2
                go_roundw
                case rel => exact ⟨k + 1, acc + ra * rb, by omega, by go_num, HD3, ⟨_, _, _, _, _, _, _, _, X7, HVi, HVj⟩, X4, hE, hbw⟩
                case measure => simp [intOf]; omega
              · have HA2 := Lib.hid hA
                have HO : Hid (o = none) := Lib.hid (by rcases HD2.out with h | h; exact absurd h.2.1 hA; exact h.2)
                clear HD2
                obtain ⟨cX7_0, cX7_1, cX7_2, cX7_3, _, _, _, _⟩ := id X7
                obtain ⟨cX9_0, cX9_1, cX9_2, cX9_3, _, _, _, _⟩ := id X9
                go_wp2_with fail
                (with_reducible refine (rAdd_qbig _ _ acc (ra * rb) wc (RatV.mk' HVe HVf) (RatV.mk' HVg HVh) HA2 hE).mono ?_)
                rintro e v51 ⟨rfl, hb⟩
                have X4 := X4.mono hb
                have X7 := X7.mono hb
                have HVe := Lib.hid (HVe.out.mono hb)
                have HVf := Lib.hid (HVf.out.mono hb)
                have X9 := X9.mono hb
                have HVg := Lib.hid (HVg.out.mono hb)
                have HVh := Lib.hid (HVh.out.mono hb)
                have hE := hE.mono hb
                have hbw := Below.step hbw hb (Nat.le_refl _)
                clear hb
                clear cX7_0 cX7_1 cX7_2 cX7_3 cX9_0 cX9_1 cX9_2 cX9_3
                obtain ⟨cX7_0, cX7_1, cX7_2, cX7_3, _, _, _, _⟩ := id X7
                go_upto_region 16 with fail
                clear cX7_0 cX7_1 cX7_2 cX7_3
                have X4 : Box4 _ w.heap.size _ _ _ _ := X4.putOther (m := g7) (y0 := .bool false) (y1 := .slice none 0 0) (y2 := .bool false) (y3 := .slice none 0 0) (by omega)
                have X7 := X7.put4I (.bool false) (.slice none 0 0) (.bool false) (.slice none 0 0)
                have hbw := Below.put4 hbw (n := g7) (by omega) (.bool false) (.slice none 0 0) (.bool false) (.slice none 0 0)
                have hE := hE00.mono hbw
                generalize ((((v51.setCell ⟨g7, 0, none⟩ (.bool false)).setCell ⟨g7, 1, none⟩ (.slice none 0 0)).setCell ⟨g7, 2, none⟩ (.bool false)).setCell ⟨g7, 3, none⟩ (.slice none 0 0)) = wq at *
                clear X9 HVg HVh HVe HVf
                obtain ⟨cX4_0, cX4_1, cX4_2, cX4_3, _, _, _, _⟩ := id X4
                go_wp2
                refine bodyPost_ret (v := .tuple #[.agg #[.bool false, .slice none 0 0, .bool false, .slice none 0 0], .int .i64 3]) (by simp [results, Tryz.results41, go_sem, cX4_0, cX4_1, cX4_2, cX4_3]) rfl ⟨DotP.no HO rfl, Below.put4 hbw (by omega) (.bool false) (.slice none 0 0) (.bool false) (.slice none 0 0)⟩
          · have HM := Lib.hid hM
            go_upto_region 12 with fail
            obtain ⟨wy, rfl⟩ : ∃ wy : World, wy = wr := ⟨_, rfl⟩
            go_cut [9, 10] (fun s9 s10 wc => s10 = .int .i64 3 ∧ Below wy.heap.size wy wc)
            case first =>
              refine wp_region_flow (fun L T W => Below wy.heap.size wy W ∧ (L 0 → T 46 = .slice (some ⟨b1, off1, none⟩) la.length ca) ∧ (L 1 → T 47 = .int .i64 k) ∧ (L 2 → T 48 = .pointer (some ⟨b1, off1 + k * 4, none⟩)) ∧ (L 3 → T 49 = .agg #[.bool ngp, .slice aop np capp, .bool ngq, .slice aoq nq capq]) ∧ (L 4 → T 50 = .slice (some ⟨b2, off2, none⟩) lb.length cb) ∧ (L 5 → T 51 = .int .i64 k) ∧ (L 6 → T 52 = .pointer (some ⟨b2, off2 + k * 4, none⟩)) ∧ (L 7 → T 53 = .agg #[.bool ngr, .slice aor nr capr, .bool ngs, .slice aos ns caps]) ∧ (L 8 → (IsV4 (.tuple #[.agg #[.bool false, .slice none 0 0, .bool false, .slice none 0 0], .int .i64 3])) W (T 54)) ∧ (L 9 → T 45 = .tuple #[.agg #[.bool false, .slice none 0 0, .bool false, .slice none 0 0], .int .i64 3]) ∧ (L 10 → (IsV4 (.agg #[.bool false, .slice none 0 0, .bool false, .slice none 0 0])) W (T 55)) ∧ (L 11 → T 56 = .int .i64 3) ∧ (L 12 → Slot4 W wy.heap.size (IsV4 (.agg #[.bool false, .slice none 0 0, .bool false, .slice none 0 0])) (L 13) (T 9)) ∧ (L 14 → T 10 = .int .i64 3) ∧ (L 13 → L 12)) [46, 47, 48, 49, 50, 51, 52, 53, 54, 45, 55, 56, 9, 10] (by kernel_rfl) (by kernel_rfl) (by kernel_rfl) ?h0 ⟨?s0, ?s1, ?s2, ?s3, ?s4, ?s5, ?s6, ?s7, ?s8, ?s9, ?s10, ?s11, ?s12, ?s13, ?s14, trivial⟩ ?he ?hm
              case h0 => exact fun T => ⟨(Below.refl _ _).drew, fun h => h.elim, fun h => h.elim, fun h => h.elim, fun h => h.elim, fun h => h.elim, fun h => h.elim, fun h => h.elim, fun h => h.elim, fun h => h.elim, fun h => h.elim, fun h => h.elim, fun h => h.elim, fun h => h.elim, fun h => h.elim, fun h => h.elim⟩
              case hm =>
                rintro L T W hL ⟨hb, f0, f1, f2, f3, f4, f5, f6, f7, f8, f9, f10, f11, f12, f14, c12⟩
                exact ⟨hb, fun _ => f0 (hL _ (by decide)), fun _ => f1 (hL _ (by decide)), fun _ => f2 (hL _ (by decide)), fun _ => f3 (hL _ (by decide)), fun _ => f4 (hL _ (by decide)), fun _ => f5 (hL _ (by decide)), fun _ => f6 (hL _ (by decide)), fun _ => f7 (hL _ (by decide)), fun _ => f8 (hL _ (by decide)), fun _ => f9 (hL _ (by decide)), fun _ => f10 (hL _ (by decide)), fun _ => f11 (hL _ (by decide)), fun _ => (f12 (hL _ (by decide))).congr ⟨fun _ => by decide, fun _ => hL _ (by decide)⟩, fun _ => f14 (hL _ (by decide)), fun _ => by decide⟩
              case s0 =>
                rintro L T W hd hn hJ K hK
                have HJ := Lib.hid hJ
                clear hJ
                have hb := HJ.out.1
                simp only [ovr, Act.put, List.setIfInBounds_toArray, List.set_cons_zero, List.set_cons_succ] at hK ⊢
                have HK := Lib.hid hK
                clear hK
                refine wpOp_want rfl rfl ?_
                go_simp
                obtain ⟨hb, f0, f1, f2, f3, f4, f5, f6, f7, f8, f9, f10, f11, f12, f14, c12⟩ := HJ.out
                exact HK.out _ _ ⟨hb, fun _ => rfl, fun h => f1 (h.resolve_left (by decide)), fun h => f2 (h.resolve_left (by decide)), fun h => f3 (h.resolve_left (by decide)), fun h => f4 (h.resolve_left (by decide)), fun h => f5 (h.resolve_left (by decide)), fun h => f6 (h.resolve_left (by decide)), fun h => f7 (h.resolve_left (by decide)), fun h => f8 (h.resolve_left (by decide)), fun h => f9 (h.resolve_left (by decide)), fun h => f10 (h.resolve_left (by decide)), fun h => f11 (h.resolve_left (by decide)), fun h => ((f12 (h.resolve_left (by decide)))).congr ⟨fun h => .inr h, fun h => h.resolve_left (by decide)⟩, fun h => f14 (h.resolve_left (by decide)), fun h => .inr (c12 (h.resolve_left (by decide)))⟩
              case s1 =>
                rintro L T W hd hn hJ K hK
                have HJ := Lib.hid hJ
                clear hJ
                have hb := HJ.out.1
                simp only [ovr, Act.put, List.setIfInBounds_toArray, List.set_cons_zero, List.set_cons_succ] at hK ⊢
                have HK := Lib.hid hK
                clear hK
                refine wpOp_want rfl rfl ?_
                go_simp
                obtain ⟨hb, f0, f1, f2, f3, f4, f5, f6, f7, f8, f9, f10, f11, f12, f14, c12⟩ := HJ.out
                exact HK.out _ _ ⟨hb, fun h => f0 (h.resolve_left (by decide)), fun _ => rfl, fun h => f2 (h.resolve_left (by decide)), fun h => f3 (h.resolve_left (by decide)), fun h => f4 (h.resolve_left (by decide)), fun h => f5 (h.resolve_left (by decide)), fun h => f6 (h.resolve_left (by decide)), fun h => f7 (h.resolve_left (by decide)), fun h => f8 (h.resolve_left (by decide)), fun h => f9 (h.resolve_left (by decide)), fun h => f10 (h.resolve_left (by decide)), fun h => f11 (h.resolve_left (by decide)), fun h => ((f12 (h.resolve_left (by decide)))).congr ⟨fun h => .inr h, fun h => h.resolve_left (by decide)⟩, fun h => f14 (h.resolve_left (by decide)), fun h => .inr (c12 (h.resolve_left (by decide)))⟩
              case s2 =>
                rintro L T W hd hn hJ K hK
                have HJ := Lib.hid hJ
                clear hJ
                have hb := HJ.out.1
                have e0 := HJ.out.2.1 hd.1
                have e1 := HJ.out.2.2.1 hd.2.1
                simp only [ovr, Act.put, List.setIfInBounds_toArray, List.set_cons_zero, List.set_cons_succ, e0, e1] at hK ⊢
                have HK := Lib.hid hK
                clear hK
                refine wpOp_want rfl rfl ?_
                go_simp
                obtain ⟨hb, f0, f1, f2, f3, f4, f5, f6, f7, f8, f9, f10, f11, f12, f14, c12⟩ := HJ.out
                exact HK.out _ _ ⟨hb, fun h => f0 (h.resolve_left (by decide)), fun h => f1 (h.resolve_left (by decide)), fun _ => rfl, fun h => f3 (h.resolve_left (by decide)), fun h => f4 (h.resolve_left (by decide)), fun h => f5 (h.resolve_left (by decide)), fun h => f6 (h.resolve_left (by decide)), fun h => f7 (h.resolve_left (by decide)), fun h => f8 (h.resolve_left (by decide)), fun h => f9 (h.resolve_left (by decide)), fun h => f10 (h.resolve_left (by decide)), fun h => f11 (h.resolve_left (by decide)), fun h => ((f12 (h.resolve_left (by decide)))).congr ⟨fun h => .inr h, fun h => h.resolve_left (by decide)⟩, fun h => f14 (h.resolve_left (by decide)), fun h => .inr (c12 (h.resolve_left (by decide)))⟩
              case s3 =>
                rintro L T W hd hn hJ K hK
                have HJ := Lib.hid hJ
                clear hJ
                have hb := HJ.out.1
                have e2 := HJ.out.2.2.2.1 hd.1
                simp only [ovr, Act.put, List.setIfInBounds_toArray, List.set_cons_zero, List.set_cons_succ, e2] at hK ⊢
                have HK := Lib.hid hK
                clear hK
                obtain ⟨c0, c1, c2, c3, c4, c5, c6, c7⟩ := (fun W => S8 (W := W) FA FB) W hb
                refine wpOp_want rfl rfl ?_
                go_simp
                obtain ⟨hb, f0, f1, f2, f3, f4, f5, f6, f7, f8, f9, f10, f11, f12, f14, c12⟩ := HJ.out
                exact HK.out _ _ ⟨hb, fun h => f0 (h.resolve_left (by decide)), fun h => f1 (h.resolve_left (by decide)), fun h => f2 (h.resolve_left (by decide)), fun _ => rfl, fun h => f4 (h.resolve_left (by decide)), fun h => f5 (h.resolve_left (by decide)), fun h => f6 (h.resolve_left (by decide)), fun h => f7 (h.resolve_left (by decide)), fun h => f8 (h.resolve_left (by decide)), fun h => f9 (h.resolve_left (by decide)), fun h => f10 (h.resolve_left (by decide)), fun h => f11 (h.resolve_left (by decide)), fun h => ((f12 (h.resolve_left (by decide)))).congr ⟨fun h => .inr h, fun h => h.resolve_left (by decide)⟩, fun h => f14 (h.resolve_left (by decide)), fun h => .inr (c12 (h.resolve_left (by decide)))⟩
              case s4 =>
                rintro L T W hd hn hJ K hK
                have HJ := Lib.hid hJ
                clear hJ
                have hb := HJ.out.1
                simp only [ovr, Act.put, List.setIfInBounds_toArray, List.set_cons_zero, List.set_cons_succ] at hK ⊢
                have HK := Lib.hid hK
                clear hK
                refine wpOp_want rfl rfl ?_
                go_simp
                obtain ⟨hb, f0, f1, f2, f3, f4, f5, f6, f7, f8, f9, f10, f11, f12, f14, c12⟩ := HJ.out
                exact HK.out _ _ ⟨hb, fun h => f0 (h.resolve_left (by decide)), fun h => f1 (h.resolve_left (by decide)), fun h => f2 (h.resolve_left (by decide)), fun h => f3 (h.resolve_left (by decide)), fun _ => rfl, fun h => f5 (h.resolve_left (by decide)), fun h => f6 (h.resolve_left (by decide)), fun h => f7 (h.resolve_left (by decide)), fun h => f8 (h.resolve_left (by decide)), fun h => f9 (h.resolve_left (by decide)), fun h => f10 (h.resolve_left (by decide)), fun h => f11 (h.resolve_left (by decide)), fun h => ((f12 (h.resolve_left (by decide)))).congr ⟨fun h => .inr h, fun h => h.resolve_left (by decide)⟩, fun h => f14 (h.resolve_left (by decide)), fun h => .inr (c12 (h.resolve_left (by decide)))⟩
              case s5 =>
                rintro L T W hd hn hJ K hK
                have HJ := Lib.hid hJ
                clear hJ
                have hb := HJ.out.1
                simp only [ovr, Act.put, List.setIfInBounds_toArray, List.set_cons_zero, List.set_cons_succ] at hK ⊢
                have HK := Lib.hid hK
                clear hK
                refine wpOp_want rfl rfl ?_
                go_simp
                obtain ⟨hb, f0, f1, f2, f3, f4, f5, f6, f7, f8, f9, f10, f11, f12, f14, c12⟩ := HJ.out
                exact HK.out _ _ ⟨hb, fun h => f0 (h.resolve_left (by decide)), fun h => f1 (h.resolve_left (by decide)), fun h => f2 (h.resolve_left (by decide)), fun h => f3 (h.resolve_left (by decide)), fun h => f4 (h.resolve_left (by decide)), fun _ => rfl, fun h => f6 (h.resolve_left (by decide)), fun h => f7 (h.resolve_left (by decide)), fun h => f8 (h.resolve_left (by decide)), fun h => f9 (h.resolve_left (by decide)), fun h => f10 (h.resolve_left (by decide)), fun h => f11 (h.resolve_left (by decide)), fun h => ((f12 (h.resolve_left (by decide)))).congr ⟨fun h => .inr h, fun h => h.resolve_left (by decide)⟩, fun h => f14 (h.resolve_left (by decide)), fun h => .inr (c12 (h.resolve_left (by decide)))⟩
              case s6 =>
                rintro L T W hd hn hJ K hK
                have HJ := Lib.hid hJ
                clear hJ
                have hb := HJ.out.1
                have e4 := HJ.out.2.2.2.2.2.1 hd.1
                have e5 := HJ.out.2.2.2.2.2.2.1 hd.2.1
                simp only [ovr, Act.put, List.setIfInBounds_toArray, List.set_cons_zero, List.set_cons_succ, e4, e5] at hK ⊢
                have HK := Lib.hid hK
                clear hK
                refine wpOp_want rfl rfl ?_
                go_simp
                obtain ⟨hb, f0, f1, f2, f3, f4, f5, f6, f7, f8, f9, f10, f11, f12, f14, c12⟩ := HJ.out
                exact HK.out _ _ ⟨hb, fun h => f0 (h.resolve_left (by decide)), fun h => f1 (h.resolve_left (by decide)), fun h => f2 (h.resolve_left (by decide)), fun h => f3 (h.resolve_left (by decide)), fun h => f4 (h.resolve_left (by decide)), fun h => f5 (h.resolve_left (by decide)), fun _ => rfl, fun h => f7 (h.resolve_left (by decide)), fun h => f8 (h.resolve_left (by decide)), fun h => f9 (h.resolve_left (by decide)), fun h => f10 (h.resolve_left (by decide)), fun h => f11 (h.resolve_left (by decide)), fun h => ((f12 (h.resolve_left (by decide)))).congr ⟨fun h => .inr h, fun h => h.resolve_left (by decide)⟩, fun h => f14 (h.resolve_left (by decide)), fun h => .inr (c12 (h.resolve_left (by decide)))⟩
              case s7 =>
                rintro L T W hd hn hJ K hK
                have HJ := Lib.hid hJ
                clear hJ
                have hb := HJ.out.1
                have e6 := HJ.out.2.2.2.2.2.2.2.1 hd.1
                simp only [ovr, Act.put, List.setIfInBounds_toArray, List.set_cons_zero, List.set_cons_succ, e6] at hK ⊢
                have HK := Lib.hid hK
                clear hK
                obtain ⟨c0, c1, c2, c3, c4, c5, c6, c7⟩ := (fun W => S8 (W := W) FA FB) W hb
                refine wpOp_want rfl rfl ?_
                go_simp
                obtain ⟨hb, f0, f1, f2, f3, f4, f5, f6, f7, f8, f9, f10, f11, f12, f14, c12⟩ := HJ.out
                exact HK.out _ _ ⟨hb, fun h => f0 (h.resolve_left (by decide)), fun h => f1 (h.resolve_left (by decide)), fun h => f2 (h.resolve_left (by decide)), fun h => f3 (h.resolve_left (by decide)), fun h => f4 (h.resolve_left (by decide)), fun h => f5 (h.resolve_left (by decide)), fun h => f6 (h.resolve_left (by decide)), fun _ => rfl, fun h => f8 (h.resolve_left (by decide)), fun h => f9 (h.resolve_left (by decide)), fun h => f10 (h.resolve_left (by decide)), fun h => f11 (h.resolve_left (by decide)), fun h => ((f12 (h.resolve_left (by decide)))).congr ⟨fun h => .inr h, fun h => h.resolve_left (by decide)⟩, fun h => f14 (h.resolve_left (by decide)), fun h => .inr (c12 (h.resolve_left (by decide)))⟩
              case s8 =>
                rintro L T W hd hn hJ K hK
                have HJ := Lib.hid hJ
                clear hJ
                have hb := HJ.out.1
                have e3 := HJ.out.2.2.2.2.1 hd.1
                have e7 := HJ.out.2.2.2.2.2.2.2.2.1 hd.2.1
                simp only [ovr, Act.put, List.setIfInBounds_toArray, List.set_cons_zero, List.set_cons_succ, e3, e7] at hK ⊢
                have HK := Lib.hid hK
                clear hK
                refine wpOp_want rfl rfl ?_
                go_simp
                (with_reducible refine (rMul_qbig _ _ ra rb _ (HA.mono hb) (HB.mono hb) HM (hE.mono hb)).mono ?_)
                rintro e w1 ⟨rfl, hb1⟩
                have hr : IsV4 (.tuple #[.agg #[.bool false, .slice none 0 0, .bool false, .slice none 0 0], .int .i64 3]) w1 (.tuple #[.agg #[.bool false, .slice none 0 0, .bool false, .slice none 0 0], .int .i64 3]) := rfl
                dsimp only
                obtain ⟨hb, f0, f1, f2, f3, f4, f5, f6, f7, f8, f9, f10, f11, f12, f14, c12⟩ := HJ.out
                exact HK.out _ _ ⟨Below.step hb hb1 (Nat.le_refl _), fun h => f0 (h.resolve_left (by decide)), fun h => f1 (h.resolve_left (by decide)), fun h => f2 (h.resolve_left (by decide)), fun h => f3 (h.resolve_left (by decide)), fun h => f4 (h.resolve_left (by decide)), fun h => f5 (h.resolve_left (by decide)), fun h => f6 (h.resolve_left (by decide)), fun h => f7 (h.resolve_left (by decide)), fun _ => hr, fun h => f9 (h.resolve_left (by decide)), fun h => (stay4_isV _).mono (f10 (h.resolve_left (by decide))) hb1, fun h => f11 (h.resolve_left (by decide)), fun h => ((f12 (h.resolve_left (by decide))).mono (stay4_isV _) hb1).congr ⟨fun h => .inr h, fun h => h.resolve_left (by decide)⟩, fun h => f14 (h.resolve_left (by decide)), fun h => .inr (c12 (h.resolve_left (by decide)))⟩
              case s9 =>
                rintro L T W hd hn hJ K hK
                have HJ := Lib.hid hJ
                clear hJ
                have hb := HJ.out.1
                have r8 := HJ.out.2.2.2.2.2.2.2.2.2.1 hd.1
                have ev : T 54 = .tuple #[.agg #[.bool false, .slice none 0 0, .bool false, .slice none 0 0], .int .i64 3] := r8
                simp only [ovr, Act.put, List.setIfInBounds_toArray, List.set_cons_zero, List.set_cons_succ, ev] at hK ⊢
                have HK := Lib.hid hK
                clear hK
                refine wpOp_want rfl rfl ?_
                go_simp
                obtain ⟨hb, f0, f1, f2, f3, f4, f5, f6, f7, f8, f9, f10, f11, f12, f14, c12⟩ := HJ.out
                exact HK.out _ _ ⟨hb, fun h => f0 (h.resolve_left (by decide)), fun h => f1 (h.resolve_left (by decide)), fun h => f2 (h.resolve_left (by decide)), fun h => f3 (h.resolve_left (by decide)), fun h => f4 (h.resolve_left (by decide)), fun h => f5 (h.resolve_left (by decide)), fun h => f6 (h.resolve_left (by decide)), fun h => f7 (h.resolve_left (by decide)), fun h => f8 (h.resolve_left (by decide)), fun _ => rfl, fun h => f10 (h.resolve_left (by decide)), fun h => f11 (h.resolve_left (by decide)), fun h => ((f12 (h.resolve_left (by decide)))).congr ⟨fun h => .inr h, fun h => h.resolve_left (by decide)⟩, fun h => f14 (h.resolve_left (by decide)), fun h => .inr (c12 (h.resolve_left (by decide)))⟩
              case s10 =>
                rintro L T W hd hn hJ K hK
                have HJ := Lib.hid hJ
                clear hJ
                have hb := HJ.out.1
                have e9 := HJ.out.2.2.2.2.2.2.2.2.2.2.1 hd.1
                simp only [ovr, Act.put, List.setIfInBounds_toArray, List.set_cons_zero, List.set_cons_succ, e9] at hK ⊢
                have HK := Lib.hid hK
                clear hK
                refine wpOp_want rfl rfl ?_
                go_simp
                obtain ⟨hb, f0, f1, f2, f3, f4, f5, f6, f7, f8, f9, f10, f11, f12, f14, c12⟩ := HJ.out
                exact HK.out _ _ ⟨hb, fun h => f0 (h.resolve_left (by decide)), fun h => f1 (h.resolve_left (by decide)), fun h => f2 (h.resolve_left (by decide)), fun h => f3 (h.resolve_left (by decide)), fun h => f4 (h.resolve_left (by decide)), fun h => f5 (h.resolve_left (by decide)), fun h => f6 (h.resolve_left (by decide)), fun h => f7 (h.resolve_left (by decide)), fun h => f8 (h.resolve_left (by decide)), fun h => f9 (h.resolve_left (by decide)), fun _ => rfl, fun h => f11 (h.resolve_left (by decide)), fun h => ((f12 (h.resolve_left (by decide)))).congr ⟨fun h => .inr h, fun h => h.resolve_left (by decide)⟩, fun h => f14 (h.resolve_left (by decide)), fun h => .inr (c12 (h.resolve_left (by decide)))⟩
              case s11 =>
                rintro L T W hd hn hJ K hK
                have HJ := Lib.hid hJ
                clear hJ
                have hb := HJ.out.1
                have e9 := HJ.out.2.2.2.2.2.2.2.2.2.2.1 hd.1
                simp only [ovr, Act.put, List.setIfInBounds_toArray, List.set_cons_zero, List.set_cons_succ, e9] at hK ⊢
                have HK := Lib.hid hK
                clear hK
                refine wpOp_want rfl rfl ?_
                go_simp
                obtain ⟨hb, f0, f1, f2, f3, f4, f5, f6, f7, f8, f9, f10, f11, f12, f14, c12⟩ := HJ.out
                exact HK.out _ _ ⟨hb, fun h => f0 (h.resolve_left (by decide)), fun h => f1 (h.resolve_left (by decide)), fun h => f2 (h.resolve_left (by decide)), fun h => f3 (h.resolve_left (by decide)), fun h => f4 (h.resolve_left (by decide)), fun h => f5 (h.resolve_left (by decide)), fun h => f6 (h.resolve_left (by decide)), fun h => f7 (h.resolve_left (by decide)), fun h => f8 (h.resolve_left (by decide)), fun h => f9 (h.resolve_left (by decide)), fun h => f10 (h.resolve_left (by decide)), fun _ => rfl, fun h => ((f12 (h.resolve_left (by decide)))).congr ⟨fun h => .inr h, fun h => h.resolve_left (by decide)⟩, fun h => f14 (h.resolve_left (by decide)), fun h => .inr (c12 (h.resolve_left (by decide)))⟩
              case s12 =>
                rintro L T W hd hn hJ K hK
                have HJ := Lib.hid hJ
                clear hJ
                have hb := HJ.out.1
                simp only [ovr, Act.put, List.setIfInBounds_toArray, List.set_cons_zero, List.set_cons_succ] at hK ⊢
                have HK := Lib.hid hK
                clear hK
                refine wpOp_want rfl rfl ?_
                go_simp
                have hb1 := below_alloc W (.cells #[.bool false, .slice none 0 0, .bool false, .slice none 0 0] 29)
                obtain ⟨hb, f0, f1, f2, f3, f4, f5, f6, f7, f8, f9, f10, f11, f12, f14, c12⟩ := HJ.out
                exact HK.out _ _ ⟨Below.step hb hb1 (Nat.le_refl _), fun h => f0 (h.resolve_left (by decide)), fun h => f1 (h.resolve_left (by decide)), fun h => f2 (h.resolve_left (by decide)), fun h => f3 (h.resolve_left (by decide)), fun h => f4 (h.resolve_left (by decide)), fun h => f5 (h.resolve_left (by decide)), fun h => f6 (h.resolve_left (by decide)), fun h => f7 (h.resolve_left (by decide)), fun h => (stay4_isV _).mono (f8 (h.resolve_left (by decide))) hb1, fun h => f9 (h.resolve_left (by decide)), fun h => (stay4_isV _).mono (f10 (h.resolve_left (by decide))) hb1, fun h => f11 (h.resolve_left (by decide)), fun _ => Slot4.new W (fun h => hn (c12 (h.resolve_left (by decide)))) _ hb.size, fun h => f14 (h.resolve_left (by decide)), fun _ => .inl (by decide)⟩
              case s13 =>
                rintro L T W hd hn hJ K hK
                have HJ := Lib.hid hJ
                clear hJ
                have hb := HJ.out.1
                have r10 := HJ.out.2.2.2.2.2.2.2.2.2.2.2.1 hd.2.1
                have r8 := HJ.out.2.2.2.2.2.2.2.2.2.1 hd.2.2.1
                have e0 := HJ.out.2.1 hd.2.2.2.1
                have e1 := HJ.out.2.2.1 hd.2.2.2.2.1
                have e2 := HJ.out.2.2.2.1 hd.2.2.2.2.2.1
                have e3 := HJ.out.2.2.2.2.1 hd.2.2.2.2.2.2.1
                have e4 := HJ.out.2.2.2.2.2.1 hd.2.2.2.2.2.2.2.1
                have e5 := HJ.out.2.2.2.2.2.2.1 hd.2.2.2.2.2.2.2.2.1
                have e6 := HJ.out.2.2.2.2.2.2.2.1 hd.2.2.2.2.2.2.2.2.2.1
                have e7 := HJ.out.2.2.2.2.2.2.2.2.1 hd.2.2.2.2.2.2.2.2.2.2.1
                have e9 := HJ.out.2.2.2.2.2.2.2.2.2.2.1 hd.2.2.2.2.2.2.2.2.2.2.2.2.1
                have da := hd.1
                have hr := r10
                obtain ⟨m, em, hm1, hm2, hB⟩ := (HJ.out.2.2.2.2.2.2.2.2.2.2.2.2.2.1 da).open hn
                obtain ⟨ng, ao, nn, cap, ng2, ao2, nn2, cap2, ev⟩ := IsV4.parts hr
                rw [ev] at hr
                obtain ⟨b0, b1, b2, b3, b4, b5, b6, b7⟩ := id hB
                simp only [ovr, Act.put, List.setIfInBounds_toArray, List.set_cons_zero, List.set_cons_succ, e0, e1, e2, e3, e4, e5, e6, e7, e9, em, ev] at hK ⊢
                have HK := Lib.hid hK
                clear hK
                refine wpOp_want rfl rfl ?_
                go_simp
                obtain ⟨hb, f0, f1, f2, f3, f4, f5, f6, f7, f8, f9, f10, f11, f12, f14, c12⟩ := HJ.out
                exact HK.out undef _ ⟨Below.put4 hb hm1 _ _ _ _, fun h => f0 (h.resolve_left (by decide)), fun h => f1 (h.resolve_left (by decide)), fun h => f2 (h.resolve_left (by decide)), fun h => f3 (h.resolve_left (by decide)), fun h => f4 (h.resolve_left (by decide)), fun h => f5 (h.resolve_left (by decide)), fun h => f6 (h.resolve_left (by decide)), fun h => f7 (h.resolve_left (by decide)), fun h => (stay4_isV _).put (f8 (h.resolve_left (by decide))) hB, fun h => f9 (h.resolve_left (by decide)), fun h => (stay4_isV _).put (f10 (h.resolve_left (by decide))) hB, fun h => f11 (h.resolve_left (by decide)), fun h => by show Slot4 _ _ _ _ (T 9); rw [em]; exact Slot4.stored (stay4_isV _) hm1 hB (.inl (by decide)) hr, fun h => f14 (h.resolve_left (by decide)), fun _ => .inr da⟩
              case s14 =>
                rintro L T W hd hn hJ K hK
                have HJ := Lib.hid hJ
                clear hJ
                have hb := HJ.out.1
                have e11 := HJ.out.2.2.2.2.2.2.2.2.2.2.2.2.1 hd.1
                have e0 := HJ.out.2.1 hd.2.2.1
                have e1 := HJ.out.2.2.1 hd.2.2.2.1
                have e2 := HJ.out.2.2.2.1 hd.2.2.2.2.1
                have e3 := HJ.out.2.2.2.2.1 hd.2.2.2.2.2.1
                have e4 := HJ.out.2.2.2.2.2.1 hd.2.2.2.2.2.2.1
                have e5 := HJ.out.2.2.2.2.2.2.1 hd.2.2.2.2.2.2.2.1
                have e6 := HJ.out.2.2.2.2.2.2.2.1 hd.2.2.2.2.2.2.2.2.1
                have e7 := HJ.out.2.2.2.2.2.2.2.2.1 hd.2.2.2.2.2.2.2.2.2.1
                have r8 := HJ.out.2.2.2.2.2.2.2.2.2.1 hd.2.2.2.2.2.2.2.2.2.2.1
                have e9 := HJ.out.2.2.2.2.2.2.2.2.2.2.1 hd.2.2.2.2.2.2.2.2.2.2.2.1
                have r10 := HJ.out.2.2.2.2.2.2.2.2.2.2.2.1 hd.2.2.2.2.2.2.2.2.2.2.2.2.1
                simp only [ovr, Act.put, List.setIfInBounds_toArray, List.set_cons_zero, List.set_cons_succ, e11, e0, e1, e2, e3, e4, e5, e6, e7, e9] at hK ⊢
                have HK := Lib.hid hK
                clear hK
                refine wpOp_want rfl rfl ?_
                go_simp
                obtain ⟨hb, f0, f1, f2, f3, f4, f5, f6, f7, f8, f9, f10, f11, f12, f14, c12⟩ := HJ.out
                exact HK.out _ _ ⟨hb, fun h => f0 (h.resolve_left (by decide)), fun h => f1 (h.resolve_left (by decide)), fun h => f2 (h.resolve_left (by decide)), fun h => f3 (h.resolve_left (by decide)), fun h => f4 (h.resolve_left (by decide)), fun h => f5 (h.resolve_left (by decide)), fun h => f6 (h.resolve_left (by decide)), fun h => f7 (h.resolve_left (by decide)), fun h => f8 (h.resolve_left (by decide)), fun h => f9 (h.resolve_left (by decide)), fun h => f10 (h.resolve_left (by decide)), fun h => f11 (h.resolve_left (by decide)), fun h => ((f12 (h.resolve_left (by decide)))).congr ⟨fun h => .inr h, fun h => h.resolve_left (by decide)⟩, fun _ => rfl, fun h => .inr (c12 (h.resolve_left (by decide)))⟩
              case he =>
                rintro T W ⟨hb, f0, f1, f2, f3, f4, f5, f6, f7, f8, f9, f10, f11, f12, f14, c12⟩
                simp only [ovr, List.setIfInBounds_toArray, List.set_cons_zero, List.set_cons_succ]
                go_wp2_with fail
                go_meet
                exact ⟨rfl, hb⟩
            case rest =>
              obtain ⟨rfl, hb⟩ := hcut
              have X4 := X4.mono hb
              have X7 := X7.mono hb
              have HVe := Lib.hid (HVe.out.mono hb)
              have HVf := Lib.hid (HVf.out.mono hb)
              have hE := hE.mono hb
              have hbw := Below.step hbw hb (Nat.le_refl _)
              clear hb
              have HO : Hid (o = none) := Lib.hid (by rcases HD2.out with h | h; exact absurd h.1 hM; exact h.2)
              obtain ⟨cX4_0, cX4_1, cX4_2, cX4_3, _, _, _, _⟩ := id X4
              go_wp2
              refine bodyPost_ret (v := .tuple #[.agg #[.bool false, .slice none 0 0, .bool false, .slice none 0 0], .int .i64 3]) (by simp [results, Tryz.results41, go_sem, cX4_0, cX4_1, cX4_2, cX4_3]) rfl ⟨DotP.no HO rfl, Below.put4 hbw (by omega) (.bool false) (.slice none 0 0) (.bool false) (.slice none 0 0)⟩
        · obtain rfl : k = la.length := by omega
          have HO : Hid (o = some acc) := Lib.hid (by have h := HD.out; rw [List.drop_length] at h; exact h)
          obtain ⟨cX7_0, cX7_1, cX7_2, cX7_3, _, _, _, _⟩ := id X7
          obtain ⟨cX4_0, cX4_1, cX4_2, cX4_3, _, _, _, _⟩ := id X4
          go_wp2
          refine bodyPost_ret (v := .tuple #[.agg #[.bool nge, .slice aoe ne cape, .bool ngf, .slice aof nf capf], .int .i64 0]) (by simp [results, Tryz.results41, go_sem, cX4_0, cX4_1, cX4_2, cX4_3]) rfl ⟨DotP.got HO ⟨nge, aoe, ne, cape, ngf, aof, nf, capf, rfl, Lib.hid (HVe.out.put4B X4 (.bool nge) (.slice aoe ne cape) (.bool ngf) (.slice aof nf capf)), Lib.hid (HVf.out.put4B X4 (.bool nge) (.slice aoe ne cape) (.bool ngf) (.slice aof nf capf))⟩, Below.put4 hbw (by omega) (.bool nge) (.slice aoe ne cape) (.bool ngf) (.slice aof nf capf)⟩

end Go.Proofs.YtgenhkakcbedaaaGreatDoor
