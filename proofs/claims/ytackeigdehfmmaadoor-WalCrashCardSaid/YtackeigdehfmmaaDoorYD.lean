import Derived.Test.YtackeigdehfmmaaDoorYC
import Derived.Test.YtackeigdehfmmaaDoorFlowK
namespace Go.Proofs.YtackeigdehfmmaaDoor
open Go.RowKit

theorem nextcap_fits (n bytes : Nat) (h0 : 0 < n) (hn : n ≤ 1000000) (hb : bytes ≤ 16) : Builtin.nextslicecap n 0 * bytes ≤ 281474976710656 := growslice_fits h0 (by have := Nat.mul_le_mul hn hb; omega)

theorem Kept.wider {G H : Nat → Prop} {w w' : World} (h : Kept G w w') (hG : ∀ b, G b → H b) : Kept H w w' := ⟨h.os, h.tape, h.output, h.size, fun k hk hn => h.block k hk fun hg => hn (hG k hg)⟩

/-- append([]T{}, xs...) -/
theorem wp_app_all {o : Oper} {a : Act} {w : World} {K : Act → World → Prop} {Q : Exit → Act → World → Prop} (s x : Operand) (T E bytes : Nat) (z : Value)
    (ho : o.op = .call { callee := .builtin .append, args := #[s, x], argTypes := #[T, T] }) (hT : Tryd.prog.underlying T = some (.slice E)) (hE : (Tryd.prog.info? E).map (fun i => (i.zero, i.size, i.bytes)) = some (some z, 1, bytes)) (hby : bytes ≤ 16)
    (g : Nat) (ao : Option Addr) (n c : Nat) (xs : List Value) (hs : a.eval s = .slice (some ⟨g, 0, none⟩) 0 0) (hx : a.eval x = .slice ao n c) (G : Nat → Prop) (hr : RG w G ao xs) (hn : xs.length = n) (h0 : 0 < n) (hn2 : n ≤ 1000000)
    (h : ∀ (cap : Nat) (w' : World), Below w.heap.size w w' → Pre w' w.heap.size E xs → K (a.put o.dst (.slice (some ⟨w.heap.size, 0, none⟩) n cap)) w') :
    Oper.wp Tryd.prog o a w K Q := by
  obtain ⟨i0, hi, hz0, hz1, hz2⟩ := info_parts hE
  obtain ⟨b, off, rfl, -, -⟩ := hr.at' (k := 0) (by omega)
  have hnews : ∀ j v, xs[j]? = some v → w.cell? ((⟨b, off, none⟩ : Addr).add j) = some v := by
    intro j v hj
    obtain ⟨b', off', e, -, hc⟩ := hr j v hj
    simp only [Option.some.injEq, Addr.mk.injEq, and_true] at e
    obtain ⟨rfl, rfl⟩ := e
    have e : (⟨b, off, none⟩ : Addr).add j = ⟨b, off + j, none⟩ := by
      unfold Addr.add; split
      · subst j; rfl
      · rfl
    rw [e]; exact hc
  have hrun := run_append_grow (P := Tryd.prog) w T o.type E i0 z hT hi hz0 ⟨g, 0, none⟩ 0 0 [] (by simp) (by simp) ⟨b, off, none⟩ n c xs (by rw [hz1, Nat.mul_one, hn]) hnews (by omega) (by omega) (by rw [hz2, Nat.zero_add]; exact nextcap_fits n bytes h0 hn2 hby)
  simp only [Nat.zero_add] at hrun
  unfold Oper.wp
  simp [execOp, ho, resolve, invoke, builtin, hs, hx, hrun, Result.andThen]
  refine h _ _ (((Below.refl _ _).drew).alloc (Nat.le_refl _) _) ?_
  refine ⟨_, heap_alloc_new _ _, ?_⟩
  simp

theorem heap2 (w : World) (A B : Obj) : ((w.alloc A).alloc B).heap[w.heap.size]? = some A ∧ ((w.alloc A).alloc B).heap[w.heap.size + 1]? = some B := by
  have e : ((w.alloc A).alloc B).heap = (w.heap.push A).push B := rfl
  refine ⟨?_, ?_⟩
  · rw [e, Array.getElem?_push, if_neg (by simp), Array.getElem?_push, if_pos (by simp)]
  · rw [e, Array.getElem?_push, if_pos (by simp)]

theorem RG.lift {w w' : World} {G H : Nat → Prop} {ao : Option Addr} {xs : List Value} (h : RG w G ao xs) (hb : Below w.heap.size w w') (hH : ∀ b, b < w.heap.size → H b → G b) : RG w' H ao xs := by
  intro i x hx
  obtain ⟨b, off, e, hg, hc⟩ := h i x hx
  exact ⟨b, off, e, fun hh => hg (hH b (cell_lt hc) hh), (hb.cell (cell_lt hc)).trans hc⟩

theorem RG.narrow {w : World} {G H : Nat → Prop} {ao : Option Addr} {xs : List Value} (h : RG w H ao xs) (hH : ∀ b, G b → H b) : RG w G ao xs := by
  intro i x hx
  obtain ⟨b, off, e, hg, hc⟩ := h i x hx
  exact ⟨b, off, e, fun hh => hg (hH b hh), hc⟩

section
variable {w : World} {G : Nat → Prop} {S : Nat} {d : Wl.Dk}

def EmptyS (_W : World) (v : Value) : Prop := ∃ g, v = .slice (some ⟨g, 0, none⟩) 0 0
def RowS (n B S : Nat) (E : TypeId) (xs : List Value) (W : World) (v : Value) : Prop := ∃ g cap, v = .slice (some ⟨g, 0, none⟩) S cap ∧ B ≤ g ∧ g ≠ n ∧ Pre W g E xs
def AggD (n B S : Nat) (d : Wl.Dk) (W : World) (v : Value) : Prop := ∃ g1 k1 g2 k2 g3 k3, v = .agg #[.slice (some ⟨g1, 0, none⟩) S k1, .slice (some ⟨g2, 0, none⟩) S k2, .slice (some ⟨g3, 0, none⟩) S k3] ∧ RefO W B S g1 g2 g3 d ∧ g1 ≠ n ∧ g2 ≠ n ∧ g3 ≠ n

theorem RefO.kept {w w' : World} {n B S g1 g2 g3 : Nat} {d : Wl.Dk} (h : RefO w B S g1 g2 g3 d) (hk : Kept (fun b => b = n) w w') (h1 : g1 ≠ n) (h2 : g2 ≠ n) (h3 : g3 ≠ n) : RefO w' B S g1 g2 g3 d :=
  ⟨h.p1.kept hk h1, h.p2.kept hk h2, h.p3.kept hk h3, h.b1, h.b2, h.b3, h.n12, h.n13, h.n23, h.ok, h.lo, h.hi⟩

set_option maxRecDepth 100000 in
set_option maxHeartbeats 3200000 in
theorem rCopy_any {a1 a2 a3 : Option Addr} {c1 c2 c3 : Nat} (hG : ∀ b, G b → b < w.heap.size) (h : RefD w G S a1 a2 a3 d) :
    Calls Tryd.prog 87 #[.agg #[.slice a1 S c1, .slice a2 S c2, .slice a3 S c3]] w fun e w' => CopyR w.heap.size S d w' e ∧ Below w.heap.size w w' := by
  have hlo := h.lo
  have hhi := h.hi
  have HOK := Lib.hid h.ok
  go_enter Tryd.func87, Tryd.ntmps87
  go_wp2
  have hbx := (below_alloc w (.cells #[.slice a1 S c1, .slice a2 S c2, .slice a3 S c3] 36))
  have hby := below_alloc (w.alloc (.cells #[.slice a1 S c1, .slice a2 S c2, .slice a3 S c3] 36)) (.cells #[.slice none 0 0, .slice none 0 0, .slice none 0 0] 36)
  have hb := Below.step hbx hby (Nat.le_refl _)
  obtain ⟨hA, hB⟩ := heap2 w (.cells #[.slice a1 S c1, .slice a2 S c2, .slice a3 S c3] 36) (.cells #[.slice none 0 0, .slice none 0 0, .slice none 0 0] 36)
  clear hbx hby
  generalize ((w.alloc (.cells #[.slice a1 S c1, .slice a2 S c2, .slice a3 S c3] 36)).alloc (.cells #[.slice none 0 0, .slice none 0 0, .slice none 0 0] 36)) = wr at *
  have rA : Row wr w.heap.size 36 [.slice a1 S c1, .slice a2 S c2, .slice a3 S c3] := hA
  have rB : Row wr (w.heap.size + 1) 36 [.slice none 0 0, .slice none 0 0, .slice none 0 0] := hB
  have hbxB : Bx wr (w.heap.size + 1) := fun j hj => ⟨⟨_, rB.cell (k := j) (by simpa using hj)⟩, rB.free j⟩
  have hlt2 := rB.lt
  obtain ⟨H, hH⟩ : ∃ H : Nat → Prop, ∀ b, H b ↔ (G b ∨ b = w.heap.size + 1) := ⟨_, fun _ => Iff.rfl⟩
  have HGH := Lib.hid (fun b (hb' : G b) => (hH b).2 (.inl hb'))
  have HnH := Lib.hid (fun b (hb' : b = w.heap.size + 1) => (hH b).2 (.inr hb'))
  have HLT : Hid (∀ b, H b → b < wr.heap.size) := Lib.hid (fun b hb' => by rcases (hH b).1 hb' with h' | h'; have := hG b h'; omega; omega)
  have hlift : ∀ b, b < w.heap.size → H b → G b := fun b hlt hh => by rcases (hH b).1 hh with h' | h'; exact h'; omega
  have R1 := Lib.hid (h.now.lift hb hlift)
  have R2 := Lib.hid (h.old.lift hb hlift)
  have R3 := Lib.hid (h.dirty.lift hb hlift)
  have KA : Hid (∀ W, Kept (fun b => b = w.heap.size + 1) wr W → W.cell? ⟨w.heap.size, 0, none⟩ = some (.slice a1 S c1) ∧ W.cell? ⟨w.heap.size, 1, none⟩ = some (.slice a2 S c2) ∧ W.cell? ⟨w.heap.size, 2, none⟩ = some (.slice a3 S c3)) := Lib.hid fun W hk =>
    ⟨hk.cell (rA.cell (k := 0) (by simp)) (by simp), hk.cell (rA.cell (k := 1) (by simp)) (by simp), hk.cell (rA.cell (k := 2) (by simp)) (by simp)⟩
  have hGW : Hid (∀ W, Kept (fun b => b = w.heap.size + 1) wr W → ¬ H W.heap.size) := Lib.hid fun W hk hh => by have := HLT.out _ hh; have := hk.size; omega
  clear hH hlift h hA hB rA rB hG
  refine wp_region_box (wx := wr) (w.heap.size + 1) 13 12 [(EmptyS), (fun _ v => v = .pointer (some ⟨w.heap.size, 0, none⟩)), (fun _ v => v = .slice a1 S c1), (RowS (w.heap.size + 1) w.heap.size S 9 (svs d.now)), (EmptyS), (fun _ v => v = .pointer (some ⟨w.heap.size, 1, none⟩)), (fun _ v => v = .slice a2 S c2), (RowS (w.heap.size + 1) w.heap.size S 9 (svs d.old)), (EmptyS), (fun _ v => v = .pointer (some ⟨w.heap.size, 2, none⟩)), (fun _ v => v = .slice a3 S c3), (RowS (w.heap.size + 1) w.heap.size S 4 (bvs d.dirty)), (AggD (w.heap.size + 1) w.heap.size S d)] [3, 4, 5, 6, 7, 8, 9, 10, 11, 12, 13, 14, 15] [3, 7, 11] (by kernel_rfl) (by kernel_rfl) (by kernel_rfl) (by kernel_rfl) (by kernel_rfl) (by kernel_rfl) (of_decide_eq_true (by kernel_rfl)) (by kernel_rfl) (Kept.refl _) ⟨(fun _ _ _ h _ => h), stayK_val _ _, stayK_val _ _, (fun W W' v h hk => by obtain ⟨g, cap, e, hB, hn, hr⟩ := h; exact ⟨g, cap, e, hB, hn, hr.kept hk hn⟩), (fun _ _ _ h _ => h), stayK_val _ _, stayK_val _ _, (fun W W' v h hk => by obtain ⟨g, cap, e, hB, hn, hr⟩ := h; exact ⟨g, cap, e, hB, hn, hr.kept hk hn⟩), (fun _ _ _ h _ => h), stayK_val _ _, stayK_val _ _, (fun W W' v h hk => by obtain ⟨g, cap, e, hB, hn, hr⟩ := h; exact ⟨g, cap, e, hB, hn, hr.kept hk hn⟩), (fun W W' v h hk => by obtain ⟨x1, y1, x2, y2, x3, y3, e, hr, q1, q2, q3⟩ := h; exact ⟨x1, y1, x2, y2, x3, y3, e, hr.kept hk q1 q2 q3, q1, q2, q3⟩), trivial⟩ ?hI ?hagg hbxB ⟨?s0, ?s1, ?s2, ?s3, ?s4, ?s5, ?s6, ?s7, ?s8, ?s9, ?s10, ?s11, ?s12, ?s13, trivial⟩ ?he
  case hI =>
    intro k hk
    have hk3 : k = 3 ∨ k = 7 ∨ k = 11 := by simpa using hk
    rcases hk3 with rfl | rfl | rfl
    all_goals
      refine ⟨by decide, ?_⟩
      rintro W v ⟨g, cap, e, _, _, hp⟩
      exact ⟨g, by rw [e]; rfl, hp.lt⟩
  case hagg =>
    rintro W v ⟨x1, y1, x2, y2, x3, y3, e, _⟩
    exact ⟨_, _, _, e⟩
  case s0 =>
    refine ⟨fun _ => ?_, fun h => absurd h (by decide)⟩
    rintro T W hk hx hA hp K hK
    simp only [ovr, Act.put, List.setIfInBounds_toArray, List.set_cons_zero, List.set_cons_succ] at hK ⊢
    have HK := Lib.hid hK
    clear hK hA
    refine wpOp_want rfl (by rfl) ?_
    go_simp
    exact HK.out _ _ (below_alloc _ _) ⟨_, rfl⟩ (fun h => absurd h (by decide))
  case s1 =>
    refine ⟨fun _ => ?_, fun h => absurd h (by decide)⟩
    rintro T W hk hx hA hp K hK
    simp only [ovr, Act.put, List.setIfInBounds_toArray, List.set_cons_zero, List.set_cons_succ] at hK ⊢
    have HK := Lib.hid hK
    clear hK hA
    refine wpOp_want rfl (by rfl) ?_
    go_simp
    exact HK.out _ _ (Below.refl _ _) rfl (fun h => absurd h (by decide))
  case s2 =>
    refine ⟨fun _ => ?_, fun h => absurd h (by decide)⟩
    rintro T W hk hx hA hp K hK
    have e : T 4 = .pointer (some ⟨w.heap.size, 0, none⟩) := hA.1
    simp only [ovr, Act.put, List.setIfInBounds_toArray, List.set_cons_zero, List.set_cons_succ, e] at hK ⊢
    have HK := Lib.hid hK
    clear hK hA
    refine wpOp_want rfl (by rfl) ?_
    obtain ⟨k0, k1, k2⟩ := KA.out W hk
    go_simp
    exact HK.out _ _ (Below.refl _ _) rfl (fun h => absurd h (by decide))
  case s3 =>
    refine ⟨fun _ => ?_, fun h => absurd h (by decide)⟩
    rintro T W hk hx hA hp K hK
    obtain ⟨g, eg⟩ : EmptyS W (T 3) := hA.1
    have e : T 5 = .slice a1 S c1 := hA.2.1
    simp only [ovr, Act.put, List.setIfInBounds_toArray, List.set_cons_zero, List.set_cons_succ, eg, e] at hK ⊢
    have HK := Lib.hid hK
    clear hK hA
    refine wpOp_want rfl (by rfl) ?_
    refine wp_app_all (.tmp 3) (.tmp 5) 33 9 16 (.string ⟨#[]⟩) rfl Tryd.underlying33 Tryd.info9 (by decide) g a1 S c1 (svs d.now) (by simp [Act.eval]) (by simp [Act.eval]) H (R1.out.mono (hk.wider HnH.out)) (by simp [HOK.out.now]) (by omega) (by omega) ?_
    intro cap w' hb' hr'
    exact HK.out _ _ hb' ⟨_, cap, rfl, by have := hk.size; omega, by have := hk.size; omega, hr'⟩ (fun _ => ⟨_, rfl, Nat.le_refl _⟩)
  case s4 =>
    refine ⟨fun _ => ?_, fun h => absurd h (by decide)⟩
    rintro T W hk hx hA hp K hK
    simp only [ovr, Act.put, List.setIfInBounds_toArray, List.set_cons_zero, List.set_cons_succ] at hK ⊢
    have HK := Lib.hid hK
    clear hK hA
    refine wpOp_want rfl (by rfl) ?_
    go_simp
    exact HK.out _ _ (below_alloc _ _) ⟨_, rfl⟩ (fun h => absurd h (by decide))
  case s5 =>
    refine ⟨fun _ => ?_, fun h => absurd h (by decide)⟩
    rintro T W hk hx hA hp K hK
    simp only [ovr, Act.put, List.setIfInBounds_toArray, List.set_cons_zero, List.set_cons_succ] at hK ⊢
    have HK := Lib.hid hK
    clear hK hA
    refine wpOp_want rfl (by rfl) ?_
    go_simp
    exact HK.out _ _ (Below.refl _ _) rfl (fun h => absurd h (by decide))
  case s6 =>
    refine ⟨fun _ => ?_, fun h => absurd h (by decide)⟩
    rintro T W hk hx hA hp K hK
    have e : T 8 = .pointer (some ⟨w.heap.size, 1, none⟩) := hA.1
    simp only [ovr, Act.put, List.setIfInBounds_toArray, List.set_cons_zero, List.set_cons_succ, e] at hK ⊢
    have HK := Lib.hid hK
    clear hK hA
    refine wpOp_want rfl (by rfl) ?_
    obtain ⟨k0, k1, k2⟩ := KA.out W hk
    go_simp
    exact HK.out _ _ (Below.refl _ _) rfl (fun h => absurd h (by decide))
  case s7 =>
    refine ⟨fun _ => ?_, fun h => absurd h (by decide)⟩
    rintro T W hk hx hA hp K hK
    obtain ⟨g, eg⟩ : EmptyS W (T 7) := hA.1
    have e : T 9 = .slice a2 S c2 := hA.2.1
    simp only [ovr, Act.put, List.setIfInBounds_toArray, List.set_cons_zero, List.set_cons_succ, eg, e] at hK ⊢
    have HK := Lib.hid hK
    clear hK hA
    refine wpOp_want rfl (by rfl) ?_
    refine wp_app_all (.tmp 7) (.tmp 9) 33 9 16 (.string ⟨#[]⟩) rfl Tryd.underlying33 Tryd.info9 (by decide) g a2 S c2 (svs d.old) (by simp [Act.eval]) (by simp [Act.eval]) H (R2.out.mono (hk.wider HnH.out)) (by simp [HOK.out.old]) (by omega) (by omega) ?_
    intro cap w' hb' hr'
    exact HK.out _ _ hb' ⟨_, cap, rfl, by have := hk.size; omega, by have := hk.size; omega, hr'⟩ (fun _ => ⟨_, rfl, Nat.le_refl _⟩)
  case s8 =>
    refine ⟨fun _ => ?_, fun h => absurd h (by decide)⟩
    rintro T W hk hx hA hp K hK
    simp only [ovr, Act.put, List.setIfInBounds_toArray, List.set_cons_zero, List.set_cons_succ] at hK ⊢
    have HK := Lib.hid hK
    clear hK hA
    refine wpOp_want rfl (by rfl) ?_
    go_simp
    exact HK.out _ _ (below_alloc _ _) ⟨_, rfl⟩ (fun h => absurd h (by decide))
  case s9 =>
    refine ⟨fun _ => ?_, fun h => absurd h (by decide)⟩
    rintro T W hk hx hA hp K hK
    simp only [ovr, Act.put, List.setIfInBounds_toArray, List.set_cons_zero, List.set_cons_succ] at hK ⊢
    have HK := Lib.hid hK
    clear hK hA
    refine wpOp_want rfl (by rfl) ?_
    go_simp
    exact HK.out _ _ (Below.refl _ _) rfl (fun h => absurd h (by decide))
  case s10 =>
    refine ⟨fun _ => ?_, fun h => absurd h (by decide)⟩
    rintro T W hk hx hA hp K hK
    have e : T 12 = .pointer (some ⟨w.heap.size, 2, none⟩) := hA.1
    simp only [ovr, Act.put, List.setIfInBounds_toArray, List.set_cons_zero, List.set_cons_succ, e] at hK ⊢
    have HK := Lib.hid hK
    clear hK hA
    refine wpOp_want rfl (by rfl) ?_
    obtain ⟨k0, k1, k2⟩ := KA.out W hk
    go_simp
    exact HK.out _ _ (Below.refl _ _) rfl (fun h => absurd h (by decide))
  case s11 =>
    refine ⟨fun _ => ?_, fun h => absurd h (by decide)⟩
    rintro T W hk hx hA hp K hK
    obtain ⟨g, eg⟩ : EmptyS W (T 11) := hA.1
    have e : T 13 = .slice a3 S c3 := hA.2.1
    simp only [ovr, Act.put, List.setIfInBounds_toArray, List.set_cons_zero, List.set_cons_succ, eg, e] at hK ⊢
    have HK := Lib.hid hK
    clear hK hA
    refine wpOp_want rfl (by rfl) ?_
    refine wp_app_all (.tmp 11) (.tmp 13) 34 4 1 (.bool false) rfl Tryd.underlying34 Tryd.info4 (by decide) g a3 S c3 (bvs d.dirty) (by simp [Act.eval]) (by simp [Act.eval]) H (R3.out.mono (hk.wider HnH.out)) (by simp [HOK.out.dirty]) (by omega) (by omega) ?_
    intro cap w' hb' hr'
    exact HK.out _ _ hb' ⟨_, cap, rfl, by have := hk.size; omega, by have := hk.size; omega, hr'⟩ (fun _ => ⟨_, rfl, Nat.le_refl _⟩)
  case s12 =>
    refine ⟨fun _ => ?_, fun h => absurd h (by decide)⟩
    rintro T W hk hx hA hp K hK
    obtain ⟨g1, k1, e1, hB1, hn1, hr1⟩ : RowS (w.heap.size + 1) w.heap.size S 9 (svs d.now) W (T 6) := hA.1
    obtain ⟨g2, k2, e2, hB2, hn2, hr2⟩ : RowS (w.heap.size + 1) w.heap.size S 9 (svs d.old) W (T 10) := hA.2.1
    obtain ⟨g3, k3, e3, hB3, hn3, hr3⟩ : RowS (w.heap.size + 1) w.heap.size S 4 (bvs d.dirty) W (T 14) := hA.2.2.1
    have p12 : (T 6).ownBlock ≠ (T 10).ownBlock := hp 3 (by decide) 7 (by decide) (by decide) (of_decide_eq_true (by kernel_rfl)) (of_decide_eq_true (by kernel_rfl))
    have p13 : (T 6).ownBlock ≠ (T 14).ownBlock := hp 3 (by decide) 11 (by decide) (by decide) (of_decide_eq_true (by kernel_rfl)) (of_decide_eq_true (by kernel_rfl))
    have p23 : (T 10).ownBlock ≠ (T 14).ownBlock := hp 7 (by decide) 11 (by decide) (by decide) (of_decide_eq_true (by kernel_rfl)) (of_decide_eq_true (by kernel_rfl))
    rw [e1, e2] at p12
    rw [e1, e3] at p13
    rw [e2, e3] at p23
    have q12 := Lib.hid (fun e : g1 = g2 => p12 (by rw [e]; rfl))
    have q13 := Lib.hid (fun e : g1 = g3 => p13 (by rw [e]; rfl))
    have q23 := Lib.hid (fun e : g2 = g3 => p23 (by rw [e]; rfl))
    clear p12 p13 p23 hp
    simp only [ovr, Act.put, List.setIfInBounds_toArray, List.set_cons_zero, List.set_cons_succ, e1, e2, e3] at hK ⊢
    have HK := Lib.hid hK
    clear hK hA
    refine wpOp_want rfl (by rfl) ?_
    go_simp
    exact HK.out _ _ (Below.refl _ _) ⟨_, _, _, _, _, _, rfl, ⟨hr1, hr2, hr3, hB1, hB2, hB3, q12.out, q13.out, q23.out, HOK.out, hlo, hhi⟩, hn1, hn2, hn3⟩ (fun h => absurd h (by decide))
  case s13 =>
    refine ⟨fun h => absurd h (by decide), fun _ => ?_⟩
    rintro T W v0 v1 v2 hq hx hA K hK
    obtain ⟨x1, y1, x2, y2, x3, y3, e, hr, _⟩ : AggD (w.heap.size + 1) w.heap.size S d W (T 15) := hA.1
    have hq' : T 15 = .agg #[v0, v1, v2] := hq
    rw [e] at hq'
    simp only [Value.agg.injEq, Array.mk.injEq, List.cons.injEq, and_true] at hq'
    obtain ⟨rfl, rfl, rfl⟩ := hq'
    simp only [ovr, List.setIfInBounds_toArray, List.set_cons_zero, List.set_cons_succ, e, put3] at hK ⊢
    have HK := Lib.hid hK
    clear hK hA hq
    obtain ⟨⟨u0, z0⟩, f0⟩ := hx 0 (by omega)
    obtain ⟨⟨u1, z1⟩, f1⟩ := hx 1 (by omega)
    obtain ⟨⟨u2, z2⟩, f2⟩ := hx 2 (by omega)
    refine wpOp_want rfl (by rfl) ?_
    go_simp
    exact HK.out
  case he =>
    rintro T W v0 v1 v2 hk hA hq hc
    have e : T 15 = .agg #[v0, v1, v2] := hq
    have r : AggD (w.heap.size + 1) w.heap.size S d W (T 15) := hA.at 12 (by decide)
    rw [e] at r
    obtain ⟨c0', c1', c2'⟩ := hc
    simp only [ovr, List.setIfInBounds_toArray, List.set_cons_zero, List.set_cons_succ]
    go_wp2
    refine bodyPost_ret (v := .agg #[v0, v1, v2]) (by simp [results, Tryd.results87, go_sem, c0', c1', c2']) rfl ⟨?_, hb.trans (hk.below (by rintro b rfl; omega) hb.size)⟩
    obtain ⟨x1, y1, x2, y2, x3, y3, e', hr, _⟩ := r
    exact ⟨x1, y1, x2, y2, x3, y3, by rw [e'], hr⟩
end

end Go.Proofs.YtackeigdehfmmaaDoor
