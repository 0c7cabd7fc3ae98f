import Derived.Test.YtackeigdehfmmaaDoorYE
namespace Go.Proofs.YtackeigdehfmmaaDoor
open Go.RowKit

section
variable {ops : Array Oper} {rest : List Oper} {o : Oper} {a : Act} {Q : Exit → Act → World → Prop}
/-- copy(dst, src) of a row of the call's own -/
theorem copy_pre (w : World) (hgd : o.guard = none) (dd s : Operand) (T E : TypeId)
    (ho : o.op = .call { callee := .builtin .copy, args := #[dd, s], argTypes := #[T, T] }) (hu : Tryd.prog.underlying T = some (.slice E)) (hsz : (Tryd.prog.info? E).map (·.size) = some 1)
    (g n c c' : Nat) (ao : Option Addr) (ys xs : List Value) (hd : a.eval dd = .slice (some ⟨g, 0, none⟩) n c) (hs : a.eval s = .slice ao n c') (G : Nat → Prop)
    (hr : Pre w g E ys) (hr' : RG w G ao xs) (hn : ys.length = n) (hn' : xs.length = n) (h0 : 0 < n) (h1 : ∀ v ∈ xs, v.oneCell' = true)
    (h : ∀ w', Pre w' g E xs → Kept (fun b => b = g) w w' → wpList Tryd.prog ops Q rest (a.put o.dst (goInt n)) w') : wpList Tryd.prog ops Q (o :: rest) a w := by
  obtain ⟨b, off, rfl, -, -⟩ := hr'.at' (k := 0) (by omega)
  obtain ⟨cs, hcs, hct⟩ := hr
  have hcl : n ≤ cs.size := by
    have := congrArg List.length hct
    simp at this
    omega
  have hsrc : ∀ j v, xs[j]? = some v → w.cell? ((⟨b, off, none⟩ : Addr).add j) = some v := by
    intro j v hj
    obtain ⟨b', off', e, -, hc⟩ := hr' j v hj
    simp only [Option.some.injEq, Addr.mk.injEq, and_true] at e
    obtain ⟨rfl, rfl⟩ := e
    have e : (⟨b, off, none⟩ : Addr).add j = ⟨b, off + j, none⟩ := by
      unfold Addr.add; split
      · subst j; rfl
      · rfl
    rw [e]; exact hc
  have hrun := run_copy_row (P := Tryd.prog) w T T o.type E g 0 n c ⟨b, off, none⟩ n c' cs E xs hu hsz hcs (by rw [hn']; exact (Nat.min_self n).symm) hsrc (by omega) h1
  refine wpList_plain hgd fun K hK => ?_
  unfold Oper.wp
  simp [execOp, ho, resolve, invoke, builtin, hd, hs, hrun, Result.andThen]
  rw [hn']
  refine hK _ _ (h _ ?_ ((Kept.refl w).setRow (G := fun b => b = g) rfl _))
  exact ⟨_, setRow_heap w g _ _ E _ hcs, by simp⟩
end

theorem RG.own {w : World} {G : Nat → Prop} {ao : Option Addr} {xs : List Value} (h : RG w G ao xs) : RG w (fun b => w.heap.size ≤ b) ao xs := by
  intro i x hx
  obtain ⟨b, off, e, _, hc⟩ := h i x hx
  exact ⟨b, off, e, by have := cell_lt hc; simp only at this; omega, hc⟩

theorem RG.kept2 {w w' : World} {G H : Nat → Prop} {ao : Option Addr} {xs : List Value} (h : RG w G ao xs) (hk : Kept H w w') (hH : ∀ b, H b → G b) : RG w' G ao xs := h.mono (hk.wider hH)

theorem sync1 {w w' : World} {B S g1 g2 g3 : Nat} {d d0 : Wl.Dk} (h : RefO w B S g1 g2 g3 d0) (hk : Kept (fun b => b = g1) w w') (hp : Pre w' g1 9 (svs d.now)) (hok : d.Ok S) : RefO w' B S g1 g2 g3 ⟨d.now, d0.old, d0.dirty⟩ :=
  ⟨hp, h.p2.kept hk h.n12.symm, h.p3.kept hk h.n13.symm, h.b1, h.b2, h.b3, h.n12, h.n13, h.n23, ⟨hok.now, h.ok.old, h.ok.dirty, hok.small, h.ok.small'⟩, h.lo, h.hi⟩

theorem sync2 {w w' : World} {B S g1 g2 g3 : Nat} {d : Wl.Dk} (h : RefO w B S g1 g2 g3 ⟨d.now, (Wl.Dk.new S).old, (Wl.Dk.new S).dirty⟩) (hk : Kept (fun b => b = g2) w w') (hp : Pre w' g2 9 (svs d.now)) (hok : d.Ok S) : RefO w' B S g1 g2 g3 d.syn :=
  ⟨h.p1.kept hk h.n12, hp, by have := h.p3.kept hk h.n23.symm; simpa [Wl.Dk.syn, Wl.Dk.new, hok.now] using this, h.b1, h.b2, h.b3, h.n12, h.n13, h.n23, hok.syn, h.lo, h.hi⟩

/-- a new disk of the reference -/
def FreshR (G : Nat → Prop) (S : Nat) (d : Wl.Dk) (w' : World) (e : Ending) : Prop := ∃ v, e = .returned v ∧ RefV w' G S v d

section
variable {w : World} {G : Nat → Prop} {S : Nat} {d : Wl.Dk}

set_option maxRecDepth 100000 in
set_option maxHeartbeats 3200000 in
theorem rSync_any {a1 a2 a3 : Option Addr} {c1 c2 c3 : Nat} (hG : ∀ b, G b → b < w.heap.size) (h : RefD w G S a1 a2 a3 d) :
    Calls Tryd.prog 61 #[.agg #[.slice a1 S c1, .slice a2 S c2, .slice a3 S c3]] w fun e w' => FreshR G S d.syn w' e ∧ Below w.heap.size w w' := by
  have hhi := h.hi
  have hlo := h.lo
  have HG := Lib.hid hG
  have HOK := Lib.hid h.ok
  have R0 := h.now.own
  clear hG h
  go_enter Tryd.func61, Tryd.ntmps61
  go_upto_region 1 with fail
  have hbx := (below_alloc w (.cells #[.slice a1 S c1, .slice a2 S c2, .slice a3 S c3] 36))
  have hby := below_alloc (w.alloc (.cells #[.slice a1 S c1, .slice a2 S c2, .slice a3 S c3] 36)) (.cells #[.slice none 0 0, .slice none 0 0, .slice none 0 0] 36)
  have hb := Below.step hbx hby (Nat.le_refl _)
  obtain ⟨hA, hB⟩ := heap2 w (.cells #[.slice a1 S c1, .slice a2 S c2, .slice a3 S c3] 36) (.cells #[.slice none 0 0, .slice none 0 0, .slice none 0 0] 36)
  clear hbx hby
  generalize ((w.alloc (.cells #[.slice a1 S c1, .slice a2 S c2, .slice a3 S c3] 36)).alloc (.cells #[.slice none 0 0, .slice none 0 0, .slice none 0 0] 36)) = wr at *
  have rA : Row wr w.heap.size 36 [.slice a1 S c1, .slice a2 S c2, .slice a3 S c3] := hA
  have rB : Row wr (w.heap.size + 1) 36 [.slice none 0 0, .slice none 0 0, .slice none 0 0] := hB
  have R1 := R0.mono (Kept.of_below hb)
  have hC := rNew_any (w := wr) hlo hhi
  have hltB := rB.lt
  clear hA hB R0
  obtain ⟨k0, k1, k2, _, _, _⟩ := Row3 rA
  go_wp2_with fail
  (with_reducible refine hC.mono ?_)
  rintro e w1 ⟨⟨g1, m1, g2, m2, g3, m3, rfl, HO⟩, hb1⟩
  clear k0 k1 k2 hC
  have rA := rA.below hb1
  have rB := rB.below hb1
  have R1 := R1.mono (Kept.of_below hb1)
  go_upto_region 2 with fail
  have hb2 := below_alloc w1 (.cells #[.slice (some ⟨g1, 0, none⟩) S m1, .slice (some ⟨g2, 0, none⟩) S m2, .slice (some ⟨g3, 0, none⟩) S m3] 36)
  have r8 : Row (w1.alloc (.cells #[.slice (some ⟨g1, 0, none⟩) S m1, .slice (some ⟨g2, 0, none⟩) S m2, .slice (some ⟨g3, 0, none⟩) S m3] 36)) w1.heap.size 36 [.slice (some ⟨g1, 0, none⟩) S m1, .slice (some ⟨g2, 0, none⟩) S m2, .slice (some ⟨g3, 0, none⟩) S m3] := heap_alloc_new _ _
  have hl1 := HO.p1.lt
  have hl2 := HO.p2.lt
  have hB1 := HO.b1
  have hB2 := HO.b2
  have hB3 := HO.b3
  have hs1 := hb1.size
  have HO := HO.mono hb2
  have rA := rA.below hb2
  have rB := rB.below hb2
  have R1 := R1.mono (Kept.of_below hb2)
  have hbb := Below.step (Below.step hb hb1 (Nat.le_refl _)) hb2 (Nat.le_refl _)
  have hs2 := hb2.size
  generalize (w1.alloc (.cells #[.slice (some ⟨g1, 0, none⟩) S m1, .slice (some ⟨g2, 0, none⟩) S m2, .slice (some ⟨g3, 0, none⟩) S m3] 36)) = w2 at *
  obtain ⟨n8, hn8⟩ : ∃ n8, n8 = w1.heap.size := ⟨_, rfl⟩
  rw [← hn8] at r8 ⊢
  have x1 : n8 ≠ g1 := by omega
  have x2 : n8 ≠ g2 := by omega
  have x3 : w.heap.size ≠ g1 := by omega
  have x4 : w.heap.size ≠ g2 := by omega
  have z1 : w.heap.size + 1 ≠ g1 := by omega
  have z2 : w.heap.size + 1 ≠ g2 := by omega
  have z3 : w.heap.size + 1 ≠ g3 := by omega
  have hg1 : w.heap.size ≤ g1 := by omega
  have hg2 : w.heap.size ≤ g2 := by omega
  have hsr : w.heap.size ≤ wr.heap.size := by omega
  clear hn8 hl1 hl2 hB1 hB2 hB3 hs1 hs2 hb2 hb1 hb hltB
  have R1 : RG w2 (fun b => b = g1 ∨ b = g2) a1 (svs d.now) := R1.narrow (fun b hb' => by rcases hb' with rfl | rfl <;> omega)
  obtain ⟨k0, k1, k2, _, _, _⟩ := Row3 r8
  obtain ⟨j0, _, _, _, _, _⟩ := Row3 rA
  have HRA := Lib.hid rA
  have HRB := Lib.hid rB
  have HR8 := Lib.hid r8
  clear rA rB r8
  have H12 := Lib.hid HO.n12
  have HO := Lib.hid HO
  go_wp2_with (first | (with_reducible refine copy_pre _ rfl (.tmp 9) (.tmp 11) 33 9 rfl Tryd.underlying33 (by kernel_rfl) g1 S m1 c1 a1 (svs (Wl.Dk.new S).now) (svs d.now) rfl rfl _ HO.out.p1 R1 (by simp [Wl.Dk.new]) (by simp [HOK.out.now]) (by omega) (oneS _) ?_; intro w3 hp1 hk3; have HO3 := Lib.hid (sync1 HO.out hk3 hp1 HOK.out); have k0 := hk3.cell k0 x1; have k1 := hk3.cell k1 x1; have k2 := hk3.cell k2 x1; have j0 := hk3.cell j0 x3; have HRB := Lib.hid (HRB.out.mono hk3 z1); have R2 := R1.kept2 hk3 (fun b hb' => .inl hb'); have hbb := hbb.trans (hk3.below (by rintro b rfl; exact hg1) hbb.size); clear hp1 hk3 R1 HO) | (with_reducible refine copy_pre _ rfl (.tmp 14) (.tmp 16) 33 9 rfl Tryd.underlying33 (by kernel_rfl) g2 S m2 c1 a1 (svs (Wl.Dk.new S).old) (svs d.now) rfl rfl _ HO3.out.p2 R2 (by simp [Wl.Dk.new]) (by simp [HOK.out.now]) (by omega) (oneS _) ?_; intro w4 hp2 hk4; have HO4 := Lib.hid (sync2 HO3.out hk4 hp2 HOK.out); have k0 := hk4.cell k0 x2; have k1 := hk4.cell k1 x2; have k2 := hk4.cell k2 x2; have HRB := Lib.hid (HRB.out.mono hk4 z2); obtain ⟨q0, q1, q2, f0, f1, f2⟩ := Row3 HRB.out; have hbb := hbb.trans (hk4.below (by rintro b rfl; exact hg2) hbb.size); clear hp2 hk4 R2 HO3 j0))
  have HF := Lib.hid (HO4.out.kept (put3_kept _ (w.heap.size + 1) (.slice (some ⟨g1, 0, none⟩) S m1) (.slice (some ⟨g2, 0, none⟩) S m2) (.slice (some ⟨g3, 0, none⟩) S m3)) z1.symm z2.symm z3.symm)
  have hbf := ((hbb.setCell (p := ⟨w.heap.size + 1, 0, none⟩) (by simp) (.slice (some ⟨g1, 0, none⟩) S m1)).setCell (p := ⟨w.heap.size + 1, 1, none⟩) (by simp) (.slice (some ⟨g2, 0, none⟩) S m2)).setCell (p := ⟨w.heap.size + 1, 2, none⟩) (by simp) (.slice (some ⟨g3, 0, none⟩) S m3)
  refine bodyPost_ret (v := .agg #[.slice (some ⟨g1, 0, none⟩) S m1, .slice (some ⟨g2, 0, none⟩) S m2, .slice (some ⟨g3, 0, none⟩) S m3]) (by simp [results, Tryd.results61, go_sem, q0, q1, q2]) rfl ⟨⟨_, rfl, RefV.mk (HF.out.ref (fun b hb' => Nat.lt_of_lt_of_le (HG.out b hb') hsr))⟩, hbf⟩
end

end Go.Proofs.YtackeigdehfmmaaDoor
