import Derived.Test.YtackeigdehfmmaaDoorYH
namespace Go.Proofs.YtackeigdehfmmaaDoor
open Go.RowKit

theorem Disk.keptN {w w' : World} {G : Nat → Prop} {p S n : Nat} {d : Wl.Dk} (h : Disk w G p S d) (hk : Kept (fun b => b = n) w w') (hp : p ≠ n) (hn : ¬ G n) : Disk w' G p S d := by
  obtain ⟨g1, g2, g3, h⟩ := h
  have ne : ∀ g, G g → g ≠ n := fun g hg e => hn (e ▸ hg)
  exact ⟨g1, g2, g3, hk.cell h.c0 hp, hk.cell h.c1 hp, hk.cell h.c2 hp, h.np, h.G1, h.G2, h.G3, h.n12, h.n13, h.n23, h.r1.mono hk (ne _ h.G1), h.r2.mono hk (ne _ h.G2), h.r3.mono hk (ne _ h.G3), h.ok, h.lo, h.hi⟩

/-- a disk and the reference's, both with an empty log -/
structure Made (w w' : World) (S p : Nat) (G : Nat → Prop) (v : Value) : Prop where
  disk : Disk w' G p S (Wl.Dk.new S).fmt.1
  ref : RefV w' G S v (Wl.Dk.new S).fmt.1
  lo : ∀ b, G b → w.heap.size ≤ b
  hi : ∀ b, G b → b < w'.heap.size
  pl : w.heap.size ≤ p

def MadeR (w w' : World) (S : Nat) (e : Ending) : Prop := ∃ p G v, e = .returned (.tuple #[.pointer (some ⟨p, 0, none⟩), v, .bool true]) ∧ Made w w' S p G v

theorem fmt_now {S : Nat} (h : 4 ≤ S) : ((Wl.Dk.new S).fmt.1).now.length = S := by
  unfold Wl.Dk.fmt; rw [if_neg (by simp [Wl.Dk.new]; omega)]; simp [Wl.Dk.new]

set_option maxRecDepth 100000 in
set_option maxHeartbeats 3200000 in
theorem made_any (S : Nat) (w : World) (h4 : 4 ≤ S) (h1024 : S ≤ 1024) (hE : Env w) :
    Calls Tryd.prog 12 #[.int .i64 S] w fun e w' => MadeR w w' S e ∧ Below w.heap.size w w' := by
  go_enter Tryd.func12, Tryd.ntmps12
  go_upto_region 1 with fail
  have hb0 := below_alloc w (.cells #[.slice none 0 0, .slice none 0 0, .slice none 0 0] 36)
  have r3 : Row (w.alloc (.cells #[.slice none 0 0, .slice none 0 0, .slice none 0 0] 36)) w.heap.size 36 [.slice none 0 0, .slice none 0 0, .slice none 0 0] := heap_alloc_new _ _
  generalize w.alloc (.cells #[.slice none 0 0, .slice none 0 0, .slice none 0 0] 36) = w0 at *
  have hlt3 := r3.lt
  go_wp2_with fail
  (with_reducible refine (New_yes S w0 (by omega) h1024).mono ?_)
  rintro e w1 ⟨⟨p, G, rfl, hp, hD, hGb⟩, hb1⟩
  have r3 := r3.below hb1
  have hb := Below.step hb0 hb1 (Nat.le_refl _)
  have HG := Lib.hid hGb
  have hs1 := hb1.size
  clear hb0 hb1 hGb
  go_wp2_with fail
  (with_reducible refine (rNew_any (w := w1) (by omega) h1024).mono ?_)
  rintro e w2 ⟨⟨g1, m1, g2, m2, g3, m3, rfl, HO⟩, hb2⟩
  obtain ⟨H, hH⟩ : ∃ H : Nat → Prop, ∀ b, H b ↔ (G b ∨ b = w.heap.size) := ⟨_, fun _ => Iff.rfl⟩
  have HGH : Hid (∀ b, G b → H b) := Lib.hid (fun b hb' => (hH b).2 (.inl hb'))
  have HnH : Hid (∀ b, b = w.heap.size → H b) := Lib.hid (fun b hb' => (hH b).2 (.inr hb'))
  have HLT : Hid (∀ b, H b → b < w1.heap.size) := Lib.hid (fun b hb' => by rcases (hH b).1 hb' with h' | h'; have := (HG.out b h').2; omega; omega)
  have HH := Lib.hid hH
  clear hH
  have hR := HO.ref HLT.out
  have hD := hD.mono hb2
  have r3 := r3.below hb2
  have hb := Below.step hb hb2 (Nat.le_refl _)
  have hs2 := hb2.size
  clear HO hb2
  have hF := rFormat_yes (w := w2) (G := H) (c1 := m1) (c2 := m2) (c3 := m3) (fun b hb' => Nat.lt_of_lt_of_le (HLT.out b hb') hs2) hR (hE.mono hb) h4
  clear hR
  go_wp2_with fail
  (with_reducible refine hF.mono ?_)
  rintro e w3 ⟨⟨v, rfl, b1, n1, b2, n2, b3, n3, rfl, hR⟩, hb3⟩
  have hD := hD.mono hb3
  have r3 := r3.below hb3
  have hb := Below.step hb hb3 (Nat.le_refl _)
  have hs3 := hb3.size
  clear hF hb3
  go_upto_region 5 with fail
  have hb4 := below_alloc w3 (.cells #[.slice b1 S n1, .slice b2 S n2, .slice b3 S n3] 36)
  have r7 : Row (w3.alloc (.cells #[.slice b1 S n1, .slice b2 S n2, .slice b3 S n3] 36)) w3.heap.size 36 [.slice b1 S n1, .slice b2 S n2, .slice b3 S n3] := heap_alloc_new _ _
  have hD := hD.mono hb4
  have r3 := r3.below hb4
  have hR := hR.mono hb4
  have hb := Below.step hb hb4 (Nat.le_refl _)
  have hs4 := hb4.size
  generalize (w3.alloc (.cells #[.slice b1 S n1, .slice b2 S n2, .slice b3 S n3] 36)) = w4 at *
  obtain ⟨n7, hn7⟩ : ∃ n7, n7 = w3.heap.size := ⟨_, rfl⟩
  rw [← hn7] at r7 ⊢
  have h73 : n7 ≠ w.heap.size := by omega
  have h37 : w.heap.size ≠ n7 := by omega
  have HN7 : Hid (¬ G n7) := Lib.hid (fun hg => by have := (HG.out n7 hg).2; omega)
  have HNH7 : Hid (¬ H n7) := Lib.hid (fun hg => by rcases (HH.out n7).1 hg with h' | h'; exact HN7.out h'; exact h73 h')
  have HN3 : Hid (¬ G w.heap.size) := Lib.hid (fun hg => by have := (HG.out _ hg).1; omega)
  have hp3 : p ≠ w.heap.size := by omega
  have hs5 : w1.heap.size ≤ w4.heap.size := by omega
  clear hb4 hn7 hs1 hs2 hs3 hs4
  have hFm := fun (W : World) (hW : Kept (fun b => b = w.heap.size) w4 W) => Format_yes (w := W) (G := G) (p := p) (S := S) (d := Wl.Dk.new S) (hD.keptN hW hp3 HN3.out)
    ⟨fun V hV => hE.mono ((hb.trans (hW.below (by rintro b rfl; exact Nat.le_refl _) hb.size)).trans (hV.below (fun b hg => by have := (HG.out b hg).1; omega) (Nat.le_trans hb.size hW.size))), fun b hg => by have := (HG.out b hg).2; have := hW.size; omega⟩ h4
  obtain ⟨k0, k1, k2, _, _, _⟩ := Row3 r7
  obtain ⟨q0, q1, q2, f0, f1, f2⟩ := Row3 r3
  go_region_with (go_at_call 39; (with_reducible refine (hFm _ ?_).mono ?_); (repeat' (first | with_reducible exact Kept.refl _ | with_reducible refine Kept.drew ?_ | with_reducible refine Kept.setCell ?_ ?_ _ | exact rfl)); rintro e t1 ⟨rfl, hD1, hk1⟩; have HT1 : Kept H w4 t1 := (Kept.wider (by (repeat' (first | with_reducible exact Kept.refl _ | with_reducible refine Kept.drew ?_ | with_reducible refine Kept.setCell ?_ ?_ _ | exact rfl)) : Kept (fun b => b = w.heap.size) w4 _) HnH.out).trans (hk1.wider HGH.out); obtain ⟨k0', k1', k2', _, _, _⟩ := Row3 (r7.mono HT1 HNH7.out); first | (have r3t := (r3.drew).mono hk1 HN3.out; obtain ⟨q0', q1', q2', f0', f1', f2'⟩ := Row3 r3t) | (have r3t := ((r3.drew).put3 (.slice b1 S n1) (.slice b2 S n2) (.slice b3 S n3)).mono hk1 HN3.out; obtain ⟨q0', q1', q2', f0', f1', f2'⟩ := Row3 r3t))
  all_goals
    have HP := put3_kept t1 w.heap.size (.slice b1 S n1) (.slice b2 S n2) (.slice b3 S n3)
    have HRf := ((hR.kept HT1).kept (HP.wider HnH.out)).narrow HGH.out
    have hDf := hD1.keptN HP hp3 HN3.out
    have hbT : Below w.heap.size w t1 := hb.trans (HT1.below (fun b hg => by rcases (HH.out b).1 hg with h' | h'; have := (HG.out b h').1; omega; omega) hb.size)
    have hbf := ((hbT.setCell (p := ⟨w.heap.size, 0, none⟩) (Nat.le_refl _) (.slice b1 S n1)).setCell (p := ⟨w.heap.size, 1, none⟩) (Nat.le_refl _) (.slice b2 S n2)).setCell (p := ⟨w.heap.size, 2, none⟩) (Nat.le_refl _) (.slice b3 S n3)
    have HM : Hid (Made w (put3 t1 w.heap.size (.slice b1 S n1) (.slice b2 S n2) (.slice b3 S n3)) S p G (.agg #[.slice b1 S n1, .slice b2 S n2, .slice b3 S n3])) := Lib.hid
      ⟨hDf, RefV.mk HRf, fun b hg => by have := (HG.out b hg).1; omega, fun b hg => by have h1 := (HG.out b hg).2; have h2 := HT1.size; have h3 := HP.size; omega, by omega⟩
    clear HP HRf hDf hFm
    go_wp2
    exact bodyPost_ret (v := .tuple #[.pointer (some ⟨p, 0, none⟩), .agg #[.slice b1 S n1, .slice b2 S n2, .slice b3 S n3], .bool true]) (by simp [results, Tryd.results12, go_sem, q0', q1', q2']) rfl ⟨⟨p, G, _, rfl, HM.out⟩, hbf⟩

end Go.Proofs.YtackeigdehfmmaaDoor
