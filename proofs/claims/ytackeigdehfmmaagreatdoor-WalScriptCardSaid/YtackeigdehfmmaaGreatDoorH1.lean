import Derived.Test.YtackeigdehfmmaaGreatDoorG9
import Derived.Test.YtackeigdehfmmaaGreatDoorG5
import Derived.Test.YtackeigdehfmmaaGreatDoorG7
namespace Go.Proofs.YtackeigdehfmmaaGreatDoor
open Go.RowKit

theorem RefO.keptG {w w' : World} {G : Nat → Prop} {B S g1 g2 g3 : Nat} {d : Wl.Dk} (h : RefO w B S g1 g2 g3 d) (hk : Kept G w w') (h1 : ¬ G g1) (h2 : ¬ G g2) (h3 : ¬ G g3) : RefO w' B S g1 g2 g3 d :=
  ⟨h.p1.kept hk h1, h.p2.kept hk h2, h.p3.kept hk h3, h.b1, h.b2, h.b3, h.n12, h.n13, h.n23, h.ok, h.lo, h.hi⟩
theorem RefO.weak {w : World} {B B' S g1 g2 g3 : Nat} {d : Wl.Dk} (h : RefO w B S g1 g2 g3 d) (hB : B' ≤ B) : RefO w B' S g1 g2 g3 d :=
  ⟨h.p1, h.p2, h.p3, Nat.le_trans hB h.b1, Nat.le_trans hB h.b2, Nat.le_trans hB h.b3, h.n12, h.n13, h.n23, h.ok, h.lo, h.hi⟩
theorem RG.adj {w w' : World} {G G' H : Nat → Prop} {ao : Option Addr} {xs : List Value} (h : RG w G ao xs) (hk : Kept H w w') (hH : ∀ b, H b → G b) (hG : ∀ b, b < w.heap.size → G' b → G b) : RG w' G' ao xs := by
  intro i x hx
  obtain ⟨b, off, e, hg, hc⟩ := h i x hx
  exact ⟨b, off, e, fun hh => hg (hG b (cell_lt hc) hh), hk.cell hc (fun hh => hg (hH _ hh))⟩

theorem ap_next_ref {w : World} {B S g1 g2 g3 : Nat} {d : Wl.Dk} {bits : List Nat} {k i b : Nat} {s : Wl.Bs} (h : RefO w B S g1 g2 g3 ⟨Wl.ap d bits k, d.old, d.dirty⟩) (hok : d.Ok S) (hi : d.changed.getD k 0 = i)
    (hb : Wl.bit bits k = b) (hs : Wl.left b (d.old.getD i []) (d.now.getD i []) = s) : RefO (w.setCell ⟨g1, i, none⟩ (sv s)) B S g1 g2 g3 ⟨Wl.ap d bits (k + 1), d.old, d.dirty⟩ := by
  have hsm : s.length ≤ 65536 := by rw [← hs]; exact Wl.left_small (Wl.getD_small hok.small' _) (Wl.getD_small hok.small _)
  have := h.setNow i hsm
  have e : Wl.ap d bits (k + 1) = (Wl.ap d bits k).set i s := by
    show (Wl.ap d bits k).set (d.changed.getD k 0) _ = _
    rw [hi, hb, hs]
  rw [e]; exact this
theorem ap_same_ref {w : World} {B S g1 g2 g3 : Nat} {d : Wl.Dk} {bits : List Nat} {k i b : Nat} (h : RefO w B S g1 g2 g3 ⟨Wl.ap d bits k, d.old, d.dirty⟩) (hk : k < d.changed.length) (hi : d.changed.getD k 0 = i)
    (hb : Wl.bit bits k = b) (hs : Wl.left b (d.old.getD i []) (d.now.getD i []) = d.now.getD i []) : RefO w B S g1 g2 g3 ⟨Wl.ap d bits (k + 1), d.old, d.dirty⟩ := by
  have e : Wl.ap d bits (k + 1) = Wl.ap d bits k := by
    show (Wl.ap d bits k).set (d.changed.getD k 0) _ = _
    rw [hi, hb, hs]
    have := Wl.ap_next d bits hk
    rw [hi] at this
    rw [← this, set_same]
  rw [e]; exact h

/-- a disk of the reference and a number -/
def ResC (G : Nat → Prop) (S : Nat) (d : Wl.Dk) (n : Nat) (w' : World) (e : Ending) : Prop := ∃ v, e = .returned (.tuple #[v, .int .i64 n]) ∧ RefV w' G S v d

section
variable {w : World} {G : Nat → Prop} {S : Nat} {d : Wl.Dk}

set_option maxRecDepth 100000 in
set_option maxHeartbeats 6400000 in
theorem rCrash_any {a1 a2 a3 : Option Addr} {c1 c2 c3 : Nat} (bits : List Nat) (ab : Option Addr) (cb : Nat) (hG : ∀ b, G b → b < w.heap.size) (h : RefD w G S a1 a2 a3 d) (hB : RG w (fun _ => False) ab (uvs bits)) (hbl : bits.length ≤ 140737488355328) :
    Calls Tryz.prog 31 #[.agg #[.slice a1 S c1, .slice a2 S c2, .slice a3 S c3], .slice ab bits.length cb] w fun e w' => ResC G S (d.crash bits) d.changed.length w' e ∧ Below w.heap.size w w' := by
  have hhi := h.hi
  have HOK := Lib.hid h.ok
  have hB0 := hB.own
  have R1 := h.now.own
  have R2 := h.old.own
  have hcl : d.changed.length ≤ 1024 := by
    have := Wl.chg_len d.dirty d.dirty.length
    have := h.ok.dirty
    unfold Wl.Dk.changed; omega
  have K2 := Lib.hid h.ok.dirty
  clear hB
  go_enter Tryz.func31, Tryz.ntmps31
  go_upto_region 1 with fail
  have hbx := (below_alloc w (.cells #[.slice a1 S c1, .slice a2 S c2, .slice a3 S c3] 28))
  have hby := below_alloc (w.alloc (.cells #[.slice a1 S c1, .slice a2 S c2, .slice a3 S c3] 28)) (.cells #[.slice none 0 0, .slice none 0 0, .slice none 0 0] 28)
  have hb := Below.step hbx hby (Nat.le_refl _)
  obtain ⟨hA, hB⟩ := heap2 w (.cells #[.slice a1 S c1, .slice a2 S c2, .slice a3 S c3] 28) (.cells #[.slice none 0 0, .slice none 0 0, .slice none 0 0] 28)
  clear hbx hby
  generalize ((w.alloc (.cells #[.slice a1 S c1, .slice a2 S c2, .slice a3 S c3] 28)).alloc (.cells #[.slice none 0 0, .slice none 0 0, .slice none 0 0] 28)) = w0 at *
  have rA : Row w0 w.heap.size 28 [.slice a1 S c1, .slice a2 S c2, .slice a3 S c3] := hA
  have rB : Row w0 (w.heap.size + 1) 28 [.slice none 0 0, .slice none 0 0, .slice none 0 0] := hB
  obtain ⟨H, hH⟩ : ∃ H : Nat → Prop, ∀ b, H b ↔ (G b ∨ b = w.heap.size + 1) := ⟨_, fun _ => Iff.rfl⟩
  have hltB := rB.lt
  have hR : RefD w0 H S a1 a2 a3 d := h.lift hb (fun b hlt hh => by rcases (hH b).1 hh with h' | h'; exact h'; omega)
  have HGH : Hid (∀ b, G b → H b) := Lib.hid (fun b hb' => (hH b).2 (.inl hb'))
  have HnB : Hid (∀ b, b = w.heap.size + 1 → H b) := Lib.hid (fun b hb' => (hH b).2 (.inr hb'))
  have HLT : Hid (∀ b, H b → b < w0.heap.size) := Lib.hid (fun b hb' => by rcases (hH b).1 hb' with h' | h'; have := hG b h'; omega; omega)
  have HR := Lib.hid hR
  have R1 := Lib.hid (R1.mono (Kept.of_below hb))
  have R2 := Lib.hid (R2.mono (Kept.of_below hb))
  have RBB := Lib.hid (hB0.mono (Kept.of_below hb))
  clear hA hB h hH hR hG hB0
  have HLT0 := HLT.out
  refine wp_region_news (wx := w0) H [(fun _ X _ => X 0 = .agg #[.slice a1 S c1, .slice a2 S c2, .slice a3 S c3]), (fun G X W => ((fun G W v => ∃ g1 y1 g2 y2 g3 y3, v = .agg #[.slice (some ⟨g1, 0, none⟩) S y1, .slice (some ⟨g2, 0, none⟩) S y2, .slice (some ⟨g3, 0, none⟩) S y3] ∧ RefO W w0.heap.size S g1 g2 g3 d ∧ ¬ G g1 ∧ ¬ G g2 ∧ ¬ G g3) : (Nat → Prop) → World → Value → Prop) G W (X 1)), (fun _ X _ => X 2 = .agg #[.slice a1 S c1, .slice a2 S c2, .slice a3 S c3]), (fun G X W => ∃ g1 y1 g2 y2 g3 y3 ao cap, X 1 = .agg #[.slice (some ⟨g1, 0, none⟩) S y1, .slice (some ⟨g2, 0, none⟩) S y2, .slice (some ⟨g3, 0, none⟩) S y3] ∧ X 3 = .slice ao d.changed.length cap ∧ RG W (fun b => G b ∨ b = g1) ao (nvs d.changed)), (fun _ _ _ => True), (fun _ _ _ => True), (fun G X W => ∃ g1 y1 g2 y2 g3 y3 ao cap, X 1 = .agg #[.slice (some ⟨g1, 0, none⟩) S y1, .slice (some ⟨g2, 0, none⟩) S y2, .slice (some ⟨g3, 0, none⟩) S y3] ∧ X 6 = .slice ao d.changed.length cap ∧ RG W (fun b => G b ∨ b = g1) ao (nvs d.changed))] [some 11, some 12, some 13, some 14, some 6, none, some 7] [none, none, none, none, some ⟨5, 1, 28, [.slice none 0 0, .slice none 0 0, .slice none 0 0]⟩, none, none] [11, 12, 13, 14, 6, 7] (by kernel_rfl) (by kernel_rfl) (by kernel_rfl) (by kernel_rfl) (of_decide_eq_true (by kernel_rfl)) (by kernel_rfl) HLT0 (Below.refl _ _) ⟨adj_val _ _ _, (adj_own' (F := fun G W v => ∃ g1 y1 g2 y2 g3 y3, v = .agg #[.slice (some ⟨g1, 0, none⟩) S y1, .slice (some ⟨g2, 0, none⟩) S y2, .slice (some ⟨g3, 0, none⟩) S y3] ∧ RefO W w0.heap.size S g1 g2 g3 d ∧ ¬ G g1 ∧ ¬ G g2 ∧ ¬ G g3) (fun G G' W W' v h hk hg => by obtain ⟨g1, y1, g2, y2, g3, y3, e, hO, n1, n2, n3⟩ := h; exact ⟨g1, y1, g2, y2, g3, y3, e, hO.keptG hk n1 n2 n3, fun h => n1 (hg _ hO.p1.lt h), fun h => n2 (hg _ hO.p2.lt h), fun h => n3 (hg _ hO.p3.lt h)⟩)), adj_val _ _ _, (fun G G' X X' W W' h hk hg hX => by obtain ⟨g1, y1, g2, y2, g3, y3, ao, cap, e1, e3, hR⟩ := h; exact ⟨g1, y1, g2, y2, g3, y3, ao, cap, (hX 1 (of_decide_eq_true (by kernel_rfl))).trans e1, (hX 3 (by simp [supOf])).trans e3, hR.adj hk (fun b hb => .inl hb) (fun b hlt hh => hh.imp (hg b hlt) id)⟩), adj_true _, adj_true _, (fun G G' X X' W W' h hk hg hX => by obtain ⟨g1, y1, g2, y2, g3, y3, ao, cap, e1, e3, hR⟩ := h; exact ⟨g1, y1, g2, y2, g3, y3, ao, cap, (hX 1 (of_decide_eq_true (by kernel_rfl))).trans e1, (hX 6 (by simp [supOf])).trans e3, hR.adj hk (fun b hb => .inl hb) (fun b hlt hh => hh.imp (hg b hlt) id)⟩), trivial⟩ ⟨⟨fun _ _ _ => trivial, fun _ _ _ => trivial⟩, trivial⟩ ⟨?s0, ?s1, ?s2, ?s3, ?s4, ?s5, ?s6, trivial⟩ ⟨?b4, trivial⟩ ?he
  case s0 =>
    rintro - G T W hb hHG hGW hGo hA K hK
    obtain ⟨x0, x1, x2, _, _, _⟩ := Row3 (rA.below hb)
    simp only [ovr, Act.put, List.setIfInBounds_toArray, List.set_cons_zero, List.set_cons_succ] at hK ⊢
    have HK := Lib.hid hK
    clear hK hA
    refine wpOp_want rfl (by rfl) ?_
    go_simp
    exact HK.out _ _ (Below.refl _ _) fun X hX _ => hX
  case s1 =>
    rintro - G T W hb hHG hGW hGo hA K hK
    have e0 : T 11 = .agg #[.slice a1 S c1, .slice a2 S c2, .slice a3 S c3] := hA.1
    simp only [ovr, Act.put, List.setIfInBounds_toArray, List.set_cons_zero, List.set_cons_succ, e0] at hK ⊢
    have HK := Lib.hid hK
    clear hK hA
    refine wpOp_want rfl (by rfl) ?_
    go_simp
    (with_reducible refine (rCopy_any (w := W) (G := G) (c1 := c1) (c2 := c2) (c3 := c3) hGW (HR.out.lift hb hGo)).mono ?_)
    rintro e w1 ⟨⟨g1, y1, g2, y2, g3, y3, rfl, hO⟩, hb1⟩
    try dsimp only
    exact HK.out _ _ (hb1) fun X hX _ => by
      show ((fun G W v => ∃ g1 y1 g2 y2 g3 y3, v = .agg #[.slice (some ⟨g1, 0, none⟩) S y1, .slice (some ⟨g2, 0, none⟩) S y2, .slice (some ⟨g3, 0, none⟩) S y3] ∧ RefO W w0.heap.size S g1 g2 g3 d ∧ ¬ G g1 ∧ ¬ G g2 ∧ ¬ G g3) : (Nat → Prop) → World → Value → Prop) _ _ (X 1)
      rw [hX]
      exact ⟨g1, y1, g2, y2, g3, y3, rfl, hO.weak hb.size, fun h => by have := hGW _ h; have := hO.b1; omega, fun h => by have := hGW _ h; have := hO.b2; omega, fun h => by have := hGW _ h; have := hO.b3; omega⟩
  case s2 =>
    rintro - G T W hb hHG hGW hGo hA K hK
    obtain ⟨x0, x1, x2, _, _, _⟩ := Row3 (rA.below hb)
    simp only [ovr, Act.put, List.setIfInBounds_toArray, List.set_cons_zero, List.set_cons_succ] at hK ⊢
    have HK := Lib.hid hK
    clear hK hA
    refine wpOp_want rfl (by rfl) ?_
    go_simp
    exact HK.out _ _ (Below.refl _ _) fun X hX _ => hX
  case s3 =>
    rintro - G T W hb hHG hGW hGo hA K hK
    have e2 : T 13 = .agg #[.slice a1 S c1, .slice a2 S c2, .slice a3 S c3] := hA.1
    have r1 : ((fun G W v => ∃ g1 y1 g2 y2 g3 y3, v = .agg #[.slice (some ⟨g1, 0, none⟩) S y1, .slice (some ⟨g2, 0, none⟩) S y2, .slice (some ⟨g3, 0, none⟩) S y3] ∧ RefO W w0.heap.size S g1 g2 g3 d ∧ ¬ G g1 ∧ ¬ G g2 ∧ ¬ G g3) : (Nat → Prop) → World → Value → Prop) G W (T 12) := hA.2.1
    obtain ⟨g1, y1, g2, y2, g3, y3, e1, hO, n1, n2, n3⟩ := r1
    have e1 : T 12 = .agg #[.slice (some ⟨g1, 0, none⟩) S y1, .slice (some ⟨g2, 0, none⟩) S y2, .slice (some ⟨g3, 0, none⟩) S y3] := e1
    have hg1 := hO.p1.lt
    simp only [ovr, Act.put, List.setIfInBounds_toArray, List.set_cons_zero, List.set_cons_succ, e2, e1] at hK ⊢
    have HK := Lib.hid hK
    clear hK hA
    refine wpOp_want rfl (by rfl) ?_
    go_simp
    (with_reducible refine (rChanged_any (w := W) (G := G) (c1 := c1) (c2 := c2) (c3 := c3) (HR.out.lift hb hGo)).mono ?_)
    rintro e w1 ⟨⟨v, rfl, hown⟩, hb1⟩
    obtain ⟨ao, cap, rfl, hcap, hRG⟩ := hown.read
    simp only [List.length_map] at hcap ⊢
    try dsimp only
    refine HK.out _ _ (hb1) fun X hX hXo => ?_
    exact ⟨g1, y1, g2, y2, g3, y3, ao, cap, (hXo 1 (by decide)).trans e1, hX, hRG _ (fun b hb => by rcases hb with hb | rfl; exact hGW _ hb; exact hg1)⟩
  case s4 => exact fun h => absurd h (by decide)
  case s5 => exact fun h => absurd h (by decide)
  case s6 =>
    rintro - G T W hb hHG hGW hGo hA K hK
    have r3 : ((fun G X W => ∃ g1 y1 g2 y2 g3 y3 ao cap, X 1 = .agg #[.slice (some ⟨g1, 0, none⟩) S y1, .slice (some ⟨g2, 0, none⟩) S y2, .slice (some ⟨g3, 0, none⟩) S y3] ∧ X 3 = .slice ao d.changed.length cap ∧ RG W (fun b => G b ∨ b = g1) ao (nvs d.changed)) : FactG) G (dv [some 11, some 12, some 13, some 14, some 6, none, some 7] T) W := hA.1
    have e0 : T 11 = .agg #[.slice a1 S c1, .slice a2 S c2, .slice a3 S c3] := hA.2.2.1
    have r1 : ((fun G W v => ∃ g1 y1 g2 y2 g3 y3, v = .agg #[.slice (some ⟨g1, 0, none⟩) S y1, .slice (some ⟨g2, 0, none⟩) S y2, .slice (some ⟨g3, 0, none⟩) S y3] ∧ RefO W w0.heap.size S g1 g2 g3 d ∧ ¬ G g1 ∧ ¬ G g2 ∧ ¬ G g3) : (Nat → Prop) → World → Value → Prop) G W (T 12) := hA.2.2.2.1
    have e2 : T 13 = .agg #[.slice a1 S c1, .slice a2 S c2, .slice a3 S c3] := hA.2.2.2.2.1
    obtain ⟨g1, y1, g2, y2, g3, y3, ao, cap, e1, e3, hR⟩ := r3
    have e1 : T 12 = .agg #[.slice (some ⟨g1, 0, none⟩) S y1, .slice (some ⟨g2, 0, none⟩) S y2, .slice (some ⟨g3, 0, none⟩) S y3] := e1
    have e3 : T 14 = .slice ao d.changed.length cap := e3
    simp only [ovr, Act.put, List.setIfInBounds_toArray, List.set_cons_zero, List.set_cons_succ, e0, e2, e1, e3] at hK ⊢
    have HK := Lib.hid hK
    clear hK hA
    refine wpOp_want rfl (by rfl) ?_
    go_simp
    refine HK.out _ _ (Below.refl _ _) fun X hX hXo => ?_
    exact ⟨g1, y1, g2, y2, g3, y3, ao, cap, (hXo 1 (by decide)).trans e1, hX, hR⟩
  case b4 =>
    refine ⟨?_, ?_⟩
    · rintro o ho T W K hK
      obtain rfl := Option.some.inj ho
      simp only [ovr, Act.put, List.setIfInBounds_toArray, List.set_cons_zero, List.set_cons_succ] at hK ⊢
      have HK := Lib.hid hK
      clear hK ho
      refine wpOp_want rfl (by rfl) ?_
      go_simp
      exact HK.out
    · rintro o ho G T W nb hA hp hrow K hK
      obtain rfl := Option.some.inj ho
      have ep : T 6 = .pointer (some ⟨nb, 0, none⟩) := hp
      have r1 : ((fun G W v => ∃ g1 y1 g2 y2 g3 y3, v = .agg #[.slice (some ⟨g1, 0, none⟩) S y1, .slice (some ⟨g2, 0, none⟩) S y2, .slice (some ⟨g3, 0, none⟩) S y3] ∧ RefO W w0.heap.size S g1 g2 g3 d ∧ ¬ G g1 ∧ ¬ G g2 ∧ ¬ G g3) : (Nat → Prop) → World → Value → Prop) G W (T 12) := hA.2.1
      have r3 : ((fun G X W => ∃ g1 y1 g2 y2 g3 y3 ao cap, X 1 = .agg #[.slice (some ⟨g1, 0, none⟩) S y1, .slice (some ⟨g2, 0, none⟩) S y2, .slice (some ⟨g3, 0, none⟩) S y3] ∧ X 3 = .slice ao d.changed.length cap ∧ RG W (fun b => G b ∨ b = g1) ao (nvs d.changed)) : FactG) G (dv [some 11, some 12, some 13, some 14, some 6, none, some 7] T) W := hA.2.2.1
      have e0 : T 11 = .agg #[.slice a1 S c1, .slice a2 S c2, .slice a3 S c3] := hA.2.2.2.1
      obtain ⟨g1, y1, g2, y2, g3, y3, ev, hO, n1, n2, n3⟩ := r1
      have hK := hK [.slice (some ⟨g1, 0, none⟩) S y1, .slice (some ⟨g2, 0, none⟩) S y2, .slice (some ⟨g3, 0, none⟩) S y3] ev rfl
      simp only [ovr, List.setIfInBounds_toArray, List.set_cons_zero, List.set_cons_succ, ep, e0, ev] at hK ⊢
      have HK := Lib.hid hK
      clear hK hA ho
      have q0 := hrow.cell (k := 0) (by simp)
      have f0 := hrow.free 0
      have q1 := hrow.cell (k := 1) (by simp)
      have f1 := hrow.free 1
      have q2 := hrow.cell (k := 2) (by simp)
      have f2 := hrow.free 2
      simp only [List.getElem_cons_zero, List.getElem_cons_succ] at q0 q1 q2
      refine wpOp_want rfl (by rfl) ?_
      go_simp
      exact HK.out
  case he =>
    rintro GG N T W hb hHG hGW hGo hbox hne hA
    have r1 : ((fun G W v => ∃ g1 y1 g2 y2 g3 y3, v = .agg #[.slice (some ⟨g1, 0, none⟩) S y1, .slice (some ⟨g2, 0, none⟩) S y2, .slice (some ⟨g3, 0, none⟩) S y3] ∧ RefO W w0.heap.size S g1 g2 g3 d ∧ ¬ G g1 ∧ ¬ G g2 ∧ ¬ G g3) : (Nat → Prop) → World → Value → Prop) GG W (T 12) := hA.at 1 (by decide)
    have r6 : ((fun G X W => ∃ g1 y1 g2 y2 g3 y3 ao cap, X 1 = .agg #[.slice (some ⟨g1, 0, none⟩) S y1, .slice (some ⟨g2, 0, none⟩) S y2, .slice (some ⟨g3, 0, none⟩) S y3] ∧ X 6 = .slice ao d.changed.length cap ∧ RG W (fun b => G b ∨ b = g1) ao (nvs d.changed)) : FactG) GG (dv [some 11, some 12, some 13, some 14, some 6, none, some 7] T) W := hA.at 6 (by decide)
    obtain ⟨p6, hGn, hnn, vs, evs, hrow⟩ := hbox 4 _ rfl
    have p6 : T 6 = .pointer (some ⟨N 4, 0, none⟩) := p6
    generalize N 4 = n6 at *
    obtain ⟨g1, y1, g2, y2, g3, y3, ev, hO, n1, n2, n3⟩ := r1
    have hvs : vs = [.slice (some ⟨g1, 0, none⟩) S y1, .slice (some ⟨g2, 0, none⟩) S y2, .slice (some ⟨g3, 0, none⟩) S y3] := by
      have h1 : Value.agg vs.toArray = .agg #[.slice (some ⟨g1, 0, none⟩) S y1, .slice (some ⟨g2, 0, none⟩) S y2, .slice (some ⟨g3, 0, none⟩) S y3] := evs.symm.trans ev
      have h2 := congrArg Array.toList (Value.agg.inj h1)
      simpa using h2
    subst hvs
    obtain ⟨h1, z1, h2, z2, h3, z3, ao, cap, ev', e7, hL⟩ := r6
    have ev' : T 12 = .agg #[.slice (some ⟨h1, 0, none⟩) S z1, .slice (some ⟨h2, 0, none⟩) S z2, .slice (some ⟨h3, 0, none⟩) S z3] := ev'
    rw [ev] at ev'
    simp only [Value.agg.injEq, Array.mk.injEq, List.cons.injEq, Value.slice.injEq, Option.some.injEq, Addr.mk.injEq, and_true, true_and] at ev'
    obtain ⟨⟨rfl, rfl⟩, ⟨rfl, rfl⟩, rfl, rfl⟩ := ev'
    have e7 : T 7 = .slice ao d.changed.length cap := e7
    simp only [ovr, List.setIfInBounds_toArray, List.set_cons_zero, List.set_cons_succ, p6, e7]
    have x61 : n6 ≠ g1 := fun e => n1 (e ▸ hGn)
    have rA := rA.below hb
    have rB := rB.below hb
    have xA1 : w.heap.size ≠ g1 := by have := hO.b1; omega
    have xB1 : w.heap.size + 1 ≠ g1 := by have := hO.b1; omega
    have hg1w : w.heap.size ≤ g1 := by have := hO.b1; omega
    have hL := hL.adj (G' := fun b => b = g1) (Kept.refl (G := fun _ => False) W) (fun _ h => h.elim) (fun b _ hb => .inr hb)
    have R1 := R1.out.mono (Kept.of_below hb)
    have R2 := R2.out.mono (Kept.of_below hb)
    have RBB := RBB.out.mono (Kept.of_below hb)
    have hbw := Below.step (show Below w.heap.size w w0 from by assumption) hb (Nat.le_refl _)
    have HO := Lib.hid hO
    have HLN := Lib.hid hnn
    have hszW := hb.size
    clear hA hbox hne evs ev hO hGn n1 n2 n3 hHG hGW hGo hb p6 e7
    go_wp2_with fail
    go_loopw [8] (fun s8 wr => ∃ k : Nat, k ≤ d.changed.length ∧ s8 = .int .i64 k ∧ Hid (RefO wr w0.heap.size S g1 g2 g3 ⟨Wl.ap d bits k, d.old, d.dirty⟩) ∧ Kept (fun b => b = g1) W wr) (fun s8 _ => d.changed.length - (intOf s8).toNat)
    case atStart => exact ⟨0, Nat.zero_le _, rfl, HO, Kept.refl _⟩
    case round =>
      obtain ⟨k, hk, rfl, HD, hkp⟩ := hrel
      have rA := rA.mono hkp xA1
      have hrow := hrow.mono hkp x61
      obtain ⟨k0, k1, k2, _, _, _⟩ := Row3 rA
      obtain ⟨l0, l1, l2, _, _, _⟩ := Row3 hrow
      by_cases hlt : k < d.changed.length
      · obtain ⟨i, hi⟩ : ∃ i, d.changed.getD k 0 = i := ⟨_, rfl⟩
        have hiS : i < S := by
          have hm : d.changed.getD k 0 ∈ d.changed := by rw [List.getD_eq_getElem?_getD, List.getElem?_eq_getElem hlt]; exact List.getElem_mem hlt
          have := (Wl.chg_lt _ _ _ hm).1
          rw [hi, K2.out] at this; exact this
        obtain ⟨b2, off2, rfl, hb2, cl⟩ := (hL.mono hkp).at' (k := k) (by simpa using hlt)
        rw [nvs_get hlt, hi] at cl
        obtain ⟨b4, off4, rfl, hb4, cn⟩ := (R1.kept2 hkp (fun b hb => by rw [hb]; exact hg1w)).at' (k := i) (by simp [HOK.out.now]; exact hiS)
        rw [svs_get (by rw [HOK.out.now]; exact hiS)] at cn
        obtain ⟨b5, off5, rfl, hb5, co⟩ := (R2.kept2 hkp (fun b hb => by rw [hb]; exact hg1w)).at' (k := i) (by simp [HOK.out.old]; exact hiS)
        rw [svs_get (by rw [HOK.out.old]; exact hiS)] at co
        have cg := HD.out.p1.cell (k := i) (by simp [Wl.ap_len, HOK.out.now]; exact hiS)
        have fg := HD.out.p1.free i
        rw [svs_get (by rw [Wl.ap_len, HOK.out.now]; exact hiS)] at cg
        have hso : (d.old.getD i []).length ≤ 65536 := Wl.getD_small HOK.out.small' _
        have hsn : (d.now.getD i []).length ≤ 65536 := Wl.getD_small HOK.out.small _
        obtain ⟨so, hso'⟩ : ∃ s, s = d.old.getD i [] := ⟨_, rfl⟩
        obtain ⟨sn, hsn'⟩ : ∃ s, s = d.now.getD i [] := ⟨_, rfl⟩
        rw [← hso'] at co hso
        rw [← hsn'] at cn hsn
        generalize (Wl.ap d bits k).getD i [] = sg at cg
        have HO := Lib.hid hso'
        have HN := Lib.hid hsn'
        have HI := Lib.hid hi
        clear hi hso' hsn' hb2 hb4 hb5
        by_cases hkb : k < bits.length
        · obtain ⟨b3, off3, rfl, hb3, cb3⟩ := (RBB.kept2 hkp (fun b hb => by rw [hb]; exact hg1w)).at' (k := k) (by simpa using hkb)
          rw [uvs_get hkb] at cb3
          obtain ⟨q, hq⟩ : ∃ q, bits.getD k 0 = q := ⟨_, rfl⟩
          rw [hq] at cb3
          have HQ := Lib.hid hq
          have HKB := Lib.hid hkb
          have hkb2 : decide (k < bits.length) = true := by simpa using hkb
          clear hkb hq hb3
          have hr4 : q % 4 = 0 ∨ q % 4 = 1 ∨ q % 4 = 2 ∨ q % 4 = 3 := by omega
          rcases hr4 with hr | hr | hr | hr
          · have HB : Hid (Wl.bit bits k = 0) := Lib.hid (by unfold Wl.bit; rw [if_pos HKB.out]; rw [HQ.out]; exact hr)
            have t0 : (((q : Int) % 4) == 0) = true := by simp; omega
            have t2 : (((q : Int) % 4) == 2) = false := by simp; omega
            have t3 : (((q : Int) % 4) == 3) = false := by simp; omega
            clear hr
            go_wp2
            go_region
            go_wp2
            go_roundw
            case rel => exact ⟨k + 1, by omega, by go_num, Lib.hid (ap_next_ref HD.out HOK.out HI.out HB.out (by unfold Wl.left; rw [if_pos rfl, HO.out])).drew, (hkp.setCell rfl _).drew⟩
            case measure => simp [intOf]; omega
          · have HB : Hid (Wl.bit bits k = 1) := Lib.hid (by unfold Wl.bit; rw [if_pos HKB.out]; rw [HQ.out]; exact hr)
            have t0 : (((q : Int) % 4) == 0) = false := by simp; omega
            have t2 : (((q : Int) % 4) == 2) = false := by simp; omega
            have t3 : (((q : Int) % 4) == 3) = false := by simp; omega
            clear hr
            go_wp2
            go_roundw
            case rel => exact ⟨k + 1, by omega, by go_num, Lib.hid (ap_same_ref HD.out hlt HI.out HB.out (by unfold Wl.left; rw [if_neg (by decide), if_neg (by decide), if_neg (by decide)])), hkp⟩
            case measure => simp [intOf]; omega
          · have HB : Hid (Wl.bit bits k = 2) := Lib.hid (by unfold Wl.bit; rw [if_pos HKB.out]; rw [HQ.out]; exact hr)
            have t0 : (((q : Int) % 4) == 0) = false := by simp; omega
            have t2 : (((q : Int) % 4) == 2) = true := by simp; omega
            have t3 : (((q : Int) % 4) == 3) = false := by simp; omega
            clear hr
            go_wp2
            go_region
            all_goals
              rw [half_ba sn]
              go_wp2
              go_roundw
              case rel => exact ⟨k + 1, by omega, by go_num, Lib.hid (ap_next_ref HD.out HOK.out HI.out HB.out (by unfold Wl.left; rw [if_neg (by decide), if_pos rfl, HN.out])).drew, (hkp.setCell rfl _).drew⟩
              case measure => simp [intOf]; omega
          · have HB : Hid (Wl.bit bits k = 3) := Lib.hid (by unfold Wl.bit; rw [if_pos HKB.out]; rw [HQ.out]; exact hr)
            have t0 : (((q : Int) % 4) == 0) = false := by simp; omega
            have t2 : (((q : Int) % 4) == 2) = false := by simp; omega
            have t3 : (((q : Int) % 4) == 3) = true := by simp; omega
            clear hr
            go_wp2
            go_roundw
            case rel => exact ⟨k + 1, by omega, by go_num, Lib.hid (ap_next_ref (s := []) HD.out HOK.out HI.out HB.out (by unfold Wl.left; rw [if_neg (by decide), if_neg (by decide), if_pos rfl])), hkp.setCell rfl _⟩
            case measure => simp [intOf]; omega
        · have hkb2 : decide (k < bits.length) = false := by simpa using hkb
          have HB : Hid (Wl.bit bits k = 0) := Lib.hid (by unfold Wl.bit; rw [if_neg hkb])
          clear hkb
          go_wp2
          go_region
          go_wp2
          go_roundw
          case rel => exact ⟨k + 1, by omega, by go_num, Lib.hid (ap_next_ref HD.out HOK.out HI.out HB.out (by unfold Wl.left; rw [if_pos rfl, HO.out])).drew, (hkp.setCell rfl _).drew⟩
          case measure => simp [intOf]; omega
      · have hkl : k = d.changed.length := by omega
        subst hkl
        have hlt' : decide ((d.changed.length : Int) < (d.changed.length : Int)) = false := by simp
        have rB := rB.mono hkp xB1
        have hbq := hbw.trans (hkp.below (fun b hb => by rw [hb]; exact hg1w) hbw.size)
        have hszq : w0.heap.size ≤ wr.heap.size := Nat.le_trans hszW hkp.size
        clear k0 k1 k2
        have hSy := rSync_any (w := wr) (G := H) (c1 := y1) (c2 := y2) (c3 := y3) (fun b hb => Nat.lt_of_lt_of_le (HLT0 b hb) hszq) (HD.out.ref HLT0)
        rw [show (Wl.Dk.mk (Wl.ap d bits d.changed.length) d.old d.dirty).syn = d.crash bits from rfl] at hSy
        go_wp2_with fail
        (with_reducible refine hSy.mono ?_)
        rintro e w3 ⟨⟨v, rfl, e1, m1, e2, m2, e3, m3, rfl, hR3⟩, hb3⟩
        have rB := rB.below hb3
        obtain ⟨q0, q1, q2, f0, f1, f2⟩ := Row3 rB
        have HP := put3_kept w3 (w.heap.size + 1) (.slice e1 S m1) (.slice e2 S m2) (.slice e3 S m3)
        have HF := Lib.hid (hR3.kept (HP.wider HnB.out))
        have hbq3 := Below.step hbq hb3 (Nat.le_refl _)
        have hbf := hbq3.trans (HP.below (by rintro b rfl; exact Nat.le_succ _) hbq3.size)
        unfold put3 at HF hbf
        clear HP hR3 hSy
        go_wp2
        refine bodyPost_ret (v := .tuple #[.agg #[.slice e1 S m1, .slice e2 S m2, .slice e3 S m3], .int .i64 d.changed.length]) (by simp [results, Tryz.results31, go_sem, q0, q1, q2]) rfl ⟨⟨_, rfl, RefV.mk (HF.out.narrow' HGH.out)⟩, hbf⟩
end

end Go.Proofs.YtackeigdehfmmaaGreatDoor

namespace Go.Proofs.YtackeigdehfmmaaGreatDoor
open Go.RowKit

section
variable {w : World} {G K : Nat → Prop} {p S : Nat} {d : Wl.Dk}

set_option maxRecDepth 100000 in
set_option maxHeartbeats 6400000 in
/-- a disk and the reference's of the same contents are the same -/
theorem same_any {a1 a2 a3 : Option Addr} {c1 c2 c3 : Nat} (h : Disk w G p S d) (hR : RefD w K S a1 a2 a3 d) :
    Calls Tryz.prog 15 #[.pointer (some ⟨p, 0, none⟩), .agg #[.slice a1 S c1, .slice a2 S c2, .slice a3 S c3]] w fun e w' => e = .returned (.bool true) ∧ Below w.heap.size w w' := by
  have hS := h.S_le
  have HNL := Lib.hid h.ok.now
  have hcl : d.changed.length ≤ 1024 := by
    have := Wl.chg_len d.dirty d.dirty.length
    have := h.ok.dirty
    unfold Wl.Dk.changed; omega
  go_enter Tryz.func15, Tryz.ntmps15
  go_upto_region 1 with fail
  have hb0 := below_alloc w (.cells #[.slice a1 S c1, .slice a2 S c2, .slice a3 S c3] 28)
  have rA : Row (w.alloc (.cells #[.slice a1 S c1, .slice a2 S c2, .slice a3 S c3] 28)) w.heap.size 28 [.slice a1 S c1, .slice a2 S c2, .slice a3 S c3] := heap_alloc_new _ _
  generalize w.alloc (.cells #[.slice a1 S c1, .slice a2 S c2, .slice a3 S c3] 28) = w1 at *
  have HD := Lib.hid (h.mono hb0)
  have HR := Lib.hid (hR.mono hb0)
  clear h hR
  refine wp_region_news (wx := w1) (fun _ => False) [(fun _ X _ => X 0 = .pointer (some ⟨p, 0, none⟩)), (fun _ X _ => X 1 = .int .i64 S), (fun _ X _ => X 2 = .pointer (some ⟨w.heap.size, 0, none⟩)), (fun _ X _ => X 3 = .slice a1 S c1), (fun _ X _ => X 4 = .int .i64 S), (fun _ X _ => X 5 = .bool false)] [some 12, some 13, some 14, some 15, some 16, some 17] [none, none, none, none, none, none] [12, 13, 14, 15, 16, 17] (by kernel_rfl) (by kernel_rfl) (by kernel_rfl) (by kernel_rfl) (of_decide_eq_true (by kernel_rfl)) (by kernel_rfl) (fun _ h => h.elim) (Below.refl _ _) ⟨adj_val _ _ _, adj_val _ _ _, adj_val _ _ _, adj_val _ _ _, adj_val _ _ _, adj_val _ _ _, trivial⟩ trivial ⟨?s0, ?s1, ?s2, ?s3, ?s4, ?s5, trivial⟩ trivial ?he
  case s0 =>
    rintro - G T W hb hHG hGW hGo hA K hK
    simp only [ovr, Act.put, List.setIfInBounds_toArray, List.set_cons_zero, List.set_cons_succ] at hK ⊢
    have HK := Lib.hid hK
    clear hK hA
    refine wpOp_want rfl (by rfl) ?_
    go_simp
    exact HK.out _ _ (Below.refl _ _) fun X hX _ => hX
  case s1 =>
    rintro - G T W hb hHG hGW hGo hA K hK
    have e0 : T 12 = .pointer (some ⟨p, 0, none⟩) := hA.1
    simp only [ovr, Act.put, List.setIfInBounds_toArray, List.set_cons_zero, List.set_cons_succ, e0] at hK ⊢
    have HK := Lib.hid hK
    clear hK hA
    refine wpOp_want rfl (by rfl) ?_
    go_simp
    (with_reducible refine (Len_any (HD.out.mono hb)).mono ?_)
    rintro e w1 ⟨rfl, rfl⟩
    have hb1 := Below.refl W.heap.size W
    try dsimp only
    exact HK.out _ _ (hb1) fun X hX _ => hX
  case s2 =>
    rintro - G T W hb hHG hGW hGo hA K hK
    simp only [ovr, Act.put, List.setIfInBounds_toArray, List.set_cons_zero, List.set_cons_succ] at hK ⊢
    have HK := Lib.hid hK
    clear hK hA
    refine wpOp_want rfl (by rfl) ?_
    go_simp
    exact HK.out _ _ (Below.refl _ _) fun X hX _ => hX
  case s3 =>
    rintro - G T W hb hHG hGW hGo hA K hK
    have e2 : T 14 = .pointer (some ⟨w.heap.size, 0, none⟩) := hA.1
    obtain ⟨x0, x1, x2, _, _, _⟩ := Row3 (rA.below hb)
    simp only [ovr, Act.put, List.setIfInBounds_toArray, List.set_cons_zero, List.set_cons_succ, e2] at hK ⊢
    have HK := Lib.hid hK
    clear hK hA
    refine wpOp_want rfl (by rfl) ?_
    go_simp
    exact HK.out _ _ (Below.refl _ _) fun X hX _ => hX
  case s4 =>
    rintro - G T W hb hHG hGW hGo hA K hK
    have e3 : T 15 = .slice a1 S c1 := hA.1
    simp only [ovr, Act.put, List.setIfInBounds_toArray, List.set_cons_zero, List.set_cons_succ, e3] at hK ⊢
    have HK := Lib.hid hK
    clear hK hA
    refine wpOp_want rfl (by rfl) ?_
    go_simp
    exact HK.out _ _ (Below.refl _ _) fun X hX _ => hX
  case s5 =>
    rintro - G T W hb hHG hGW hGo hA K hK
    have e1 : T 13 = .int .i64 S := hA.1
    have e4 : T 16 = .int .i64 S := hA.2.1
    simp only [ovr, Act.put, List.setIfInBounds_toArray, List.set_cons_zero, List.set_cons_succ, e1, e4] at hK ⊢
    have HK := Lib.hid hK
    clear hK hA
    refine wpOp_want rfl (by rfl) ?_
    go_simp
    exact HK.out _ _ (Below.refl _ _) fun X hX _ => hX
  case he =>
    rintro GG N T W hb hHG hGW hGo hbox hne hA
    have f5 : T 17 = .bool false := hA.at 5 (by decide)
    simp only [ovr, List.setIfInBounds_toArray, List.set_cons_zero, List.set_cons_succ, f5]
    have rA := rA.below hb
    have HD := Lib.hid (HD.out.mono hb)
    have HR := Lib.hid (HR.out.mono hb)
    have hbw := Below.step hb0 hb (Nat.le_refl _)
    clear hA hb hb0 hbox hne hHG hGW hGo f5
    obtain ⟨k0, k1, k2, _, _, _⟩ := Row3 rA
    go_wp2_with fail
    go_loop [21] (fun s21 => ∃ k : Nat, k ≤ S ∧ s21 = .int .i64 k) (fun s21 => S - (intOf s21).toNat)
    case atStart => exact ⟨0, Nat.zero_le _, rfl⟩
    case round =>
      obtain ⟨k, hk, rfl⟩ := hrel
      by_cases hlt : k < S
      · obtain ⟨bb, off, rfl, -, ca⟩ := HR.out.now.at' (k := k) (by simp [HNL.out]; exact hlt)
        rw [svs_get (by rw [HNL.out]; exact hlt)] at ca
        have hRd := Read_yes k HD.out hlt
        generalize d.now.getD k [] = s at *
        go_wp2_with fail
        (with_reducible refine hRd.mono ?_)
        rintro e w' ⟨rfl, rfl⟩
        clear hRd
        go_wp2
        go_round
        case rel => exact ⟨k + 1, by omega, by go_num⟩
        case measure => simp [intOf]; omega
      · obtain rfl : k = S := by omega
        have hlt' : decide ((k : Int) < (k : Int)) = false := by simp
        clear hlt
        go_upto_region 10 with fail
        clear k0 k1 k2
        obtain ⟨w2, rfl⟩ : ∃ w2 : World, w2 = W := ⟨_, rfl⟩
        refine wp_region_news (wx := w2) (fun _ => False) [(fun _ X _ => X 0 = .pointer (some ⟨p, 0, none⟩)), (fun G X W => ((fun G W v => ∃ ao cap, v = .slice ao d.changed.length cap ∧ RG W G ao (nvs d.changed)) : (Nat → Prop) → World → Value → Prop) G W (X 1)), (fun _ X _ => X 2 = .agg #[.slice a1 k c1, .slice a2 k c2, .slice a3 k c3]), (fun G X W => ((fun G W v => ∃ ao cap, v = .slice ao d.changed.length cap ∧ RG W G ao (nvs d.changed)) : (Nat → Prop) → World → Value → Prop) G W (X 3)), (fun G X W => ((fun G W v => ∃ ao cap, v = .slice ao d.changed.length cap ∧ RG W G ao (nvs d.changed)) : (Nat → Prop) → World → Value → Prop) G W (X 4)), (fun G X W => ((fun G W v => ∃ ao cap, v = .slice ao d.changed.length cap ∧ RG W G ao (nvs d.changed)) : (Nat → Prop) → World → Value → Prop) G W (X 5))] [some 40, some 41, some 42, some 43, some 9, some 10] [none, none, none, none, none, none] [40, 41, 42, 43, 9, 10] (by kernel_rfl) (by kernel_rfl) (by kernel_rfl) (by kernel_rfl) (of_decide_eq_true (by kernel_rfl)) (by kernel_rfl) (fun _ h => h.elim) (Below.refl _ _) ⟨adj_val _ _ _, (adj_own' (F := fun G W v => ∃ ao cap, v = .slice ao d.changed.length cap ∧ RG W G ao (nvs d.changed)) (fun G G' W W' v h hk hg => by obtain ⟨ao, cap, e, hR⟩ := h; exact ⟨ao, cap, e, hR.adj hk (fun _ h => h) hg⟩)), adj_val _ _ _, (adj_own' (F := fun G W v => ∃ ao cap, v = .slice ao d.changed.length cap ∧ RG W G ao (nvs d.changed)) (fun G G' W W' v h hk hg => by obtain ⟨ao, cap, e, hR⟩ := h; exact ⟨ao, cap, e, hR.adj hk (fun _ h => h) hg⟩)), (adj_own' (F := fun G W v => ∃ ao cap, v = .slice ao d.changed.length cap ∧ RG W G ao (nvs d.changed)) (fun G G' W W' v h hk hg => by obtain ⟨ao, cap, e, hR⟩ := h; exact ⟨ao, cap, e, hR.adj hk (fun _ h => h) hg⟩)), (adj_own' (F := fun G W v => ∃ ao cap, v = .slice ao d.changed.length cap ∧ RG W G ao (nvs d.changed)) (fun G G' W W' v h hk hg => by obtain ⟨ao, cap, e, hR⟩ := h; exact ⟨ao, cap, e, hR.adj hk (fun _ h => h) hg⟩)), trivial⟩ trivial ⟨?s0, ?s1, ?s2, ?s3, ?s4, ?s5, trivial⟩ trivial ?he
        case s0 =>
          rintro - G T W hb hHG hGW hGo hA K hK
          simp only [ovr, Act.put, List.setIfInBounds_toArray, List.set_cons_zero, List.set_cons_succ] at hK ⊢
          have HK := Lib.hid hK
          clear hK hA
          refine wpOp_want rfl (by rfl) ?_
          go_simp
          exact HK.out _ _ (Below.refl _ _) fun X hX _ => hX
        case s1 =>
          rintro - G T W hb hHG hGW hGo hA K hK
          have e0 : T 40 = .pointer (some ⟨p, 0, none⟩) := hA.1
          simp only [ovr, Act.put, List.setIfInBounds_toArray, List.set_cons_zero, List.set_cons_succ, e0] at hK ⊢
          have HK := Lib.hid hK
          clear hK hA
          refine wpOp_want rfl (by rfl) ?_
          go_simp
          (with_reducible refine (Dirty_any (HD.out.mono hb)).mono ?_)
          rintro e w1 ⟨h0, hb1⟩
          obtain ⟨v, rfl, hown⟩ := h0
          obtain ⟨ao, cap, rfl, hcap, hRG⟩ := hown.read
          simp only [List.length_map] at hcap ⊢
          try dsimp only
          exact HK.out _ _ (hb1) fun X hX _ => by
            show ((fun G W v => ∃ ao cap, v = .slice ao d.changed.length cap ∧ RG W G ao (nvs d.changed)) : (Nat → Prop) → World → Value → Prop) _ _ (X 1)
            rw [hX]
            exact ⟨ao, cap, rfl, hRG _ hGW⟩
        case s2 =>
          rintro - G T W hb hHG hGW hGo hA K hK
          obtain ⟨x0, x1, x2, _, _, _⟩ := Row3 (rA.below hb)
          simp only [ovr, Act.put, List.setIfInBounds_toArray, List.set_cons_zero, List.set_cons_succ] at hK ⊢
          have HK := Lib.hid hK
          clear hK hA
          refine wpOp_want rfl (by rfl) ?_
          go_simp
          exact HK.out _ _ (Below.refl _ _) fun X hX _ => hX
        case s3 =>
          rintro - G T W hb hHG hGW hGo hA K hK
          have e2 : T 42 = .agg #[.slice a1 k c1, .slice a2 k c2, .slice a3 k c3] := hA.1
          have r1 : ((fun G W v => ∃ ao cap, v = .slice ao d.changed.length cap ∧ RG W G ao (nvs d.changed)) : (Nat → Prop) → World → Value → Prop) G W (T 41) := hA.2.1
          simp only [ovr, Act.put, List.setIfInBounds_toArray, List.set_cons_zero, List.set_cons_succ, e2] at hK ⊢
          have HK := Lib.hid hK
          clear hK hA
          refine wpOp_want rfl (by rfl) ?_
          go_simp
          (with_reducible refine (rChanged_any (c1 := c1) (c2 := c2) (c3 := c3) (HR.out.mono hb)).mono ?_)
          rintro e w1 ⟨h0, hb1⟩
          obtain ⟨v, rfl, hown⟩ := h0
          obtain ⟨ao, cap, rfl, hcap, hRG⟩ := hown.read
          simp only [List.length_map] at hcap ⊢
          try dsimp only
          exact HK.out _ _ (hb1) fun X hX _ => by
            show ((fun G W v => ∃ ao cap, v = .slice ao d.changed.length cap ∧ RG W G ao (nvs d.changed)) : (Nat → Prop) → World → Value → Prop) _ _ (X 3)
            rw [hX]
            exact ⟨ao, cap, rfl, hRG _ hGW⟩
        case s4 =>
          rintro - G T W hb hHG hGW hGo hA K hK
          have r1 : ((fun G W v => ∃ ao cap, v = .slice ao d.changed.length cap ∧ RG W G ao (nvs d.changed)) : (Nat → Prop) → World → Value → Prop) G W (T 41) := hA.1
          have r3 : ((fun G W v => ∃ ao cap, v = .slice ao d.changed.length cap ∧ RG W G ao (nvs d.changed)) : (Nat → Prop) → World → Value → Prop) G W (T 43) := hA.2.1
          have e0 : T 40 = .pointer (some ⟨p, 0, none⟩) := hA.2.2.1
          obtain ⟨ao, cap, e1, hR⟩ := r1
          have e1 : T 41 = .slice ao d.changed.length cap := e1
          simp only [ovr, Act.put, List.setIfInBounds_toArray, List.set_cons_zero, List.set_cons_succ, e0, e1] at hK ⊢
          have HK := Lib.hid hK
          clear hK hA
          refine wpOp_want rfl (by rfl) ?_
          go_simp
          exact HK.out _ _ (Below.refl _ _) fun X hX _ => by
            show ((fun G W v => ∃ ao cap, v = .slice ao d.changed.length cap ∧ RG W G ao (nvs d.changed)) : (Nat → Prop) → World → Value → Prop) _ _ (X 4)
            rw [hX]
            exact ⟨ao, cap, rfl, hR⟩
        case s5 =>
          rintro - G T W hb hHG hGW hGo hA K hK
          have r3 : ((fun G W v => ∃ ao cap, v = .slice ao d.changed.length cap ∧ RG W G ao (nvs d.changed)) : (Nat → Prop) → World → Value → Prop) G W (T 43) := hA.1
          have r4 : ((fun G W v => ∃ ao cap, v = .slice ao d.changed.length cap ∧ RG W G ao (nvs d.changed)) : (Nat → Prop) → World → Value → Prop) G W (T 9) := hA.2.1
          have e0 : T 40 = .pointer (some ⟨p, 0, none⟩) := hA.2.2.1
          have r1 : ((fun G W v => ∃ ao cap, v = .slice ao d.changed.length cap ∧ RG W G ao (nvs d.changed)) : (Nat → Prop) → World → Value → Prop) G W (T 41) := hA.2.2.2.1
          have e2 : T 42 = .agg #[.slice a1 k c1, .slice a2 k c2, .slice a3 k c3] := hA.2.2.2.2.1
          obtain ⟨ao, cap, e1, hR⟩ := r3
          have e1 : T 43 = .slice ao d.changed.length cap := e1
          simp only [ovr, Act.put, List.setIfInBounds_toArray, List.set_cons_zero, List.set_cons_succ, e0, e2, e1] at hK ⊢
          have HK := Lib.hid hK
          clear hK hA
          refine wpOp_want rfl (by rfl) ?_
          go_simp
          exact HK.out _ _ (Below.refl _ _) fun X hX _ => by
            show ((fun G W v => ∃ ao cap, v = .slice ao d.changed.length cap ∧ RG W G ao (nvs d.changed)) : (Nat → Prop) → World → Value → Prop) _ _ (X 5)
            rw [hX]
            exact ⟨ao, cap, rfl, hR⟩
        case he =>
          rintro GG N T W hb hHG hGW hGo hbox hne hA
          have r4 : ((fun G W v => ∃ ao cap, v = .slice ao d.changed.length cap ∧ RG W G ao (nvs d.changed)) : (Nat → Prop) → World → Value → Prop) GG W (T 9) := hA.at 4 (by decide)
          have r5 : ((fun G W v => ∃ ao cap, v = .slice ao d.changed.length cap ∧ RG W G ao (nvs d.changed)) : (Nat → Prop) → World → Value → Prop) GG W (T 10) := hA.at 5 (by decide)
          obtain ⟨ao, cap, e4, hL4⟩ := r4
          obtain ⟨ao', cap', e5, hL5⟩ := r5
          simp only [ovr, List.setIfInBounds_toArray, List.set_cons_zero, List.set_cons_succ, e4, e5]
          have hbw := Below.step hbw hb (Nat.le_refl _)
          clear hA hb hbox hne hHG hGW hGo e4 e5
          go_wp2_with fail
          obtain ⟨wl, rfl⟩ : ∃ wl : World, wl = W := ⟨_, rfl⟩
          go_loopw [51] (fun s51 wr => ∃ i : Nat, i ≤ d.changed.length ∧ s51 = .int .i64 i ∧ Below wl.heap.size wl wr) (fun s51 _ => d.changed.length - (intOf s51).toNat)
          case atStart => exact ⟨0, Nat.zero_le _, rfl, Below.refl _ _⟩
          case round =>
            obtain ⟨i, hi, rfl, hbr⟩ := hrel
            by_cases hlt : i < d.changed.length
            · obtain ⟨b1, o1, rfl, -, ca⟩ := (hL4.adj (G' := fun _ => False) (Kept.of_below (G := fun _ => False) hbr) (fun _ h => h.elim) (fun _ _ h => h.elim)).at' (k := i) (by simpa using hlt)
              obtain ⟨b2, o2, rfl, -, cb⟩ := (hL5.adj (G' := fun _ => False) (Kept.of_below (G := fun _ => False) hbr) (fun _ h => h.elim) (fun _ _ h => h.elim)).at' (k := i) (by simpa using hlt)
              rw [nvs_get hlt] at ca cb
              generalize d.changed.getD i 0 = x at ca cb
              go_wp2
              go_region
              go_wp2
              go_roundw
              case rel => exact ⟨i + 1, by omega, by go_num, hbr.drew⟩
              case measure => simp [intOf]; omega
            · obtain hlt' : decide ((i : Int) < (d.changed.length : Int)) = false := by simp; omega
              go_wp2
              go_ret
              exact ⟨rfl, Below.step hbw hbr (Nat.le_refl _)⟩
end

end Go.Proofs.YtackeigdehfmmaaGreatDoor

namespace Go.Proofs.YtackeigdehfmmaaGreatDoor
open Go.RowKit

theorem svs_at (l : List Wl.Bs) {k : Nat} (h : k < l.length) (h' : k < (svs l).length) : (svs l)[k]'h' = sv (l.getD k []) := by
  simp [List.getD_eq_getElem?_getD, List.getElem?_eq_getElem h]

set_option maxRecDepth 100000 in
set_option maxHeartbeats 1600000 in
/-- equal lists are the same -/
theorem Same_yes (l : List Wl.Bs) (w : World) (ga gb : Nat → Prop) (a b : Option Addr) (c1 c2 : Nat) (ha : RG w ga a (svs l)) (hb : RG w gb b (svs l)) (hll : l.length ≤ 1000000) :
    Calls Tryz.prog 12 #[.slice a l.length c1, .slice b l.length c2] w fun e w' => e = .returned (.bool true) ∧ Below w.heap.size w w' := by
  have HA := Lib.hid ha
  have HB := Lib.hid hb
  clear ha hb
  go_enter Tryz.func12, Tryz.ntmps12
  go_wp2
  go_loopw [5] (fun s5 wr => ∃ k : Nat, k ≤ l.length ∧ s5 = .int .i64 k ∧ Below w.heap.size w wr) (fun s5 _ => l.length - (intOf s5).toNat)
  case atStart => exact ⟨0, Nat.zero_le _, rfl, Below.refl _ _⟩
  case round =>
    obtain ⟨k, hk, rfl, hbw⟩ := hrel
    by_cases hlt : k < l.length
    · obtain ⟨b1, o1, ea, -, ca⟩ := (HA.out.mono (Kept.of_below hbw)).at' (k := k) (by simpa using hlt)
      obtain ⟨b2, o2, eb, -, cb⟩ := (HB.out.mono (Kept.of_below hbw)).at' (k := k) (by simpa using hlt)
      rw [svs_at l hlt] at ca cb
      generalize l.getD k [] = s at ca cb
      subst ea eb
      go_wp2
      go_region
      go_wp2
      go_roundw
      case rel => exact ⟨k + 1, by omega, by go_num, hbw.drew⟩
      case measure => simp [intOf]; omega
    · have hkl : k = l.length := by omega
      subst hkl
      go_wp2
      go_ret
      exact ⟨rfl, hbw⟩

end Go.Proofs.YtackeigdehfmmaaGreatDoor

namespace Go.Proofs.YtackeigdehfmmaaGreatDoor
open Go.RowKit

/-- an operation with a log, as it lies in four cells -/
structure OpD where
  k : Nat
  at' : Int
  text : Wl.Bs
  bits : Value

structure OpAt (w : World) (b off : Nat) (o : OpD) : Prop where
  c0 : w.cell? ⟨b, off, none⟩ = some (.int .u8 o.k)
  c1 : w.cell? ⟨b, off + 1, none⟩ = some (.int .i8 o.at')
  c2 : w.cell? ⟨b, off + 2, none⟩ = some (sv o.text)
  c3 : w.cell? ⟨b, off + 3, none⟩ = some o.bits
  k : o.k < 256
  at1 : -128 ≤ o.at' ∧ o.at' ≤ 127
  bv : ∃ a n c, o.bits = .slice a n c

def OpsR (w : World) (a : Option Addr) (l : List OpD) : Prop := ∀ i o, l[i]? = some o → ∃ b off, a = some ⟨b, off, none⟩ ∧ OpAt w b (off + i * 4) o

theorem OpAt.mono {w w' : World} {b off : Nat} {o : OpD} (h : OpAt w b off o) (hb : Below w.heap.size w w') : OpAt w' b off o :=
  ⟨(hb.cell (cell_lt h.c0)).trans h.c0, (hb.cell (cell_lt h.c1)).trans h.c1, (hb.cell (cell_lt h.c2)).trans h.c2, (hb.cell (cell_lt h.c3)).trans h.c3, h.k, h.at1, h.bv⟩
theorem OpsR.mono {w w' : World} {a : Option Addr} {l : List OpD} (h : OpsR w a l) (hb : Below w.heap.size w w') : OpsR w' a l := by
  intro i o hi
  obtain ⟨b, off, e, h1⟩ := h i o hi
  exact ⟨b, off, e, h1.mono hb⟩

def FewP (l : List OpD) : Prop := (∀ o ∈ l, o.text.length ≤ 500) ∧ l.length ≤ 40
def FewR (l : List OpD) (e : Ending) : Prop := ∃ b, e = .returned (.bool b) ∧ (b = true ↔ FewP l)

set_option maxRecDepth 100000 in
set_option maxHeartbeats 1600000 in
theorem Few_any (l : List OpD) (w : World) (a : Option Addr) (c : Nat) (h : OpsR w a l) (hll : l.length ≤ 9223372036854775807) :
    Calls Tryz.prog 8 #[.slice a l.length c] w fun e w' => FewR l e ∧ w = w' := by
  have H := Lib.hid h
  clear h
  go_enter Tryz.func8, Tryz.ntmps8
  go_wp2
  go_loop [3] (fun s3 => ∃ k : Nat, k ≤ l.length ∧ s3 = .int .i64 k ∧ Hid (∀ i o, i < k → l[i]? = some o → o.text.length ≤ 500)) (fun s3 => l.length - (intOf s3).toNat)
  case atStart => exact ⟨0, Nat.zero_le _, rfl, Lib.hid (fun i o h _ => absurd h (by omega))⟩
  case round =>
    obtain ⟨k, hk, rfl, HI⟩ := hrel
    by_cases hlt : k < l.length
    · obtain ⟨o, ho⟩ : ∃ o, l[k]? = some o := ⟨_, List.getElem?_eq_getElem hlt⟩
      obtain ⟨b, off, rfl, hat⟩ := H.out k o ho
      have c2 := hat.c2
      have HO := Lib.hid ho
      clear hat ho
      by_cases ht : o.text.length ≤ 500
      · have HT := Lib.hid ht
        have hd : decide ((500 : Int) < (o.text.length : Int)) = false := by simp <;> omega
        generalize o.text = t at c2 hd ht
        go_wp2
        go_round
        case rel =>
          refine ⟨k + 1, by omega, by go_num, Lib.hid ?_⟩
          intro i o' hi ho'
          by_cases hik : i < k
          · exact HI.out i o' hik ho'
          · have : i = k := by omega
            subst this
            rw [HO.out] at ho'
            cases ho'
            exact HT.out
        case measure => simp [intOf]; omega
      · have HT := Lib.hid ht
        have hd : decide ((500 : Int) < (o.text.length : Int)) = true := by simp <;> omega
        clear ht
        generalize ht : o.text = t at c2 hd
        have HT2 := Lib.hid ht
        clear ht
        go_wp2
        go_ret
        exact ⟨⟨false, rfl, by simp; intro hf; exact HT.out (hf.1 o (List.mem_of_getElem? HO.out))⟩, rfl⟩
    · have hkl : k = l.length := by omega
      subst hkl
      go_wp2
      go_ret
      refine ⟨⟨_, rfl, ?_⟩, rfl⟩
      simp only [decide_eq_true_eq]
      constructor
      · intro h40
        refine ⟨fun o ho => ?_, by omega⟩
        obtain ⟨i, hi, rfl⟩ := List.getElem_of_mem ho
        exact HI.out i _ hi (List.getElem?_eq_getElem hi)
      · intro hf
        have := hf.2
        omega

end Go.Proofs.YtackeigdehfmmaaGreatDoor

namespace Go.Proofs.YtackeigdehfmmaaGreatDoor
open Go.RowKit

section
variable {w : World} {G : Nat → Prop} {p S : Nat} {d : Wl.Dk}

theorem Append_app (r : Wl.Bs) (h : Disk w G p S d) (hE : Env w) (hr : r.length ≤ 1000000000) :
    Calls Tryz.prog 26 #[.pointer (some ⟨p, 0, none⟩), sv r] w fun e w' => e = .returned (.tuple #[.int .i64 ((d.app r).2.1 : Nat), .int .i64 ((d.app r).2.2 : Nat)]) ∧ Disk w' G p S (d.app r).1 ∧ Kept G w w' := by
  unfold Wl.Dk.app
  cases hl : Wl.log d.now with
  | none => exact (Append_none r h hE (Lib.hid hl)).mono fun e w' ⟨h1, h2⟩ => ⟨h1, h.mono h2, .of_below h2⟩
  | some L =>
    have hn : d.now.length = S := h.ok.now
    simp only
    by_cases hc : 65000 < r.length ∨ d.now.length - 2 ≤ L.recs.length ∨ Wl.lim < L.first + L.recs.length
    · rw [if_pos hc]
      rw [hn] at hc
      exact (Append_full r L h hE (Lib.hid hl) hr hc).mono fun e w' ⟨h1, h2⟩ => ⟨h1, h.mono h2, .of_below h2⟩
    · rw [if_neg hc, hn]
      rw [hn] at hc
      exact Append_ok r L h hE (Lib.hid hl) (by omega) (by omega) (by omega)

theorem Cut_cut (x : Int) (h : Disk w G p S d) (hE : Env w) :
    Calls Tryz.prog 27 #[.pointer (some ⟨p, 0, none⟩), .int .i64 x] w fun e w' => e = .returned (.int .i64 ((d.cut x).2 : Nat)) ∧ Disk w' G p S (d.cut x).1 ∧ Kept G w w' := by
  unfold Wl.Dk.cut
  cases hl : Wl.log d.now with
  | none => exact (Cut_none x h hE (Lib.hid hl)).mono fun e w' ⟨h1, h2⟩ => ⟨h1, h.mono h2, .of_below h2⟩
  | some L =>
    simp only
    by_cases hc : x < L.first ∨ ((L.first + L.recs.length : Nat) : Int) < x
    · rw [if_pos hc]
      exact (Cut_range x L h hE (Lib.hid hl) hc).mono fun e w' ⟨h1, h2⟩ => ⟨h1, h.mono h2, .of_below h2⟩
    · rw [if_neg hc]
      obtain ⟨k, rfl⟩ : ∃ k : Nat, x = k := ⟨x.toNat, by omega⟩
      rw [Int.toNat_natCast]
      exact Cut_ok k L h hE (Lib.hid hl) (by omega) (by omega)

/-- what appending and cutting do to a disk that crashes are tried on -/
def AppC (w' : World) (G : Nat → Prop) (p S c : Nat) (d : Wl.Dk) (all : List Wl.Bs) (first synced : Nat) (r : Wl.Bs) (e : Ending) : Prop :=
  (e = .returned (.tuple #[.int .i64 0, .int .i64 3]) ∧ Disk w' G p S d) ∨
  ∃ d', e = .returned (.tuple #[.int .i64 all.length, .int .i64 0]) ∧ Disk w' G p S d' ∧ Hid (Wl.CInv S (c + 1) ⟨d', all ++ [r], first, synced⟩)

theorem Append_c {c : Nat} {all : List Wl.Bs} {first synced : Nat} (r : Wl.Bs) (h : Disk w G p S d) (hE : Env w) (hI : Hid (Wl.CInv S c ⟨d, all, first, synced⟩)) (hc : c ≤ 1000) (hr : r.length ≤ 500) :
    Calls Tryz.prog 26 #[.pointer (some ⟨p, 0, none⟩), sv r] w fun e w' => AppC w' G p S c d all first synced r e ∧ Kept G w w' := by
  refine (Append_app r h hE (by omega)).mono fun e w' ⟨h1, h2, h3⟩ => ⟨?_, h3⟩
  rcases hI.out.app hc hr with h4 | ⟨d', h4, h5⟩
  · rw [h4] at h1 h2
    exact .inl ⟨h1, h2⟩
  · rw [h4] at h1 h2
    exact .inr ⟨d', h1, h2, Lib.hid h5⟩

def CutC (w' : World) (G : Nat → Prop) (p S c : Nat) (d : Wl.Dk) (all : List Wl.Bs) (x : Int) (e : Ending) : Prop :=
  (e = .returned (.int .i64 7) ∧ Disk w' G p S d) ∨
  ∃ (d' : Wl.Dk) (n : Nat), e = .returned (.int .i64 0) ∧ x = n ∧ Disk w' G p S d' ∧ Hid (Wl.CInv S (c + 1) ⟨d', all, n, all.length⟩)

theorem Cut_c {c : Nat} {all : List Wl.Bs} {first synced : Nat} (x : Int) (h : Disk w G p S d) (hE : Env w) (hI : Hid (Wl.CInv S c ⟨d, all, first, synced⟩)) (hc : c ≤ 1000) :
    Calls Tryz.prog 27 #[.pointer (some ⟨p, 0, none⟩), .int .i64 x] w fun e w' => CutC w' G p S c d all x e ∧ Kept G w w' := by
  refine (Cut_cut x h hE).mono fun e w' ⟨h1, h2, h3⟩ => ⟨?_, h3⟩
  rcases hI.out.cut hc x with h4 | ⟨d', h4, h5, h6⟩
  · rw [h4] at h1 h2
    exact .inl ⟨h1, h2⟩
  · rw [h4] at h1 h2
    obtain ⟨n, rfl⟩ : ∃ n : Nat, x = n := ⟨x.toNat, by omega⟩
    rw [Int.toNat_natCast] at h6
    exact .inr ⟨d', n, h1, rfl, h2, Lib.hid h6⟩

/-- what a crash leaves: the log's first number stays; its records are the first ones of those from there on -/
theorem crash_c {c : Nat} {all : List Wl.Bs} {first synced : Nat} (hI : Hid (Wl.CInv S c ⟨d, all, first, synced⟩)) (hc : c ≤ 1000) (bits : List Nat) :
    ∃ hd g, Hid (Wl.log (d.crash bits).now = some ⟨hd, first, (all.drop first).take g⟩) ∧ first + g ≤ all.length ∧ synced ≤ first + g := by
  obtain ⟨hd, g, h1, h2, h3⟩ := hI.out.crash hc bits
  exact ⟨hd, g, Lib.hid h1, h2, h3⟩
end

end Go.Proofs.YtackeigdehfmmaaGreatDoor

namespace Wl
/-- what recovering returns: the first number, the records, and an error -/
noncomputable def recR (d : Dk) : Nat × List Bs × Nat := match log d.now with
  | none => (0, [], 21)
  | some L => (L.first, L.recs, 0)
theorem recR_len (d : Dk) : (recR d).2.1.length ≤ d.now.length := by
  unfold recR
  cases h : log d.now with
  | none => simp
  | some L => have := (log_le h).2.2.1; simp only; omega
end Wl
namespace Go.Proofs.YtackeigdehfmmaaGreatDoor
open Go.RowKit

theorem Row4 {w : World} {g : Nat} {E : TypeId} {x y z u : Value} (h : Row w g E [x, y, z, u]) : w.cell? ⟨g, 0, none⟩ = some x ∧ w.cell? ⟨g, 1, none⟩ = some y ∧ w.cell? ⟨g, 2, none⟩ = some z ∧ w.cell? ⟨g, 3, none⟩ = some u :=
  ⟨h.cell (k := 0) (by simp), h.cell (k := 1) (by simp), h.cell (k := 2) (by simp), h.cell (k := 3) (by simp)⟩
theorem RefD.adj {w w' : World} {G G' : Nat → Prop} {S : Nat} {a1 a2 a3 : Option Addr} {d : Wl.Dk} (h : RefD w G S a1 a2 a3 d) (hk : Kept G w w') (hg : ∀ b, b < w.heap.size → G' b → G b) : RefD w' G' S a1 a2 a3 d :=
  ⟨h.now.adj hk (fun _ h => h) hg, h.old.adj hk (fun _ h => h) hg, h.dirty.adj hk (fun _ h => h) hg, h.ok, h.lo, h.hi⟩

/-- the program's disk and the reference's, which lies in the box n -/
structure St (w : World) (G : Nat → Prop) (p n S : Nat) (d : Wl.Dk) : Prop where
  disk : Disk w G p S d
  box : BoxD w (fun b => G b ∨ b = n) S n d
  ng : ¬ G n
  np : p ≠ n
theorem St.below {w w' : World} {G : Nat → Prop} {p n S : Nat} {d : Wl.Dk} (h : St w G p n S d) (hb : Below w.heap.size w w') : St w' G p n S d :=
  ⟨h.disk.mono hb, h.box.kept (Kept.of_below (G := fun _ => False) hb) (fun h => h) (fun _ h => h.elim), h.ng, h.np⟩

section
variable {ops : Array Oper} {rest : List Oper} {o : Oper} {a : Act} {Q : Exit → Act → World → Prop}
/-- append([]T{}, xs...), xs any -/
theorem app_u8 (w : World) (hgd : o.guard = none) (s x : Operand) (T E bytes : Nat) (z : Value)
    (ho : o.op = .call { callee := .builtin .append, args := #[s, x], argTypes := #[T, T] }) (hT : Tryz.prog.underlying T = some (.slice E)) (hE : (Tryz.prog.info? E).map (fun i => (i.zero, i.size, i.bytes)) = some (some z, 1, bytes))
    (g : Nat) (ao : Option Addr) (n c : Nat) (xs : List Value) (hs : a.eval s = .slice (some ⟨g, 0, none⟩) 0 0) (hx : a.eval x = .slice ao n c) (hr : RG w (fun _ => False) ao xs) (hn : xs.length = n) (hn2 : n ≤ 140737488355328) (hn3 : n * bytes ≤ 140737488355328)
    (h : ∀ (ao' : Option Addr) (cap : Nat) (w' : World), Below w.heap.size w w' → RG w' (fun b => b < w.heap.size) ao' xs → wpList Tryz.prog ops Q rest (a.put o.dst (.slice ao' n cap)) w') :
    wpList Tryz.prog ops Q (o :: rest) a w := by
  obtain ⟨i0, hi, hz0, hz1, hz2⟩ := info_parts hE
  refine wpList_plain hgd fun K hK => ?_
  by_cases h0 : n = 0
  · subst h0
    have hxs : xs = [] := List.eq_nil_of_length_eq_zero hn
    subst hxs
    have hrun : (Builtin.append_ #[T, T] o.type #[.slice (some ⟨g, 0, none⟩) 0 0, .slice ao 0 c]).run Tryz.prog w = .ok (.slice (some ⟨g, 0, none⟩) 0 0) w := by
      cases ao <;> simp [Builtin.append_, run_underlying hT, sizeOf, typeInfo, hi, Builtin.lenOf, Builtin.firstCells, storeCells, loadCells, loadCellsFrom]
    unfold Oper.wp
    simp [execOp, ho, resolve, invoke, builtin, hs, hx, hrun, Result.andThen]
    exact hK _ _ (h (some ⟨g, 0, none⟩) 0 w (Below.refl _ _) (RG.nil _ _ _))
  · obtain ⟨b, off, rfl, -, -⟩ := hr.at' (k := 0) (by omega)
    have hnews : ∀ j v, xs[j]? = some v → w.cell? ((⟨b, off, none⟩ : Addr).add j) = some v := by
      intro j v hj
      obtain ⟨b', off', e, -, hc⟩ := hr j v hj
      simp only [Option.some.injEq, Addr.mk.injEq, and_true] at e
      obtain ⟨rfl, rfl⟩ := e
      have e : (⟨b, off, none⟩ : Addr).add j = ⟨b, off + j, none⟩ := by
        unfold Addr.add; split
        · subst j; rfl
        · rfl
      rw [e]; exact hc
    have hrun := run_append_grow (P := Tryz.prog) w T o.type E i0 z hT hi hz0 ⟨g, 0, none⟩ 0 0 [] (by simp) (by simp) ⟨b, off, none⟩ n c xs (by rw [hz1, Nat.mul_one, hn]) hnews (by omega) (by omega) (by rw [hz2, Nat.zero_add]; exact growslice_fits (by omega) hn3)
    simp only [Nat.zero_add] at hrun
    unfold Oper.wp
    simp [execOp, ho, resolve, invoke, builtin, hs, hx, hrun, Result.andThen]
    refine hK _ _ (h _ _ _ (((Below.refl _ _).drew).alloc (Nat.le_refl _) _) ?_)
    have hp : Pre (w.drew.alloc (.cells (xs.toArray ++ Array.replicate (Builtin.nextslicecap n 0 - xs.length) z) E)) w.heap.size E xs := ⟨_, heap_alloc_new _ _, by simp⟩
    first
      | exact hp.rg (by omega)
      | (refine Pre.rg (g := w.heap.size) (E := E) ⟨_, heap_alloc_new _ _, by simp⟩ (by omega))
end

section
variable {w : World} {G : Nat → Prop} {p n S : Nat} {d : Wl.Dk}

theorem Recover_u (h : Disk w G p S d) (hC : Cx w G) :
    Calls Tryz.prog 10 #[.pointer (some ⟨p, 0, none⟩)] w fun e w' => (∃ v, e = .returned (.tuple #[v, .int .i64 (Wl.recR d).1, .int .i64 (Wl.recR d).2.2]) ∧ OwnV w' w.heap.size 9 v (svs (Wl.recR d).2.1)) ∧ Disk w' G p S d.rec'.1 ∧ Kept G w w' := by
  unfold Wl.recR
  cases hl : Wl.log d.now with
  | none =>
    have e1 : d.rec'.1 = d := by unfold Wl.Dk.rec'; rw [hl]
    rw [e1]
    exact (Recover_none h hC.env (Lib.hid hl)).mono fun e w' ⟨h1, h2⟩ => ⟨⟨_, h1, OwnV.nil _ _ _⟩, h.mono h2, .of_below h2⟩
  | some L => exact Recover_some L h hC (Lib.hid hl)

theorem rRecover_u {a1 a2 a3 : Option Addr} {c1 c2 c3 : Nat} (hG : ∀ b, G b → b < w.heap.size) (h : RefD w G S a1 a2 a3 d) (hE : Env w) :
    Calls Tryz.prog 32 #[.agg #[.slice a1 S c1, .slice a2 S c2, .slice a3 S c3]] w fun e w' => RecV w w' G S d.rec'.1 (Wl.recR d).1 (Wl.recR d).2.1 (Wl.recR d).2.2 e ∧ Below w.heap.size w w' := by
  unfold Wl.recR
  cases hl : Wl.log d.now with
  | none =>
    have e1 : d.rec'.1 = d := by unfold Wl.Dk.rec'; rw [hl]
    rw [e1]
    exact rRecover_none hG h hE (Lib.hid hl)
  | some L => exact rRecover_some L hG h hE (Lib.hid hl)

theorem Write_write (i : Int) (s : Wl.Bs) (h : Disk w G p S d) (hs : s.length ≤ 65536) :
    Calls Tryz.prog 19 #[.pointer (some ⟨p, 0, none⟩), .int .i64 i, sv s] w fun e w' => e = .returned (.int .i64 ((d.write i s).2 : Nat)) ∧ Disk w' G p S (d.write i s).1 ∧ Kept G w w' := by
  have hn : d.now.length = S := h.ok.now
  unfold Wl.Dk.write
  by_cases hc : i < 0 ∨ (d.now.length : Int) ≤ i
  · rw [if_pos hc]
    rw [hn] at hc
    exact (Write_no i s h hc).mono fun e w' ⟨h1, h2⟩ => ⟨h1, h2 ▸ h, h2 ▸ Kept.refl _⟩
  · rw [if_neg hc, if_neg (by omega)]
    rw [hn] at hc
    obtain ⟨j, rfl⟩ : ∃ j : Nat, i = j := ⟨i.toNat, by omega⟩
    rw [Int.toNat_natCast]
    exact Write_yes j s h (by omega) hs

theorem rWrite_write (i : Int) (s : Wl.Bs) {a1 a2 a3 : Option Addr} {c1 c2 c3 : Nat} (hG : ∀ b, G b → b < w.heap.size) (h : RefD w G S a1 a2 a3 d) (hs : s.length ≤ 65536) :
    Calls Tryz.prog 20 #[.agg #[.slice a1 S c1, .slice a2 S c2, .slice a3 S c3], .int .i64 i, sv s] w fun e w' => ResW G S (d.write i s).1 (d.write i s).2 w' e ∧ Below w.heap.size w w' := by
  have hn : d.now.length = S := h.ok.now
  unfold Wl.Dk.write
  by_cases hc : i < 0 ∨ (d.now.length : Int) ≤ i
  · rw [if_pos hc]
    rw [hn] at hc
    exact rWrite_no i s h hc
  · rw [if_neg hc, if_neg (by omega)]
    rw [hn] at hc
    obtain ⟨j, rfl⟩ : ∃ j : Nat, i = j := ⟨i.toNat, by omega⟩
    rw [Int.toNat_natCast]
    exact rWrite_yes j s hG h (by omega) hs

set_option maxRecDepth 100000 in
set_option maxHeartbeats 6400000 in
theorem do_cut {ba : Option Addr} {bl : List Nat} {bc : Nat} (k : Nat) (at1 : Int) (t : Wl.Bs) (h : St w G p n S d) (hC : Cx w (fun b => G b ∨ b = n)) (hk2 : k < 256) (hat : -128 ≤ at1 ∧ at1 ≤ 127) (ht : t.length ≤ 500) (hbl : bl.length ≤ 140737488355328) (hbr : RG w (fun b => G b ∨ b = n) ba (uvs bl)) (hkd : k % 7 = 2) :
    Calls Tryz.prog 9 #[.pointer (some ⟨p, 0, none⟩), .pointer (some ⟨n, 0, none⟩), .agg #[.int .u8 k, .int .i8 at1, sv t, .slice ba bl.length bc]] w fun e w' => e = .returned (.bool true) ∧ (∃ d', St w' G p n S d') ∧ Kept (fun b => G b ∨ b = n) w w' := by
  have u1 := hk2
  have u2 := hat
  have u3 := ht
  have u4 := hbl
  have u5 := hbr
  clear u1 u2 u3 u4 u5
  have hS := h.disk.S_le
  have hng := h.ng
  have hnp := h.np
  have hwr : IntKind.i64.wrap at1 = at1 := by unfold IntKind.wrap; simp [IntKind.bits, IntKind.signed]; omega
  have HWR := Lib.hid hwr
  clear hwr
  have t2q : (((k : Int) % 7) == 2) = true := by simp; omega
  clear hkd
  go_enter Tryz.func9, Tryz.ntmps9
  go_upto_region 1 with fail
  have hb0 := below_alloc w (.cells #[.int .u8 k, .int .i8 at1, sv t, .slice ba bl.length bc] 35)
  have rO : Row (w.alloc (.cells #[.int .u8 k, .int .i8 at1, sv t, .slice ba bl.length bc] 35)) w.heap.size 35 [.int .u8 k, .int .i8 at1, sv t, .slice ba bl.length bc] := heap_alloc_new _ _
  have hOG : ¬ (G w.heap.size ∨ w.heap.size = n) := fun hh => Nat.lt_irrefl _ (hC.lt _ hh)
  generalize w.alloc (.cells #[.int .u8 k, .int .i8 at1, sv t, .slice ba bl.length bc] 35) = w0 at *
  have h := h.below hb0
  have hC := hC.mono hb0
  have xOn : w.heap.size ≠ n := fun e => hOG (.inr e)
  have xOG : ¬ G w.heap.size := fun e => hOG (.inl e)
  clear hOG
  obtain ⟨o0, o1, o2, o3⟩ := Row4 rO
  go_wp2_with fail
  (with_reducible refine (Cut_cut at1 h.disk hC.env).mono ?_)
  rintro e w1 ⟨rfl, hD1, hk1⟩
  have hKw1 : Kept (fun b => G b ∨ b = n) w w1 := (Kept.of_below hb0).trans (hk1.wider (fun b hb => Or.inl hb))
  have hC1 := hC.kept (hk1.wider (fun b hb => Or.inl hb) : Kept (fun b => G b ∨ b = n) _ _)
  have rO := rO.mono hk1 xOG
  obtain ⟨b1, m1, b2, m2, b3, m3, rN, RD⟩ := (h.box.kept hk1 hng (fun b hb => Or.inl hb)).ex
  have RD := Lib.hid RD
  clear h hk1 hC hb0 o0 o1 o2 o3
  have hCt := fun (W : World) (G' : Nat → Prop) (hG' : ∀ b, G' b → b < W.heap.size) (hR : RefD W G' S b1 b2 b3 d) (hE : Env W) => rCut_cut (c1 := m1) (c2 := m2) (c3 := m3) at1 hG' hR hE
  generalize hd2 : (d.cut at1).1 = d2 at *
  generalize hc2 : (d.cut at1).2 = c2 at *
  clear hd2 hc2
  go_upto_region 8 with fail
  refine wp_region_news (wx := w1) (fun b => G b ∨ b = n) [(fun _ X _ => X 0 = .pointer (some ⟨n, 0, none⟩)), (fun _ X _ => X 1 = .pointer (some ⟨n, 0, none⟩)), (fun _ X _ => X 2 = .agg #[.slice b1 S m1, .slice b2 S m2, .slice b3 S m3]), (fun _ X _ => X 3 = .pointer (some ⟨w.heap.size, 1, none⟩)), (fun _ X _ => X 4 = .int .i8 at1), (fun _ X _ => X 5 = .int .i64 at1), (fun G X W => ((fun G W v => ∃ vv, v = .tuple #[vv, .int .i64 (c2 : Nat)] ∧ RefV W G S vv (d2)) : (Nat → Prop) → World → Value → Prop) G W (X 6)), (fun G X W => ((fun G W v => ∃ vv, v = .tuple #[vv, .int .i64 (c2 : Nat)] ∧ RefV W G S vv (d2)) : (Nat → Prop) → World → Value → Prop) G W (X 7)), (fun G X W => ((fun G W v => RefV W G S v (d2)) : (Nat → Prop) → World → Value → Prop) G W (X 8)), (fun _ X _ => X 9 = .int .i64 (c2 : Nat)), (fun _ _ _ => True), (fun _ _ _ => True), (fun _ X _ => X 12 = .int .i64 (c2 : Nat))] [some 66, some 67, some 68, some 69, some 70, some 71, some 72, some 65, some 73, some 74, some 8, none, some 9] [none, none, none, none, none, none, none, none, none, none, some ⟨11, 8, 28, [.slice none 0 0, .slice none 0 0, .slice none 0 0]⟩, none, none] [66, 67, 68, 69, 70, 71, 72, 65, 73, 74, 8, 9] (by kernel_rfl) (by kernel_rfl) (by kernel_rfl) (by kernel_rfl) (of_decide_eq_true (by kernel_rfl)) (by kernel_rfl) hC1.lt (Below.refl _ _) ⟨adj_val _ _ _, adj_val _ _ _, adj_val _ _ _, adj_val _ _ _, adj_val _ _ _, adj_val _ _ _, (adj_own' (F := fun G W v => ∃ vv, v = .tuple #[vv, .int .i64 (c2 : Nat)] ∧ RefV W G S vv (d2)) (fun G G' W W' v h hk hg => by obtain ⟨vv, e, x1, y1, x2, y2, x3, y3, e2, hr⟩ := h; exact ⟨vv, e, x1, y1, x2, y2, x3, y3, e2, hr.adj hk hg⟩)), (adj_own' (F := fun G W v => ∃ vv, v = .tuple #[vv, .int .i64 (c2 : Nat)] ∧ RefV W G S vv (d2)) (fun G G' W W' v h hk hg => by obtain ⟨vv, e, x1, y1, x2, y2, x3, y3, e2, hr⟩ := h; exact ⟨vv, e, x1, y1, x2, y2, x3, y3, e2, hr.adj hk hg⟩)), (adj_own' (F := fun G W v => RefV W G S v (d2)) (fun G G' W W' v h hk hg => by obtain ⟨x1, y1, x2, y2, x3, y3, e2, hr⟩ := h; exact ⟨x1, y1, x2, y2, x3, y3, e2, hr.adj hk hg⟩)), adj_val _ _ _, adj_true _, adj_true _, adj_val _ _ _, trivial⟩ ⟨⟨fun _ _ _ => trivial, fun _ _ _ => trivial⟩, trivial⟩ ⟨?s0, ?s1, ?s2, ?s3, ?s4, ?s5, ?s6, ?s7, ?s8, ?s9, ?s10, ?s11, ?s12, trivial⟩ ⟨?b10, trivial⟩ ?he
  case s0 =>
    rintro - G T W hb hHG hGW hGo hA K hK
    simp only [ovr, Act.put, List.setIfInBounds_toArray, List.set_cons_zero, List.set_cons_succ] at hK ⊢
    have HK := Lib.hid hK
    clear hK hA
    refine wpOp_want rfl (by rfl) ?_
    go_simp
    exact HK.out _ _ (Below.refl _ _) fun X hX _ => hX
  case s1 =>
    rintro - G T W hb hHG hGW hGo hA K hK
    have e0 : T 66 = .pointer (some ⟨n, 0, none⟩) := hA.1
    simp only [ovr, Act.put, List.setIfInBounds_toArray, List.set_cons_zero, List.set_cons_succ, e0] at hK ⊢
    have HK := Lib.hid hK
    clear hK hA
    refine wpOp_want rfl (by rfl) ?_
    go_simp
    exact HK.out _ _ (Below.refl _ _) fun X hX _ => hX
  case s2 =>
    rintro - G T W hb hHG hGW hGo hA K hK
    have e1 : T 67 = .pointer (some ⟨n, 0, none⟩) := hA.1
    obtain ⟨z0, z1, z2, _, _, _⟩ := Row3 (rN.below hb)
    simp only [ovr, Act.put, List.setIfInBounds_toArray, List.set_cons_zero, List.set_cons_succ, e1] at hK ⊢
    have HK := Lib.hid hK
    clear hK hA
    refine wpOp_want rfl (by rfl) ?_
    go_simp
    exact HK.out _ _ (Below.refl _ _) fun X hX _ => hX
  case s3 =>
    rintro - G T W hb hHG hGW hGo hA K hK
    simp only [ovr, Act.put, List.setIfInBounds_toArray, List.set_cons_zero, List.set_cons_succ] at hK ⊢
    have HK := Lib.hid hK
    clear hK hA
    refine wpOp_want rfl (by rfl) ?_
    go_simp
    exact HK.out _ _ (Below.refl _ _) fun X hX _ => hX
  case s4 =>
    rintro - G T W hb hHG hGW hGo hA K hK
    have e3 : T 69 = .pointer (some ⟨w.heap.size, 1, none⟩) := hA.1
    obtain ⟨z0, z1, z2, z3⟩ := Row4 (rO.below hb)
    simp only [ovr, Act.put, List.setIfInBounds_toArray, List.set_cons_zero, List.set_cons_succ, e3] at hK ⊢
    have HK := Lib.hid hK
    clear hK hA
    refine wpOp_want rfl (by rfl) ?_
    go_simp
    exact HK.out _ _ (Below.refl _ _) fun X hX _ => hX
  case s5 =>
    rintro - G T W hb hHG hGW hGo hA K hK
    have e4 : T 70 = .int .i8 at1 := hA.1
    simp only [ovr, Act.put, List.setIfInBounds_toArray, List.set_cons_zero, List.set_cons_succ, e4] at hK ⊢
    have HK := Lib.hid hK
    clear hK hA
    refine wpOp_want rfl (by rfl) ?_
    go_simp
    exact HK.out _ _ (Below.refl _ _) fun X hX _ => hX.trans (congrArg (Value.int .i64) HWR.out)
  case s6 =>
    rintro - G T W hb hHG hGW hGo hA K hK
    have e2 : T 68 = .agg #[.slice b1 S m1, .slice b2 S m2, .slice b3 S m3] := hA.1
    have e5 : T 71 = .int .i64 at1 := hA.2.1
    simp only [ovr, Act.put, List.setIfInBounds_toArray, List.set_cons_zero, List.set_cons_succ, e2, e5] at hK ⊢
    have HK := Lib.hid hK
    clear hK hA
    refine wpOp_want rfl (by rfl) ?_
    go_simp
    (with_reducible refine (hCt W G hGW (RD.out.lift hb hGo) (hC1.env.mono hb)).mono ?_)
    rintro e w1 ⟨⟨vv, rfl, hv⟩, hb1⟩
    try dsimp only
    exact HK.out _ _ (hb1) fun X hX _ => by
      show ((fun G W v => ∃ vv, v = .tuple #[vv, .int .i64 (c2 : Nat)] ∧ RefV W G S vv (d2)) : (Nat → Prop) → World → Value → Prop) _ _ (X 6)
      rw [hX]
      exact ⟨_, rfl, hv⟩
  case s7 =>
    rintro - G T W hb hHG hGW hGo hA K hK
    have r6 : ((fun G W v => ∃ vv, v = .tuple #[vv, .int .i64 (c2 : Nat)] ∧ RefV W G S vv (d2)) : (Nat → Prop) → World → Value → Prop) G W (T 72) := hA.1
    obtain ⟨vv, e6, hv⟩ := r6
    have e6 : T 72 = .tuple #[vv, .int .i64 (c2 : Nat)] := e6
    simp only [ovr, Act.put, List.setIfInBounds_toArray, List.set_cons_zero, List.set_cons_succ, e6] at hK ⊢
    have HK := Lib.hid hK
    clear hK hA
    refine wpOp_want rfl (by rfl) ?_
    go_simp
    exact HK.out _ _ (Below.refl _ _) fun X hX _ => by
      show ((fun G W v => ∃ vv, v = .tuple #[vv, .int .i64 (c2 : Nat)] ∧ RefV W G S vv (d2)) : (Nat → Prop) → World → Value → Prop) _ _ (X 7)
      rw [hX]
      exact ⟨_, rfl, hv⟩
  case s8 =>
    rintro - G T W hb hHG hGW hGo hA K hK
    have r7 : ((fun G W v => ∃ vv, v = .tuple #[vv, .int .i64 (c2 : Nat)] ∧ RefV W G S vv (d2)) : (Nat → Prop) → World → Value → Prop) G W (T 65) := hA.1
    obtain ⟨vv, e7, hv⟩ := r7
    have e7 : T 65 = .tuple #[vv, .int .i64 (c2 : Nat)] := e7
    simp only [ovr, Act.put, List.setIfInBounds_toArray, List.set_cons_zero, List.set_cons_succ, e7] at hK ⊢
    have HK := Lib.hid hK
    clear hK hA
    refine wpOp_want rfl (by rfl) ?_
    go_simp
    exact HK.out _ _ (Below.refl _ _) fun X hX _ => by
      show ((fun G W v => RefV W G S v (d2)) : (Nat → Prop) → World → Value → Prop) _ _ (X 8)
      rw [hX]
      exact hv
  case s9 =>
    rintro - G T W hb hHG hGW hGo hA K hK
    have r7 : ((fun G W v => ∃ vv, v = .tuple #[vv, .int .i64 (c2 : Nat)] ∧ RefV W G S vv (d2)) : (Nat → Prop) → World → Value → Prop) G W (T 65) := hA.1
    obtain ⟨vv, e7, hv⟩ := r7
    have e7 : T 65 = .tuple #[vv, .int .i64 (c2 : Nat)] := e7
    simp only [ovr, Act.put, List.setIfInBounds_toArray, List.set_cons_zero, List.set_cons_succ, e7] at hK ⊢
    have HK := Lib.hid hK
    clear hK hA
    refine wpOp_want rfl (by rfl) ?_
    go_simp
    exact HK.out _ _ (Below.refl _ _) fun X hX _ => hX
  case s10 => exact fun h => absurd h (by decide)
  case s11 => exact fun h => absurd h (by decide)
  case s12 =>
    rintro - G T W hb hHG hGW hGo hA K hK
    have e9 : T 74 = .int .i64 (c2 : Nat) := hA.1
    have e0 : T 66 = .pointer (some ⟨n, 0, none⟩) := hA.2.2.1
    have e1 : T 67 = .pointer (some ⟨n, 0, none⟩) := hA.2.2.2.1
    have e2 : T 68 = .agg #[.slice b1 S m1, .slice b2 S m2, .slice b3 S m3] := hA.2.2.2.2.1
    have e3 : T 69 = .pointer (some ⟨w.heap.size, 1, none⟩) := hA.2.2.2.2.2.1
    have e4 : T 70 = .int .i8 at1 := hA.2.2.2.2.2.2.1
    have e5 : T 71 = .int .i64 at1 := hA.2.2.2.2.2.2.2.1
    have r6 : ((fun G W v => ∃ vv, v = .tuple #[vv, .int .i64 (c2 : Nat)] ∧ RefV W G S vv (d2)) : (Nat → Prop) → World → Value → Prop) G W (T 72) := hA.2.2.2.2.2.2.2.2.1
    have r7 : ((fun G W v => ∃ vv, v = .tuple #[vv, .int .i64 (c2 : Nat)] ∧ RefV W G S vv (d2)) : (Nat → Prop) → World → Value → Prop) G W (T 65) := hA.2.2.2.2.2.2.2.2.2.1
    have r8 : ((fun G W v => RefV W G S v (d2)) : (Nat → Prop) → World → Value → Prop) G W (T 73) := hA.2.2.2.2.2.2.2.2.2.2.1
    simp only [ovr, Act.put, List.setIfInBounds_toArray, List.set_cons_zero, List.set_cons_succ, e9, e0, e1, e2, e3, e4, e5] at hK ⊢
    have HK := Lib.hid hK
    clear hK hA
    refine wpOp_want rfl (by rfl) ?_
    go_simp
    exact HK.out _ _ (Below.refl _ _) fun X hX _ => hX
  case b10 =>
    refine ⟨?_, ?_⟩
    · rintro o ho T W K hK
      obtain rfl := Option.some.inj ho
      simp only [ovr, Act.put, List.setIfInBounds_toArray, List.set_cons_zero, List.set_cons_succ] at hK ⊢
      have HK := Lib.hid hK
      clear hK ho
      refine wpOp_want rfl (by rfl) ?_
      go_simp
      exact HK.out
    · rintro o ho G T W nb hA hp hrow K hK
      obtain rfl := Option.some.inj ho
      have ep : T 8 = .pointer (some ⟨nb, 0, none⟩) := hp
      have r8 : ((fun G W v => RefV W G S v (d2)) : (Nat → Prop) → World → Value → Prop) G W (T 73) := hA.2.1
      have r6 : ((fun G W v => ∃ vv, v = .tuple #[vv, .int .i64 (c2 : Nat)] ∧ RefV W G S vv (d2)) : (Nat → Prop) → World → Value → Prop) G W (T 72) := hA.2.2.1
      have e0 : T 66 = .pointer (some ⟨n, 0, none⟩) := hA.2.2.2.1
      have e1 : T 67 = .pointer (some ⟨n, 0, none⟩) := hA.2.2.2.2.1
      have e2 : T 68 = .agg #[.slice b1 S m1, .slice b2 S m2, .slice b3 S m3] := hA.2.2.2.2.2.1
      have e3 : T 69 = .pointer (some ⟨w.heap.size, 1, none⟩) := hA.2.2.2.2.2.2.1
      have e4 : T 70 = .int .i8 at1 := hA.2.2.2.2.2.2.2.1
      have e5 : T 71 = .int .i64 at1 := hA.2.2.2.2.2.2.2.2.1
      have r7 : ((fun G W v => ∃ vv, v = .tuple #[vv, .int .i64 (c2 : Nat)] ∧ RefV W G S vv (d2)) : (Nat → Prop) → World → Value → Prop) G W (T 65) := hA.2.2.2.2.2.2.2.2.2.2.1
      obtain ⟨x1, y1, x2, y2, x3, y3, ev, hr⟩ := r8
      have ev : T 73 = .agg #[.slice x1 S y1, .slice x2 S y2, .slice x3 S y3] := ev
      have hK := hK [.slice x1 S y1, .slice x2 S y2, .slice x3 S y3] ev rfl
      simp only [ovr, List.setIfInBounds_toArray, List.set_cons_zero, List.set_cons_succ, ep, e0, e1, e2, e3, e4, e5, ev] at hK ⊢
      have HK := Lib.hid hK
      clear hK hA ho
      have q0 := hrow.cell (k := 0) (by simp)
      have f0 := hrow.free 0
      have q1 := hrow.cell (k := 1) (by simp)
      have f1 := hrow.free 1
      have q2 := hrow.cell (k := 2) (by simp)
      have f2 := hrow.free 2
      simp only [List.getElem_cons_zero, List.getElem_cons_succ] at q0 q1 q2
      refine wpOp_want rfl (by rfl) ?_
      go_simp
      exact HK.out
  case he =>
    rintro GG N T W hb hHG hGW hGo hbox hne hA
    have g12 : T 9 = .int .i64 (c2 : Nat) := hA.at 12 (by decide)
    have rr : ((fun G W v => RefV W G S v (d2)) : (Nat → Prop) → World → Value → Prop) GG W (T 73) := hA.at 8 (by decide)
    obtain ⟨pX, hGn, hnn, vs, evs, hrow⟩ := hbox 10 _ rfl
    have pX : T 8 = .pointer (some ⟨N 10, 0, none⟩) := pX
    generalize N 10 = mb at *
    obtain ⟨x1, y1, x2, y2, x3, y3, ev, hr⟩ := rr
    have hvs : vs = [.slice x1 S y1, .slice x2 S y2, .slice x3 S y3] := by
      have h1 : Value.agg vs.toArray = .agg #[.slice x1 S y1, .slice x2 S y2, .slice x3 S y3] := evs.symm.trans ev
      have h2 := congrArg Array.toList (Value.agg.inj h1)
      simpa using h2
    subst hvs
    simp only [ovr, List.setIfInBounds_toArray, List.set_cons_zero, List.set_cons_succ, pX, g12]
    have xmn : mb ≠ n := fun e => by have := hC1.lt n (.inr rfl); omega
    have rN := rN.below hb
    have HP := put3_kept W n (.slice x1 S y1) (.slice x2 S y2) (.slice x3 S y3)
    have HF := Lib.hid ((hr.kept (HP.wider (fun b e => hHG b (.inr e)))).narrow' hHG)
    have HDk := Lib.hid ((hD1.mono hb).keptN HP hnp hng)
    have HBX := Lib.hid (rN.put3 (.slice x1 S y1) (.slice x2 S y2) (.slice x3 S y3))
    have HKK := Lib.hid ((hKw1.trans (Kept.of_below hb)).trans (HP.wider (fun b e => Or.inr e) : Kept (fun b => G b ∨ b = n) _ _))
    obtain ⟨z0, z1, z2, _, _, _⟩ := Row3 hrow
    obtain ⟨q0, q1, q2, f0, f1, f2⟩ := Row3 rN
    unfold put3 at HF HDk HKK
    clear hA hbox hne evs ev hr HP hHG hGW hGo hb pX g12 hGn hnn
    go_wp2
    go_ret
    exact ⟨rfl, ⟨_, HDk.out, ⟨_, _, _, _, _, _, HBX.out, HF.out⟩, hng, hnp⟩, HKK.out⟩

set_option maxRecDepth 100000 in
set_option maxHeartbeats 6400000 in
theorem do_write {ba : Option Addr} {bl : List Nat} {bc : Nat} (k : Nat) (at1 : Int) (t : Wl.Bs) (h : St w G p n S d) (hC : Cx w (fun b => G b ∨ b = n)) (hk2 : k < 256) (hat : -128 ≤ at1 ∧ at1 ≤ 127) (ht : t.length ≤ 500) (hbl : bl.length ≤ 140737488355328) (hbr : RG w (fun b => G b ∨ b = n) ba (uvs bl)) (hkd : k % 7 = 6) :
    Calls Tryz.prog 9 #[.pointer (some ⟨p, 0, none⟩), .pointer (some ⟨n, 0, none⟩), .agg #[.int .u8 k, .int .i8 at1, sv t, .slice ba bl.length bc]] w fun e w' => e = .returned (.bool true) ∧ (∃ d', St w' G p n S d') ∧ Kept (fun b => G b ∨ b = n) w w' := by
  have u1 := hk2
  have u2 := hat
  have u3 := ht
  have u4 := hbl
  have u5 := hbr
  clear u1 u2 u3 u4 u5
  have hS := h.disk.S_le
  have hng := h.ng
  have hnp := h.np
  have hwr : IntKind.i64.wrap at1 = at1 := by unfold IntKind.wrap; simp [IntKind.bits, IntKind.signed]; omega
  have HWR := Lib.hid hwr
  clear hwr
  have t2q : (((k : Int) % 7) == 2) = false := by simp; omega
  have t3q : (((k : Int) % 7) == 3) = false := by simp; omega
  have t4q : (((k : Int) % 7) == 4) = false := by simp; omega
  have t5q : (((k : Int) % 7) == 5) = false := by simp; omega
  have t6q : (((k : Int) % 7) == 6) = true := by simp; omega
  clear hkd
  go_enter Tryz.func9, Tryz.ntmps9
  go_upto_region 1 with fail
  have hb0 := below_alloc w (.cells #[.int .u8 k, .int .i8 at1, sv t, .slice ba bl.length bc] 35)
  have rO : Row (w.alloc (.cells #[.int .u8 k, .int .i8 at1, sv t, .slice ba bl.length bc] 35)) w.heap.size 35 [.int .u8 k, .int .i8 at1, sv t, .slice ba bl.length bc] := heap_alloc_new _ _
  have hOG : ¬ (G w.heap.size ∨ w.heap.size = n) := fun hh => Nat.lt_irrefl _ (hC.lt _ hh)
  generalize w.alloc (.cells #[.int .u8 k, .int .i8 at1, sv t, .slice ba bl.length bc] 35) = w0 at *
  have h := h.below hb0
  have hC := hC.mono hb0
  have xOn : w.heap.size ≠ n := fun e => hOG (.inr e)
  have xOG : ¬ G w.heap.size := fun e => hOG (.inl e)
  clear hOG
  obtain ⟨o0, o1, o2, o3⟩ := Row4 rO
  go_wp2_with fail
  (with_reducible refine (Write_write at1 t h.disk (by omega)).mono ?_)
  rintro e w1 ⟨rfl, hD1, hk1⟩
  have hKw1 : Kept (fun b => G b ∨ b = n) w w1 := (Kept.of_below hb0).trans (hk1.wider (fun b hb => Or.inl hb))
  have hC1 := hC.kept (hk1.wider (fun b hb => Or.inl hb) : Kept (fun b => G b ∨ b = n) _ _)
  have rO := rO.mono hk1 xOG
  obtain ⟨b1, m1, b2, m2, b3, m3, rN, RD⟩ := (h.box.kept hk1 hng (fun b hb => Or.inl hb)).ex
  have RD := Lib.hid RD
  clear h hk1 hC hb0 o0 o1 o2 o3
  have hCt := fun (W : World) (G' : Nat → Prop) (hG' : ∀ b, G' b → b < W.heap.size) (hR : RefD W G' S b1 b2 b3 d) => rWrite_write (c1 := m1) (c2 := m2) (c3 := m3) at1 t hG' hR (by omega)
  generalize hd2 : (d.write at1 t).1 = d2 at *
  generalize hc2 : (d.write at1 t).2 = c2 at *
  clear hd2 hc2
  go_upto_region 26 with fail
  refine wp_region_news (wx := w1) (fun b => G b ∨ b = n) [(fun _ X _ => X 0 = .pointer (some ⟨n, 0, none⟩)), (fun _ X _ => X 1 = .pointer (some ⟨n, 0, none⟩)), (fun _ X _ => X 2 = .agg #[.slice b1 S m1, .slice b2 S m2, .slice b3 S m3]), (fun _ X _ => X 3 = .pointer (some ⟨w.heap.size, 1, none⟩)), (fun _ X _ => X 4 = .int .i8 at1), (fun _ X _ => X 5 = .int .i64 at1), (fun _ X _ => X 6 = .pointer (some ⟨w.heap.size, 2, none⟩)), (fun _ X _ => X 7 = sv t), (fun G X W => ((fun G W v => ∃ vv, v = .tuple #[vv, .int .i64 (c2 : Nat)] ∧ RefV W G S vv (d2)) : (Nat → Prop) → World → Value → Prop) G W (X 8)), (fun G X W => ((fun G W v => ∃ vv, v = .tuple #[vv, .int .i64 (c2 : Nat)] ∧ RefV W G S vv (d2)) : (Nat → Prop) → World → Value → Prop) G W (X 9)), (fun G X W => ((fun G W v => RefV W G S v (d2)) : (Nat → Prop) → World → Value → Prop) G W (X 10)), (fun _ X _ => X 11 = .int .i64 (c2 : Nat)), (fun _ _ _ => True), (fun _ _ _ => True), (fun _ X _ => X 14 = .int .i64 (c2 : Nat))] [some 158, some 159, some 160, some 161, some 162, some 163, some 164, some 165, some 166, some 157, some 167, some 168, some 20, none, some 21] [none, none, none, none, none, none, none, none, none, none, none, none, some ⟨13, 10, 28, [.slice none 0 0, .slice none 0 0, .slice none 0 0]⟩, none, none] [158, 159, 160, 161, 162, 163, 164, 165, 166, 157, 167, 168, 20, 21] (by kernel_rfl) (by kernel_rfl) (by kernel_rfl) (by kernel_rfl) (of_decide_eq_true (by kernel_rfl)) (by kernel_rfl) hC1.lt (Below.refl _ _) ⟨adj_val _ _ _, adj_val _ _ _, adj_val _ _ _, adj_val _ _ _, adj_val _ _ _, adj_val _ _ _, adj_val _ _ _, adj_val _ _ _, (adj_own' (F := fun G W v => ∃ vv, v = .tuple #[vv, .int .i64 (c2 : Nat)] ∧ RefV W G S vv (d2)) (fun G G' W W' v h hk hg => by obtain ⟨vv, e, x1, y1, x2, y2, x3, y3, e2, hr⟩ := h; exact ⟨vv, e, x1, y1, x2, y2, x3, y3, e2, hr.adj hk hg⟩)), (adj_own' (F := fun G W v => ∃ vv, v = .tuple #[vv, .int .i64 (c2 : Nat)] ∧ RefV W G S vv (d2)) (fun G G' W W' v h hk hg => by obtain ⟨vv, e, x1, y1, x2, y2, x3, y3, e2, hr⟩ := h; exact ⟨vv, e, x1, y1, x2, y2, x3, y3, e2, hr.adj hk hg⟩)), (adj_own' (F := fun G W v => RefV W G S v (d2)) (fun G G' W W' v h hk hg => by obtain ⟨x1, y1, x2, y2, x3, y3, e2, hr⟩ := h; exact ⟨x1, y1, x2, y2, x3, y3, e2, hr.adj hk hg⟩)), adj_val _ _ _, adj_true _, adj_true _, adj_val _ _ _, trivial⟩ ⟨⟨fun _ _ _ => trivial, fun _ _ _ => trivial⟩, trivial⟩ ⟨?s0, ?s1, ?s2, ?s3, ?s4, ?s5, ?s6, ?s7, ?s8, ?s9, ?s10, ?s11, ?s12, ?s13, ?s14, trivial⟩ ⟨?b12, trivial⟩ ?he
  case s0 =>
    rintro - G T W hb hHG hGW hGo hA K hK
    simp only [ovr, Act.put, List.setIfInBounds_toArray, List.set_cons_zero, List.set_cons_succ] at hK ⊢
    have HK := Lib.hid hK
    clear hK hA
    refine wpOp_want rfl (by rfl) ?_
    go_simp
    exact HK.out _ _ (Below.refl _ _) fun X hX _ => hX
  case s1 =>
    rintro - G T W hb hHG hGW hGo hA K hK
    have e0 : T 158 = .pointer (some ⟨n, 0, none⟩) := hA.1
    simp only [ovr, Act.put, List.setIfInBounds_toArray, List.set_cons_zero, List.set_cons_succ, e0] at hK ⊢
    have HK := Lib.hid hK
    clear hK hA
    refine wpOp_want rfl (by rfl) ?_
    go_simp
    exact HK.out _ _ (Below.refl _ _) fun X hX _ => hX
  case s2 =>
    rintro - G T W hb hHG hGW hGo hA K hK
    have e1 : T 159 = .pointer (some ⟨n, 0, none⟩) := hA.1
    obtain ⟨z0, z1, z2, _, _, _⟩ := Row3 (rN.below hb)
    simp only [ovr, Act.put, List.setIfInBounds_toArray, List.set_cons_zero, List.set_cons_succ, e1] at hK ⊢
    have HK := Lib.hid hK
    clear hK hA
    refine wpOp_want rfl (by rfl) ?_
    go_simp
    exact HK.out _ _ (Below.refl _ _) fun X hX _ => hX
  case s3 =>
    rintro - G T W hb hHG hGW hGo hA K hK
    simp only [ovr, Act.put, List.setIfInBounds_toArray, List.set_cons_zero, List.set_cons_succ] at hK ⊢
    have HK := Lib.hid hK
    clear hK hA
    refine wpOp_want rfl (by rfl) ?_
    go_simp
    exact HK.out _ _ (Below.refl _ _) fun X hX _ => hX
  case s4 =>
    rintro - G T W hb hHG hGW hGo hA K hK
    have e3 : T 161 = .pointer (some ⟨w.heap.size, 1, none⟩) := hA.1
    obtain ⟨z0, z1, z2, z3⟩ := Row4 (rO.below hb)
    simp only [ovr, Act.put, List.setIfInBounds_toArray, List.set_cons_zero, List.set_cons_succ, e3] at hK ⊢
    have HK := Lib.hid hK
    clear hK hA
    refine wpOp_want rfl (by rfl) ?_
    go_simp
    exact HK.out _ _ (Below.refl _ _) fun X hX _ => hX
  case s5 =>
    rintro - G T W hb hHG hGW hGo hA K hK
    have e4 : T 162 = .int .i8 at1 := hA.1
    simp only [ovr, Act.put, List.setIfInBounds_toArray, List.set_cons_zero, List.set_cons_succ, e4] at hK ⊢
    have HK := Lib.hid hK
    clear hK hA
    refine wpOp_want rfl (by rfl) ?_
    go_simp
    exact HK.out _ _ (Below.refl _ _) fun X hX _ => hX.trans (congrArg (Value.int .i64) HWR.out)
  case s6 =>
    rintro - G T W hb hHG hGW hGo hA K hK
    simp only [ovr, Act.put, List.setIfInBounds_toArray, List.set_cons_zero, List.set_cons_succ] at hK ⊢
    have HK := Lib.hid hK
    clear hK hA
    refine wpOp_want rfl (by rfl) ?_
    go_simp
    exact HK.out _ _ (Below.refl _ _) fun X hX _ => hX
  case s7 =>
    rintro - G T W hb hHG hGW hGo hA K hK
    have e6 : T 164 = .pointer (some ⟨w.heap.size, 2, none⟩) := hA.1
    obtain ⟨z0, z1, z2, z3⟩ := Row4 (rO.below hb)
    simp only [ovr, Act.put, List.setIfInBounds_toArray, List.set_cons_zero, List.set_cons_succ, e6] at hK ⊢
    have HK := Lib.hid hK
    clear hK hA
    refine wpOp_want rfl (by rfl) ?_
    go_simp
    exact HK.out _ _ (Below.refl _ _) fun X hX _ => hX
  case s8 =>
    rintro - G T W hb hHG hGW hGo hA K hK
    have e2 : T 160 = .agg #[.slice b1 S m1, .slice b2 S m2, .slice b3 S m3] := hA.1
    have e5 : T 163 = .int .i64 at1 := hA.2.1
    have e7 : T 165 = sv t := hA.2.2.1
    simp only [ovr, Act.put, List.setIfInBounds_toArray, List.set_cons_zero, List.set_cons_succ, e2, e5, e7] at hK ⊢
    have HK := Lib.hid hK
    clear hK hA
    refine wpOp_want rfl (by rfl) ?_
    go_simp
    (with_reducible refine (hCt W G hGW (RD.out.lift hb hGo)).mono ?_)
    rintro e w1 ⟨⟨vv, rfl, hv⟩, hb1⟩
    try dsimp only
    exact HK.out _ _ (hb1) fun X hX _ => by
      show ((fun G W v => ∃ vv, v = .tuple #[vv, .int .i64 (c2 : Nat)] ∧ RefV W G S vv (d2)) : (Nat → Prop) → World → Value → Prop) _ _ (X 8)
      rw [hX]
      exact ⟨_, rfl, hv⟩
  case s9 =>
    rintro - G T W hb hHG hGW hGo hA K hK
    have r8 : ((fun G W v => ∃ vv, v = .tuple #[vv, .int .i64 (c2 : Nat)] ∧ RefV W G S vv (d2)) : (Nat → Prop) → World → Value → Prop) G W (T 166) := hA.1
    obtain ⟨vv, e8, hv⟩ := r8
    have e8 : T 166 = .tuple #[vv, .int .i64 (c2 : Nat)] := e8
    simp only [ovr, Act.put, List.setIfInBounds_toArray, List.set_cons_zero, List.set_cons_succ, e8] at hK ⊢
    have HK := Lib.hid hK
    clear hK hA
    refine wpOp_want rfl (by rfl) ?_
    go_simp
    exact HK.out _ _ (Below.refl _ _) fun X hX _ => by
      show ((fun G W v => ∃ vv, v = .tuple #[vv, .int .i64 (c2 : Nat)] ∧ RefV W G S vv (d2)) : (Nat → Prop) → World → Value → Prop) _ _ (X 9)
      rw [hX]
      exact ⟨_, rfl, hv⟩
  case s10 =>
    rintro - G T W hb hHG hGW hGo hA K hK
    have r9 : ((fun G W v => ∃ vv, v = .tuple #[vv, .int .i64 (c2 : Nat)] ∧ RefV W G S vv (d2)) : (Nat → Prop) → World → Value → Prop) G W (T 157) := hA.1
    obtain ⟨vv, e9, hv⟩ := r9
    have e9 : T 157 = .tuple #[vv, .int .i64 (c2 : Nat)] := e9
    simp only [ovr, Act.put, List.setIfInBounds_toArray, List.set_cons_zero, List.set_cons_succ, e9] at hK ⊢
    have HK := Lib.hid hK
    clear hK hA
    refine wpOp_want rfl (by rfl) ?_
    go_simp
    exact HK.out _ _ (Below.refl _ _) fun X hX _ => by
      show ((fun G W v => RefV W G S v (d2)) : (Nat → Prop) → World → Value → Prop) _ _ (X 10)
      rw [hX]
      exact hv
  case s11 =>
    rintro - G T W hb hHG hGW hGo hA K hK
    have r9 : ((fun G W v => ∃ vv, v = .tuple #[vv, .int .i64 (c2 : Nat)] ∧ RefV W G S vv (d2)) : (Nat → Prop) → World → Value → Prop) G W (T 157) := hA.1
    obtain ⟨vv, e9, hv⟩ := r9
    have e9 : T 157 = .tuple #[vv, .int .i64 (c2 : Nat)] := e9
    simp only [ovr, Act.put, List.setIfInBounds_toArray, List.set_cons_zero, List.set_cons_succ, e9] at hK ⊢
    have HK := Lib.hid hK
    clear hK hA
    refine wpOp_want rfl (by rfl) ?_
    go_simp
    exact HK.out _ _ (Below.refl _ _) fun X hX _ => hX
  case s12 => exact fun h => absurd h (by decide)
  case s13 => exact fun h => absurd h (by decide)
  case s14 =>
    rintro - G T W hb hHG hGW hGo hA K hK
    have e11 : T 168 = .int .i64 (c2 : Nat) := hA.1
    have e0 : T 158 = .pointer (some ⟨n, 0, none⟩) := hA.2.2.1
    have e1 : T 159 = .pointer (some ⟨n, 0, none⟩) := hA.2.2.2.1
    have e2 : T 160 = .agg #[.slice b1 S m1, .slice b2 S m2, .slice b3 S m3] := hA.2.2.2.2.1
    have e3 : T 161 = .pointer (some ⟨w.heap.size, 1, none⟩) := hA.2.2.2.2.2.1
    have e4 : T 162 = .int .i8 at1 := hA.2.2.2.2.2.2.1
    have e5 : T 163 = .int .i64 at1 := hA.2.2.2.2.2.2.2.1
    have e6 : T 164 = .pointer (some ⟨w.heap.size, 2, none⟩) := hA.2.2.2.2.2.2.2.2.1
    have e7 : T 165 = sv t := hA.2.2.2.2.2.2.2.2.2.1
    have r8 : ((fun G W v => ∃ vv, v = .tuple #[vv, .int .i64 (c2 : Nat)] ∧ RefV W G S vv (d2)) : (Nat → Prop) → World → Value → Prop) G W (T 166) := hA.2.2.2.2.2.2.2.2.2.2.1
    have r9 : ((fun G W v => ∃ vv, v = .tuple #[vv, .int .i64 (c2 : Nat)] ∧ RefV W G S vv (d2)) : (Nat → Prop) → World → Value → Prop) G W (T 157) := hA.2.2.2.2.2.2.2.2.2.2.2.1
    have r10 : ((fun G W v => RefV W G S v (d2)) : (Nat → Prop) → World → Value → Prop) G W (T 167) := hA.2.2.2.2.2.2.2.2.2.2.2.2.1
    simp only [ovr, Act.put, List.setIfInBounds_toArray, List.set_cons_zero, List.set_cons_succ, e11, e0, e1, e2, e3, e4, e5, e6, e7] at hK ⊢
    have HK := Lib.hid hK
    clear hK hA
    refine wpOp_want rfl (by rfl) ?_
    go_simp
    exact HK.out _ _ (Below.refl _ _) fun X hX _ => hX
  case b12 =>
    refine ⟨?_, ?_⟩
    · rintro o ho T W K hK
      obtain rfl := Option.some.inj ho
      simp only [ovr, Act.put, List.setIfInBounds_toArray, List.set_cons_zero, List.set_cons_succ] at hK ⊢
      have HK := Lib.hid hK
      clear hK ho
      refine wpOp_want rfl (by rfl) ?_
      go_simp
      exact HK.out
    · rintro o ho G T W nb hA hp hrow K hK
      obtain rfl := Option.some.inj ho
      have ep : T 20 = .pointer (some ⟨nb, 0, none⟩) := hp
      have r10 : ((fun G W v => RefV W G S v (d2)) : (Nat → Prop) → World → Value → Prop) G W (T 167) := hA.2.1
      have r8 : ((fun G W v => ∃ vv, v = .tuple #[vv, .int .i64 (c2 : Nat)] ∧ RefV W G S vv (d2)) : (Nat → Prop) → World → Value → Prop) G W (T 166) := hA.2.2.1
      have e0 : T 158 = .pointer (some ⟨n, 0, none⟩) := hA.2.2.2.1
      have e1 : T 159 = .pointer (some ⟨n, 0, none⟩) := hA.2.2.2.2.1
      have e2 : T 160 = .agg #[.slice b1 S m1, .slice b2 S m2, .slice b3 S m3] := hA.2.2.2.2.2.1
      have e3 : T 161 = .pointer (some ⟨w.heap.size, 1, none⟩) := hA.2.2.2.2.2.2.1
      have e4 : T 162 = .int .i8 at1 := hA.2.2.2.2.2.2.2.1
      have e5 : T 163 = .int .i64 at1 := hA.2.2.2.2.2.2.2.2.1
      have e6 : T 164 = .pointer (some ⟨w.heap.size, 2, none⟩) := hA.2.2.2.2.2.2.2.2.2.1
      have e7 : T 165 = sv t := hA.2.2.2.2.2.2.2.2.2.2.1
      have r9 : ((fun G W v => ∃ vv, v = .tuple #[vv, .int .i64 (c2 : Nat)] ∧ RefV W G S vv (d2)) : (Nat → Prop) → World → Value → Prop) G W (T 157) := hA.2.2.2.2.2.2.2.2.2.2.2.2.1
      obtain ⟨x1, y1, x2, y2, x3, y3, ev, hr⟩ := r10
      have ev : T 167 = .agg #[.slice x1 S y1, .slice x2 S y2, .slice x3 S y3] := ev
      have hK := hK [.slice x1 S y1, .slice x2 S y2, .slice x3 S y3] ev rfl
      simp only [ovr, List.setIfInBounds_toArray, List.set_cons_zero, List.set_cons_succ, ep, e0, e1, e2, e3, e4, e5, e6, e7, ev] at hK ⊢
      have HK := Lib.hid hK
      clear hK hA ho
      have q0 := hrow.cell (k := 0) (by simp)
      have f0 := hrow.free 0
      have q1 := hrow.cell (k := 1) (by simp)
      have f1 := hrow.free 1
      have q2 := hrow.cell (k := 2) (by simp)
      have f2 := hrow.free 2
      simp only [List.getElem_cons_zero, List.getElem_cons_succ] at q0 q1 q2
      refine wpOp_want rfl (by rfl) ?_
      go_simp
      exact HK.out
  case he =>
    rintro GG N T W hb hHG hGW hGo hbox hne hA
    have g14 : T 21 = .int .i64 (c2 : Nat) := hA.at 14 (by decide)
    have rr : ((fun G W v => RefV W G S v (d2)) : (Nat → Prop) → World → Value → Prop) GG W (T 167) := hA.at 10 (by decide)
    obtain ⟨pX, hGn, hnn, vs, evs, hrow⟩ := hbox 12 _ rfl
    have pX : T 20 = .pointer (some ⟨N 12, 0, none⟩) := pX
    generalize N 12 = mb at *
    obtain ⟨x1, y1, x2, y2, x3, y3, ev, hr⟩ := rr
    have hvs : vs = [.slice x1 S y1, .slice x2 S y2, .slice x3 S y3] := by
      have h1 : Value.agg vs.toArray = .agg #[.slice x1 S y1, .slice x2 S y2, .slice x3 S y3] := evs.symm.trans ev
      have h2 := congrArg Array.toList (Value.agg.inj h1)
      simpa using h2
    subst hvs
    simp only [ovr, List.setIfInBounds_toArray, List.set_cons_zero, List.set_cons_succ, pX, g14]
    have xmn : mb ≠ n := fun e => by have := hC1.lt n (.inr rfl); omega
    have rN := rN.below hb
    have HP := put3_kept W n (.slice x1 S y1) (.slice x2 S y2) (.slice x3 S y3)
    have HF := Lib.hid ((hr.kept (HP.wider (fun b e => hHG b (.inr e)))).narrow' hHG)
    have HDk := Lib.hid ((hD1.mono hb).keptN HP hnp hng)
    have HBX := Lib.hid (rN.put3 (.slice x1 S y1) (.slice x2 S y2) (.slice x3 S y3))
    have HKK := Lib.hid ((hKw1.trans (Kept.of_below hb)).trans (HP.wider (fun b e => Or.inr e) : Kept (fun b => G b ∨ b = n) _ _))
    obtain ⟨z0, z1, z2, _, _, _⟩ := Row3 hrow
    obtain ⟨q0, q1, q2, f0, f1, f2⟩ := Row3 rN
    unfold put3 at HF HDk HKK
    clear hA hbox hne evs ev hr HP hHG hGW hGo hb pX g14 hGn hnn
    go_wp2
    go_ret
    exact ⟨rfl, ⟨_, HDk.out, ⟨_, _, _, _, _, _, HBX.out, HF.out⟩, hng, hnp⟩, HKK.out⟩

set_option maxRecDepth 100000 in
set_option maxHeartbeats 6400000 in
theorem do_append {ba : Option Addr} {bl : List Nat} {bc : Nat} (k : Nat) (at1 : Int) (t : Wl.Bs) (h : St w G p n S d) (hC : Cx w (fun b => G b ∨ b = n)) (hk2 : k < 256) (hat : -128 ≤ at1 ∧ at1 ≤ 127) (ht : t.length ≤ 500) (hbl : bl.length ≤ 140737488355328) (hbr : RG w (fun b => G b ∨ b = n) ba (uvs bl)) (hkd : k % 7 = 0 ∨ k % 7 = 1) :
    Calls Tryz.prog 9 #[.pointer (some ⟨p, 0, none⟩), .pointer (some ⟨n, 0, none⟩), .agg #[.int .u8 k, .int .i8 at1, sv t, .slice ba bl.length bc]] w fun e w' => e = .returned (.bool true) ∧ (∃ d', St w' G p n S d') ∧ Kept (fun b => G b ∨ b = n) w w' := by
  have u1 := hk2
  have u2 := hat
  have u3 := ht
  have u4 := hbl
  have u5 := hbr
  clear u1 u2 u3 u4 u5
  have hS := h.disk.S_le
  have hng := h.ng
  have hnp := h.np
  have hwr : IntKind.i64.wrap at1 = at1 := by unfold IntKind.wrap; simp [IntKind.bits, IntKind.signed]; omega
  have HWR := Lib.hid hwr
  clear hwr
  have t2q : (((k : Int) % 7) == 2) = false := by simp; omega
  have t3q : (((k : Int) % 7) == 3) = false := by simp; omega
  have t4q : (((k : Int) % 7) == 4) = false := by simp; omega
  have t5q : (((k : Int) % 7) == 5) = false := by simp; omega
  have t6q : (((k : Int) % 7) == 6) = false := by simp; omega
  clear hkd
  go_enter Tryz.func9, Tryz.ntmps9
  go_upto_region 1 with fail
  have hb0 := below_alloc w (.cells #[.int .u8 k, .int .i8 at1, sv t, .slice ba bl.length bc] 35)
  have rO : Row (w.alloc (.cells #[.int .u8 k, .int .i8 at1, sv t, .slice ba bl.length bc] 35)) w.heap.size 35 [.int .u8 k, .int .i8 at1, sv t, .slice ba bl.length bc] := heap_alloc_new _ _
  have hOG : ¬ (G w.heap.size ∨ w.heap.size = n) := fun hh => Nat.lt_irrefl _ (hC.lt _ hh)
  generalize w.alloc (.cells #[.int .u8 k, .int .i8 at1, sv t, .slice ba bl.length bc] 35) = w0 at *
  have h := h.below hb0
  have hC := hC.mono hb0
  have xOn : w.heap.size ≠ n := fun e => hOG (.inr e)
  have xOG : ¬ G w.heap.size := fun e => hOG (.inl e)
  clear hOG
  obtain ⟨o0, o1, o2, o3⟩ := Row4 rO
  go_wp2_with fail
  (with_reducible refine (Append_app t h.disk hC.env (by omega)).mono ?_)
  rintro e w1 ⟨rfl, hD1, hk1⟩
  have hKw1 : Kept (fun b => G b ∨ b = n) w w1 := (Kept.of_below hb0).trans (hk1.wider (fun b hb => Or.inl hb))
  have hC1 := hC.kept (hk1.wider (fun b hb => Or.inl hb) : Kept (fun b => G b ∨ b = n) _ _)
  have rO := rO.mono hk1 xOG
  obtain ⟨b1, m1, b2, m2, b3, m3, rN, RD⟩ := (h.box.kept hk1 hng (fun b hb => Or.inl hb)).ex
  have RD := Lib.hid RD
  clear h hk1 hC hb0 o0 o1 o2 o3
  have hCt := fun (W : World) (G' : Nat → Prop) (hG' : ∀ b, G' b → b < W.heap.size) (hR : RefD W G' S b1 b2 b3 d) (hE : Env W) => rAppend_app (c1 := m1) (c2 := m2) (c3 := m3) t hG' hR hE (by omega)
  generalize hd2 : (d.app t).1 = d2 at *
  generalize hn2 : (d.app t).2.1 = n2 at *
  generalize hc2 : (d.app t).2.2 = c2 at *
  clear hd2 hn2 hc2
  go_upto_region 3 with fail
  refine wp_region_news (wx := w1) (fun b => G b ∨ b = n) [(fun _ X _ => X 0 = .pointer (some ⟨n, 0, none⟩)), (fun _ X _ => X 1 = .pointer (some ⟨n, 0, none⟩)), (fun _ X _ => X 2 = .agg #[.slice b1 S m1, .slice b2 S m2, .slice b3 S m3]), (fun _ X _ => X 3 = .pointer (some ⟨w.heap.size, 2, none⟩)), (fun _ X _ => X 4 = sv t), (fun G X W => ((fun G W v => ∃ vv, v = .tuple #[vv, .int .i64 (n2 : Nat), .int .i64 (c2 : Nat)] ∧ RefV W G S vv (d2)) : (Nat → Prop) → World → Value → Prop) G W (X 5)), (fun G X W => ((fun G W v => ∃ vv, v = .tuple #[vv, .int .i64 (n2 : Nat), .int .i64 (c2 : Nat)] ∧ RefV W G S vv (d2)) : (Nat → Prop) → World → Value → Prop) G W (X 6)), (fun G X W => ((fun G W v => RefV W G S v (d2)) : (Nat → Prop) → World → Value → Prop) G W (X 7)), (fun _ X _ => X 8 = .int .i64 (n2 : Nat)), (fun _ X _ => X 9 = .int .i64 (c2 : Nat)), (fun _ _ _ => True), (fun _ _ _ => True), (fun _ X _ => X 12 = .int .i64 (n2 : Nat)), (fun _ X _ => X 13 = .int .i64 (c2 : Nat))] [some 38, some 39, some 40, some 41, some 42, some 43, some 37, some 44, some 45, some 46, some 24, none, some 25, some 26] [none, none, none, none, none, none, none, none, none, none, some ⟨11, 7, 28, [.slice none 0 0, .slice none 0 0, .slice none 0 0]⟩, none, none, none] [38, 39, 40, 41, 42, 43, 37, 44, 45, 46, 24, 25, 26] (by kernel_rfl) (by kernel_rfl) (by kernel_rfl) (by kernel_rfl) (of_decide_eq_true (by kernel_rfl)) (by kernel_rfl) hC1.lt (Below.refl _ _) ⟨adj_val _ _ _, adj_val _ _ _, adj_val _ _ _, adj_val _ _ _, adj_val _ _ _, (adj_own' (F := fun G W v => ∃ vv, v = .tuple #[vv, .int .i64 (n2 : Nat), .int .i64 (c2 : Nat)] ∧ RefV W G S vv (d2)) (fun G G' W W' v h hk hg => by obtain ⟨vv, e, x1, y1, x2, y2, x3, y3, e2, hr⟩ := h; exact ⟨vv, e, x1, y1, x2, y2, x3, y3, e2, hr.adj hk hg⟩)), (adj_own' (F := fun G W v => ∃ vv, v = .tuple #[vv, .int .i64 (n2 : Nat), .int .i64 (c2 : Nat)] ∧ RefV W G S vv (d2)) (fun G G' W W' v h hk hg => by obtain ⟨vv, e, x1, y1, x2, y2, x3, y3, e2, hr⟩ := h; exact ⟨vv, e, x1, y1, x2, y2, x3, y3, e2, hr.adj hk hg⟩)), (adj_own' (F := fun G W v => RefV W G S v (d2)) (fun G G' W W' v h hk hg => by obtain ⟨x1, y1, x2, y2, x3, y3, e2, hr⟩ := h; exact ⟨x1, y1, x2, y2, x3, y3, e2, hr.adj hk hg⟩)), adj_val _ _ _, adj_val _ _ _, adj_true _, adj_true _, adj_val _ _ _, adj_val _ _ _, trivial⟩ ⟨⟨fun _ _ _ => trivial, fun _ _ _ => trivial⟩, trivial⟩ ⟨?s0, ?s1, ?s2, ?s3, ?s4, ?s5, ?s6, ?s7, ?s8, ?s9, ?s10, ?s11, ?s12, ?s13, trivial⟩ ⟨?b10, trivial⟩ ?he
  case s0 =>
    rintro - G T W hb hHG hGW hGo hA K hK
    simp only [ovr, Act.put, List.setIfInBounds_toArray, List.set_cons_zero, List.set_cons_succ] at hK ⊢
    have HK := Lib.hid hK
    clear hK hA
    refine wpOp_want rfl (by rfl) ?_
    go_simp
    exact HK.out _ _ (Below.refl _ _) fun X hX _ => hX
  case s1 =>
    rintro - G T W hb hHG hGW hGo hA K hK
    have e0 : T 38 = .pointer (some ⟨n, 0, none⟩) := hA.1
    simp only [ovr, Act.put, List.setIfInBounds_toArray, List.set_cons_zero, List.set_cons_succ, e0] at hK ⊢
    have HK := Lib.hid hK
    clear hK hA
    refine wpOp_want rfl (by rfl) ?_
    go_simp
    exact HK.out _ _ (Below.refl _ _) fun X hX _ => hX
  case s2 =>
    rintro - G T W hb hHG hGW hGo hA K hK
    have e1 : T 39 = .pointer (some ⟨n, 0, none⟩) := hA.1
    obtain ⟨z0, z1, z2, _, _, _⟩ := Row3 (rN.below hb)
    simp only [ovr, Act.put, List.setIfInBounds_toArray, List.set_cons_zero, List.set_cons_succ, e1] at hK ⊢
    have HK := Lib.hid hK
    clear hK hA
    refine wpOp_want rfl (by rfl) ?_
    go_simp
    exact HK.out _ _ (Below.refl _ _) fun X hX _ => hX
  case s3 =>
    rintro - G T W hb hHG hGW hGo hA K hK
    simp only [ovr, Act.put, List.setIfInBounds_toArray, List.set_cons_zero, List.set_cons_succ] at hK ⊢
    have HK := Lib.hid hK
    clear hK hA
    refine wpOp_want rfl (by rfl) ?_
    go_simp
    exact HK.out _ _ (Below.refl _ _) fun X hX _ => hX
  case s4 =>
    rintro - G T W hb hHG hGW hGo hA K hK
    have e3 : T 41 = .pointer (some ⟨w.heap.size, 2, none⟩) := hA.1
    obtain ⟨z0, z1, z2, z3⟩ := Row4 (rO.below hb)
    simp only [ovr, Act.put, List.setIfInBounds_toArray, List.set_cons_zero, List.set_cons_succ, e3] at hK ⊢
    have HK := Lib.hid hK
    clear hK hA
    refine wpOp_want rfl (by rfl) ?_
    go_simp
    exact HK.out _ _ (Below.refl _ _) fun X hX _ => hX
  case s5 =>
    rintro - G T W hb hHG hGW hGo hA K hK
    have e2 : T 40 = .agg #[.slice b1 S m1, .slice b2 S m2, .slice b3 S m3] := hA.1
    have e4 : T 42 = sv t := hA.2.1
    simp only [ovr, Act.put, List.setIfInBounds_toArray, List.set_cons_zero, List.set_cons_succ, e2, e4] at hK ⊢
    have HK := Lib.hid hK
    clear hK hA
    refine wpOp_want rfl (by rfl) ?_
    go_simp
    (with_reducible refine (hCt W G hGW (RD.out.lift hb hGo) (hC1.env.mono hb)).mono ?_)
    rintro e w1 ⟨⟨vv, rfl, hv⟩, hb1⟩
    try dsimp only
    exact HK.out _ _ (hb1) fun X hX _ => by
      show ((fun G W v => ∃ vv, v = .tuple #[vv, .int .i64 (n2 : Nat), .int .i64 (c2 : Nat)] ∧ RefV W G S vv (d2)) : (Nat → Prop) → World → Value → Prop) _ _ (X 5)
      rw [hX]
      exact ⟨_, rfl, hv⟩
  case s6 =>
    rintro - G T W hb hHG hGW hGo hA K hK
    have r5 : ((fun G W v => ∃ vv, v = .tuple #[vv, .int .i64 (n2 : Nat), .int .i64 (c2 : Nat)] ∧ RefV W G S vv (d2)) : (Nat → Prop) → World → Value → Prop) G W (T 43) := hA.1
    obtain ⟨vv, e5, hv⟩ := r5
    have e5 : T 43 = .tuple #[vv, .int .i64 (n2 : Nat), .int .i64 (c2 : Nat)] := e5
    simp only [ovr, Act.put, List.setIfInBounds_toArray, List.set_cons_zero, List.set_cons_succ, e5] at hK ⊢
    have HK := Lib.hid hK
    clear hK hA
    refine wpOp_want rfl (by rfl) ?_
    go_simp
    exact HK.out _ _ (Below.refl _ _) fun X hX _ => by
      show ((fun G W v => ∃ vv, v = .tuple #[vv, .int .i64 (n2 : Nat), .int .i64 (c2 : Nat)] ∧ RefV W G S vv (d2)) : (Nat → Prop) → World → Value → Prop) _ _ (X 6)
      rw [hX]
      exact ⟨_, rfl, hv⟩
  case s7 =>
    rintro - G T W hb hHG hGW hGo hA K hK
    have r6 : ((fun G W v => ∃ vv, v = .tuple #[vv, .int .i64 (n2 : Nat), .int .i64 (c2 : Nat)] ∧ RefV W G S vv (d2)) : (Nat → Prop) → World → Value → Prop) G W (T 37) := hA.1
    obtain ⟨vv, e6, hv⟩ := r6
    have e6 : T 37 = .tuple #[vv, .int .i64 (n2 : Nat), .int .i64 (c2 : Nat)] := e6
    simp only [ovr, Act.put, List.setIfInBounds_toArray, List.set_cons_zero, List.set_cons_succ, e6] at hK ⊢
    have HK := Lib.hid hK
    clear hK hA
    refine wpOp_want rfl (by rfl) ?_
    go_simp
    exact HK.out _ _ (Below.refl _ _) fun X hX _ => by
      show ((fun G W v => RefV W G S v (d2)) : (Nat → Prop) → World → Value → Prop) _ _ (X 7)
      rw [hX]
      exact hv
  case s8 =>
    rintro - G T W hb hHG hGW hGo hA K hK
    have r6 : ((fun G W v => ∃ vv, v = .tuple #[vv, .int .i64 (n2 : Nat), .int .i64 (c2 : Nat)] ∧ RefV W G S vv (d2)) : (Nat → Prop) → World → Value → Prop) G W (T 37) := hA.1
    obtain ⟨vv, e6, hv⟩ := r6
    have e6 : T 37 = .tuple #[vv, .int .i64 (n2 : Nat), .int .i64 (c2 : Nat)] := e6
    simp only [ovr, Act.put, List.setIfInBounds_toArray, List.set_cons_zero, List.set_cons_succ, e6] at hK ⊢
    have HK := Lib.hid hK
    clear hK hA
    refine wpOp_want rfl (by rfl) ?_
    go_simp
    exact HK.out _ _ (Below.refl _ _) fun X hX _ => hX
  case s9 =>
    rintro - G T W hb hHG hGW hGo hA K hK
    have r6 : ((fun G W v => ∃ vv, v = .tuple #[vv, .int .i64 (n2 : Nat), .int .i64 (c2 : Nat)] ∧ RefV W G S vv (d2)) : (Nat → Prop) → World → Value → Prop) G W (T 37) := hA.1
    obtain ⟨vv, e6, hv⟩ := r6
    have e6 : T 37 = .tuple #[vv, .int .i64 (n2 : Nat), .int .i64 (c2 : Nat)] := e6
    simp only [ovr, Act.put, List.setIfInBounds_toArray, List.set_cons_zero, List.set_cons_succ, e6] at hK ⊢
    have HK := Lib.hid hK
    clear hK hA
    refine wpOp_want rfl (by rfl) ?_
    go_simp
    exact HK.out _ _ (Below.refl _ _) fun X hX _ => hX
  case s10 => exact fun h => absurd h (by decide)
  case s11 => exact fun h => absurd h (by decide)
  case s12 =>
    rintro - G T W hb hHG hGW hGo hA K hK
    have e8 : T 45 = .int .i64 (n2 : Nat) := hA.1
    have e0 : T 38 = .pointer (some ⟨n, 0, none⟩) := hA.2.2.1
    have e1 : T 39 = .pointer (some ⟨n, 0, none⟩) := hA.2.2.2.1
    have e2 : T 40 = .agg #[.slice b1 S m1, .slice b2 S m2, .slice b3 S m3] := hA.2.2.2.2.1
    have e3 : T 41 = .pointer (some ⟨w.heap.size, 2, none⟩) := hA.2.2.2.2.2.1
    have e4 : T 42 = sv t := hA.2.2.2.2.2.2.1
    have r5 : ((fun G W v => ∃ vv, v = .tuple #[vv, .int .i64 (n2 : Nat), .int .i64 (c2 : Nat)] ∧ RefV W G S vv (d2)) : (Nat → Prop) → World → Value → Prop) G W (T 43) := hA.2.2.2.2.2.2.2.1
    have r6 : ((fun G W v => ∃ vv, v = .tuple #[vv, .int .i64 (n2 : Nat), .int .i64 (c2 : Nat)] ∧ RefV W G S vv (d2)) : (Nat → Prop) → World → Value → Prop) G W (T 37) := hA.2.2.2.2.2.2.2.2.1
    have r7 : ((fun G W v => RefV W G S v (d2)) : (Nat → Prop) → World → Value → Prop) G W (T 44) := hA.2.2.2.2.2.2.2.2.2.1
    simp only [ovr, Act.put, List.setIfInBounds_toArray, List.set_cons_zero, List.set_cons_succ, e8, e0, e1, e2, e3, e4] at hK ⊢
    have HK := Lib.hid hK
    clear hK hA
    refine wpOp_want rfl (by rfl) ?_
    go_simp
    exact HK.out _ _ (Below.refl _ _) fun X hX _ => hX
  case s13 =>
    rintro - G T W hb hHG hGW hGo hA K hK
    have e9 : T 46 = .int .i64 (c2 : Nat) := hA.1
    have e12 : T 25 = .int .i64 (n2 : Nat) := hA.2.1
    have e0 : T 38 = .pointer (some ⟨n, 0, none⟩) := hA.2.2.1
    have e1 : T 39 = .pointer (some ⟨n, 0, none⟩) := hA.2.2.2.1
    have e2 : T 40 = .agg #[.slice b1 S m1, .slice b2 S m2, .slice b3 S m3] := hA.2.2.2.2.1
    have e3 : T 41 = .pointer (some ⟨w.heap.size, 2, none⟩) := hA.2.2.2.2.2.1
    have e4 : T 42 = sv t := hA.2.2.2.2.2.2.1
    have r5 : ((fun G W v => ∃ vv, v = .tuple #[vv, .int .i64 (n2 : Nat), .int .i64 (c2 : Nat)] ∧ RefV W G S vv (d2)) : (Nat → Prop) → World → Value → Prop) G W (T 43) := hA.2.2.2.2.2.2.2.1
    have r6 : ((fun G W v => ∃ vv, v = .tuple #[vv, .int .i64 (n2 : Nat), .int .i64 (c2 : Nat)] ∧ RefV W G S vv (d2)) : (Nat → Prop) → World → Value → Prop) G W (T 37) := hA.2.2.2.2.2.2.2.2.1
    have r7 : ((fun G W v => RefV W G S v (d2)) : (Nat → Prop) → World → Value → Prop) G W (T 44) := hA.2.2.2.2.2.2.2.2.2.1
    have e8 : T 45 = .int .i64 (n2 : Nat) := hA.2.2.2.2.2.2.2.2.2.2.1
    simp only [ovr, Act.put, List.setIfInBounds_toArray, List.set_cons_zero, List.set_cons_succ, e9, e12, e0, e1, e2, e3, e4, e8] at hK ⊢
    have HK := Lib.hid hK
    clear hK hA
    refine wpOp_want rfl (by rfl) ?_
    go_simp
    exact HK.out _ _ (Below.refl _ _) fun X hX _ => hX
  case b10 =>
    refine ⟨?_, ?_⟩
    · rintro o ho T W K hK
      obtain rfl := Option.some.inj ho
      simp only [ovr, Act.put, List.setIfInBounds_toArray, List.set_cons_zero, List.set_cons_succ] at hK ⊢
      have HK := Lib.hid hK
      clear hK ho
      refine wpOp_want rfl (by rfl) ?_
      go_simp
      exact HK.out
    · rintro o ho G T W nb hA hp hrow K hK
      obtain rfl := Option.some.inj ho
      have ep : T 24 = .pointer (some ⟨nb, 0, none⟩) := hp
      have r7 : ((fun G W v => RefV W G S v (d2)) : (Nat → Prop) → World → Value → Prop) G W (T 44) := hA.2.1
      have r5 : ((fun G W v => ∃ vv, v = .tuple #[vv, .int .i64 (n2 : Nat), .int .i64 (c2 : Nat)] ∧ RefV W G S vv (d2)) : (Nat → Prop) → World → Value → Prop) G W (T 43) := hA.2.2.1
      have e0 : T 38 = .pointer (some ⟨n, 0, none⟩) := hA.2.2.2.1
      have e1 : T 39 = .pointer (some ⟨n, 0, none⟩) := hA.2.2.2.2.1
      have e2 : T 40 = .agg #[.slice b1 S m1, .slice b2 S m2, .slice b3 S m3] := hA.2.2.2.2.2.1
      have e3 : T 41 = .pointer (some ⟨w.heap.size, 2, none⟩) := hA.2.2.2.2.2.2.1
      have e4 : T 42 = sv t := hA.2.2.2.2.2.2.2.1
      have r6 : ((fun G W v => ∃ vv, v = .tuple #[vv, .int .i64 (n2 : Nat), .int .i64 (c2 : Nat)] ∧ RefV W G S vv (d2)) : (Nat → Prop) → World → Value → Prop) G W (T 37) := hA.2.2.2.2.2.2.2.2.2.1
      obtain ⟨x1, y1, x2, y2, x3, y3, ev, hr⟩ := r7
      have ev : T 44 = .agg #[.slice x1 S y1, .slice x2 S y2, .slice x3 S y3] := ev
      have hK := hK [.slice x1 S y1, .slice x2 S y2, .slice x3 S y3] ev rfl
      simp only [ovr, List.setIfInBounds_toArray, List.set_cons_zero, List.set_cons_succ, ep, e0, e1, e2, e3, e4, ev] at hK ⊢
      have HK := Lib.hid hK
      clear hK hA ho
      have q0 := hrow.cell (k := 0) (by simp)
      have f0 := hrow.free 0
      have q1 := hrow.cell (k := 1) (by simp)
      have f1 := hrow.free 1
      have q2 := hrow.cell (k := 2) (by simp)
      have f2 := hrow.free 2
      simp only [List.getElem_cons_zero, List.getElem_cons_succ] at q0 q1 q2
      refine wpOp_want rfl (by rfl) ?_
      go_simp
      exact HK.out
  case he =>
    rintro GG N T W hb hHG hGW hGo hbox hne hA
    have g12 : T 25 = .int .i64 (n2 : Nat) := hA.at 12 (by decide)
    have g13 : T 26 = .int .i64 (c2 : Nat) := hA.at 13 (by decide)
    have rr : ((fun G W v => RefV W G S v (d2)) : (Nat → Prop) → World → Value → Prop) GG W (T 44) := hA.at 7 (by decide)
    obtain ⟨pX, hGn, hnn, vs, evs, hrow⟩ := hbox 10 _ rfl
    have pX : T 24 = .pointer (some ⟨N 10, 0, none⟩) := pX
    generalize N 10 = mb at *
    obtain ⟨x1, y1, x2, y2, x3, y3, ev, hr⟩ := rr
    have hvs : vs = [.slice x1 S y1, .slice x2 S y2, .slice x3 S y3] := by
      have h1 : Value.agg vs.toArray = .agg #[.slice x1 S y1, .slice x2 S y2, .slice x3 S y3] := evs.symm.trans ev
      have h2 := congrArg Array.toList (Value.agg.inj h1)
      simpa using h2
    subst hvs
    simp only [ovr, List.setIfInBounds_toArray, List.set_cons_zero, List.set_cons_succ, pX, g12, g13]
    have xmn : mb ≠ n := fun e => by have := hC1.lt n (.inr rfl); omega
    have rN := rN.below hb
    have HP := put3_kept W n (.slice x1 S y1) (.slice x2 S y2) (.slice x3 S y3)
    have HF := Lib.hid ((hr.kept (HP.wider (fun b e => hHG b (.inr e)))).narrow' hHG)
    have HDk := Lib.hid ((hD1.mono hb).keptN HP hnp hng)
    have HBX := Lib.hid (rN.put3 (.slice x1 S y1) (.slice x2 S y2) (.slice x3 S y3))
    have HKK := Lib.hid ((hKw1.trans (Kept.of_below hb)).trans (HP.wider (fun b e => Or.inr e) : Kept (fun b => G b ∨ b = n) _ _))
    obtain ⟨z0, z1, z2, _, _, _⟩ := Row3 hrow
    obtain ⟨q0, q1, q2, f0, f1, f2⟩ := Row3 rN
    unfold put3 at HF HDk HKK
    clear hA hbox hne evs ev hr HP hHG hGW hGo hb pX g12 g13 hGn hnn
    go_wp2
    go_ret
    exact ⟨rfl, ⟨_, HDk.out, ⟨_, _, _, _, _, _, HBX.out, HF.out⟩, hng, hnp⟩, HKK.out⟩

set_option maxRecDepth 100000 in
set_option maxHeartbeats 6400000 in
theorem do_crash {ba : Option Addr} {bl : List Nat} {bc : Nat} (k : Nat) (at1 : Int) (t : Wl.Bs) (h : St w G p n S d) (hC : Cx w (fun b => G b ∨ b = n)) (hk2 : k < 256) (hat : -128 ≤ at1 ∧ at1 ≤ 127) (ht : t.length ≤ 500) (hbl : bl.length ≤ 140737488355328) (hbr : RG w (fun b => G b ∨ b = n) ba (uvs bl)) (hkd : k % 7 = 4) :
    Calls Tryz.prog 9 #[.pointer (some ⟨p, 0, none⟩), .pointer (some ⟨n, 0, none⟩), .agg #[.int .u8 k, .int .i8 at1, sv t, .slice ba bl.length bc]] w fun e w' => e = .returned (.bool true) ∧ (∃ d', St w' G p n S d') ∧ Kept (fun b => G b ∨ b = n) w w' := by
  have u1 := hk2
  have u2 := hat
  have u3 := ht
  have u4 := hbl
  have u5 := hbr
  clear u1 u2 u3 u4 u5
  have hS := h.disk.S_le
  have hng := h.ng
  have hnp := h.np
  have hwr : IntKind.i64.wrap at1 = at1 := by unfold IntKind.wrap; simp [IntKind.bits, IntKind.signed]; omega
  have HWR := Lib.hid hwr
  clear hwr
  have t2q : (((k : Int) % 7) == 2) = false := by simp; omega
  have t3q : (((k : Int) % 7) == 3) = false := by simp; omega
  have t4q : (((k : Int) % 7) == 4) = true := by simp; omega
  clear hkd
  go_enter Tryz.func9, Tryz.ntmps9
  go_upto_region 1 with fail
  have hb0 := below_alloc w (.cells #[.int .u8 k, .int .i8 at1, sv t, .slice ba bl.length bc] 35)
  have rO : Row (w.alloc (.cells #[.int .u8 k, .int .i8 at1, sv t, .slice ba bl.length bc] 35)) w.heap.size 35 [.int .u8 k, .int .i8 at1, sv t, .slice ba bl.length bc] := heap_alloc_new _ _
  have hOG : ¬ (G w.heap.size ∨ w.heap.size = n) := fun hh => Nat.lt_irrefl _ (hC.lt _ hh)
  generalize w.alloc (.cells #[.int .u8 k, .int .i8 at1, sv t, .slice ba bl.length bc] 35) = w0 at *
  have h := h.below hb0
  have hC := hC.mono hb0
  have xOn : w.heap.size ≠ n := fun e => hOG (.inr e)
  have xOG : ¬ G w.heap.size := fun e => hOG (.inl e)
  clear hOG
  obtain ⟨o0, o1, o2, o3⟩ := Row4 rO
  have hbr0 := hbr.adj (G' := (fun b => G b ∨ b = n)) (Kept.of_below (G := fun _ => False) hb0) (fun _ h => h.elim) (fun b hb hh => hh)
  have HBR := Lib.hid hbr0
  have hltO := rO.lt
  clear hbr hbr0
  go_wp2_with (at_builtin; refine Classical.byContradiction fun hcon => ?_)
  refine hcon ?_
  clear hcon
  clear hltO
  have hba := below_alloc w0 (.cells #[] 5)
  refine app_u8 _ rfl (.tmp 94) (.tmp 96) 23 5 1 (.int .u8 0) rfl Tryz.underlying23 (by kernel_rfl) w0.heap.size ba bl.length bc (uvs bl) rfl rfl (HBR.out.adj (G' := fun _ => False) (Kept.of_below (G := fun _ => False) hba) (fun _ h => h.elim) (fun _ _ h => h.elim)) (by simp) hbl (by omega) ?_
  intro ab' cap' wq hbq hcp
  have hbz := Below.step hba hbq (Nat.le_refl _)
  have hlt0 : ∀ b, G b → b < w0.heap.size := fun b hb => hC.lt b (.inl hb)
  have hcp := hcp.narrow (G := G) (fun b hb => by have := hlt0 b hb; have := hba.size; omega)
  have hCr := Crash_any bl ab' cap' (h.disk.mono hbz) (fun b hb => Nat.lt_of_lt_of_le (hlt0 b hb) hbz.size) hcp hbl
  have h := h.below hbz
  have hC := hC.mono hbz
  have rO := rO.below hbz
  have hb0 := Below.step hb0 hbz (Nat.le_refl _)
  have HBR := Lib.hid (HBR.out.adj (G' := (fun b => G b ∨ b = n)) (Kept.of_below (G := fun _ => False) hbz) (fun _ h => h.elim) (fun b _ hh => hh))
  clear hba hbq hbz hlt0 hcp
  obtain ⟨w0, rfl⟩ : ∃ w0 : World, w0 = wq := ⟨_, rfl⟩
  go_wp2_with fail
  (with_reducible refine hCr.mono ?_)
  rintro e w1 ⟨rfl, hD1, hk1⟩
  clear hCr
  have hKw1 : Kept (fun b => G b ∨ b = n) w w1 := (Kept.of_below hb0).trans (hk1.wider (fun b hb => Or.inl hb))
  have hC1 := hC.kept (hk1.wider (fun b hb => Or.inl hb) : Kept (fun b => G b ∨ b = n) _ _)
  have rO := rO.mono hk1 xOG
  obtain ⟨b1, m1, b2, m2, b3, m3, rN, RD⟩ := (h.box.kept hk1 hng (fun b hb => Or.inl hb)).ex
  have RD := Lib.hid RD
  have HBR1 := Lib.hid (HBR.out.adj (G' := fun b => G b ∨ b = n) (Kept.wider hk1 (fun b hb => Or.inl hb) : Kept (fun b => G b ∨ b = n) _ _) (fun _ h => h) (fun _ _ h => h))
  clear h hk1 hC hb0 o0 o1 o2 o3
  have hCt := fun (W : World) (G' : Nat → Prop) (hG' : ∀ b, G' b → b < W.heap.size) (hR : RefD W G' S b1 b2 b3 d) (hB : RG W (fun _ => False) ba (uvs bl)) => rCrash_any (c1 := m1) (c2 := m2) (c3 := m3) bl ba bc hG' hR hB hbl
  generalize hd2 : d.crash bl = d2 at *
  generalize hc2 : d.changed.length = c2 at *
  clear hd2 hc2
  go_upto_region 16 with fail
  refine wp_region_news (wx := w1) (fun b => G b ∨ b = n) [(fun _ X _ => X 0 = .pointer (some ⟨n, 0, none⟩)), (fun _ X _ => X 1 = .pointer (some ⟨n, 0, none⟩)), (fun _ X _ => X 2 = .agg #[.slice b1 S m1, .slice b2 S m2, .slice b3 S m3]), (fun _ X _ => X 3 = .pointer (some ⟨w.heap.size, 3, none⟩)), (fun _ X _ => X 4 = .slice ba bl.length bc), (fun G X W => ((fun G W v => ∃ vv, v = .tuple #[vv, .int .i64 (c2 : Nat)] ∧ RefV W G S vv (d2)) : (Nat → Prop) → World → Value → Prop) G W (X 5)), (fun G X W => ((fun G W v => ∃ vv, v = .tuple #[vv, .int .i64 (c2 : Nat)] ∧ RefV W G S vv (d2)) : (Nat → Prop) → World → Value → Prop) G W (X 6)), (fun G X W => ((fun G W v => RefV W G S v (d2)) : (Nat → Prop) → World → Value → Prop) G W (X 7)), (fun _ X _ => X 8 = .int .i64 (c2 : Nat)), (fun _ _ _ => True), (fun _ _ _ => True), (fun _ X _ => X 11 = .int .i64 (c2 : Nat))] [some 100, some 101, some 102, some 103, some 104, some 105, some 99, some 106, some 107, some 11, none, some 12] [none, none, none, none, none, none, none, none, none, some ⟨10, 7, 28, [.slice none 0 0, .slice none 0 0, .slice none 0 0]⟩, none, none] [100, 101, 102, 103, 104, 105, 99, 106, 107, 11, 12] (by kernel_rfl) (by kernel_rfl) (by kernel_rfl) (by kernel_rfl) (of_decide_eq_true (by kernel_rfl)) (by kernel_rfl) hC1.lt (Below.refl _ _) ⟨adj_val _ _ _, adj_val _ _ _, adj_val _ _ _, adj_val _ _ _, adj_val _ _ _, (adj_own' (F := fun G W v => ∃ vv, v = .tuple #[vv, .int .i64 (c2 : Nat)] ∧ RefV W G S vv (d2)) (fun G G' W W' v h hk hg => by obtain ⟨vv, e, x1, y1, x2, y2, x3, y3, e2, hr⟩ := h; exact ⟨vv, e, x1, y1, x2, y2, x3, y3, e2, hr.adj hk hg⟩)), (adj_own' (F := fun G W v => ∃ vv, v = .tuple #[vv, .int .i64 (c2 : Nat)] ∧ RefV W G S vv (d2)) (fun G G' W W' v h hk hg => by obtain ⟨vv, e, x1, y1, x2, y2, x3, y3, e2, hr⟩ := h; exact ⟨vv, e, x1, y1, x2, y2, x3, y3, e2, hr.adj hk hg⟩)), (adj_own' (F := fun G W v => RefV W G S v (d2)) (fun G G' W W' v h hk hg => by obtain ⟨x1, y1, x2, y2, x3, y3, e2, hr⟩ := h; exact ⟨x1, y1, x2, y2, x3, y3, e2, hr.adj hk hg⟩)), adj_val _ _ _, adj_true _, adj_true _, adj_val _ _ _, trivial⟩ ⟨⟨fun _ _ _ => trivial, fun _ _ _ => trivial⟩, trivial⟩ ⟨?s0, ?s1, ?s2, ?s3, ?s4, ?s5, ?s6, ?s7, ?s8, ?s9, ?s10, ?s11, trivial⟩ ⟨?b9, trivial⟩ ?he
  case s0 =>
    rintro - G T W hb hHG hGW hGo hA K hK
    simp only [ovr, Act.put, List.setIfInBounds_toArray, List.set_cons_zero, List.set_cons_succ] at hK ⊢
    have HK := Lib.hid hK
    clear hK hA
    refine wpOp_want rfl (by rfl) ?_
    go_simp
    exact HK.out _ _ (Below.refl _ _) fun X hX _ => hX
  case s1 =>
    rintro - G T W hb hHG hGW hGo hA K hK
    have e0 : T 100 = .pointer (some ⟨n, 0, none⟩) := hA.1
    simp only [ovr, Act.put, List.setIfInBounds_toArray, List.set_cons_zero, List.set_cons_succ, e0] at hK ⊢
    have HK := Lib.hid hK
    clear hK hA
    refine wpOp_want rfl (by rfl) ?_
    go_simp
    exact HK.out _ _ (Below.refl _ _) fun X hX _ => hX
  case s2 =>
    rintro - G T W hb hHG hGW hGo hA K hK
    have e1 : T 101 = .pointer (some ⟨n, 0, none⟩) := hA.1
    obtain ⟨z0, z1, z2, _, _, _⟩ := Row3 (rN.below hb)
    simp only [ovr, Act.put, List.setIfInBounds_toArray, List.set_cons_zero, List.set_cons_succ, e1] at hK ⊢
    have HK := Lib.hid hK
    clear hK hA
    refine wpOp_want rfl (by rfl) ?_
    go_simp
    exact HK.out _ _ (Below.refl _ _) fun X hX _ => hX
  case s3 =>
    rintro - G T W hb hHG hGW hGo hA K hK
    simp only [ovr, Act.put, List.setIfInBounds_toArray, List.set_cons_zero, List.set_cons_succ] at hK ⊢
    have HK := Lib.hid hK
    clear hK hA
    refine wpOp_want rfl (by rfl) ?_
    go_simp
    exact HK.out _ _ (Below.refl _ _) fun X hX _ => hX
  case s4 =>
    rintro - G T W hb hHG hGW hGo hA K hK
    have e3 : T 103 = .pointer (some ⟨w.heap.size, 3, none⟩) := hA.1
    obtain ⟨z0, z1, z2, z3⟩ := Row4 (rO.below hb)
    simp only [ovr, Act.put, List.setIfInBounds_toArray, List.set_cons_zero, List.set_cons_succ, e3] at hK ⊢
    have HK := Lib.hid hK
    clear hK hA
    refine wpOp_want rfl (by rfl) ?_
    go_simp
    exact HK.out _ _ (Below.refl _ _) fun X hX _ => hX
  case s5 =>
    rintro - G T W hb hHG hGW hGo hA K hK
    have e2 : T 102 = .agg #[.slice b1 S m1, .slice b2 S m2, .slice b3 S m3] := hA.1
    have e4 : T 104 = .slice ba bl.length bc := hA.2.1
    simp only [ovr, Act.put, List.setIfInBounds_toArray, List.set_cons_zero, List.set_cons_succ, e2, e4] at hK ⊢
    have HK := Lib.hid hK
    clear hK hA
    refine wpOp_want rfl (by rfl) ?_
    go_simp
    (with_reducible refine (hCt W G hGW (RD.out.lift hb hGo) (HBR1.out.adj (G' := fun _ => False) (Kept.of_below (G := fun _ => False) hb) (fun _ h => h.elim) (fun _ _ h => h.elim))).mono ?_)
    rintro e w1 ⟨⟨vv, rfl, hv⟩, hb1⟩
    try dsimp only
    exact HK.out _ _ (hb1) fun X hX _ => by
      show ((fun G W v => ∃ vv, v = .tuple #[vv, .int .i64 (c2 : Nat)] ∧ RefV W G S vv (d2)) : (Nat → Prop) → World → Value → Prop) _ _ (X 5)
      rw [hX]
      exact ⟨_, rfl, hv⟩
  case s6 =>
    rintro - G T W hb hHG hGW hGo hA K hK
    have r5 : ((fun G W v => ∃ vv, v = .tuple #[vv, .int .i64 (c2 : Nat)] ∧ RefV W G S vv (d2)) : (Nat → Prop) → World → Value → Prop) G W (T 105) := hA.1
    obtain ⟨vv, e5, hv⟩ := r5
    have e5 : T 105 = .tuple #[vv, .int .i64 (c2 : Nat)] := e5
    simp only [ovr, Act.put, List.setIfInBounds_toArray, List.set_cons_zero, List.set_cons_succ, e5] at hK ⊢
    have HK := Lib.hid hK
    clear hK hA
    refine wpOp_want rfl (by rfl) ?_
    go_simp
    exact HK.out _ _ (Below.refl _ _) fun X hX _ => by
      show ((fun G W v => ∃ vv, v = .tuple #[vv, .int .i64 (c2 : Nat)] ∧ RefV W G S vv (d2)) : (Nat → Prop) → World → Value → Prop) _ _ (X 6)
      rw [hX]
      exact ⟨_, rfl, hv⟩
  case s7 =>
    rintro - G T W hb hHG hGW hGo hA K hK
    have r6 : ((fun G W v => ∃ vv, v = .tuple #[vv, .int .i64 (c2 : Nat)] ∧ RefV W G S vv (d2)) : (Nat → Prop) → World → Value → Prop) G W (T 99) := hA.1
    obtain ⟨vv, e6, hv⟩ := r6
    have e6 : T 99 = .tuple #[vv, .int .i64 (c2 : Nat)] := e6
    simp only [ovr, Act.put, List.setIfInBounds_toArray, List.set_cons_zero, List.set_cons_succ, e6] at hK ⊢
    have HK := Lib.hid hK
    clear hK hA
    refine wpOp_want rfl (by rfl) ?_
    go_simp
    exact HK.out _ _ (Below.refl _ _) fun X hX _ => by
      show ((fun G W v => RefV W G S v (d2)) : (Nat → Prop) → World → Value → Prop) _ _ (X 7)
      rw [hX]
      exact hv
  case s8 =>
    rintro - G T W hb hHG hGW hGo hA K hK
    have r6 : ((fun G W v => ∃ vv, v = .tuple #[vv, .int .i64 (c2 : Nat)] ∧ RefV W G S vv (d2)) : (Nat → Prop) → World → Value → Prop) G W (T 99) := hA.1
    obtain ⟨vv, e6, hv⟩ := r6
    have e6 : T 99 = .tuple #[vv, .int .i64 (c2 : Nat)] := e6
    simp only [ovr, Act.put, List.setIfInBounds_toArray, List.set_cons_zero, List.set_cons_succ, e6] at hK ⊢
    have HK := Lib.hid hK
    clear hK hA
    refine wpOp_want rfl (by rfl) ?_
    go_simp
    exact HK.out _ _ (Below.refl _ _) fun X hX _ => hX
  case s9 => exact fun h => absurd h (by decide)
  case s10 => exact fun h => absurd h (by decide)
  case s11 =>
    rintro - G T W hb hHG hGW hGo hA K hK
    have e8 : T 107 = .int .i64 (c2 : Nat) := hA.1
    have e0 : T 100 = .pointer (some ⟨n, 0, none⟩) := hA.2.2.1
    have e1 : T 101 = .pointer (some ⟨n, 0, none⟩) := hA.2.2.2.1
    have e2 : T 102 = .agg #[.slice b1 S m1, .slice b2 S m2, .slice b3 S m3] := hA.2.2.2.2.1
    have e3 : T 103 = .pointer (some ⟨w.heap.size, 3, none⟩) := hA.2.2.2.2.2.1
    have e4 : T 104 = .slice ba bl.length bc := hA.2.2.2.2.2.2.1
    have r5 : ((fun G W v => ∃ vv, v = .tuple #[vv, .int .i64 (c2 : Nat)] ∧ RefV W G S vv (d2)) : (Nat → Prop) → World → Value → Prop) G W (T 105) := hA.2.2.2.2.2.2.2.1
    have r6 : ((fun G W v => ∃ vv, v = .tuple #[vv, .int .i64 (c2 : Nat)] ∧ RefV W G S vv (d2)) : (Nat → Prop) → World → Value → Prop) G W (T 99) := hA.2.2.2.2.2.2.2.2.1
    have r7 : ((fun G W v => RefV W G S v (d2)) : (Nat → Prop) → World → Value → Prop) G W (T 106) := hA.2.2.2.2.2.2.2.2.2.1
    simp only [ovr, Act.put, List.setIfInBounds_toArray, List.set_cons_zero, List.set_cons_succ, e8, e0, e1, e2, e3, e4] at hK ⊢
    have HK := Lib.hid hK
    clear hK hA
    refine wpOp_want rfl (by rfl) ?_
    go_simp
    exact HK.out _ _ (Below.refl _ _) fun X hX _ => hX
  case b9 =>
    refine ⟨?_, ?_⟩
    · rintro o ho T W K hK
      obtain rfl := Option.some.inj ho
      simp only [ovr, Act.put, List.setIfInBounds_toArray, List.set_cons_zero, List.set_cons_succ] at hK ⊢
      have HK := Lib.hid hK
      clear hK ho
      refine wpOp_want rfl (by rfl) ?_
      go_simp
      exact HK.out
    · rintro o ho G T W nb hA hp hrow K hK
      obtain rfl := Option.some.inj ho
      have ep : T 11 = .pointer (some ⟨nb, 0, none⟩) := hp
      have r7 : ((fun G W v => RefV W G S v (d2)) : (Nat → Prop) → World → Value → Prop) G W (T 106) := hA.2.1
      have r5 : ((fun G W v => ∃ vv, v = .tuple #[vv, .int .i64 (c2 : Nat)] ∧ RefV W G S vv (d2)) : (Nat → Prop) → World → Value → Prop) G W (T 105) := hA.2.2.1
      have e0 : T 100 = .pointer (some ⟨n, 0, none⟩) := hA.2.2.2.1
      have e1 : T 101 = .pointer (some ⟨n, 0, none⟩) := hA.2.2.2.2.1
      have e2 : T 102 = .agg #[.slice b1 S m1, .slice b2 S m2, .slice b3 S m3] := hA.2.2.2.2.2.1
      have e3 : T 103 = .pointer (some ⟨w.heap.size, 3, none⟩) := hA.2.2.2.2.2.2.1
      have e4 : T 104 = .slice ba bl.length bc := hA.2.2.2.2.2.2.2.1
      have r6 : ((fun G W v => ∃ vv, v = .tuple #[vv, .int .i64 (c2 : Nat)] ∧ RefV W G S vv (d2)) : (Nat → Prop) → World → Value → Prop) G W (T 99) := hA.2.2.2.2.2.2.2.2.2.1
      obtain ⟨x1, y1, x2, y2, x3, y3, ev, hr⟩ := r7
      have ev : T 106 = .agg #[.slice x1 S y1, .slice x2 S y2, .slice x3 S y3] := ev
      have hK := hK [.slice x1 S y1, .slice x2 S y2, .slice x3 S y3] ev rfl
      simp only [ovr, List.setIfInBounds_toArray, List.set_cons_zero, List.set_cons_succ, ep, e0, e1, e2, e3, e4, ev] at hK ⊢
      have HK := Lib.hid hK
      clear hK hA ho
      have q0 := hrow.cell (k := 0) (by simp)
      have f0 := hrow.free 0
      have q1 := hrow.cell (k := 1) (by simp)
      have f1 := hrow.free 1
      have q2 := hrow.cell (k := 2) (by simp)
      have f2 := hrow.free 2
      simp only [List.getElem_cons_zero, List.getElem_cons_succ] at q0 q1 q2
      refine wpOp_want rfl (by rfl) ?_
      go_simp
      exact HK.out
  case he =>
    rintro GG N T W hb hHG hGW hGo hbox hne hA
    have g11 : T 12 = .int .i64 (c2 : Nat) := hA.at 11 (by decide)
    have rr : ((fun G W v => RefV W G S v (d2)) : (Nat → Prop) → World → Value → Prop) GG W (T 106) := hA.at 7 (by decide)
    obtain ⟨pX, hGn, hnn, vs, evs, hrow⟩ := hbox 9 _ rfl
    have pX : T 11 = .pointer (some ⟨N 9, 0, none⟩) := pX
    generalize N 9 = mb at *
    obtain ⟨x1, y1, x2, y2, x3, y3, ev, hr⟩ := rr
    have hvs : vs = [.slice x1 S y1, .slice x2 S y2, .slice x3 S y3] := by
      have h1 : Value.agg vs.toArray = .agg #[.slice x1 S y1, .slice x2 S y2, .slice x3 S y3] := evs.symm.trans ev
      have h2 := congrArg Array.toList (Value.agg.inj h1)
      simpa using h2
    subst hvs
    simp only [ovr, List.setIfInBounds_toArray, List.set_cons_zero, List.set_cons_succ, pX, g11]
    have xmn : mb ≠ n := fun e => by have := hC1.lt n (.inr rfl); omega
    have rN := rN.below hb
    have HP := put3_kept W n (.slice x1 S y1) (.slice x2 S y2) (.slice x3 S y3)
    have HF := Lib.hid ((hr.kept (HP.wider (fun b e => hHG b (.inr e)))).narrow' hHG)
    have HDk := Lib.hid ((hD1.mono hb).keptN HP hnp hng)
    have HBX := Lib.hid (rN.put3 (.slice x1 S y1) (.slice x2 S y2) (.slice x3 S y3))
    have HKK := Lib.hid ((hKw1.trans (Kept.of_below hb)).trans (HP.wider (fun b e => Or.inr e) : Kept (fun b => G b ∨ b = n) _ _))
    obtain ⟨z0, z1, z2, _, _, _⟩ := Row3 hrow
    obtain ⟨q0, q1, q2, f0, f1, f2⟩ := Row3 rN
    unfold put3 at HF HDk HKK
    clear hA hbox hne evs ev hr HP hHG hGW hGo hb pX g11 hGn hnn
    go_wp2
    go_ret
    exact ⟨rfl, ⟨_, HDk.out, ⟨_, _, _, _, _, _, HBX.out, HF.out⟩, hng, hnp⟩, HKK.out⟩

set_option maxRecDepth 100000 in
set_option maxHeartbeats 6400000 in
theorem do_sync {ba : Option Addr} {bl : List Nat} {bc : Nat} (k : Nat) (at1 : Int) (t : Wl.Bs) (h : St w G p n S d) (hC : Cx w (fun b => G b ∨ b = n)) (hk2 : k < 256) (hat : -128 ≤ at1 ∧ at1 ≤ 127) (ht : t.length ≤ 500) (hbl : bl.length ≤ 140737488355328) (hbr : RG w (fun b => G b ∨ b = n) ba (uvs bl)) (hkd : k % 7 = 3) :
    Calls Tryz.prog 9 #[.pointer (some ⟨p, 0, none⟩), .pointer (some ⟨n, 0, none⟩), .agg #[.int .u8 k, .int .i8 at1, sv t, .slice ba bl.length bc]] w fun e w' => e = .returned (.bool true) ∧ (∃ d', St w' G p n S d') ∧ Kept (fun b => G b ∨ b = n) w w' := by
  have u1 := hk2
  have u2 := hat
  have u3 := ht
  have u4 := hbl
  have u5 := hbr
  clear u1 u2 u3 u4 u5
  have hS := h.disk.S_le
  have hng := h.ng
  have hnp := h.np
  have hwr : IntKind.i64.wrap at1 = at1 := by unfold IntKind.wrap; simp [IntKind.bits, IntKind.signed]; omega
  have HWR := Lib.hid hwr
  clear hwr
  have t2q : (((k : Int) % 7) == 2) = false := by simp; omega
  have t3q : (((k : Int) % 7) == 3) = true := by simp; omega
  clear hkd
  go_enter Tryz.func9, Tryz.ntmps9
  go_upto_region 1 with fail
  have hb0 := below_alloc w (.cells #[.int .u8 k, .int .i8 at1, sv t, .slice ba bl.length bc] 35)
  have rO : Row (w.alloc (.cells #[.int .u8 k, .int .i8 at1, sv t, .slice ba bl.length bc] 35)) w.heap.size 35 [.int .u8 k, .int .i8 at1, sv t, .slice ba bl.length bc] := heap_alloc_new _ _
  have hOG : ¬ (G w.heap.size ∨ w.heap.size = n) := fun hh => Nat.lt_irrefl _ (hC.lt _ hh)
  generalize w.alloc (.cells #[.int .u8 k, .int .i8 at1, sv t, .slice ba bl.length bc] 35) = w0 at *
  have h := h.below hb0
  have hC := hC.mono hb0
  have xOn : w.heap.size ≠ n := fun e => hOG (.inr e)
  have xOG : ¬ G w.heap.size := fun e => hOG (.inl e)
  clear hOG
  obtain ⟨o0, o1, o2, o3⟩ := Row4 rO
  go_wp2_with fail
  (with_reducible refine (Sync_any h.disk).mono ?_)
  rintro e w1 ⟨rfl, hD1, hk1⟩
  have hKw1 : Kept (fun b => G b ∨ b = n) w w1 := (Kept.of_below hb0).trans (hk1.wider (fun b hb => Or.inl hb))
  have hC1 := hC.kept (hk1.wider (fun b hb => Or.inl hb) : Kept (fun b => G b ∨ b = n) _ _)
  have rO := rO.mono hk1 xOG
  obtain ⟨b1, m1, b2, m2, b3, m3, rN, RD⟩ := (h.box.kept hk1 hng (fun b hb => Or.inl hb)).ex
  have RD := Lib.hid RD
  clear h hk1 hC hb0 o0 o1 o2 o3
  obtain ⟨z0, z1, z2, _, _, _⟩ := Row3 rN
  go_wp2_with fail
  (with_reducible refine (rSync_any (w := w1) (G := (fun b => G b ∨ b = n)) (c1 := m1) (c2 := m2) (c3 := m3) hC1.lt RD.out).mono ?_)
  rintro e w2 ⟨⟨v, rfl, x1, y1, x2, y2, x3, y3, rfl, hr⟩, hb⟩
  have rN := rN.below hb
  have HP := put3_kept w2 n (.slice x1 S y1) (.slice x2 S y2) (.slice x3 S y3)
  have HF := Lib.hid (hr.kept (HP.wider (fun b e => Or.inr e)))
  have HDk := Lib.hid ((hD1.mono hb).keptN HP hnp hng)
  have HBX := Lib.hid (rN.put3 (.slice x1 S y1) (.slice x2 S y2) (.slice x3 S y3))
  have HKK := Lib.hid ((hKw1.trans (Kept.of_below hb)).trans (HP.wider (fun b e => Or.inr e) : Kept (fun b => G b ∨ b = n) _ _))
  clear z0 z1 z2
  obtain ⟨q0, q1, q2, f0, f1, f2⟩ := Row3 rN
  unfold put3 at HF HDk HKK
  clear hr HP hb
  go_wp2
  go_ret
  exact ⟨rfl, ⟨_, HDk.out, ⟨_, _, _, _, _, _, HBX.out, HF.out⟩, hng, hnp⟩, HKK.out⟩

set_option maxRecDepth 100000 in
set_option maxHeartbeats 6400000 in
theorem do_rec {ba : Option Addr} {bl : List Nat} {bc : Nat} (k : Nat) (at1 : Int) (t : Wl.Bs) (h : St w G p n S d) (hC : Cx w (fun b => G b ∨ b = n)) (hk2 : k < 256) (hat : -128 ≤ at1 ∧ at1 ≤ 127) (ht : t.length ≤ 500) (hbl : bl.length ≤ 140737488355328) (hbr : RG w (fun b => G b ∨ b = n) ba (uvs bl)) (hkd : k % 7 = 5) :
    Calls Tryz.prog 9 #[.pointer (some ⟨p, 0, none⟩), .pointer (some ⟨n, 0, none⟩), .agg #[.int .u8 k, .int .i8 at1, sv t, .slice ba bl.length bc]] w fun e w' => e = .returned (.bool true) ∧ (∃ d', St w' G p n S d') ∧ Kept (fun b => G b ∨ b = n) w w' := by
  have u1 := hk2
  have u2 := hat
  have u3 := ht
  have u4 := hbl
  have u5 := hbr
  clear u1 u2 u3 u4 u5
  have hS := h.disk.S_le
  have hng := h.ng
  have hnp := h.np
  have hwr : IntKind.i64.wrap at1 = at1 := by unfold IntKind.wrap; simp [IntKind.bits, IntKind.signed]; omega
  have HWR := Lib.hid hwr
  clear hwr
  have t2q : (((k : Int) % 7) == 2) = false := by simp; omega
  have t3q : (((k : Int) % 7) == 3) = false := by simp; omega
  have t4q : (((k : Int) % 7) == 4) = false := by simp; omega
  have t5q : (((k : Int) % 7) == 5) = true := by simp; omega
  clear hkd
  go_enter Tryz.func9, Tryz.ntmps9
  go_upto_region 1 with fail
  have hb0 := below_alloc w (.cells #[.int .u8 k, .int .i8 at1, sv t, .slice ba bl.length bc] 35)
  have rO : Row (w.alloc (.cells #[.int .u8 k, .int .i8 at1, sv t, .slice ba bl.length bc] 35)) w.heap.size 35 [.int .u8 k, .int .i8 at1, sv t, .slice ba bl.length bc] := heap_alloc_new _ _
  have hOG : ¬ (G w.heap.size ∨ w.heap.size = n) := fun hh => Nat.lt_irrefl _ (hC.lt _ hh)
  generalize w.alloc (.cells #[.int .u8 k, .int .i8 at1, sv t, .slice ba bl.length bc] 35) = w0 at *
  have h := h.below hb0
  have hC := hC.mono hb0
  have xOn : w.heap.size ≠ n := fun e => hOG (.inr e)
  have xOG : ¬ G w.heap.size := fun e => hOG (.inl e)
  clear hOG
  obtain ⟨o0, o1, o2, o3⟩ := Row4 rO
  go_wp2_with fail
  have hnlt : n < w0.heap.size := hC.lt n (.inr rfl)
  (with_reducible refine (Recover_u h.disk {all := fun w' hk => hC.all w' (hk.wider (fun b hb => Or.inl hb)), lt := fun b hb => hC.lt b (.inl hb)}).mono ?_)
  rintro e w1 ⟨⟨v, rfl, hown⟩, hD1, hk1⟩
  obtain ⟨ao, cap, rfl, hcap, -⟩ := hown.read
  have hlr := Wl.recR_len d
  rw [h.disk.ok.now] at hlr
  have hKw1 : Kept (fun b => G b ∨ b = n) w w1 := (Kept.of_below hb0).trans (hk1.wider (fun b hb => Or.inl hb))
  have hC1 := hC.kept (hk1.wider (fun b hb => Or.inl hb) : Kept (fun b => G b ∨ b = n) _ _)
  have rO := rO.mono hk1 xOG
  obtain ⟨b1, m1, b2, m2, b3, m3, rN, RD⟩ := (h.box.kept hk1 hng (fun b hb => Or.inl hb)).ex
  have RD := Lib.hid RD
  have hlt01 := hk1.size
  clear h hk1 hC hb0 o0 o1 o2 o3
  have hRc := rRecover_u (w := w1) (G := (fun b => G b ∨ b = n)) (c1 := m1) (c2 := m2) (c3 := m3) hC1.lt RD.out hC1.env
  generalize hd2 : d.rec'.1 = d2 at *
  generalize hx : Wl.recR d = rr at *
  obtain ⟨b0, rs, c0⟩ := rr
  simp only [List.length_map] at hcap hown hlr hRc ⊢
  clear hd2 hx
  obtain ⟨z0, z1, z2, _, _, _⟩ := Row3 rN
  go_wp2_with fail
  (with_reducible refine hRc.mono ?_)
  rintro e w2 ⟨⟨vv, hv, rv, rfl, ⟨x1, y1, x2, y2, x3, y3, rfl, hr⟩, hownr⟩, hb⟩
  obtain ⟨ar, cr, rfl, hcr, -⟩ := hownr.read
  simp only [List.length_map] at hcr hownr ⊢
  clear hRc z0 z1 z2
  go_upto_region 22 with fail
  obtain ⟨hA', hB'⟩ := heap2 w2 (.cells #[.slice x1 S y1, .slice x2 S y2, .slice x3 S y3] 28) (.cells #[.int .i64 hv, .int .i64 b0, .slice ar rs.length cr] 68)
  have hb3 := Below.step (below_alloc w2 (.cells #[.slice x1 S y1, .slice x2 S y2, .slice x3 S y3] 28)) (below_alloc (w2.alloc (.cells #[.slice x1 S y1, .slice x2 S y2, .slice x3 S y3] 28)) (.cells #[.int .i64 hv, .int .i64 b0, .slice ar rs.length cr] 68)) (Nat.le_refl _)
  generalize (w2.alloc (.cells #[.slice x1 S y1, .slice x2 S y2, .slice x3 S y3] 28)).alloc (.cells #[.int .i64 hv, .int .i64 b0, .slice ar rs.length cr] 68) = w3 at *
  have r16 : Row w3 w2.heap.size 28 [.slice x1 S y1, .slice x2 S y2, .slice x3 S y3] := hA'
  have r17 : Row w3 (w2.heap.size + 1) 68 [.int .i64 hv, .int .i64 b0, .slice ar rs.length cr] := hB'
  have hlt2 := hb.size
  have x17 : w2.heap.size + 1 ≠ n := by omega
  have rN := (rN.below hb).below hb3
  have HP := put3_kept w3 n (.slice x1 S y1) (.slice x2 S y2) (.slice x3 S y3)
  have HR3 := Lib.hid (hr.mono hb3)
  have HF := Lib.hid ((hr.mono hb3).kept (HP.wider (fun b e => Or.inr e)))
  have HDk := Lib.hid (((hD1.mono hb).mono hb3).keptN HP hnp hng)
  have HBX := Lib.hid (rN.put3 (.slice x1 S y1) (.slice x2 S y2) (.slice x3 S y3))
  have HKK := Lib.hid (((hKw1.trans (Kept.of_below hb)).trans (Kept.of_below hb3)).trans (HP.wider (fun b e => Or.inr e) : Kept (fun b => G b ∨ b = n) _ _))
  have HO1 := Lib.hid (((hown.mono hb).mono hb3).kept HP (by rintro b rfl; exact hnlt))
  have HO2 := Lib.hid ((hownr.mono hb3).kept HP (by rintro b rfl; omega))
  have r17 := r17.other3 x17 (.slice x1 S y1) (.slice x2 S y2) (.slice x3 S y3)
  unfold put3 at HF HDk HKK HO1 HO2
  obtain ⟨z0, z1, z2, _, _, _⟩ := Row3 r16
  obtain ⟨q0, q1, q2, f0, f1, f2⟩ := Row3 rN
  clear hA' hB' HP hr HR3 hown hownr hb hb3
  go_upto_region 23 with fail
  clear z0 z1 z2 q0 q1 q2 f0 f1 f2 rN r16
  generalize ((w3.setCell ⟨n, 0, none⟩ (.slice x1 S y1)).setCell ⟨n, 1, none⟩ (.slice x2 S y2)).setCell ⟨n, 2, none⟩ (.slice x3 S y3) = w4 at *
  obtain ⟨l0, l1, l2, _, _, _⟩ := Row3 r17
  obtain ⟨_, _, e1, -, hg1⟩ := HO1.out.read
  obtain ⟨_, _, e2, -, hg2⟩ := HO2.out.read
  simp only [Value.slice.injEq] at e1 e2
  obtain ⟨rfl, -, rfl⟩ := e1
  obtain ⟨rfl, -, rfl⟩ := e2
  have hSm := Same_yes rs w4 (fun _ => False) (fun _ => False) ao ar cap cr (hg1 _ (fun _ h => h.elim)) (hg2 _ (fun _ h => h.elim)) (by omega)
  clear hg1 hg2 hcap hcr
  go_wp2_with fail
  (with_reducible refine hSm.mono ?_)
  rintro e w5 ⟨rfl, hb5⟩
  clear hSm l0 l1 l2
  go_wp2
  go_ret
  exact ⟨rfl, ⟨_, HDk.out.mono hb5, ⟨_, _, _, _, _, _, HBX.out.below hb5, HF.out.mono hb5⟩, hng, hnp⟩, HKK.out.trans (Kept.of_below hb5)⟩

theorem do_any {ba : Option Addr} {bl : List Nat} {bc : Nat} (k : Nat) (at1 : Int) (t : Wl.Bs) (h : St w G p n S d) (hC : Cx w (fun b => G b ∨ b = n)) (hk2 : k < 256) (hat : -128 ≤ at1 ∧ at1 ≤ 127) (ht : t.length ≤ 500) (hbl : bl.length ≤ 140737488355328) (hbr : RG w (fun b => G b ∨ b = n) ba (uvs bl)) :
    Calls Tryz.prog 9 #[.pointer (some ⟨p, 0, none⟩), .pointer (some ⟨n, 0, none⟩), .agg #[.int .u8 k, .int .i8 at1, sv t, .slice ba bl.length bc]] w fun e w' => e = .returned (.bool true) ∧ (∃ d', St w' G p n S d') ∧ Kept (fun b => G b ∨ b = n) w w' := by
  have hc : k % 7 = 2 ∨ k % 7 = 3 ∨ k % 7 = 4 ∨ k % 7 = 5 ∨ k % 7 = 6 ∨ (k % 7 = 0 ∨ k % 7 = 1) := by omega
  rcases hc with hc | hc | hc | hc | hc | hc
  · exact do_cut k at1 t h hC hk2 hat ht hbl hbr hc
  · exact do_sync k at1 t h hC hk2 hat ht hbl hbr hc
  · exact do_crash k at1 t h hC hk2 hat ht hbl hbr hc
  · exact do_rec k at1 t h hC hk2 hat ht hbl hbr hc
  · exact do_write k at1 t h hC hk2 hat ht hbl hbr hc
  · exact do_append k at1 t h hC hk2 hat ht hbl hbr hc
end

end Go.Proofs.YtackeigdehfmmaaGreatDoor

namespace Wl
/-- how many records can be appended, and an error -/
noncomputable def room (d : Dk) : Nat × Nat := match log d.now with
  | none => (0, 21)
  | some L => (d.now.length - 2 - L.recs.length, 0)
end Wl
namespace Go.Proofs.YtackeigdehfmmaaGreatDoor
open Go.RowKit

/-- an operation with a log, as it lies in four cells, with its bits -/
structure OpE where
  k : Nat
  at' : Int
  text : Wl.Bs
  ba : Option Addr
  bl : List Nat
  bc : Nat
def OpE.toD (o : OpE) : OpD := ⟨o.k, o.at', o.text, .slice o.ba o.bl.length o.bc⟩
structure OpEAt (w : World) (b off : Nat) (o : OpE) : Prop where
  c0 : w.cell? ⟨b, off, none⟩ = some (.int .u8 o.k)
  c1 : w.cell? ⟨b, off + 1, none⟩ = some (.int .i8 o.at')
  c2 : w.cell? ⟨b, off + 2, none⟩ = some (sv o.text)
  c3 : w.cell? ⟨b, off + 3, none⟩ = some (.slice o.ba o.bl.length o.bc)
  k : o.k < 256
  at1 : -128 ≤ o.at' ∧ o.at' ≤ 127
  br : RG w (fun _ => False) o.ba (uvs o.bl)
  bn : o.bl.length ≤ 140737488355328
def OpsE (w : World) (a : Option Addr) (l : List OpE) : Prop := ∀ i o, l[i]? = some o → ∃ b off, a = some ⟨b, off, none⟩ ∧ OpEAt w b (off + i * 4) o
theorem OpsE.toR {w : World} {a : Option Addr} {l : List OpE} (h : OpsE w a l) : OpsR w a (l.map OpE.toD) := by
  intro i o hi
  rw [List.getElem?_map, Option.map_eq_some_iff] at hi
  obtain ⟨x, hx, rfl⟩ := hi
  obtain ⟨b, off, e, h1⟩ := h i x hx
  exact ⟨b, off, e, ⟨h1.c0, h1.c1, h1.c2, h1.c3, h1.k, h1.at1, _, _, _, rfl⟩⟩
def FewE (l : List OpE) : Prop := FewP (l.map OpE.toD)
theorem FewE.text {l : List OpE} (h : FewE l) : ∀ o ∈ l, o.text.length ≤ 500 := fun o ho => h.1 o.toD (List.mem_map_of_mem ho)
theorem FewE.len {l : List OpE} (h : FewE l) : l.length ≤ 40 := by simpa using h.2
theorem Few_e (l : List OpE) (w : World) (a : Option Addr) (c : Nat) (h : OpsE w a l) (hll : l.length ≤ 9223372036854775807) (b : Bool) (hb : Hid (b = true ↔ FewE l)) :
    Calls Tryz.prog 8 #[.slice a l.length c] w fun e w' => e = .returned (.bool b) ∧ w = w' := by
  have := Few_any (l.map OpE.toD) w a c h.toR (by simpa using hll)
  rw [List.length_map] at this
  refine this.mono fun e w' ⟨⟨b', h1, h2⟩, h3⟩ => ⟨?_, h3⟩
  have : b' = b := Bool.eq_iff_iff.2 (h2.trans hb.out.symm)
  rw [h1, this]

theorem OpsE.old {w w' : World} {a : Option Addr} {l : List OpE} (h : OpsE w a l) (hb : Below w.heap.size w w') : OpsE w' a l := by
  intro i o hi
  obtain ⟨b, off, e, h1⟩ := h i o hi
  exact ⟨b, off, e, ⟨(hb.cell (cell_lt h1.c0)).trans h1.c0, (hb.cell (cell_lt h1.c1)).trans h1.c1, (hb.cell (cell_lt h1.c2)).trans h1.c2, (hb.cell (cell_lt h1.c3)).trans h1.c3, h1.k, h1.at1, h1.br.mono (Kept.of_below hb), h1.bn⟩⟩

theorem RG.oldE {w w' : World} {G : Nat → Prop} {ab : Option Addr} {xs : List Value} (h : RG w (fun _ => False) ab xs) (hb : Below w.heap.size w w') (lo : ∀ b, G b → w.heap.size ≤ b) : RG w' G ab xs := by
  intro i x hx
  obtain ⟨b, off, e, _, hc⟩ := h i x hx
  have hlt : b < w.heap.size := cell_lt hc
  exact ⟨b, off, e, fun hg => by have := lo b hg; omega, (hb.cell (p := ⟨b, off + i, none⟩) hlt).trans hc⟩

/-- both disks as 'made' gives them, the reference's in a new box -/
theorem St.made {w w1 : World} {S p : Nat} {G : Nat → Prop} {a1 a2 a3 : Option Addr} {c1 c2 c3 : Nat} (hM : Made w w1 S p G (.agg #[.slice a1 S c1, .slice a2 S c2, .slice a3 S c3])) (hE : Env w) (hb : Below w.heap.size w w1) :
    St (w1.alloc (.cells #[.slice a1 S c1, .slice a2 S c2, .slice a3 S c3] 28)) G p w1.heap.size S (Wl.Dk.new S).fmt.1 ∧ Cx (w1.alloc (.cells #[.slice a1 S c1, .slice a2 S c2, .slice a3 S c3] 28)) (fun b => G b ∨ b = w1.heap.size) ∧
      (∀ b, (G b ∨ b = w1.heap.size) → w.heap.size ≤ b) := by
  have hba := below_alloc w1 (.cells #[.slice a1 S c1, .slice a2 S c2, .slice a3 S c3] 28)
  have hn : ¬ G w1.heap.size := fun hg => Nat.lt_irrefl _ (hM.hi _ hg)
  have hlo : ∀ b, (G b ∨ b = w1.heap.size) → w.heap.size ≤ b := fun b hh => by
    rcases hh with hh | rfl
    · exact hM.lo b hh
    · exact hb.size
  obtain ⟨b1, k1, b2, k2, b3, k3, e, hR⟩ := hM.ref
  simp only [Value.agg.injEq, Array.mk.injEq, List.cons.injEq, Value.slice.injEq, and_true, true_and] at e
  obtain ⟨⟨rfl, rfl⟩, ⟨rfl, rfl⟩, rfl, rfl⟩ := e
  refine ⟨⟨hM.disk.mono hba, ⟨_, _, _, _, _, _, heap_alloc_new _ _, hR.lift hba (fun b hlt hh => hh.resolve_right (by omega))⟩, hn, by have := hM.disk.p_lt; omega⟩, ⟨fun w' hk => hE.mono ?_, fun b hh => ?_⟩, hlo⟩
  · exact (Below.step hb hba (Nat.le_refl _)).trans (hk.below hlo (Below.step hb hba (Nat.le_refl _)).size)
  · rcases hh with hh | rfl
    · have := hM.hi b hh; simp; omega
    · simp

section
variable {w : World} {G : Nat → Prop} {p n S : Nat} {d : Wl.Dk}

theorem Room_u (h : Disk w G p S d) (hE : Env w) :
    Calls Tryz.prog 13 #[.pointer (some ⟨p, 0, none⟩)] w fun e w' => e = .returned (.tuple #[.int .i64 (Wl.room d).1, .int .i64 (Wl.room d).2]) ∧ Below w.heap.size w w' := by
  have hn : d.now.length = S := h.ok.now
  unfold Wl.room
  cases hl : Wl.log d.now with
  | none => exact Room_none h hE (Lib.hid hl)
  | some L => simp only; rw [hn]; exact Room_some L h hE (Lib.hid hl)
theorem rRoom_u {a1 a2 a3 : Option Addr} {c1 c2 c3 : Nat} (h : RefD w G S a1 a2 a3 d) (hE : Env w) :
    Calls Tryz.prog 14 #[.agg #[.slice a1 S c1, .slice a2 S c2, .slice a3 S c3]] w fun e w' => e = .returned (.tuple #[.int .i64 (Wl.room d).1, .int .i64 (Wl.room d).2]) ∧ Below w.heap.size w w' := by
  have hn : d.now.length = S := h.ok.now
  unfold Wl.room
  cases hl : Wl.log d.now with
  | none => exact rRoom_none h hE (Lib.hid hl)
  | some L => simp only; rw [hn]; exact rRoom_some L h hE (Lib.hid hl)
end

end Go.Proofs.YtackeigdehfmmaaGreatDoor
