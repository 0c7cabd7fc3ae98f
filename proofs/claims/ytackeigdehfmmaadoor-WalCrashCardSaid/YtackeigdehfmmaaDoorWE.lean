import Derived.Test.YtackeigdehfmmaaDoorWD
namespace Go.Proofs.YtackeigdehfmmaaDoor
open Go.RowKit

theorem Tryd.info9 : (Tryd.prog.info? 9).map (fun i => (i.zero, i.size, i.bytes)) = some (some (.string ⟨#[]⟩), 1, 16) := by kernel_rfl
theorem Tryd.info4 : (Tryd.prog.info? 4).map (fun i => (i.zero, i.size, i.bytes)) = some (some (.bool false), 1, 1) := by kernel_rfl
theorem Tryd.info3 : (Tryd.prog.info? 3).map (fun i => (i.zero, i.size, i.bytes)) = some (some (.int .i64 0), 1, 8) := by kernel_rfl

/-- make of n zeros of one cell -/
theorem mk_run (T E bytes n : Nat) (z : Value) (hT : Tryd.prog.underlying T = some (.slice E)) (hE : (Tryd.prog.info? E).map (fun i => (i.zero, i.size, i.bytes)) = some (some z, 1, bytes)) (hz : z.cells = #[z]) (hb : bytes ≤ 16) (hn : n ≤ 1000000) (w : World) :
    (Instr.makeSlice T (.int .i64 (n : Int)) (.int .i64 (n : Int))).run Tryd.prog w = .ok (.slice (some ⟨w.heap.size, 0, none⟩) n n) (w.alloc (.cells (List.replicate n z).toArray E)) := by
  obtain ⟨i0, hi, hz0, hz1, hz2⟩ := info_parts hE
  have hbn : bytes * n ≤ 16 * 1000000 := Nat.mul_le_mul hb hn
  have hbn2 : ((bytes * n : Nat) : Int) ≤ 281474976710656 := by omega
  rw [Int.natCast_mul] at hbn2
  have hr := run_make (P := Tryd.prog) w T E i0 z hT hi hz0 .i64 .i64 n n (by omega) (Int.le_refl _) (by rw [hz2]; exact hbn2) (by omega)
  simp only [Int.toNat_natCast, hz1, Nat.mul_one, hz] at hr
  rw [hr]
  have : madeCells #[z] n = (List.replicate n z).toArray := by rw [← toList_madeCells_one, Array.toArray_toList]
  rw [this]

theorem heap4 (w : World) (A B C D : Obj) (V : World) (hV : V = ((((w.alloc A).alloc B).alloc C).alloc D).drew) :
    V.heap[w.heap.size]? = some A ∧ V.heap[w.heap.size + 1]? = some B ∧ V.heap[w.heap.size + 1 + 1]? = some C ∧ V.heap[w.heap.size + 1 + 1 + 1]? = some D ∧ V.heap.size = w.heap.size + 1 + 1 + 1 + 1 ∧ Below w.heap.size w V := by
  subst hV
  have e : ((((w.alloc A).alloc B).alloc C).alloc D).drew.heap = (((w.heap.push A).push B).push C).push D := rfl
  refine ⟨?_, ?_, ?_, ?_, ?_, ?_⟩
  · rw [e]; rw [Array.getElem?_push, if_neg (by simp; try omega)]; rw [Array.getElem?_push, if_neg (by simp; try omega)]; rw [Array.getElem?_push, if_neg (by simp; try omega)]; rw [Array.getElem?_push, if_pos (by simp)]
  · rw [e]; rw [Array.getElem?_push, if_neg (by simp; try omega)]; rw [Array.getElem?_push, if_neg (by simp; try omega)]; rw [Array.getElem?_push, if_pos (by simp)]
  · rw [e]; rw [Array.getElem?_push, if_neg (by simp; try omega)]; rw [Array.getElem?_push, if_pos (by simp)]
  · rw [e]; rw [Array.getElem?_push, if_pos (by simp)]
  · rw [e]; simp
  · exact (((((Below.refl _ _).alloc (Nat.le_refl _) _).alloc (by simp) _).alloc (by simp; omega) _).alloc (by simp; omega) _).drew

theorem disk_made {w w' : World} {S a b c : Nat} (h1 : 1 ≤ S) (h2 : S ≤ 1024) (hb : Below w.heap.size w w') (hs : w'.heap.size = w.heap.size + 1 + 1 + 1 + 1)
    (ra : w'.heap[a]? = some (.cells (Array.replicate S (.string ⟨#[]⟩)) 9 (0, 0))) (rb : w'.heap[b]? = some (.cells (Array.replicate S (.string ⟨#[]⟩)) 9 (0, 0))) (rc : w'.heap[c]? = some (.cells (Array.replicate S (.bool false)) 4 (0, 0)))
    (rp : Row w' (w.heap.size + 1 + 1 + 1) 85 [.slice (some ⟨a, 0, none⟩) S S, .slice (some ⟨b, 0, none⟩) S S, .slice (some ⟨c, 0, none⟩) S S])
    (la : w.heap.size ≤ a ∧ a < w.heap.size + 1 + 1 + 1) (lb : w.heap.size ≤ b ∧ b < w.heap.size + 1 + 1 + 1) (lc : w.heap.size ≤ c ∧ c < w.heap.size + 1 + 1 + 1) (n1 : a ≠ b) (n2 : a ≠ c) (n3 : b ≠ c) :
    (∃ (p : Nat) (G : Nat → Prop), Ending.returned (.tuple #[.pointer (some ⟨w.heap.size + 1 + 1 + 1, 0, none⟩), .int .i64 0]) = .returned (.tuple #[.pointer (some ⟨p, 0, none⟩), .int .i64 0]) ∧ w.heap.size ≤ p ∧ Disk w' G p S (Wl.Dk.new S) ∧ (∀ b, G b → w.heap.size ≤ b ∧ b < w'.heap.size)) ∧ Below w.heap.size w w' := by
  refine ⟨⟨w.heap.size + 1 + 1 + 1, fun x => x = a ∨ x = b ∨ x = c, rfl, by omega, ⟨a, b, c, ?_⟩, fun x hx => by omega⟩, hb⟩
  refine ⟨rp.cell (k := 0) (by simp), rp.cell (k := 1) (by simp), rp.cell (k := 2) (by simp), by omega, .inl rfl, .inr (.inl rfl), .inr (.inr rfl), n1, n2, n3, ?_, ?_, ?_, Wl.Dk.Ok.new S, h1, h2⟩
  · simpa [Wl.Dk.new, Row] using ra
  · simpa [Wl.Dk.new, Row] using rb
  · simpa [Wl.Dk.new, Row] using rc

set_option maxRecDepth 100000 in
set_option maxHeartbeats 1600000 in
theorem New_yes (S : Nat) (w : World) (h1 : 1 ≤ S) (h2 : S ≤ 1024) :
    Calls Tryd.prog 36 #[.int .i64 S] w fun e w' => (∃ (p : Nat) (G : Nat → Prop), e = .returned (.tuple #[.pointer (some ⟨p, 0, none⟩), .int .i64 0]) ∧ w.heap.size ≤ p ∧ Disk w' G p S (Wl.Dk.new S) ∧ (∀ b, G b → w.heap.size ≤ b ∧ b < w'.heap.size)) ∧ Below w.heap.size w w' := by
  have m1 := mk_run 33 9 16 S (.string ⟨#[]⟩) Tryd.underlying33 Tryd.info9 rfl (by omega) (by omega)
  have m2 := mk_run 34 4 1 S (.bool false) Tryd.underlying34 Tryd.info4 rfl (by omega) (by omega)
  go_enter Tryd.func36, Tryd.ntmps36
  go_wp2
  go_region
  all_goals go_wp2
  all_goals go_ret2
  all_goals
    obtain ⟨hA, hB, hC, hD, hs, hb⟩ := heap4 w _ _ _ _ _ rfl
    first
    | exact disk_made (a := w.heap.size) (b := (w.heap.size + 1)) (c := (w.heap.size + 1 + 1)) h1 h2 hb hs hA hB hC hD (by omega) (by omega) (by omega) (by omega) (by omega) (by omega)
    | exact disk_made (a := w.heap.size) (b := (w.heap.size + 1 + 1)) (c := (w.heap.size + 1)) h1 h2 hb hs hA hC hB hD (by omega) (by omega) (by omega) (by omega) (by omega) (by omega)
    | exact disk_made (a := (w.heap.size + 1)) (b := w.heap.size) (c := (w.heap.size + 1 + 1)) h1 h2 hb hs hB hA hC hD (by omega) (by omega) (by omega) (by omega) (by omega) (by omega)
    | exact disk_made (a := (w.heap.size + 1)) (b := (w.heap.size + 1 + 1)) (c := w.heap.size) h1 h2 hb hs hB hC hA hD (by omega) (by omega) (by omega) (by omega) (by omega) (by omega)
    | exact disk_made (a := (w.heap.size + 1 + 1)) (b := w.heap.size) (c := (w.heap.size + 1)) h1 h2 hb hs hC hA hB hD (by omega) (by omega) (by omega) (by omega) (by omega) (by omega)
    | exact disk_made (a := (w.heap.size + 1 + 1)) (b := (w.heap.size + 1)) (c := w.heap.size) h1 h2 hb hs hC hB hA hD (by omega) (by omega) (by omega) (by omega) (by omega) (by omega)

/-- a new slice of the given cells -/
def NewV (W : World) (E : TypeId) (xs : List Value) (e : Ending) (w' : World) : Prop := ∃ v, e = .returned v ∧ OwnV w' W.heap.size E v xs

section
variable {w : World} {G : Nat → Prop} {p S : Nat} {d : Wl.Dk}

set_option maxRecDepth 100000 in
set_option maxHeartbeats 800000 in
theorem Dirty_any (h : Disk w G p S d) :
    Calls Tryd.prog 44 #[.pointer (some ⟨p, 0, none⟩)] w fun e w' => NewV w 3 (nvs d.changed) e w' ∧ Below w.heap.size w w' := by
  obtain ⟨g1, g2, g3, h⟩ := h
  have c2 := h.c2
  have hS := h.hi
  have H := Lib.hid h
  have k2 := h.ok.dirty
  have K2 := Lib.hid k2
  clear h k2
  go_enter Tryd.func44, Tryd.ntmps44
  go_wp2_with fail
  go_loopw [3, 11] (fun v c wr => ∃ k : Nat, k ≤ S ∧ c = .int .i64 k ∧ OwnV wr w.heap.size 3 v (nvs (Wl.chg d.dirty k)) ∧ Kept (fun _ => False) w wr) (fun _ c _ => S - (intOf c).toNat)
  case atStart => exact ⟨0, Nat.zero_le _, rfl, OwnV.nil _ _ _, Kept.refl _⟩
  case round =>
    obtain ⟨k, hk, rfl, hown, hkp⟩ := hrel
    have c2 := hkp.cell c2 (fun h => h)
    by_cases hlt : k < S
    · have a3 := hkp.cell (H.out.dirty hlt) (fun h => h)
      have hln := Wl.chg_len d.dirty k
      by_cases hd : d.dirty.getD k false = true
      · have hs : Wl.chg d.dirty (k + 1) = Wl.chg d.dirty k ++ [k] := by rw [Wl.chg, if_pos hd]
        have HS := Lib.hid hs
        rw [hd] at a3
        clear hd hs
        go_wp2_with (at_builtin; refine app_v _ (.int .i64 (k : Int)) 86 3 8 (.int .i64 0) rfl (.tmp 17) (.tmp 19) rfl Tryd.underlying86 Tryd.info3 rfl (by omega) w w.heap.size _ (nvs (Wl.chg d.dirty k)) rfl hown hkp.size (fun _ => False) hkp (Nat.le_refl _) rfl rfl (by simp; omega) ?_; intro v2 w2 hown2 hkp2 hsz2)
        go_roundw
        case rel => exact ⟨k + 1, by omega, by go_num, by rw [HS.out]; simpa using hown2, hkp2⟩
        case measure => simp [intOf]; omega
      · have hs : Wl.chg d.dirty (k + 1) = Wl.chg d.dirty k := by rw [Wl.chg, if_neg hd]
        have HS := Lib.hid hs
        rw [Bool.eq_false_iff.2 hd] at a3
        clear hd hs
        go_wp2
        go_roundw
        case rel => exact ⟨k + 1, by omega, by go_num, by rw [HS.out]; exact hown, hkp⟩
        case measure => simp [intOf]; omega
    · have hkS : k = S := by omega
      go_wp2
      go_ret
      exact ⟨⟨_, rfl, by unfold Wl.Dk.changed; rw [K2.out, ← hkS]; exact hown⟩, hkp.to⟩
end

end Go.Proofs.YtackeigdehfmmaaDoor
