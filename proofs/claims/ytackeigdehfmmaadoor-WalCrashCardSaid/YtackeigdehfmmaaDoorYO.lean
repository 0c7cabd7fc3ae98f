import Derived.Test.YtackeigdehfmmaaDoorYN
namespace Go.Proofs.YtackeigdehfmmaaDoor
open Go.RowKit

section
variable {w : World} {G : Nat → Prop} {p S : Nat} {d : Wl.Dk}

theorem Append_app (r : Wl.Bs) (h : Disk w G p S d) (hE : Env w) (hr : r.length ≤ 1000000000) :
    Calls Tryd.prog 14 #[.pointer (some ⟨p, 0, none⟩), sv r] w fun e w' => e = .returned (.tuple #[.int .i64 ((d.app r).2.1 : Nat), .int .i64 ((d.app r).2.2 : Nat)]) ∧ Disk w' G p S (d.app r).1 ∧ Kept G w w' := by
  unfold Wl.Dk.app
  cases hl : Wl.log d.now with
  | none => exact (Append_none r h hE (Lib.hid hl)).mono fun e w' ⟨h1, h2⟩ => ⟨h1, h.mono h2, .of_below h2⟩
  | some L =>
    have hn : d.now.length = S := h.ok.now
    simp only
    by_cases hc : 65000 < r.length ∨ d.now.length - 2 ≤ L.recs.length ∨ Wl.lim < L.first + L.recs.length
    · rw [if_pos hc]
      rw [hn] at hc
      exact (Append_full r L h hE (Lib.hid hl) hr hc).mono fun e w' ⟨h1, h2⟩ => ⟨h1, h.mono h2, .of_below h2⟩
    · rw [if_neg hc, hn]
      rw [hn] at hc
      exact Append_ok r L h hE (Lib.hid hl) (by omega) (by omega) (by omega)

theorem Cut_cut (x : Int) (h : Disk w G p S d) (hE : Env w) :
    Calls Tryd.prog 15 #[.pointer (some ⟨p, 0, none⟩), .int .i64 x] w fun e w' => e = .returned (.int .i64 ((d.cut x).2 : Nat)) ∧ Disk w' G p S (d.cut x).1 ∧ Kept G w w' := by
  unfold Wl.Dk.cut
  cases hl : Wl.log d.now with
  | none => exact (Cut_none x h hE (Lib.hid hl)).mono fun e w' ⟨h1, h2⟩ => ⟨h1, h.mono h2, .of_below h2⟩
  | some L =>
    simp only
    by_cases hc : x < L.first ∨ ((L.first + L.recs.length : Nat) : Int) < x
    · rw [if_pos hc]
      exact (Cut_range x L h hE (Lib.hid hl) hc).mono fun e w' ⟨h1, h2⟩ => ⟨h1, h.mono h2, .of_below h2⟩
    · rw [if_neg hc]
      obtain ⟨k, rfl⟩ : ∃ k : Nat, x = k := ⟨x.toNat, by omega⟩
      rw [Int.toNat_natCast]
      exact Cut_ok k L h hE (Lib.hid hl) (by omega) (by omega)

/-- what appending and cutting do to a disk that crashes are tried on -/
def AppC (w' : World) (G : Nat → Prop) (p S c : Nat) (d : Wl.Dk) (all : List Wl.Bs) (first synced : Nat) (r : Wl.Bs) (e : Ending) : Prop :=
  (e = .returned (.tuple #[.int .i64 0, .int .i64 3]) ∧ Disk w' G p S d) ∨
  ∃ d', e = .returned (.tuple #[.int .i64 all.length, .int .i64 0]) ∧ Disk w' G p S d' ∧ Hid (Wl.CInv S (c + 1) ⟨d', all ++ [r], first, synced⟩)

theorem Append_c {c : Nat} {all : List Wl.Bs} {first synced : Nat} (r : Wl.Bs) (h : Disk w G p S d) (hE : Env w) (hI : Hid (Wl.CInv S c ⟨d, all, first, synced⟩)) (hc : c ≤ 1000) (hr : r.length ≤ 500) :
    Calls Tryd.prog 14 #[.pointer (some ⟨p, 0, none⟩), sv r] w fun e w' => AppC w' G p S c d all first synced r e ∧ Kept G w w' := by
  refine (Append_app r h hE (by omega)).mono fun e w' ⟨h1, h2, h3⟩ => ⟨?_, h3⟩
  rcases hI.out.app hc hr with h4 | ⟨d', h4, h5⟩
  · rw [h4] at h1 h2
    exact .inl ⟨h1, h2⟩
  · rw [h4] at h1 h2
    exact .inr ⟨d', h1, h2, Lib.hid h5⟩

def CutC (w' : World) (G : Nat → Prop) (p S c : Nat) (d : Wl.Dk) (all : List Wl.Bs) (x : Int) (e : Ending) : Prop :=
  (e = .returned (.int .i64 7) ∧ Disk w' G p S d) ∨
  ∃ (d' : Wl.Dk) (n : Nat), e = .returned (.int .i64 0) ∧ x = n ∧ Disk w' G p S d' ∧ Hid (Wl.CInv S (c + 1) ⟨d', all, n, all.length⟩)

theorem Cut_c {c : Nat} {all : List Wl.Bs} {first synced : Nat} (x : Int) (h : Disk w G p S d) (hE : Env w) (hI : Hid (Wl.CInv S c ⟨d, all, first, synced⟩)) (hc : c ≤ 1000) :
    Calls Tryd.prog 15 #[.pointer (some ⟨p, 0, none⟩), .int .i64 x] w fun e w' => CutC w' G p S c d all x e ∧ Kept G w w' := by
  refine (Cut_cut x h hE).mono fun e w' ⟨h1, h2, h3⟩ => ⟨?_, h3⟩
  rcases hI.out.cut hc x with h4 | ⟨d', h4, h5, h6⟩
  · rw [h4] at h1 h2
    exact .inl ⟨h1, h2⟩
  · rw [h4] at h1 h2
    obtain ⟨n, rfl⟩ : ∃ n : Nat, x = n := ⟨x.toNat, by omega⟩
    rw [Int.toNat_natCast] at h6
    exact .inr ⟨d', n, h1, rfl, h2, Lib.hid h6⟩

/-- what a crash leaves: the log's first number stays; its records are the first ones of those from there on -/
theorem crash_c {c : Nat} {all : List Wl.Bs} {first synced : Nat} (hI : Hid (Wl.CInv S c ⟨d, all, first, synced⟩)) (hc : c ≤ 1000) (bits : List Nat) :
    ∃ hd g, Hid (Wl.log (d.crash bits).now = some ⟨hd, first, (all.drop first).take g⟩) ∧ first + g ≤ all.length ∧ synced ≤ first + g := by
  obtain ⟨hd, g, h1, h2, h3⟩ := hI.out.crash hc bits
  exact ⟨hd, g, Lib.hid h1, h2, h3⟩
end

end Go.Proofs.YtackeigdehfmmaaDoor
