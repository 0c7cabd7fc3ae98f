import Derived.Test.YtijjagofingpdaaDoorParseR
namespace Go.Proofs.YtijjagofingpdaaDoor
open Go.RowKit

theorem split_any (s : List UInt8) : (Lib.hasPrefix s [45] = true ∧ s = 45 :: Lib.trimPrefix s [45]) ∨ (Lib.hasPrefix s [45] = false ∧ s = Lib.trimPrefix s [45] ∧ (Lib.trimPrefix s [45]).head? ≠ some 45) := by
  cases s with
  | nil => right; exact ⟨by decide, by decide, by decide⟩
  | cons c r =>
    by_cases h : c = 45
    · subst h
      left
      have h1 : Lib.hasPrefix (45 :: r) [45] = true := by simp [Lib.hasPrefix]
      exact ⟨h1, by unfold Lib.trimPrefix; rw [if_pos h1]; rfl⟩
    · right
      have h1 : Lib.hasPrefix (c :: r) [45] = false := by
        have hb : ((45 : UInt8) == c) = false := by rw [beq_eq_false_iff_ne]; exact fun e => h e.symm
        unfold Lib.hasPrefix
        rw [List.isPrefixOf, hb]
        rfl
      have h2 : Lib.trimPrefix (c :: r) [45] = c :: r := by unfold Lib.trimPrefix; rw [if_neg (by rw [h1]; simp)]
      refine ⟨h1, h2.symm, ?_⟩
      rw [h2]
      simpa using h

theorem Parse_all (s : List UInt8) (w : World) (hs : s.length ≤ 1000000) (hE : Env w) :
    Calls Tryd.prog 36 #[.string ⟨s.toArray⟩] w fun e w' => RParse w' (Lib.hasPrefix s [45]) (Lib.trimPrefix s [45]) s e ∧ Below w.heap.size w w' := by
  have hsp := split_any s
  generalize hn : Lib.hasPrefix s [45] = neg at *
  generalize ht : Lib.trimPrefix s [45] = t at *
  have hst : s = (if neg = true then [45] else []) ++ t := by
    rcases hsp with ⟨h1, h2⟩ | ⟨h1, h2, _⟩
    · rw [h1]; simpa using h2
    · rw [h1]; simpa using h2
  by_cases hg : Bi.textP neg t
  · refine (Parse_ok s neg t (Lib.hid hn.symm) (Lib.hid ht.symm) w (Lib.hid hg) hE).mono ?_
    rintro e w' ⟨⟨ng, ao, n, cap, k, rfl, HR⟩, hb⟩
    obtain ⟨h0, h3, hd, hz⟩ := hg
    have hzs : (sgn neg (Bi.decVal t)).natAbs < Bi.Big := by rw [sgn_natAbs]; exact Bi.dec_big hd h3
    obtain ⟨rfl, hV⟩ := HR.out.fits hzs
    exact ⟨⟨ng, ao, n, cap, 0, rfl, Lib.hid (.inl ⟨hd, h0, h3, by rw [hst]; exact (Bi.itoa_text hd h0).2 hz, hV, rfl⟩)⟩, hb⟩
  · refine (Parse_bad s w (by omega) (Lib.hid (by rw [hn, ht]; exact hg))).mono ?_
    rintro e w' ⟨rfl, hb⟩
    refine ⟨RParse.err ?_, hb⟩
    rintro ⟨hd, h0, h3, hi⟩
    apply hg
    refine ⟨h0, h3, hd, ?_⟩
    rw [hst] at hi
    exact (Bi.itoa_text hd h0).1 hi

theorem rParse_all (s : List UInt8) (w : World) (hs : s.length ≤ 1000000) :
    Calls Tryd.prog 37 #[.string ⟨s.toArray⟩] w fun e w' => RParse w' (Lib.hasPrefix s [45]) (Lib.trimPrefix s [45]) s e ∧ Below w.heap.size w w' :=
  rParse_any s _ _ hs (Lib.hid (split_any s)) w

end Go.Proofs.YtijjagofingpdaaDoor
