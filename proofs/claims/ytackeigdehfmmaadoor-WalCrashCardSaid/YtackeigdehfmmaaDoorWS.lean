import Derived.Test.YtackeigdehfmmaaDoorWR
namespace Wl
open Go
theorem spc_split {a b : Bs} : spc (a ++ 10 :: b) a.length = Lib.index a [32] := by
  unfold spc; rw [List.take_left]

/-- where the parts of a written record lie -/
theorem IsRec.places {s : Bs} {n : Nat} {r : Bs} (h : IsRec s n r) : ∃ A P : Nat, A < s.length ∧ (10 : UInt8) ∉ s.take A ∧ s.getD A 0 = 10 ∧ spc s A = P ∧ 1 ≤ P ∧ num ((s.drop 1).take (P - 1)) = some n ∧ s.drop (A + 1) = r ∧ s.length - (A + 1) ≤ 65000 ∧ Wl.enc (n : Int) (s.drop (A + 1)) = s := by
  have he : s = headB n r ++ 10 :: r := by rw [h.eq, encB_head]
  have hh : headB n r = (119 :: txt n) ++ 32 :: (txt r.length ++ 32 :: hexN 8 (crc (txt n ++ 32 :: r))) := by simp [headB]
  have hd : s.drop ((headB n r).length + 1) = r := by
    rw [he, List.drop_append, List.drop_eq_nil_of_le (by omega)]; simp
  refine ⟨(headB n r).length, (txt n).length + 1, ?_, ?_, ?_, ?_, by omega, ?_, hd, ?_, ?_⟩
  · rw [he]; simp
  · rw [he, List.take_left]; exact headB_no n r
  · rw [he, List.getD_eq_getElem?_getD, List.getElem?_append_right (Nat.le_refl _)]; simp
  · rw [he, spc_split, hh, index_split]
    · simp
    · simp; exact txt_no (by decide)
  · rw [he, hh]
    refine num_some.2 ⟨h.n_le, ?_⟩
    simp
  · have := congrArg List.length hd
    rw [List.length_drop] at this
    have := h.r_le
    omega
  · rw [hd]; exact h.enc
end Wl
namespace Go.Proofs.YtackeigdehfmmaaDoor
open Go.RowKit

theorem rDecode_some (s : Wl.Bs) (n : Nat) (r : Wl.Bs) (w : World) (hs : s.length ≤ 1000000) (h : Hid (Wl.IsRec s n r)) (hE : Env w) :
    Calls Tryd.prog 11 #[sv s] w fun e w' => e = .returned (.tuple #[.int .i64 n, sv r, .int .i64 0]) ∧ Below w.heap.size w w' := by
  obtain ⟨A, P, h1, h2, h3, h4, h5, h6, h7, h8, h9⟩ := h.out.places
  rw [← h7]
  exact rDecode_good s A P w hs h1 (Lib.hid h2) (Lib.hid h3) (Lib.hid h4) h5 n (Lib.hid h6) h8 (Lib.hid h9) hE

theorem rDecode_none (s : Wl.Bs) (w : World) (hs : s.length ≤ 1000000) (h : Hid (Wl.dec s = none)) (hE : Env w) :
    Calls Tryd.prog 11 #[sv s] w fun e w' => Torn e ∧ Below w.heap.size w w' := by
  rcases Wl.mem_cases 10 s with h1 | ⟨a, b, hab, ha⟩
  · exact (rDecode_noline s s.length w hs rfl (Lib.hid (by rw [List.take_length]; exact h1))).mono fun e w' ⟨h1, h2⟩ => ⟨h1, h2 ▸ Below.refl _ _⟩
  · have hl : a.length < s.length := by rw [hab]; simp
    have h10 : s.getD a.length 0 = 10 := by rw [hab, List.getD_eq_getElem?_getD, List.getElem?_append_right (Nat.le_refl _)]; simp
    have hta : (10 : UInt8) ∉ s.take a.length := by rw [hab, List.take_left]; exact ha
    by_cases hsp : Wl.spc s a.length < 1
    · exact (rDecode_nospace s a.length w hs hl (Lib.hid hta) (Lib.hid h10) (Lib.hid hsp)).mono fun e w' ⟨h1, h2⟩ => ⟨h1, h2 ▸ Below.refl _ _⟩
    · obtain ⟨P, hP⟩ : ∃ P : Nat, Wl.spc s a.length = P := ⟨(Wl.spc s a.length).toNat, by omega⟩
      have hP1 : 1 ≤ P := by omega
      cases hn : Wl.num ((s.drop 1).take (P - 1)) with
      | none => exact rDecode_nonum s a.length P w hs hl (Lib.hid hta) (Lib.hid h10) (Lib.hid hP) hP1 (Lib.hid hn) hE
      | some n =>
        by_cases hr : 65000 < s.length - (a.length + 1)
        · exact rDecode_long s a.length P w hs hl (Lib.hid hta) (Lib.hid h10) (Lib.hid hP) hP1 n (Lib.hid hn) hr hE
        · have hne : s ≠ Wl.enc (n : Int) (s.drop (a.length + 1)) := Wl.dec_none_ne h.out (by rintro rfl; simp at hl) _ _
          exact rDecode_other s a.length P w hs hl (Lib.hid hta) (Lib.hid h10) (Lib.hid hP) hP1 n (Lib.hid hn) (by omega) _ (Lib.hid rfl) (beq_eq_false_iff_ne.2 hne.symm) hE

end Go.Proofs.YtackeigdehfmmaaDoor
