import Derived.Test.YtijjagofingpdaaGreatDoorDiv
namespace Bi
theorem len_mono {a b : Nat} (h : a ≤ b) : (limbs a).length ≤ (limbs b).length := by
  apply Nat.le_of_not_lt
  intro h2
  have := val_lt_of_length h2
  omega

theorem bis_end {low n R : Nat} (h1 : n * low ≤ R) (h2 : R < n * (low + 1)) : low = R / n ∧ R - n * low = R % n := by
  obtain ⟨r, rfl⟩ : ∃ r, R = n * low + r := ⟨R - n * low, by omega⟩
  rw [Nat.mul_add] at h2
  have hn : 0 < n := by omega
  have hr : r < n := by omega
  rw [Nat.mul_add_div hn, Nat.div_eq_of_lt hr, Nat.mul_add_mod, Nat.mod_eq_of_lt hr]
  exact ⟨by omega, by omega⟩

theorem set_same {q : List Nat} {i : Nat} (hi : i < q.length) (h0 : q.getD i 0 = 0) : q.set i 0 = q := by
  apply List.ext_getElem?
  intro j
  by_cases hj : i = j
  · subst hj
    rw [List.getElem?_set_self hi, List.getElem?_eq_getElem hi]
    rw [List.getD_eq_getElem?_getD, List.getElem?_eq_getElem hi] at h0
    simp only [Option.getD_some] at h0
    rw [h0]
  · rw [List.getElem?_set_ne hj]

theorem rdiv_zero {u q : List Nat} {i v rest x J : Nat} (hv : 0 < v) (hi : i < u.length) (hql : q.length = u.length) (hx : u.getD i 0 = x) (hJ : J = i + 1) (hinv : val (q.drop J) * v + rest = val (u.drop J)) (h0 : q.getD i 0 = 0) (hlt : rest * 1000000000 + x < v) {I : Nat} (hI : I = i) :
    val (q.drop I) * v + (rest * 1000000000 + x) = val (u.drop I) := by
  subst hJ hI
  have := short_step hv hi hql hx hinv
  rwa [Nat.div_eq_of_lt hlt, Nat.mod_eq_of_lt hlt, set_same (by omega) h0] at this

theorem rdiv_step {u q : List Nat} {i v rest x J low : Nat} (hi : i < u.length) (hql : q.length = u.length) (hx : u.getD i 0 = x) (hJ : J = i + 1) (hinv : val (q.drop J) * v + rest = val (u.drop J)) (h1 : v * low ≤ rest * 1000000000 + x) (h2 : rest * 1000000000 + x < v * (low + 1)) {I : Nat} (hI : I = i) :
    val ((q.set i low).drop I) * v + (rest * 1000000000 + x - v * low) = val (u.drop I) ∧ rest * 1000000000 + x - v * low < v := by
  subst hJ hI
  have hv : 0 < v := by
    rcases Nat.eq_zero_or_pos v with h | h
    · subst h; omega
    · exact h
  have := short_step hv hi hql hx hinv
  obtain ⟨e1, e2⟩ := bis_end h1 h2
  rw [e2, e1]
  rw [e1] at e2
  exact ⟨this, Nat.mod_lt _ hv⟩

theorem val_cons9 (x : Nat) (l : List Nat) : val (x :: l) = val l * 1000000000 + x := by simp [val]; omega
end Bi
namespace Go.Proofs.YtijjagofingpdaaGreatDoor
open Go.RowKit

theorem OwnU.lit1 (w : World) (Y : Int) (y : Nat) (hY : Y = (y : Int)) : OwnU (w.alloc (.cells #[.int .u32 Y] 45)) w.heap.size (.slice (some ⟨w.heap.size, 0, none⟩) 1 1) [y] := by
  subst hY
  exact World.ownsRow_lit (base := w.heap.size) (e := 45) (size := 1) w #[.int .u32 (y : Int)] 1 (Nat.le_refl _) (by simp [maxLen]) (by simp)

end Go.Proofs.YtijjagofingpdaaGreatDoor
