import Derived.Test.YtackeigdehfmmaaDoorYM
namespace Go.Proofs.YtackeigdehfmmaaDoor
open Go.RowKit

/-- an operation with a log, as it lies in four cells -/
structure OpD where
  k : Nat
  at' : Int
  text : Wl.Bs
  bits : Value

structure OpAt (w : World) (b off : Nat) (o : OpD) : Prop where
  c0 : w.cell? ⟨b, off, none⟩ = some (.int .u8 o.k)
  c1 : w.cell? ⟨b, off + 1, none⟩ = some (.int .i8 o.at')
  c2 : w.cell? ⟨b, off + 2, none⟩ = some (sv o.text)
  c3 : w.cell? ⟨b, off + 3, none⟩ = some o.bits
  k : o.k < 256
  at1 : -128 ≤ o.at' ∧ o.at' ≤ 127
  bv : ∃ a n c, o.bits = .slice a n c

def OpsR (w : World) (a : Option Addr) (l : List OpD) : Prop := ∀ i o, l[i]? = some o → ∃ b off, a = some ⟨b, off, none⟩ ∧ OpAt w b (off + i * 4) o

theorem OpAt.mono {w w' : World} {b off : Nat} {o : OpD} (h : OpAt w b off o) (hb : Below w.heap.size w w') : OpAt w' b off o :=
  ⟨(hb.cell (cell_lt h.c0)).trans h.c0, (hb.cell (cell_lt h.c1)).trans h.c1, (hb.cell (cell_lt h.c2)).trans h.c2, (hb.cell (cell_lt h.c3)).trans h.c3, h.k, h.at1, h.bv⟩
theorem OpsR.mono {w w' : World} {a : Option Addr} {l : List OpD} (h : OpsR w a l) (hb : Below w.heap.size w w') : OpsR w' a l := by
  intro i o hi
  obtain ⟨b, off, e, h1⟩ := h i o hi
  exact ⟨b, off, e, h1.mono hb⟩

def FewP (l : List OpD) : Prop := (∀ o ∈ l, o.text.length ≤ 500) ∧ l.length ≤ 40
def FewR (l : List OpD) (e : Ending) : Prop := ∃ b, e = .returned (.bool b) ∧ (b = true ↔ FewP l)

set_option maxRecDepth 100000 in
set_option maxHeartbeats 1600000 in
theorem Few_any (l : List OpD) (w : World) (a : Option Addr) (c : Nat) (h : OpsR w a l) (hll : l.length ≤ 9223372036854775807) :
    Calls Tryd.prog 13 #[.slice a l.length c] w fun e w' => FewR l e ∧ w = w' := by
  have H := Lib.hid h
  clear h
  go_enter Tryd.func13, Tryd.ntmps13
  go_wp2
  go_loop [3] (fun s3 => ∃ k : Nat, k ≤ l.length ∧ s3 = .int .i64 k ∧ Hid (∀ i o, i < k → l[i]? = some o → o.text.length ≤ 500)) (fun s3 => l.length - (intOf s3).toNat)
  case atStart => exact ⟨0, Nat.zero_le _, rfl, Lib.hid (fun i o h _ => absurd h (by omega))⟩
  case round =>
    obtain ⟨k, hk, rfl, HI⟩ := hrel
    by_cases hlt : k < l.length
    · obtain ⟨o, ho⟩ : ∃ o, l[k]? = some o := ⟨_, List.getElem?_eq_getElem hlt⟩
      obtain ⟨b, off, rfl, hat⟩ := H.out k o ho
      have c2 := hat.c2
      have HO := Lib.hid ho
      clear hat ho
      by_cases ht : o.text.length ≤ 500
      · have HT := Lib.hid ht
        have hd : decide ((500 : Int) < (o.text.length : Int)) = false := by simp <;> omega
        generalize o.text = t at c2 hd ht
        go_wp2
        go_round
        case rel =>
          refine ⟨k + 1, by omega, by go_num, Lib.hid ?_⟩
          intro i o' hi ho'
          by_cases hik : i < k
          · exact HI.out i o' hik ho'
          · have : i = k := by omega
            subst this
            rw [HO.out] at ho'
            cases ho'
            exact HT.out
        case measure => simp [intOf]; omega
      · have HT := Lib.hid ht
        have hd : decide ((500 : Int) < (o.text.length : Int)) = true := by simp <;> omega
        clear ht
        generalize ht : o.text = t at c2 hd
        have HT2 := Lib.hid ht
        clear ht
        go_wp2
        go_ret
        exact ⟨⟨false, rfl, by simp; intro hf; exact HT.out (hf.1 o (List.mem_of_getElem? HO.out))⟩, rfl⟩
    · have hkl : k = l.length := by omega
      subst hkl
      go_wp2
      go_ret
      refine ⟨⟨_, rfl, ?_⟩, rfl⟩
      simp only [decide_eq_true_eq]
      constructor
      · intro h40
        refine ⟨fun o ho => ?_, by omega⟩
        obtain ⟨i, hi, rfl⟩ := List.getElem_of_mem ho
        exact HI.out i _ hi (List.getElem?_eq_getElem hi)
      · intro hf
        have := hf.2
        omega

end Go.Proofs.YtackeigdehfmmaaDoor
