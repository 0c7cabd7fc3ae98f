import Derived.Test.YtackeigdehfmmaaDoorWG
import Derived.Laws.Bits64b
import Derived.Lib.ItoaMem
namespace Go.Proofs.YtackeigdehfmmaaDoor
open Go.RowKit

theorem pow16 (w : World) : Calls Tryd.prog 91 #[.int .i64 16] w fun e w' => e = .returned (.bool true) ∧ w = w' := by
  have h : bits BinOp.and IntKind.i64 16 15 = 0 := by decide
  go_enter Tryd.func91, Tryd.ntmps91
  go_wp2
  go_ret
  exact ⟨rfl, rfl⟩

/-- the table that the number of trailing zeros reads -/
def TzV (w : World) : Prop := w.cell? ⟨5, 15, none⟩ = some (.int .u8 4)

theorem TzV.mono {w w' : World} (h : TzV w) (hb : Below w.heap.size w w') : TzV w' := (hb.cell (cell_lt h)).trans h

theorem tz64 (w : World) (h : TzV w) : Calls Tryd.prog 98 #[.int .u64 16] w fun e w' => e = .returned (.int .i64 4) ∧ w = w' := by
  unfold TzV at h
  obtain ⟨X, hX⟩ : ∃ X, X = IntKind.u64.wrap (bits BinOp.and IntKind.u64 16 (IntKind.u64.wrap (-16)) * 285870213051353865) / 288230376151711744 := ⟨_, rfl⟩
  have hX15 : X = 15 := by rw [hX]; decide
  have hX2 : IntKind.u64.wrap (bits BinOp.and IntKind.u64 16 (IntKind.u64.wrap (-16)) * 285870213051353865) / 288230376151711744 = 15 := by rw [← hX]; exact hX15
  clear hX15 hX
  go_enter Tryd.func98, Tryd.ntmps98
  go_wp2
  go_ret
  exact ⟨rfl, rfl⟩

theorem tz16 (w : World) (h : TzV w) : Calls Tryd.prog 92 #[.int .u64 16] w fun e w' => e = .returned (.int .i64 4) ∧ w = w' := by
  have ht := tz64 w h
  clear h
  go_enter Tryd.func92, Tryd.ntmps92
  go_wp2_with fail
  (with_reducible refine ht.mono ?_)
  rintro e w' ⟨rfl, rfl⟩
  go_wp2
  go_ret
  exact ⟨rfl, rfl⟩

/-- bytes as cells -/
abbrev bvv (l : Wl.Bs) : List Value := l.map fun b => Value.int .u8 (b.toNat : Int)

theorem zero65 : Tryd.zeroCells131 = (bvv (List.replicate 65 0)).toArray := by kernel_rfl

theorem bvv_set {w : World} {g : Nat} {E : TypeId} {bs : Wl.Bs} (h : Row w g E (bvv bs)) (k : Nat) (D : Int) (d : UInt8) (hD : D = (d.toNat : Int)) : Row (w.setCell ⟨g, k, none⟩ (.int .u8 D)) g E (bvv (bs.set k d)) := by
  subst hD
  have := h.set k (.int .u8 (d.toNat : Int))
  rw [show bvv (bs.set k d) = (bvv bs).set k (.int .u8 (d.toNat : Int)) from List.map_set]
  exact this

theorem bvv_cell {w : World} {g : Nat} {E : TypeId} {bs : Wl.Bs} (h : Row w g E (bvv bs)) {k : Nat} (hk : k < bs.length) : w.cell? ⟨g, k, none⟩ = some (.int .u8 ((bs.getD k 0).toNat : Int)) := by
  rw [h.cell (by simpa using hk)]
  simp [List.getD_eq_getElem?_getD, List.getElem?_eq_getElem hk]

theorem and15 (x : Nat) (h : x < 4294967296) : bits BinOp.and IntKind.u64 (x : Int) 15 = ((x % 16 : Nat) : Int) := by
  have := bits_and_u64_nat x 15 (by omega) (by decide)
  rw [show (15 : Nat) = 2 ^ 4 - 1 from rfl, Nat.and_two_pow_sub_one_eq_mod] at this
  exact this

theorem dig_fin : ∀ d : Fin 16, (⟨#[48, 49, 50, 51, 52, 53, 54, 55, 56, 57, 97, 98, 99, 100, 101, 102, 103, 104, 105, 106, 107, 108, 109, 110, 111, 112, 113, 114, 115, 116, 117, 118, 119, 120, 121, 122]⟩ : ByteArray)[d.val]'(by have := d.isLt; show d.val < 36; omega) = Wl.hexD d.val := by decide

theorem dig_at (d : Nat) (h : d < 16) (h' : d < (⟨#[48, 49, 50, 51, 52, 53, 54, 55, 56, 57, 97, 98, 99, 100, 101, 102, 103, 104, 105, 106, 107, 108, 109, 110, 111, 112, 113, 114, 115, 116, 117, 118, 119, 120, 121, 122]⟩ : ByteArray).size) : ((((⟨#[48, 49, 50, 51, 52, 53, 54, 55, 56, 57, 97, 98, 99, 100, 101, 102, 103, 104, 105, 106, 107, 108, 109, 110, 111, 112, 113, 114, 115, 116, 117, 118, 119, 120, 121, 122]⟩ : ByteArray)[d]'h').toNat : Nat) : Int) = ((Wl.hexD d).toNat : Int) := by
  rw [← dig_fin ⟨d, h⟩]

theorem drop_set {bs : Wl.Bs} {i : Nat} {d : UInt8} (h : i < bs.length) : (bs.set i d).drop i = d :: bs.drop (i + 1) := by
  rw [List.drop_eq_getElem_cons (by simpa using h), List.getElem_set_self, List.drop_set_of_lt (by omega)]

theorem hexM_big {x : Nat} (h : 16 ≤ x) : Wl.hexM x = Wl.hexM (x / 16) ++ [Wl.hexD (x % 16)] := by
  rw [Wl.hexM, dif_neg (by omega)]
theorem hexM_small {x : Nat} (h : x < 16) : Wl.hexM x = [Wl.hexD x] := by
  rw [Wl.hexM, dif_pos h]

set_option maxRecDepth 100000 in
set_option maxHeartbeats 1600000 in
theorem fmt16 (u : Nat) (w : World) (hu : u < 4294967296) (h : TzV w) :
    Calls Tryd.prog 79 #[.slice none 0 0, .int .u64 u, .int .i64 16, .bool false, .bool false] w fun e w' => e = .returned (.tuple #[.slice none 0 0, sv (Wl.hexM u)]) ∧ Below w.heap.size w w' := by
  have hl8 := (Wl.hexM_pad 8 u (by omega) (by omega)).1
  go_enter Tryd.func79, Tryd.ntmps79
  go_wp2_with fail
  (with_reducible refine (pow16 _).mono ?_)
  rintro e w' ⟨rfl, rfl⟩
  go_wp2_with fail
  (with_reducible refine (tz16 _ ?_).mono ?_)
  · exact h.mono (below_alloc _ _)
  rintro e w' ⟨rfl, rfl⟩
  go_wp2_with fail
  go_loopw [1, 13] (fun s1 s13 wr => ∃ (k x : Nat) (bs : Wl.Bs), s1 = .int .u64 x ∧ s13 = .int .i64 (65 - (k : Int)) ∧ k + (Wl.hexM x).length ≤ 8 ∧ x < 4294967296 ∧ Row wr w.heap.size 131 (bvv bs) ∧ bs.length = 65 ∧ Hid (Wl.hexM u = Wl.hexM x ++ bs.drop (65 - k)) ∧ Below w.heap.size w wr) (fun s1 _ _ => (intOf s1).toNat)
  case atStart => exact ⟨0, u, List.replicate 65 0, rfl, rfl, by omega, hu, by show (w.alloc _).heap[w.heap.size]? = _; rw [heap_alloc_new, zero65], by simp, Lib.hid (by simp), below_alloc _ _⟩
  case round =>
    obtain ⟨k, x, bs, rfl, rfl, hk8, hx, hr, hbl, HI, hbel⟩ := hrel
    by_cases hx16 : 16 ≤ x
    · have hto : (65 - (k : Int) - 1).toNat = 64 - k := by omega
      have hc := bvv_cell hr (k := 64 - k) (by omega)
      have hf := hr.free (64 - k)
      have ha := and15 x hx
      go_wp2
      go_roundw
      case rel =>
        have hb := hexM_big hx16
        have hlen : (Wl.hexM x).length = (Wl.hexM (x / 16)).length + 1 := by rw [hb]; simp
        refine ⟨k + 1, x / 16, bs.set (64 - k) (Wl.hexD (x % 16)), by go_num, by rw [show (65 : Int) - ((k + 1 : Nat) : Int) = 65 - (k : Int) - 1 by omega], by omega, by omega, bvv_set hr _ _ _ (dig_at _ (by omega) _), by simpa using hbl, Lib.hid ?_, hbel.setCell (by simp) _⟩
        rw [HI.out, hb, show 65 - (k + 1) = 64 - k by omega, drop_set (by omega), show 64 - k + 1 = 65 - k by omega]
        simp
      case measure => simp [intOf]; omega
    · have hto : (65 - (k : Int) - 1).toNat = 64 - k := by omega
      have hc := bvv_cell hr (k := 64 - k) (by omega)
      have hf := hr.free (64 - k)
      have hlt : x < 16 := by omega
      have hk7 : k ≤ 7 := by rw [hexM_small hlt] at hk8; simp at hk8; omega
      have hal : Tryd.prog.arrayLen 131 = 65 := by kernel_rfl
      have hsl : ∀ W, (Instr.sliceAt 131 (.pointer (some ⟨w.heap.size, 0, none⟩)) (some (.int .i64 (65 - (k : Int) - 1))) none none).run Tryd.prog W = .ok (.slice (some ⟨w.heap.size, 64 - k, none⟩) (k + 1) (k + 1)) W := fun W => by
        rw [run_sliceAt_array_l W 131 ⟨w.heap.size, 0, none⟩ (by simp [Program.arrayLen, Program.elem, Tryd.underlying131]) .i64 (65 - (k : Int) - 1) (by omega) (by rw [hal]; omega)]
        go_simp
        omega
      have hx36 : x < (⟨#[48, 49, 50, 51, 52, 53, 54, 55, 56, 57, 97, 98, 99, 100, 101, 102, 103, 104, 105, 106, 107, 108, 109, 110, 111, 112, 113, 114, 115, 116, 117, 118, 119, 120, 121, 122]⟩ : ByteArray).size := by show x < 36; omega
      have hcv : (convert 31 9 (.slice (some ⟨w.heap.size, 64 - k, none⟩) (k + 1) (k + 1))).run Tryd.prog (wr.setCell ⟨w.heap.size, 64 - k, none⟩ (.int .u8 ((((⟨#[48, 49, 50, 51, 52, 53, 54, 55, 56, 57, 97, 98, 99, 100, 101, 102, 103, 104, 105, 106, 107, 108, 109, 110, 111, 112, 113, 114, 115, 116, 117, 118, 119, 120, 121, 122]⟩ : ByteArray)[x]'hx36).toNat : Nat) : Int))) =
          .ok (.string ⟨(Wl.hexM u).toArray⟩) (wr.setCell ⟨w.heap.size, 64 - k, none⟩ (.int .u8 ((((⟨#[48, 49, 50, 51, 52, 53, 54, 55, 56, 57, 97, 98, 99, 100, 101, 102, 103, 104, 105, 106, 107, 108, 109, 110, 111, 112, 113, 114, 115, 116, 117, 118, 119, 120, 121, 122]⟩ : ByteArray)[x]'hx36).toNat : Nat) : Int))) := by
        have hr2 := bvv_set hr (64 - k) _ _ (dig_at x hlt hx36)
        have e : Wl.hexM u = (bs.set (64 - k) (Wl.hexD x)).drop (64 - k) := by
          rw [HI.out, hexM_small hlt, drop_set (by omega), show 64 - k + 1 = 65 - k by omega]; rfl
        have hlen : (Wl.hexM u).length = k + 1 := by rw [e]; simp; omega
        have h3 := run_convert_bytes_back (P := Tryd.prog) (wr.setCell ⟨w.heap.size, 64 - k, none⟩ (.int .u8 ((((⟨#[48, 49, 50, 51, 52, 53, 54, 55, 56, 57, 97, 98, 99, 100, 101, 102, 103, 104, 105, 106, 107, 108, 109, 110, 111, 112, 113, 114, 115, 116, 117, 118, 119, 120, 121, 122]⟩ : ByteArray)[x]'hx36).toNat : Nat) : Int))) 31 9 5 ⟨w.heap.size, 64 - k, none⟩ (k + 1) (Wl.hexM u) Tryd.underlying31 Tryd.underlying5 Tryd.underlying9 (fun j hj => by
          have ha : (⟨w.heap.size, 64 - k, none⟩ : Addr).add j = ⟨w.heap.size, 64 - k + j, none⟩ := by
            unfold Addr.add; split
            · subst j; rfl
            · rfl
          rw [ha, bvv_cell hr2 (k := 64 - k + j) (by simp; omega)]
          have hj2 : (bs.set (64 - k) (Wl.hexD x)).getD (64 - k + j) 0 = (Wl.hexM u)[j] := by
            rw [List.getD_eq_getElem?_getD, ← List.getElem?_drop, ← e, List.getElem?_eq_getElem hj]; rfl
          rw [hj2])
        rw [hlen] at h3
        exact h3
      clear hal
      go_wp2
      go_ret2
      exact ⟨rfl, hbel.setCell (by simp) _⟩

end Go.Proofs.YtackeigdehfmmaaDoor
