import Derived.Test.YtackeigdehfmmaaDoorWH
import Derived.Test.YtackeigdehfmmaaDoorShelf
import Derived.Lib.AppendIntMem
namespace Go.Proofs.YtackeigdehfmmaaDoor
open Go.RowKit

/-- a variable of the library's that holds an error -/
def ErrV (w : World) (g : Nat) : Prop := ∃ ev, w.cell? ⟨g, 0, none⟩ = some ev ∧ (ev = .nilIface ∨ ∃ te pe, ev = .iface te pe)
theorem ErrV.mono {w w' : World} {g : Nat} (h : ErrV w g) (hb : Below w.heap.size w w') : ErrV w' g := by
  obtain ⟨ev, hc, he⟩ := h; exact ⟨ev, (hb.cell (cell_lt hc)).trans hc, he⟩

/-- the library's variable that the search in strings reads -/
def MaxV (w : World) : Prop := ∃ m : Int, w.cell? ⟨0, 0, none⟩ = some (.int .i64 m)
theorem MaxV.mono {w w' : World} (h : MaxV w) (hb : Below w.heap.size w w') : MaxV w' := by
  obtain ⟨m, hm⟩ := h
  exact ⟨m, (hb.cell (p := ⟨0, 0, none⟩) (cell_lt hm)).trans hm⟩

/-- what the library's variables hold -/
structure Env (w : World) : Prop where
  tab : Lib.TabIs Tryd.prog w "internal/strconv.uint64pow10" .u64 Lib.pow10Tab
  tz : TzV w
  mx : MaxV w
  e1 : ErrV w 1
  e2 : ErrV w 2

theorem var_mono {w w' : World} (hb : Below w.heap.size w w') {n : String} {cs : Array Value} (h : w.var? Tryd.prog n = some cs) : w'.var? Tryd.prog n = some cs := by
  unfold World.var? at h
  cases hg : Tryd.prog.globalNamed n with
  | none => simp [hg] at h
  | some g =>
    have hlt : g < w.heap.size := by
      simp only [hg, Option.bind_some] at h
      by_cases hb : g < w.heap.size
      · exact hb
      · rw [Array.getElem?_eq_none (by omega)] at h; simp at h
    exact var?_below hb hg hlt (by unfold World.var?; exact h)

theorem Env.mono {w w' : World} (h : Env w) (hb : Below w.heap.size w w') : Env w' := ⟨var_mono hb h.tab, h.tz.mono hb, h.mx.mono hb, h.e1.mono hb, h.e2.mono hb⟩

theorem itoa_any (n : Nat) (h1 : n ≤ 9223372036854775807) (w : World) (hE : Env w) :
    Calls Tryd.prog 28 #[.int .i64 n] w fun e w' => e = .returned (sv (Wl.txt n)) ∧ Below w.heap.size w w' :=
  (Tryd.strconv_Itoa n (by omega) (by omega) w hE.tab).mono fun e w' ⟨h, k, os, h2⟩ => ⟨h, by rw [h2]; exact Lib.below_grow _ _ (Nat.le_refl _) _ _⟩

theorem FormatUint_any (u : Nat) (w : World) (hu : u < 4294967296) (hE : Env w) :
    Calls Tryd.prog 54 #[.int .u64 u, .int .i64 16] w fun e w' => e = .returned (sv (Wl.hexM u)) ∧ Below w.heap.size w w' := by
  have hi : Calls Tryd.prog 68 #[.int .u64 u, .int .i64 16] w fun e w' => e = .returned (sv (Wl.hexM u)) ∧ Below w.heap.size w w' := by
    have hf := fmt16 u w hu hE.tz
    clear hE
    go_enter Tryd.func68, Tryd.ntmps68
    go_wp2_with fail
    (with_reducible refine hf.mono ?_)
    rintro e w1 ⟨rfl, hb⟩
    go_wp2
    go_ret
    exact ⟨rfl, hb⟩
  clear hE
  go_enter Tryd.func54, Tryd.ntmps54
  go_wp2_with fail
  (with_reducible refine hi.mono ?_)
  rintro e w1 ⟨rfl, hb⟩
  go_wp2
  go_ret
  exact ⟨rfl, hb⟩

theorem ba_cat (a b : List UInt8) : (⟨a.toArray⟩ : ByteArray) ++ ⟨b.toArray⟩ = ⟨(a ++ b).toArray⟩ := by
  apply ByteArray.ext
  simp
theorem ba_cat1 (a : List UInt8) (c : UInt8) : (⟨a.toArray⟩ : ByteArray) ++ ⟨#[c]⟩ = ⟨(a ++ [c]).toArray⟩ := ba_cat a [c]
theorem ba_cons (c : UInt8) (a : List UInt8) : (⟨#[c]⟩ : ByteArray) ++ ⟨a.toArray⟩ = ⟨(c :: a).toArray⟩ := ba_cat [c] a

theorem repeat48 : ∀ k : Nat, Lib.repeatL [48] k = List.replicate k 48
  | 0 => rfl
  | k + 1 => by
    rw [List.replicate_succ, ← repeat48 k]; rfl

set_option maxRecDepth 100000 in
set_option maxHeartbeats 800000 in
theorem sum_any (n : Nat) (r : Wl.Bs) (w : World) (hn : n ≤ Wl.lim) (hr : r.length ≤ 65000) (hE : Env w) :
    Calls Tryd.prog 29 #[.int .i64 n, sv r] w fun e w' => e = .returned (sv (Wl.hexN 8 (Wl.crc (Wl.txt n ++ 32 :: r)))) ∧ Below w.heap.size w w' := by
  have hI := itoa_any n (by unfold Wl.lim at hn; omega) w hE
  have hlen := Wl.txt_len hn
  go_enter Tryd.func29, Tryd.ntmps29
  go_wp2_with fail
  (with_reducible refine hI.mono ?_)
  rintro e w1 ⟨rfl, hb1⟩
  have hE := hE.mono hb1
  clear hI hn
  obtain ⟨t, ht⟩ : ∃ t, t = Wl.txt n := ⟨_, rfl⟩
  rw [← ht] at hlen ⊢
  have HT := Lib.hid ht
  clear ht
  go_wp2_with fail
  rw [ba_cat1, ba_cat]
  have hC := Crc_any (t ++ [32] ++ r) w1 (by simp; omega)
  have hlt := Wl.crc_lt (t ++ [32] ++ r)
  have e32 : t ++ [32] ++ r = t ++ 32 :: r := by simp
  rw [e32] at hC hlt ⊢
  have hm := Wl.hexM_pad 8 (Wl.crc (t ++ 32 :: r)) (by omega) (by omega)
  obtain ⟨c, hc⟩ : ∃ c, c = Wl.crc (t ++ 32 :: r) := ⟨_, rfl⟩
  rw [← hc] at hC hlt hm
  have HC := Lib.hid hc
  clear hc
  (with_reducible refine hC.mono ?_)
  rintro e w' ⟨rfl, rfl⟩
  clear hC e32
  have hF := FormatUint_any c w1 hlt hE
  have hc0 : (c : Int) % 18446744073709551616 = c := by omega
  go_wp2_with fail
  (with_reducible refine hF.mono ?_)
  rintro e w2 ⟨rfl, hb2⟩
  obtain ⟨hm1, hm2⟩ := hm
  have HM := Lib.hid hm2
  clear hF hm2 hlt hc0 hE
  obtain ⟨h, hh⟩ : ∃ h, h = Wl.hexM c := ⟨_, rfl⟩
  rw [← hh] at HM hm1 ⊢
  clear hh
  have hsub : (8 : Int) - (h.length : Int) = ((8 - h.length : Nat) : Int) := by omega
  go_wp2_with fail
  have hR := Tryd.strings_Repeat ⟨#[48]⟩ (8 - h.length) w2 (by omega) (by show 1 * _ ≤ _; omega)
  rw [show (⟨#[48]⟩ : ByteArray).data.toList = [48] from rfl, repeat48] at hR
  obtain ⟨z, hz⟩ : ∃ z, z = List.replicate (8 - h.length) (48 : UInt8) := ⟨_, rfl⟩
  have hzl : z.length ≤ 8 := by rw [hz]; simp <;> omega
  rw [← hz] at hR HM
  clear hz
  (with_reducible refine hR.mono ?_)
  rintro e w3 ⟨rfl, hb3⟩
  clear hR hsub
  go_wp2
  go_ret
  exact ⟨by rw [← HT.out, ← HC.out, ← HM.out, ← ba_cat]; rfl, Below.step (Below.step hb1 hb2 (Nat.le_refl _)) hb3 (Nat.le_refl _)⟩

theorem size_txt {n : Nat} (h : n ≤ Wl.lim) : (Wl.txt n).length ≤ 13 := Wl.txt_len h

set_option maxRecDepth 100000 in
set_option maxHeartbeats 800000 in
theorem Encode_yes (n : Nat) (r : Wl.Bs) (w : World) (hn : n ≤ Wl.lim) (hr : r.length ≤ 65000) (hE : Env w) :
    Calls Tryd.prog 8 #[.int .i64 n, sv r] w fun e w' => e = .returned (sv (Wl.encB n r)) ∧ Below w.heap.size w w' := by
  have h1 := Wl.txt_len hn
  have h2 : (Wl.txt r.length).length ≤ 13 := Wl.txt_len (by unfold Wl.lim; omega)
  have hS := fun w hE => sum_any n r w hn hr hE
  have hI := fun w hE => itoa_any n (by unfold Wl.lim at hn; omega) w hE
  have hJ := fun w hE => itoa_any r.length (by omega) w hE
  have d0 : decide ((n : Int) < 0) = false := by simp <;> omega
  have d1 : decide ((1099511627776 : Int) < n) = false := by unfold Wl.lim at hn; simp <;> omega
  have d2 : decide ((65000 : Int) < r.length) = false := by simp <;> omega
  have HX : Hid (Wl.encB n r = 119 :: (Wl.txt n ++ 32 :: (Wl.txt r.length ++ 32 :: (Wl.hexN 8 (Wl.crc (Wl.txt n ++ 32 :: r)) ++ 10 :: r)))) := Lib.hid rfl
  have h8 := Wl.hexN_length 8 (Wl.crc (Wl.txt n ++ 32 :: r))
  generalize Wl.hexN 8 (Wl.crc (Wl.txt n ++ 32 :: r)) = hx at *
  have h8 : hx.length ≤ 8 := by omega
  generalize Wl.encB n r = E at *
  generalize Wl.txt n = tn at *
  generalize Wl.txt r.length = tr at *
  go_enter Tryd.func8, Tryd.ntmps8
  go_wp2_with fail
  (with_reducible refine (hI _ hE).mono ?_)
  rintro e w1 ⟨rfl, hb1⟩
  have hE := hE.mono hb1
  go_wp2_with fail
  (with_reducible refine (hJ _ hE).mono ?_)
  rintro e w2 ⟨rfl, hb2⟩
  have hE := hE.mono hb2
  go_wp2_with fail
  (with_reducible refine (hS _ hE).mono ?_)
  rintro e w3 ⟨rfl, hb3⟩
  clear hE hI hJ hS
  go_wp2
  go_ret
  refine ⟨?_, Below.step (Below.step hb1 hb2 (Nat.le_refl _)) hb3 (Nat.le_refl _)⟩
  rw [ba_cons, ba_cat1, ba_cat, ba_cat1, ba_cat, ba_cat1, ba_cat, HX.out]
  simp

theorem dig16_fin : ∀ d : Fin 16, (⟨#[48, 49, 50, 51, 52, 53, 54, 55, 56, 57, 97, 98, 99, 100, 101, 102]⟩ : ByteArray)[d.val]'(d.isLt) = Wl.hexD d.val := by decide

theorem enc_fin : ∀ d : Fin 16, Utf8.encode (((Wl.hexD d.val).toNat : Nat) : Int) = ⟨#[Wl.hexD d.val]⟩ := by decide

theorem enc_hex (d : Nat) (h : d < 16) (h' : d < (⟨#[48, 49, 50, 51, 52, 53, 54, 55, 56, 57, 97, 98, 99, 100, 101, 102]⟩ : ByteArray).size) : Utf8.encode ((((⟨#[48, 49, 50, 51, 52, 53, 54, 55, 56, 57, 97, 98, 99, 100, 101, 102]⟩ : ByteArray)[d]'h').toNat : Nat) : Int) = ⟨#[Wl.hexD d]⟩ := by
  rw [show (⟨#[48, 49, 50, 51, 52, 53, 54, 55, 56, 57, 97, 98, 99, 100, 101, 102]⟩ : ByteArray)[d]'h' = Wl.hexD d from dig16_fin ⟨d, h⟩]
  exact enc_fin ⟨d, h⟩

set_option maxRecDepth 100000 in
set_option maxHeartbeats 800000 in
theorem hex_any (c : Nat) (w : World) (hc : c < 4294967296) :
    Calls Tryd.prog 30 #[.int .u32 c] w fun e w' => e = .returned (sv (Wl.hexN 8 c)) ∧ w = w' := by
  go_enter Tryd.func30, Tryd.ntmps30
  go_wp2
  go_loop [0, 3, 4] (fun s0 s3 s4 => ∃ (k x : Nat) (out : Wl.Bs), k ≤ 8 ∧ s4 = .int .i64 k ∧ s0 = .int .u32 x ∧ x < 4294967296 ∧ s3 = sv out ∧ out.length ≤ 8 ∧ Hid (out.length = k) ∧ Hid (Wl.hexN 8 c = Wl.hexN (8 - k) x ++ out)) (fun _ _ s4 => 8 - (intOf s4).toNat)
  case atStart => exact ⟨0, c, [], by omega, rfl, rfl, hc, rfl, by simp, Lib.hid rfl, Lib.hid (by simp)⟩
  case round =>
    obtain ⟨k, x, out, hk, rfl, rfl, hx, rfl, hol, HL, HI⟩ := hrel
    by_cases hlt : k < 8
    · have hx16 : x % 16 < (⟨#[48, 49, 50, 51, 52, 53, 54, 55, 56, 57, 97, 98, 99, 100, 101, 102]⟩ : ByteArray).size := by show x % 16 < 16; omega
      go_wp2
      · exfalso
        have hes : (Utf8.encode ((((⟨#[48, 49, 50, 51, 52, 53, 54, 55, 56, 57, 97, 98, 99, 100, 101, 102]⟩ : ByteArray)[x % 16]'hx16).toNat : Nat) : Int)).size ≤ 1 := by
          rw [enc_hex (x % 16) (by omega) hx16]; exact Nat.le_refl 1
        omega
      · go_round
        case rel =>
          refine ⟨k + 1, x / 16, Wl.hexD (x % 16) :: out, by omega, by go_num, by go_num, by omega, ?_, by have := HL.out; simp; omega, Lib.hid (by rw [← HL.out]; rfl), Lib.hid ?_⟩
          · rw [enc_hex (x % 16) (by omega), ba_cons]
          · rw [HI.out, show 8 - k = (8 - (k + 1)) + 1 by omega, Wl.hexN]
            simp
        case measure => simp [intOf]; omega
    · have HK : Hid (Wl.hexN 8 c = out) := Lib.hid (by rw [HI.out, show 8 - k = 0 by omega]; rfl)
      go_wp2
      go_ret
      exact ⟨by rw [HK.out]; rfl, rfl⟩

set_option maxRecDepth 100000 in
set_option maxHeartbeats 800000 in
theorem rEncode_yes (n : Nat) (r : Wl.Bs) (w : World) (hn : n ≤ Wl.lim) (hr : r.length ≤ 65000) (hE : Env w) :
    Calls Tryd.prog 9 #[.int .i64 n, sv r] w fun e w' => e = .returned (sv (Wl.encB n r)) ∧ Below w.heap.size w w' := by
  have h1 := Wl.txt_len hn
  have h2 : (Wl.txt r.length).length ≤ 13 := Wl.txt_len (by unfold Wl.lim; omega)
  have hI := fun w hE => itoa_any n (by unfold Wl.lim at hn; omega) w hE
  have hJ := fun w hE => itoa_any r.length (by omega) w hE
  have d0 : decide ((n : Int) < 0) = false := by simp <;> omega
  have d1 : decide ((1099511627776 : Int) < n) = false := by unfold Wl.lim at hn; simp <;> omega
  have d2 : decide ((65000 : Int) < r.length) = false := by simp <;> omega
  have HX : Hid (Wl.encB n r = 119 :: (Wl.txt n ++ 32 :: (Wl.txt r.length ++ 32 :: (Wl.hexN 8 (Wl.crc (Wl.txt n ++ 32 :: r)) ++ 10 :: r)))) := Lib.hid rfl
  generalize Wl.encB n r = E at *
  generalize Wl.txt n = tn at *
  generalize Wl.txt r.length = tr at *
  go_enter Tryd.func9, Tryd.ntmps9
  go_wp2_with fail
  (with_reducible refine (hI _ hE).mono ?_)
  rintro e w1 ⟨rfl, hb1⟩
  have hE := hE.mono hb1
  go_wp2_with fail
  (with_reducible refine (hJ _ hE).mono ?_)
  rintro e w2 ⟨rfl, hb2⟩
  clear hE hI hJ
  go_wp2_with fail
  rw [ba_cat1, ba_cat]
  have hC := rCrc_any (tn ++ [32] ++ r) w2 (by simp <;> omega)
  have hlt := Wl.crc_lt (tn ++ [32] ++ r)
  have e32 : tn ++ [32] ++ r = tn ++ 32 :: r := by simp
  rw [e32] at hC hlt ⊢
  obtain ⟨c, hc⟩ : ∃ c, c = Wl.crc (tn ++ 32 :: r) := ⟨_, rfl⟩
  rw [← hc] at hC hlt HX
  clear hc e32
  (with_reducible refine hC.mono ?_)
  rintro e w' ⟨rfl, rfl⟩
  clear hC
  have hH := hex_any c w2 hlt
  have h8 := Wl.hexN_length 8 c
  generalize Wl.hexN 8 c = hx at *
  have h8 : hx.length ≤ 8 := by omega
  go_wp2_with fail
  (with_reducible refine hH.mono ?_)
  rintro e w' ⟨rfl, rfl⟩
  clear hH
  go_wp2
  go_ret
  refine ⟨?_, Below.step hb1 hb2 (Nat.le_refl _)⟩
  rw [ba_cons, ba_cat1, ba_cat, ba_cat1, ba_cat, ba_cat1, ba_cat, HX.out]
  simp

end Go.Proofs.YtackeigdehfmmaaDoor
