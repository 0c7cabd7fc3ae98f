import Derived.Test.YtackeigdehfmmaaGreatDoorG2
import Derived.Test.YtackeigdehfmmaaGreatDoorShelf
import Derived.Lib.AppendIntMem
import Derived.Lib.AtoiErrMem
import Derived.Lib.AtoiAllCases
namespace Go.Proofs.YtackeigdehfmmaaGreatDoor
open Go.RowKit

/-- a variable of the library's that holds an error -/
def ErrV (w : World) (g : Nat) : Prop := ∃ ev, w.cell? ⟨g, 0, none⟩ = some ev ∧ (ev = .nilIface ∨ ∃ te pe, ev = .iface te pe)
theorem ErrV.mono {w w' : World} {g : Nat} (h : ErrV w g) (hb : Below w.heap.size w w') : ErrV w' g := by
  obtain ⟨ev, hc, he⟩ := h; exact ⟨ev, (hb.cell (cell_lt hc)).trans hc, he⟩

/-- the library's variable that the search in strings reads -/
def MaxV (w : World) : Prop := ∃ m : Int, w.cell? ⟨3, 0, none⟩ = some (.int .i64 m)
theorem MaxV.mono {w w' : World} (h : MaxV w) (hb : Below w.heap.size w w') : MaxV w' := by
  obtain ⟨m, hm⟩ := h
  exact ⟨m, (hb.cell (p := ⟨3, 0, none⟩) (cell_lt hm)).trans hm⟩

/-- what the library's variables hold -/
structure Env (w : World) : Prop where
  tab : Lib.TabIs Tryz.prog w "internal/strconv.uint64pow10" .u64 Lib.pow10Tab
  tz : TzV w
  mx : MaxV w
  e1 : ErrV w 1
  e2 : ErrV w 2

theorem var_mono {w w' : World} (hb : Below w.heap.size w w') {n : String} {cs : Array Value} (h : w.var? Tryz.prog n = some cs) : w'.var? Tryz.prog n = some cs := by
  unfold World.var? at h
  cases hg : Tryz.prog.globalNamed n with
  | none => simp [hg] at h
  | some g =>
    have hlt : g < w.heap.size := by
      simp only [hg, Option.bind_some] at h
      by_cases hb : g < w.heap.size
      · exact hb
      · rw [Array.getElem?_eq_none (by omega)] at h; simp at h
    exact var?_below hb hg hlt (by unfold World.var?; exact h)

theorem Env.mono {w w' : World} (h : Env w) (hb : Below w.heap.size w w') : Env w' := ⟨var_mono hb h.tab, h.tz.mono hb, h.mx.mono hb, h.e1.mono hb, h.e2.mono hb⟩

theorem itoa_any (n : Nat) (h1 : n ≤ 9223372036854775807) (w : World) (hE : Env w) :
    Calls Tryz.prog 46 #[.int .i64 n] w fun e w' => e = .returned (sv (Wl.txt n)) ∧ Below w.heap.size w w' :=
  (Tryz.strconv_Itoa n (by omega) (by omega) w hE.tab).mono fun e w' ⟨h, k, os, h2⟩ => ⟨h, by rw [h2]; exact Lib.below_grow _ _ (Nat.le_refl _) _ _⟩

theorem FormatUint_any (u : Nat) (w : World) (hu : u < 4294967296) (hE : Env w) :
    Calls Tryz.prog 59 #[.int .u64 u, .int .i64 16] w fun e w' => e = .returned (sv (Wl.hexM u)) ∧ Below w.heap.size w w' := by
  have hi : Calls Tryz.prog 65 #[.int .u64 u, .int .i64 16] w fun e w' => e = .returned (sv (Wl.hexM u)) ∧ Below w.heap.size w w' := by
    have hf := fmt16 u w hu hE.tz
    clear hE
    go_enter Tryz.func65, Tryz.ntmps65
    go_wp2_with fail
    (with_reducible refine hf.mono ?_)
    rintro e w1 ⟨rfl, hb⟩
    go_wp2
    go_ret
    exact ⟨rfl, hb⟩
  clear hE
  go_enter Tryz.func59, Tryz.ntmps59
  go_wp2_with fail
  (with_reducible refine hi.mono ?_)
  rintro e w1 ⟨rfl, hb⟩
  go_wp2
  go_ret
  exact ⟨rfl, hb⟩

theorem ba_cat (a b : List UInt8) : (⟨a.toArray⟩ : ByteArray) ++ ⟨b.toArray⟩ = ⟨(a ++ b).toArray⟩ := by
  apply ByteArray.ext
  simp
theorem ba_cat1 (a : List UInt8) (c : UInt8) : (⟨a.toArray⟩ : ByteArray) ++ ⟨#[c]⟩ = ⟨(a ++ [c]).toArray⟩ := ba_cat a [c]
theorem ba_cons (c : UInt8) (a : List UInt8) : (⟨#[c]⟩ : ByteArray) ++ ⟨a.toArray⟩ = ⟨(c :: a).toArray⟩ := ba_cat [c] a

theorem repeat48 : ∀ k : Nat, Lib.repeatL [48] k = List.replicate k 48
  | 0 => rfl
  | k + 1 => by
    rw [List.replicate_succ, ← repeat48 k]; rfl

set_option maxRecDepth 100000 in
set_option maxHeartbeats 800000 in
theorem sum_any (n : Nat) (r : Wl.Bs) (w : World) (hn : n ≤ Wl.lim) (hr : r.length ≤ 65000) (hE : Env w) :
    Calls Tryz.prog 47 #[.int .i64 n, sv r] w fun e w' => e = .returned (sv (Wl.hexN 8 (Wl.crc (Wl.txt n ++ 32 :: r)))) ∧ Below w.heap.size w w' := by
  have hI := itoa_any n (by unfold Wl.lim at hn; omega) w hE
  have hlen := Wl.txt_len hn
  go_enter Tryz.func47, Tryz.ntmps47
  go_wp2_with fail
  (with_reducible refine hI.mono ?_)
  rintro e w1 ⟨rfl, hb1⟩
  have hE := hE.mono hb1
  clear hI hn
  obtain ⟨t, ht⟩ : ∃ t, t = Wl.txt n := ⟨_, rfl⟩
  rw [← ht] at hlen ⊢
  have HT := Lib.hid ht
  clear ht
  go_wp2_with fail
  rw [ba_cat1, ba_cat]
  have hC := Crc_any (t ++ [32] ++ r) w1 (by simp; omega)
  have hlt := Wl.crc_lt (t ++ [32] ++ r)
  have e32 : t ++ [32] ++ r = t ++ 32 :: r := by simp
  rw [e32] at hC hlt ⊢
  have hm := Wl.hexM_pad 8 (Wl.crc (t ++ 32 :: r)) (by omega) (by omega)
  obtain ⟨c, hc⟩ : ∃ c, c = Wl.crc (t ++ 32 :: r) := ⟨_, rfl⟩
  rw [← hc] at hC hlt hm
  have HC := Lib.hid hc
  clear hc
  (with_reducible refine hC.mono ?_)
  rintro e w' ⟨rfl, rfl⟩
  clear hC e32
  have hF := FormatUint_any c w1 hlt hE
  have hc0 : (c : Int) % 18446744073709551616 = c := by omega
  go_wp2_with fail
  (with_reducible refine hF.mono ?_)
  rintro e w2 ⟨rfl, hb2⟩
  obtain ⟨hm1, hm2⟩ := hm
  have HM := Lib.hid hm2
  clear hF hm2 hlt hc0 hE
  obtain ⟨h, hh⟩ : ∃ h, h = Wl.hexM c := ⟨_, rfl⟩
  rw [← hh] at HM hm1 ⊢
  clear hh
  have hsub : (8 : Int) - (h.length : Int) = ((8 - h.length : Nat) : Int) := by omega
  go_wp2_with fail
  have hR := Tryz.strings_Repeat ⟨#[48]⟩ (8 - h.length) w2 (by omega) (by show 1 * _ ≤ _; omega)
  rw [show (⟨#[48]⟩ : ByteArray).data.toList = [48] from rfl, repeat48] at hR
  obtain ⟨z, hz⟩ : ∃ z, z = List.replicate (8 - h.length) (48 : UInt8) := ⟨_, rfl⟩
  have hzl : z.length ≤ 8 := by rw [hz]; simp <;> omega
  rw [← hz] at hR HM
  clear hz
  (with_reducible refine hR.mono ?_)
  rintro e w3 ⟨rfl, hb3⟩
  clear hR hsub
  go_wp2
  go_ret
  exact ⟨by rw [← HT.out, ← HC.out, ← HM.out, ← ba_cat]; rfl, Below.step (Below.step hb1 hb2 (Nat.le_refl _)) hb3 (Nat.le_refl _)⟩

theorem size_txt {n : Nat} (h : n ≤ Wl.lim) : (Wl.txt n).length ≤ 13 := Wl.txt_len h

set_option maxRecDepth 100000 in
set_option maxHeartbeats 800000 in
theorem Encode_yes (n : Nat) (r : Wl.Bs) (w : World) (hn : n ≤ Wl.lim) (hr : r.length ≤ 65000) (hE : Env w) :
    Calls Tryz.prog 23 #[.int .i64 n, sv r] w fun e w' => e = .returned (sv (Wl.encB n r)) ∧ Below w.heap.size w w' := by
  have h1 := Wl.txt_len hn
  have h2 : (Wl.txt r.length).length ≤ 13 := Wl.txt_len (by unfold Wl.lim; omega)
  have hS := fun w hE => sum_any n r w hn hr hE
  have hI := fun w hE => itoa_any n (by unfold Wl.lim at hn; omega) w hE
  have hJ := fun w hE => itoa_any r.length (by omega) w hE
  have d0 : decide ((n : Int) < 0) = false := by simp <;> omega
  have d1 : decide ((1099511627776 : Int) < n) = false := by unfold Wl.lim at hn; simp <;> omega
  have d2 : decide ((65000 : Int) < r.length) = false := by simp <;> omega
  have HX : Hid (Wl.encB n r = 119 :: (Wl.txt n ++ 32 :: (Wl.txt r.length ++ 32 :: (Wl.hexN 8 (Wl.crc (Wl.txt n ++ 32 :: r)) ++ 10 :: r)))) := Lib.hid rfl
  have h8 := Wl.hexN_length 8 (Wl.crc (Wl.txt n ++ 32 :: r))
  generalize Wl.hexN 8 (Wl.crc (Wl.txt n ++ 32 :: r)) = hx at *
  have h8 : hx.length ≤ 8 := by omega
  generalize Wl.encB n r = E at *
  generalize Wl.txt n = tn at *
  generalize Wl.txt r.length = tr at *
  go_enter Tryz.func23, Tryz.ntmps23
  go_wp2_with fail
  (with_reducible refine (hI _ hE).mono ?_)
  rintro e w1 ⟨rfl, hb1⟩
  have hE := hE.mono hb1
  go_wp2_with fail
  (with_reducible refine (hJ _ hE).mono ?_)
  rintro e w2 ⟨rfl, hb2⟩
  have hE := hE.mono hb2
  go_wp2_with fail
  (with_reducible refine (hS _ hE).mono ?_)
  rintro e w3 ⟨rfl, hb3⟩
  clear hE hI hJ hS
  go_wp2
  go_ret
  refine ⟨?_, Below.step (Below.step hb1 hb2 (Nat.le_refl _)) hb3 (Nat.le_refl _)⟩
  rw [ba_cons, ba_cat1, ba_cat, ba_cat1, ba_cat, ba_cat1, ba_cat, HX.out]
  simp

theorem dig16_fin : ∀ d : Fin 16, (⟨#[48, 49, 50, 51, 52, 53, 54, 55, 56, 57, 97, 98, 99, 100, 101, 102]⟩ : ByteArray)[d.val]'(d.isLt) = Wl.hexD d.val := by decide

theorem enc_fin : ∀ d : Fin 16, Utf8.encode (((Wl.hexD d.val).toNat : Nat) : Int) = ⟨#[Wl.hexD d.val]⟩ := by decide

theorem enc_hex (d : Nat) (h : d < 16) (h' : d < (⟨#[48, 49, 50, 51, 52, 53, 54, 55, 56, 57, 97, 98, 99, 100, 101, 102]⟩ : ByteArray).size) : Utf8.encode ((((⟨#[48, 49, 50, 51, 52, 53, 54, 55, 56, 57, 97, 98, 99, 100, 101, 102]⟩ : ByteArray)[d]'h').toNat : Nat) : Int) = ⟨#[Wl.hexD d]⟩ := by
  rw [show (⟨#[48, 49, 50, 51, 52, 53, 54, 55, 56, 57, 97, 98, 99, 100, 101, 102]⟩ : ByteArray)[d]'h' = Wl.hexD d from dig16_fin ⟨d, h⟩]
  exact enc_fin ⟨d, h⟩

set_option maxRecDepth 100000 in
set_option maxHeartbeats 800000 in
theorem hex_any (c : Nat) (w : World) (hc : c < 4294967296) :
    Calls Tryz.prog 56 #[.int .u32 c] w fun e w' => e = .returned (sv (Wl.hexN 8 c)) ∧ w = w' := by
  go_enter Tryz.func56, Tryz.ntmps56
  go_wp2
  go_loop [0, 3, 4] (fun s0 s3 s4 => ∃ (k x : Nat) (out : Wl.Bs), k ≤ 8 ∧ s4 = .int .i64 k ∧ s0 = .int .u32 x ∧ x < 4294967296 ∧ s3 = sv out ∧ out.length ≤ 8 ∧ Hid (out.length = k) ∧ Hid (Wl.hexN 8 c = Wl.hexN (8 - k) x ++ out)) (fun _ _ s4 => 8 - (intOf s4).toNat)
  case atStart => exact ⟨0, c, [], by omega, rfl, rfl, hc, rfl, by simp, Lib.hid rfl, Lib.hid (by simp)⟩
  case round =>
    obtain ⟨k, x, out, hk, rfl, rfl, hx, rfl, hol, HL, HI⟩ := hrel
    by_cases hlt : k < 8
    · have hx16 : x % 16 < (⟨#[48, 49, 50, 51, 52, 53, 54, 55, 56, 57, 97, 98, 99, 100, 101, 102]⟩ : ByteArray).size := by show x % 16 < 16; omega
      go_wp2
      · exfalso
        have hes : (Utf8.encode ((((⟨#[48, 49, 50, 51, 52, 53, 54, 55, 56, 57, 97, 98, 99, 100, 101, 102]⟩ : ByteArray)[x % 16]'hx16).toNat : Nat) : Int)).size ≤ 1 := by
          rw [enc_hex (x % 16) (by omega) hx16]; exact Nat.le_refl 1
        omega
      · go_round
        case rel =>
          refine ⟨k + 1, x / 16, Wl.hexD (x % 16) :: out, by omega, by go_num, by go_num, by omega, ?_, by have := HL.out; simp; omega, Lib.hid (by rw [← HL.out]; rfl), Lib.hid ?_⟩
          · rw [enc_hex (x % 16) (by omega), ba_cons]
          · rw [HI.out, show 8 - k = (8 - (k + 1)) + 1 by omega, Wl.hexN]
            simp
        case measure => simp [intOf]; omega
    · have HK : Hid (Wl.hexN 8 c = out) := Lib.hid (by rw [HI.out, show 8 - k = 0 by omega]; rfl)
      go_wp2
      go_ret
      exact ⟨by rw [HK.out]; rfl, rfl⟩

set_option maxRecDepth 100000 in
set_option maxHeartbeats 800000 in
theorem rEncode_yes (n : Nat) (r : Wl.Bs) (w : World) (hn : n ≤ Wl.lim) (hr : r.length ≤ 65000) (hE : Env w) :
    Calls Tryz.prog 45 #[.int .i64 n, sv r] w fun e w' => e = .returned (sv (Wl.encB n r)) ∧ Below w.heap.size w w' := by
  have h1 := Wl.txt_len hn
  have h2 : (Wl.txt r.length).length ≤ 13 := Wl.txt_len (by unfold Wl.lim; omega)
  have hI := fun w hE => itoa_any n (by unfold Wl.lim at hn; omega) w hE
  have hJ := fun w hE => itoa_any r.length (by omega) w hE
  have d0 : decide ((n : Int) < 0) = false := by simp <;> omega
  have d1 : decide ((1099511627776 : Int) < n) = false := by unfold Wl.lim at hn; simp <;> omega
  have d2 : decide ((65000 : Int) < r.length) = false := by simp <;> omega
  have HX : Hid (Wl.encB n r = 119 :: (Wl.txt n ++ 32 :: (Wl.txt r.length ++ 32 :: (Wl.hexN 8 (Wl.crc (Wl.txt n ++ 32 :: r)) ++ 10 :: r)))) := Lib.hid rfl
  generalize Wl.encB n r = E at *
  generalize Wl.txt n = tn at *
  generalize Wl.txt r.length = tr at *
  go_enter Tryz.func45, Tryz.ntmps45
  go_wp2_with fail
  (with_reducible refine (hI _ hE).mono ?_)
  rintro e w1 ⟨rfl, hb1⟩
  have hE := hE.mono hb1
  go_wp2_with fail
  (with_reducible refine (hJ _ hE).mono ?_)
  rintro e w2 ⟨rfl, hb2⟩
  clear hE hI hJ
  go_wp2_with fail
  rw [ba_cat1, ba_cat]
  have hC := rCrc_any (tn ++ [32] ++ r) w2 (by simp <;> omega)
  have hlt := Wl.crc_lt (tn ++ [32] ++ r)
  have e32 : tn ++ [32] ++ r = tn ++ 32 :: r := by simp
  rw [e32] at hC hlt ⊢
  obtain ⟨c, hc⟩ : ∃ c, c = Wl.crc (tn ++ 32 :: r) := ⟨_, rfl⟩
  rw [← hc] at hC hlt HX
  clear hc e32
  (with_reducible refine hC.mono ?_)
  rintro e w' ⟨rfl, rfl⟩
  clear hC
  have hH := hex_any c w2 hlt
  have h8 := Wl.hexN_length 8 c
  generalize Wl.hexN 8 c = hx at *
  have h8 : hx.length ≤ 8 := by omega
  go_wp2_with fail
  (with_reducible refine hH.mono ?_)
  rintro e w' ⟨rfl, rfl⟩
  clear hH
  go_wp2
  go_ret
  refine ⟨?_, Below.step hb1 hb2 (Nat.le_refl _)⟩
  rw [ba_cons, ba_cat1, ba_cat, ba_cat1, ba_cat, ba_cat1, ba_cat, HX.out]
  simp

end Go.Proofs.YtackeigdehfmmaaGreatDoor

namespace Go.Proofs.YtackeigdehfmmaaGreatDoor
open Go.RowKit

theorem Encode_neg (n : Int) (r : Wl.Bs) (w : World) (h : n < 0) :
    Calls Tryz.prog 23 #[.int .i64 n, sv r] w fun e w' => e = .returned (sv []) ∧ w = w' := by
  have d0 : decide (n < 0) = true := by simpa using h
  go_enter Tryz.func23, Tryz.ntmps23
  go_wp2
  go_ret
  exact ⟨rfl, rfl⟩

theorem Encode_big (n : Int) (r : Wl.Bs) (w : World) (h : (Wl.lim : Int) < n) :
    Calls Tryz.prog 23 #[.int .i64 n, sv r] w fun e w' => e = .returned (sv []) ∧ w = w' := by
  have d0 : decide (n < 0) = false := by unfold Wl.lim at h; simp <;> omega
  have d1 : decide ((1099511627776 : Int) < n) = true := by unfold Wl.lim at h; simp <;> omega
  clear h
  go_enter Tryz.func23, Tryz.ntmps23
  go_wp2
  go_ret
  exact ⟨rfl, rfl⟩

theorem Encode_long (n : Nat) (r : Wl.Bs) (w : World) (hn : n ≤ Wl.lim) (hr : 65000 < r.length) (hr2 : r.length ≤ 1000000000) :
    Calls Tryz.prog 23 #[.int .i64 n, sv r] w fun e w' => e = .returned (sv []) ∧ w = w' := by
  have d0 : decide ((n : Int) < 0) = false := by simp <;> omega
  have d1 : decide ((1099511627776 : Int) < n) = false := by unfold Wl.lim at hn; simp <;> omega
  have d2 : decide ((65000 : Int) < r.length) = true := by simp <;> omega
  clear hn hr
  go_enter Tryz.func23, Tryz.ntmps23
  go_wp2
  go_ret
  exact ⟨rfl, rfl⟩

/-- Encode of any number and record -/
theorem Encode_any (n : Int) (r : Wl.Bs) (w : World) (hr : r.length ≤ 1000000000) (hE : Env w) :
    Calls Tryz.prog 23 #[.int .i64 n, sv r] w fun e w' => e = .returned (sv (Wl.enc n r)) ∧ Below w.heap.size w w' := by
  by_cases h0 : n < 0
  · rw [show Wl.enc n r = [] by unfold Wl.enc; rw [if_pos (.inl h0)]]
    exact (Encode_neg n r w h0).mono fun e w' ⟨h1, h2⟩ => ⟨h1, h2 ▸ Below.refl _ _⟩
  · by_cases h1 : (Wl.lim : Int) < n
    · rw [show Wl.enc n r = [] by unfold Wl.enc; rw [if_pos (.inr (.inl h1))]]
      exact (Encode_big n r w h1).mono fun e w' ⟨h1, h2⟩ => ⟨h1, h2 ▸ Below.refl _ _⟩
    · obtain ⟨m, rfl⟩ : ∃ m : Nat, n = m := ⟨n.toNat, by omega⟩
      by_cases h2 : 65000 < r.length
      · rw [show Wl.enc (m : Int) r = [] by unfold Wl.enc; rw [if_pos (.inr (.inr h2))]]
        exact (Encode_long m r w (by omega) h2 hr).mono fun e w' ⟨h1, h2⟩ => ⟨h1, h2 ▸ Below.refl _ _⟩
      · rw [Wl.enc_of (by omega) (by omega)]
        exact Encode_yes m r w (by omega) (by omega) hE

theorem rEncode_neg (n : Int) (r : Wl.Bs) (w : World) (h : n < 0) :
    Calls Tryz.prog 45 #[.int .i64 n, sv r] w fun e w' => e = .returned (sv []) ∧ w = w' := by
  have d0 : decide (n < 0) = true := by simpa using h
  go_enter Tryz.func45, Tryz.ntmps45
  go_wp2
  go_ret
  exact ⟨rfl, rfl⟩

theorem rEncode_big (n : Int) (r : Wl.Bs) (w : World) (h : (Wl.lim : Int) < n) :
    Calls Tryz.prog 45 #[.int .i64 n, sv r] w fun e w' => e = .returned (sv []) ∧ w = w' := by
  have d0 : decide (n < 0) = false := by unfold Wl.lim at h; simp <;> omega
  have d1 : decide ((1099511627776 : Int) < n) = true := by unfold Wl.lim at h; simp <;> omega
  clear h
  go_enter Tryz.func45, Tryz.ntmps45
  go_wp2
  go_ret
  exact ⟨rfl, rfl⟩

theorem rEncode_long (n : Nat) (r : Wl.Bs) (w : World) (hn : n ≤ Wl.lim) (hr : 65000 < r.length) (hr2 : r.length ≤ 1000000000) :
    Calls Tryz.prog 45 #[.int .i64 n, sv r] w fun e w' => e = .returned (sv []) ∧ w = w' := by
  have d0 : decide ((n : Int) < 0) = false := by simp <;> omega
  have d1 : decide ((1099511627776 : Int) < n) = false := by unfold Wl.lim at hn; simp <;> omega
  have d2 : decide ((65000 : Int) < r.length) = true := by simp <;> omega
  clear hn hr
  go_enter Tryz.func45, Tryz.ntmps45
  go_wp2
  go_ret
  exact ⟨rfl, rfl⟩

/-- the reference's Encode of any number and record -/
theorem rEncode_any (n : Int) (r : Wl.Bs) (w : World) (hr : r.length ≤ 1000000000) (hE : Env w) :
    Calls Tryz.prog 45 #[.int .i64 n, sv r] w fun e w' => e = .returned (sv (Wl.enc n r)) ∧ Below w.heap.size w w' := by
  by_cases h0 : n < 0
  · rw [show Wl.enc n r = [] by unfold Wl.enc; rw [if_pos (.inl h0)]]
    exact (rEncode_neg n r w h0).mono fun e w' ⟨h1, h2⟩ => ⟨h1, h2 ▸ Below.refl _ _⟩
  · by_cases h1 : (Wl.lim : Int) < n
    · rw [show Wl.enc n r = [] by unfold Wl.enc; rw [if_pos (.inr (.inl h1))]]
      exact (rEncode_big n r w h1).mono fun e w' ⟨h1, h2⟩ => ⟨h1, h2 ▸ Below.refl _ _⟩
    · obtain ⟨m, rfl⟩ : ∃ m : Nat, n = m := ⟨n.toNat, by omega⟩
      by_cases h2 : 65000 < r.length
      · rw [show Wl.enc (m : Int) r = [] by unfold Wl.enc; rw [if_pos (.inr (.inr h2))]]
        exact (rEncode_long m r w (by omega) h2 hr).mono fun e w' ⟨h1, h2⟩ => ⟨h1, h2 ▸ Below.refl _ _⟩
      · rw [Wl.enc_of (by omega) (by omega)]
        exact rEncode_yes m r w (by omega) (by omega) hE

/-- what cut gives -/
theorem Cut_any (s a b : Wl.Bs) (c : UInt8) (fnd : Bool) (w : World) (hs : s.length ≤ 1000000) (h : Hid (Lib.cut s [c] = (a, b, fnd))) (hE : Env w) :
    Calls Tryz.prog 73 #[sv s, .string ⟨#[c]⟩] w fun e w' => e = .returned (.tuple #[sv a, sv b, .bool fnd]) ∧ Below w.heap.size w w' := by
  obtain ⟨m, hm⟩ := hE.mx
  refine (Tryz.strings_Cut ⟨s.toArray⟩ ⟨#[c]⟩ m w (by simp [ByteArray.size]; omega) hm).mono ?_
  rintro e w' ⟨he, k, rfl⟩
  refine ⟨?_, below_drewN (Below.refl _ _) k⟩
  rw [he]
  show Ending.returned (.tuple #[.string ⟨(Lib.cut s [c]).1.toArray⟩, .string ⟨(Lib.cut s [c]).2.1.toArray⟩, .bool (Lib.cut s [c]).2.2]) = _
  rw [h.out]

theorem Trim_any (s t : Wl.Bs) (c : UInt8) (w : World) (h : Hid (Lib.trimPrefix s [c] = t)) :
    Calls Tryz.prog 74 #[sv s, .string ⟨#[c]⟩] w fun e w' => e = .returned (sv t) ∧ w = w' := by
  refine (Tryz.strings_TrimPrefix ⟨s.toArray⟩ ⟨#[c]⟩ w).mono ?_
  rintro e w' ⟨he, rfl⟩
  refine ⟨?_, rfl⟩
  rw [he]
  show Ending.returned (.string ⟨(Lib.trimPrefix s [c]).toArray⟩) = _
  rw [h.out]

theorem Atoi_ok (l : Wl.Bs) (v : Int) (w : World) (hl : l.length ≤ 1000000) (h : Hid (Lib.atoiAll l = .ok v)) :
    Calls Tryz.prog 62 #[sv l] w fun e w' => e = .returned (.tuple #[.int .i64 v, .nilIface]) ∧ Below w.heap.size w w' := by
  refine (Any.strconv_Atoi_ok Tryz.laysC172 ⟨l.toArray⟩ (by simp [ByteArray.size]; omega) v h.out w).mono ?_
  rintro e w' ⟨he, hw⟩
  refine ⟨he, ?_⟩
  rcases hw with rfl | ⟨t, rfl⟩
  · exact Below.refl _ _
  · exact Lib.bytesWorld_below w _ t

/-- an error that is not nil -/
def BadA (e : Ending) : Prop := ∃ z t p, e = .returned (.tuple #[.int .i64 z, .iface t p])

theorem Atoi_bad (l : Wl.Bs) (w : World) (hl : l.length ≤ 1000000) (h : ∀ v, Lib.atoiAll l ≠ .ok v) (hE : Env w) :
    Calls Tryz.prog 62 #[sv l] w fun e w' => BadA e ∧ Below w.heap.size w w' := by
  have hs : (⟨l.toArray⟩ : ByteArray).size ≤ 281474976710656 := by simp [ByteArray.size]; omega
  cases hc : Lib.atoiAll l with
  | ok v => exact absurd hc (h v)
  | _ =>
    first
      | (obtain ⟨ev, hv, hev⟩ := hE.e1
         refine (Any.strconv_Atoi_syntax Tryz.laysC172 ⟨l.toArray⟩ hs hc ev w hv hev).mono ?_
         rintro e w' ⟨N, he, _, _, hb⟩
         exact ⟨⟨_, _, _, he⟩, hb⟩)
      | (obtain ⟨ev, hv, hev⟩ := hE.e2
         refine (Any.strconv_Atoi_range Tryz.laysC172 ⟨l.toArray⟩ hs hc ev w hv hev).mono ?_
         rintro e w' ⟨N, he, _, _, hb⟩
         exact ⟨⟨_, _, _, he⟩, hb⟩)

theorem head_len {s a b : Wl.Bs} {c : UInt8} {f : Bool} (h : Lib.cut s [c] = (a, b, f)) : a.length ≤ s.length ∧ b.length ≤ s.length := by
  unfold Lib.cut at h
  split at h
  · simp only [Prod.mk.injEq] at h
    obtain ⟨rfl, rfl, _⟩ := h
    simp; omega
  · simp only [Prod.mk.injEq] at h
    obtain ⟨rfl, rfl, _⟩ := h
    simp

theorem trim_len (s : Wl.Bs) (c : UInt8) : (Lib.trimPrefix s [c]).length ≤ s.length := by
  unfold Lib.trimPrefix; split <;> simp

set_option maxRecDepth 100000 in
set_option maxHeartbeats 1600000 in
theorem Decode_some (s : Wl.Bs) (n : Nat) (r : Wl.Bs) (w : World) (hs : s.length ≤ 1000000) (h : Hid (Wl.IsRec s n r)) (hE : Env w) :
    Calls Tryz.prog 63 #[sv s] w fun e w' => e = .returned (.tuple #[.int .i64 n, sv r, .int .i64 0]) ∧ Below w.heap.size w w' := by
  obtain ⟨hp1, hp2⟩ := h.out.parts
  have hr := h.out.r_le
  have hn := h.out.n_le
  have hA := Wl.txt_atoi hn
  have hl := head_len hp1
  have hl2 := trim_len (Wl.headB n r) 119
  have hE1 := fun w hE => Encode_yes n r w hn hr hE
  rw [← h.out.eq] at hE1
  have HP1 := Lib.hid hp1
  have HP2 := Lib.hid hp2
  have HA := Lib.hid hA
  have htl := Wl.txt_len hn
  clear hA hp1 hp2 hn h
  generalize Wl.headB n r = a at *
  obtain ⟨a2, ha2⟩ : ∃ a2, Lib.trimPrefix a [119] = a2 := ⟨_, rfl⟩
  rw [ha2] at HP2 hl2
  have HT := Lib.hid ha2
  clear ha2
  generalize Wl.txt n = t at *
  generalize Wl.hexN 8 (Wl.crc (t ++ 32 :: r)) = hx at *
  generalize Wl.txt r.length ++ 32 :: hx = b2 at *
  go_enter Tryz.func63, Tryz.ntmps63
  go_wp2_with fail
  (with_reducible refine (Cut_any s a r 10 true _ hs HP1 hE).mono ?_)
  rintro e w1 ⟨rfl, hb1⟩
  have hE := hE.mono hb1
  go_wp2_with fail
  (with_reducible refine (Trim_any a a2 119 _ HT).mono ?_)
  rintro e w' ⟨rfl, rfl⟩
  go_wp2_with fail
  (with_reducible refine (Cut_any a2 t b2 32 true _ (by omega) HP2 hE).mono ?_)
  rintro e w2 ⟨rfl, hb2⟩
  have hE := hE.mono hb2
  go_wp2_with fail
  (with_reducible refine (Atoi_ok t n _ (by omega) HA).mono ?_)
  rintro e w3 ⟨rfl, hb3⟩
  have hE := hE.mono hb3
  go_wp2_with fail
  (with_reducible refine (hE1 _ hE).mono ?_)
  rintro e w4 ⟨rfl, hb4⟩
  clear hE hE1
  go_wp2
  go_ret3
  exact ⟨rfl, Below.step (Below.step (Below.step hb1 hb2 (Nat.le_refl _)) hb3 (Nat.le_refl _)) hb4 (Nat.le_refl _)⟩

/-- whatever Atoi gives -/
def AnyA (e : Ending) : Prop := ∃ z E, e = .returned (.tuple #[.int .i64 z, E])

theorem Atoi_any (l : Wl.Bs) (w : World) (hl : l.length ≤ 1000000) (hE : Env w) :
    Calls Tryz.prog 62 #[sv l] w fun e w' => AnyA e ∧ Below w.heap.size w w' := by
  by_cases h : ∃ v, Lib.atoiAll l = .ok v
  · obtain ⟨v, h⟩ := h
    exact (Atoi_ok l v w hl (Lib.hid h)).mono fun e w' ⟨h1, h2⟩ => ⟨⟨_, _, h1⟩, h2⟩
  · exact (Atoi_bad l w hl (fun v hv => h ⟨v, hv⟩) hE).mono fun e w' ⟨⟨z, t, p, h1⟩, h2⟩ => ⟨⟨_, _, h1⟩, h2⟩

/-- no written record -/
def Torn (e : Ending) : Prop := e = .returned (.tuple #[.int .i64 0, sv [], .int .i64 21])

set_option maxRecDepth 100000 in
set_option maxHeartbeats 1600000 in
theorem Decode_nocut (s a b : Wl.Bs) (w : World) (hs : s.length ≤ 1000000) (HP1 : Hid (Lib.cut s [10] = (a, b, false))) (hE : Env w) :
    Calls Tryz.prog 63 #[sv s] w fun e w' => Torn e ∧ Below w.heap.size w w' := by
  have hl := head_len HP1.out
  have hl2 := trim_len a 119
  obtain ⟨a2, ha2⟩ : ∃ a2, Lib.trimPrefix a [119] = a2 := ⟨_, rfl⟩
  rw [ha2] at hl2
  have HT := Lib.hid ha2
  clear ha2
  obtain ⟨t, b2, f2, h2⟩ : ∃ t b2 f2, Lib.cut a2 [32] = (t, b2, f2) := ⟨_, _, _, rfl⟩
  have hl3 := head_len h2
  have HP2 := Lib.hid h2
  clear h2
  go_enter Tryz.func63, Tryz.ntmps63
  go_wp2_with fail
  (with_reducible refine (Cut_any s a b 10 false _ hs HP1 hE).mono ?_)
  rintro e w1 ⟨rfl, hb1⟩
  have hE := hE.mono hb1
  go_wp2_with fail
  (with_reducible refine (Trim_any a a2 119 _ HT).mono ?_)
  rintro e w' ⟨rfl, rfl⟩
  go_wp2_with fail
  (with_reducible refine (Cut_any a2 t b2 32 f2 _ (by omega) HP2 hE).mono ?_)
  rintro e w2 ⟨rfl, hb2⟩
  have hE := hE.mono hb2
  go_wp2_with fail
  (with_reducible refine (Atoi_any t _ (by omega) hE).mono ?_)
  rintro e w3 ⟨⟨z, E, rfl⟩, hb3⟩
  clear hE
  go_wp2
  go_ret3
  exact ⟨rfl, Below.step (Below.step hb1 hb2 (Nat.le_refl _)) hb3 (Nat.le_refl _)⟩

set_option maxRecDepth 100000 in
set_option maxHeartbeats 1600000 in
theorem Decode_noatoi (s a b a2 t b2 : Wl.Bs) (f2 : Bool) (w : World) (hs : s.length ≤ 1000000) (HP1 : Hid (Lib.cut s [10] = (a, b, true))) (HT : Hid (Lib.trimPrefix a [119] = a2)) (HP2 : Hid (Lib.cut a2 [32] = (t, b2, f2)))
    (hA : Hid (∀ v, Lib.atoiAll t ≠ .ok v)) (hE : Env w) :
    Calls Tryz.prog 63 #[sv s] w fun e w' => Torn e ∧ Below w.heap.size w w' := by
  have hl := head_len HP1.out
  have hl2 := trim_len a 119
  rw [HT.out] at hl2
  have hl3 := head_len HP2.out
  go_enter Tryz.func63, Tryz.ntmps63
  go_wp2_with fail
  (with_reducible refine (Cut_any s a b 10 true _ hs HP1 hE).mono ?_)
  rintro e w1 ⟨rfl, hb1⟩
  have hE := hE.mono hb1
  go_wp2_with fail
  (with_reducible refine (Trim_any a a2 119 _ HT).mono ?_)
  rintro e w' ⟨rfl, rfl⟩
  go_wp2_with fail
  (with_reducible refine (Cut_any a2 t b2 32 f2 _ (by omega) HP2 hE).mono ?_)
  rintro e w2 ⟨rfl, hb2⟩
  have hE := hE.mono hb2
  go_wp2_with fail
  (with_reducible refine (Atoi_bad t _ (by omega) hA.out hE).mono ?_)
  rintro e w3 ⟨⟨z, tt, pp, rfl⟩, hb3⟩
  clear hE
  go_wp2
  go_ret3
  exact ⟨rfl, Below.step (Below.step hb1 hb2 (Nat.le_refl _)) hb3 (Nat.le_refl _)⟩

set_option maxRecDepth 100000 in
set_option maxHeartbeats 1600000 in
theorem Decode_other (s a b a2 t b2 E : Wl.Bs) (f2 : Bool) (v : Int) (w : World) (hs : s.length ≤ 1000000) (HP1 : Hid (Lib.cut s [10] = (a, b, true))) (HT : Hid (Lib.trimPrefix a [119] = a2)) (HP2 : Hid (Lib.cut a2 [32] = (t, b2, f2)))
    (hA : Hid (Lib.atoiAll t = .ok v)) (hEn : Hid (Wl.enc v b = E)) (hne : (s == E) = false) (hE : Env w) :
    Calls Tryz.prog 63 #[sv s] w fun e w' => Torn e ∧ Below w.heap.size w w' := by
  have hl := head_len HP1.out
  have hl2 := trim_len a 119
  rw [HT.out] at hl2
  have hl3 := head_len HP2.out
  have hE1 := fun w hE => Encode_any v b w (by omega) hE
  rw [hEn.out] at hE1
  have hv := Lib.atoiAll_bounds hA.out
  go_enter Tryz.func63, Tryz.ntmps63
  go_wp2_with fail
  (with_reducible refine (Cut_any s a b 10 true _ hs HP1 hE).mono ?_)
  rintro e w1 ⟨rfl, hb1⟩
  have hE := hE.mono hb1
  go_wp2_with fail
  (with_reducible refine (Trim_any a a2 119 _ HT).mono ?_)
  rintro e w' ⟨rfl, rfl⟩
  go_wp2_with fail
  (with_reducible refine (Cut_any a2 t b2 32 f2 _ (by omega) HP2 hE).mono ?_)
  rintro e w2 ⟨rfl, hb2⟩
  have hE := hE.mono hb2
  go_wp2_with fail
  (with_reducible refine (Atoi_ok t v _ (by omega) hA).mono ?_)
  rintro e w3 ⟨rfl, hb3⟩
  have hE := hE.mono hb3
  go_wp2_with fail
  (with_reducible refine (hE1 _ hE).mono ?_)
  rintro e w4 ⟨rfl, hb4⟩
  clear hE hE1
  go_wp2
  go_ret3
  exact ⟨rfl, Below.step (Below.step (Below.step hb1 hb2 (Nat.le_refl _)) hb3 (Nat.le_refl _)) hb4 (Nat.le_refl _)⟩

theorem Decode_none (s : Wl.Bs) (w : World) (hs : s.length ≤ 1000000) (h : Hid (Wl.dec s = none)) (hE : Env w) :
    Calls Tryz.prog 63 #[sv s] w fun e w' => Torn e ∧ Below w.heap.size w w' := by
  obtain ⟨a, b, f, h1⟩ : ∃ a b f, Lib.cut s [10] = (a, b, f) := ⟨_, _, _, rfl⟩
  cases f with
  | false => exact Decode_nocut s a b w hs (Lib.hid h1) hE
  | true =>
    obtain ⟨t, b2, f2, h2⟩ : ∃ t b2 f2, Lib.cut (Lib.trimPrefix a [119]) [32] = (t, b2, f2) := ⟨_, _, _, rfl⟩
    by_cases hv : ∃ v, Lib.atoiAll t = .ok v
    · obtain ⟨v, hv⟩ := hv
      exact Decode_other s a b _ t b2 _ f2 v w hs (Lib.hid h1) (Lib.hid rfl) (Lib.hid h2) (Lib.hid hv) (Lib.hid rfl) (beq_eq_false_iff_ne.2 (Wl.dec_none_ne h.out (Wl.cut_some_ne h1) v b)) hE
    · exact Decode_noatoi s a b _ t b2 f2 w hs (Lib.hid h1) (Lib.hid rfl) (Lib.hid h2) (Lib.hid fun v hv' => hv ⟨v, hv'⟩) hE

end Go.Proofs.YtackeigdehfmmaaGreatDoor

namespace Wl
theorem dec_lt13 {t : Bs} (h : ∀ b ∈ t, Bi.isDig b) (hl : t.length ≤ 13) : Bi.decVal t < 10000000000000 := by
  have h1 := Bi.decVal_lt t h
  have h2 : 10 ^ t.length ≤ 10 ^ 13 := Nat.pow_le_pow_right (by omega) hl
  omega
theorem num_long {t : Bs} (h : 13 < t.length) : num t = none :=
  num_none.2 fun n hn e => by have := txt_len hn; rw [e] at this; omega
theorem num_other {t : Bs} {c : UInt8} (hc : c ∈ t) (h : ¬ Bi.isDig c) : num t = none :=
  num_none.2 fun n _ e => h (by rw [← e] at hc; exact txt_dig n c hc)
theorem num_end_some {t : Bs} (h : Bi.decVal t ≤ lim) (h2 : txt (Bi.decVal t) = t) : num t = some (Bi.decVal t) := num_some.2 ⟨h, h2⟩
theorem num_end_none {t : Bs} (h : ¬ (Bi.decVal t ≤ lim ∧ txt (Bi.decVal t) = t)) : num t = none := by
  unfold num; rw [if_neg h]
end Wl
namespace Go.Proofs.YtackeigdehfmmaaGreatDoor
open Go.RowKit

/-- a number and whether it is one -/
def NumR (s : Wl.Bs) (e : Ending) : Prop := ∃ (z : Int) (ok : Bool), e = .returned (.tuple #[.int .i64 z, .bool ok]) ∧ ((ok = true ∧ ∃ n : Nat, z = n ∧ Wl.num s = some n) ∨ (ok = false ∧ Wl.num s = none))

set_option maxRecDepth 100000 in
set_option maxHeartbeats 1600000 in
theorem Number_any (s : Wl.Bs) (w : World) (hs : s.length ≤ 1000000) (hE : Env w) :
    Calls Tryz.prog 55 #[sv s] w fun e w' => NumR s e ∧ Below w.heap.size w w' := by
  go_enter Tryz.func55, Tryz.ntmps55
  go_wp2
  go_loop [4, 5] (fun s4 s5 => ∃ (k v : Nat), k ≤ s.length ∧ k ≤ 13 ∧ s5 = .int .i64 k ∧ s4 = .int .i64 v ∧ v < 10000000000000 ∧ Hid (v = Bi.decVal (s.take k)) ∧ Hid (∀ b ∈ s.take k, Bi.isDig b)) (fun _ s5 => s.length - (intOf s5).toNat)
  case atStart => exact ⟨0, 0, Nat.zero_le _, by omega, rfl, rfl, by decide, Lib.hid rfl, Lib.hid (by simp)⟩
  case round =>
    obtain ⟨k, v, hk, hk13, rfl, rfl, hv, HV, HD⟩ := hrel
    by_cases hlt : k < s.length
    · have hlt' : k < (⟨s.toArray⟩ : ByteArray).size := hlt
      obtain ⟨c, hc⟩ : ∃ c, (⟨s.toArray⟩ : ByteArray)[k]'hlt' = c := ⟨_, rfl⟩
      have hmem : c ∈ s := by rw [← hc]; exact List.getElem_mem hlt
      have hsn : s.take (k + 1) = s.take k ++ [c] := by
        rw [List.take_succ_eq_append_getElem hlt, ← hc]; rfl
      have HM := Lib.hid hmem
      have HS := Lib.hid hsn
      clear hmem hsn
      by_cases hd1 : c.toNat < 48
      · have hb : decide ((c.toNat : Int) < 48) = true := by simp <;> omega
        have HN : Hid (Wl.num s = none) := Lib.hid (Wl.num_other HM.out (fun h => by unfold Bi.isDig at h; omega))
        clear hd1
        go_wp2
        go_ret2
        exact ⟨⟨0, false, rfl, .inr ⟨rfl, HN.out⟩⟩, Below.refl _ _⟩
      · have hb : decide ((c.toNat : Int) < 48) = false := by simp <;> omega
        by_cases hd2 : 57 < c.toNat
        · have hb2 : decide ((57 : Int) < (c.toNat : Int)) = true := by simp <;> omega
          have HN : Hid (Wl.num s = none) := Lib.hid (Wl.num_other HM.out (fun h => by unfold Bi.isDig at h; omega))
          clear hd1 hd2
          go_wp2
          go_ret2
          exact ⟨⟨0, false, rfl, .inr ⟨rfl, HN.out⟩⟩, Below.refl _ _⟩
        · have hb2 : decide ((57 : Int) < (c.toNat : Int)) = false := by simp <;> omega
          by_cases h12 : 12 < k
          · have hb3 : decide ((12 : Int) < (k : Int)) = true := by simp <;> omega
            have HN : Hid (Wl.num s = none) := Lib.hid (Wl.num_long (by omega))
            clear hd1 hd2 h12
            go_wp2
            go_ret2
            exact ⟨⟨0, false, rfl, .inr ⟨rfl, HN.out⟩⟩, Below.refl _ _⟩
          · have hb3 : decide ((12 : Int) < (k : Int)) = false := by simp <;> omega
            have hD2 : ∀ b ∈ s.take (k + 1), Bi.isDig b := by
              intro b hb
              rw [HS.out] at hb
              rcases List.mem_append.1 hb with h | h
              · exact HD.out b h
              · simp only [List.mem_singleton] at h; subst h; unfold Bi.isDig; omega
            have hval : Bi.decVal (s.take (k + 1)) = 10 * v + (c.toNat - 48) := by rw [HS.out, Bi.val_snoc_dig, ← HV.out]
            have hlt13 := Wl.dec_lt13 hD2 (by simp; omega)
            rw [hval] at hlt13
            have HVal := Lib.hid hval
            have HD2 := Lib.hid hD2
            have hc48 : (48 : Int) ≤ (c.toNat : Int) := by omega
            have hc57 : (c.toNat : Int) ≤ 57 := by omega
            have hk12 : k ≤ 12 := by omega
            clear hd1 hd2 h12 hval hD2
            go_wp2
            go_round
            case rel => exact ⟨k + 1, 10 * v + (c.toNat - 48), by omega, by omega, by go_num, by go_num, hlt13, Lib.hid HVal.out.symm, HD2⟩
            case measure => simp [intOf]; omega
    · have hk2 : s.take k = s := List.take_of_length_le (by omega)
      rw [hk2] at HV HD
      by_cases hl : v ≤ 1099511627776
      · have hb : decide ((v : Int) ≤ 1099511627776) = true := by simp <;> omega
        have hI := itoa_any v (by omega) w hE
        by_cases ht : Wl.txt v = s
        · rw [ht] at hI
          have HN : Hid (Wl.num s = some v) := Lib.hid (by rw [HV.out]; exact Wl.num_end_some (by rw [← HV.out]; exact hl) (by rw [← HV.out]; exact ht))
          clear hl ht hk2 hE
          go_wp2_with fail
          (with_reducible refine hI.mono ?_)
          rintro e w1 ⟨rfl, hb1⟩
          clear hI
          go_wp2
          go_ret2
          exact ⟨⟨v, true, rfl, .inl ⟨rfl, v, rfl, HN.out⟩⟩, hb1⟩
        · have hne : (Wl.txt v == s) = false := beq_eq_false_iff_ne.2 ht
          have HN : Hid (Wl.num s = none) := Lib.hid (Wl.num_end_none (by rw [← HV.out]; exact fun h => ht h.2))
          clear hl ht hk2 hE
          generalize Wl.txt v = T at *
          go_wp2_with fail
          (with_reducible refine hI.mono ?_)
          rintro e w1 ⟨rfl, hb1⟩
          clear hI
          go_wp2
          go_ret2
          exact ⟨⟨v, false, rfl, .inr ⟨rfl, HN.out⟩⟩, hb1⟩
      · have hb : decide ((v : Int) ≤ 1099511627776) = false := by simp <;> omega
        have HN : Hid (Wl.num s = none) := Lib.hid (Wl.num_end_none (by rw [← HV.out]; exact fun h => hl h.1))
        clear hl hk2
        go_wp2
        go_ret2
        exact ⟨⟨v, false, rfl, .inr ⟨rfl, HN.out⟩⟩, Below.refl _ _⟩

end Go.Proofs.YtackeigdehfmmaaGreatDoor

namespace Wl
open Go
theorem index_snoc (l : Bs) (c x : UInt8) : Lib.index (l ++ [x]) [c] = if Lib.index l [c] < 0 then (if x = c then (l.length : Int) else -1) else Lib.index l [c] := by
  rcases mem_cases c l with h | ⟨n, d, rfl, hn⟩
  · rw [index_none h, if_pos (by decide)]
    by_cases hx : x = c
    · subst hx; rw [if_pos rfl]; exact index_split h
    · rw [if_neg hx]; exact index_none (by simp [h]; exact fun e => hx e.symm)
  · rw [index_split hn, if_neg (by omega)]
    rw [List.append_assoc, List.cons_append, index_split hn]

/-- the place of the first space among the first k bytes, or -1 -/
def spc (s : Bs) (k : Nat) : Int := Lib.index (s.take k) [32]

theorem spc_zero (s : Bs) : spc s 0 = -1 := by unfold spc; rw [List.take_zero]; exact index_none (by simp)

theorem spc_le (s : Bs) (k : Nat) : -1 ≤ spc s k ∧ spc s k < k + 1 := by
  unfold spc
  rcases mem_cases 32 (s.take k) with h | ⟨n, d, h, hn⟩
  · rw [index_none h]; omega
  · rw [h, index_split hn]
    have := congrArg List.length h
    simp at this
    omega

theorem spc_succ {s : Bs} {k : Nat} {c : UInt8} (h : k < s.length) (hc : s.getD k 0 = c) : spc s (k + 1) = if spc s k < 0 then (if c = 32 then (k : Int) else -1) else spc s k := by
  unfold spc
  rw [List.take_succ_eq_append_getElem h, index_snoc]
  have : s[k] = c := by rw [← hc, List.getD_eq_getElem?_getD, List.getElem?_eq_getElem h]; rfl
  rw [this]
  simp only [List.length_take]
  rw [Nat.min_eq_left (by omega)]
end Wl
namespace Go.Proofs.YtackeigdehfmmaaGreatDoor
open Go.RowKit

theorem byte_at' (l : Wl.Bs) (k : Nat) (h : k < (⟨l.toArray⟩ : ByteArray).size) : (⟨l.toArray⟩ : ByteArray)[k]'h = l.getD k 0 := byte_at l k h h

set_option maxRecDepth 100000 in
set_option maxHeartbeats 3200000 in
theorem rDecode_noline (s : Wl.Bs) (A : Nat) (w : World) (hs : s.length ≤ 1000000) (hA : A = s.length) (HA : Hid ((10 : UInt8) ∉ s.take A)) :
    Calls Tryz.prog 54 #[sv s] w fun e w' => Torn e ∧ w = w' := by
  have hA1 : A ≤ s.length := by omega
  have hA2 : s.length ≤ A := by omega
  clear hA
  go_enter Tryz.func54, Tryz.ntmps54
  go_wp2
  go_loop [5, 6, 7] (fun s5 s6 s7 => ∃ (k : Nat) (sp ln : Int), s7 = .int .i64 k ∧ s5 = .int .i64 sp ∧ s6 = .int .i64 ln ∧ -1 ≤ sp ∧ sp < k + 1 ∧ ((k ≤ A ∧ ln = -1 ∧ Hid (sp = Wl.spc s k)) ∨ (k = A + 1 ∧ A < s.length ∧ ln = A ∧ Hid (sp = Wl.spc s A)))) (fun _ _ s7 => s.length + 1 - (intOf s7).toNat)
  case atStart => exact ⟨0, -1, -1, rfl, rfl, rfl, by omega, by omega, .inl ⟨Nat.zero_le _, rfl, Lib.hid (Wl.spc_zero s).symm⟩⟩
  case round =>
    obtain ⟨k, sp, ln, rfl, rfl, rfl, hs1, hs2, hst⟩ := hrel
    rcases hst with ⟨hkA, rfl, HSP⟩ | ⟨rfl, hAl, rfl, HSP⟩
    · by_cases hlt : k < A
      · have hls : k < s.length := by omega
        have hls' : k < (⟨s.toArray⟩ : ByteArray).size := hls
        obtain ⟨c, hc⟩ : ∃ c, (⟨s.toArray⟩ : ByteArray)[k]'hls' = c := ⟨_, rfl⟩
        have hcg : s.getD k 0 = c := by rw [← hc, byte_at']
        have h10 : ((c.toNat : Int) == 10) = false := by
          rw [beq_eq_false_iff_ne]; intro e
          have hm : (10 : UInt8) ∈ s.take A := by
            have : c = 10 := UInt8.toNat_inj.1 (show c.toNat = 10 by omega)
            rw [← this, ← hcg, List.getD_eq_getElem?_getD, List.getElem?_eq_getElem hls]
            exact List.mem_take_iff_getElem.2 ⟨k, by omega, rfl⟩
          exact HA.out hm
        have hsu := Wl.spc_succ hls hcg
        by_cases h32 : c = 32
        · have hb : ((c.toNat : Int) == 32) = true := by rw [h32]; rfl
          by_cases hneg : sp < 0
          · have hb2 : decide (sp < 0) = true := by simpa using hneg
            have HS2 : Hid ((k : Int) = Wl.spc s (k + 1)) := Lib.hid (by rw [hsu, ← HSP.out, if_pos hneg, if_pos h32])
            clear hsu h32 hcg hneg
            go_wp2
            go_round
            case rel => exact ⟨k + 1, k, -1, by go_num, rfl, rfl, by omega, by omega, .inl ⟨by omega, rfl, HS2⟩⟩
            case measure => simp [intOf]; omega
          · have hb2 : decide (sp < 0) = false := by simpa using hneg
            have HS2 : Hid (sp = Wl.spc s (k + 1)) := Lib.hid (by rw [hsu, ← HSP.out, if_neg hneg])
            clear hsu h32 hcg hneg
            go_wp2
            go_round
            case rel => exact ⟨k + 1, sp, -1, by go_num, rfl, rfl, by omega, by omega, .inl ⟨by omega, rfl, HS2⟩⟩
            case measure => simp [intOf]; omega
        · have hb : ((c.toNat : Int) == 32) = false := by
            rw [beq_eq_false_iff_ne]; intro e; exact h32 (UInt8.toNat_inj.1 (show c.toNat = 32 by omega))
          have HS2 : Hid (sp = Wl.spc s (k + 1)) := Lib.hid (by
            rw [hsu, ← HSP.out]
            by_cases hneg : sp < 0
            · rw [if_pos hneg, if_neg h32]; omega
            · rw [if_neg hneg])
          clear hsu h32 hcg
          go_wp2
          go_round
          case rel => exact ⟨k + 1, sp, -1, by go_num, rfl, rfl, by omega, by omega, .inl ⟨by omega, rfl, HS2⟩⟩
          case measure => simp [intOf]; omega
      · obtain rfl : k = A := by omega
        go_wp2
        all_goals go_ret3
        all_goals exact ⟨rfl, rfl⟩
    · omega

set_option maxRecDepth 100000 in
set_option maxHeartbeats 3200000 in
theorem rDecode_nospace (s : Wl.Bs) (A : Nat) (w : World) (hs : s.length ≤ 1000000) (hAl : A < s.length) (HA : Hid ((10 : UInt8) ∉ s.take A)) (H10 : Hid (s.getD A 0 = 10)) (HN : Hid (Wl.spc s A < 1)) :
    Calls Tryz.prog 54 #[sv s] w fun e w' => Torn e ∧ w = w' := by
  go_enter Tryz.func54, Tryz.ntmps54
  go_wp2
  go_loop [5, 6, 7] (fun s5 s6 s7 => ∃ (k : Nat) (sp ln : Int), s7 = .int .i64 k ∧ s5 = .int .i64 sp ∧ s6 = .int .i64 ln ∧ -1 ≤ sp ∧ sp < k + 1 ∧ ((k ≤ A ∧ ln = -1 ∧ Hid (sp = Wl.spc s k)) ∨ (k = A + 1 ∧ A < s.length ∧ ln = A ∧ Hid (sp = Wl.spc s A)))) (fun _ _ s7 => s.length + 1 - (intOf s7).toNat)
  case atStart => exact ⟨0, -1, -1, rfl, rfl, rfl, by omega, by omega, .inl ⟨Nat.zero_le _, rfl, Lib.hid (Wl.spc_zero s).symm⟩⟩
  case round =>
    obtain ⟨k, sp, ln, rfl, rfl, rfl, hs1, hs2, hst⟩ := hrel
    rcases hst with ⟨hkA, rfl, HSP⟩ | ⟨rfl, hAl, rfl, HSP⟩
    · by_cases hlt : k < A
      · have hls : k < s.length := by omega
        have hls' : k < (⟨s.toArray⟩ : ByteArray).size := hls
        obtain ⟨c, hc⟩ : ∃ c, (⟨s.toArray⟩ : ByteArray)[k]'hls' = c := ⟨_, rfl⟩
        have hcg : s.getD k 0 = c := by rw [← hc, byte_at']
        have h10 : ((c.toNat : Int) == 10) = false := by
          rw [beq_eq_false_iff_ne]; intro e
          have hm : (10 : UInt8) ∈ s.take A := by
            have : c = 10 := UInt8.toNat_inj.1 (show c.toNat = 10 by omega)
            rw [← this, ← hcg, List.getD_eq_getElem?_getD, List.getElem?_eq_getElem hls]
            exact List.mem_take_iff_getElem.2 ⟨k, by omega, rfl⟩
          exact HA.out hm
        have hsu := Wl.spc_succ hls hcg
        by_cases h32 : c = 32
        · have hb : ((c.toNat : Int) == 32) = true := by rw [h32]; rfl
          by_cases hneg : sp < 0
          · have hb2 : decide (sp < 0) = true := by simpa using hneg
            have HS2 : Hid ((k : Int) = Wl.spc s (k + 1)) := Lib.hid (by rw [hsu, ← HSP.out, if_pos hneg, if_pos h32])
            clear hsu h32 hcg hneg
            go_wp2
            go_round
            case rel => exact ⟨k + 1, k, -1, by go_num, rfl, rfl, by omega, by omega, .inl ⟨by omega, rfl, HS2⟩⟩
            case measure => simp [intOf]; omega
          · have hb2 : decide (sp < 0) = false := by simpa using hneg
            have HS2 : Hid (sp = Wl.spc s (k + 1)) := Lib.hid (by rw [hsu, ← HSP.out, if_neg hneg])
            clear hsu h32 hcg hneg
            go_wp2
            go_round
            case rel => exact ⟨k + 1, sp, -1, by go_num, rfl, rfl, by omega, by omega, .inl ⟨by omega, rfl, HS2⟩⟩
            case measure => simp [intOf]; omega
        · have hb : ((c.toNat : Int) == 32) = false := by
            rw [beq_eq_false_iff_ne]; intro e; exact h32 (UInt8.toNat_inj.1 (show c.toNat = 32 by omega))
          have HS2 : Hid (sp = Wl.spc s (k + 1)) := Lib.hid (by
            rw [hsu, ← HSP.out]
            by_cases hneg : sp < 0
            · rw [if_pos hneg, if_neg h32]; omega
            · rw [if_neg hneg])
          clear hsu h32 hcg
          go_wp2
          go_round
          case rel => exact ⟨k + 1, sp, -1, by go_num, rfl, rfl, by omega, by omega, .inl ⟨by omega, rfl, HS2⟩⟩
          case measure => simp [intOf]; omega
      · obtain rfl : k = A := by omega
        have hls' : k < (⟨s.toArray⟩ : ByteArray).size := hAl
        obtain ⟨c, hc⟩ : ∃ c, (⟨s.toArray⟩ : ByteArray)[k]'hls' = c := ⟨_, rfl⟩
        have hc10 : c = 10 := by rw [← hc, byte_at', H10.out]
        have h10 : ((c.toNat : Int) == 10) = true := by rw [hc10]; rfl
        have h32 : ((c.toNat : Int) == 32) = false := by rw [hc10]; rfl
        clear hc10
        go_wp2
        go_round
        case rel => exact ⟨k + 1, sp, k, by go_num, rfl, rfl, by omega, by omega, .inr ⟨rfl, hAl, rfl, HSP⟩⟩
        case measure => simp [intOf]; omega
    · have hb : sp < 1 := by rw [HSP.out]; exact HN.out
      go_wp2
      all_goals go_ret3
      all_goals exact ⟨rfl, rfl⟩

set_option maxRecDepth 100000 in
set_option maxHeartbeats 3200000 in
theorem rDecode_nonum (s : Wl.Bs) (A P : Nat) (w : World) (hs : s.length ≤ 1000000) (hAl : A < s.length) (HA : Hid ((10 : UInt8) ∉ s.take A)) (H10 : Hid (s.getD A 0 = 10)) (HP : Hid (Wl.spc s A = P)) (hP : 1 ≤ P) (HN : Hid (Wl.num ((s.drop 1).take (P - 1)) = none)) (hE : Env w) :
    Calls Tryz.prog 54 #[sv s] w fun e w' => Torn e ∧ Below w.heap.size w w' := by
  go_enter Tryz.func54, Tryz.ntmps54
  go_wp2
  go_loop [5, 6, 7] (fun s5 s6 s7 => ∃ (k : Nat) (sp ln : Int), s7 = .int .i64 k ∧ s5 = .int .i64 sp ∧ s6 = .int .i64 ln ∧ -1 ≤ sp ∧ sp < k + 1 ∧ ((k ≤ A ∧ ln = -1 ∧ Hid (sp = Wl.spc s k)) ∨ (k = A + 1 ∧ A < s.length ∧ ln = A ∧ Hid (sp = Wl.spc s A)))) (fun _ _ s7 => s.length + 1 - (intOf s7).toNat)
  case atStart => exact ⟨0, -1, -1, rfl, rfl, rfl, by omega, by omega, .inl ⟨Nat.zero_le _, rfl, Lib.hid (Wl.spc_zero s).symm⟩⟩
  case round =>
    obtain ⟨k, sp, ln, rfl, rfl, rfl, hs1, hs2, hst⟩ := hrel
    rcases hst with ⟨hkA, rfl, HSP⟩ | ⟨rfl, hAl, rfl, HSP⟩
    · by_cases hlt : k < A
      · have hls : k < s.length := by omega
        have hls' : k < (⟨s.toArray⟩ : ByteArray).size := hls
        obtain ⟨c, hc⟩ : ∃ c, (⟨s.toArray⟩ : ByteArray)[k]'hls' = c := ⟨_, rfl⟩
        have hcg : s.getD k 0 = c := by rw [← hc, byte_at']
        have h10 : ((c.toNat : Int) == 10) = false := by
          rw [beq_eq_false_iff_ne]; intro e
          have hm : (10 : UInt8) ∈ s.take A := by
            have : c = 10 := UInt8.toNat_inj.1 (show c.toNat = 10 by omega)
            rw [← this, ← hcg, List.getD_eq_getElem?_getD, List.getElem?_eq_getElem hls]
            exact List.mem_take_iff_getElem.2 ⟨k, by omega, rfl⟩
          exact HA.out hm
        have hsu := Wl.spc_succ hls hcg
        by_cases h32 : c = 32
        · have hb : ((c.toNat : Int) == 32) = true := by rw [h32]; rfl
          by_cases hneg : sp < 0
          · have hb2 : decide (sp < 0) = true := by simpa using hneg
            have HS2 : Hid ((k : Int) = Wl.spc s (k + 1)) := Lib.hid (by rw [hsu, ← HSP.out, if_pos hneg, if_pos h32])
            clear hsu h32 hcg hneg
            go_wp2
            go_round
            case rel => exact ⟨k + 1, k, -1, by go_num, rfl, rfl, by omega, by omega, .inl ⟨by omega, rfl, HS2⟩⟩
            case measure => simp [intOf]; omega
          · have hb2 : decide (sp < 0) = false := by simpa using hneg
            have HS2 : Hid (sp = Wl.spc s (k + 1)) := Lib.hid (by rw [hsu, ← HSP.out, if_neg hneg])
            clear hsu h32 hcg hneg
            go_wp2
            go_round
            case rel => exact ⟨k + 1, sp, -1, by go_num, rfl, rfl, by omega, by omega, .inl ⟨by omega, rfl, HS2⟩⟩
            case measure => simp [intOf]; omega
        · have hb : ((c.toNat : Int) == 32) = false := by
            rw [beq_eq_false_iff_ne]; intro e; exact h32 (UInt8.toNat_inj.1 (show c.toNat = 32 by omega))
          have HS2 : Hid (sp = Wl.spc s (k + 1)) := Lib.hid (by
            rw [hsu, ← HSP.out]
            by_cases hneg : sp < 0
            · rw [if_pos hneg, if_neg h32]; omega
            · rw [if_neg hneg])
          clear hsu h32 hcg
          go_wp2
          go_round
          case rel => exact ⟨k + 1, sp, -1, by go_num, rfl, rfl, by omega, by omega, .inl ⟨by omega, rfl, HS2⟩⟩
          case measure => simp [intOf]; omega
      · obtain rfl : k = A := by omega
        have hls' : k < (⟨s.toArray⟩ : ByteArray).size := hAl
        obtain ⟨c, hc⟩ : ∃ c, (⟨s.toArray⟩ : ByteArray)[k]'hls' = c := ⟨_, rfl⟩
        have hc10 : c = 10 := by rw [← hc, byte_at', H10.out]
        have h10 : ((c.toNat : Int) == 10) = true := by rw [hc10]; rfl
        have h32 : ((c.toNat : Int) == 32) = false := by rw [hc10]; rfl
        clear hc10
        go_wp2
        go_round
        case rel => exact ⟨k + 1, sp, k, by go_num, rfl, rfl, by omega, by omega, .inr ⟨rfl, hAl, rfl, HSP⟩⟩
        case measure => simp [intOf]; omega
    · have hsP : sp = (P : Int) := by rw [HSP.out, HP.out]
      subst hsP
      have hP2 : P ≤ A := by have := (Wl.spc_le s A).2; rw [HP.out] at this; omega
      clear hs1 hs2 HSP
      obtain ⟨q, hq⟩ : ∃ q, decide ((A : Int) + 1 < (s.length : Int)) = q := ⟨_, rfl⟩
      cases q
      all_goals
        go_wp2_with fail
        rw [extract_ba]
        have hNum := Number_any ((s.drop 1).take (P - 1)) w (by simp; omega) hE
        obtain ⟨t, ht⟩ : ∃ t, t = (s.drop 1).take (P - 1) := ⟨_, rfl⟩
        rw [← ht] at hNum ⊢
        have HT := Lib.hid ht
        clear ht
        (with_reducible refine hNum.mono ?_)
        rintro e w1 ⟨⟨z, ok, rfl, hok⟩, hb1⟩
        have hE := hE.mono hb1
        clear hNum
        obtain rfl : ok = false := by
          rcases hok with ⟨_, n, _, h⟩ | ⟨h, _⟩
          · rw [HT.out, HN.out] at h; cases h
          · exact h
        clear hok hE
        go_wp2
        go_ret3
        exact ⟨rfl, hb1⟩

set_option maxRecDepth 100000 in
set_option maxHeartbeats 3200000 in
theorem rDecode_long (s : Wl.Bs) (A P : Nat) (w : World) (hs : s.length ≤ 1000000) (hAl : A < s.length) (HA : Hid ((10 : UInt8) ∉ s.take A)) (H10 : Hid (s.getD A 0 = 10)) (HP : Hid (Wl.spc s A = P)) (hP : 1 ≤ P) (n : Nat) (HN : Hid (Wl.num ((s.drop 1).take (P - 1)) = some n)) (hr : 65000 < s.length - (A + 1)) (hE : Env w) :
    Calls Tryz.prog 54 #[sv s] w fun e w' => Torn e ∧ Below w.heap.size w w' := by
  go_enter Tryz.func54, Tryz.ntmps54
  go_wp2
  go_loop [5, 6, 7] (fun s5 s6 s7 => ∃ (k : Nat) (sp ln : Int), s7 = .int .i64 k ∧ s5 = .int .i64 sp ∧ s6 = .int .i64 ln ∧ -1 ≤ sp ∧ sp < k + 1 ∧ ((k ≤ A ∧ ln = -1 ∧ Hid (sp = Wl.spc s k)) ∨ (k = A + 1 ∧ A < s.length ∧ ln = A ∧ Hid (sp = Wl.spc s A)))) (fun _ _ s7 => s.length + 1 - (intOf s7).toNat)
  case atStart => exact ⟨0, -1, -1, rfl, rfl, rfl, by omega, by omega, .inl ⟨Nat.zero_le _, rfl, Lib.hid (Wl.spc_zero s).symm⟩⟩
  case round =>
    obtain ⟨k, sp, ln, rfl, rfl, rfl, hs1, hs2, hst⟩ := hrel
    rcases hst with ⟨hkA, rfl, HSP⟩ | ⟨rfl, hAl, rfl, HSP⟩
    · by_cases hlt : k < A
      · have hls : k < s.length := by omega
        have hls' : k < (⟨s.toArray⟩ : ByteArray).size := hls
        obtain ⟨c, hc⟩ : ∃ c, (⟨s.toArray⟩ : ByteArray)[k]'hls' = c := ⟨_, rfl⟩
        have hcg : s.getD k 0 = c := by rw [← hc, byte_at']
        have h10 : ((c.toNat : Int) == 10) = false := by
          rw [beq_eq_false_iff_ne]; intro e
          have hm : (10 : UInt8) ∈ s.take A := by
            have : c = 10 := UInt8.toNat_inj.1 (show c.toNat = 10 by omega)
            rw [← this, ← hcg, List.getD_eq_getElem?_getD, List.getElem?_eq_getElem hls]
            exact List.mem_take_iff_getElem.2 ⟨k, by omega, rfl⟩
          exact HA.out hm
        have hsu := Wl.spc_succ hls hcg
        by_cases h32 : c = 32
        · have hb : ((c.toNat : Int) == 32) = true := by rw [h32]; rfl
          by_cases hneg : sp < 0
          · have hb2 : decide (sp < 0) = true := by simpa using hneg
            have HS2 : Hid ((k : Int) = Wl.spc s (k + 1)) := Lib.hid (by rw [hsu, ← HSP.out, if_pos hneg, if_pos h32])
            clear hsu h32 hcg hneg
            go_wp2
            go_round
            case rel => exact ⟨k + 1, k, -1, by go_num, rfl, rfl, by omega, by omega, .inl ⟨by omega, rfl, HS2⟩⟩
            case measure => simp [intOf]; omega
          · have hb2 : decide (sp < 0) = false := by simpa using hneg
            have HS2 : Hid (sp = Wl.spc s (k + 1)) := Lib.hid (by rw [hsu, ← HSP.out, if_neg hneg])
            clear hsu h32 hcg hneg
            go_wp2
            go_round
            case rel => exact ⟨k + 1, sp, -1, by go_num, rfl, rfl, by omega, by omega, .inl ⟨by omega, rfl, HS2⟩⟩
            case measure => simp [intOf]; omega
        · have hb : ((c.toNat : Int) == 32) = false := by
            rw [beq_eq_false_iff_ne]; intro e; exact h32 (UInt8.toNat_inj.1 (show c.toNat = 32 by omega))
          have HS2 : Hid (sp = Wl.spc s (k + 1)) := Lib.hid (by
            rw [hsu, ← HSP.out]
            by_cases hneg : sp < 0
            · rw [if_pos hneg, if_neg h32]; omega
            · rw [if_neg hneg])
          clear hsu h32 hcg
          go_wp2
          go_round
          case rel => exact ⟨k + 1, sp, -1, by go_num, rfl, rfl, by omega, by omega, .inl ⟨by omega, rfl, HS2⟩⟩
          case measure => simp [intOf]; omega
      · obtain rfl : k = A := by omega
        have hls' : k < (⟨s.toArray⟩ : ByteArray).size := hAl
        obtain ⟨c, hc⟩ : ∃ c, (⟨s.toArray⟩ : ByteArray)[k]'hls' = c := ⟨_, rfl⟩
        have hc10 : c = 10 := by rw [← hc, byte_at', H10.out]
        have h10 : ((c.toNat : Int) == 10) = true := by rw [hc10]; rfl
        have h32 : ((c.toNat : Int) == 32) = false := by rw [hc10]; rfl
        clear hc10
        go_wp2
        go_round
        case rel => exact ⟨k + 1, sp, k, by go_num, rfl, rfl, by omega, by omega, .inr ⟨rfl, hAl, rfl, HSP⟩⟩
        case measure => simp [intOf]; omega
    · have hsP : sp = (P : Int) := by rw [HSP.out, HP.out]
      subst hsP
      have hP2 : P ≤ A := by have := (Wl.spc_le s A).2; rw [HP.out] at this; omega
      clear hs1 hs2 HSP
      obtain ⟨q, hq⟩ : ∃ q, decide ((A : Int) + 1 < (s.length : Int)) = q := ⟨_, rfl⟩
      cases q
      all_goals
        go_wp2_with fail
        rw [extract_ba]
        have hNum := Number_any ((s.drop 1).take (P - 1)) w (by simp; omega) hE
        obtain ⟨t, ht⟩ : ∃ t, t = (s.drop 1).take (P - 1) := ⟨_, rfl⟩
        rw [← ht] at hNum ⊢
        have HT := Lib.hid ht
        clear ht
        (with_reducible refine hNum.mono ?_)
        rintro e w1 ⟨⟨z, ok, rfl, hok⟩, hb1⟩
        have hE := hE.mono hb1
        clear hNum
        have hok2 : ok = true ∧ z = (n : Int) := by
          rcases hok with ⟨h, m, hm, h2⟩ | ⟨_, h⟩
          · rw [HT.out, HN.out] at h2
            simp only [Option.some.injEq] at h2
            subst h2
            exact ⟨h, hm⟩
          · rw [HT.out, HN.out] at h; cases h
        obtain ⟨rfl, rfl⟩ := hok2
        clear hok
        clear hE
        have hb3 : decide ((65000 : Int) < ((s.length - (A + 1) : Nat) : Int)) = true := by simp <;> omega
        go_wp2
        go_ret3
        exact ⟨rfl, hb1⟩

theorem ext_end (s : Wl.Bs) (a : Nat) : (⟨s.toArray⟩ : ByteArray).extract a s.length = ⟨(s.drop a).toArray⟩ := by
  rw [extract_ba]
  congr 1
  rw [List.take_of_length_le (by simp)]

set_option maxRecDepth 100000 in
set_option maxHeartbeats 3200000 in
theorem rDecode_other (s : Wl.Bs) (A P : Nat) (w : World) (hs : s.length ≤ 1000000) (hAl : A < s.length) (HA : Hid ((10 : UInt8) ∉ s.take A)) (H10 : Hid (s.getD A 0 = 10)) (HP : Hid (Wl.spc s A = P)) (hP : 1 ≤ P) (n : Nat) (HN : Hid (Wl.num ((s.drop 1).take (P - 1)) = some n)) (hr : s.length - (A + 1) ≤ 65000) (E : Wl.Bs) (HE : Hid (Wl.enc (n : Int) (s.drop (A + 1)) = E)) (hne : (E == s) = false) (hE : Env w) :
    Calls Tryz.prog 54 #[sv s] w fun e w' => Torn e ∧ Below w.heap.size w w' := by
  go_enter Tryz.func54, Tryz.ntmps54
  go_wp2
  go_loop [5, 6, 7] (fun s5 s6 s7 => ∃ (k : Nat) (sp ln : Int), s7 = .int .i64 k ∧ s5 = .int .i64 sp ∧ s6 = .int .i64 ln ∧ -1 ≤ sp ∧ sp < k + 1 ∧ ((k ≤ A ∧ ln = -1 ∧ Hid (sp = Wl.spc s k)) ∨ (k = A + 1 ∧ A < s.length ∧ ln = A ∧ Hid (sp = Wl.spc s A)))) (fun _ _ s7 => s.length + 1 - (intOf s7).toNat)
  case atStart => exact ⟨0, -1, -1, rfl, rfl, rfl, by omega, by omega, .inl ⟨Nat.zero_le _, rfl, Lib.hid (Wl.spc_zero s).symm⟩⟩
  case round =>
    obtain ⟨k, sp, ln, rfl, rfl, rfl, hs1, hs2, hst⟩ := hrel
    rcases hst with ⟨hkA, rfl, HSP⟩ | ⟨rfl, hAl, rfl, HSP⟩
    · by_cases hlt : k < A
      · have hls : k < s.length := by omega
        have hls' : k < (⟨s.toArray⟩ : ByteArray).size := hls
        obtain ⟨c, hc⟩ : ∃ c, (⟨s.toArray⟩ : ByteArray)[k]'hls' = c := ⟨_, rfl⟩
        have hcg : s.getD k 0 = c := by rw [← hc, byte_at']
        have h10 : ((c.toNat : Int) == 10) = false := by
          rw [beq_eq_false_iff_ne]; intro e
          have hm : (10 : UInt8) ∈ s.take A := by
            have : c = 10 := UInt8.toNat_inj.1 (show c.toNat = 10 by omega)
            rw [← this, ← hcg, List.getD_eq_getElem?_getD, List.getElem?_eq_getElem hls]
            exact List.mem_take_iff_getElem.2 ⟨k, by omega, rfl⟩
          exact HA.out hm
        have hsu := Wl.spc_succ hls hcg
        by_cases h32 : c = 32
        · have hb : ((c.toNat : Int) == 32) = true := by rw [h32]; rfl
          by_cases hneg : sp < 0
          · have hb2 : decide (sp < 0) = true := by simpa using hneg
            have HS2 : Hid ((k : Int) = Wl.spc s (k + 1)) := Lib.hid (by rw [hsu, ← HSP.out, if_pos hneg, if_pos h32])
            clear hsu h32 hcg hneg
            go_wp2
            go_round
            case rel => exact ⟨k + 1, k, -1, by go_num, rfl, rfl, by omega, by omega, .inl ⟨by omega, rfl, HS2⟩⟩
            case measure => simp [intOf]; omega
          · have hb2 : decide (sp < 0) = false := by simpa using hneg
            have HS2 : Hid (sp = Wl.spc s (k + 1)) := Lib.hid (by rw [hsu, ← HSP.out, if_neg hneg])
            clear hsu h32 hcg hneg
            go_wp2
            go_round
            case rel => exact ⟨k + 1, sp, -1, by go_num, rfl, rfl, by omega, by omega, .inl ⟨by omega, rfl, HS2⟩⟩
            case measure => simp [intOf]; omega
        · have hb : ((c.toNat : Int) == 32) = false := by
            rw [beq_eq_false_iff_ne]; intro e; exact h32 (UInt8.toNat_inj.1 (show c.toNat = 32 by omega))
          have HS2 : Hid (sp = Wl.spc s (k + 1)) := Lib.hid (by
            rw [hsu, ← HSP.out]
            by_cases hneg : sp < 0
            · rw [if_pos hneg, if_neg h32]; omega
            · rw [if_neg hneg])
          clear hsu h32 hcg
          go_wp2
          go_round
          case rel => exact ⟨k + 1, sp, -1, by go_num, rfl, rfl, by omega, by omega, .inl ⟨by omega, rfl, HS2⟩⟩
          case measure => simp [intOf]; omega
      · obtain rfl : k = A := by omega
        have hls' : k < (⟨s.toArray⟩ : ByteArray).size := hAl
        obtain ⟨c, hc⟩ : ∃ c, (⟨s.toArray⟩ : ByteArray)[k]'hls' = c := ⟨_, rfl⟩
        have hc10 : c = 10 := by rw [← hc, byte_at', H10.out]
        have h10 : ((c.toNat : Int) == 10) = true := by rw [hc10]; rfl
        have h32 : ((c.toNat : Int) == 32) = false := by rw [hc10]; rfl
        clear hc10
        go_wp2
        go_round
        case rel => exact ⟨k + 1, sp, k, by go_num, rfl, rfl, by omega, by omega, .inr ⟨rfl, hAl, rfl, HSP⟩⟩
        case measure => simp [intOf]; omega
    · have hsP : sp = (P : Int) := by rw [HSP.out, HP.out]
      subst hsP
      have hP2 : P ≤ A := by have := (Wl.spc_le s A).2; rw [HP.out] at this; omega
      clear hs1 hs2 HSP
      obtain ⟨q, hq⟩ : ∃ q, decide ((A : Int) + 1 < (s.length : Int)) = q := ⟨_, rfl⟩
      cases q
      all_goals
        go_wp2_with fail
        rw [extract_ba]
        have hNum := Number_any ((s.drop 1).take (P - 1)) w (by simp; omega) hE
        obtain ⟨t, ht⟩ : ∃ t, t = (s.drop 1).take (P - 1) := ⟨_, rfl⟩
        rw [← ht] at hNum ⊢
        have HT := Lib.hid ht
        clear ht
        (with_reducible refine hNum.mono ?_)
        rintro e w1 ⟨⟨z, ok, rfl, hok⟩, hb1⟩
        have hE := hE.mono hb1
        clear hNum
        have hok2 : ok = true ∧ z = (n : Int) := by
          rcases hok with ⟨h, m, hm, h2⟩ | ⟨_, h⟩
          · rw [HT.out, HN.out] at h2
            simp only [Option.some.injEq] at h2
            subst h2
            exact ⟨h, hm⟩
          · rw [HT.out, HN.out] at h; cases h
        obtain ⟨rfl, rfl⟩ := hok2
        clear hok
        have HE := HE
        have hr2 : s.length - (A + 1) ≤ 65000 := hr
        go_wp2_with fail
        rw [ext_end]
        have hEn := rEncode_any (n : Int) (s.drop (A + 1)) w1 (by simp; omega) hE
        obtain ⟨r, hr0⟩ : ∃ r, r = s.drop (A + 1) := ⟨_, rfl⟩
        rw [← hr0] at hEn HE ⊢
        have HR := Lib.hid hr0
        clear hr0
        rw [HE.out] at hEn
        (with_reducible refine hEn.mono ?_)
        rintro e w2 ⟨rfl, hb2⟩
        clear hEn hE
        go_wp2
        go_ret3
        exact ⟨rfl, Below.step hb1 hb2 (Nat.le_refl _)⟩

set_option maxRecDepth 100000 in
set_option maxHeartbeats 3200000 in
theorem rDecode_good (s : Wl.Bs) (A P : Nat) (w : World) (hs : s.length ≤ 1000000) (hAl : A < s.length) (HA : Hid ((10 : UInt8) ∉ s.take A)) (H10 : Hid (s.getD A 0 = 10)) (HP : Hid (Wl.spc s A = P)) (hP : 1 ≤ P) (n : Nat) (HN : Hid (Wl.num ((s.drop 1).take (P - 1)) = some n)) (hr : s.length - (A + 1) ≤ 65000) (HE : Hid (Wl.enc (n : Int) (s.drop (A + 1)) = s)) (hE : Env w) :
    Calls Tryz.prog 54 #[sv s] w fun e w' => e = .returned (.tuple #[.int .i64 n, sv (s.drop (A + 1)), .int .i64 0]) ∧ Below w.heap.size w w' := by
  go_enter Tryz.func54, Tryz.ntmps54
  go_wp2
  go_loop [5, 6, 7] (fun s5 s6 s7 => ∃ (k : Nat) (sp ln : Int), s7 = .int .i64 k ∧ s5 = .int .i64 sp ∧ s6 = .int .i64 ln ∧ -1 ≤ sp ∧ sp < k + 1 ∧ ((k ≤ A ∧ ln = -1 ∧ Hid (sp = Wl.spc s k)) ∨ (k = A + 1 ∧ A < s.length ∧ ln = A ∧ Hid (sp = Wl.spc s A)))) (fun _ _ s7 => s.length + 1 - (intOf s7).toNat)
  case atStart => exact ⟨0, -1, -1, rfl, rfl, rfl, by omega, by omega, .inl ⟨Nat.zero_le _, rfl, Lib.hid (Wl.spc_zero s).symm⟩⟩
  case round =>
    obtain ⟨k, sp, ln, rfl, rfl, rfl, hs1, hs2, hst⟩ := hrel
    rcases hst with ⟨hkA, rfl, HSP⟩ | ⟨rfl, hAl, rfl, HSP⟩
    · by_cases hlt : k < A
      · have hls : k < s.length := by omega
        have hls' : k < (⟨s.toArray⟩ : ByteArray).size := hls
        obtain ⟨c, hc⟩ : ∃ c, (⟨s.toArray⟩ : ByteArray)[k]'hls' = c := ⟨_, rfl⟩
        have hcg : s.getD k 0 = c := by rw [← hc, byte_at']
        have h10 : ((c.toNat : Int) == 10) = false := by
          rw [beq_eq_false_iff_ne]; intro e
          have hm : (10 : UInt8) ∈ s.take A := by
            have : c = 10 := UInt8.toNat_inj.1 (show c.toNat = 10 by omega)
            rw [← this, ← hcg, List.getD_eq_getElem?_getD, List.getElem?_eq_getElem hls]
            exact List.mem_take_iff_getElem.2 ⟨k, by omega, rfl⟩
          exact HA.out hm
        have hsu := Wl.spc_succ hls hcg
        by_cases h32 : c = 32
        · have hb : ((c.toNat : Int) == 32) = true := by rw [h32]; rfl
          by_cases hneg : sp < 0
          · have hb2 : decide (sp < 0) = true := by simpa using hneg
            have HS2 : Hid ((k : Int) = Wl.spc s (k + 1)) := Lib.hid (by rw [hsu, ← HSP.out, if_pos hneg, if_pos h32])
            clear hsu h32 hcg hneg
            go_wp2
            go_round
            case rel => exact ⟨k + 1, k, -1, by go_num, rfl, rfl, by omega, by omega, .inl ⟨by omega, rfl, HS2⟩⟩
            case measure => simp [intOf]; omega
          · have hb2 : decide (sp < 0) = false := by simpa using hneg
            have HS2 : Hid (sp = Wl.spc s (k + 1)) := Lib.hid (by rw [hsu, ← HSP.out, if_neg hneg])
            clear hsu h32 hcg hneg
            go_wp2
            go_round
            case rel => exact ⟨k + 1, sp, -1, by go_num, rfl, rfl, by omega, by omega, .inl ⟨by omega, rfl, HS2⟩⟩
            case measure => simp [intOf]; omega
        · have hb : ((c.toNat : Int) == 32) = false := by
            rw [beq_eq_false_iff_ne]; intro e; exact h32 (UInt8.toNat_inj.1 (show c.toNat = 32 by omega))
          have HS2 : Hid (sp = Wl.spc s (k + 1)) := Lib.hid (by
            rw [hsu, ← HSP.out]
            by_cases hneg : sp < 0
            · rw [if_pos hneg, if_neg h32]; omega
            · rw [if_neg hneg])
          clear hsu h32 hcg
          go_wp2
          go_round
          case rel => exact ⟨k + 1, sp, -1, by go_num, rfl, rfl, by omega, by omega, .inl ⟨by omega, rfl, HS2⟩⟩
          case measure => simp [intOf]; omega
      · obtain rfl : k = A := by omega
        have hls' : k < (⟨s.toArray⟩ : ByteArray).size := hAl
        obtain ⟨c, hc⟩ : ∃ c, (⟨s.toArray⟩ : ByteArray)[k]'hls' = c := ⟨_, rfl⟩
        have hc10 : c = 10 := by rw [← hc, byte_at', H10.out]
        have h10 : ((c.toNat : Int) == 10) = true := by rw [hc10]; rfl
        have h32 : ((c.toNat : Int) == 32) = false := by rw [hc10]; rfl
        clear hc10
        go_wp2
        go_round
        case rel => exact ⟨k + 1, sp, k, by go_num, rfl, rfl, by omega, by omega, .inr ⟨rfl, hAl, rfl, HSP⟩⟩
        case measure => simp [intOf]; omega
    · have hsP : sp = (P : Int) := by rw [HSP.out, HP.out]
      subst hsP
      have hP2 : P ≤ A := by have := (Wl.spc_le s A).2; rw [HP.out] at this; omega
      clear hs1 hs2 HSP
      obtain ⟨q, hq⟩ : ∃ q, decide ((A : Int) + 1 < (s.length : Int)) = q := ⟨_, rfl⟩
      cases q
      all_goals
        go_wp2_with fail
        rw [extract_ba]
        have hNum := Number_any ((s.drop 1).take (P - 1)) w (by simp; omega) hE
        obtain ⟨t, ht⟩ : ∃ t, t = (s.drop 1).take (P - 1) := ⟨_, rfl⟩
        rw [← ht] at hNum ⊢
        have HT := Lib.hid ht
        clear ht
        (with_reducible refine hNum.mono ?_)
        rintro e w1 ⟨⟨z, ok, rfl, hok⟩, hb1⟩
        have hE := hE.mono hb1
        clear hNum
        have hok2 : ok = true ∧ z = (n : Int) := by
          rcases hok with ⟨h, m, hm, h2⟩ | ⟨_, h⟩
          · rw [HT.out, HN.out] at h2
            simp only [Option.some.injEq] at h2
            subst h2
            exact ⟨h, hm⟩
          · rw [HT.out, HN.out] at h; cases h
        obtain ⟨rfl, rfl⟩ := hok2
        clear hok
        have HE := HE
        have hr2 : s.length - (A + 1) ≤ 65000 := hr
        go_wp2_with fail
        rw [ext_end]
        have hEn := rEncode_any (n : Int) (s.drop (A + 1)) w1 (by simp; omega) hE
        obtain ⟨r, hr0⟩ : ∃ r, r = s.drop (A + 1) := ⟨_, rfl⟩
        rw [← hr0] at hEn HE ⊢
        have HR := Lib.hid hr0
        clear hr0
        rw [HE.out] at hEn
        (with_reducible refine hEn.mono ?_)
        rintro e w2 ⟨rfl, hb2⟩
        clear hEn hE
        go_wp2
        go_ret3
        exact ⟨by rw [← HR.out]; rfl, Below.step hb1 hb2 (Nat.le_refl _)⟩

end Go.Proofs.YtackeigdehfmmaaGreatDoor

namespace Wl
open Go
theorem spc_split {a b : Bs} : spc (a ++ 10 :: b) a.length = Lib.index a [32] := by
  unfold spc; rw [List.take_left]

/-- where the parts of a written record lie -/
theorem IsRec.places {s : Bs} {n : Nat} {r : Bs} (h : IsRec s n r) : ∃ A P : Nat, A < s.length ∧ (10 : UInt8) ∉ s.take A ∧ s.getD A 0 = 10 ∧ spc s A = P ∧ 1 ≤ P ∧ num ((s.drop 1).take (P - 1)) = some n ∧ s.drop (A + 1) = r ∧ s.length - (A + 1) ≤ 65000 ∧ Wl.enc (n : Int) (s.drop (A + 1)) = s := by
  have he : s = headB n r ++ 10 :: r := by rw [h.eq, encB_head]
  have hh : headB n r = (119 :: txt n) ++ 32 :: (txt r.length ++ 32 :: hexN 8 (crc (txt n ++ 32 :: r))) := by simp [headB]
  have hd : s.drop ((headB n r).length + 1) = r := by
    rw [he, List.drop_append, List.drop_eq_nil_of_le (by omega)]; simp
  refine ⟨(headB n r).length, (txt n).length + 1, ?_, ?_, ?_, ?_, by omega, ?_, hd, ?_, ?_⟩
  · rw [he]; simp
  · rw [he, List.take_left]; exact headB_no n r
  · rw [he, List.getD_eq_getElem?_getD, List.getElem?_append_right (Nat.le_refl _)]; simp
  · rw [he, spc_split, hh, index_split]
    · simp
    · simp; exact txt_no (by decide)
  · rw [he, hh]
    refine num_some.2 ⟨h.n_le, ?_⟩
    simp
  · have := congrArg List.length hd
    rw [List.length_drop] at this
    have := h.r_le
    omega
  · rw [hd]; exact h.enc
end Wl
namespace Go.Proofs.YtackeigdehfmmaaGreatDoor
open Go.RowKit

theorem rDecode_some (s : Wl.Bs) (n : Nat) (r : Wl.Bs) (w : World) (hs : s.length ≤ 1000000) (h : Hid (Wl.IsRec s n r)) (hE : Env w) :
    Calls Tryz.prog 54 #[sv s] w fun e w' => e = .returned (.tuple #[.int .i64 n, sv r, .int .i64 0]) ∧ Below w.heap.size w w' := by
  obtain ⟨A, P, h1, h2, h3, h4, h5, h6, h7, h8, h9⟩ := h.out.places
  rw [← h7]
  exact rDecode_good s A P w hs h1 (Lib.hid h2) (Lib.hid h3) (Lib.hid h4) h5 n (Lib.hid h6) h8 (Lib.hid h9) hE

theorem rDecode_none (s : Wl.Bs) (w : World) (hs : s.length ≤ 1000000) (h : Hid (Wl.dec s = none)) (hE : Env w) :
    Calls Tryz.prog 54 #[sv s] w fun e w' => Torn e ∧ Below w.heap.size w w' := by
  rcases Wl.mem_cases 10 s with h1 | ⟨a, b, hab, ha⟩
  · exact (rDecode_noline s s.length w hs rfl (Lib.hid (by rw [List.take_length]; exact h1))).mono fun e w' ⟨h1, h2⟩ => ⟨h1, h2 ▸ Below.refl _ _⟩
  · have hl : a.length < s.length := by rw [hab]; simp
    have h10 : s.getD a.length 0 = 10 := by rw [hab, List.getD_eq_getElem?_getD, List.getElem?_append_right (Nat.le_refl _)]; simp
    have hta : (10 : UInt8) ∉ s.take a.length := by rw [hab, List.take_left]; exact ha
    by_cases hsp : Wl.spc s a.length < 1
    · exact (rDecode_nospace s a.length w hs hl (Lib.hid hta) (Lib.hid h10) (Lib.hid hsp)).mono fun e w' ⟨h1, h2⟩ => ⟨h1, h2 ▸ Below.refl _ _⟩
    · obtain ⟨P, hP⟩ : ∃ P : Nat, Wl.spc s a.length = P := ⟨(Wl.spc s a.length).toNat, by omega⟩
      have hP1 : 1 ≤ P := by omega
      cases hn : Wl.num ((s.drop 1).take (P - 1)) with
      | none => exact rDecode_nonum s a.length P w hs hl (Lib.hid hta) (Lib.hid h10) (Lib.hid hP) hP1 (Lib.hid hn) hE
      | some n =>
        by_cases hr : 65000 < s.length - (a.length + 1)
        · exact rDecode_long s a.length P w hs hl (Lib.hid hta) (Lib.hid h10) (Lib.hid hP) hP1 n (Lib.hid hn) hr hE
        · have hne : s ≠ Wl.enc (n : Int) (s.drop (a.length + 1)) := Wl.dec_none_ne h.out (by rintro rfl; simp at hl) _ _
          exact rDecode_other s a.length P w hs hl (Lib.hid hta) (Lib.hid h10) (Lib.hid hP) hP1 n (Lib.hid hn) (by omega) _ (Lib.hid rfl) (beq_eq_false_iff_ne.2 hne.symm) hE

end Go.Proofs.YtackeigdehfmmaaGreatDoor
