import Derived.Test.YtijjagofingpdaaDoorParseG
import Derived.Test.YtijjagofingpdaaDoorPlainP
namespace Go.Proofs.YtijjagofingpdaaDoor
open Go.RowKit

/-- what the reference's 'Parse' answers -/
def RParse (w' : World) (neg : Bool) (t s : List UInt8) (e : Ending) : Prop :=
  ∃ (ng : Bool) (ao : Option Addr) (n cap : Nat) (k : Int), e = .returned (.tuple #[.agg #[.bool ng, .slice ao n cap], .int .i64 k]) ∧
    Hid (((∀ b ∈ t, Bi.isDig b) ∧ t ≠ [] ∧ t.length ≤ 300 ∧ Lib.itoa (sgn neg (Bi.decVal t)) = s ∧ IntV w' (.agg #[.bool ng, .slice ao n cap]) (sgn neg (Bi.decVal t)) ∧ k = 0) ∨
      (¬ ((∀ b ∈ t, Bi.isDig b) ∧ t ≠ [] ∧ t.length ≤ 300 ∧ Lib.itoa (sgn neg (Bi.decVal t)) = s) ∧ ng = false ∧ ao = none ∧ n = 0 ∧ cap = 0 ∧ k = 2))

theorem RParse.err {w' : World} {neg : Bool} {t s : List UInt8} (h : ¬ ((∀ b ∈ t, Bi.isDig b) ∧ t ≠ [] ∧ t.length ≤ 300 ∧ Lib.itoa (sgn neg (Bi.decVal t)) = s)) :
    RParse w' neg t s (.returned (.tuple #[.agg #[.bool false, .slice none 0 0], .int .i64 2])) :=
  ⟨false, none, 0, 0, 2, rfl, Lib.hid (.inr ⟨h, rfl, rfl, rfl, rfl, rfl⟩)⟩

def strLen : Value → Nat
  | .string b => b.size
  | _ => 0

set_option maxRecDepth 100000 in
set_option maxHeartbeats 1600000 in
theorem rParse_any (s : List UInt8) (neg : Bool) (t : List UInt8) (hs : s.length ≤ 1000000) (hn : Hid ((neg = true ∧ s = 45 :: t) ∨ (neg = false ∧ s = t ∧ t.head? ≠ some 45))) (w : World) :
    Calls Tryd.prog 37 #[.string ⟨s.toArray⟩] w fun e w' => RParse w' neg t s e ∧ Below w.heap.size w w' := by
  go_enter Tryd.func37, Tryd.ntmps37
  have B := Box.new w (.bool false) (.slice none 0 0) 25
  have hbx := below_alloc w (.cells #[.bool false, .slice none 0 0] 25)
  go_upto_region 2 with fail
  generalize w.alloc (.cells #[.bool false, .slice none 0 0] 25) = wx at *
  have hsz : s.length ≤ 1000001 := by omega
  go_cut [5] (fun s5 wc => s5 = .bool neg ∧ wx = wc)
  case first =>
    rcases hn.out with ⟨h1, h2⟩ | ⟨h1, h2, h3⟩
    · subst h1 h2
      have hi0 : (((⟨(45 :: t).toArray⟩ : ByteArray)[0]'(by show 0 < (45 :: t).length; simp)).toNat : Int) == 45 := rfl
      go_wp2_with fail
      go_meet
      exact ⟨rfl, rfl⟩
    · subst h1 h2
      cases s with
      | nil =>
        go_wp2_with fail
        go_meet
        exact ⟨rfl, rfl⟩
      | cons c r =>
        have hi0 : ((((⟨(c :: r).toArray⟩ : ByteArray)[0]'(by show 0 < (c :: r).length; simp)).toNat : Int) == 45) = false := by
          show ((c.toNat : Int) == 45) = false
          rw [beq_eq_false_iff_ne]
          intro h'
          apply h3
          simp only [List.head?_cons, Option.some.injEq]
          exact UInt8.toNat_inj.1 (show c.toNat = 45 by omega)
        go_wp2_with fail
        go_meet
        exact ⟨rfl, rfl⟩
  case rest =>
    obtain ⟨rfl, rfl⟩ := hcut
    go_upto_if 21 with fail
    go_cut [4] (fun s4 wc => s4 = .string ⟨t.toArray⟩ ∧ wx = wc)
    case first =>
      rcases hn.out with ⟨h1, h2⟩ | ⟨h1, h2, h3⟩
      · subst h1 h2
        have hx : (⟨(45 :: t).toArray⟩ : ByteArray).extract 1 (t.length + 1) = ⟨t.toArray⟩ := by
          apply ByteArray.ext
          apply Array.ext'
          rw [Lib.extract_data]
          simp
        go_wp2_with fail
        go_meet
        exact ⟨rfl, rfl⟩
      · subst h1 h2
        go_wp2_with fail
        go_meet
        exact ⟨rfl, rfl⟩
    case rest =>
      obtain ⟨rfl, rfl⟩ := hcut
      obtain ⟨p0, p1, q0, q1⟩ := id B
      by_cases ht : t = []
      · subst ht
        go_wp2
        refine bodyPost_ret (v := .tuple #[.agg #[.bool false, .slice none 0 0], .int .i64 2]) (by simp [results, Tryd.results37, go_sem, p0, p1]) rfl ⟨RParse.err (fun h => h.2.1 rfl), Below.put2 hbx (Nat.le_refl _) _ _⟩
      have htl : 1 ≤ t.length := by
        have := List.length_pos_iff.2 ht
        omega
      by_cases h300 : (300 : Int) < (t.length : Int)
      · have hz : ((t.length : Int) == 0) = false := by rw [beq_eq_false_iff_ne]; omega
        go_wp2
        refine bodyPost_ret (v := .tuple #[.agg #[.bool false, .slice none 0 0], .int .i64 2]) (by simp [results, Tryd.results37, go_sem, p0, p1]) rfl ⟨RParse.err (fun h => by have := h.2.2.1; omega), Below.put2 hbx (Nat.le_refl _) _ _⟩
      have hz : ((t.length : Int) == 0) = false := by rw [beq_eq_false_iff_ne]; omega
      have h30 : decide ((300 : Int) < (t.length : Int)) = false := by simpa using h300
      have ht3 : t.length ≤ 300 := by omega
      have HT0 := Lib.hid ht
      clear h300 ht
      go_wp2_with fail
      clear hz h30 p0 p1 q0 q1
      go_loopw [4, 6, 7, 8, 9] (fun s4 s6 _ _ _ wr => ∃ (l : List Nat) (e : Nat), l.length + e ≤ t.length ∧ s4 = .string ⟨(t.take e).toArray⟩ ∧ OwnU wr wx.heap.size s6 l ∧ Hid (Bi.Ok l) ∧
        Hid (Bi.val l + 1000000000 ^ l.length * Bi.decVal (t.take e) = Bi.decVal t) ∧ Hid (∀ b ∈ t.drop e, Bi.isDig b) ∧ Below wx.heap.size wx wr) (fun s4 _ _ _ _ _ => strLen s4)
      case atStart => exact ⟨[], t.length, by simp, by rw [List.take_length], OwnU.nil _ _, Lib.hid Bi.Ok.nil, Lib.hid (by rw [List.take_length]; simp [Bi.val]), Lib.hid (by simp), Below.refl _ _⟩
      case round =>
        obtain ⟨l, e, hle, rfl, hown, HO, HI, HD, hbr⟩ := hrel
        have hll : l.length ≤ 300 := by omega
        have hsl : (⟨(t.take e).toArray⟩ : ByteArray).size = e := by show (t.take e).length = e; simp; omega
        have HSL := Lib.hid hsl
        have hmin : min e t.length = e := by omega
        clear hsl
        by_cases he : e = 0
        · subst he
          have HDD : Hid (∀ b ∈ t, Bi.isDig b) := Lib.hid (by simpa using HD.out)
          have hv : Hid (Bi.val l = Bi.decVal t) := Lib.hid (by simpa [Bi.decVal] using HI.out)
          obtain ⟨ao, cap, rfl, hcap, hU⟩ := hown.read
          have Br := B.mono hbr
          have hbwr := Below.step hbx hbr (Nat.le_refl _)
          clear hown HI HD hle
          go_wp2_with fail
          (with_reducible refine (rmake_any neg l ao cap wr (by omega) hU HO).mono ?_)
          rintro e2 w2 ⟨⟨ng, ao3, n3, cap3, k3, rfl, HR⟩, hb2⟩
          have hR := HR.out
          rw [hv.out] at hR
          have hzs : (sgn neg (Bi.decVal t)).natAbs < Bi.Big := by rw [sgn_natAbs]; exact Bi.dec_big HDD.out ht3
          obtain ⟨rfl, hV⟩ := hR.fits hzs
          obtain ⟨z, hz⟩ : ∃ z, z = sgn neg (Bi.decVal t) := ⟨_, rfl⟩
          rw [← hz] at hV
          have HZ := Lib.hid hz
          have HV := Lib.hid hV
          have Br := Br.mono hb2
          have hbw2 := Below.step hbwr hb2 (Nat.le_refl _)
          clear hz hV hzs hR HR hb2 hbwr hcap hU
          go_upto_region 22 with fail
          have X3 := Box.new w2 (.bool ng) (.slice ao3 n3 cap3) 25
          have hb3 := below_alloc w2 (.cells #[.bool ng, .slice ao3 n3 cap3] 25)
          generalize w2.alloc (.cells #[.bool ng, .slice ao3 n3 cap3] 25) = w3 at *
          have Br := Br.mono hb3
          have HV := Lib.hid (HV.out.mono hb3)
          have hbw3 := Below.step hbw2 hb3 (Nat.le_refl _)
          clear hb3 hbw2
          obtain ⟨x0, x1, _, _⟩ := id X3
          go_wp2_with fail
          (with_reducible refine (rFormat_any (.agg #[.bool ng, .slice ao3 n3 cap3]) z w3 HV.out).mono ?_)
          rintro e4 w4 ⟨rfl, hb4⟩
          have Br := Br.mono hb4
          have X3 := X3.mono hb4
          have HV := Lib.hid (HV.out.mono hb4)
          have hbw4 := Below.step hbw3 hb4 (Nat.le_refl _)
          clear x0 x1 hb4 hbw3
          obtain ⟨x0, x1, _, _⟩ := id X3
          obtain ⟨p0, p1, q0, q1⟩ := id Br
          by_cases hq : Lib.itoa z = s
          · rw [hq]
            have HQ := Lib.hid hq
            clear hq
            go_wp2
            refine bodyPost_ret (v := .tuple #[.agg #[.bool ng, .slice ao3 n3 cap3], .int .i64 0]) (by simp [results, Tryd.results37, go_sem, p0, p1]) rfl ⟨⟨ng, ao3, n3, cap3, 0, rfl, Lib.hid (.inl ⟨HDD.out, HT0.out, ht3, by rw [← HZ.out]; exact HQ.out, ?_, rfl⟩)⟩, Below.put2 hbw4 (Nat.le_refl _) _ _⟩
            rw [← HZ.out]
            exact HV.out.put2 p0 p1 _ _
          · have HQ := Lib.hid hq
            have hb : (Lib.itoa z == s) = false := by rw [beq_eq_false_iff_ne]; exact hq
            clear hq
            go_wp2
            refine bodyPost_ret (v := .tuple #[.agg #[.bool false, .slice none 0 0], .int .i64 2]) (by simp [results, Tryd.results37, go_sem, p0, p1]) rfl ⟨RParse.err (fun h => HQ.out (by rw [HZ.out]; exact h.2.2.2)), Below.put2 hbw4 (Nat.le_refl _) _ _⟩
        · obtain ⟨a, ha⟩ : ∃ a : Nat, a = e - 9 := ⟨_, rfl⟩
          have hpos : (0 : Int) < (e : Int) := by omega
          have he3 : (e : Int) ≤ 300 := by omega
          have HA := Lib.hid ha
          go_upto_if 40 with fail
          go_cut [7] (fun s7 wc => s7 = .int .i64 a ∧ wr = wc)
          case first =>
            by_cases h9 : (e : Int) < 9
            · have : a = 0 := by omega
              subst this
              clear ha
              go_wp2_with fail
              go_meet
              exact ⟨rfl, rfl⟩
            · have h9' : (9 : Int) ≤ (e : Int) := by omega
              have hae : ((e : Int) - 9) = (a : Int) := by omega
              have HAE := Lib.hid hae
              clear h9 ha hae
              go_wp2_with fail
              go_meet
              exact ⟨by rw [← HAE.out], rfl⟩
          case rest =>
            obtain ⟨rfl, rfl⟩ := hcut
            have hae : a ≤ e := by omega
            have hea : e - a ≤ 9 := by omega
            have HEA := Lib.hid hea
            clear ha hea
            go_wp2_with fail
            go_loop [8, 9] (fun s8 s9 => ∃ i X : Nat, a ≤ i ∧ i ≤ e ∧ s9 = .int .i64 i ∧ s8 = .int .u32 X ∧ Hid (X = Bi.decVal ((t.drop a).take (i - a))) ∧ Hid (∀ b ∈ (t.drop a).take (i - a), Bi.isDig b)) (fun _ s9 => e - (intOf s9).toNat)
            case atStart => exact ⟨a, 0, Nat.le_refl _, hae, rfl, rfl, Lib.hid (by simp [Bi.decVal]), Lib.hid (by simp)⟩
            case round =>
              obtain ⟨i, X, hai, hie, rfl, rfl, HX, HXD⟩ := hrel
              by_cases hlt : i < e
              · have hlz : i < t.length := by omega
                obtain ⟨z, hz⟩ : ∃ z, z = t[i] := ⟨_, rfl⟩
                have hidx : ∀ h : i < (⟨(t.take e).toArray⟩ : ByteArray).size, (⟨(t.take e).toArray⟩ : ByteArray)[i]'h = z := by
                  intro h
                  rw [hz]
                  show ((t.take e).toArray)[i]'h = t[i]
                  simp
                have hgz : t[i]? = some z := by rw [hz]; exact List.getElem?_eq_getElem hlz
                have HGZ := Lib.hid hgz
                clear hz hgz
                have herr : ¬ Bi.isDig z → ∀ w' : World, RParse w' neg t s (.returned (.tuple #[.agg #[.bool false, .slice none 0 0], .int .i64 2])) := fun hnd w' =>
                  RParse.err (fun h => hnd (h.1 z (List.mem_of_getElem? HGZ.out)))
                have HERR := Lib.hid herr
                clear herr
                by_cases hd1 : (z.toNat : Int) < 48
                · have hnd : Hid (¬ Bi.isDig z) := Lib.hid (by unfold Bi.isDig; omega)
                  obtain ⟨p0, p1, q0, q1⟩ := B.mono hbr
                  go_wp2
                  refine bodyPost_ret (v := .tuple #[.agg #[.bool false, .slice none 0 0], .int .i64 2]) (by simp [results, Tryd.results37, go_sem, p0, p1]) rfl ⟨HERR.out hnd.out _, Below.put2 (Below.step hbx hbr (Nat.le_refl _)) (Nat.le_refl _) _ _⟩
                · by_cases hd2 : (57 : Int) < (z.toNat : Int)
                  · have hnd : Hid (¬ Bi.isDig z) := Lib.hid (by unfold Bi.isDig; omega)
                    have hb1 : decide ((z.toNat : Int) < 48) = false := by simpa using hd1
                    obtain ⟨p0, p1, q0, q1⟩ := B.mono hbr
                    clear hd1
                    go_wp2
                    refine bodyPost_ret (v := .tuple #[.agg #[.bool false, .slice none 0 0], .int .i64 2]) (by simp [results, Tryd.results37, go_sem, p0, p1]) rfl ⟨HERR.out hnd.out _, Below.put2 (Below.step hbx hbr (Nat.le_refl _)) (Nat.le_refl _) _ _⟩
                  · have hb1 : decide ((z.toNat : Int) < 48) = false := by simpa using hd1
                    have hb2 : decide ((57 : Int) < (z.toNat : Int)) = false := by simpa using hd2
                    have hz1 : (48 : Int) ≤ (z.toNat : Int) := by omega
                    have hz2 : (z.toNat : Int) ≤ 57 := by omega
                    clear hd1 hd2
                    go_wp2_with fail
                    have hsn := Bi.chunk_snoc HGZ.out hai
                    have hx8 := Bi.chunk_small HXD.out (by have := HEA.out; simp; omega)
                    rw [← HX.out] at hx8
                    refine ⟨⟨i + 1, 10 * X + (z.toNat - 48), by omega, by omega, by go_num, ?_, Lib.hid ?_, Lib.hid ?_⟩, ?_⟩
                    · congr 1; omega
                    · rw [hsn, Bi.val_snoc_dig, ← HX.out]
                    · rw [hsn]
                      intro b hb
                      rcases List.mem_append.1 hb with hb | hb
                      · exact HXD.out b hb
                      · simp at hb; subst hb; unfold Bi.isDig; omega
                    · simp [intOf]; omega
              · obtain rfl : i = e := by omega
                have hst := Bi.parse_step (t := t) (l := l) (e := i) (a := a) (V := Bi.decVal t) HA.out (by omega) (by omega) HI.out
                rw [← HX.out] at hst
                have HST := Lib.hid hst
                have HXS : Hid (Bi.Sm X) := Lib.hid (by rw [HX.out]; exact Bi.chunk_lt' HXD.out (by have := HEA.out; simp; omega))
                have hai2 : a ≤ i := hai
                have hex : (⟨(t.take i).toArray⟩ : ByteArray).extract 0 a = ⟨(t.take a).toArray⟩ := by
                  apply ByteArray.ext
                  apply Array.ext'
                  rw [Lib.extract_data]
                  show ((t.take i).drop 0).take (a - 0) = t.take a
                  rw [List.drop_zero, Nat.sub_zero, List.take_take, Nat.min_eq_left hai2]
                have HEX := Lib.hid hex
                clear hst hex HI
                go_wp2_with (at_builtin; refine app_u32 _ (X : Int) X rfl rfl _ _ rfl wx wx.heap.size _ l rfl hown hbr.size hbr rfl (by omega) ?_; intro v' w' hown' hb')
                refine ⟨⟨l ++ [X], a, by have := HA.out; simp; omega, by rw [HEX.out], hown', Lib.hid (HO.out.snoc HXS.out), HST, Lib.hid ?_, hb'⟩, ?_⟩
                · intro b hb
                  rw [← List.take_append_drop (i - a) (t.drop a)] at hb
                  rcases List.mem_append.1 hb with hb | hb
                  · exact HXD.out b hb
                  · rw [List.drop_drop, show a + (i - a) = i by omega] at hb
                    exact HD.out b hb
                · rw [HEX.out]
                  show (t.take a).length < (t.take i).length
                  have := HA.out
                  rw [List.length_take, List.length_take, Nat.min_eq_left (by omega), Nat.min_eq_left (by omega)]
                  omega

end Go.Proofs.YtijjagofingpdaaDoor
