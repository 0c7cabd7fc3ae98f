import Derived.Test.YtijjagofingpdaaGreatDoorFmtR
namespace Bi
theorem parse_step {t : List UInt8} {l : List Nat} {e a V : Nat} (ha : a = e - 9) (he : e ≤ t.length) (_he0 : 0 < e) (hI : val l + 1000000000 ^ l.length * decVal (t.take e) = V) :
    val (l ++ [decVal ((t.drop a).take (e - a))]) + 1000000000 ^ (l ++ [decVal ((t.drop a).take (e - a))]).length * decVal (t.take a) = V := by
  have h1 : t.take e = t.take a ++ (t.drop a).take (e - a) := by
    have : e = a + (e - a) := by omega
    rw [this, List.take_add, Nat.add_sub_cancel_left]
  have hl : ((t.drop a).take (e - a)).length = e - a := by simp; omega
  rw [h1, decVal_append, hl] at hI
  rw [val_snoc, List.length_append, List.length_singleton, Nat.pow_succ]
  rw [← hI, Nat.mul_add]
  by_cases h9 : 9 ≤ e
  · have : e - a = 9 := by omega
    rw [this]
    have h2 : 1000000000 ^ l.length * (decVal (t.take a) * 10 ^ 9) = 1000000000 ^ l.length * 1000000000 * decVal (t.take a) := by
      rw [Nat.mul_comm (decVal _), ← Nat.mul_assoc]
    rw [h2]; omega
  · have : a = 0 := by omega
    subst this
    simp [decVal]

theorem chunk_dig {t : List UInt8} (h : ∀ b ∈ t, isDig b) (a n : Nat) : ∀ b ∈ (t.drop a).take n, isDig b :=
  fun b hb => h b (List.mem_of_mem_drop (List.mem_of_mem_take hb))

theorem chunk_lt {t : List UInt8} (h : ∀ b ∈ t, isDig b) {a n : Nat} (hn : n ≤ 9) : decVal ((t.drop a).take n) < 1000000000 := by
  have h1 := decVal_lt _ (chunk_dig h a n)
  have h2 : 10 ^ ((t.drop a).take n).length ≤ 10 ^ 9 := Nat.pow_le_pow_right (by omega) (by simp; omega)
  omega

theorem chunk_lt' {c : List UInt8} (h : ∀ b ∈ c, isDig b) (hn : c.length ≤ 9) : decVal c < 1000000000 := by
  have h1 := decVal_lt _ h
  have h2 : 10 ^ c.length ≤ 10 ^ 9 := Nat.pow_le_pow_right (by omega) hn
  omega

/-- less than the base (behind a name: the walk meets no great numeral) -/
def Sm (x : Nat) : Prop := x < 1000000000

theorem dec_big {t : List UInt8} (h : ∀ b ∈ t, isDig b) (hl : t.length ≤ 300) : decVal t < Big := by
  have h1 := decVal_lt t h
  obtain ⟨k, hk⟩ : ∃ k : Nat, k = 300 := ⟨_, rfl⟩
  have h2 : 10 ^ t.length ≤ 10 ^ k := Nat.pow_le_pow_right (by omega) (by omega)
  have h3 : ∀ a k : Nat, k = a + a → 10 ^ a * 10 ^ a = 10 ^ k := fun a k hk => by rw [hk, Nat.pow_add]
  exact Nat.lt_of_lt_of_le h1 (Nat.le_trans h2 (Nat.le_of_eq (h3 150 k (by omega)).symm))
end Bi
namespace Go.Proofs.YtijjagofingpdaaGreatDoor
open Go.RowKit

set_option maxRecDepth 100000 in
set_option maxHeartbeats 1600000 in
theorem Parse_ok (s : List UInt8) (neg : Bool) (t : List UInt8) (hn : Hid (neg = Lib.hasPrefix s [45])) (ht : Hid (t = Lib.trimPrefix s [45])) (w : World) (hgood : Hid (Bi.textP neg t)) (hE : Env w) :
    Calls Tryz.prog 9 #[.string ⟨s.toArray⟩] w fun e w' => ResZ w' (sgn neg (Bi.decVal t)) e ∧ Below w.heap.size w w' := by
  have hg := hgood.out
  unfold Bi.textP at hg
  obtain ⟨ht0, ht3, htd, htz⟩ := hg
  have HD := Lib.hid htd
  have HZ := Lib.hid htz
  clear htd htz
  go_enter Tryz.func9, Tryz.ntmps9
  go_wp2_with fail
  (with_reducible refine (Tryz.strings_CutPrefix _ _ _).mono ?_)
  rintro e w1 ⟨rfl, rfl⟩
  rw [← ht.out, ← hn.out]
  have he : t.isEmpty = false := by simpa using ht0
  have hb3 : decide ((300 : Int) < (t.length : Int)) = false := by simp; omega
  go_wp2_with fail
  have B := Box.new w (.bool false) (.slice none 0 0) 25
  have hbx := below_alloc w (.cells #[.bool false, .slice none 0 0] 25)
  have hE := hE.mono hbx
  generalize w.alloc (.cells #[.bool false, .slice none 0 0] 25) = wx at *
  (with_reducible refine (trim_digs_any t wx ?_).mono ?_)
  · omega
  rintro e w1 ⟨rfl, hb1⟩
  rw [(Bi.trim_digs t).2 HD.out]
  have B := B.mono hb1
  have hE := hE.mono hb1
  have hbw := Below.step hbx hb1 (Nat.le_refl _)
  obtain ⟨c, r, rfl⟩ : ∃ c r, t = c :: r := by
    cases t with
    | nil => simp at he
    | cons c r => exact ⟨c, r, rfl⟩
  have HN : Hid (c = 48 → r = [] ∧ neg = false) := Lib.hid (by
    rintro rfl
    have h := HZ.out
    simp only [List.head?_cons, List.length_cons, true_and, not_or] at h
    exact ⟨List.length_eq_zero_iff.1 (by omega), by cases neg; rfl; exact absurd rfl h.2⟩)
  clear hb1 hbx HZ hgood hn ht
  have hcc : (((c.toNat : Int) == 48) = true ∧ r = [] ∧ neg = false) ∨ ((c.toNat : Int) == 48) = false := by
    by_cases h : c = 48
    · obtain ⟨h1, h2⟩ := HN.out h
      exact .inl ⟨by rw [h]; rfl, h1, h2⟩
    · refine .inr ?_
      rw [beq_eq_false_iff_ne]
      intro h'
      exact h (UInt8.toNat_inj.1 (show c.toNat = 48 by omega))
  clear HN
  have hr3 : (r.length : Int) + 1 ≤ 300 := by simp at ht3; omega
  clear he ht0 ht3 hb3
  obtain ⟨t, ht⟩ : ∃ t, t = c :: r := ⟨_, rfl⟩
  have HDt : Hid (∀ b ∈ t, Bi.isDig b) := Lib.hid (by rw [ht]; exact HD.out)
  have HS : Hid (sgn neg (Bi.decVal (c :: r)) = sgn neg (Bi.decVal t)) := Lib.hid (by rw [ht])
  have htl : (t.length : Int) = (r.length : Int) + 1 := by rw [ht]; simp
  have HTL := Lib.hid htl
  have htb1 : 1 ≤ t.length := by omega
  have htb2 : t.length ≤ 300 := by omega
  have HT := Lib.hid ht
  clear ht htl HD
  have hz0 : 0 < (⟨(c :: r).toArray⟩ : ByteArray).size := by show 0 < (c :: r).length; simp
  have hi0 : (⟨(c :: r).toArray⟩ : ByteArray)[0] = c := rfl
  rw [← hi0] at hcc
  clear hi0
  rcases hcc with ⟨hc48, rfl, rfl⟩ | hc48
  all_goals
    obtain ⟨p0, p1, q0, q1⟩ := id B
    go_wp2_with fail
    clear p0 p1 q0 q1
    go_loopw [6, 7, 8, 9] (fun s6 s7 _ _ wr => ∃ l : List Nat, s7 = .int .i64 ((t.length : Int) - 9 * (l.length : Int)) ∧ -9 < (t.length : Int) - 9 * (l.length : Int) ∧ OwnU wr w1.heap.size s6 l ∧ Hid (Bi.Ok l) ∧
      Hid (Bi.val l + 1000000000 ^ l.length * Bi.decVal (t.take (t.length - 9 * l.length)) = Bi.decVal t) ∧ Below w1.heap.size w1 wr) (fun _ s7 _ _ _ => (intOf s7).toNat)
    case atStart =>
      refine ⟨[], ?_, by simp; omega, OwnU.nil _ _, Lib.hid Bi.Ok.nil, Lib.hid (by rw [List.take_of_length_le (by simp)]; simp [Bi.val]), Below.refl _ _⟩
      have := HTL.out
      simp at this ⊢
      omega
    case round =>
      obtain ⟨l, rfl, hl9, hown, HO, HI, hbr⟩ := hrel
      obtain ⟨e, he⟩ : ∃ e : Int, e = (t.length : Int) - 9 * (l.length : Int) := ⟨_, rfl⟩
      rw [← he] at hl9 ⊢
      have HE := Lib.hid he
      clear he
      by_cases hpos : 0 < e
      · obtain ⟨n, rfl⟩ : ∃ n : Nat, e = (n : Int) := ⟨e.toNat, by omega⟩
        have hn := HE.out
        have htc := HTL.out
        have hn1 := hn
        rw [htc] at hn1
        have hn2 : (n : Int) ≤ 300 := by omega
        have hll : l.length ≤ 100 := by omega
        obtain ⟨a, ha⟩ : ∃ a : Nat, a = n - 9 := ⟨_, rfl⟩
        have hmx : max (0 : Int) ((n : Int) - 9) = (a : Int) := by omega
        have han : (a : Int) ≤ (n : Int) := by omega
        have hnr : (n : Int) ≤ (t.length : Int) := by omega
        have hnn : t.length - 9 * l.length = n := by omega
        have HNN := Lib.hid hnn
        have HA := Lib.hid ha
        have HLE := Lib.hid hnr
        rw [htc] at hnr
        have hne : (t.drop a).take (n - a) ≠ [] := by
          intro h
          have := congrArg List.length h
          simp at this
          omega
        obtain ⟨D, hD⟩ : ∃ D : Nat, D = Bi.decVal ((t.drop a).take (n - a)) := ⟨_, rfl⟩
        have hD9 : Bi.Sm D := by rw [hD]; exact Bi.chunk_lt HDt.out (a := a) (n := n - a) (by omega)
        have HAT : Hid (Lib.atoi ((t.drop a).take (n - a)) = some (D : Int)) := Lib.hid (by rw [hD]; exact Bi.atoi_digs hne (Bi.chunk_dig HDt.out a (n - a)))
        have HST := Bi.parse_step (t := t) (l := l) (e := n) (a := a) (V := Bi.decVal t) ha (by omega) (by omega) (by rw [← hnn]; exact HI.out)
        rw [← hD] at HST
        have HST := Lib.hid HST
        clear hn htc hn1 hnn ha hD hne HI
        try simp only [List.length_nil, Int.cast_ofNat_Int, Int.zero_add] at hnr
        clear hl9 htb1 htb2 hll
        go_wp2_with fail
        (with_reducible refine (Tryz.strconv_Atoi _ (D : Int) ?_ ?_ wr).mono ?_)
        · rw [ByteArray.size_extract]; have := HA.out; omega
        · rw [Lib.extract_data]
          have h := HAT.out
          rw [HT.out] at h
          exact h
        rintro e w3 ⟨rfl, tt, rfl⟩
        have hb3 := Lib.bytesWorld_below wr 5 tt
        generalize Lib.bytesWorld wr 5 tt = w3 at *
        have hown3 := hown.kept hb3 (Nat.le_refl _)
        have hbr3 := hbr.trans (hb3.mono hbr.size)
        have hll : l.length ≤ 1000000000000 := by have := HE.out; have := HTL.out; omega
        have HLL := Lib.hid hll
        have hwD : IntKind.u32.wrap (D : Int) = (D : Int) := IntWalk.u32_in _ (by have := hD9; unfold Bi.Sm at this; omega)
        clear hown hb3 hbr hll hmx hnr
        go_wp2_with (at_builtin; refine app_u32 _ (D : Int) D rfl rfl _ _ rfl w1 w1.heap.size _ l rfl hown3 hbr3.size hbr3 rfl HLL.out ?_; intro v' w' hown' hb')
        go_roundw
        case rel =>
          have h9 : t.length - 9 * (l ++ [D]).length = a := by have := HE.out; have := HA.out; simp; omega
          refine ⟨l ++ [D], ?_, ?_, hown', Lib.hid (HO.out.snoc hD9), Lib.hid (by rw [h9]; exact HST.out), hb'⟩
          · have := HE.out; simp; omega
          · have := HE.out; simp; omega
        case measure => simp [intOf]; omega
      · have hv : Hid (Bi.val l = Bi.decVal t) := Lib.hid (by
          have h := HI.out
          have hz : t.length - 9 * l.length = 0 := by have := HE.out; omega
          rw [hz] at h
          simpa [Bi.decVal] using h)
        obtain ⟨ao, cap, rfl, hcap, hU⟩ := hown.read
        have hll : l.length ≤ 1000 := by have := HE.out; have := HTL.out; omega
        have hEr := hE.mono hbr
        have Br := B.mono hbr
        have hbwr := Below.step hbw hbr (Nat.le_refl _)
        clear hown HI HE hl9
        go_wp2_with fail
        (with_reducible refine (result_any _ l ao cap _ (by omega) hcap hU HO hEr).mono ?_)
        rintro e2 w2 ⟨⟨ng, ao3, n3, cap3, k3, rfl, HR⟩, hb2⟩
        obtain ⟨p0, p1, q0, q1⟩ := Br.mono hb2
        go_wp2
        refine bodyPost_ret (v := .tuple #[.agg #[.bool ng, .slice ao3 n3 cap3], .int .i64 k3]) (by simp [results, Tryz.results9, go_sem, p0, p1]) rfl ⟨⟨ng, ao3, n3, cap3, k3, rfl, Lib.hid ?_⟩, ?_⟩
        · have := HR.out.put2 p0 p1 (.bool ng) (.slice ao3 n3 cap3)
          rw [hv.out] at this
          rw [HS.out]
          exact this
        · exact Below.put2 (Below.step hbwr hb2 (Nat.le_refl _)) (Nat.le_refl _) _ _

end Go.Proofs.YtijjagofingpdaaGreatDoor
