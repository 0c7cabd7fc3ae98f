import Derived.Test.YtackeigdehfmmaaDoorWL
/-
  What recovering gives behind a crash, plain.
-/
namespace Wl
open Go

theorem place_lt {m k : Nat} (h : 0 < m) : 2 ≤ place m k ∧ place m k < m + 2 := by
  unfold place; have := Nat.mod_lt k h; omega

theorem place_inj {m a b : Nat} (h : place m a = place m b) (h1 : a ≤ b) (h2 : b < a + m) : a = b := by
  unfold place at h
  have h3 : b % m = a % m := by omega
  have h4 : (b - a) % m = 0 := by
    have e : b = a + (b - a) := by omega
    rw [e, Nat.add_mod] at h3
    have hm : 0 < m := by omega
    have ha := Nat.mod_lt a hm
    have hb := Nat.mod_lt (b - a) hm
    by_cases hs : a % m + (b - a) % m < m
    · rw [Nat.mod_eq_of_lt hs] at h3; omega
    · rw [Nat.mod_eq_sub_mod (by omega), Nat.mod_eq_of_lt (by omega)] at h3; omega
  rw [Nat.mod_eq_of_lt (by omega)] at h4
  omega

theorem log_of {now : List Bs} {h b : Nat} (h1 : hs now 2 = ((h : Int), b)) (h4 : 4 ≤ now.length) : log now = some ⟨h, b, recs now (now.length - 2) (now.length - 2) b⟩ := by
  unfold log
  rw [h1, if_neg (by simp; omega)]
  simp

theorem hs_congr {now now' : List Bs} (h0 : now'.getD 0 [] = now.getD 0 []) (h1 : now'.getD 1 [] = now.getD 1 []) : hs now' 2 = hs now 2 := by
  simp only [hs, h0, h1]

theorem log_some {now : List Bs} {L : Log} (h : log now = some L) : hs now 2 = ((L.header : Int), L.first) ∧ 4 ≤ now.length ∧ L.recs = recs now (now.length - 2) (now.length - 2) L.first := by
  unfold log at h
  split at h
  · cases h
  · rename_i hc
    simp only [Option.some.injEq] at h
    subst h
    refine ⟨Prod.ext (by simp only; omega) rfl, by omega, rfl⟩

theorem recs_swp (now : List Bs) (m b n : Nat) (hm : 0 < m) (hl : now.length = m + 2) : ∀ (f t : Nat), f + t = m → (recs now m f (b + t)).length + t = n →
    recs (swp now (used m b n) now.length) m f (b + t) = recs now m f (b + t)
  | 0, _, _, _ => rfl
  | f + 1, t, h1, h2 => by
    have hp := place_lt (k := b + t) hm
    have stop : recs now m (f + 1) (b + t) = [] → recs (swp now (used m b n) now.length) m (f + 1) (b + t) = recs now m (f + 1) (b + t) := by
      intro e
      rw [e] at h2 ⊢
      simp only [List.length_nil, Nat.zero_add] at h2
      subst h2
      refine recs_stop ?_
      rw [swp_gone now _ _ hp.1 ?_ _ (by omega)]
      · exact dec_nil
      · rw [Bool.eq_false_iff]
        intro hu
        obtain ⟨t', ht, e⟩ := used_iff.1 hu
        have := place_inj e (by omega) (by omega)
        omega
    cases hd : dec (now.getD (place m (b + t)) []) with
    | none => exact stop (recs_stop hd)
    | some p =>
      obtain ⟨k, r⟩ := p
      by_cases hk : k = b + t
      · subst hk
        have e1 := recs_more (f := f) hd
        rw [e1] at h2 ⊢
        simp only [List.length_cons] at h2
        have hu : used m b n (place m (b + t)) = true := used_iff.2 ⟨t, by omega, rfl⟩
        have hd' : dec ((swp now (used m b n) now.length).getD (place m (b + t)) []) = some (b + t, r) := by
          rw [swp_keep now _ _ (.inr hu)]; exact hd
        rw [recs_more hd']
        have := recs_swp now m b n hm hl f (t + 1) (by omega) (by rw [show b + (t + 1) = b + t + 1 from rfl]; omega)
        rw [← Nat.add_assoc] at this
        rw [this]
      · exact stop (recs_other hd hk)

theorem log_swp {now : List Bs} {L : Log} (h : log now = some L) : log (swp now (used (now.length - 2) L.first L.recs.length) now.length) = some L := by
  obtain ⟨h1, h2, h3⟩ := log_some h
  have e : hs (swp now (used (now.length - 2) L.first L.recs.length) now.length) 2 = hs now 2 := hs_congr (swp_keep _ _ _ (.inl (by omega)) _) (swp_keep _ _ _ (.inl (by omega)) _)
  rw [h1] at e
  rw [log_of e (by rw [swp_len]; exact h2), swp_len]
  have := recs_swp now (now.length - 2) L.first L.recs.length (by omega) (by omega) (now.length - 2) 0 (by omega) (by rw [h3]; rfl)
  simp only [Nat.add_zero] at this
  rw [this, ← h3]

theorem chg_clean : ∀ (n k : Nat), chg (List.replicate n false) k = []
  | _, 0 => rfl
  | n, k + 1 => by
    unfold chg
    rw [if_neg, chg_clean n k]
    rw [List.getD_eq_getElem?_getD, List.getElem?_replicate]
    split <;> simp

/-- behind a recovery: nothing is dirty, a crash changes nothing, and recovering gives the same -/
theorem again {d : Dk} {L : Log} (h : log d.now = some L) (bits : List Nat) : d.rec'.1.changed = [] ∧ (d.rec'.1.crash bits).now = d.rec'.1.now ∧ log (d.rec'.1.crash bits).now = some L := by
  have e : d.rec'.1 = Dk.syn ⟨swp d.now (used (d.now.length - 2) L.first L.recs.length) d.now.length, d.old, d.dirty⟩ := by
    unfold Dk.rec'; rw [h]
  have h1 : d.rec'.1.changed = [] := by rw [e]; exact chg_clean _ _
  have h2 : (d.rec'.1.crash bits).now = d.rec'.1.now := by
    unfold Dk.crash Dk.syn; rw [h1]; rfl
  refine ⟨h1, h2, ?_⟩
  rw [h2, e]
  exact log_swp h

/-- what the law of crashes keeps: the disk, all records that were appended, the first number, and how many were synced -/
structure St where
  d : Dk
  all : List Bs
  first : Nat
  synced : Nat

/-- c: how many operations there have been at most -/
structure CInv (S c : Nat) (s : St) : Prop where
  ok : s.d.Ok S
  S4 : 4 ≤ S
  head : ∃ h : Nat, hs s.d.now 2 = ((h : Int), s.first) ∧ h ≤ c
  clean : ∀ i, i < 2 → s.d.dirty.getD i false = false
  fs : s.first ≤ s.synced
  sa : s.synced ≤ s.all.length
  am : s.all.length ≤ s.first + (S - 2)
  ac : s.all.length ≤ c
  recAt : ∀ k, s.first ≤ k → k < s.all.length → s.d.now.getD (place (S - 2) k) [] = encB k (s.all.getD k [])
  sect : ∀ j, 2 ≤ j → j < S → s.d.now.getD j [] = [] ∨ ∃ k, k < s.all.length ∧ place (S - 2) k = j ∧ s.d.now.getD j [] = encB k (s.all.getD k [])
  old : ∀ j, 2 ≤ j → j < S → s.d.old.getD j [] = [] ∨ ∃ k, k < s.synced ∧ place (S - 2) k = j ∧ s.d.old.getD j [] = encB k (s.all.getD k [])
  safe : ∀ k, s.first ≤ k → k < s.synced → s.d.dirty.getD (place (S - 2) k) false = false
  small : ∀ x ∈ s.all, x.length ≤ 500

theorem getD_le {l : List Bs} {n : Nat} (h : ∀ x ∈ l, x.length ≤ n) (k : Nat) : (l.getD k []).length ≤ n := getD_small h k

theorem dec_encB {n : Nat} {r : Bs} (h : n ≤ lim) (h2 : r.length ≤ 65000) : dec (encB n r) = some (n, r) := by
  rw [← enc_of h h2]; exact dec_enc h h2

theorem CInv.recs {S c : Nat} {s : St} (h : CInv S c s) (hc : c ≤ 1000) : ∀ (f t : Nat), f + t = S - 2 → s.first + t ≤ s.all.length → Wl.recs s.d.now (S - 2) f (s.first + t) = s.all.drop (s.first + t)
  | 0, t, h1, h2 => by
    have := h.am
    rw [List.drop_eq_nil_of_le (by omega)]; rfl
  | f + 1, t, h1, h2 => by
    have hS := h.S4
    have hac := h.ac
    by_cases hlt : s.first + t < s.all.length
    · have hr := h.recAt _ (by omega) hlt
      have hsm := getD_le h.small (s.first + t)
      rw [recs_more (r := s.all.getD (s.first + t) []) (by rw [hr]; exact dec_encB (by unfold lim; omega) (by omega))]
      have ih := CInv.recs h hc f (t + 1) (by omega) (by omega)
      rw [← Nat.add_assoc] at ih
      rw [ih, List.getD_eq_getElem?_getD, List.getElem?_eq_getElem hlt, Option.getD_some, List.drop_eq_getElem_cons hlt]
    · rw [List.drop_eq_nil_of_le (by omega)]
      have hp := place_lt (m := S - 2) (k := s.first + t) (by omega)
      rcases h.sect _ hp.1 (by omega) with e | ⟨k, hk, _, e⟩
      · exact recs_stop (by rw [e]; exact dec_nil)
      · have hsm := getD_le h.small k
        exact recs_other (n := k) (r := s.all.getD k []) (by rw [e]; exact dec_encB (by unfold lim; omega) (by omega)) (by omega)

theorem CInv.log {S c : Nat} {s : St} (h : CInv S c s) (hc : c ≤ 1000) : ∃ hd : Nat, hd ≤ c ∧ hs s.d.now 2 = ((hd : Int), s.first) ∧ Wl.log s.d.now = some ⟨hd, s.first, s.all.drop s.first⟩ := by
  obtain ⟨hd, h1, h2⟩ := h.head
  refine ⟨hd, h2, h1, ?_⟩
  rw [log_of h1 (by rw [h.ok.now]; exact h.S4), h.ok.now]
  have := h.recs hc (S - 2) 0 (by omega) (by have := h.fs; have := h.sa; omega)
  simp only [Nat.add_zero] at this
  rw [this]

theorem getD_set_self {α : Type} {l : List α} {i : Nat} {x d : α} (h : i < l.length) : (l.set i x).getD i d = x := by
  rw [List.getD_eq_getElem?_getD, List.getElem?_set_self h]; rfl
theorem getD_set_ne {α : Type} {l : List α} {i j : Nat} {x d : α} (h : i ≠ j) : (l.set i x).getD j d = l.getD j d := by
  rw [List.getD_eq_getElem?_getD, List.getElem?_set_ne h, ← List.getD_eq_getElem?_getD]
theorem getD_append {α : Type} {l : List α} {x d : α} {i : Nat} (h : i < l.length) : (l ++ [x]).getD i d = l.getD i d := by
  rw [List.getD_eq_getElem?_getD, List.getElem?_append_left h, ← List.getD_eq_getElem?_getD]
theorem getD_last {α : Type} {l : List α} {x d : α} : (l ++ [x]).getD l.length d = x := by
  rw [List.getD_eq_getElem?_getD, List.getElem?_append_right (by omega)]; simp
theorem getD_false (n i : Nat) : (List.replicate n false).getD i false = false := by
  rw [List.getD_eq_getElem?_getD, List.getElem?_replicate]; split <;> rfl

theorem CInv.weak {S c : Nat} {s : St} (h : CInv S c s) : CInv S (c + 1) s := by
  obtain ⟨hd, h1, h2⟩ := h.head
  exact ⟨h.ok, h.S4, ⟨hd, h1, by omega⟩, h.clean, h.fs, h.sa, h.am, by have := h.ac; omega, h.recAt, h.sect, h.old, h.safe, h.small⟩

/-- syncing -/
theorem CInv.sync {S c : Nat} {s : St} (h : CInv S c s) : CInv S c ⟨s.d.syn, s.all, s.first, s.all.length⟩ :=
  ⟨h.ok.syn, h.S4, h.head, fun i _ => getD_false _ _, by have := h.fs; have := h.sa; simp only; omega, Nat.le_refl _, h.am, h.ac, h.recAt, h.sect, h.sect, fun k _ _ => getD_false _ _, h.small⟩

/-- appending -/
theorem CInv.app {S c : Nat} {s : St} (h : CInv S c s) (hc : c ≤ 1000) {r : Bs} (hr : r.length ≤ 500) :
    (s.d.app r = (s.d, 0, 3)) ∨ (∃ d', s.d.app r = (d', s.all.length, 0) ∧ CInv S (c + 1) ⟨d', s.all ++ [r], s.first, s.synced⟩) := by
  obtain ⟨hd, h1, h2, h3⟩ := h.log hc
  have hS := h.S4
  have hfs := h.fs
  have hsa := h.sa
  have hac := h.ac
  have hlen : (s.all.drop s.first).length = s.all.length - s.first := by simp
  have e : s.first + (s.all.drop s.first).length = s.all.length := by rw [hlen]; omega
  unfold Dk.app
  rw [h3]
  simp only
  split
  · exact .inl rfl
  · rename_i hcond
    rw [e, h.ok.now] at hcond
    rw [e, h.ok.now]
    refine .inr ⟨_, rfl, ?_⟩
    have hlt : s.all.length < s.first + (S - 2) := by rw [hlen] at hcond; omega
    have hp := place_lt (m := S - 2) (k := s.all.length) (by omega)
    have henc : enc ((s.all.length : Nat) : Int) r = encB s.all.length r := enc_of (by unfold lim; omega) (by omega)
    have hne : ∀ k, s.first ≤ k → k < s.all.length → place (S - 2) s.all.length ≠ place (S - 2) k := fun k h1 h2 e' => by
      have := place_inj e'.symm (by omega) (by omega); omega
    have hnl : s.d.now.length = S := h.ok.now
    refine ⟨h.ok.wrt _ (by have := enc_len ((s.all.length : Nat) : Int) r; omega), h.S4, ⟨hd, ?_, by omega⟩, ?_, h.fs, by simp; omega, by simp; omega, by simp; omega, ?_, ?_, ?_, ?_, ?_⟩
    · rw [← h2]
      refine hs_congr ?_ ?_
      · exact getD_set_ne (by omega)
      · exact getD_set_ne (by omega)
    · intro i hi
      show (s.d.dirty.set _ true).getD i false = false
      rw [getD_set_ne (by omega)]; exact h.clean i hi
    · intro k hk1 hk2
      show (s.d.now.set _ _).getD _ [] = _
      simp only [List.length_append, List.length_singleton] at hk2
      by_cases hk : k = s.all.length
      · subst hk
        rw [getD_set_self (by omega), getD_last, henc]
      · rw [getD_set_ne (hne k hk1 (by omega)), getD_append (by omega)]
        exact h.recAt k hk1 (by omega)
    · intro j hj1 hj2
      show (s.d.now.set _ _).getD _ [] = _ ∨ _
      by_cases hj : place (S - 2) s.all.length = j
      · refine .inr ⟨s.all.length, by simp, hj, ?_⟩
        show (s.d.now.set _ _).getD _ [] = _
        subst hj
        rw [getD_set_self (by omega), getD_last, henc]
      · rw [getD_set_ne hj]
        rcases h.sect j hj1 hj2 with e | ⟨k, hk, hp, e⟩
        · exact .inl e
        · refine .inr ⟨k, by simp; omega, hp, ?_⟩
          show (s.d.now.set _ _).getD _ [] = _
          rw [getD_set_ne hj, getD_append hk, e]
    · intro j hj1 hj2
      rcases h.old j hj1 hj2 with e | ⟨k, hk, hp, e⟩
      · exact .inl e
      · exact .inr ⟨k, hk, hp, by rw [getD_append (by omega)]; exact e⟩
    · intro k hk1 hk2
      show (s.d.dirty.set _ true).getD _ false = false
      rw [getD_set_ne (hne k hk1 (by simp only at hk2; omega))]
      exact h.safe k hk1 hk2
    · intro x hx
      rcases List.mem_append.1 hx with hx | hx
      · exact h.small x hx
      · simp only [List.mem_singleton] at hx; subst hx; exact hr

theorem hstep_ge (st : Int × Nat) (o : Option (Nat × Nat)) : st.1 ≤ (hstep st o).1 ∧ ∀ n x, o = some (n, x) → (n : Int) ≤ (hstep st o).1 := by
  unfold hstep
  cases o with
  | none => exact ⟨Int.le_refl _, fun _ _ h => by cases h⟩
  | some p =>
    obtain ⟨n, x⟩ := p
    simp only
    split
    · exact ⟨Int.le_refl _, fun n' x' h => by simp only [Option.some.injEq, Prod.mk.injEq] at h; omega⟩
    · exact ⟨by simp only; omega, fun n' x' h => by simp only [Option.some.injEq, Prod.mk.injEq] at h; simp only; omega⟩

theorem hdr_new {h x i : Nat} (hi : i = (h + 1) % 2) (h1 : h + 1 ≤ lim) (hx : x ≤ lim) : hdr (enc ((h + 1 : Nat) : Int) (txt x)) i = some (h + 1, x) := by
  unfold hdr
  have : (txt x).length ≤ 65000 := by have := txt_len hx; omega
  rw [dec_enc h1 this]
  simp only
  rw [if_pos hi.symm, num_some.2 ⟨hx, rfl⟩]
  rfl

/-- a new header counts -/
theorem hs_new {now : List Bs} {h b x : Nat} (hs2 : hs now 2 = ((h : Int), b)) (h1 : h + 1 ≤ lim) (hx : x ≤ lim) (hl : 2 ≤ now.length) :
    hs (now.set ((h + 1) % 2) (enc ((h + 1 : Nat) : Int) (txt x))) 2 = (((h + 1 : Nat) : Int), x) := by
  have hm : (h + 1) % 2 = 0 ∨ (h + 1) % 2 = 1 := by omega
  have g0 := hstep_ge (-1, 0) (hdr (now.getD 0 []) 0)
  have g1 := hstep_ge (hstep (-1, 0) (hdr (now.getD 0 []) 0)) (hdr (now.getD 1 []) 1)
  simp only [hs] at hs2 ⊢
  rw [hs2] at g1
  simp only at g1
  rcases hm with e | e
  · rw [e, getD_set_self (by omega), getD_set_ne (by omega), hdr_new e.symm h1 hx]
    have : hstep (-1, 0) (some (h + 1, x)) = (((h + 1 : Nat) : Int), x) := by
      unfold hstep; simp only; rw [if_neg (by omega)]
    rw [this]
    cases ho : hdr (now.getD 1 []) 1 with
    | none => rfl
    | some p =>
      obtain ⟨n, y⟩ := p
      have := g1.2 n y ho
      unfold hstep
      simp only
      rw [if_pos (by omega)]
  · rw [e, getD_set_ne (by omega), getD_set_self (by omega), hdr_new e.symm h1 hx]
    have g2 : (hstep (-1, 0) (hdr (now.getD 0 []) 0)).1 ≤ (h : Int) := g1.1
    generalize hstep (-1, 0) (hdr (now.getD 0 []) 0) = st at g2 ⊢
    unfold hstep
    simp only
    rw [if_neg (by omega)]

/-- cutting -/
theorem CInv.cut {S c : Nat} {s : St} (h : CInv S c s) (hc : c ≤ 1000) (x : Int) :
    (s.d.cut x = (s.d, 7)) ∨ (∃ d', s.d.cut x = (d', 0) ∧ 0 ≤ x ∧ CInv S (c + 1) ⟨d', s.all, x.toNat, s.all.length⟩) := by
  obtain ⟨hd, h1, h2, h3⟩ := h.log hc
  have hS := h.S4
  have hfs := h.fs
  have hsa := h.sa
  have hac := h.ac
  have ham := h.am
  have hlen : (s.all.drop s.first).length = s.all.length - s.first := by simp
  have e : s.first + (s.all.drop s.first).length = s.all.length := by rw [hlen]; omega
  unfold Dk.cut
  rw [h3]
  simp only
  split
  · exact .inl rfl
  · rename_i hcond
    rw [e] at hcond
    refine .inr ⟨_, rfl, by omega, ?_⟩
    have hnl : s.d.now.length = S := h.ok.now
    have hn := hs_new (x := x.toNat) h2 (by unfold lim; omega) (by unfold lim; omega) (by omega)
    have hne : ∀ j, 2 ≤ j → (hd + 1) % 2 ≠ j := fun j hj => by omega
    have hok : (s.d.wrt ((hd + 1) % 2) (enc ((hd + 1 : Nat) : Int) (txt x.toNat))).Ok S := h.ok.wrt _ (by have := enc_len ((hd + 1 : Nat) : Int) (txt x.toNat); omega)
    have hsect : ∀ j, 2 ≤ j → j < S → (s.d.now.set ((hd + 1) % 2) (enc ((hd + 1 : Nat) : Int) (txt x.toNat))).getD j [] = [] ∨ ∃ k, k < s.all.length ∧ place (S - 2) k = j ∧ (s.d.now.set ((hd + 1) % 2) (enc ((hd + 1 : Nat) : Int) (txt x.toNat))).getD j [] = encB k (s.all.getD k []) := by
      intro j h1 h2
      rw [getD_set_ne (hne j h1)]
      exact h.sect j h1 h2
    refine ⟨hok.syn, h.S4, ⟨hd + 1, hn, by omega⟩, fun i _ => getD_false _ _, by simp only; omega, Nat.le_refl _, by simp only; omega, by simp only; omega, ?_, hsect, hsect, fun k _ _ => getD_false _ _, h.small⟩
    intro k hk1 hk2
    have hp := place_lt (m := S - 2) (k := k) (by omega)
    show (s.d.now.set _ _).getD _ [] = _
    rw [getD_set_ne (hne _ hp.1)]
    exact h.recAt k (by simp only at hk1; omega) hk2

/-- what a crash leaves in a sector -/
theorem crash_sector (d : Dk) (bits : List Nat) (j : Nat) (hj : j < d.now.length) (hl : d.dirty.length = d.now.length) :
    (d.crash bits).now.getD j [] = d.now.getD j [] ∨ (d.dirty.getD j false = true ∧ ((d.crash bits).now.getD j [] = d.old.getD j [] ∨ (d.crash bits).now.getD j [] = (d.now.getD j []).take ((d.now.getD j []).length / 2) ∨ (d.crash bits).now.getD j [] = [])) := by
  show (ap d bits d.changed.length).getD j [] = _ ∨ _ ∧ ((ap d bits d.changed.length).getD j [] = _ ∨ (ap d bits d.changed.length).getD j [] = _ ∨ (ap d bits d.changed.length).getD j [] = _)
  by_cases hd : d.dirty.getD j false = true
  · have hm : j ∈ d.changed := chg_mem _ _ _ (by omega) hd
    obtain ⟨i, hi, e⟩ := List.getElem_of_mem hm
    have e' : d.changed.getD i 0 = j := by rw [List.getD_eq_getElem?_getD, List.getElem?_eq_getElem hi]; exact e
    have h1 := ap_done d bits d.changed.length i (Nat.le_refl _) hi (by rw [e']; exact hj)
    rw [e'] at h1
    rw [h1]
    unfold left
    split
    · exact .inr ⟨hd, .inl rfl⟩
    · split
      · exact .inr ⟨hd, .inr (.inl rfl)⟩
      · split
        · exact .inr ⟨hd, .inr (.inr rfl)⟩
        · exact .inl rfl
  · refine .inl (ap_other d bits _ j fun i hi e => hd ?_)
    have : d.changed.getD i 0 ∈ d.changed := by
      rw [List.getD_eq_getElem?_getD, List.getElem?_eq_getElem hi]; exact List.getElem_mem hi
    rw [e] at this
    exact (chg_lt _ _ _ this).2

theorem CInv.crash_recs {S c : Nat} {s : St} (h : CInv S c s) (hc : c ≤ 1000) (bits : List Nat) : ∀ (f t : Nat), f + t = S - 2 → s.first + t ≤ s.all.length →
    ∃ g, Wl.recs (s.d.crash bits).now (S - 2) f (s.first + t) = (s.all.drop (s.first + t)).take g ∧ s.first + t + g ≤ s.all.length ∧ s.synced ≤ s.first + t + g
  | 0, t, h1, h2 => ⟨0, rfl, h2, by have := h.am; have := h.sa; omega⟩
  | f + 1, t, h1, h2 => by
    have hS := h.S4
    have hac := h.ac
    have hsa := h.sa
    have hp := place_lt (m := S - 2) (k := s.first + t) (by omega)
    have hlim : ∀ k, k < s.all.length → dec (encB k (s.all.getD k [])) = some (k, s.all.getD k []) := fun k hk => dec_encB (by unfold lim; omega) (by have := getD_le h.small k; omega)
    have hcr := crash_sector s.d bits (place (S - 2) (s.first + t)) (by rw [h.ok.now]; omega) (by rw [h.ok.dirty, h.ok.now])
    have more : s.first + t < s.all.length → dec ((s.d.crash bits).now.getD (place (S - 2) (s.first + t)) []) = some (s.first + t, s.all.getD (s.first + t) []) →
        ∃ g, Wl.recs (s.d.crash bits).now (S - 2) (f + 1) (s.first + t) = (s.all.drop (s.first + t)).take g ∧ s.first + t + g ≤ s.all.length ∧ s.synced ≤ s.first + t + g := by
      intro hlt hd
      obtain ⟨g, h3, h4, h5⟩ := CInv.crash_recs h hc bits f (t + 1) (by omega) (by omega)
      refine ⟨g + 1, ?_, by omega, by omega⟩
      rw [recs_more hd]
      rw [← Nat.add_assoc] at h3
      rw [h3, List.drop_eq_getElem_cons hlt, List.take_succ_cons, List.getD_eq_getElem?_getD, List.getElem?_eq_getElem hlt, Option.getD_some]
    have stop : s.synced ≤ s.first + t → (dec ((s.d.crash bits).now.getD (place (S - 2) (s.first + t)) []) = none ∨ ∃ n r, n ≠ s.first + t ∧ dec ((s.d.crash bits).now.getD (place (S - 2) (s.first + t)) []) = some (n, r)) →
        ∃ g, Wl.recs (s.d.crash bits).now (S - 2) (f + 1) (s.first + t) = (s.all.drop (s.first + t)).take g ∧ s.first + t + g ≤ s.all.length ∧ s.synced ≤ s.first + t + g := by
      intro hs hd
      refine ⟨0, ?_, by omega, by omega⟩
      rcases hd with hd | ⟨n, r, hn, hd⟩
      · rw [recs_stop hd]; rfl
      · rw [recs_other hd hn]; rfl
    have oldc : s.synced ≤ s.first + t → (dec (s.d.old.getD (place (S - 2) (s.first + t)) []) = none ∨ ∃ n r, n ≠ s.first + t ∧ dec (s.d.old.getD (place (S - 2) (s.first + t)) []) = some (n, r)) := by
      intro hs
      rcases h.old _ hp.1 (by omega) with e | ⟨k, hk, _, e⟩
      · exact .inl (by rw [e]; exact dec_nil)
      · exact .inr ⟨k, _, by omega, by rw [e]; exact hlim k (by omega)⟩
    by_cases hlt : s.first + t < s.all.length
    · have hr := h.recAt _ (by omega) hlt
      by_cases hsy : s.first + t < s.synced
      · have hcl := h.safe _ (by omega) hsy
        rcases hcr with e | ⟨hd, _⟩
        · exact more hlt (by rw [e, hr]; exact hlim _ hlt)
        · rw [hcl] at hd; cases hd
      · rcases hcr with e | ⟨_, e | e | e⟩
        · exact more hlt (by rw [e, hr]; exact hlim _ hlt)
        · exact stop (by omega) (by rw [e]; exact oldc (by omega))
        · exact stop (by omega) (.inl (by rw [e, hr]; exact dec_half))
        · exact stop (by omega) (.inl (by rw [e]; exact dec_nil))
    · have nowc : dec (s.d.now.getD (place (S - 2) (s.first + t)) []) = none ∨ ∃ n r, n ≠ s.first + t ∧ dec (s.d.now.getD (place (S - 2) (s.first + t)) []) = some (n, r) := by
        rcases h.sect _ hp.1 (by omega) with e | ⟨k, hk, _, e⟩
        · exact .inl (by rw [e]; exact dec_nil)
        · exact .inr ⟨k, _, by omega, by rw [e]; exact hlim k hk⟩
      refine stop (by omega) ?_
      rcases hcr with e | ⟨_, e | e | e⟩
      · rw [e]; exact nowc
      · rw [e]; exact oldc (by omega)
      · refine .inl ?_
        rw [e]
        rcases h.sect _ hp.1 (by omega) with e' | ⟨k, hk, _, e'⟩
        · rw [e']; exact dec_nil
        · rw [e']; exact dec_half
      · exact .inl (by rw [e]; exact dec_nil)

/-- recovering behind a crash -/
theorem CInv.crash {S c : Nat} {s : St} (h : CInv S c s) (hc : c ≤ 1000) (bits : List Nat) :
    ∃ hd g, Wl.log (s.d.crash bits).now = some ⟨hd, s.first, (s.all.drop s.first).take g⟩ ∧ s.first + g ≤ s.all.length ∧ s.synced ≤ s.first + g := by
  obtain ⟨hd, h1, h2, _⟩ := h.log hc
  have hS := h.S4
  obtain ⟨g, h3, h4, h5⟩ := h.crash_recs hc bits (S - 2) 0 (by omega) (by have := h.fs; have := h.sa; omega)
  simp only [Nat.add_zero] at h3 h4 h5
  refine ⟨hd, g, ?_, h4, h5⟩
  have hcl : ∀ j, j < 2 → (s.d.crash bits).now.getD j [] = s.d.now.getD j [] := by
    intro j hj
    rcases crash_sector s.d bits j (by rw [h.ok.now]; omega) (by rw [h.ok.dirty, h.ok.now]) with e | ⟨hd, _⟩
    · exact e
    · rw [h.clean j hj] at hd; cases hd
  have e : hs (s.d.crash bits).now 2 = ((hd : Int), s.first) := by rw [hs_congr (hcl 0 (by omega)) (hcl 1 (by omega))]; exact h2
  have hl : (s.d.crash bits).now.length = S := (h.ok.crash bits).now
  rw [log_of e (by omega), hl, h3]

theorem CInv.start {S : Nat} (h : 4 ≤ S) (d : Dk) (hd : d.now.length = S) : CInv S 0 ⟨d.fmt.1, [], 0, 0⟩ ∧ d.fmt.2 = 0 := by
  have e : d.fmt = (⟨(List.replicate S ([] : Bs)).set 0 (enc 0 [48]), (List.replicate S ([] : Bs)).set 0 (enc 0 [48]), List.replicate S false⟩, 0) := by
    unfold Dk.fmt; rw [if_neg (by omega), hd]
  rw [e]
  have hx : ∀ j, 1 ≤ j → ((List.replicate S ([] : Bs)).set 0 (enc 0 [48])).getD j [] = [] := by
    intro j hj
    rw [getD_set_ne (by omega), List.getD_eq_getElem?_getD, List.getElem?_replicate]
    split <;> rfl
  have hsm : ∀ s ∈ (List.replicate S ([] : Bs)).set 0 (enc 0 [48]), s.length ≤ 65536 :=
    mem_set_le (fun x hx => by simp at hx; simp [hx]) (by have := enc_len 0 [48]; omega)
  refine ⟨⟨⟨by simp, by simp, by simp, hsm, hsm⟩, h, ⟨0, ?_, Nat.le_refl _⟩, fun i _ => getD_false _ _, Nat.le_refl _, Nat.le_refl _, by simp, Nat.le_refl _, fun k _ hk => by simp at hk, fun j hj _ => .inl (hx j (by omega)), fun j hj _ => .inl (hx j (by omega)), fun k _ hk => by simp at hk, fun x hx => by simp at hx⟩, rfl⟩
  have h0 : ((List.replicate S ([] : Bs)).set 0 (enc 0 [48])).getD 0 [] = enc 0 [48] := getD_set_self (by simp; omega)
  simp only [hs]
  rw [h0, hx 1 (by omega)]
  have e48 : txt 0 = [48] := by rw [txt_eq, Lib.decDigits_one (by decide)]; rfl
  have hh : hdr (enc 0 [48]) 0 = some (0, 0) := by
    unfold hdr
    have : dec (enc 0 [48]) = some (0, [48]) := dec_enc (n := 0) (by unfold lim; omega) (by simp)
    rw [this]
    simp only
    rw [if_pos (by decide), num_some.2 ⟨by unfold lim; omega, e48⟩]
    rfl
  rw [hh]
  unfold hdr
  rw [dec_nil]
  rfl

end Wl
