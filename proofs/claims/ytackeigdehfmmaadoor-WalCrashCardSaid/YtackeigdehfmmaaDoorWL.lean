import Derived.Test.YtackeigdehfmmaaDoorWP
/-
  Logs on disks, plain.
-/
namespace Wl
open Go

/-- the sector of a record (m: the sectors for records) -/
def place (m k : Nat) : Nat := 2 + k % m

/-- what a header says: its number and the first number of the log -/
noncomputable def hdr (s : Bs) (i : Nat) : Option (Nat × Nat) :=
  match dec s with
  | some (n, r) => if n % 2 = i then (num r).map fun x => (n, x) else none
  | none => none

def hstep (st : Int × Nat) (o : Option (Nat × Nat)) : Int × Nat :=
  match o with
  | some (n, x) => if (n : Int) ≤ st.1 then st else ((n : Int), x)
  | none => st

/-- the header that counts among the first i sectors -/
noncomputable def hs (now : List Bs) : Nat → Int × Nat
  | 0 => (-1, 0)
  | i + 1 => hstep (hs now i) (hdr (now.getD i []) i)

/-- the records from number k on, f at most -/
noncomputable def recs (now : List Bs) (m : Nat) : Nat → Nat → List Bs
  | 0, _ => []
  | f + 1, k =>
    match dec (now.getD (place m k) []) with
    | some (n, r) => if n = k then r :: recs now m f (k + 1) else []
    | none => []

structure Log where
  header : Nat
  first : Nat
  recs : List Bs

/-- the log of the sectors -/
noncomputable def log (now : List Bs) : Option Log :=
  if (hs now 2).1 < 0 ∨ now.length < 4 then none else some ⟨(hs now 2).1.toNat, (hs now 2).2, recs now (now.length - 2) (now.length - 2) (hs now 2).2⟩

theorem recs_len (now : List Bs) (m : Nat) : ∀ (f k : Nat), (recs now m f k).length ≤ f
  | 0, _ => by simp [recs]
  | f + 1, k => by
    unfold recs
    split
    · split
      · simp; exact recs_len now m f (k + 1)
      · simp
    · simp

/-- one more record -/
theorem recs_more {now : List Bs} {m f k : Nat} {r : Bs} (h : dec (now.getD (place m k) []) = some (k, r)) : recs now m (f + 1) k = r :: recs now m f (k + 1) := by
  rw [recs, h]; simp
theorem recs_other {now : List Bs} {m f k n : Nat} {r : Bs} (h : dec (now.getD (place m k) []) = some (n, r)) (hn : n ≠ k) : recs now m (f + 1) k = [] := by
  rw [recs, h]; simp [hn]
theorem recs_stop {now : List Bs} {m f k : Nat} (h : dec (now.getD (place m k) []) = none) : recs now m (f + 1) k = [] := by
  rw [recs, h]

theorem num_le {t : Bs} {n : Nat} (h : num t = some n) : n ≤ lim := (num_some.1 h).1

theorem hdr_le {s : Bs} {i n x : Nat} (h : hdr s i = some (n, x)) : n ≤ lim ∧ x ≤ lim ∧ n % 2 = i := by
  unfold hdr at h
  split at h
  · rename_i n' r' hd
    split at h
    · obtain ⟨y, hy, e⟩ := Option.map_eq_some_iff.1 h
      simp only [Prod.mk.injEq] at e
      obtain ⟨rfl, rfl⟩ := e
      exact ⟨(dec_some.1 hd).n_le, num_le hy, ‹_›⟩
    · cases h
  · cases h

theorem hs_le (now : List Bs) : ∀ i, -1 ≤ (hs now i).1 ∧ (hs now i).1 ≤ lim ∧ (hs now i).2 ≤ lim
  | 0 => by simp [hs, lim]
  | i + 1 => by
    have ih := hs_le now i
    unfold hs hstep
    split
    · rename_i n x h
      have h1 := hdr_le h
      split
      · exact ih
      · exact ⟨by simp only; omega, by simp only; omega, by simp only; omega⟩
    · exact ih

theorem log_le {now : List Bs} {L : Log} (h : log now = some L) : L.header ≤ lim ∧ L.first ≤ lim ∧ L.recs.length ≤ now.length - 2 ∧ 4 ≤ now.length := by
  unfold log at h
  split at h
  · cases h
  · rename_i hc
    simp only [Option.some.injEq] at h
    subst h
    have := hs_le now 2
    exact ⟨by simp only; omega, by simp only; omega, recs_len _ _ _ _, by omega⟩

/-- a disk -/
structure Dk where
  now : List Bs
  old : List Bs
  dirty : List Bool

/-- a disk of S sectors -/
structure Dk.Ok (S : Nat) (d : Dk) : Prop where
  now : d.now.length = S
  old : d.old.length = S
  dirty : d.dirty.length = S
  small : ∀ s ∈ d.now, s.length ≤ 65536
  small' : ∀ s ∈ d.old, s.length ≤ 65536

/-- an empty disk -/
def Dk.new (S : Nat) : Dk := ⟨List.replicate S [], List.replicate S [], List.replicate S false⟩
/-- sector i is written -/
def Dk.wrt (d : Dk) (i : Nat) (s : Bs) : Dk := ⟨d.now.set i s, d.old, d.dirty.set i true⟩
/-- all is made durable -/
def Dk.syn (d : Dk) : Dk := ⟨d.now, d.now, List.replicate d.now.length false⟩

theorem mem_set_le {l : List Bs} {i : Nat} {s : Bs} {n : Nat} (h : ∀ x ∈ l, x.length ≤ n) (hs : s.length ≤ n) : ∀ x ∈ l.set i s, x.length ≤ n := by
  intro x hx
  rcases List.mem_or_eq_of_mem_set hx with h' | rfl
  · exact h x h'
  · exact hs

theorem Dk.Ok.new (S : Nat) : (Dk.new S).Ok S :=
  ⟨by simp [Dk.new], by simp [Dk.new], by simp [Dk.new], fun s h => by simp [Dk.new] at h; simp [h], fun s h => by simp [Dk.new] at h; simp [h]⟩
theorem Dk.Ok.wrt {S : Nat} {d : Dk} (h : d.Ok S) (i : Nat) {s : Bs} (hs : s.length ≤ 65536) : (d.wrt i s).Ok S :=
  ⟨by simp [Dk.wrt, h.now], h.old, by simp [Dk.wrt, h.dirty], mem_set_le h.small hs, h.small'⟩
theorem Dk.Ok.syn {S : Nat} {d : Dk} (h : d.Ok S) : d.syn.Ok S :=
  ⟨h.now, h.now, by simp [Dk.syn, h.now], h.small, h.small⟩

theorem getD_small {l : List Bs} {n : Nat} (h : ∀ x ∈ l, x.length ≤ n) (i : Nat) : (l.getD i []).length ≤ n := by
  rw [List.getD_eq_getElem?_getD]
  cases hg : l[i]? with
  | none => simp
  | some x => exact h x (List.mem_of_getElem? hg)

/-- the disk with sector i written, if it can be, and the error -/
def Dk.write (d : Dk) (i : Int) (s : Bs) : Dk × Nat :=
  if i < 0 ∨ (d.now.length : Int) ≤ i then (d, 7) else if 65536 < s.length then (d, 3) else (d.wrt i.toNat s, 0)

theorem Dk.Ok.write {S : Nat} {d : Dk} (h : d.Ok S) (i : Int) (s : Bs) : (d.write i s).1.Ok S := by
  unfold Dk.write
  split
  · exact h
  · split
    · exact h
    · exact h.wrt _ (by omega)

/-- the dirty sectors below i -/
def chg (dirty : List Bool) : Nat → List Nat
  | 0 => []
  | i + 1 => if dirty.getD i false then chg dirty i ++ [i] else chg dirty i

theorem chg_lt (dirty : List Bool) : ∀ (i k : Nat), k ∈ chg dirty i → k < i ∧ dirty.getD k false = true
  | 0, k, h => by simp [chg] at h
  | i + 1, k, h => by
    unfold chg at h
    split at h
    · rcases List.mem_append.1 h with h | h
      · have := chg_lt dirty i k h; exact ⟨by omega, this.2⟩
      · simp only [List.mem_singleton] at h; subst h; exact ⟨by omega, ‹_›⟩
    · have := chg_lt dirty i k h; exact ⟨by omega, this.2⟩

theorem chg_len (dirty : List Bool) : ∀ i, (chg dirty i).length ≤ i
  | 0 => by simp [chg]
  | i + 1 => by
    unfold chg
    have := chg_len dirty i
    split <;> simp <;> omega

theorem chg_nodup (dirty : List Bool) : ∀ i, (chg dirty i).Nodup
  | 0 => by simp [chg]
  | i + 1 => by
    unfold chg
    have ih := chg_nodup dirty i
    split
    · rw [List.nodup_append]
      refine ⟨ih, by simp, fun a ha b hb => ?_⟩
      simp only [List.mem_singleton] at hb
      have := (chg_lt dirty i a ha).1
      omega
    · exact ih

theorem chg_mem (dirty : List Bool) : ∀ (i k : Nat), k < i → dirty.getD k false = true → k ∈ chg dirty i
  | 0, k, h, _ => by omega
  | i + 1, k, h, hd => by
    unfold chg
    by_cases hk : k = i
    · subst hk; rw [if_pos hd]; simp
    · have := chg_mem dirty i k (by omega) hd
      split
      · simp [this]
      · exact this

/-- the dirty sectors -/
def Dk.changed (d : Dk) : List Nat := chg d.dirty d.dirty.length

/-- what a crash leaves of a dirty sector: by the bits of its place k -/
def bit (bits : List Nat) (k : Nat) : Nat := if k < bits.length then bits.getD k 0 % 4 else 0
def left (b : Nat) (old now : Bs) : Bs := if b = 0 then old else if b = 2 then now.take (now.length / 2) else if b = 3 then [] else now

/-- the sectors where the first k dirty ones have met the crash -/
def ap (d : Dk) (bits : List Nat) : Nat → List Bs
  | 0 => d.now
  | k + 1 => let i := d.changed.getD k 0; (ap d bits k).set i (left (bit bits k) (d.old.getD i []) (d.now.getD i []))

theorem ap_len (d : Dk) (bits : List Nat) : ∀ k, (ap d bits k).length = d.now.length
  | 0 => rfl
  | k + 1 => by simp [ap, ap_len d bits k]

/-- a sector that has not met the crash yet -/
theorem ap_other (d : Dk) (bits : List Nat) : ∀ (k j : Nat), (∀ i, i < k → d.changed.getD i 0 ≠ j) → (ap d bits k).getD j [] = d.now.getD j []
  | 0, _, _ => rfl
  | k + 1, j, h => by
    have ih := ap_other d bits k j (fun i hi => h i (by omega))
    simp only [ap]
    rw [List.getD_eq_getElem?_getD, List.getElem?_set_ne (h k (by omega)), ← List.getD_eq_getElem?_getD]
    exact ih

theorem getD_inj {l : List Nat} (h : l.Nodup) {i j : Nat} (hi : i < l.length) (hj : j < l.length) (e : l.getD i 0 = l.getD j 0) : i = j := by
  rw [List.getD_eq_getElem?_getD, List.getD_eq_getElem?_getD, List.getElem?_eq_getElem hi, List.getElem?_eq_getElem hj] at e
  exact (List.getElem_inj h).1 (by simpa using e)

theorem ap_next (d : Dk) (bits : List Nat) {k : Nat} (h : k < d.changed.length) : (ap d bits k).getD (d.changed.getD k 0) [] = d.now.getD (d.changed.getD k 0) [] :=
  ap_other d bits k _ fun i hi e => by
    have := getD_inj (chg_nodup _ _) (i := i) (j := k) (by unfold Dk.changed at h; omega) h e
    omega

/-- a sector that has met the crash -/
theorem ap_done (d : Dk) (bits : List Nat) : ∀ (k i : Nat), k ≤ d.changed.length → i < k → d.changed.getD i 0 < d.now.length →
    (ap d bits k).getD (d.changed.getD i 0) [] = left (bit bits i) (d.old.getD (d.changed.getD i 0) []) (d.now.getD (d.changed.getD i 0) [])
  | 0, i, _, h, _ => by omega
  | k + 1, i, hk, hi, hl => by
    simp only [ap]
    by_cases h : i = k
    · subst h
      rw [List.getD_eq_getElem?_getD, List.getElem?_set_self (by rw [ap_len]; exact hl)]
      rfl
    · have hne : d.changed.getD k 0 ≠ d.changed.getD i 0 := fun e => by
        have := getD_inj (chg_nodup _ _) (i := k) (j := i) (by unfold Dk.changed at hk; omega) (by unfold Dk.changed at hk; omega) e
        omega
      rw [List.getD_eq_getElem?_getD, List.getElem?_set_ne hne, ← List.getD_eq_getElem?_getD]
      exact ap_done d bits k i (by omega) (by omega) hl

theorem left_small {b n : Nat} {o s : Bs} (h : o.length ≤ n) (h2 : s.length ≤ n) : (left b o s).length ≤ n := by
  unfold left
  split
  · exact h
  · split
    · simp; omega
    · split
      · simp
      · exact h2

theorem ap_small {S : Nat} {d : Dk} (h : d.Ok S) (bits : List Nat) : ∀ k, ∀ s ∈ ap d bits k, s.length ≤ 65536
  | 0 => h.small
  | k + 1 => mem_set_le (ap_small h bits k) (left_small (getD_small h.small' _) (getD_small h.small _))

/-- the disk behind a crash -/
def Dk.crash (d : Dk) (bits : List Nat) : Dk := Dk.syn ⟨ap d bits d.changed.length, d.old, d.dirty⟩

theorem Dk.Ok.crash {S : Nat} {d : Dk} (h : d.Ok S) (bits : List Nat) : (d.crash bits).Ok S :=
  ⟨by simp [Dk.crash, Dk.syn, ap_len, h.now], by simp [Dk.crash, Dk.syn, ap_len, h.now], by simp [Dk.crash, Dk.syn, ap_len, h.now], ap_small h bits _, ap_small h bits _⟩

/-- the sectors where those below i have been emptied -/
def blank (now : List Bs) : Nat → List Bs
  | 0 => now
  | i + 1 => (blank now i).set i []

/-- a disk with an empty log -/
def Dk.fmt (d : Dk) : Dk × Nat :=
  if d.now.length < 4 then (d, 7) else
    let now := (List.replicate d.now.length ([] : Bs)).set 0 (enc 0 [48])
    (⟨now, now, List.replicate d.now.length false⟩, 0)

/-- append -/
noncomputable def Dk.app (d : Dk) (r : Bs) : Dk × Nat × Nat :=
  match log d.now with
  | none => (d, 0, 21)
  | some L =>
    if 65000 < r.length ∨ d.now.length - 2 ≤ L.recs.length ∨ lim < L.first + L.recs.length then (d, 0, 3)
    else (d.wrt (place (d.now.length - 2) (L.first + L.recs.length)) (enc ((L.first + L.recs.length : Nat) : Int) r), L.first + L.recs.length, 0)

/-- is sector j the place of one of n records from number b on? -/
def used (m b n j : Nat) : Bool := (List.range n).any fun t => place m (b + t) == j

theorem used_iff {m b n j : Nat} : used m b n j = true ↔ ∃ t, t < n ∧ place m (b + t) = j := by
  unfold used
  simp

/-- the sectors where those from 2 on and below i that hold no record are emptied -/
def swp (now : List Bs) (u : Nat → Bool) : Nat → List Bs
  | 0 => now
  | i + 1 => if 2 ≤ i ∧ u i = false then (swp now u i).set i [] else swp now u i

theorem swp_len (now : List Bs) (u : Nat → Bool) : ∀ i, (swp now u i).length = now.length
  | 0 => rfl
  | i + 1 => by unfold swp; split <;> simp [swp_len now u i]

theorem swp_above (now : List Bs) (u : Nat → Bool) : ∀ (i j : Nat), i ≤ j → (swp now u i).getD j [] = now.getD j []
  | 0, _, _ => rfl
  | i + 1, j, h => by
    unfold swp
    split
    · rw [List.getD_eq_getElem?_getD, List.getElem?_set_ne (by omega), ← List.getD_eq_getElem?_getD]
      exact swp_above now u i j (by omega)
    · exact swp_above now u i j (by omega)

theorem swp_keep (now : List Bs) (u : Nat → Bool) (j : Nat) (hu : j < 2 ∨ u j = true) : ∀ i, (swp now u i).getD j [] = now.getD j []
  | 0 => rfl
  | i + 1 => by
    unfold swp
    split
    · rename_i h
      have hne : i ≠ j := by
        rintro rfl
        rcases hu with hu | hu
        · omega
        · rw [hu] at h; exact absurd h.2 (by simp)
      rw [List.getD_eq_getElem?_getD, List.getElem?_set_ne hne, ← List.getD_eq_getElem?_getD]
      exact swp_keep now u j hu i
    · exact swp_keep now u j hu i

theorem swp_gone (now : List Bs) (u : Nat → Bool) (j : Nat) (h2 : 2 ≤ j) (hu : u j = false) : ∀ i, j < i → (swp now u i).getD j [] = []
  | 0, h => by omega
  | i + 1, h => by
    unfold swp
    by_cases hj : i = j
    · subst hj
      rw [if_pos ⟨h2, hu⟩, List.getD_eq_getElem?_getD]
      by_cases hl : i < now.length
      · rw [List.getElem?_set_self (by rw [swp_len]; exact hl)]; rfl
      · rw [List.getElem?_eq_none (by simp [swp_len]; omega)]; rfl
    · have ih := swp_gone now u j h2 hu i (by omega)
      split
      · rw [List.getD_eq_getElem?_getD, List.getElem?_set_ne hj, ← List.getD_eq_getElem?_getD]
        exact ih
      · exact ih

/-- a sector that is empty need not be written -/
theorem swp_same (now : List Bs) (u : Nat → Bool) {i : Nat} (hi : i < now.length) (h : now.getD i [] = []) : swp now u (i + 1) = swp now u i := by
  rw [swp]
  split
  · refine List.ext_getElem? fun j => ?_
    by_cases hj : i = j
    · subst hj
      have h1 := swp_above now u i i (Nat.le_refl _)
      rw [h, List.getD_eq_getElem?_getD] at h1
      have hl : i < (swp now u i).length := by rw [swp_len]; exact hi
      rw [List.getElem?_set_self hl, List.getElem?_eq_getElem hl] at *
      simp only [Option.getD_some] at h1
      rw [h1]
    · rw [List.getElem?_set_ne hj]
  · rfl

theorem swp_small {now : List Bs} (u : Nat → Bool) (h : ∀ s ∈ now, s.length ≤ 65536) : ∀ i, ∀ s ∈ swp now u i, s.length ≤ 65536
  | 0 => h
  | i + 1 => by
    unfold swp
    split
    · exact mem_set_le (swp_small u h i) (by simp)
    · exact swp_small u h i

/-- recover -/
noncomputable def Dk.rec' (d : Dk) : Dk × Option Log :=
  match log d.now with
  | none => (d, none)
  | some L => (Dk.syn ⟨swp d.now (used (d.now.length - 2) L.first L.recs.length) d.now.length, d.old, d.dirty⟩, some L)

/-- cut -/
noncomputable def Dk.cut (d : Dk) (x : Int) : Dk × Nat :=
  match log d.now with
  | none => (d, 21)
  | some L =>
    if x < L.first ∨ ((L.first + L.recs.length : Nat) : Int) < x then (d, 7)
    else ((d.wrt ((L.header + 1) % 2) (enc ((L.header + 1 : Nat) : Int) (txt x.toNat))).syn, 0)

theorem Dk.Ok.app {S : Nat} {d : Dk} (h : d.Ok S) (r : Bs) : (d.app r).1.Ok S := by
  unfold Dk.app
  split
  · exact h
  · split
    · exact h
    · exact h.wrt _ (by have := enc_len ((‹Log›.first + ‹Log›.recs.length : Nat) : Int) r; omega)

theorem Dk.Ok.rec' {S : Nat} {d : Dk} (h : d.Ok S) : d.rec'.1.Ok S := by
  unfold Dk.rec'
  split
  · exact h
  · exact ⟨by simp [Dk.syn, swp_len, h.now], by simp [Dk.syn, swp_len, h.now], by simp [Dk.syn, swp_len, h.now], swp_small _ h.small _, swp_small _ h.small _⟩

theorem Dk.Ok.cut {S : Nat} {d : Dk} (h : d.Ok S) (x : Int) : (d.cut x).1.Ok S := by
  unfold Dk.cut
  split
  · exact h
  · split
    · exact h
    · exact (h.wrt _ (by have := enc_len ((‹Log›.header + 1 : Nat) : Int) (txt x.toNat); omega)).syn

theorem Dk.Ok.fmt {S : Nat} {d : Dk} (h : d.Ok S) : d.fmt.1.Ok S := by
  unfold Dk.fmt
  split
  · exact h
  · have hl : ∀ s ∈ (List.replicate d.now.length ([] : Bs)).set 0 (enc 0 [48]), s.length ≤ 65536 :=
      mem_set_le (fun x hx => by simp at hx; simp [hx]) (by have := enc_len 0 [48]; omega)
    exact ⟨by simp [h.now], by simp [h.now], by simp [h.now], hl, hl⟩

end Wl
